/- Joined of: Law3, Rda, Gen47. -/
import Derived.Test.YtlcmllfacolkaaaGreatDoorPartD
import Derived.SizedLaws
import Derived.ChangeArms
import Derived.OpenShut
/- What an input weighs: strings in an array are no longer than memory. -/
namespace Go.Proofs.YtlcmllfacolkaaaGreatDoor
open Go.ChangeShapes Go.WideShapes Go.ChangeAt Go.RowKit

theorem weightsAll_mem {H : Type} {P : Program} {e : TypeId} : ∀ {l : List (DataW H)} {d : DataW H}, d ∈ l → ∀ n ∈ d.weights P e, n ∈ DataW.weightsAll P e l
  | c :: l, d, hd, n, hn => by
    simp only [DataW.weightsAll, List.mem_append]
    rcases List.mem_cons.1 hd with rfl | hd
    · exact .inl hn
    · exact .inr (weightsAll_mem hd n hn)
  | [], _, hd, _, _ => by cases hd
/-- the strings of an array -/
theorem strs_reach {H : Type} {enc : TypeId × Value → H} {P : Program} {W : World} {base : Nat} {sp : Nat → Bool} {held : Bool} {t e n : Nat} {cs : Array Value} {d : DataW H} {p : List MemPlace}
    (ht : P.underlying t = some (.array n e)) (he : P.underlying e = some .string) (hc : P.cellsOf e = 1) (h : DataW.Trod enc P W base sp held t (.agg cs) d p) (hs : ∀ k ∈ d.weights P t, k ≤ reachBytes) (i : Nat) (X : List UInt8) (hi : i < n)
    (hX : cs[i]? = some (.string ⟨X.toArray⟩)) : X.length ≤ 140737488351232 := by
  obtain ⟨fuel, h⟩ := h
  obtain ⟨xs, m, rfl, hx, hlen, hxs, hall⟩ := DataW.trod_array ht h
  have hi' := hall i hi
  rw [hc, Nat.mul_one] at hi'
  have e1 : ((Value.agg cs).cells.toList.drop i).take 1 = [.string ⟨X.toArray⟩] := by
    show (cs.toList.drop i).take 1 = _
    have hlt := (Array.getElem?_eq_some_iff.1 hX).1
    have h2 : cs.toList[i]? = some (.string ⟨X.toArray⟩) := by rw [Array.getElem?_toList]; exact hX
    rw [List.drop_eq_getElem_cons (by simpa using hlt), List.take_succ_cons, List.take_zero]
    rw [List.getElem?_eq_getElem (by simpa using hlt)] at h2
    exact congrArg (fun v => [v]) (Option.some.inj h2)
  rw [e1] at hi'
  obtain ⟨y, hy⟩ : ∃ y, xs[i]? = some y := ⟨_, List.getElem?_eq_getElem (by omega)⟩
  rw [hy] at hi'
  obtain ⟨s, hs1, hs2, _⟩ := DataW.trod_string he hi'
  simp only [List.cons.injEq, Value.string.injEq, and_true] at hs1
  subst hs1
  simp only [Prod.mk.injEq] at hx
  have hmem : y.1 ∈ xs.map (·.1) := List.mem_map.2 ⟨y, List.mem_of_getElem? hy, rfl⟩
  have hw : X.length ∈ d.weights P t := by
    rw [hx.1]
    simp only [DataW.weights, ht]
    refine weightsAll_mem hmem _ ?_
    rw [hs2]
    simp [DataW.weights]
  exact hs _ hw
end Go.Proofs.YtlcmllfacolkaaaGreatDoor
/- What rational.read meets at any text: the library's functions, integer.Parse at texts out of their form. -/
namespace Go.Proofs.YtlcmllfacolkaaaGreatDoor
open Go.RowKit

theorem trimS_nil {l cs : List UInt8} : Lib.trimS l cs = [] ↔ ∀ c ∈ l, cs.contains c = true := by
  constructor
  · intro h c hc
    rcases Bool.eq_false_or_eq_true (cs.contains c) with e | e
    · exact e
    · exact absurd h (trimS_some hc e)
  · exact trimS_all
theorem digit_iff {c : UInt8} : [48, 49, 50, 51, 52, 53, 54, 55, 56, 57].contains c = true ↔ 48 ≤ c.toNat ∧ c.toNat ≤ 57 := by
  constructor
  · intro h
    simp only [List.contains_cons, List.contains_nil, Bool.or_eq_true, beq_iff_eq, Bool.or_false] at h
    rcases h with rfl | rfl | rfl | rfl | rfl | rfl | rfl | rfl | rfl | rfl <;> decide
  · exact digit_in
/-- some bytes, all of them digits -/
theorem allD_trim (l : List UInt8) : allD l = ((l != ([] : List UInt8)) && (Lib.trimS l [48, 49, 50, 51, 52, 53, 54, 55, 56, 57] == ([] : List UInt8))) := by
  rw [Bool.eq_iff_iff]
  simp only [allD, Bool.and_eq_true, decide_eq_true_eq, List.all_eq_true, bne_iff_ne, beq_iff_eq, trimS_nil, digit_iff, isD_iff]
  rw [← List.length_pos_iff]
theorem zeros_trim (l : List UInt8) : zerosL l = (Lib.trimS l [48] == ([] : List UInt8)) := by
  rw [Bool.eq_iff_iff]
  simp [zerosL, trimS_nil]
theorem trim_any (l : List UInt8) (hl : l.length ≤ 1000000) (w : World) :
    Calls Tryz.prog 120 #[.string ⟨l.toArray⟩, .string ⟨#[48, 49, 50, 51, 52, 53, 54, 55, 56, 57]⟩] w fun e w' => e = .returned (.string ⟨(Lib.trimS l [48, 49, 50, 51, 52, 53, 54, 55, 56, 57]).toArray⟩) ∧ Gr w w' := by
  refine (Any.strings_Trim_laid Tryz.lays160 (by kernel_rfl) ⟨l.toArray⟩ ⟨#[48, 49, 50, 51, 52, 53, 54, 55, 56, 57]⟩ w (by show l.toArray.size ≤ _; simp; omega) (by decide) (ascii_of_all (by decide))).mono ?_
  rintro e w1 ⟨he, g⟩
  exact ⟨he, g⟩
theorem trim_any0 (l : List UInt8) (hl : l.length ≤ 1000000) (w : World) :
    Calls Tryz.prog 120 #[.string ⟨l.toArray⟩, .string ⟨#[48]⟩] w fun e w' => e = .returned (.string ⟨(Lib.trimS l [48]).toArray⟩) ∧ Gr w w' := by
  refine (Any.strings_Trim_laid Tryz.lays160 (by kernel_rfl) ⟨l.toArray⟩ ⟨#[48]⟩ w (by show l.toArray.size ≤ _; simp; omega) (by decide) (ascii_of_all (by decide))).mono ?_
  rintro e w1 ⟨he, g⟩
  exact ⟨he, g⟩
theorem trimprefix_any (l : List UInt8) (w : World) : Calls Tryz.prog 119 #[.string ⟨l.toArray⟩, .string ⟨#[45]⟩] w fun e w' => e = .returned (.string ⟨(strip l).toArray⟩) ∧ Gr w w' := by
  refine (Tryz.strings_TrimPrefix _ _ _).mono ?_
  rintro e w1 ⟨he, rfl⟩
  refine ⟨?_, Gr.refl _⟩
  rw [he]
  show Ending.returned (.string ⟨(Lib.trimPrefix l [45]).toArray⟩) = _
  have : Lib.trimPrefix l [45] = strip l := by
    cases l with
    | nil => rfl
    | cons c l =>
      rw [strip_cons]
      by_cases hc : c = 45
      · subst hc; simp [Lib.trimPrefix, Lib.hasPrefix]
      · have : ¬ (45 : UInt8) = c := fun e => hc e.symm
        simp [Lib.trimPrefix, Lib.hasPrefix, List.isPrefixOf, hc, this]
  rw [this]
theorem cut_any (l : List UInt8) (hl : l.length ≤ 1000000) {w : World} (hm : Mx w) :
    Calls Tryz.prog 117 #[.string ⟨l.toArray⟩, .string ⟨#[47]⟩] w fun e w' => e = .returned (.tuple #[.string ⟨(numL l).toArray⟩, .string ⟨((cutL l).2.getD []).toArray⟩, .bool (cutL l).2.isSome]) ∧ Gr w w' := by
  obtain ⟨m, hm⟩ := hm
  refine (Tryz.strings_Cut ⟨l.toArray⟩ ⟨#[47]⟩ m w (by show l.toArray.size < _; simp; omega) hm).mono ?_
  rintro e w1 ⟨he, n, rfl⟩
  refine ⟨?_, (Below.refl _ _).drewN _⟩
  rw [he]
  have e1 : (⟨l.toArray⟩ : ByteArray).data.toList = l := by simp
  rw [e1, show (⟨#[47]⟩ : ByteArray).data.toList = [47] from rfl, cut_slash]
theorem cut_no (l : List UInt8) (hl : l.length ≤ 1000000) (hc : cutL l = (l, none)) {w : World} (hm : Mx w) :
    Calls Tryz.prog 117 #[.string ⟨l.toArray⟩, .string ⟨#[47]⟩] w fun e w' => e = .returned (.tuple #[.string ⟨l.toArray⟩, .string ⟨([] : List UInt8).toArray⟩, .bool false]) ∧ Gr w w' := by
  refine (cut_any l hl hm).mono ?_
  rintro e w1 ⟨he, g⟩
  exact ⟨by rw [he, numL, hc]; rfl, g⟩
theorem cut_yes (X A D : List UInt8) (hl : X.length ≤ 1000000) (hc : cutL X = (A, some D)) {w : World} (hm : Mx w) :
    Calls Tryz.prog 117 #[.string ⟨X.toArray⟩, .string ⟨#[47]⟩] w fun e w' => e = .returned (.tuple #[.string ⟨A.toArray⟩, .string ⟨D.toArray⟩, .bool true]) ∧ Gr w w' := by
  refine (cut_any X hl hm).mono ?_
  rintro e w1 ⟨he, g⟩
  exact ⟨by rw [he, numL, hc]; rfl, g⟩
theorem strip_len (l : List UInt8) : (strip l).length ≤ l.length := by
  rcases strip_cases l with e | ⟨e, _⟩
  · have := congrArg List.length e; simp at this; omega
  · have := congrArg List.length e; omega
theorem strip_dig {l : List UInt8} (h : allD l = true) : allD (strip l) = true := by
  cases l with
  | nil => exact h
  | cons c l =>
    rw [strip_cons]
    by_cases hc : c = 45
    · have := (allD_all h).2 c (by simp)
      subst hc
      simp at this
    · rw [if_neg hc]; exact h
theorem badZ_head {l : List UInt8} (h : allD l = true) (h2 : zerosL l = false) (h3 : (l[0]? == some 48) = true) : badZ l = true := by
  cases l with
  | nil => cases h3
  | cons c l =>
    have hc : c = 48 := by simpa using h3
    subst hc
    cases l with
    | nil => simp [zerosL] at h2
    | cons d l => simp [badZ, strip_cons]
set_option maxHeartbeats 1000000 in
theorem parse_bad (l : List UInt8) (hl : l.length ≤ 60000) (h1 : allD (strip l) = true) (h2 : badZ l = true) (w : World) :
    Calls Tryz.prog 121 #[.string ⟨l.toArray⟩] w fun e w' => e = .returned (.tuple #[.agg #[.bool false, .slice none 0 0], .int .i64 3]) ∧ Gr w w' := by
  have hs1 := allD_all h1
  obtain ⟨s, hs⟩ : ∃ s : ByteArray, s = ⟨l.toArray⟩ := ⟨_, rfl⟩
  have hss : s.size = l.length := by rw [hs]; show l.toArray.size = _; simp
  obtain ⟨D, hD⟩ : ∃ D : ByteArray, D = ⟨(strip l).toArray⟩ := ⟨_, rfl⟩
  have hDl : D.data.toList = strip l := by rw [hD]
  have hDs : D.size = (strip l).length := by rw [hD]; show (strip l).toArray.size = _; simp
  have hD0 : 0 < D.size := by rw [hDs]; exact List.length_pos_iff.2 hs1.1
  have hslen := strip_len l
  have hc : ∀ w, Calls Tryz.prog 148 #[.string s, .string ⟨#[45]⟩] w fun e w' => e = .returned (.tuple #[.string D, .bool (decide ((strip l).length < l.length))]) ∧ w = w' := by
    intro w
    rw [hs, hD]
    refine (Tryz.strings_CutPrefix _ _ _).mono ?_
    rintro e w1 ⟨he, rfl⟩
    refine ⟨?_, rfl⟩
    rw [he]
    show Ending.returned (.tuple #[.string ⟨(Lib.trimPrefix l [45]).toArray⟩, .bool (Lib.hasPrefix l [45])]) = _
    cases l with
    | nil => rfl
    | cons c l =>
      rw [strip_cons]
      by_cases hc : c = 45
      · subst hc; simp [Lib.trimPrefix, Lib.hasPrefix]
      · have : ¬ (45 : UInt8) = c := fun e => hc e.symm
        simp [Lib.trimPrefix, Lib.hasPrefix, List.isPrefixOf, hc, this]
  have hcn := contains_no D (by rw [hDl]; exact hs1.2)
  have hne : (D.toList == []) = false := by
    rw [beq_eq_false_iff_ne, ByteArray.toList_eq, hDl]; exact hs1.1
  have hz0 : (D[0].toNat : Int) = 48 ∧ (1 < D.size ∨ (strip l).length < l.length) := by
    unfold badZ at h2
    simp only [Bool.and_eq_true, Bool.or_eq_true, decide_eq_true_eq] at h2
    have hh := head48 hD0
    rw [hDl, h2.1] at hh
    have hh := (beq_iff_eq.1 hh.symm)
    refine ⟨hh, ?_⟩
    rw [hDs]
    omega
  have h48' : ((D[0].toNat : Int) == 48) = true := by rw [hz0.1]; rfl
  have hor := hz0.2
  have hD1 : D.size ≤ 60000 := by omega
  have hss2 : s.size ≤ 60000 := by omega
  rw [← hs]
  have HD := Lib.hid hDl
  clear hz0 hDl hDs hD hs hss h2 hs1 h1 hslen
  go_enter Tryz.func121, Tryz.ntmps121
  go_wp2_with fail
  (with_reducible refine (hc _).mono ?_)
  rintro e w1 ⟨rfl, rfl⟩
  clear hc
  go_wp2_with fail
  (with_reducible refine (hcn _).mono ?_)
  rintro e w2 ⟨rfl, g2⟩
  clear hcn
  have p3 := Gr.heap g2 (heap_alloc_new w (.cells #[.bool false, .slice none 0 0] 28))
  have d0 := cells_of p3 0
  have d1 := cells_of p3 1
  have d2 := free_of p3
  have gw : Gr w w2 := (Gr.alloc w _).trans g2
  by_cases hD2 : (1 : Int) < (D.size : Int)
  · go_wp2
    have p4 := heap_setCell_at (i := 1) (.slice none 0 0) (heap_setCell_at (i := 0) (.bool false) p3)
    have hst := (St.setCell w2 w.heap.size 0 (.bool false)).trans (St.setCell _ w.heap.size 1 (.slice none 0 0))
    exact bodyPost_ret (v := .tuple #[.agg #[.bool false, .slice none 0 0], .int .i64 3]) (ret_cell_tmp' _ _ _ rfl rfl p4 (by kernel_rfl) rfl) rfl ⟨rfl, hst.gr gw (Nat.le_refl _)⟩
  · have hlt : (strip l).length < l.length := by
      rcases hor with h | h
      · omega
      · exact h
    go_wp2
    have p4 := heap_setCell_at (i := 1) (.slice none 0 0) (heap_setCell_at (i := 0) (.bool false) p3)
    have hst := (St.setCell w2 w.heap.size 0 (.bool false)).trans (St.setCell _ w.heap.size 1 (.slice none 0 0))
    exact bodyPost_ret (v := .tuple #[.agg #[.bool false, .slice none 0 0], .int .i64 3]) (ret_cell_tmp' _ _ _ rfl rfl p4 (by kernel_rfl) rfl) rfl ⟨rfl, hst.gr gw (Nat.le_refl _)⟩
end Go.Proofs.YtlcmllfacolkaaaGreatDoor
/- Printed by a program of the prover's: rational.read at any text. -/
namespace Go.Proofs.YtlcmllfacolkaaaGreatDoor
open Go.RowKit

set_option maxRecDepth 100000 in
set_option maxHeartbeats 1000000 in
theorem rdigits_a (l : List UInt8) (_hl : l.length ≤ 1000000) (w : World) :
    Calls Tryz.prog 118 #[(.string ⟨(l : List UInt8).toArray⟩)] w fun e w' => e = .returned (.bool (allD l)) ∧ Gr w w' := by
 go_enter Tryz.func118, Tryz.ntmps118
 have hB := Gr.refl w
 refine wp_seq_k (fun K1 k1 => ?_)
 refine rg [0] ?_
 refine sv 2 (.bool false) ?_
 simp only [p3, p4]
 refine sq_nil ?_
 refine k1 _ _ ?_
 try clear k1 K1
 refine wp_seq_k (fun K2 k2 => ?_)
 refine rg [0, 1, 2, 3, 4, 5, 6, 7] ?_
 refine sv 3 (.string ⟨(l : List UInt8).toArray⟩) ?_
 simp only [p3, p4]
 refine sw 4 (.bool (((l) != ([] : List UInt8)))) rfl (rv_sne 9 9 _ _ (l) ([]) rfl rfl rfl) ?_
 simp only [p3, p4]
 rcases Bool.eq_false_or_eq_true (((l) != ([] : List UInt8))) with hb3 | hb3
 ·refine sw 5 (.bool true) rfl (RunV.bool (x := ((l) != ([] : List UInt8))) (rvk (by kernel_rfl)) hb3) ?_
  simp only [p3, p4]
  refine sv 6 (.string ⟨(l : List UInt8).toArray⟩) ?_
  simp only [p3, p4]
  refine se ?_
  refine ec 7 (trim_any (l) (by omega) _) ?_
  rintro e4 w4 ⟨rfl, g4⟩
  refine ⟨_, rfl, ?_⟩
  replace hB := hB.trans g4
  simp only [p3, p4]
  refine sw 8 (.bool (((Lib.trimS (l) [48, 49, 50, 51, 52, 53, 54, 55, 56, 57]) == ([] : List UInt8)))) rfl (rv_seq 9 9 _ _ (Lib.trimS (l) [48, 49, 50, 51, 52, 53, 54, 55, 56, 57]) ([]) rfl rfl rfl) ?_
  simp only [p3, p4]
  refine sv 9 (.bool (((Lib.trimS (l) [48, 49, 50, 51, 52, 53, 54, 55, 56, 57]) == ([] : List UInt8)))) ?_
  simp only [p3, p4]
  refine sv 2 (.bool (((Lib.trimS (l) [48, 49, 50, 51, 52, 53, 54, 55, 56, 57]) == ([] : List UInt8)))) ?_
  simp only [p3, p4]
  refine sq_nil ?_
  refine k2 _ _ ?_
  try clear k2 K2
  refine wp_ret ?_
  refine bodyPost_ret (v := (.bool (((Lib.trimS (l) [48, 49, 50, 51, 52, 53, 54, 55, 56, 57]) == ([] : List UInt8))))) (ret_tmp rfl rfl) rfl ⟨?_, hB⟩
  exact (by rw [allD_trim, hb3]; rfl)
 ·refine sw 5 (.bool false) rfl (RunV.bool (x := ((l) != ([] : List UInt8))) (rvk (by kernel_rfl)) hb3) ?_
  simp only [p3, p4]
  refine ss 6 ?_
  simp only [p3, p4]
  refine ss 7 ?_
  simp only [p3, p4]
  refine ss 8 ?_
  simp only [p3, p4]
  refine sv 9 (.bool false) ?_
  simp only [p3, p4]
  refine sv 2 (.bool false) ?_
  simp only [p3, p4]
  refine sq_nil ?_
  refine k2 _ _ ?_
  try clear k2 K2
  refine wp_ret ?_
  refine bodyPost_ret (v := (.bool false)) (ret_tmp rfl rfl) rfl ⟨?_, hB⟩
  exact (by rw [allD_trim, hb3]; rfl)

set_option maxRecDepth 100000 in
set_option maxHeartbeats 1000000 in
theorem read_long (X : List UInt8) (most : Int) (_hx : X.length ≤ 1000000) (_hlong : most < (X.length : Int)) (w : World) (hm : Mx w) :
    Calls Tryz.prog 94 #[(.string ⟨(X : List UInt8).toArray⟩), (.int .i64 (most))] w fun e w' => e = .returned (.tuple #[.agg #[.bool false, .slice none 0 0, .bool false, .slice none 0 0], .int .i64 5]) ∧ Gr w w' := by
 have hl : decide (most < ((X).length : Int)) = true := by simp; omega
 go_enter Tryz.func94, Tryz.ntmps94
 have hB := Gr.refl w
 refine wp_seq_k (fun K1 k1 => ?_)
 refine rg [0, 1] ?_
 refine se ?_
 refine ea 30 #[(.bool false), (.slice none 0 0), (.bool false), (.slice none 0 0)] 4 hB fun b2 w2 g2 L2 o2 q2 hB => ?_
 simp only [p3, p4]
 refine sv 5 (.int .i64 0) ?_
 simp only [p3, p4]
 refine sq_nil ?_
 refine k1 _ _ ?_
 try clear k1 K1
 refine wp_seq_k (fun K3 k3 => ?_)
 refine rg [0, 1] ?_
 refine sv 13 (.string ⟨(X : List UInt8).toArray⟩) ?_
 simp only [p3, p4]
 refine sv 6 (.string ⟨(X : List UInt8).toArray⟩) ?_
 simp only [p3, p4]
 refine sq_nil ?_
 refine k3 _ _ ?_
 try clear k3 K3
 refine wp_seq_k (fun K4 k4 => ?_)
 refine rg [0, 1, 2, 3, 4, 5, 6, 7, 8] ?_
 refine sv 15 (.string ⟨(X : List UInt8).toArray⟩) ?_
 simp only [p3, p4]
 refine se ?_
 refine ec 16 (cut_any (X) (by omega) (hm.gr hB)) ?_
 rintro e5 w5 ⟨rfl, g5⟩
 refine ⟨_, rfl, ?_⟩
 replace hB := hB.trans g5
 simp only [p3, p4]
 refine sv 14 (.tuple #[(.string ⟨(numL (X) : List UInt8).toArray⟩), (.string ⟨((cutL (X)).2.getD [] : List UInt8).toArray⟩), (.bool ((cutL (X)).2.isSome))]) ?_
 simp only [p3, p4]
 refine sv 17 (.string ⟨(numL (X) : List UInt8).toArray⟩) ?_
 simp only [p3, p4]
 refine sv 18 (.string ⟨((cutL (X)).2.getD [] : List UInt8).toArray⟩) ?_
 simp only [p3, p4]
 refine sv 19 (.bool ((cutL (X)).2.isSome)) ?_
 simp only [p3, p4]
 refine sv 7 (.string ⟨(numL (X) : List UInt8).toArray⟩) ?_
 simp only [p3, p4]
 refine sv 8 (.string ⟨((cutL (X)).2.getD [] : List UInt8).toArray⟩) ?_
 simp only [p3, p4]
 refine sv 9 (.bool ((cutL (X)).2.isSome)) ?_
 simp only [p3, p4]
 refine sq_nil ?_
 refine k4 _ _ ?_
 try clear k4 K4
 refine wp_seq_k (fun K6 k6 => ?_)
 refine wp_block ?_
 refine wp_seq_k (fun K7 k7 => ?_)
 refine rg [0, 1, 2, 3, 4] ?_
 refine sv 21 (.string ⟨(X : List UInt8).toArray⟩) ?_
 simp only [p3, p4]
 refine sv 22 (.int .i64 (((X).length : Int))) ?_
 simp only [p3, p4]
 refine sv 23 (.int .i64 (most)) ?_
 simp only [p3, p4]
 refine sw 24 (.bool true) rfl (RunV.bool (x := decide (most < ((X).length : Int))) (rvk (by kernel_rfl)) hl) ?_
 simp only [p3, p4]
 refine sv 20 (.bool true) ?_
 simp only [p3, p4]
 refine sq_nil ?_
 refine k7 _ _ ?_
 try clear k7 K7
 refine wp_cond_true rfl ?_
 refine wp_seq_k (fun K8 k8 => ?_)
 refine rg [0, 1, 2] ?_
 refine sv 25 (.agg #[(.bool false), (.slice none 0 0), (.bool false), (.slice none 0 0)]) ?_
 simp only [p3, p4]
 refine se ?_
 replace L2 := L2.gr g5
 refine es 30 0 (.agg #[(.bool false), (.slice none 0 0), (.bool false), (.slice none 0 0)]) [(.bool false), (.slice none 0 0), (.bool false), (.slice none 0 0)] #[(.bool false), (.slice none 0 0), (.bool false), (.slice none 0 0)] L2 hB q2 ⟨rfl, rfl, rfl, rfl, trivial⟩ fun w9 st9 kp9 L2 hB => ?_
 refine sv 5 (.int .i64 5) ?_
 simp only [p3, p4]
 refine sq_nil ?_
 refine k8 _ _ ?_
 try clear k8 K8
 refine wp_ret ?_
 simp only [Exit.then, Exit.inBlock]
 refine bodyPost_ret (v := (.tuple #[(.agg #[(.bool false), (.slice none 0 0), (.bool false), (.slice none 0 0)]), (.int .i64 5)])) (ret_cell_tmp' _ _ _ rfl rfl L2 (by kernel_rfl) rfl) rfl ⟨?_, hB⟩
 exact rfl

set_option maxRecDepth 100000 in
set_option maxHeartbeats 1000000 in
theorem read_ns (X : List UInt8) (most : Int) (_hx : X.length ≤ 14000) (_hlong : (X.length : Int) ≤ most) (hc : cutL X = (X, none)) (h1 : allD (strip X) = false) (w : World) (hm : Mx w) :
    Calls Tryz.prog 94 #[(.string ⟨(X : List UInt8).toArray⟩), (.int .i64 (most))] w fun e w' => e = .returned (.tuple #[.agg #[.bool false, .slice none 0 0, .bool false, .slice none 0 0], .int .i64 14]) ∧ Gr w w' := by
 have hl : decide (most < ((X).length : Int)) = false := by simp; omega
 have hsX : (strip (X)).length ≤ (X).length := strip_len _
 go_enter Tryz.func94, Tryz.ntmps94
 have hB := Gr.refl w
 refine wp_seq_k (fun K1 k1 => ?_)
 refine rg [0, 1] ?_
 refine se ?_
 refine ea 30 #[(.bool false), (.slice none 0 0), (.bool false), (.slice none 0 0)] 4 hB fun b2 w2 g2 L2 o2 q2 hB => ?_
 simp only [p3, p4]
 refine sv 5 (.int .i64 0) ?_
 simp only [p3, p4]
 refine sq_nil ?_
 refine k1 _ _ ?_
 try clear k1 K1
 refine wp_seq_k (fun K3 k3 => ?_)
 refine rg [0, 1] ?_
 refine sv 13 (.string ⟨(X : List UInt8).toArray⟩) ?_
 simp only [p3, p4]
 refine sv 6 (.string ⟨(X : List UInt8).toArray⟩) ?_
 simp only [p3, p4]
 refine sq_nil ?_
 refine k3 _ _ ?_
 try clear k3 K3
 refine wp_seq_k (fun K4 k4 => ?_)
 refine rg [0, 1, 2, 3, 4, 5, 6, 7, 8] ?_
 refine sv 15 (.string ⟨(X : List UInt8).toArray⟩) ?_
 simp only [p3, p4]
 refine se ?_
 refine ec 16 (cut_no (X) (by omega) hc (hm.gr hB)) ?_
 rintro e5 w5 ⟨rfl, g5⟩
 refine ⟨_, rfl, ?_⟩
 replace hB := hB.trans g5
 simp only [p3, p4]
 refine sv 14 (.tuple #[(.string ⟨(X : List UInt8).toArray⟩), (.string ⟨([] : List UInt8).toArray⟩), (.bool false)]) ?_
 simp only [p3, p4]
 refine sv 17 (.string ⟨(X : List UInt8).toArray⟩) ?_
 simp only [p3, p4]
 refine sv 18 (.string ⟨([] : List UInt8).toArray⟩) ?_
 simp only [p3, p4]
 refine sv 19 (.bool false) ?_
 simp only [p3, p4]
 refine sv 7 (.string ⟨(X : List UInt8).toArray⟩) ?_
 simp only [p3, p4]
 refine sv 8 (.string ⟨([] : List UInt8).toArray⟩) ?_
 simp only [p3, p4]
 refine sv 9 (.bool false) ?_
 simp only [p3, p4]
 refine sq_nil ?_
 refine k4 _ _ ?_
 try clear k4 K4
 refine wp_seq_k (fun K6 k6 => ?_)
 refine wp_block ?_
 refine wp_seq_k (fun K7 k7 => ?_)
 refine rg [0, 1, 2, 3, 4] ?_
 refine sv 21 (.string ⟨(X : List UInt8).toArray⟩) ?_
 simp only [p3, p4]
 refine sv 22 (.int .i64 (((X).length : Int))) ?_
 simp only [p3, p4]
 refine sv 23 (.int .i64 (most)) ?_
 simp only [p3, p4]
 refine sw 24 (.bool false) rfl (RunV.bool (x := decide (most < ((X).length : Int))) (rvk (by kernel_rfl)) hl) ?_
 simp only [p3, p4]
 refine sv 20 (.bool false) ?_
 simp only [p3, p4]
 refine sq_nil ?_
 refine k7 _ _ ?_
 try clear k7 K7
 refine wp_cond_false rfl ?_
 refine wp_seq_k (fun K8 k8 => ?_)
 refine rg [0, 1, 2, 3, 4, 5, 6, 7, 8, 9, 10, 11, 12] ?_
 refine sv 27 (.string ⟨(X : List UInt8).toArray⟩) ?_
 simp only [p3, p4]
 refine se ?_
 refine ec 28 (trimprefix_any (X) _) ?_
 rintro e9 w9 ⟨rfl, g9⟩
 refine ⟨_, rfl, ?_⟩
 replace hB := hB.trans g9
 simp only [p3, p4]
 refine se ?_
 refine ec 29 (rdigits_a (strip (X)) (by omega) _) ?_
 rintro e10 w10 ⟨rfl, g10⟩
 refine ⟨_, rfl, ?_⟩
 replace hB := hB.trans g10
 simp only [p3, p4]
 refine sw 30 (.bool true) rfl (RunV.bool (x := !(allD (strip (X)))) (rvk (by kernel_rfl)) (show (!(allD (strip (X)))) = true by rw [h1]; rfl)) ?_
 simp only [p3, p4]
 refine sv 31 (.bool true) ?_
 simp only [p3, p4]
 refine ss 32 ?_
 simp only [p3, p4]
 refine ss 33 ?_
 simp only [p3, p4]
 refine ss 34 ?_
 simp only [p3, p4]
 refine ss 35 ?_
 simp only [p3, p4]
 refine ss 36 ?_
 simp only [p3, p4]
 refine ss 37 ?_
 simp only [p3, p4]
 refine sv 38 (.bool true) ?_
 simp only [p3, p4]
 refine sv 26 (.bool true) ?_
 simp only [p3, p4]
 refine sq_nil ?_
 refine k8 _ _ ?_
 try clear k8 K8
 refine wp_cond_true rfl ?_
 refine wp_seq_k (fun K11 k11 => ?_)
 refine rg [0, 1, 2] ?_
 refine sv 39 (.agg #[(.bool false), (.slice none 0 0), (.bool false), (.slice none 0 0)]) ?_
 simp only [p3, p4]
 refine se ?_
 replace L2 := L2.gr (g5.trans (g9.trans g10))
 refine es 30 0 (.agg #[(.bool false), (.slice none 0 0), (.bool false), (.slice none 0 0)]) [(.bool false), (.slice none 0 0), (.bool false), (.slice none 0 0)] #[(.bool false), (.slice none 0 0), (.bool false), (.slice none 0 0)] L2 hB q2 ⟨rfl, rfl, rfl, rfl, trivial⟩ fun w12 st12 kp12 L2 hB => ?_
 refine sv 5 (.int .i64 14) ?_
 simp only [p3, p4]
 refine sq_nil ?_
 refine k11 _ _ ?_
 try clear k11 K11
 refine wp_ret ?_
 simp only [Exit.then, Exit.inBlock]
 refine bodyPost_ret (v := (.tuple #[(.agg #[(.bool false), (.slice none 0 0), (.bool false), (.slice none 0 0)]), (.int .i64 14)])) (ret_cell_tmp' _ _ _ rfl rfl L2 (by kernel_rfl) rfl) rfl ⟨?_, hB⟩
 exact rfl

set_option maxRecDepth 100000 in
set_option maxHeartbeats 1000000 in
theorem read_nf (X : List UInt8) (most : Int) (_hx : X.length ≤ 14000) (_hlong : (X.length : Int) ≤ most) (hc : cutL X = (X, none)) (h1 : allD (strip X) = true) (h2 : badZ X = true) (w : World) (hm : Mx w) :
    Calls Tryz.prog 94 #[(.string ⟨(X : List UInt8).toArray⟩), (.int .i64 (most))] w fun e w' => e = .returned (.tuple #[.agg #[.bool false, .slice none 0 0, .bool false, .slice none 0 0], .int .i64 3]) ∧ Gr w w' := by
 have hl : decide (most < ((X).length : Int)) = false := by simp; omega
 have hsX : (strip (X)).length ≤ (X).length := strip_len _
 go_enter Tryz.func94, Tryz.ntmps94
 have hB := Gr.refl w
 refine wp_seq_k (fun K1 k1 => ?_)
 refine rg [0, 1] ?_
 refine se ?_
 refine ea 30 #[(.bool false), (.slice none 0 0), (.bool false), (.slice none 0 0)] 4 hB fun b2 w2 g2 L2 o2 q2 hB => ?_
 simp only [p3, p4]
 refine sv 5 (.int .i64 0) ?_
 simp only [p3, p4]
 refine sq_nil ?_
 refine k1 _ _ ?_
 try clear k1 K1
 refine wp_seq_k (fun K3 k3 => ?_)
 refine rg [0, 1] ?_
 refine sv 13 (.string ⟨(X : List UInt8).toArray⟩) ?_
 simp only [p3, p4]
 refine sv 6 (.string ⟨(X : List UInt8).toArray⟩) ?_
 simp only [p3, p4]
 refine sq_nil ?_
 refine k3 _ _ ?_
 try clear k3 K3
 refine wp_seq_k (fun K4 k4 => ?_)
 refine rg [0, 1, 2, 3, 4, 5, 6, 7, 8] ?_
 refine sv 15 (.string ⟨(X : List UInt8).toArray⟩) ?_
 simp only [p3, p4]
 refine se ?_
 refine ec 16 (cut_no (X) (by omega) hc (hm.gr hB)) ?_
 rintro e5 w5 ⟨rfl, g5⟩
 refine ⟨_, rfl, ?_⟩
 replace hB := hB.trans g5
 simp only [p3, p4]
 refine sv 14 (.tuple #[(.string ⟨(X : List UInt8).toArray⟩), (.string ⟨([] : List UInt8).toArray⟩), (.bool false)]) ?_
 simp only [p3, p4]
 refine sv 17 (.string ⟨(X : List UInt8).toArray⟩) ?_
 simp only [p3, p4]
 refine sv 18 (.string ⟨([] : List UInt8).toArray⟩) ?_
 simp only [p3, p4]
 refine sv 19 (.bool false) ?_
 simp only [p3, p4]
 refine sv 7 (.string ⟨(X : List UInt8).toArray⟩) ?_
 simp only [p3, p4]
 refine sv 8 (.string ⟨([] : List UInt8).toArray⟩) ?_
 simp only [p3, p4]
 refine sv 9 (.bool false) ?_
 simp only [p3, p4]
 refine sq_nil ?_
 refine k4 _ _ ?_
 try clear k4 K4
 refine wp_seq_k (fun K6 k6 => ?_)
 refine wp_block ?_
 refine wp_seq_k (fun K7 k7 => ?_)
 refine rg [0, 1, 2, 3, 4] ?_
 refine sv 21 (.string ⟨(X : List UInt8).toArray⟩) ?_
 simp only [p3, p4]
 refine sv 22 (.int .i64 (((X).length : Int))) ?_
 simp only [p3, p4]
 refine sv 23 (.int .i64 (most)) ?_
 simp only [p3, p4]
 refine sw 24 (.bool false) rfl (RunV.bool (x := decide (most < ((X).length : Int))) (rvk (by kernel_rfl)) hl) ?_
 simp only [p3, p4]
 refine sv 20 (.bool false) ?_
 simp only [p3, p4]
 refine sq_nil ?_
 refine k7 _ _ ?_
 try clear k7 K7
 refine wp_cond_false rfl ?_
 refine wp_seq_k (fun K8 k8 => ?_)
 refine rg [0, 1, 2, 3, 4, 5, 6, 7, 8, 9, 10, 11, 12] ?_
 refine sv 27 (.string ⟨(X : List UInt8).toArray⟩) ?_
 simp only [p3, p4]
 refine se ?_
 refine ec 28 (trimprefix_any (X) _) ?_
 rintro e9 w9 ⟨rfl, g9⟩
 refine ⟨_, rfl, ?_⟩
 replace hB := hB.trans g9
 simp only [p3, p4]
 refine se ?_
 refine ec 29 (rdigits_a (strip (X)) (by omega) _) ?_
 rintro e10 w10 ⟨rfl, g10⟩
 refine ⟨_, rfl, ?_⟩
 replace hB := hB.trans g10
 simp only [p3, p4]
 refine sw 30 (.bool false) rfl (RunV.bool (x := !(allD (strip (X)))) (rvk (by kernel_rfl)) (show (!(allD (strip (X)))) = false by rw [h1]; rfl)) ?_
 simp only [p3, p4]
 refine sv 31 (.bool false) ?_
 simp only [p3, p4]
 refine sv 32 (.bool false) ?_
 simp only [p3, p4]
 refine sv 33 (.bool false) ?_
 simp only [p3, p4]
 refine ss 34 ?_
 simp only [p3, p4]
 refine ss 35 ?_
 simp only [p3, p4]
 refine ss 36 ?_
 simp only [p3, p4]
 refine sv 37 (.bool false) ?_
 simp only [p3, p4]
 refine sv 38 (.bool false) ?_
 simp only [p3, p4]
 refine sv 26 (.bool false) ?_
 simp only [p3, p4]
 refine sq_nil ?_
 refine k8 _ _ ?_
 try clear k8 K8
 refine wp_cond_false rfl ?_
 refine wp_seq_k (fun K11 k11 => ?_)
 refine rg [0, 1, 2, 3, 4, 5, 6] ?_
 refine sv 41 (.bool false) ?_
 simp only [p3, p4]
 refine sv 42 (.bool false) ?_
 simp only [p3, p4]
 refine ss 43 ?_
 simp only [p3, p4]
 refine ss 44 ?_
 simp only [p3, p4]
 refine ss 45 ?_
 simp only [p3, p4]
 refine sv 46 (.bool false) ?_
 simp only [p3, p4]
 refine sv 40 (.bool false) ?_
 simp only [p3, p4]
 refine sq_nil ?_
 refine k11 _ _ ?_
 try clear k11 K11
 refine wp_cond_false rfl ?_
 refine wp_skip ?_
 refine k6 _ _ ?_
 try clear k6 K6
 refine wp_seq_k (fun K12 k12 => ?_)
 refine rg [0, 1, 2, 3, 4, 5, 6, 7] ?_
 refine sv 49 (.string ⟨(X : List UInt8).toArray⟩) ?_
 simp only [p3, p4]
 refine se ?_
 refine ec 50 (parse_bad (X) (by omega) h1 h2 _) ?_
 rintro e13 w13 ⟨rfl, g13⟩
 refine ⟨_, rfl, ?_⟩
 replace hB := hB.trans g13
 simp only [p3, p4]
 refine sv 48 (.tuple #[(.agg #[(.bool false), (.slice none 0 0)]), (.int .i64 3)]) ?_
 simp only [p3, p4]
 refine sv 51 (.agg #[(.bool false), (.slice none 0 0)]) ?_
 simp only [p3, p4]
 refine sv 52 (.int .i64 3) ?_
 simp only [p3, p4]
 refine se ?_
 refine ea 28 #[(.bool false), (.slice none 0 0)] 10 hB fun b14 w14 g14 L14 o14 q14 hB => ?_
 replace L2 := L2.gr (g5.trans (g9.trans (g10.trans g13)))
 have ne2_14 := L2.ne o14
 simp only [p3, p4]
 refine se ?_
 refine es 28 0 (.agg #[(.bool false), (.slice none 0 0)]) [(.bool false), (.slice none 0 0)] #[(.bool false), (.slice none 0 0)] L14 hB q14 ⟨rfl, rfl, trivial⟩ fun w15 st15 kp15 L14 hB => ?_
 refine sv 11 (.int .i64 3) ?_
 simp only [p3, p4]
 refine sq_nil ?_
 refine k12 _ _ ?_
 try clear k12 K12
 refine wp_seq_k (fun K16 k16 => ?_)
 refine wp_seq_k (fun K17 k17 => ?_)
 refine rg [0, 1] ?_
 refine sv 53 (.int .i64 3) ?_
 simp only [p3, p4]
 refine sv 54 (.bool true) ?_
 simp only [p3, p4]
 refine sq_nil ?_
 refine k17 _ _ ?_
 try clear k17 K17
 refine wp_cond_true rfl ?_
 refine wp_seq_k (fun K18 k18 => ?_)
 refine rg [0, 1, 2] ?_
 refine sv 55 (.agg #[(.bool false), (.slice none 0 0), (.bool false), (.slice none 0 0)]) ?_
 simp only [p3, p4]
 refine se ?_
 replace L2 := st15.lc (L2.gr g14) ne2_14
 refine es 30 0 (.agg #[(.bool false), (.slice none 0 0), (.bool false), (.slice none 0 0)]) [(.bool false), (.slice none 0 0), (.bool false), (.slice none 0 0)] #[(.bool false), (.slice none 0 0), (.bool false), (.slice none 0 0)] L2 hB q2 ⟨rfl, rfl, rfl, rfl, trivial⟩ fun w19 st19 kp19 L2 hB => ?_
 refine sv 5 (.int .i64 3) ?_
 simp only [p3, p4]
 refine sq_nil ?_
 refine k18 _ _ ?_
 try clear k18 K18
 refine wp_ret ?_
 simp only [Exit.then]
 refine bodyPost_ret (v := (.tuple #[(.agg #[(.bool false), (.slice none 0 0), (.bool false), (.slice none 0 0)]), (.int .i64 3)])) (ret_cell_tmp' _ _ _ rfl rfl L2 (by kernel_rfl) rfl) rfl ⟨?_, hB⟩
 exact rfl

set_option maxRecDepth 100000 in
set_option maxHeartbeats 1000000 in
theorem read_fs1 (X A D : List UInt8) (most : Int) (_hx : X.length ≤ 14000) (_hlong : (X.length : Int) ≤ most) (hc : cutL X = (A, some D)) (_hA : (A).length ≤ X.length) (_hD : D.length ≤ X.length) (h1 : allD (strip A) = false) (w : World) (hm : Mx w) :
    Calls Tryz.prog 94 #[(.string ⟨(X : List UInt8).toArray⟩), (.int .i64 (most))] w fun e w' => e = .returned (.tuple #[.agg #[.bool false, .slice none 0 0, .bool false, .slice none 0 0], .int .i64 14]) ∧ Gr w w' := by
 have hl : decide (most < ((X).length : Int)) = false := by simp; omega
 have hsA : (strip (A)).length ≤ (A).length := strip_len _
 go_enter Tryz.func94, Tryz.ntmps94
 have hB := Gr.refl w
 refine wp_seq_k (fun K1 k1 => ?_)
 refine rg [0, 1] ?_
 refine se ?_
 refine ea 30 #[(.bool false), (.slice none 0 0), (.bool false), (.slice none 0 0)] 4 hB fun b2 w2 g2 L2 o2 q2 hB => ?_
 simp only [p3, p4]
 refine sv 5 (.int .i64 0) ?_
 simp only [p3, p4]
 refine sq_nil ?_
 refine k1 _ _ ?_
 try clear k1 K1
 refine wp_seq_k (fun K3 k3 => ?_)
 refine rg [0, 1] ?_
 refine sv 13 (.string ⟨(X : List UInt8).toArray⟩) ?_
 simp only [p3, p4]
 refine sv 6 (.string ⟨(X : List UInt8).toArray⟩) ?_
 simp only [p3, p4]
 refine sq_nil ?_
 refine k3 _ _ ?_
 try clear k3 K3
 refine wp_seq_k (fun K4 k4 => ?_)
 refine rg [0, 1, 2, 3, 4, 5, 6, 7, 8] ?_
 refine sv 15 (.string ⟨(X : List UInt8).toArray⟩) ?_
 simp only [p3, p4]
 refine se ?_
 refine ec 16 (cut_yes (X) (A) (D) (by omega) hc (hm.gr hB)) ?_
 rintro e5 w5 ⟨rfl, g5⟩
 refine ⟨_, rfl, ?_⟩
 replace hB := hB.trans g5
 simp only [p3, p4]
 refine sv 14 (.tuple #[(.string ⟨(A : List UInt8).toArray⟩), (.string ⟨(D : List UInt8).toArray⟩), (.bool true)]) ?_
 simp only [p3, p4]
 refine sv 17 (.string ⟨(A : List UInt8).toArray⟩) ?_
 simp only [p3, p4]
 refine sv 18 (.string ⟨(D : List UInt8).toArray⟩) ?_
 simp only [p3, p4]
 refine sv 19 (.bool true) ?_
 simp only [p3, p4]
 refine sv 7 (.string ⟨(A : List UInt8).toArray⟩) ?_
 simp only [p3, p4]
 refine sv 8 (.string ⟨(D : List UInt8).toArray⟩) ?_
 simp only [p3, p4]
 refine sv 9 (.bool true) ?_
 simp only [p3, p4]
 refine sq_nil ?_
 refine k4 _ _ ?_
 try clear k4 K4
 refine wp_seq_k (fun K6 k6 => ?_)
 refine wp_block ?_
 refine wp_seq_k (fun K7 k7 => ?_)
 refine rg [0, 1, 2, 3, 4] ?_
 refine sv 21 (.string ⟨(X : List UInt8).toArray⟩) ?_
 simp only [p3, p4]
 refine sv 22 (.int .i64 (((X).length : Int))) ?_
 simp only [p3, p4]
 refine sv 23 (.int .i64 (most)) ?_
 simp only [p3, p4]
 refine sw 24 (.bool false) rfl (RunV.bool (x := decide (most < ((X).length : Int))) (rvk (by kernel_rfl)) hl) ?_
 simp only [p3, p4]
 refine sv 20 (.bool false) ?_
 simp only [p3, p4]
 refine sq_nil ?_
 refine k7 _ _ ?_
 try clear k7 K7
 refine wp_cond_false rfl ?_
 refine wp_seq_k (fun K8 k8 => ?_)
 refine rg [0, 1, 2, 3, 4, 5, 6, 7, 8, 9, 10, 11, 12] ?_
 refine sv 27 (.string ⟨(A : List UInt8).toArray⟩) ?_
 simp only [p3, p4]
 refine se ?_
 refine ec 28 (trimprefix_any (A) _) ?_
 rintro e9 w9 ⟨rfl, g9⟩
 refine ⟨_, rfl, ?_⟩
 replace hB := hB.trans g9
 simp only [p3, p4]
 refine se ?_
 refine ec 29 (rdigits_a (strip (A)) (by omega) _) ?_
 rintro e10 w10 ⟨rfl, g10⟩
 refine ⟨_, rfl, ?_⟩
 replace hB := hB.trans g10
 simp only [p3, p4]
 refine sw 30 (.bool true) rfl (RunV.bool (x := !(allD (strip (A)))) (rvk (by kernel_rfl)) (show (!(allD (strip (A)))) = true by rw [h1]; rfl)) ?_
 simp only [p3, p4]
 refine sv 31 (.bool true) ?_
 simp only [p3, p4]
 refine ss 32 ?_
 simp only [p3, p4]
 refine ss 33 ?_
 simp only [p3, p4]
 refine ss 34 ?_
 simp only [p3, p4]
 refine ss 35 ?_
 simp only [p3, p4]
 refine ss 36 ?_
 simp only [p3, p4]
 refine ss 37 ?_
 simp only [p3, p4]
 refine sv 38 (.bool true) ?_
 simp only [p3, p4]
 refine sv 26 (.bool true) ?_
 simp only [p3, p4]
 refine sq_nil ?_
 refine k8 _ _ ?_
 try clear k8 K8
 refine wp_cond_true rfl ?_
 refine wp_seq_k (fun K11 k11 => ?_)
 refine rg [0, 1, 2] ?_
 refine sv 39 (.agg #[(.bool false), (.slice none 0 0), (.bool false), (.slice none 0 0)]) ?_
 simp only [p3, p4]
 refine se ?_
 replace L2 := L2.gr (g5.trans (g9.trans g10))
 refine es 30 0 (.agg #[(.bool false), (.slice none 0 0), (.bool false), (.slice none 0 0)]) [(.bool false), (.slice none 0 0), (.bool false), (.slice none 0 0)] #[(.bool false), (.slice none 0 0), (.bool false), (.slice none 0 0)] L2 hB q2 ⟨rfl, rfl, rfl, rfl, trivial⟩ fun w12 st12 kp12 L2 hB => ?_
 refine sv 5 (.int .i64 14) ?_
 simp only [p3, p4]
 refine sq_nil ?_
 refine k11 _ _ ?_
 try clear k11 K11
 refine wp_ret ?_
 simp only [Exit.then, Exit.inBlock]
 refine bodyPost_ret (v := (.tuple #[(.agg #[(.bool false), (.slice none 0 0), (.bool false), (.slice none 0 0)]), (.int .i64 14)])) (ret_cell_tmp' _ _ _ rfl rfl L2 (by kernel_rfl) rfl) rfl ⟨?_, hB⟩
 exact rfl

set_option maxRecDepth 100000 in
set_option maxHeartbeats 1000000 in
theorem read_fs2 (X A D : List UInt8) (most : Int) (_hx : X.length ≤ 14000) (_hlong : (X.length : Int) ≤ most) (hc : cutL X = (A, some D)) (_hA : (A).length ≤ X.length) (_hD : D.length ≤ X.length) (h1 : allD (strip A) = true) (h2 : allD D = false) (w : World) (hm : Mx w) :
    Calls Tryz.prog 94 #[(.string ⟨(X : List UInt8).toArray⟩), (.int .i64 (most))] w fun e w' => e = .returned (.tuple #[.agg #[.bool false, .slice none 0 0, .bool false, .slice none 0 0], .int .i64 14]) ∧ Gr w w' := by
 have hl : decide (most < ((X).length : Int)) = false := by simp; omega
 have hsA : (strip (A)).length ≤ (A).length := strip_len _
 go_enter Tryz.func94, Tryz.ntmps94
 have hB := Gr.refl w
 refine wp_seq_k (fun K1 k1 => ?_)
 refine rg [0, 1] ?_
 refine se ?_
 refine ea 30 #[(.bool false), (.slice none 0 0), (.bool false), (.slice none 0 0)] 4 hB fun b2 w2 g2 L2 o2 q2 hB => ?_
 simp only [p3, p4]
 refine sv 5 (.int .i64 0) ?_
 simp only [p3, p4]
 refine sq_nil ?_
 refine k1 _ _ ?_
 try clear k1 K1
 refine wp_seq_k (fun K3 k3 => ?_)
 refine rg [0, 1] ?_
 refine sv 13 (.string ⟨(X : List UInt8).toArray⟩) ?_
 simp only [p3, p4]
 refine sv 6 (.string ⟨(X : List UInt8).toArray⟩) ?_
 simp only [p3, p4]
 refine sq_nil ?_
 refine k3 _ _ ?_
 try clear k3 K3
 refine wp_seq_k (fun K4 k4 => ?_)
 refine rg [0, 1, 2, 3, 4, 5, 6, 7, 8] ?_
 refine sv 15 (.string ⟨(X : List UInt8).toArray⟩) ?_
 simp only [p3, p4]
 refine se ?_
 refine ec 16 (cut_yes (X) (A) (D) (by omega) hc (hm.gr hB)) ?_
 rintro e5 w5 ⟨rfl, g5⟩
 refine ⟨_, rfl, ?_⟩
 replace hB := hB.trans g5
 simp only [p3, p4]
 refine sv 14 (.tuple #[(.string ⟨(A : List UInt8).toArray⟩), (.string ⟨(D : List UInt8).toArray⟩), (.bool true)]) ?_
 simp only [p3, p4]
 refine sv 17 (.string ⟨(A : List UInt8).toArray⟩) ?_
 simp only [p3, p4]
 refine sv 18 (.string ⟨(D : List UInt8).toArray⟩) ?_
 simp only [p3, p4]
 refine sv 19 (.bool true) ?_
 simp only [p3, p4]
 refine sv 7 (.string ⟨(A : List UInt8).toArray⟩) ?_
 simp only [p3, p4]
 refine sv 8 (.string ⟨(D : List UInt8).toArray⟩) ?_
 simp only [p3, p4]
 refine sv 9 (.bool true) ?_
 simp only [p3, p4]
 refine sq_nil ?_
 refine k4 _ _ ?_
 try clear k4 K4
 refine wp_seq_k (fun K6 k6 => ?_)
 refine wp_block ?_
 refine wp_seq_k (fun K7 k7 => ?_)
 refine rg [0, 1, 2, 3, 4] ?_
 refine sv 21 (.string ⟨(X : List UInt8).toArray⟩) ?_
 simp only [p3, p4]
 refine sv 22 (.int .i64 (((X).length : Int))) ?_
 simp only [p3, p4]
 refine sv 23 (.int .i64 (most)) ?_
 simp only [p3, p4]
 refine sw 24 (.bool false) rfl (RunV.bool (x := decide (most < ((X).length : Int))) (rvk (by kernel_rfl)) hl) ?_
 simp only [p3, p4]
 refine sv 20 (.bool false) ?_
 simp only [p3, p4]
 refine sq_nil ?_
 refine k7 _ _ ?_
 try clear k7 K7
 refine wp_cond_false rfl ?_
 refine wp_seq_k (fun K8 k8 => ?_)
 refine rg [0, 1, 2, 3, 4, 5, 6, 7, 8, 9, 10, 11, 12] ?_
 refine sv 27 (.string ⟨(A : List UInt8).toArray⟩) ?_
 simp only [p3, p4]
 refine se ?_
 refine ec 28 (trimprefix_any (A) _) ?_
 rintro e9 w9 ⟨rfl, g9⟩
 refine ⟨_, rfl, ?_⟩
 replace hB := hB.trans g9
 simp only [p3, p4]
 refine se ?_
 refine ec 29 (rdigits_a (strip (A)) (by omega) _) ?_
 rintro e10 w10 ⟨rfl, g10⟩
 refine ⟨_, rfl, ?_⟩
 replace hB := hB.trans g10
 simp only [p3, p4]
 refine sw 30 (.bool false) rfl (RunV.bool (x := !(allD (strip (A)))) (rvk (by kernel_rfl)) (show (!(allD (strip (A)))) = false by rw [h1]; rfl)) ?_
 simp only [p3, p4]
 refine sv 31 (.bool false) ?_
 simp only [p3, p4]
 refine sv 32 (.bool true) ?_
 simp only [p3, p4]
 refine sv 33 (.bool true) ?_
 simp only [p3, p4]
 refine sv 34 (.string ⟨(D : List UInt8).toArray⟩) ?_
 simp only [p3, p4]
 refine se ?_
 refine ec 35 (rdigits_a (D) (by omega) _) ?_
 rintro e11 w11 ⟨rfl, g11⟩
 refine ⟨_, rfl, ?_⟩
 replace hB := hB.trans g11
 simp only [p3, p4]
 refine sw 36 (.bool true) rfl (RunV.bool (x := !(allD (D))) (rvk (by kernel_rfl)) (show (!(allD (D))) = true by rw [h2]; rfl)) ?_
 simp only [p3, p4]
 refine sv 37 (.bool true) ?_
 simp only [p3, p4]
 refine sv 38 (.bool true) ?_
 simp only [p3, p4]
 refine sv 26 (.bool true) ?_
 simp only [p3, p4]
 refine sq_nil ?_
 refine k8 _ _ ?_
 try clear k8 K8
 refine wp_cond_true rfl ?_
 refine wp_seq_k (fun K12 k12 => ?_)
 refine rg [0, 1, 2] ?_
 refine sv 39 (.agg #[(.bool false), (.slice none 0 0), (.bool false), (.slice none 0 0)]) ?_
 simp only [p3, p4]
 refine se ?_
 replace L2 := L2.gr (g5.trans (g9.trans (g10.trans g11)))
 refine es 30 0 (.agg #[(.bool false), (.slice none 0 0), (.bool false), (.slice none 0 0)]) [(.bool false), (.slice none 0 0), (.bool false), (.slice none 0 0)] #[(.bool false), (.slice none 0 0), (.bool false), (.slice none 0 0)] L2 hB q2 ⟨rfl, rfl, rfl, rfl, trivial⟩ fun w13 st13 kp13 L2 hB => ?_
 refine sv 5 (.int .i64 14) ?_
 simp only [p3, p4]
 refine sq_nil ?_
 refine k12 _ _ ?_
 try clear k12 K12
 refine wp_ret ?_
 simp only [Exit.then, Exit.inBlock]
 refine bodyPost_ret (v := (.tuple #[(.agg #[(.bool false), (.slice none 0 0), (.bool false), (.slice none 0 0)]), (.int .i64 14)])) (ret_cell_tmp' _ _ _ rfl rfl L2 (by kernel_rfl) rfl) rfl ⟨?_, hB⟩
 exact rfl

set_option maxRecDepth 100000 in
set_option maxHeartbeats 1000000 in
theorem read_fz (X A D : List UInt8) (most : Int) (_hx : X.length ≤ 14000) (_hlong : (X.length : Int) ≤ most) (hc : cutL X = (A, some D)) (_hA : (A).length ≤ X.length) (_hD : D.length ≤ X.length) (h1 : allD (strip A) = true) (h2 : allD D = true) (h3 : zerosL D = true) (w : World) (hm : Mx w) :
    Calls Tryz.prog 94 #[(.string ⟨(X : List UInt8).toArray⟩), (.int .i64 (most))] w fun e w' => e = .returned (.tuple #[.agg #[.bool false, .slice none 0 0, .bool false, .slice none 0 0], .int .i64 19]) ∧ Gr w w' := by
 have hl : decide (most < ((X).length : Int)) = false := by simp; omega
 have hsA : (strip (A)).length ≤ (A).length := strip_len _
 have h4 : ((Lib.trimS (D) [48]) == ([] : List UInt8)) = true := by rw [← zeros_trim]; exact h3
 go_enter Tryz.func94, Tryz.ntmps94
 have hB := Gr.refl w
 refine wp_seq_k (fun K1 k1 => ?_)
 refine rg [0, 1] ?_
 refine se ?_
 refine ea 30 #[(.bool false), (.slice none 0 0), (.bool false), (.slice none 0 0)] 4 hB fun b2 w2 g2 L2 o2 q2 hB => ?_
 simp only [p3, p4]
 refine sv 5 (.int .i64 0) ?_
 simp only [p3, p4]
 refine sq_nil ?_
 refine k1 _ _ ?_
 try clear k1 K1
 refine wp_seq_k (fun K3 k3 => ?_)
 refine rg [0, 1] ?_
 refine sv 13 (.string ⟨(X : List UInt8).toArray⟩) ?_
 simp only [p3, p4]
 refine sv 6 (.string ⟨(X : List UInt8).toArray⟩) ?_
 simp only [p3, p4]
 refine sq_nil ?_
 refine k3 _ _ ?_
 try clear k3 K3
 refine wp_seq_k (fun K4 k4 => ?_)
 refine rg [0, 1, 2, 3, 4, 5, 6, 7, 8] ?_
 refine sv 15 (.string ⟨(X : List UInt8).toArray⟩) ?_
 simp only [p3, p4]
 refine se ?_
 refine ec 16 (cut_yes (X) (A) (D) (by omega) hc (hm.gr hB)) ?_
 rintro e5 w5 ⟨rfl, g5⟩
 refine ⟨_, rfl, ?_⟩
 replace hB := hB.trans g5
 simp only [p3, p4]
 refine sv 14 (.tuple #[(.string ⟨(A : List UInt8).toArray⟩), (.string ⟨(D : List UInt8).toArray⟩), (.bool true)]) ?_
 simp only [p3, p4]
 refine sv 17 (.string ⟨(A : List UInt8).toArray⟩) ?_
 simp only [p3, p4]
 refine sv 18 (.string ⟨(D : List UInt8).toArray⟩) ?_
 simp only [p3, p4]
 refine sv 19 (.bool true) ?_
 simp only [p3, p4]
 refine sv 7 (.string ⟨(A : List UInt8).toArray⟩) ?_
 simp only [p3, p4]
 refine sv 8 (.string ⟨(D : List UInt8).toArray⟩) ?_
 simp only [p3, p4]
 refine sv 9 (.bool true) ?_
 simp only [p3, p4]
 refine sq_nil ?_
 refine k4 _ _ ?_
 try clear k4 K4
 refine wp_seq_k (fun K6 k6 => ?_)
 refine wp_block ?_
 refine wp_seq_k (fun K7 k7 => ?_)
 refine rg [0, 1, 2, 3, 4] ?_
 refine sv 21 (.string ⟨(X : List UInt8).toArray⟩) ?_
 simp only [p3, p4]
 refine sv 22 (.int .i64 (((X).length : Int))) ?_
 simp only [p3, p4]
 refine sv 23 (.int .i64 (most)) ?_
 simp only [p3, p4]
 refine sw 24 (.bool false) rfl (RunV.bool (x := decide (most < ((X).length : Int))) (rvk (by kernel_rfl)) hl) ?_
 simp only [p3, p4]
 refine sv 20 (.bool false) ?_
 simp only [p3, p4]
 refine sq_nil ?_
 refine k7 _ _ ?_
 try clear k7 K7
 refine wp_cond_false rfl ?_
 refine wp_seq_k (fun K8 k8 => ?_)
 refine rg [0, 1, 2, 3, 4, 5, 6, 7, 8, 9, 10, 11, 12] ?_
 refine sv 27 (.string ⟨(A : List UInt8).toArray⟩) ?_
 simp only [p3, p4]
 refine se ?_
 refine ec 28 (trimprefix_any (A) _) ?_
 rintro e9 w9 ⟨rfl, g9⟩
 refine ⟨_, rfl, ?_⟩
 replace hB := hB.trans g9
 simp only [p3, p4]
 refine se ?_
 refine ec 29 (rdigits_a (strip (A)) (by omega) _) ?_
 rintro e10 w10 ⟨rfl, g10⟩
 refine ⟨_, rfl, ?_⟩
 replace hB := hB.trans g10
 simp only [p3, p4]
 refine sw 30 (.bool false) rfl (RunV.bool (x := !(allD (strip (A)))) (rvk (by kernel_rfl)) (show (!(allD (strip (A)))) = false by rw [h1]; rfl)) ?_
 simp only [p3, p4]
 refine sv 31 (.bool false) ?_
 simp only [p3, p4]
 refine sv 32 (.bool true) ?_
 simp only [p3, p4]
 refine sv 33 (.bool true) ?_
 simp only [p3, p4]
 refine sv 34 (.string ⟨(D : List UInt8).toArray⟩) ?_
 simp only [p3, p4]
 refine se ?_
 refine ec 35 (rdigits_a (D) (by omega) _) ?_
 rintro e11 w11 ⟨rfl, g11⟩
 refine ⟨_, rfl, ?_⟩
 replace hB := hB.trans g11
 simp only [p3, p4]
 refine sw 36 (.bool false) rfl (RunV.bool (x := !(allD (D))) (rvk (by kernel_rfl)) (show (!(allD (D))) = false by rw [h2]; rfl)) ?_
 simp only [p3, p4]
 refine sv 37 (.bool false) ?_
 simp only [p3, p4]
 refine sv 38 (.bool false) ?_
 simp only [p3, p4]
 refine sv 26 (.bool false) ?_
 simp only [p3, p4]
 refine sq_nil ?_
 refine k8 _ _ ?_
 try clear k8 K8
 refine wp_cond_false rfl ?_
 refine wp_seq_k (fun K12 k12 => ?_)
 refine rg [0, 1, 2, 3, 4, 5, 6] ?_
 refine sv 41 (.bool true) ?_
 simp only [p3, p4]
 refine sv 42 (.bool true) ?_
 simp only [p3, p4]
 refine sv 43 (.string ⟨(D : List UInt8).toArray⟩) ?_
 simp only [p3, p4]
 refine se ?_
 refine ec 44 (trim_any0 (D) (by omega) _) ?_
 rintro e13 w13 ⟨rfl, g13⟩
 refine ⟨_, rfl, ?_⟩
 replace hB := hB.trans g13
 simp only [p3, p4]
 refine sw 45 (.bool true) rfl (RunV.bool (x := ((Lib.trimS (D) [48]) == ([] : List UInt8))) (rv_seq 9 9 _ _ (Lib.trimS (D) [48]) ([]) rfl rfl rfl) h4) ?_
 simp only [p3, p4]
 refine sv 46 (.bool true) ?_
 simp only [p3, p4]
 refine sv 40 (.bool true) ?_
 simp only [p3, p4]
 refine sq_nil ?_
 refine k12 _ _ ?_
 try clear k12 K12
 refine wp_cond_true rfl ?_
 refine wp_seq_k (fun K14 k14 => ?_)
 refine rg [0, 1, 2] ?_
 refine sv 47 (.agg #[(.bool false), (.slice none 0 0), (.bool false), (.slice none 0 0)]) ?_
 simp only [p3, p4]
 refine se ?_
 replace L2 := L2.gr (g5.trans (g9.trans (g10.trans (g11.trans g13))))
 refine es 30 0 (.agg #[(.bool false), (.slice none 0 0), (.bool false), (.slice none 0 0)]) [(.bool false), (.slice none 0 0), (.bool false), (.slice none 0 0)] #[(.bool false), (.slice none 0 0), (.bool false), (.slice none 0 0)] L2 hB q2 ⟨rfl, rfl, rfl, rfl, trivial⟩ fun w15 st15 kp15 L2 hB => ?_
 refine sv 5 (.int .i64 19) ?_
 simp only [p3, p4]
 refine sq_nil ?_
 refine k14 _ _ ?_
 try clear k14 K14
 refine wp_ret ?_
 simp only [Exit.then, Exit.inBlock]
 refine bodyPost_ret (v := (.tuple #[(.agg #[(.bool false), (.slice none 0 0), (.bool false), (.slice none 0 0)]), (.int .i64 19)])) (ret_cell_tmp' _ _ _ rfl rfl L2 (by kernel_rfl) rfl) rfl ⟨?_, hB⟩
 exact rfl

set_option maxRecDepth 100000 in
set_option maxHeartbeats 1000000 in
theorem read_fb1 (X A D : List UInt8) (most : Int) (_hx : X.length ≤ 14000) (_hlong : (X.length : Int) ≤ most) (hc : cutL X = (A, some D)) (_hA : (A).length ≤ X.length) (_hD : D.length ≤ X.length) (h1 : allD (strip A) = true) (h2 : allD D = true) (h3 : zerosL D = false) (h5 : badZ A = true) (w : World) (hm : Mx w) :
    Calls Tryz.prog 94 #[(.string ⟨(X : List UInt8).toArray⟩), (.int .i64 (most))] w fun e w' => e = .returned (.tuple #[.agg #[.bool false, .slice none 0 0, .bool false, .slice none 0 0], .int .i64 3]) ∧ Gr w w' := by
 have hl : decide (most < ((X).length : Int)) = false := by simp; omega
 have hsA : (strip (A)).length ≤ (A).length := strip_len _
 have h4 : ((Lib.trimS (D) [48]) == ([] : List UInt8)) = false := by rw [← zeros_trim]; exact h3
 go_enter Tryz.func94, Tryz.ntmps94
 have hB := Gr.refl w
 refine wp_seq_k (fun K1 k1 => ?_)
 refine rg [0, 1] ?_
 refine se ?_
 refine ea 30 #[(.bool false), (.slice none 0 0), (.bool false), (.slice none 0 0)] 4 hB fun b2 w2 g2 L2 o2 q2 hB => ?_
 simp only [p3, p4]
 refine sv 5 (.int .i64 0) ?_
 simp only [p3, p4]
 refine sq_nil ?_
 refine k1 _ _ ?_
 try clear k1 K1
 refine wp_seq_k (fun K3 k3 => ?_)
 refine rg [0, 1] ?_
 refine sv 13 (.string ⟨(X : List UInt8).toArray⟩) ?_
 simp only [p3, p4]
 refine sv 6 (.string ⟨(X : List UInt8).toArray⟩) ?_
 simp only [p3, p4]
 refine sq_nil ?_
 refine k3 _ _ ?_
 try clear k3 K3
 refine wp_seq_k (fun K4 k4 => ?_)
 refine rg [0, 1, 2, 3, 4, 5, 6, 7, 8] ?_
 refine sv 15 (.string ⟨(X : List UInt8).toArray⟩) ?_
 simp only [p3, p4]
 refine se ?_
 refine ec 16 (cut_yes (X) (A) (D) (by omega) hc (hm.gr hB)) ?_
 rintro e5 w5 ⟨rfl, g5⟩
 refine ⟨_, rfl, ?_⟩
 replace hB := hB.trans g5
 simp only [p3, p4]
 refine sv 14 (.tuple #[(.string ⟨(A : List UInt8).toArray⟩), (.string ⟨(D : List UInt8).toArray⟩), (.bool true)]) ?_
 simp only [p3, p4]
 refine sv 17 (.string ⟨(A : List UInt8).toArray⟩) ?_
 simp only [p3, p4]
 refine sv 18 (.string ⟨(D : List UInt8).toArray⟩) ?_
 simp only [p3, p4]
 refine sv 19 (.bool true) ?_
 simp only [p3, p4]
 refine sv 7 (.string ⟨(A : List UInt8).toArray⟩) ?_
 simp only [p3, p4]
 refine sv 8 (.string ⟨(D : List UInt8).toArray⟩) ?_
 simp only [p3, p4]
 refine sv 9 (.bool true) ?_
 simp only [p3, p4]
 refine sq_nil ?_
 refine k4 _ _ ?_
 try clear k4 K4
 refine wp_seq_k (fun K6 k6 => ?_)
 refine wp_block ?_
 refine wp_seq_k (fun K7 k7 => ?_)
 refine rg [0, 1, 2, 3, 4] ?_
 refine sv 21 (.string ⟨(X : List UInt8).toArray⟩) ?_
 simp only [p3, p4]
 refine sv 22 (.int .i64 (((X).length : Int))) ?_
 simp only [p3, p4]
 refine sv 23 (.int .i64 (most)) ?_
 simp only [p3, p4]
 refine sw 24 (.bool false) rfl (RunV.bool (x := decide (most < ((X).length : Int))) (rvk (by kernel_rfl)) hl) ?_
 simp only [p3, p4]
 refine sv 20 (.bool false) ?_
 simp only [p3, p4]
 refine sq_nil ?_
 refine k7 _ _ ?_
 try clear k7 K7
 refine wp_cond_false rfl ?_
 refine wp_seq_k (fun K8 k8 => ?_)
 refine rg [0, 1, 2, 3, 4, 5, 6, 7, 8, 9, 10, 11, 12] ?_
 refine sv 27 (.string ⟨(A : List UInt8).toArray⟩) ?_
 simp only [p3, p4]
 refine se ?_
 refine ec 28 (trimprefix_any (A) _) ?_
 rintro e9 w9 ⟨rfl, g9⟩
 refine ⟨_, rfl, ?_⟩
 replace hB := hB.trans g9
 simp only [p3, p4]
 refine se ?_
 refine ec 29 (rdigits_a (strip (A)) (by omega) _) ?_
 rintro e10 w10 ⟨rfl, g10⟩
 refine ⟨_, rfl, ?_⟩
 replace hB := hB.trans g10
 simp only [p3, p4]
 refine sw 30 (.bool false) rfl (RunV.bool (x := !(allD (strip (A)))) (rvk (by kernel_rfl)) (show (!(allD (strip (A)))) = false by rw [h1]; rfl)) ?_
 simp only [p3, p4]
 refine sv 31 (.bool false) ?_
 simp only [p3, p4]
 refine sv 32 (.bool true) ?_
 simp only [p3, p4]
 refine sv 33 (.bool true) ?_
 simp only [p3, p4]
 refine sv 34 (.string ⟨(D : List UInt8).toArray⟩) ?_
 simp only [p3, p4]
 refine se ?_
 refine ec 35 (rdigits_a (D) (by omega) _) ?_
 rintro e11 w11 ⟨rfl, g11⟩
 refine ⟨_, rfl, ?_⟩
 replace hB := hB.trans g11
 simp only [p3, p4]
 refine sw 36 (.bool false) rfl (RunV.bool (x := !(allD (D))) (rvk (by kernel_rfl)) (show (!(allD (D))) = false by rw [h2]; rfl)) ?_
 simp only [p3, p4]
 refine sv 37 (.bool false) ?_
 simp only [p3, p4]
 refine sv 38 (.bool false) ?_
 simp only [p3, p4]
 refine sv 26 (.bool false) ?_
 simp only [p3, p4]
 refine sq_nil ?_
 refine k8 _ _ ?_
 try clear k8 K8
 refine wp_cond_false rfl ?_
 refine wp_seq_k (fun K12 k12 => ?_)
 refine rg [0, 1, 2, 3, 4, 5, 6] ?_
 refine sv 41 (.bool true) ?_
 simp only [p3, p4]
 refine sv 42 (.bool true) ?_
 simp only [p3, p4]
 refine sv 43 (.string ⟨(D : List UInt8).toArray⟩) ?_
 simp only [p3, p4]
 refine se ?_
 refine ec 44 (trim_any0 (D) (by omega) _) ?_
 rintro e13 w13 ⟨rfl, g13⟩
 refine ⟨_, rfl, ?_⟩
 replace hB := hB.trans g13
 simp only [p3, p4]
 refine sw 45 (.bool false) rfl (RunV.bool (x := ((Lib.trimS (D) [48]) == ([] : List UInt8))) (rv_seq 9 9 _ _ (Lib.trimS (D) [48]) ([]) rfl rfl rfl) h4) ?_
 simp only [p3, p4]
 refine sv 46 (.bool false) ?_
 simp only [p3, p4]
 refine sv 40 (.bool false) ?_
 simp only [p3, p4]
 refine sq_nil ?_
 refine k12 _ _ ?_
 try clear k12 K12
 refine wp_cond_false rfl ?_
 refine wp_skip ?_
 refine k6 _ _ ?_
 try clear k6 K6
 refine wp_seq_k (fun K14 k14 => ?_)
 refine rg [0, 1, 2, 3, 4, 5, 6, 7] ?_
 refine sv 49 (.string ⟨(A : List UInt8).toArray⟩) ?_
 simp only [p3, p4]
 refine se ?_
 refine ec 50 (parse_bad (A) (by omega) h1 h5 _) ?_
 rintro e15 w15 ⟨rfl, g15⟩
 refine ⟨_, rfl, ?_⟩
 replace hB := hB.trans g15
 simp only [p3, p4]
 refine sv 48 (.tuple #[(.agg #[(.bool false), (.slice none 0 0)]), (.int .i64 3)]) ?_
 simp only [p3, p4]
 refine sv 51 (.agg #[(.bool false), (.slice none 0 0)]) ?_
 simp only [p3, p4]
 refine sv 52 (.int .i64 3) ?_
 simp only [p3, p4]
 refine se ?_
 refine ea 28 #[(.bool false), (.slice none 0 0)] 10 hB fun b16 w16 g16 L16 o16 q16 hB => ?_
 replace L2 := L2.gr (g5.trans (g9.trans (g10.trans (g11.trans (g13.trans g15)))))
 have ne2_16 := L2.ne o16
 simp only [p3, p4]
 refine se ?_
 refine es 28 0 (.agg #[(.bool false), (.slice none 0 0)]) [(.bool false), (.slice none 0 0)] #[(.bool false), (.slice none 0 0)] L16 hB q16 ⟨rfl, rfl, trivial⟩ fun w17 st17 kp17 L16 hB => ?_
 refine sv 11 (.int .i64 3) ?_
 simp only [p3, p4]
 refine sq_nil ?_
 refine k14 _ _ ?_
 try clear k14 K14
 refine wp_seq_k (fun K18 k18 => ?_)
 refine wp_seq_k (fun K19 k19 => ?_)
 refine rg [0, 1] ?_
 refine sv 53 (.int .i64 3) ?_
 simp only [p3, p4]
 refine sv 54 (.bool true) ?_
 simp only [p3, p4]
 refine sq_nil ?_
 refine k19 _ _ ?_
 try clear k19 K19
 refine wp_cond_true rfl ?_
 refine wp_seq_k (fun K20 k20 => ?_)
 refine rg [0, 1, 2] ?_
 refine sv 55 (.agg #[(.bool false), (.slice none 0 0), (.bool false), (.slice none 0 0)]) ?_
 simp only [p3, p4]
 refine se ?_
 replace L2 := st17.lc (L2.gr g16) ne2_16
 refine es 30 0 (.agg #[(.bool false), (.slice none 0 0), (.bool false), (.slice none 0 0)]) [(.bool false), (.slice none 0 0), (.bool false), (.slice none 0 0)] #[(.bool false), (.slice none 0 0), (.bool false), (.slice none 0 0)] L2 hB q2 ⟨rfl, rfl, rfl, rfl, trivial⟩ fun w21 st21 kp21 L2 hB => ?_
 refine sv 5 (.int .i64 3) ?_
 simp only [p3, p4]
 refine sq_nil ?_
 refine k20 _ _ ?_
 try clear k20 K20
 refine wp_ret ?_
 simp only [Exit.then]
 refine bodyPost_ret (v := (.tuple #[(.agg #[(.bool false), (.slice none 0 0), (.bool false), (.slice none 0 0)]), (.int .i64 3)])) (ret_cell_tmp' _ _ _ rfl rfl L2 (by kernel_rfl) rfl) rfl ⟨?_, hB⟩
 exact rfl

set_option maxRecDepth 100000 in
set_option maxHeartbeats 1000000 in
theorem read_fb2 (X D : List UInt8) (z : Int) (most : Int) (_hx : X.length ≤ 14000) (_hlong : (X.length : Int) ≤ most) (hc : cutL X = (Lib.itoa (z), some D)) (_hA : (Lib.itoa (z)).length ≤ X.length) (_hD : D.length ≤ X.length) (h2 : allD D = true) (h2b : allD (strip D) = true) (h3 : zerosL D = false) (h5 : badZ D = true) (w : World) (hm : Mx w) :
    Calls Tryz.prog 94 #[(.string ⟨(X : List UInt8).toArray⟩), (.int .i64 (most))] w fun e w' => e = .returned (.tuple #[.agg #[.bool false, .slice none 0 0, .bool false, .slice none 0 0], .int .i64 3]) ∧ Gr w w' := by
 have hl : decide (most < ((X).length : Int)) = false := by simp; omega
 have hsA : (strip (Lib.itoa (z))).length ≤ (Lib.itoa (z)).length := strip_len _
 have h1 : allD (strip (Lib.itoa (z))) = true := by rw [strip_itoa]; exact allD_dec _
 have h4 : ((Lib.trimS (D) [48]) == ([] : List UInt8)) = false := by rw [← zeros_trim]; exact h3
 go_enter Tryz.func94, Tryz.ntmps94
 have hB := Gr.refl w
 refine wp_seq_k (fun K1 k1 => ?_)
 refine rg [0, 1] ?_
 refine se ?_
 refine ea 30 #[(.bool false), (.slice none 0 0), (.bool false), (.slice none 0 0)] 4 hB fun b2 w2 g2 L2 o2 q2 hB => ?_
 simp only [p3, p4]
 refine sv 5 (.int .i64 0) ?_
 simp only [p3, p4]
 refine sq_nil ?_
 refine k1 _ _ ?_
 try clear k1 K1
 refine wp_seq_k (fun K3 k3 => ?_)
 refine rg [0, 1] ?_
 refine sv 13 (.string ⟨(X : List UInt8).toArray⟩) ?_
 simp only [p3, p4]
 refine sv 6 (.string ⟨(X : List UInt8).toArray⟩) ?_
 simp only [p3, p4]
 refine sq_nil ?_
 refine k3 _ _ ?_
 try clear k3 K3
 refine wp_seq_k (fun K4 k4 => ?_)
 refine rg [0, 1, 2, 3, 4, 5, 6, 7, 8] ?_
 refine sv 15 (.string ⟨(X : List UInt8).toArray⟩) ?_
 simp only [p3, p4]
 refine se ?_
 refine ec 16 (cut_yes (X) (Lib.itoa (z)) (D) (by omega) hc (hm.gr hB)) ?_
 rintro e5 w5 ⟨rfl, g5⟩
 refine ⟨_, rfl, ?_⟩
 replace hB := hB.trans g5
 simp only [p3, p4]
 refine sv 14 (.tuple #[(.string ⟨(Lib.itoa (z) : List UInt8).toArray⟩), (.string ⟨(D : List UInt8).toArray⟩), (.bool true)]) ?_
 simp only [p3, p4]
 refine sv 17 (.string ⟨(Lib.itoa (z) : List UInt8).toArray⟩) ?_
 simp only [p3, p4]
 refine sv 18 (.string ⟨(D : List UInt8).toArray⟩) ?_
 simp only [p3, p4]
 refine sv 19 (.bool true) ?_
 simp only [p3, p4]
 refine sv 7 (.string ⟨(Lib.itoa (z) : List UInt8).toArray⟩) ?_
 simp only [p3, p4]
 refine sv 8 (.string ⟨(D : List UInt8).toArray⟩) ?_
 simp only [p3, p4]
 refine sv 9 (.bool true) ?_
 simp only [p3, p4]
 refine sq_nil ?_
 refine k4 _ _ ?_
 try clear k4 K4
 refine wp_seq_k (fun K6 k6 => ?_)
 refine wp_block ?_
 refine wp_seq_k (fun K7 k7 => ?_)
 refine rg [0, 1, 2, 3, 4] ?_
 refine sv 21 (.string ⟨(X : List UInt8).toArray⟩) ?_
 simp only [p3, p4]
 refine sv 22 (.int .i64 (((X).length : Int))) ?_
 simp only [p3, p4]
 refine sv 23 (.int .i64 (most)) ?_
 simp only [p3, p4]
 refine sw 24 (.bool false) rfl (RunV.bool (x := decide (most < ((X).length : Int))) (rvk (by kernel_rfl)) hl) ?_
 simp only [p3, p4]
 refine sv 20 (.bool false) ?_
 simp only [p3, p4]
 refine sq_nil ?_
 refine k7 _ _ ?_
 try clear k7 K7
 refine wp_cond_false rfl ?_
 refine wp_seq_k (fun K8 k8 => ?_)
 refine rg [0, 1, 2, 3, 4, 5, 6, 7, 8, 9, 10, 11, 12] ?_
 refine sv 27 (.string ⟨(Lib.itoa (z) : List UInt8).toArray⟩) ?_
 simp only [p3, p4]
 refine se ?_
 refine ec 28 (trimprefix_any (Lib.itoa (z)) _) ?_
 rintro e9 w9 ⟨rfl, g9⟩
 refine ⟨_, rfl, ?_⟩
 replace hB := hB.trans g9
 simp only [p3, p4]
 refine se ?_
 refine ec 29 (rdigits_a (strip (Lib.itoa (z))) (by omega) _) ?_
 rintro e10 w10 ⟨rfl, g10⟩
 refine ⟨_, rfl, ?_⟩
 replace hB := hB.trans g10
 simp only [p3, p4]
 refine sw 30 (.bool false) rfl (RunV.bool (x := !(allD (strip (Lib.itoa (z))))) (rvk (by kernel_rfl)) (show (!(allD (strip (Lib.itoa (z))))) = false by rw [h1]; rfl)) ?_
 simp only [p3, p4]
 refine sv 31 (.bool false) ?_
 simp only [p3, p4]
 refine sv 32 (.bool true) ?_
 simp only [p3, p4]
 refine sv 33 (.bool true) ?_
 simp only [p3, p4]
 refine sv 34 (.string ⟨(D : List UInt8).toArray⟩) ?_
 simp only [p3, p4]
 refine se ?_
 refine ec 35 (rdigits_a (D) (by omega) _) ?_
 rintro e11 w11 ⟨rfl, g11⟩
 refine ⟨_, rfl, ?_⟩
 replace hB := hB.trans g11
 simp only [p3, p4]
 refine sw 36 (.bool false) rfl (RunV.bool (x := !(allD (D))) (rvk (by kernel_rfl)) (show (!(allD (D))) = false by rw [h2]; rfl)) ?_
 simp only [p3, p4]
 refine sv 37 (.bool false) ?_
 simp only [p3, p4]
 refine sv 38 (.bool false) ?_
 simp only [p3, p4]
 refine sv 26 (.bool false) ?_
 simp only [p3, p4]
 refine sq_nil ?_
 refine k8 _ _ ?_
 try clear k8 K8
 refine wp_cond_false rfl ?_
 refine wp_seq_k (fun K12 k12 => ?_)
 refine rg [0, 1, 2, 3, 4, 5, 6] ?_
 refine sv 41 (.bool true) ?_
 simp only [p3, p4]
 refine sv 42 (.bool true) ?_
 simp only [p3, p4]
 refine sv 43 (.string ⟨(D : List UInt8).toArray⟩) ?_
 simp only [p3, p4]
 refine se ?_
 refine ec 44 (trim_any0 (D) (by omega) _) ?_
 rintro e13 w13 ⟨rfl, g13⟩
 refine ⟨_, rfl, ?_⟩
 replace hB := hB.trans g13
 simp only [p3, p4]
 refine sw 45 (.bool false) rfl (RunV.bool (x := ((Lib.trimS (D) [48]) == ([] : List UInt8))) (rv_seq 9 9 _ _ (Lib.trimS (D) [48]) ([]) rfl rfl rfl) h4) ?_
 simp only [p3, p4]
 refine sv 46 (.bool false) ?_
 simp only [p3, p4]
 refine sv 40 (.bool false) ?_
 simp only [p3, p4]
 refine sq_nil ?_
 refine k12 _ _ ?_
 try clear k12 K12
 refine wp_cond_false rfl ?_
 refine wp_skip ?_
 refine k6 _ _ ?_
 try clear k6 K6
 refine wp_seq_k (fun K14 k14 => ?_)
 refine rg [0, 1, 2, 3, 4, 5, 6, 7] ?_
 refine sv 49 (.string ⟨(Lib.itoa (z) : List UInt8).toArray⟩) ?_
 simp only [p3, p4]
 refine se ?_
 refine ec 50 (parse_i (z) (itoa_sz (z) (m := 14000) (by omega)) (by omega) _) ?_
 rintro e15 w15 ⟨⟨x15, y15, rfl, h15⟩, g15⟩
 refine ⟨_, rfl, ?_⟩
 replace hB := hB.trans g15
 simp only [p3, p4]
 refine sv 48 (.tuple #[(.agg #[x15, y15]), (.int .i64 0)]) ?_
 simp only [p3, p4]
 refine sv 51 (.agg #[x15, y15]) ?_
 simp only [p3, p4]
 refine sv 52 (.int .i64 0) ?_
 simp only [p3, p4]
 refine se ?_
 refine ea 28 #[(.bool false), (.slice none 0 0)] 10 hB fun b16 w16 g16 L16 o16 q16 hB => ?_
 replace L2 := L2.gr (g5.trans (g9.trans (g10.trans (g11.trans (g13.trans g15)))))
 have ne2_16 := L2.ne o16
 simp only [p3, p4]
 refine se ?_
 refine es 28 0 (.agg #[x15, y15]) [x15, y15] #[x15, y15] L16 hB q16 ⟨h15.one0, h15.one1, trivial⟩ fun w17 st17 kp17 L16 hB => ?_
 refine sv 11 (.int .i64 0) ?_
 simp only [p3, p4]
 refine sq_nil ?_
 refine k14 _ _ ?_
 try clear k14 K14
 refine wp_seq_k (fun K18 k18 => ?_)
 refine wp_seq_k (fun K19 k19 => ?_)
 refine rg [0, 1] ?_
 refine sv 53 (.int .i64 0) ?_
 simp only [p3, p4]
 refine sv 54 (.bool false) ?_
 simp only [p3, p4]
 refine sq_nil ?_
 refine k19 _ _ ?_
 try clear k19 K19
 refine wp_cond_false rfl ?_
 refine wp_skip ?_
 refine k18 _ _ ?_
 try clear k18 K18
 refine wp_seq_k (fun K20 k20 => ?_)
 refine wp_seq_k (fun K21 k21 => ?_)
 refine rg [0, 1] ?_
 refine sv 56 (.bool true) ?_
 simp only [p3, p4]
 refine sv 57 (.bool false) ?_
 simp only [p3, p4]
 refine sq_nil ?_
 refine k21 _ _ ?_
 try clear k21 K21
 refine wp_cond_false rfl ?_
 refine wp_skip ?_
 refine k20 _ _ ?_
 try clear k20 K20
 refine wp_seq_k (fun K22 k22 => ?_)
 refine rg [0, 1, 2, 3, 4, 5, 6, 7] ?_
 refine sv 61 (.string ⟨(D : List UInt8).toArray⟩) ?_
 simp only [p3, p4]
 refine se ?_
 refine ec 62 (parse_bad (D) (by omega) h2b h5 _) ?_
 rintro e23 w23 ⟨rfl, g23⟩
 refine ⟨_, rfl, ?_⟩
 replace hB := hB.trans g23
 simp only [p3, p4]
 refine sv 60 (.tuple #[(.agg #[(.bool false), (.slice none 0 0)]), (.int .i64 3)]) ?_
 simp only [p3, p4]
 refine sv 63 (.agg #[(.bool false), (.slice none 0 0)]) ?_
 simp only [p3, p4]
 refine sv 64 (.int .i64 3) ?_
 simp only [p3, p4]
 refine se ?_
 refine ea 28 #[(.bool false), (.slice none 0 0)] 12 hB fun b24 w24 g24 L24 o24 q24 hB => ?_
 replace L2 := (st17.lc (L2.gr g16) ne2_16).gr g23
 have ne2_24 := L2.ne o24
 replace L16 := L16.gr g23
 have ne16_24 := L16.ne o24
 simp only [p3, p4]
 refine se ?_
 refine es 28 0 (.agg #[(.bool false), (.slice none 0 0)]) [(.bool false), (.slice none 0 0)] #[(.bool false), (.slice none 0 0)] L24 hB q24 ⟨rfl, rfl, trivial⟩ fun w25 st25 kp25 L24 hB => ?_
 refine sv 11 (.int .i64 3) ?_
 simp only [p3, p4]
 refine sq_nil ?_
 refine k22 _ _ ?_
 try clear k22 K22
 refine wp_seq_k (fun K26 k26 => ?_)
 refine wp_seq_k (fun K27 k27 => ?_)
 have gd29 := Gr.drew w25
 replace hB := hB.trans gd29
 replace L16 := (st25.lc (L16.gr g24) ne16_24).gr gd29
 replace L24 := L24.gr gd29
 refine wp_region_ord (fun w' => Lc w' b16 #[x15, y15] 28 ∧ Lc w' b24 #[(.bool false), (.slice none 0 0)] 28) [(true, 0), (true, 1), (true, 2), (true, 3), (false, 4), (false, 5), (true, 6), (true, 7), (true, 8), (true, 9), (true, 10), (false, 11), (false, 12), (false, 13), (true, 14), (true, 15)] (by kernel_rfl) (by kernel_rfl) (by kernel_rfl) (by decide) (fun _ _ _ _ _ h => h) ⟨L16, L24⟩ ?_
 refine ov 65 (.int .i64 3) ?_
 simp only [p3, p4]
 refine ov 66 (.bool true) ?_
 simp only [p3, p4]
 refine ov 67 (.bool true) ?_
 simp only [p3, p4]
 refine os 68 ?_
 simp only [p3, p4]
 refine oz 69 ⟨L16, L24⟩ ?_
 simp only [p3, p4]
 refine oz 70 ⟨L16, L24⟩ ?_
 simp only [p3, p4]
 refine os 71 ?_
 simp only [p3, p4]
 refine ov 72 (.bool true) ?_
 simp only [p3, p4]
 refine ov 73 (.bool true) ?_
 simp only [p3, p4]
 refine os 74 ?_
 simp only [p3, p4]
 refine os 75 ?_
 simp only [p3, p4]
 refine oz 76 ⟨L16, L24⟩ ?_
 simp only [p3, p4]
 refine oz 77 ⟨L16, L24⟩ ?_
 simp only [p3, p4]
 refine oz 78 ⟨L16, L24⟩ ?_
 simp only [p3, p4]
 refine os 79 ?_
 simp only [p3, p4]
 refine ov 80 (.bool true) ?_
 simp only [p3, p4]
 refine ord_nil ?_
 refine k27 _ _ ?_
 try clear k27 K27
 refine wp_cond_true rfl ?_
 refine wp_seq_k (fun K30 k30 => ?_)
 refine rg [0, 1, 2] ?_
 refine sv 81 (.agg #[(.bool false), (.slice none 0 0), (.bool false), (.slice none 0 0)]) ?_
 simp only [p3, p4]
 refine se ?_
 replace L2 := (st25.lc (L2.gr g24) ne2_24).gr gd29
 refine es 30 0 (.agg #[(.bool false), (.slice none 0 0), (.bool false), (.slice none 0 0)]) [(.bool false), (.slice none 0 0), (.bool false), (.slice none 0 0)] #[(.bool false), (.slice none 0 0), (.bool false), (.slice none 0 0)] L2 hB q2 ⟨rfl, rfl, rfl, rfl, trivial⟩ fun w31 st31 kp31 L2 hB => ?_
 refine sv 5 (.int .i64 3) ?_
 simp only [p3, p4]
 refine sq_nil ?_
 refine k30 _ _ ?_
 try clear k30 K30
 refine wp_ret ?_
 simp only [Exit.then]
 refine bodyPost_ret (v := (.tuple #[(.agg #[(.bool false), (.slice none 0 0), (.bool false), (.slice none 0 0)]), (.int .i64 3)])) (ret_cell_tmp' _ _ _ rfl rfl L2 (by kernel_rfl) rfl) rfl ⟨?_, hB⟩
 exact rfl

set_option maxRecDepth 100000 in
set_option maxHeartbeats 1000000 in
theorem read_g1 (X : List UInt8) (z d : Int) (most : Int) (_hx : X.length ≤ 14000) (_hlong : (X.length : Int) ≤ most) (hc : cutL X = (Lib.itoa (z), some (Lib.itoa (d)))) (_hA : (Lib.itoa (z)).length ≤ X.length) (_hD : (Lib.itoa (d)).length ≤ X.length) (h2 : allD (Lib.itoa d) = true) (h3 : zerosL (Lib.itoa d) = false) (h5 : d = 1) (w : World) (hm : Mx w) :
    Calls Tryz.prog 94 #[(.string ⟨(X : List UInt8).toArray⟩), (.int .i64 (most))] w fun e w' => e = .returned (.tuple #[.agg #[.bool false, .slice none 0 0, .bool false, .slice none 0 0], .int .i64 3]) ∧ Gr w w' := by
 have hl : decide (most < ((X).length : Int)) = false := by simp; omega
 have hsA : (strip (Lib.itoa (z))).length ≤ (Lib.itoa (z)).length := strip_len _
 have h1 : allD (strip (Lib.itoa (z))) = true := by rw [strip_itoa]; exact allD_dec _
 have h4 : ((Lib.trimS (Lib.itoa (d)) [48]) == ([] : List UInt8)) = false := by rw [← zeros_trim]; exact h3
 have h6 : (sgn (d - 1) == (0 : Int)) = true := by rw [h5]; rfl
 go_enter Tryz.func94, Tryz.ntmps94
 have hB := Gr.refl w
 refine wp_seq_k (fun K1 k1 => ?_)
 refine rg [0, 1] ?_
 refine se ?_
 refine ea 30 #[(.bool false), (.slice none 0 0), (.bool false), (.slice none 0 0)] 4 hB fun b2 w2 g2 L2 o2 q2 hB => ?_
 simp only [p3, p4]
 refine sv 5 (.int .i64 0) ?_
 simp only [p3, p4]
 refine sq_nil ?_
 refine k1 _ _ ?_
 try clear k1 K1
 refine wp_seq_k (fun K3 k3 => ?_)
 refine rg [0, 1] ?_
 refine sv 13 (.string ⟨(X : List UInt8).toArray⟩) ?_
 simp only [p3, p4]
 refine sv 6 (.string ⟨(X : List UInt8).toArray⟩) ?_
 simp only [p3, p4]
 refine sq_nil ?_
 refine k3 _ _ ?_
 try clear k3 K3
 refine wp_seq_k (fun K4 k4 => ?_)
 refine rg [0, 1, 2, 3, 4, 5, 6, 7, 8] ?_
 refine sv 15 (.string ⟨(X : List UInt8).toArray⟩) ?_
 simp only [p3, p4]
 refine se ?_
 refine ec 16 (cut_yes (X) (Lib.itoa (z)) (Lib.itoa (d)) (by omega) hc (hm.gr hB)) ?_
 rintro e5 w5 ⟨rfl, g5⟩
 refine ⟨_, rfl, ?_⟩
 replace hB := hB.trans g5
 simp only [p3, p4]
 refine sv 14 (.tuple #[(.string ⟨(Lib.itoa (z) : List UInt8).toArray⟩), (.string ⟨(Lib.itoa (d) : List UInt8).toArray⟩), (.bool true)]) ?_
 simp only [p3, p4]
 refine sv 17 (.string ⟨(Lib.itoa (z) : List UInt8).toArray⟩) ?_
 simp only [p3, p4]
 refine sv 18 (.string ⟨(Lib.itoa (d) : List UInt8).toArray⟩) ?_
 simp only [p3, p4]
 refine sv 19 (.bool true) ?_
 simp only [p3, p4]
 refine sv 7 (.string ⟨(Lib.itoa (z) : List UInt8).toArray⟩) ?_
 simp only [p3, p4]
 refine sv 8 (.string ⟨(Lib.itoa (d) : List UInt8).toArray⟩) ?_
 simp only [p3, p4]
 refine sv 9 (.bool true) ?_
 simp only [p3, p4]
 refine sq_nil ?_
 refine k4 _ _ ?_
 try clear k4 K4
 refine wp_seq_k (fun K6 k6 => ?_)
 refine wp_block ?_
 refine wp_seq_k (fun K7 k7 => ?_)
 refine rg [0, 1, 2, 3, 4] ?_
 refine sv 21 (.string ⟨(X : List UInt8).toArray⟩) ?_
 simp only [p3, p4]
 refine sv 22 (.int .i64 (((X).length : Int))) ?_
 simp only [p3, p4]
 refine sv 23 (.int .i64 (most)) ?_
 simp only [p3, p4]
 refine sw 24 (.bool false) rfl (RunV.bool (x := decide (most < ((X).length : Int))) (rvk (by kernel_rfl)) hl) ?_
 simp only [p3, p4]
 refine sv 20 (.bool false) ?_
 simp only [p3, p4]
 refine sq_nil ?_
 refine k7 _ _ ?_
 try clear k7 K7
 refine wp_cond_false rfl ?_
 refine wp_seq_k (fun K8 k8 => ?_)
 refine rg [0, 1, 2, 3, 4, 5, 6, 7, 8, 9, 10, 11, 12] ?_
 refine sv 27 (.string ⟨(Lib.itoa (z) : List UInt8).toArray⟩) ?_
 simp only [p3, p4]
 refine se ?_
 refine ec 28 (trimprefix_any (Lib.itoa (z)) _) ?_
 rintro e9 w9 ⟨rfl, g9⟩
 refine ⟨_, rfl, ?_⟩
 replace hB := hB.trans g9
 simp only [p3, p4]
 refine se ?_
 refine ec 29 (rdigits_a (strip (Lib.itoa (z))) (by omega) _) ?_
 rintro e10 w10 ⟨rfl, g10⟩
 refine ⟨_, rfl, ?_⟩
 replace hB := hB.trans g10
 simp only [p3, p4]
 refine sw 30 (.bool false) rfl (RunV.bool (x := !(allD (strip (Lib.itoa (z))))) (rvk (by kernel_rfl)) (show (!(allD (strip (Lib.itoa (z))))) = false by rw [h1]; rfl)) ?_
 simp only [p3, p4]
 refine sv 31 (.bool false) ?_
 simp only [p3, p4]
 refine sv 32 (.bool true) ?_
 simp only [p3, p4]
 refine sv 33 (.bool true) ?_
 simp only [p3, p4]
 refine sv 34 (.string ⟨(Lib.itoa (d) : List UInt8).toArray⟩) ?_
 simp only [p3, p4]
 refine se ?_
 refine ec 35 (rdigits_a (Lib.itoa (d)) (by omega) _) ?_
 rintro e11 w11 ⟨rfl, g11⟩
 refine ⟨_, rfl, ?_⟩
 replace hB := hB.trans g11
 simp only [p3, p4]
 refine sw 36 (.bool false) rfl (RunV.bool (x := !(allD (Lib.itoa (d)))) (rvk (by kernel_rfl)) (show (!(allD (Lib.itoa (d)))) = false by rw [h2]; rfl)) ?_
 simp only [p3, p4]
 refine sv 37 (.bool false) ?_
 simp only [p3, p4]
 refine sv 38 (.bool false) ?_
 simp only [p3, p4]
 refine sv 26 (.bool false) ?_
 simp only [p3, p4]
 refine sq_nil ?_
 refine k8 _ _ ?_
 try clear k8 K8
 refine wp_cond_false rfl ?_
 refine wp_seq_k (fun K12 k12 => ?_)
 refine rg [0, 1, 2, 3, 4, 5, 6] ?_
 refine sv 41 (.bool true) ?_
 simp only [p3, p4]
 refine sv 42 (.bool true) ?_
 simp only [p3, p4]
 refine sv 43 (.string ⟨(Lib.itoa (d) : List UInt8).toArray⟩) ?_
 simp only [p3, p4]
 refine se ?_
 refine ec 44 (trim_any0 (Lib.itoa (d)) (by omega) _) ?_
 rintro e13 w13 ⟨rfl, g13⟩
 refine ⟨_, rfl, ?_⟩
 replace hB := hB.trans g13
 simp only [p3, p4]
 refine sw 45 (.bool false) rfl (RunV.bool (x := ((Lib.trimS (Lib.itoa (d)) [48]) == ([] : List UInt8))) (rv_seq 9 9 _ _ (Lib.trimS (Lib.itoa (d)) [48]) ([]) rfl rfl rfl) h4) ?_
 simp only [p3, p4]
 refine sv 46 (.bool false) ?_
 simp only [p3, p4]
 refine sv 40 (.bool false) ?_
 simp only [p3, p4]
 refine sq_nil ?_
 refine k12 _ _ ?_
 try clear k12 K12
 refine wp_cond_false rfl ?_
 refine wp_skip ?_
 refine k6 _ _ ?_
 try clear k6 K6
 refine wp_seq_k (fun K14 k14 => ?_)
 refine rg [0, 1, 2, 3, 4, 5, 6, 7] ?_
 refine sv 49 (.string ⟨(Lib.itoa (z) : List UInt8).toArray⟩) ?_
 simp only [p3, p4]
 refine se ?_
 refine ec 50 (parse_i (z) (itoa_sz (z) (m := 14000) (by omega)) (by omega) _) ?_
 rintro e15 w15 ⟨⟨x15, y15, rfl, h15⟩, g15⟩
 refine ⟨_, rfl, ?_⟩
 replace hB := hB.trans g15
 simp only [p3, p4]
 refine sv 48 (.tuple #[(.agg #[x15, y15]), (.int .i64 0)]) ?_
 simp only [p3, p4]
 refine sv 51 (.agg #[x15, y15]) ?_
 simp only [p3, p4]
 refine sv 52 (.int .i64 0) ?_
 simp only [p3, p4]
 refine se ?_
 refine ea 28 #[(.bool false), (.slice none 0 0)] 10 hB fun b16 w16 g16 L16 o16 q16 hB => ?_
 replace L2 := L2.gr (g5.trans (g9.trans (g10.trans (g11.trans (g13.trans g15)))))
 have ne2_16 := L2.ne o16
 simp only [p3, p4]
 refine se ?_
 refine es 28 0 (.agg #[x15, y15]) [x15, y15] #[x15, y15] L16 hB q16 ⟨h15.one0, h15.one1, trivial⟩ fun w17 st17 kp17 L16 hB => ?_
 refine sv 11 (.int .i64 0) ?_
 simp only [p3, p4]
 refine sq_nil ?_
 refine k14 _ _ ?_
 try clear k14 K14
 refine wp_seq_k (fun K18 k18 => ?_)
 refine wp_seq_k (fun K19 k19 => ?_)
 refine rg [0, 1] ?_
 refine sv 53 (.int .i64 0) ?_
 simp only [p3, p4]
 refine sv 54 (.bool false) ?_
 simp only [p3, p4]
 refine sq_nil ?_
 refine k19 _ _ ?_
 try clear k19 K19
 refine wp_cond_false rfl ?_
 refine wp_skip ?_
 refine k18 _ _ ?_
 try clear k18 K18
 refine wp_seq_k (fun K20 k20 => ?_)
 refine wp_seq_k (fun K21 k21 => ?_)
 refine rg [0, 1] ?_
 refine sv 56 (.bool true) ?_
 simp only [p3, p4]
 refine sv 57 (.bool false) ?_
 simp only [p3, p4]
 refine sq_nil ?_
 refine k21 _ _ ?_
 try clear k21 K21
 refine wp_cond_false rfl ?_
 refine wp_skip ?_
 refine k20 _ _ ?_
 try clear k20 K20
 refine wp_seq_k (fun K22 k22 => ?_)
 refine rg [0, 1, 2, 3, 4, 5, 6, 7] ?_
 refine sv 61 (.string ⟨(Lib.itoa (d) : List UInt8).toArray⟩) ?_
 simp only [p3, p4]
 refine se ?_
 refine ec 62 (parse_i (d) (itoa_sz (d) (m := 14000) (by omega)) (by omega) _) ?_
 rintro e23 w23 ⟨⟨x23, y23, rfl, h23⟩, g23⟩
 refine ⟨_, rfl, ?_⟩
 replace hB := hB.trans g23
 simp only [p3, p4]
 refine sv 60 (.tuple #[(.agg #[x23, y23]), (.int .i64 0)]) ?_
 simp only [p3, p4]
 refine sv 63 (.agg #[x23, y23]) ?_
 simp only [p3, p4]
 refine sv 64 (.int .i64 0) ?_
 simp only [p3, p4]
 refine se ?_
 refine ea 28 #[(.bool false), (.slice none 0 0)] 12 hB fun b24 w24 g24 L24 o24 q24 hB => ?_
 replace L2 := (st17.lc (L2.gr g16) ne2_16).gr g23
 have ne2_24 := L2.ne o24
 replace L16 := L16.gr g23
 have ne16_24 := L16.ne o24
 simp only [p3, p4]
 refine se ?_
 refine es 28 0 (.agg #[x23, y23]) [x23, y23] #[x23, y23] L24 hB q24 ⟨h23.one0, h23.one1, trivial⟩ fun w25 st25 kp25 L24 hB => ?_
 refine sv 11 (.int .i64 0) ?_
 simp only [p3, p4]
 refine sq_nil ?_
 refine k22 _ _ ?_
 try clear k22 K22
 refine wp_seq_k (fun K26 k26 => ?_)
 refine wp_seq_k (fun K27 k27 => ?_)
 have gd34 := Gr.drew w25
 replace hB := hB.trans gd34
 replace L16 := (st25.lc (L16.gr g24) ne16_24).gr gd34
 replace L24 := L24.gr gd34
 refine wp_region_ord (fun w' => Lc w' b16 #[x15, y15] 28 ∧ Lc w' b24 #[x23, y23] 28) [(true, 0), (true, 1), (true, 2), (true, 3), (false, 4), (false, 5), (true, 6), (true, 7), (true, 8), (true, 9), (true, 10), (false, 11), (false, 12), (false, 13), (true, 14), (true, 15)] (by kernel_rfl) (by kernel_rfl) (by kernel_rfl) (by decide) (fun _ _ _ _ _ h => h) ⟨L16, L24⟩ ?_
 refine ov 65 (.int .i64 0) ?_
 simp only [p3, p4]
 refine ov 66 (.bool false) ?_
 simp only [p3, p4]
 refine ov 67 (.bool false) ?_
 simp only [p3, p4]
 refine ow 68 (.agg #[x23, y23]) rfl (fun w' hS => (rl 28 0 [x23, y23] hS.2)) ?_
 simp only [p3, p4]
 refine oe ?_
 refine ec 69 (one_i _) ?_
 rintro e36 w36 ⟨⟨x36, y36, rfl, h36⟩, g36⟩
 refine ⟨_, rfl, ?_⟩
 replace hB := hB.trans g36
 replace L16 := L16.gr g36
 replace L24 := L24.gr g36
 refine ⟨⟨L16, L24⟩, ?_⟩
 simp only [p3, p4]
 refine oe ?_
 have kq39 := g24.kp.trans (kp25.trans (gd34.kp.trans g36.kp))
 replace h23 := h23.kp kq39
 refine ec 70 (compare_i h23 h36 (by omega) (by omega)) ?_
 rintro e38 w38 ⟨rfl, g38⟩
 refine ⟨_, rfl, ?_⟩
 replace hB := hB.trans g38
 replace L16 := L16.gr g38
 replace L24 := L24.gr g38
 refine ⟨⟨L16, L24⟩, ?_⟩
 simp only [p3, p4]
 refine ow 71 (.bool true) rfl (fun w' hS => (RunV.bool (x := (sgn (d - 1) == (0 : Int))) (rvk (by kernel_rfl)) h6)) ?_
 simp only [p3, p4]
 refine ov 72 (.bool true) ?_
 simp only [p3, p4]
 refine ov 73 (.bool true) ?_
 simp only [p3, p4]
 refine os 74 ?_
 simp only [p3, p4]
 refine os 75 ?_
 simp only [p3, p4]
 refine oz 76 ⟨L16, L24⟩ ?_
 simp only [p3, p4]
 refine oz 77 ⟨L16, L24⟩ ?_
 simp only [p3, p4]
 refine oz 78 ⟨L16, L24⟩ ?_
 simp only [p3, p4]
 refine os 79 ?_
 simp only [p3, p4]
 refine ov 80 (.bool true) ?_
 simp only [p3, p4]
 refine ord_nil ?_
 refine k27 _ _ ?_
 try clear k27 K27
 refine wp_cond_true rfl ?_
 refine wp_seq_k (fun K40 k40 => ?_)
 refine rg [0, 1, 2] ?_
 refine sv 81 (.agg #[(.bool false), (.slice none 0 0), (.bool false), (.slice none 0 0)]) ?_
 simp only [p3, p4]
 refine se ?_
 replace L2 := (st25.lc (L2.gr g24) ne2_24).gr (gd34.trans (g36.trans g38))
 refine es 30 0 (.agg #[(.bool false), (.slice none 0 0), (.bool false), (.slice none 0 0)]) [(.bool false), (.slice none 0 0), (.bool false), (.slice none 0 0)] #[(.bool false), (.slice none 0 0), (.bool false), (.slice none 0 0)] L2 hB q2 ⟨rfl, rfl, rfl, rfl, trivial⟩ fun w41 st41 kp41 L2 hB => ?_
 refine sv 5 (.int .i64 3) ?_
 simp only [p3, p4]
 refine sq_nil ?_
 refine k40 _ _ ?_
 try clear k40 K40
 refine wp_ret ?_
 simp only [Exit.then]
 refine bodyPost_ret (v := (.tuple #[(.agg #[(.bool false), (.slice none 0 0), (.bool false), (.slice none 0 0)]), (.int .i64 3)])) (ret_cell_tmp' _ _ _ rfl rfl L2 (by kernel_rfl) rfl) rfl ⟨?_, hB⟩
 exact rfl

set_option maxRecDepth 100000 in
set_option maxHeartbeats 1000000 in
theorem read_g2 (X : List UInt8) (z d : Int) (most : Int) (_hx : X.length ≤ 14000) (_hlong : (X.length : Int) ≤ most) (hc : cutL X = (Lib.itoa (z), some (Lib.itoa (d)))) (_hA : (Lib.itoa (z)).length ≤ X.length) (_hD : (Lib.itoa (d)).length ≤ X.length) (h2 : allD (Lib.itoa d) = true) (h3 : zerosL (Lib.itoa d) = false) (h5 : d ≠ 1) (h7 : Int.gcd z d ≠ 1) (w : World) (hm : Mx w) :
    Calls Tryz.prog 94 #[(.string ⟨(X : List UInt8).toArray⟩), (.int .i64 (most))] w fun e w' => e = .returned (.tuple #[.agg #[.bool false, .slice none 0 0, .bool false, .slice none 0 0], .int .i64 3]) ∧ Gr w w' := by
 have hl : decide (most < ((X).length : Int)) = false := by simp; omega
 have hsA : (strip (Lib.itoa (z))).length ≤ (Lib.itoa (z)).length := strip_len _
 have h1 : allD (strip (Lib.itoa (z))) = true := by rw [strip_itoa]; exact allD_dec _
 have h4 : ((Lib.trimS (Lib.itoa (d)) [48]) == ([] : List UInt8)) = false := by rw [← zeros_trim]; exact h3
 have h6 : (sgn (d - 1) == (0 : Int)) = false := by rw [beq_eq_false_iff_ne]; exact fun e => h5 (by have := sgn_eq_zero.1 e; omega)
 have h8 : (sgn ((Int.gcd (z) (d) : Int) - 1) != (0 : Int)) = true := by rw [bne_iff_ne]; exact fun e => h7 (by have := sgn_eq_zero.1 e; omega)
 go_enter Tryz.func94, Tryz.ntmps94
 have hB := Gr.refl w
 refine wp_seq_k (fun K1 k1 => ?_)
 refine rg [0, 1] ?_
 refine se ?_
 refine ea 30 #[(.bool false), (.slice none 0 0), (.bool false), (.slice none 0 0)] 4 hB fun b2 w2 g2 L2 o2 q2 hB => ?_
 simp only [p3, p4]
 refine sv 5 (.int .i64 0) ?_
 simp only [p3, p4]
 refine sq_nil ?_
 refine k1 _ _ ?_
 try clear k1 K1
 refine wp_seq_k (fun K3 k3 => ?_)
 refine rg [0, 1] ?_
 refine sv 13 (.string ⟨(X : List UInt8).toArray⟩) ?_
 simp only [p3, p4]
 refine sv 6 (.string ⟨(X : List UInt8).toArray⟩) ?_
 simp only [p3, p4]
 refine sq_nil ?_
 refine k3 _ _ ?_
 try clear k3 K3
 refine wp_seq_k (fun K4 k4 => ?_)
 refine rg [0, 1, 2, 3, 4, 5, 6, 7, 8] ?_
 refine sv 15 (.string ⟨(X : List UInt8).toArray⟩) ?_
 simp only [p3, p4]
 refine se ?_
 refine ec 16 (cut_yes (X) (Lib.itoa (z)) (Lib.itoa (d)) (by omega) hc (hm.gr hB)) ?_
 rintro e5 w5 ⟨rfl, g5⟩
 refine ⟨_, rfl, ?_⟩
 replace hB := hB.trans g5
 simp only [p3, p4]
 refine sv 14 (.tuple #[(.string ⟨(Lib.itoa (z) : List UInt8).toArray⟩), (.string ⟨(Lib.itoa (d) : List UInt8).toArray⟩), (.bool true)]) ?_
 simp only [p3, p4]
 refine sv 17 (.string ⟨(Lib.itoa (z) : List UInt8).toArray⟩) ?_
 simp only [p3, p4]
 refine sv 18 (.string ⟨(Lib.itoa (d) : List UInt8).toArray⟩) ?_
 simp only [p3, p4]
 refine sv 19 (.bool true) ?_
 simp only [p3, p4]
 refine sv 7 (.string ⟨(Lib.itoa (z) : List UInt8).toArray⟩) ?_
 simp only [p3, p4]
 refine sv 8 (.string ⟨(Lib.itoa (d) : List UInt8).toArray⟩) ?_
 simp only [p3, p4]
 refine sv 9 (.bool true) ?_
 simp only [p3, p4]
 refine sq_nil ?_
 refine k4 _ _ ?_
 try clear k4 K4
 refine wp_seq_k (fun K6 k6 => ?_)
 refine wp_block ?_
 refine wp_seq_k (fun K7 k7 => ?_)
 refine rg [0, 1, 2, 3, 4] ?_
 refine sv 21 (.string ⟨(X : List UInt8).toArray⟩) ?_
 simp only [p3, p4]
 refine sv 22 (.int .i64 (((X).length : Int))) ?_
 simp only [p3, p4]
 refine sv 23 (.int .i64 (most)) ?_
 simp only [p3, p4]
 refine sw 24 (.bool false) rfl (RunV.bool (x := decide (most < ((X).length : Int))) (rvk (by kernel_rfl)) hl) ?_
 simp only [p3, p4]
 refine sv 20 (.bool false) ?_
 simp only [p3, p4]
 refine sq_nil ?_
 refine k7 _ _ ?_
 try clear k7 K7
 refine wp_cond_false rfl ?_
 refine wp_seq_k (fun K8 k8 => ?_)
 refine rg [0, 1, 2, 3, 4, 5, 6, 7, 8, 9, 10, 11, 12] ?_
 refine sv 27 (.string ⟨(Lib.itoa (z) : List UInt8).toArray⟩) ?_
 simp only [p3, p4]
 refine se ?_
 refine ec 28 (trimprefix_any (Lib.itoa (z)) _) ?_
 rintro e9 w9 ⟨rfl, g9⟩
 refine ⟨_, rfl, ?_⟩
 replace hB := hB.trans g9
 simp only [p3, p4]
 refine se ?_
 refine ec 29 (rdigits_a (strip (Lib.itoa (z))) (by omega) _) ?_
 rintro e10 w10 ⟨rfl, g10⟩
 refine ⟨_, rfl, ?_⟩
 replace hB := hB.trans g10
 simp only [p3, p4]
 refine sw 30 (.bool false) rfl (RunV.bool (x := !(allD (strip (Lib.itoa (z))))) (rvk (by kernel_rfl)) (show (!(allD (strip (Lib.itoa (z))))) = false by rw [h1]; rfl)) ?_
 simp only [p3, p4]
 refine sv 31 (.bool false) ?_
 simp only [p3, p4]
 refine sv 32 (.bool true) ?_
 simp only [p3, p4]
 refine sv 33 (.bool true) ?_
 simp only [p3, p4]
 refine sv 34 (.string ⟨(Lib.itoa (d) : List UInt8).toArray⟩) ?_
 simp only [p3, p4]
 refine se ?_
 refine ec 35 (rdigits_a (Lib.itoa (d)) (by omega) _) ?_
 rintro e11 w11 ⟨rfl, g11⟩
 refine ⟨_, rfl, ?_⟩
 replace hB := hB.trans g11
 simp only [p3, p4]
 refine sw 36 (.bool false) rfl (RunV.bool (x := !(allD (Lib.itoa (d)))) (rvk (by kernel_rfl)) (show (!(allD (Lib.itoa (d)))) = false by rw [h2]; rfl)) ?_
 simp only [p3, p4]
 refine sv 37 (.bool false) ?_
 simp only [p3, p4]
 refine sv 38 (.bool false) ?_
 simp only [p3, p4]
 refine sv 26 (.bool false) ?_
 simp only [p3, p4]
 refine sq_nil ?_
 refine k8 _ _ ?_
 try clear k8 K8
 refine wp_cond_false rfl ?_
 refine wp_seq_k (fun K12 k12 => ?_)
 refine rg [0, 1, 2, 3, 4, 5, 6] ?_
 refine sv 41 (.bool true) ?_
 simp only [p3, p4]
 refine sv 42 (.bool true) ?_
 simp only [p3, p4]
 refine sv 43 (.string ⟨(Lib.itoa (d) : List UInt8).toArray⟩) ?_
 simp only [p3, p4]
 refine se ?_
 refine ec 44 (trim_any0 (Lib.itoa (d)) (by omega) _) ?_
 rintro e13 w13 ⟨rfl, g13⟩
 refine ⟨_, rfl, ?_⟩
 replace hB := hB.trans g13
 simp only [p3, p4]
 refine sw 45 (.bool false) rfl (RunV.bool (x := ((Lib.trimS (Lib.itoa (d)) [48]) == ([] : List UInt8))) (rv_seq 9 9 _ _ (Lib.trimS (Lib.itoa (d)) [48]) ([]) rfl rfl rfl) h4) ?_
 simp only [p3, p4]
 refine sv 46 (.bool false) ?_
 simp only [p3, p4]
 refine sv 40 (.bool false) ?_
 simp only [p3, p4]
 refine sq_nil ?_
 refine k12 _ _ ?_
 try clear k12 K12
 refine wp_cond_false rfl ?_
 refine wp_skip ?_
 refine k6 _ _ ?_
 try clear k6 K6
 refine wp_seq_k (fun K14 k14 => ?_)
 refine rg [0, 1, 2, 3, 4, 5, 6, 7] ?_
 refine sv 49 (.string ⟨(Lib.itoa (z) : List UInt8).toArray⟩) ?_
 simp only [p3, p4]
 refine se ?_
 refine ec 50 (parse_i (z) (itoa_sz (z) (m := 14000) (by omega)) (by omega) _) ?_
 rintro e15 w15 ⟨⟨x15, y15, rfl, h15⟩, g15⟩
 refine ⟨_, rfl, ?_⟩
 replace hB := hB.trans g15
 simp only [p3, p4]
 refine sv 48 (.tuple #[(.agg #[x15, y15]), (.int .i64 0)]) ?_
 simp only [p3, p4]
 refine sv 51 (.agg #[x15, y15]) ?_
 simp only [p3, p4]
 refine sv 52 (.int .i64 0) ?_
 simp only [p3, p4]
 refine se ?_
 refine ea 28 #[(.bool false), (.slice none 0 0)] 10 hB fun b16 w16 g16 L16 o16 q16 hB => ?_
 replace L2 := L2.gr (g5.trans (g9.trans (g10.trans (g11.trans (g13.trans g15)))))
 have ne2_16 := L2.ne o16
 simp only [p3, p4]
 refine se ?_
 refine es 28 0 (.agg #[x15, y15]) [x15, y15] #[x15, y15] L16 hB q16 ⟨h15.one0, h15.one1, trivial⟩ fun w17 st17 kp17 L16 hB => ?_
 refine sv 11 (.int .i64 0) ?_
 simp only [p3, p4]
 refine sq_nil ?_
 refine k14 _ _ ?_
 try clear k14 K14
 refine wp_seq_k (fun K18 k18 => ?_)
 refine wp_seq_k (fun K19 k19 => ?_)
 refine rg [0, 1] ?_
 refine sv 53 (.int .i64 0) ?_
 simp only [p3, p4]
 refine sv 54 (.bool false) ?_
 simp only [p3, p4]
 refine sq_nil ?_
 refine k19 _ _ ?_
 try clear k19 K19
 refine wp_cond_false rfl ?_
 refine wp_skip ?_
 refine k18 _ _ ?_
 try clear k18 K18
 refine wp_seq_k (fun K20 k20 => ?_)
 refine wp_seq_k (fun K21 k21 => ?_)
 refine rg [0, 1] ?_
 refine sv 56 (.bool true) ?_
 simp only [p3, p4]
 refine sv 57 (.bool false) ?_
 simp only [p3, p4]
 refine sq_nil ?_
 refine k21 _ _ ?_
 try clear k21 K21
 refine wp_cond_false rfl ?_
 refine wp_skip ?_
 refine k20 _ _ ?_
 try clear k20 K20
 refine wp_seq_k (fun K22 k22 => ?_)
 refine rg [0, 1, 2, 3, 4, 5, 6, 7] ?_
 refine sv 61 (.string ⟨(Lib.itoa (d) : List UInt8).toArray⟩) ?_
 simp only [p3, p4]
 refine se ?_
 refine ec 62 (parse_i (d) (itoa_sz (d) (m := 14000) (by omega)) (by omega) _) ?_
 rintro e23 w23 ⟨⟨x23, y23, rfl, h23⟩, g23⟩
 refine ⟨_, rfl, ?_⟩
 replace hB := hB.trans g23
 simp only [p3, p4]
 refine sv 60 (.tuple #[(.agg #[x23, y23]), (.int .i64 0)]) ?_
 simp only [p3, p4]
 refine sv 63 (.agg #[x23, y23]) ?_
 simp only [p3, p4]
 refine sv 64 (.int .i64 0) ?_
 simp only [p3, p4]
 refine se ?_
 refine ea 28 #[(.bool false), (.slice none 0 0)] 12 hB fun b24 w24 g24 L24 o24 q24 hB => ?_
 replace L2 := (st17.lc (L2.gr g16) ne2_16).gr g23
 have ne2_24 := L2.ne o24
 replace L16 := L16.gr g23
 have ne16_24 := L16.ne o24
 simp only [p3, p4]
 refine se ?_
 refine es 28 0 (.agg #[x23, y23]) [x23, y23] #[x23, y23] L24 hB q24 ⟨h23.one0, h23.one1, trivial⟩ fun w25 st25 kp25 L24 hB => ?_
 refine sv 11 (.int .i64 0) ?_
 simp only [p3, p4]
 refine sq_nil ?_
 refine k22 _ _ ?_
 try clear k22 K22
 refine wp_seq_k (fun K26 k26 => ?_)
 refine wp_seq_k (fun K27 k27 => ?_)
 have gd41 := Gr.drew w25
 replace hB := hB.trans gd41
 replace L16 := (st25.lc (L16.gr g24) ne16_24).gr gd41
 replace L24 := L24.gr gd41
 refine wp_region_ord (fun w' => Lc w' b16 #[x15, y15] 28 ∧ Lc w' b24 #[x23, y23] 28) [(true, 0), (true, 1), (true, 2), (true, 3), (false, 4), (false, 5), (true, 6), (true, 7), (true, 8), (true, 9), (true, 10), (false, 11), (false, 12), (false, 13), (true, 14), (true, 15)] (by kernel_rfl) (by kernel_rfl) (by kernel_rfl) (by decide) (fun _ _ _ _ _ h => h) ⟨L16, L24⟩ ?_
 refine ov 65 (.int .i64 0) ?_
 simp only [p3, p4]
 refine ov 66 (.bool false) ?_
 simp only [p3, p4]
 refine ov 67 (.bool false) ?_
 simp only [p3, p4]
 refine ow 68 (.agg #[x23, y23]) rfl (fun w' hS => (rl 28 0 [x23, y23] hS.2)) ?_
 simp only [p3, p4]
 refine oe ?_
 refine ec 69 (one_i _) ?_
 rintro e43 w43 ⟨⟨x43, y43, rfl, h43⟩, g43⟩
 refine ⟨_, rfl, ?_⟩
 replace hB := hB.trans g43
 replace L16 := L16.gr g43
 replace L24 := L24.gr g43
 refine ⟨⟨L16, L24⟩, ?_⟩
 simp only [p3, p4]
 refine oe ?_
 have kq46 := g24.kp.trans (kp25.trans (gd41.kp.trans g43.kp))
 replace h23 := h23.kp kq46
 refine ec 70 (compare_i h23 h43 (by omega) (by omega)) ?_
 rintro e45 w45 ⟨rfl, g45⟩
 refine ⟨_, rfl, ?_⟩
 replace hB := hB.trans g45
 replace L16 := L16.gr g45
 replace L24 := L24.gr g45
 refine ⟨⟨L16, L24⟩, ?_⟩
 simp only [p3, p4]
 refine ow 71 (.bool false) rfl (fun w' hS => (RunV.bool (x := (sgn (d - 1) == (0 : Int))) (rvk (by kernel_rfl)) h6)) ?_
 simp only [p3, p4]
 refine ov 72 (.bool false) ?_
 simp only [p3, p4]
 refine ov 73 (.bool false) ?_
 simp only [p3, p4]
 refine ow 74 (.agg #[x15, y15]) rfl (fun w' hS => (rl 28 0 [x15, y15] hS.1)) ?_
 simp only [p3, p4]
 refine ow 75 (.agg #[x23, y23]) rfl (fun w' hS => (rl 28 0 [x23, y23] hS.2)) ?_
 simp only [p3, p4]
 refine oe ?_
 have kq49 := g16.kp.trans (kp17.trans (g23.kp.trans (g24.kp.trans (kp25.trans (gd41.kp.trans (g43.kp.trans g45.kp))))))
 replace h15 := h15.kp kq49
 replace h23 := h23.kp g45.kp
 refine ec 76 (gcd_i h15 h23 (by omega)) ?_
 rintro e48 w48 ⟨⟨x48, y48, rfl, h48⟩, g48⟩
 refine ⟨_, rfl, ?_⟩
 replace hB := hB.trans g48
 replace L16 := L16.gr g48
 replace L24 := L24.gr g48
 refine ⟨⟨L16, L24⟩, ?_⟩
 simp only [p3, p4]
 refine oe ?_
 refine ec 77 (one_i _) ?_
 rintro e51 w51 ⟨⟨x51, y51, rfl, h51⟩, g51⟩
 refine ⟨_, rfl, ?_⟩
 replace hB := hB.trans g51
 replace L16 := L16.gr g51
 replace L24 := L24.gr g51
 refine ⟨⟨L16, L24⟩, ?_⟩
 simp only [p3, p4]
 refine oe ?_
 replace h48 := h48.kp g51.kp
 refine ec 78 (compare_i h48 h51 (by omega) (by omega)) ?_
 rintro e53 w53 ⟨rfl, g53⟩
 refine ⟨_, rfl, ?_⟩
 replace hB := hB.trans g53
 replace L16 := L16.gr g53
 replace L24 := L24.gr g53
 refine ⟨⟨L16, L24⟩, ?_⟩
 simp only [p3, p4]
 refine ow 79 (.bool true) rfl (fun w' hS => (RunV.bool (x := (sgn ((Int.gcd (z) (d) : Int) - 1) != (0 : Int))) (rvk (by kernel_rfl)) h8)) ?_
 simp only [p3, p4]
 refine ov 80 (.bool true) ?_
 simp only [p3, p4]
 refine ord_nil ?_
 refine k27 _ _ ?_
 try clear k27 K27
 refine wp_cond_true rfl ?_
 refine wp_seq_k (fun K54 k54 => ?_)
 refine rg [0, 1, 2] ?_
 refine sv 81 (.agg #[(.bool false), (.slice none 0 0), (.bool false), (.slice none 0 0)]) ?_
 simp only [p3, p4]
 refine se ?_
 replace L2 := (st25.lc (L2.gr g24) ne2_24).gr (gd41.trans (g43.trans (g45.trans (g48.trans (g51.trans g53)))))
 refine es 30 0 (.agg #[(.bool false), (.slice none 0 0), (.bool false), (.slice none 0 0)]) [(.bool false), (.slice none 0 0), (.bool false), (.slice none 0 0)] #[(.bool false), (.slice none 0 0), (.bool false), (.slice none 0 0)] L2 hB q2 ⟨rfl, rfl, rfl, rfl, trivial⟩ fun w55 st55 kp55 L2 hB => ?_
 refine sv 5 (.int .i64 3) ?_
 simp only [p3, p4]
 refine sq_nil ?_
 refine k54 _ _ ?_
 try clear k54 K54
 refine wp_ret ?_
 simp only [Exit.then]
 refine bodyPost_ret (v := (.tuple #[(.agg #[(.bool false), (.slice none 0 0), (.bool false), (.slice none 0 0)]), (.int .i64 3)])) (ret_cell_tmp' _ _ _ rfl rfl L2 (by kernel_rfl) rfl) rfl ⟨?_, hB⟩
 exact rfl

theorem read_bad (X : List UInt8) (most : Nat) (hx : X.length ≤ 14000) (h : ck2 X most ≠ 0) (w : World) (hm : Mx w) :
    Calls Tryz.prog 94 #[(.string ⟨(X : List UInt8).toArray⟩), (.int .i64 (most))] w fun e w' => e = .returned (.tuple #[.agg #[.bool false, .slice none 0 0, .bool false, .slice none 0 0], .int .i64 (ck2 X most)]) ∧ Gr w w' := by
  by_cases hl : most < X.length
  · have e : ck2 X most = 5 := by unfold ck2; rw [if_pos hl]
    rw [e]; exact read_long X most (by omega) (by omega) w hm
  have hl2 : (X.length : Int) ≤ (most : Int) := by omega
  have hcl := cutL_eq X
  have hnl := numL_len X
  rcases hcut : cutL X with ⟨A, _ | D⟩
  · rw [hcut] at hcl hnl
    obtain rfl : X = A := hcl
    have hn : numL X = X := by unfold numL; rw [hcut]
    have hd : denL X = [49] := by unfold denL; rw [hcut]; rfl
    unfold ck2 at h ⊢
    rw [if_neg hl, hn, hd] at h ⊢
    rw [show allD [49] = true from by decide, Bool.and_true] at h ⊢
    by_cases h1 : allD (strip X) = true
    · rw [if_neg (by rw [h1]; decide), if_neg (by decide)] at h ⊢
      by_cases h2 : badZ X = true
      · rw [if_pos (by rw [h2]; rfl)]
        exact read_nf X most hx hl2 hcut h1 h2 w hm
      · rw [Bool.not_eq_true] at h2
        rw [if_neg (by rw [h2]; decide), if_neg (by simp)] at h
        exact absurd rfl h
    · rw [Bool.not_eq_true] at h1
      rw [if_pos h1]
      exact read_ns X most hx hl2 hcut h1 w hm
  · rw [hcut] at hcl hnl
    dsimp only at hcl
    have hn : numL X = A := by unfold numL; rw [hcut]
    have hd : denL X = D := by unfold denL; rw [hcut]; rfl
    have hlen : X.length = A.length + (D.length + 1) := by rw [hcl]; simp
    have hA : A.length ≤ X.length := by omega
    have hD : D.length ≤ X.length := by omega
    unfold ck2 at h ⊢
    rw [if_neg hl, hn, hd] at h ⊢
    by_cases h1 : allD (strip A) = true
    · by_cases h2 : allD D = true
      · rw [h1, h2, if_neg (by decide)] at h ⊢
        by_cases h3 : zerosL D = true
        · rw [if_pos h3]
          exact read_fz X A D most hx hl2 hcut hA hD h1 h2 h3 w hm
        rw [if_neg h3] at h ⊢
        rw [Bool.not_eq_true] at h3
        by_cases h4 : badZ A = true
        · rw [if_pos (by rw [h4]; rfl)]
          exact read_fb1 X A D most hx hl2 hcut hA hD h1 h2 h3 h4 w hm
        rw [Bool.not_eq_true] at h4
        obtain ⟨z, rfl⟩ := form_itoa h1 h4
        have hz : valZ (Lib.itoa z) = z := valZ_itoa z
        by_cases h5 : (D[0]? == some 48) = true
        · rw [if_pos (by rw [h5, Bool.or_true])]
          exact read_fb2 X D z most hx hl2 hcut hA hD h2 (strip_dig h2) h3 (badZ_head h2 h3 h5) w hm
        rw [Bool.not_eq_true] at h5
        obtain ⟨e1, e2⟩ := den_text h2 h5
        obtain ⟨d, hd1⟩ : ∃ d : Int, d = (valL D : Int) := ⟨_, rfl⟩
        have e3 : Lib.itoa d = D := by rw [hd1, itoa_nonneg (by omega), Int.natAbs_natCast]; exact e1
        subst e3
        have hv : valZ (Lib.itoa d) = d := valZ_itoa d
        rw [if_neg (by rw [h4, h5]; decide), hz, hv] at h ⊢
        have hlt : decide ((Lib.itoa z).length < X.length) = true := by simp; omega
        rw [hlt, Bool.true_and] at h ⊢
        by_cases h6 : d = 1
        · rw [if_pos (by rw [h6, itoa_one]; rfl)]
          exact read_g1 X z d most hx hl2 hcut hA hD h2 h3 h6 w hm
        · by_cases h7 : Int.gcd z d = 1
          · rw [if_neg (by rw [h7]; simp; intro e; exact h6 (itoa_inj (by rw [e, itoa_one])))] at h
            exact absurd rfl h
          · rw [if_pos (by simp [h7])]
            exact read_g2 X z d most hx hl2 hcut hA hD h2 h3 h6 h7 w hm
      · rw [Bool.not_eq_true] at h2
        rw [if_pos (by rw [h2, Bool.and_false])]
        exact read_fs2 X A D most hx hl2 hcut hA hD h1 h2 w hm
    · rw [Bool.not_eq_true] at h1
      rw [if_pos (by rw [h1]; rfl)]
      exact read_fs1 X A D most hx hl2 hcut hA hD h1 w hm

set_option maxRecDepth 100000 in
set_option maxHeartbeats 1000000 in
theorem rparse_bad (X : List UInt8) (hx : X.length ≤ 14000) (h : ck2 X 400 ≠ 0) (w : World) (hm : Mx w) :
    Calls Tryz.prog 60 #[(.string ⟨(X : List UInt8).toArray⟩)] w fun e w' => e = .returned (.tuple #[.agg #[.bool false, .slice none 0 0, .bool false, .slice none 0 0], .int .i64 (ck2 X 400)]) ∧ Gr w w' := by
 go_enter Tryz.func60, Tryz.ntmps60
 have hB := Gr.refl w
 refine wp_seq_k (fun K1 k1 => ?_)
 refine rg [0, 1] ?_
 refine se ?_
 refine ea 30 #[(.bool false), (.slice none 0 0), (.bool false), (.slice none 0 0)] 2 hB fun b2 w2 g2 L2 o2 q2 hB => ?_
 simp only [p3, p4]
 refine sv 3 (.int .i64 0) ?_
 simp only [p3, p4]
 refine sq_nil ?_
 refine k1 _ _ ?_
 try clear k1 K1
 refine wp_seq_k (fun K3 k3 => ?_)
 refine rg [0, 1, 2, 3, 4, 5] ?_
 refine sv 4 (.string ⟨(X : List UInt8).toArray⟩) ?_
 simp only [p3, p4]
 refine se ?_
 refine ec 5 (read_bad X 400 hx h _ (hm.gr hB)) ?_
 rintro e4 w4 ⟨rfl, g4⟩
 refine ⟨_, rfl, ?_⟩
 replace hB := hB.trans g4
 simp only [p3, p4]
 refine sv 6 (.agg #[(.bool false), (.slice none 0 0), (.bool false), (.slice none 0 0)]) ?_
 simp only [p3, p4]
 refine sv 7 (.int .i64 (ck2 X 400)) ?_
 simp only [p3, p4]
 refine se ?_
 replace L2 := L2.gr g4
 refine es 30 0 (.agg #[(.bool false), (.slice none 0 0), (.bool false), (.slice none 0 0)]) [(.bool false), (.slice none 0 0), (.bool false), (.slice none 0 0)] #[(.bool false), (.slice none 0 0), (.bool false), (.slice none 0 0)] L2 hB q2 ⟨rfl, rfl, rfl, rfl, trivial⟩ fun w5 st5 kp5 L2 hB => ?_
 refine sv 3 (.int .i64 (ck2 X 400)) ?_
 simp only [p3, p4]
 refine sq_nil ?_
 refine k3 _ _ ?_
 try clear k3 K3
 refine wp_ret ?_
 refine bodyPost_ret (v := (.tuple #[(.agg #[(.bool false), (.slice none 0 0), (.bool false), (.slice none 0 0)]), (.int .i64 (ck2 X 400))])) (ret_cell_tmp' _ _ _ rfl rfl L2 (by kernel_rfl) rfl) rfl ⟨?_, hB⟩
 exact rfl

set_option maxRecDepth 100000 in
set_option maxHeartbeats 1000000 in
theorem rparse_long (X : List UInt8) (hx : X.length ≤ 1000000) (h : (400 : Int) < (X.length : Int)) (w : World) (hm : Mx w) :
    Calls Tryz.prog 60 #[(.string ⟨(X : List UInt8).toArray⟩)] w fun e w' => e = .returned (.tuple #[.agg #[.bool false, .slice none 0 0, .bool false, .slice none 0 0], .int .i64 5]) ∧ Gr w w' := by
 go_enter Tryz.func60, Tryz.ntmps60
 have hB := Gr.refl w
 refine wp_seq_k (fun K1 k1 => ?_)
 refine rg [0, 1] ?_
 refine se ?_
 refine ea 30 #[(.bool false), (.slice none 0 0), (.bool false), (.slice none 0 0)] 2 hB fun b2 w2 g2 L2 o2 q2 hB => ?_
 simp only [p3, p4]
 refine sv 3 (.int .i64 0) ?_
 simp only [p3, p4]
 refine sq_nil ?_
 refine k1 _ _ ?_
 try clear k1 K1
 refine wp_seq_k (fun K3 k3 => ?_)
 refine rg [0, 1, 2, 3, 4, 5] ?_
 refine sv 4 (.string ⟨(X : List UInt8).toArray⟩) ?_
 simp only [p3, p4]
 refine se ?_
 refine ec 5 (read_long X 400 hx h _ (hm.gr hB)) ?_
 rintro e4 w4 ⟨rfl, g4⟩
 refine ⟨_, rfl, ?_⟩
 replace hB := hB.trans g4
 simp only [p3, p4]
 refine sv 6 (.agg #[(.bool false), (.slice none 0 0), (.bool false), (.slice none 0 0)]) ?_
 simp only [p3, p4]
 refine sv 7 (.int .i64 5) ?_
 simp only [p3, p4]
 refine se ?_
 replace L2 := L2.gr g4
 refine es 30 0 (.agg #[(.bool false), (.slice none 0 0), (.bool false), (.slice none 0 0)]) [(.bool false), (.slice none 0 0), (.bool false), (.slice none 0 0)] #[(.bool false), (.slice none 0 0), (.bool false), (.slice none 0 0)] L2 hB q2 ⟨rfl, rfl, rfl, rfl, trivial⟩ fun w5 st5 kp5 L2 hB => ?_
 refine sv 3 (.int .i64 5) ?_
 simp only [p3, p4]
 refine sq_nil ?_
 refine k3 _ _ ?_
 try clear k3 K3
 refine wp_ret ?_
 refine bodyPost_ret (v := (.tuple #[(.agg #[(.bool false), (.slice none 0 0), (.bool false), (.slice none 0 0)]), (.int .i64 5)])) (ret_cell_tmp' _ _ _ rfl rfl L2 (by kernel_rfl) rfl) rfl ⟨?_, hB⟩
 exact rfl

set_option maxRecDepth 100000 in
set_option maxHeartbeats 1000000 in
theorem rread_bad (X : List UInt8) (hx : X.length ≤ 14000) (h : ck2 X 65536 ≠ 0) (w : World) (hm : Mx w) :
    Calls Tryz.prog 61 #[(.string ⟨(X : List UInt8).toArray⟩)] w fun e w' => e = .returned (.tuple #[.agg #[.bool false, .slice none 0 0, .bool false, .slice none 0 0], .int .i64 (ck2 X 65536)]) ∧ Gr w w' := by
 go_enter Tryz.func61, Tryz.ntmps61
 have hB := Gr.refl w
 refine wp_seq_k (fun K1 k1 => ?_)
 refine rg [0, 1] ?_
 refine se ?_
 refine ea 30 #[(.bool false), (.slice none 0 0), (.bool false), (.slice none 0 0)] 2 hB fun b2 w2 g2 L2 o2 q2 hB => ?_
 simp only [p3, p4]
 refine sv 3 (.int .i64 0) ?_
 simp only [p3, p4]
 refine sq_nil ?_
 refine k1 _ _ ?_
 try clear k1 K1
 refine wp_seq_k (fun K3 k3 => ?_)
 refine rg [0, 1, 2, 3, 4, 5] ?_
 refine sv 4 (.string ⟨(X : List UInt8).toArray⟩) ?_
 simp only [p3, p4]
 refine se ?_
 refine ec 5 (read_bad X 65536 hx h _ (hm.gr hB)) ?_
 rintro e4 w4 ⟨rfl, g4⟩
 refine ⟨_, rfl, ?_⟩
 replace hB := hB.trans g4
 simp only [p3, p4]
 refine sv 6 (.agg #[(.bool false), (.slice none 0 0), (.bool false), (.slice none 0 0)]) ?_
 simp only [p3, p4]
 refine sv 7 (.int .i64 (ck2 X 65536)) ?_
 simp only [p3, p4]
 refine se ?_
 replace L2 := L2.gr g4
 refine es 30 0 (.agg #[(.bool false), (.slice none 0 0), (.bool false), (.slice none 0 0)]) [(.bool false), (.slice none 0 0), (.bool false), (.slice none 0 0)] #[(.bool false), (.slice none 0 0), (.bool false), (.slice none 0 0)] L2 hB q2 ⟨rfl, rfl, rfl, rfl, trivial⟩ fun w5 st5 kp5 L2 hB => ?_
 refine sv 3 (.int .i64 (ck2 X 65536)) ?_
 simp only [p3, p4]
 refine sq_nil ?_
 refine k3 _ _ ?_
 try clear k3 K3
 refine wp_ret ?_
 refine bodyPost_ret (v := (.tuple #[(.agg #[(.bool false), (.slice none 0 0), (.bool false), (.slice none 0 0)]), (.int .i64 (ck2 X 65536))])) (ret_cell_tmp' _ _ _ rfl rfl L2 (by kernel_rfl) rfl) rfl ⟨?_, hB⟩
 exact rfl

set_option maxRecDepth 100000 in
set_option maxHeartbeats 1000000 in
theorem rread_long (X : List UInt8) (hx : X.length ≤ 1000000) (h : (65536 : Int) < (X.length : Int)) (w : World) (hm : Mx w) :
    Calls Tryz.prog 61 #[(.string ⟨(X : List UInt8).toArray⟩)] w fun e w' => e = .returned (.tuple #[.agg #[.bool false, .slice none 0 0, .bool false, .slice none 0 0], .int .i64 5]) ∧ Gr w w' := by
 go_enter Tryz.func61, Tryz.ntmps61
 have hB := Gr.refl w
 refine wp_seq_k (fun K1 k1 => ?_)
 refine rg [0, 1] ?_
 refine se ?_
 refine ea 30 #[(.bool false), (.slice none 0 0), (.bool false), (.slice none 0 0)] 2 hB fun b2 w2 g2 L2 o2 q2 hB => ?_
 simp only [p3, p4]
 refine sv 3 (.int .i64 0) ?_
 simp only [p3, p4]
 refine sq_nil ?_
 refine k1 _ _ ?_
 try clear k1 K1
 refine wp_seq_k (fun K3 k3 => ?_)
 refine rg [0, 1, 2, 3, 4, 5] ?_
 refine sv 4 (.string ⟨(X : List UInt8).toArray⟩) ?_
 simp only [p3, p4]
 refine se ?_
 refine ec 5 (read_long X 65536 hx h _ (hm.gr hB)) ?_
 rintro e4 w4 ⟨rfl, g4⟩
 refine ⟨_, rfl, ?_⟩
 replace hB := hB.trans g4
 simp only [p3, p4]
 refine sv 6 (.agg #[(.bool false), (.slice none 0 0), (.bool false), (.slice none 0 0)]) ?_
 simp only [p3, p4]
 refine sv 7 (.int .i64 5) ?_
 simp only [p3, p4]
 refine se ?_
 replace L2 := L2.gr g4
 refine es 30 0 (.agg #[(.bool false), (.slice none 0 0), (.bool false), (.slice none 0 0)]) [(.bool false), (.slice none 0 0), (.bool false), (.slice none 0 0)] #[(.bool false), (.slice none 0 0), (.bool false), (.slice none 0 0)] L2 hB q2 ⟨rfl, rfl, rfl, rfl, trivial⟩ fun w5 st5 kp5 L2 hB => ?_
 refine sv 3 (.int .i64 5) ?_
 simp only [p3, p4]
 refine sq_nil ?_
 refine k3 _ _ ?_
 try clear k3 K3
 refine wp_ret ?_
 refine bodyPost_ret (v := (.tuple #[(.agg #[(.bool false), (.slice none 0 0), (.bool false), (.slice none 0 0)]), (.int .i64 5)])) (ret_cell_tmp' _ _ _ rfl rfl L2 (by kernel_rfl) rfl) rfl ⟨?_, hB⟩
 exact rfl

end Go.Proofs.YtlcmllfacolkaaaGreatDoor
