/- Contracts of the library's functions on strings, as the printed walks use them. -/
import Derived.Test.YtgopfikljndklaaDoorShelf
import Derived.Test.YtgopfikljndklaaDoorShort
import Derived.Test.YtgopfikljndklaaDoorDec
namespace Go.Proofs.YtgopfikljndklaaDoor
open Go.RowKit

/-- the library's table of powers of ten -/
def Tab (w : World) : Prop := Lib.TabIs Tryd.prog w "internal/strconv.uint64pow10" .u64 Lib.pow10Tab
theorem Tab.gr {w w' : World} (h : Tab w) (g : Gr w w') : Tab w' := by
  unfold Tab Lib.TabIs World.var? at *
  cases hn : Tryd.prog.globalNamed "internal/strconv.uint64pow10" with
  | none => rw [hn] at h; cases h
  | some k =>
    rw [hn] at h
    simp only [Option.bind_some] at h ⊢
    cases hk : w.heap[k]? with
    | none => rw [hk] at h; cases h
    | some o => rw [g.heap hk]; rw [hk] at h; exact h
theorem itoa_t (n : Int) (h0 : 0 ≤ n) (h1 : n < 1000000000) {w : World} (ht : Tab w) :
    Calls Tryd.prog 71 #[.int .i64 n] w fun e w' => e = .returned (.string ⟨(Lib.decDigits n.toNat).toArray⟩) ∧ Gr w w' := by
  refine (Tryd.strconv_Itoa n (by omega) (by omega) w ht).mono ?_
  rintro e w' ⟨he, k, os, rfl⟩
  refine ⟨?_, ?_⟩
  · rw [he]; unfold Lib.itoa; rw [if_neg (by omega)]
  · refine ⟨rfl, rfl, rfl, by simp [Sort.grow], fun i hi => ?_⟩
    show (w.heap ++ os)[i]? = w.heap[i]?
    rw [Array.getElem?_append_left hi]
theorem repeat9 (n : Nat) (h : n ≤ 9) (w : World) :
    Calls Tryd.prog 72 #[.string ⟨#[48]⟩, .int .i64 (9 - (n : Int))] w fun e w' => e = .returned (.string ⟨(Lib.repeatL [48] (9 - n)).toArray⟩) ∧ Gr w w' := by
  have e : (9 - (n : Int)) = ((9 - n : Nat) : Int) := by omega
  rw [e]
  refine (Tryd.strings_Repeat ⟨#[48]⟩ (9 - n) w (by omega) ?_).mono ?_
  · show 1 * (9 - n) ≤ _
    omega
  · rintro e w' ⟨he, hb⟩
    exact ⟨he, hb⟩

/-- a string in a cell -/
def strV (l : List UInt8) : Value := .string ⟨l.toArray⟩
theorem writeAt_take : ∀ (vs : List Value) (off : Nat) (cs : Array Value), off + vs.length ≤ cs.size → (writeAt cs off vs).size = cs.size ∧ ∀ i, (writeAt cs off vs)[i]? = if off ≤ i ∧ i < off + vs.length then vs[i - off]? else cs[i]?
  | [], off, cs, _ => ⟨rfl, fun i => by rw [if_neg (by simp only [List.length_nil]; omega)]; rfl⟩
  | v :: vs, off, cs, h => by
    simp only [List.length_cons] at h
    obtain ⟨h1, h2⟩ := writeAt_take vs (off + 1) (cs.setIfInBounds off v) (by rw [Array.size_setIfInBounds]; omega)
    refine ⟨by rw [writeAt, h1]; simp, fun i => ?_⟩
    rw [writeAt, h2 i]
    by_cases e : off = i
    · subst e
      have h9 : off < cs.size := by omega
      rw [if_neg (by omega), if_pos (by simp)]
      simp [h9]
    · by_cases hi : off + 1 ≤ i ∧ i < off + 1 + vs.length
      · rw [if_pos hi, if_pos (by simp; omega)]
        have : i - off = (i - (off + 1)) + 1 := by omega
        rw [this, List.getElem?_cons_succ]
      · rw [if_neg hi, if_neg (by simp; omega), Array.getElem?_setIfInBounds_ne e]
theorem own_cells {w : World} {T : Nat} {L : List (List UInt8)} {g : Nat} {cur : Array Value} (hg : w.heap[g]? = some (.cells cur T (0, 0))) (ht : cur.toList.take (L.map strV).length = L.map strV) (i : Nat) (hi : i < L.length) :
    w.cell? ⟨g, i, none⟩ = some (strV (L.getD i [])) := by
  rw [cells_of hg]
  have h1 : (cur.toList.take (L.map strV).length)[i]? = (L.map strV)[i]? := by rw [ht]
  rw [List.getElem?_take_of_lt (by simpa using hi)] at h1
  rw [Array.getElem?_toList] at h1
  rw [h1]
  simp [hi]
theorem reverse_own {w : World} {B : Nat} {v : Value} {L : List (List UInt8)} (h : OwnS w 9 B v (L.map strV)) (hp : 0 < L.length) :
    Calls Tryd.prog 73 #[v] w fun e w' => e = .returned (.tuple #[]) ∧ OwnS w' 9 B v (L.reverse.map strV) ∧ Wt 9 w w' ∧ (∀ w0, Gr w0 w → w0.heap.size ≤ B → Gr w0 w') := by
  obtain ⟨g, cap, cur, rfl, hb, hg, h1, h2, h3, h4⟩ := h.block (by simpa using hp)
  rw [List.length_map] at h1 ⊢
  have hlen : L.length ≤ 9223372036854775807 := by unfold maxLen at h2; omega
  refine (Tryd.slices_Reverse_string_cells g 0 L.length cap (fun i => ⟨(L.getD i []).toArray⟩) w hlen (fun i hi => ?_) (fun i hi => free_of hg _)).mono ?_
  · rw [Nat.zero_add]; exact own_cells hg h4 i hi
  rintro e w' ⟨he, q, rfl⟩
  have es : (Lib.strsOf (fun i => ⟨(L.getD i []).toArray⟩) L.length) = L := by
    unfold Lib.strsOf
    apply List.ext_getElem
    · simp
    · intro i h1 h2; simp at h1; simp [h1]
  rw [es]
  have hst := St.setCells g (L.reverse.map encStr) 0 (w.drewN q)
  have hh : ((w.drewN q).setCells g 0 (L.reverse.map encStr)).heap[g]? = some (.cells (writeAt cur 0 (L.reverse.map encStr)) 9 (0, 0)) := heap_setCells _ 0 (w := w.drewN q) hg
  obtain ⟨hw1, hw2⟩ := writeAt_take (L.reverse.map encStr) 0 cur (by simp; omega)
  have hbl : ∀ k, k ≠ g → ((w.drewN q).setCells g 0 (L.reverse.map encStr)).heap[k]? = w.heap[k]? := fun k hk => hst.block k hk
  refine ⟨he, ⟨by simp, .inr ⟨g, cap, _, by simp, hb, hh, by simpa using h1, h2, by rw [hw1]; omega, ?_⟩⟩, ⟨hst.os, hst.tape, hst.output, Nat.le_of_eq hst.size.symm, fun b cs t fr ht hk => ?_⟩, fun w0 hG hB => ?_⟩
  · apply List.ext_getElem?
    intro i
    by_cases hi : i < L.length
    · rw [List.getElem?_take_of_lt (by simpa using hi), Array.getElem?_toList, hw2 i, if_pos (by simpa using hi)]
      rfl
    · rw [List.getElem?_eq_none (by simp; omega), List.getElem?_eq_none (by simp; omega)]
  · rw [hbl b (fun e => ?_)]
    · exact hk
    · subst e
      rw [hg] at hk
      simp only [Option.some.injEq, Obj.cells.injEq] at hk
      exact ht hk.2.1.symm
  · exact Below.trans hG ⟨hst.os, hst.tape, hst.output, Nat.le_of_eq hst.size.symm, fun k hk => hbl k (by omega)⟩
theorem join_own {w : World} {B : Nat} {v : Value} {L : List (List UInt8)} (h : OwnS w 9 B v (L.map strV)) (hp : 0 < L.length) (hl : L.flatten.length ≤ 140737488355328) (hn : L.length ≤ 1000000) :
    Calls Tryd.prog 74 #[v, .string ⟨#[]⟩] w fun e w' => e = .returned (.string ⟨L.flatten.toArray⟩) ∧ Gr w w' := by
  obtain ⟨g, cap, cur, rfl, hb, hg, h1, h2, h3, h4⟩ := h.block (by simpa using hp)
  have em : ((L.map fun l => (⟨l.toArray⟩ : ByteArray)).map fun x => x.data.toList) = L := by
    rw [List.map_map]
    conv => rhs; rw [← List.map_id L]
    exact List.map_congr_left fun l _ => by simp
  have := Tryd.strings_Join g 0 cap (L.map fun l => ⟨l.toArray⟩) ⟨#[]⟩ w (fun j x hj => ?_) (heap_lt hg) (by simp; omega) (by simpa using h1) (by
    rw [em]; show (Lib.join L []).length ≤ _; rw [join_nil_sep]; exact hl)
  · rw [em] at this
    simp only [List.length_map] at this ⊢
    refine this.mono ?_
    rintro e w' ⟨he, hb⟩
    refine ⟨?_, hb⟩
    rw [he]
    show Ending.returned (.string ⟨(Lib.join L []).toArray⟩) = _
    rw [join_nil_sep]
  · rw [Nat.zero_add, own_cells hg h4 j (by have := (List.getElem?_eq_some_iff.1 hj).1; simpa using this)]
    obtain ⟨hj', e⟩ := List.getElem?_eq_some_iff.1 hj
    subst e
    simp at hj'
    simp [hj', strV]
end Go.Proofs.YtgopfikljndklaaDoor
