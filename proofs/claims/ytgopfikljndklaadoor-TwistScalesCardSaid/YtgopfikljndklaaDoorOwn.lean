/- A slice of digits that a call makes itself. -/
import Derived.Test.YtgopfikljndklaaDoorDef
import Derived.Deep.QuietTactic
import Derived.BigQuiet
namespace Go.Proofs.YtgopfikljndklaaDoor
open Go.RowKit

/-- block b is a row of n digits that may be written -/
structure Own (w : World) (b n : Nat) (d : Nat → Int) : Prop where
  raw : ∃ cs, w.heap[b]? = some (.cells cs 103) ∧ ∀ i, i < n → cs[i]? = some (.int .u32 (d i))
theorem Own.lt {w : World} {b n : Nat} {d : Nat → Int} (h : Own w b n d) : b < w.heap.size := by
  obtain ⟨cs, hb, hc⟩ := h.raw; exact heap_lt hb
theorem Own.cell {w : World} {b n : Nat} {d : Nat → Int} (h : Own w b n d) : ∀ i, i < n → w.cell? ⟨b, i, none⟩ = some (.int .u32 (d i)) := by
  obtain ⟨cs, hb, hc⟩ := h.raw
  exact fun i hi => by simp only [World.cell?, hb, Option.isSome_none]; exact hc i hi
theorem Own.free {w : World} {b n : Nat} {d : Nat → Int} (h : Own w b n d) : ∀ i, w.frozen? ⟨b, i, none⟩ = false := by
  obtain ⟨cs, hb, hc⟩ := h.raw
  exact fun i => by simp [World.frozen?, hb]

/-- d with another value at place i -/
def upd (d : Nat → Int) (i : Nat) (v : Int) : Nat → Int := fun j => if j = i then v else d j
theorem upd_same (d : Nat → Int) (i : Nat) (v : Int) : upd d i v i = v := by simp [upd]
theorem upd_other (d : Nat → Int) {i j : Nat} (v : Int) (h : j ≠ i) : upd d i v j = d j := by simp [upd, h]

theorem heap_setCell_at {w : World} {b i : Nat} {cs : Array Value} {t : TypeId} {fr : Nat × Nat} (v : Value) (h : w.heap[b]? = some (.cells cs t fr)) :
    (w.setCell ⟨b, i, none⟩ v).heap[b]? = some (.cells (cs.setIfInBounds i v) t fr) := by
  simp [World.setCell, Array.getElem?_modify, h]
theorem Own.set {w : World} {b n : Nat} {d : Nat → Int} (h : Own w b n d) {i : Nat} (_hi : i < n) (v : Int) : Own (w.setCell ⟨b, i, none⟩ (.int .u32 v)) b n (upd d i v) := by
  obtain ⟨cs, hb, hc⟩ := h.raw
  refine ⟨_, heap_setCell_at _ hb, fun j hj => ?_⟩
  by_cases e : i = j
  · subst e
    have := (Array.getElem?_eq_some_iff.1 (hc i hj)).1
    rw [upd_same]; simp [this]
  · rw [upd_other d v (Ne.symm e), Array.getElem?_setIfInBounds_ne e]; exact hc j hj
theorem Own.gr {w w' : World} {b n : Nat} {d : Nat → Int} (h : Own w b n d) (hb : Gr w w') : Own w' b n d := by
  obtain ⟨cs, hb', hc⟩ := h.raw
  exact ⟨cs, hb.heap hb', hc⟩
theorem Own.below {w w' : World} {b n : Nat} {d : Nat → Int} (h : Own w b n d) (hb : Below w.heap.size w w') : Own w' b n d := h.gr hb
theorem Own.congr {w : World} {b n : Nat} {d d' : Nat → Int} (h : Own w b n d) (e : ∀ i, i < n → d i = d' i) : Own w b n d' := by
  obtain ⟨cs, hb', hc⟩ := h.raw
  exact ⟨cs, hb', fun i hi => by rw [hc i hi, e i hi]⟩
theorem Own.row {w : World} {b n : Nat} {d : Nat → Int} (h : Own w b n d) : Row w (some ⟨b, 0, none⟩) n d := by
  obtain ⟨cs, hb', hc⟩ := h.raw
  exact ⟨fun _ => ⟨b, 0, cs, (0, 0), rfl, hb', fun i hi => by rw [Nat.zero_add]; exact hc i hi⟩⟩
theorem Own.shorter {w : World} {b n k : Nat} {d : Nat → Int} (h : Own w b n d) (hk : k ≤ n) : Own w b k d := by
  obtain ⟨cs, hb', hc⟩ := h.raw
  exact ⟨cs, hb', fun i hi => hc i (by omega)⟩

theorem u32_info : (Tryd.prog.info? 103).map (fun i => (i.zero, i.size, i.bytes)) = some (some (.int .u32 0), 1, 4) := by kernel_rfl

/-- 'make([]uint32, n)' -/
theorem wpList_make32 (w : World) {ops : Array Oper} {rest : List Oper} {o : Oper} {a : Act} {Q : Exit → Act → World → Prop}
    (hg : o.guard = none) (l c : Operand) (hop : o.op = Op.makeSlice 27 l c) (L C : Int) (n : Nat) (hl : a.eval l = .int .i64 L) (hc : a.eval c = .int .i64 C) (hL : L = (n : Int)) (hC : C = (n : Int)) (hn : n ≤ 8000000)
    (hK : ∀ w', Own w' w.heap.size n (fun _ => 0) → Below w.heap.size w w' → w'.heap.size = w.heap.size + 1 → wpList Tryd.prog ops Q rest (a.put o.dst (.slice (some ⟨w.heap.size, 0, none⟩) n n)) w') :
    wpList Tryd.prog ops Q (o :: rest) a w := by
  refine wpList_plain hg fun K hK' => ?_
  obtain ⟨i, hi, hz, hs, hb⟩ := info_parts u32_info
  have hrun := run_make (P := Tryd.prog) w 27 103 i _ Tryd.underlying27 hi hz .i64 .i64 (n : Int) (n : Int) (by omega) (Int.le_refl _) (by rw [hb]; omega) (by omega)
  simp only [Int.toNat_natCast] at hrun
  rw [hs, Nat.mul_one] at hrun
  subst hL hC
  unfold Oper.wp
  simp [execOp, hop, hl, hc, hrun, Result.andThen]
  refine hK' _ _ (hK _ ⟨_, heap_alloc_new w _, fun j hj => ?_⟩ ((Below.refl _ _).alloc (Nat.le_refl _) _) (by simp))
  simp [madeCells, Value.cells, hj, Nat.mod_one]
end Go.Proofs.YtgopfikljndklaaDoor
