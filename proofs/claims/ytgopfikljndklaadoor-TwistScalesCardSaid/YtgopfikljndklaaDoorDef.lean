/- What a slice of digits, an integer and a rational are in memory. -/
import Derived.Test.YtgopfikljndklaaDoorRows
import Derived.Test.YtgopfikljndklaaDoorNum
import Derived.WalkKit
import Derived.WalkSpells
import Derived.WalkLawsBesides
import Derived.Lib.Hide
namespace Go.Proofs.YtgopfikljndklaaDoor
open Go.RowKit

theorem p1 (a : Act) (d : Tmp) (v : Value) : a.put (some d) v = { a with tmps := a.tmps.setIfInBounds d v } := rfl
theorem p2 {α : Type} (l : List α) (i : Nat) (x : α) : l.toArray.setIfInBounds i x = (l.set i x).toArray := List.setIfInBounds_toArray ..
theorem p3 {α : Type} (x y : α) (l : List α) : (x :: l).set 0 y = y :: l := rfl
theorem p4 {α : Type} (x y : α) (l : List α) (n : Nat) : (x :: l).set (n + 1) y = x :: l.set n y := rfl
/-- A number of draws turns no block. -/
theorem _root_.Go.RowKit.Below.drewN {B : Nat} {a w : World} (h : Below B a w) (n : Nat) : Below B a (w.drewN n) := ⟨h.os, h.tape, h.output, h.size, h.block⟩

/-- w' is w with new blocks -/
def Gr (w w' : World) : Prop := Below w.heap.size w w'
theorem Gr.refl (w : World) : Gr w w := Below.refl _ _
theorem Gr.trans {a b c : World} (h : Gr a b) (k : Gr b c) : Gr a c := Below.trans h (Below.mono k h.size)
theorem Gr.alloc (w : World) (o : Obj) : Gr w (w.alloc o) := (Below.refl _ _).alloc (Nat.le_refl _) o
theorem Gr.drew (w : World) : Gr w w.drew := (Below.refl _ _).drew
theorem heap_lt {w : World} {k : Nat} {o : Obj} (hk : w.heap[k]? = some o) : k < w.heap.size := by
  rcases Nat.lt_or_ge k w.heap.size with h' | h'
  · exact h'
  · rw [Array.getElem?_eq_none h'] at hk; cases hk
theorem bcell {B : Nat} {W w1 : World} (hb : Below B W w1) : (∀ b o, b < B → w1.cell? ⟨b, o, none⟩ = W.cell? ⟨b, o, none⟩) ∧ (∀ b o, b < B → w1.frozen? ⟨b, o, none⟩ = W.frozen? ⟨b, o, none⟩) :=
  ⟨fun b o h => hb.cell (p := ⟨b, o, none⟩) h, fun b o h => hb.frozen (p := ⟨b, o, none⟩) h⟩
theorem Gr.heap {a b : World} (h : Gr a b) {k : Nat} {o : Obj} (hk : a.heap[k]? = some o) : b.heap[k]? = some o := by
  rw [Below.block h k (heap_lt hk)]; exact hk

theorem alloc1_facts (w : World) (o1 : Obj) : Gr w (w.alloc o1) ∧ (w.alloc o1).heap[w.heap.size]? = some o1 ∧ (w.alloc o1).heap.size = w.heap.size + 1 :=
  ⟨Gr.alloc w o1, heap_alloc_new _ _, by simp⟩
theorem alloc2_facts (w : World) (o1 o2 : Obj) : Gr w ((w.alloc o1).alloc o2) ∧ ((w.alloc o1).alloc o2).heap[w.heap.size]? = some o1 ∧ ((w.alloc o1).alloc o2).heap[w.heap.size + 1]? = some o2 ∧ ((w.alloc o1).alloc o2).heap.size = w.heap.size + 1 + 1 := by
  obtain ⟨g, h1, h2⟩ := alloc1_facts w o1
  have := heap_alloc_new (w.alloc o1) o2
  rw [h2] at this
  exact ⟨g.trans (Gr.alloc _ _), (Gr.alloc _ _).heap h1, this, by simp⟩
theorem alloc3_facts (w : World) (o1 o2 o3 : Obj) : Gr w (((w.alloc o1).alloc o2).alloc o3) ∧ (((w.alloc o1).alloc o2).alloc o3).heap[w.heap.size]? = some o1 ∧ (((w.alloc o1).alloc o2).alloc o3).heap[w.heap.size + 1]? = some o2 ∧
    (((w.alloc o1).alloc o2).alloc o3).heap[w.heap.size + 1 + 1]? = some o3 ∧ (((w.alloc o1).alloc o2).alloc o3).heap.size = w.heap.size + 1 + 1 + 1 := by
  obtain ⟨g, h1, h2, h3⟩ := alloc2_facts w o1 o2
  have := heap_alloc_new ((w.alloc o1).alloc o2) o3
  rw [h3] at this
  exact ⟨g.trans (Gr.alloc _ _), (Gr.alloc _ _).heap h1, (Gr.alloc _ _).heap h2, this, by simp⟩
/-- what a block's cells are, for the walk -/
theorem cells_of {w : World} {b : Nat} {cs : Array Value} {t : TypeId} {fr : Nat × Nat} (h : w.heap[b]? = some (.cells cs t fr)) (i : Nat) : w.cell? ⟨b, i, none⟩ = cs[i]? := by
  simp only [World.cell?, h, Option.isSome_none]; rfl
theorem free_of {w : World} {b : Nat} {cs : Array Value} {t : TypeId} (h : w.heap[b]? = some (.cells cs t)) (i : Nat) : w.frozen? ⟨b, i, none⟩ = false := by
  simp [World.frozen?, h]

/-- all rows of digits are as they were -/
def Kp (w w' : World) : Prop := ∀ (b : Nat) (cs : Array Value) (fr : Nat × Nat), w.heap[b]? = some (Obj.cells cs 103 fr) → w'.heap[b]? = some (Obj.cells cs 103 fr)
theorem Kp.refl (w : World) : Kp w w := fun _ _ _ h => h
theorem Kp.trans {a b c : World} (h : Kp a b) (k : Kp b c) : Kp a c := fun b cs fr hb => k b cs fr (h b cs fr hb)
theorem Gr.kp {w w' : World} (h : Gr w w') : Kp w w' := fun _ _ _ hk => h.heap hk
theorem Below.kp {w w' : World} (h : Below w.heap.size w w') : Kp w w' := Gr.kp h

/-- the cells of a slice of digits -/
structure Row (w : World) (ao : Option Addr) (len : Nat) (d : Nat → Int) : Prop where
  raw : 0 < len → ∃ (b off : Nat) (cs : Array Value) (fr : Nat × Nat), ao = some ⟨b, off, none⟩ ∧ w.heap[b]? = some (.cells cs 103 fr) ∧ ∀ i, i < len → cs[off + i]? = some (.int .u32 (d i))

theorem Row.at_ {w : World} {ao : Option Addr} {len : Nat} {d : Nat → Int} (h : Row w ao len d) (hp : 0 < len) :
    ∃ b off, ao = some ⟨b, off, none⟩ ∧ ∀ i, i < len → w.cell? ⟨b, off + i, none⟩ = some (.int .u32 (d i)) := by
  obtain ⟨b, off, cs, fr, e, hb, hc⟩ := h.raw hp
  exact ⟨b, off, e, fun i hi => by simp only [World.cell?, hb, Option.isSome_none]; exact hc i hi⟩
theorem Row.nil (w : World) (ao : Option Addr) (d : Nat → Int) : Row w ao 0 d := ⟨fun h => by omega⟩
theorem Row.shorter {w : World} {ao : Option Addr} {len k : Nat} {d : Nat → Int} (h : Row w ao len d) (hk : k ≤ len) : Row w ao k d :=
  ⟨fun hp => by
    obtain ⟨b, off, cs, fr, e, hb, hc⟩ := h.raw (by omega)
    exact ⟨b, off, cs, fr, e, hb, fun i hi => hc i (by omega)⟩⟩
theorem Row.congr {w : World} {ao : Option Addr} {len : Nat} {d d' : Nat → Int} (h : Row w ao len d) (e : ∀ i, i < len → d i = d' i) : Row w ao len d' :=
  ⟨fun hp => by
    obtain ⟨b, off, cs, fr, e', hb, hc⟩ := h.raw hp
    exact ⟨b, off, cs, fr, e', hb, fun i hi => by rw [hc i hi, e i hi]⟩⟩
theorem Row.kp {w w' : World} {ao : Option Addr} {len : Nat} {d : Nat → Int} (h : Row w ao len d) (hk : Kp w w') : Row w' ao len d :=
  ⟨fun hp => by
    obtain ⟨b, off, cs, fr, e, hb, hc⟩ := h.raw hp
    exact ⟨b, off, cs, fr, e, hk _ _ _ hb, hc⟩⟩
theorem Row.below {w w' : World} {ao : Option Addr} {len : Nat} {d : Nat → Int} (h : Row w ao len d) (hb : Below w.heap.size w w') : Row w' ao len d := h.kp (Gr.kp hb)
/-- the block of a slice's cells lies below any bound above the heap -/
theorem Row.lt {w : World} {b off len : Nat} {d : Nat → Int} (h : Row w (some ⟨b, off, none⟩) len d) (hl : 0 < len) : b < w.heap.size := by
  obtain ⟨b', off', e, hc⟩ := h.at_ hl
  have := World.block_lt_of_cell? w _ (hc 0 hl)
  simp only [Option.some.injEq, Addr.mk.injEq] at e
  obtain ⟨rfl, rfl, _⟩ := e
  exact this

/-- a slice of the digits of n, none of them 0 at the end -/
structure Mag (w : World) (ao : Option Addr) (len cap : Nat) (n : Int) : Prop where
  cap : len ≤ cap
  nl : NL n len
  row : Row w ao len (dg n)
theorem Mag.below {w w' : World} {ao : Option Addr} {len cap : Nat} {n : Int} (h : Mag w ao len cap n) (hb : Below w.heap.size w w') : Mag w' ao len cap n := ⟨h.cap, h.nl, h.row.below hb⟩

/-- the two cells of an integer z of less than k bits -/
def IsInt (w : World) (k : Nat) (x y : Value) (z : Int) : Prop :=
  ∃ ao len cap, x = .bool (decide (z < 0)) ∧ y = .slice ao len cap ∧ Mag w ao len cap (z.natAbs : Int) ∧ Sz k z

theorem Mag.kp {w w' : World} {ao : Option Addr} {len cap : Nat} {n : Int} (h : Mag w ao len cap n) (hb : Kp w w') : Mag w' ao len cap n := ⟨h.cap, h.nl, h.row.kp hb⟩
theorem IsInt.kp {w w' : World} {k : Nat} {x y : Value} {z : Int} (h : IsInt w k x y z) (hb : Kp w w') : IsInt w' k x y z := by
  obtain ⟨ao, len, cap, h1, h2, h3, h4⟩ := h
  exact ⟨ao, len, cap, h1, h2, h3.kp hb, h4⟩
theorem IsInt.gr {w w' : World} {k : Nat} {x y : Value} {z : Int} (h : IsInt w k x y z) (hb : Gr w w') : IsInt w' k x y z := h.kp hb.kp
theorem IsInt.one0 {w : World} {k : Nat} {x y : Value} {z : Int} (h : IsInt w k x y z) : x.oneCell' = true := by
  obtain ⟨ao, len, cap, rfl, rfl, h3, h4⟩ := h; rfl
theorem IsInt.one1 {w : World} {k : Nat} {x y : Value} {z : Int} (h : IsInt w k x y z) : y.oneCell' = true := by
  obtain ⟨ao, len, cap, rfl, rfl, h3, h4⟩ := h; rfl
theorem IsInt.below {w w' : World} {k : Nat} {x y : Value} {z : Int} (h : IsInt w k x y z) (hb : Below w.heap.size w w') : IsInt w' k x y z := by
  obtain ⟨ao, len, cap, h1, h2, h3, h4⟩ := h
  exact ⟨ao, len, cap, h1, h2, h3.below hb, h4⟩
theorem IsInt.mono {w : World} {k m : Nat} {x y : Value} {z : Int} (h : IsInt w k x y z) (hk : k ≤ m) : IsInt w m x y z := by
  obtain ⟨ao, len, cap, h1, h2, h3, h4⟩ := h
  exact ⟨ao, len, cap, h1, h2, h3, h4.mono hk⟩
theorem IsInt.sz {w : World} {k : Nat} {x y : Value} {z : Int} (h : IsInt w k x y z) : Sz k z := by
  obtain ⟨ao, len, cap, h1, h2, h3, h4⟩ := h
  exact h4
theorem Sz.nat {k : Nat} {z : Int} (h : Sz k z) : Sz k (z.natAbs : Int) := by unfold Sz at *; simpa using h
/-- the zero value -/
theorem IsInt.zero (w : World) (k : Nat) : IsInt w k (.bool false) (.slice none 0 0) 0 :=
  ⟨none, 0, 0, rfl, rfl, ⟨Nat.le_refl _, NL.zero, Row.nil _ _ _⟩, Sz.zero k⟩

end Go.Proofs.YtgopfikljndklaaDoor
