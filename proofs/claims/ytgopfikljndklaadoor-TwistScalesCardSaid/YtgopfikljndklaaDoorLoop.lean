/- Loops whose rounds are printed, slices that a call makes itself. -/
import Derived.Test.YtgopfikljndklaaDoorSq
import Derived.Deep.LoopGhost
import Derived.Laws.AppendOwn
import Derived.Laws.Concat
namespace Go.Proofs.YtgopfikljndklaaDoor
open Go.RowKit

section
variable {P : Program} {a : Act} {o : Oper} {w : World} {Q : Exit → Act → World → Prop} {K : Act → World → Prop} {ops : Array Oper}

theorem wp_loop_inv {c : Code} (I : Nat → Act → World → Prop) (n₀ : Nat) (h₀ : I n₀ a w)
    (round : ∀ n a w, I n a w → ∀ K : Act → World → Prop, (∀ n' a' w', n' < n → I n' a' w' → K a' w') → c.wp P (Exit.then K Q) a w) : (Code.loop c).wp P Q a w :=
  wp_loop_ghost I n₀ h₀ fun n a w h => round n a w h _ fun n' _ _ hn hI => ⟨n', hn, hI⟩

/-- a slice literal -/
theorem eff_bs (e n : Nat) (cs : Array Value) (d : Option Tmp) (hd : o.dst = d)
    (hrun : ∀ w, (execOp a.eval o).run P w = .ok (.value (.slice (some ⟨w.heap.size, 0, none⟩) n n)) (w.alloc (.cells cs e)))
    (h : ∀ b w', Gr w w' → Lc w' b cs e → w.heap.size ≤ b → K (a.put d (.slice (some ⟨b, 0, none⟩) n n)) w') : o.wp P a w K Q := by
  subst hd
  unfold Oper.wp
  rw [hrun]
  exact h _ _ (Gr.alloc w _) (heap_alloc_new w _) (Nat.le_refl _)

/-- w' is w but for blocks of element type T (and new ones) -/
structure Wt (T : TypeId) (w w' : World) : Prop where
  os : w'.os = w.os
  tape : w'.tape = w.tape
  output : w'.output = w.output
  size : w.heap.size ≤ w'.heap.size
  block : ∀ (b : Nat) (cs : Array Value) (t : TypeId) (fr : Nat × Nat), t ≠ T → w.heap[b]? = some (.cells cs t fr) → w'.heap[b]? = some (.cells cs t fr)
theorem Wt.kp {T : TypeId} {w w' : World} (h : Wt T w w') (hT : 103 ≠ T) : Kp w w' := fun b cs fr hb => h.block b cs _ fr hT hb
theorem Wt.lc {T : TypeId} {w w' : World} {b : Nat} {cs : Array Value} {t : TypeId} (h : Wt T w w') (hL : Lc w b cs t) (hT : t ≠ T) : Lc w' b cs t := h.block b cs t _ hT hL

/-- a row of one-cell values that the call owns, in a slice of its own making -/
def OwnS (w : World) (T B : Nat) (v : Value) (ys : List Value) : Prop := w.ownsRow B T 1 v ys.length ys
theorem OwnS.nil (w : World) (T B : Nat) : OwnS w T B (.slice none 0 0) [] := World.ownsRow_nil ..
theorem OwnS.gr {w w' : World} {T B : Nat} {v : Value} {ys : List Value} (h : OwnS w T B v ys) (g : Gr w w') : OwnS w' T B v ys := by
  unfold OwnS at *
  refine ⟨h.1, ?_⟩
  rcases h.2 with hn | ⟨k, cap, cur, rfl, hb, hg, hr⟩
  · exact .inl hn
  · exact .inr ⟨k, cap, cur, rfl, hb, g.heap hg, hr⟩
/-- append of one value -/
theorem eff_append1 (s x : Operand) (t : TypeId) (T B : Nat) (z : Value) (v : Value) (ys : List Value) (b : Nat) (u : Value) (c : Nat) (d : Option Tmp) (bytes : Nat) (hd : o.dst = d)
    (ho : o.op = .call { callee := .builtin .append, args := #[s, x], argTypes := #[t, t] }) (hs : a.eval s = v) (hx : a.eval x = .slice (some ⟨b, 0, none⟩) 1 c)
    (hown : OwnS w T B v ys) (hL : Lc w b #[u] T) (hu : u.oneCell' = true) (w0 : World) (hB : Gr w0 w) (hB0 : w0.heap.size ≤ B) (hBw : B ≤ w.heap.size) (hn : ys.length ≤ 1000000) (hbytes : bytes ≤ 1000)
    (ht : P.underlying t = some (.slice T)) (hi : (P.info? T).map (fun i => (i.zero, i.size, i.bytes)) = some (some z, 1, bytes)) (hzs : z.cells.size = 1)
    (h : ∀ v' w', OwnS w' T B v' (ys ++ [u]) → Wt T w w' → Gr w0 w' → K (a.put d v') w') : o.wp P a w K Q := by
  subst hd
  obtain ⟨i, hi, hz, hsize, hby⟩ := info_parts hi
  have hb1 : (ys.length + 1) * bytes ≤ 1000001 * 1000 := Nat.mul_le_mul (by omega) hbytes
  refine wp_append_own w s x t ho B T i z 1 bytes ht hi hz hsize hby hzs (by omega) v ys.length ys hs hown ⟨b, 0, none⟩ 1 c [u] hx rfl (fun j y hj => ?_) (fun y hy => ?_) (by unfold maxLen; omega) (by omega) hBw ?_
  · have hj0 : j = 0 := by
      have := (List.getElem?_eq_some_iff.1 hj).1
      simp at this; omega
    subst hj0
    simp only [List.getElem?_cons_zero, Option.some.injEq] at hj
    subst hj
    exact cells_of hL 0
  · simp only [List.mem_singleton] at hy
    subst hy; exact hu
  · intro v' w' h2 hg _
    have hown' := hown
    have hnew : ∀ k, v.ownBlock = some k → B ≤ k ∧ ∃ cur, w.heap[k]? = some (.cells cur T (0, 0)) := by
      intro k hk
      rcases hown'.2 with ⟨rfl, _⟩ | ⟨g, cap, cur, rfl, hb, hgg, _⟩
      · simp [Value.ownBlock] at hk
      · simp [Value.ownBlock] at hk
        subst hk; exact ⟨hb, cur, hgg⟩
    refine h v' w' ?_ ⟨hg.os, hg.tape, hg.output, hg.size, fun k cs t fr ht hk => ?_⟩ ?_
    · unfold OwnS; simpa using h2
    · rw [hg.block k (heap_lt hk) (fun e => ?_)]
      · exact hk
      · obtain ⟨_, cur, hc⟩ := hnew k e.symm
        rw [hk] at hc
        simp only [Option.some.injEq, Obj.cells.injEq] at hc
        exact ht hc.2.1
    · refine Below.trans hB ⟨hg.os, hg.tape, hg.output, hg.size, fun k hk => hg.block k (Nat.lt_of_lt_of_le hk hB.size) (fun e => ?_)⟩
      have := (hnew k e.symm).1
      omega
/-- a contract that turns a block of type T of the call's own -/
theorem OwnS.block {w : World} {T B : Nat} {v : Value} {ys : List Value} (h : OwnS w T B v ys) (hp : 0 < ys.length) :
    ∃ g cap cur, v = .slice (some ⟨g, 0, none⟩) ys.length cap ∧ B ≤ g ∧ w.heap[g]? = some (.cells cur T (0, 0)) ∧ ys.length ≤ cap ∧ cap ≤ maxLen ∧ cur.size = cap ∧ cur.toList.take ys.length = ys := by
  rcases h.2 with ⟨rfl, hn⟩ | ⟨g, cap, cur, rfl, hb, hg, h1, h2, h3, h4⟩
  · omega
  · exact ⟨g, cap, cur, rfl, hb, hg, h1, h2, by omega, by simpa using h4⟩
theorem OwnS.snoc {w : World} {T B : Nat} {v : Value} {L : List (List UInt8)} {X : List UInt8} {f : List UInt8 → Value} (h : OwnS w T B v (L.map f ++ [f X])) : OwnS w T B v ((L ++ [X]).map f) := by
  simpa using h
theorem RunV.str {x y : ByteArray} (h : RunV P a o w (.string x)) (e : x = y) : RunV P a o w (.string y) := e ▸ h
end
theorem bytes_append (x y : List UInt8) : (⟨x.toArray⟩ : ByteArray) ++ ⟨y.toArray⟩ = ⟨(x ++ y).toArray⟩ := by
  apply ByteArray.ext
  rw [ByteArray.data_append]
  simp
theorem rv_cat {P : Program} {a : Act} {o : Oper} {w : World} (t t2 : TypeId) (x y : Operand) (A B : List UInt8) (hop : o.op = .binOp .add t x y t2) (hx : a.eval x = .string ⟨A.toArray⟩) (hy : a.eval y = .string ⟨B.toArray⟩)
    (h : A.length + B.length ≤ 9223372036854775807) : RunV P a o w (.string ⟨(A ++ B).toArray⟩) := by
  have hrun := run_string_add_sum (P := P) w ⟨A.toArray⟩ ⟨B.toArray⟩ (by show A.toArray.size + B.toArray.size ≤ _; simpa using h)
  rw [bytes_append] at hrun
  unfold RunV execOp
  simp only [hop, hx, hy]
  simp [go_sem, binOp, eqGuard, hrun]
end Go.Proofs.YtgopfikljndklaaDoor
