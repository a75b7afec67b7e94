/- Joined of: Sl, Law4, Rda, Gen47, Zs, Li. -/
import Derived.Test.YtloocadjbpgldaaGreatDoorPartB
import Derived.Test.YtloocadjbpgldaaGreatDoorPartC
import Derived.Test.YtloocadjbpgldaaGreatDoorPartF
import Derived.SliceStrings
import Derived.Test.YtloocadjbpgldaaGreatDoorPartE
import Derived.Lib.SlBytesRow
import Derived.Laws.OwnMore
/- Slices of any elements: read, made, filled, appended to. -/
namespace Go.Proofs.YtloocadjbpgldaaGreatDoor
open Go.RowKit

/-- all blocks of type t are as they were -/
def Kt (t : TypeId) (w w' : World) : Prop := ∀ (b : Nat) (cs : Array Value) (fr : Nat × Nat), w.heap[b]? = some (Obj.cells cs t fr) → w'.heap[b]? = some (Obj.cells cs t fr)
theorem Kt.refl (t : TypeId) (w : World) : Kt t w w := fun _ _ _ h => h
theorem Kt.trans {t : TypeId} {a b c : World} (h : Kt t a b) (k : Kt t b c) : Kt t a c := fun b cs fr hb => k b cs fr (h b cs fr hb)
theorem Gr.kt {w w' : World} (h : Gr w w') (t : TypeId) : Kt t w w' := fun _ _ _ hk => h.heap hk
theorem Kt.kp {w w' : World} (h : Kt 83 w w') : Kp w w' := h
theorem St.kt {w w' : World} {b : Nat} {cs : Array Value} {T t : TypeId} (h : St w w' b) (hL : Lc w b cs T) (ht : t ≠ T) : Kt t w w' := fun c ds fr hc => by
  by_cases e : c = b
  · subst e
    unfold Lc at hL
    rw [hc] at hL
    simp only [Option.some.injEq, Obj.cells.injEq] at hL
    exact absurd hL.2.1 ht
  · exact (h.block c e).trans hc
theorem Wt.kt {T t : TypeId} {w w' : World} (h : Wt T w w') (ht : t ≠ T) : Kt t w w' := fun b cs fr hb => h.block b cs _ fr ht hb
/-- all of some types -/
def Kts (ts : List TypeId) (w w' : World) : Prop := ∀ t ∈ ts, Kt t w w'
theorem Gr.kts {w w' : World} (h : Gr w w') (ts : List TypeId) : Kts ts w w' := fun t _ => h.kt t
theorem St.kts {w w' : World} {b : Nat} {cs : Array Value} {T : TypeId} {ts : List TypeId} (h : St w w' b) (hL : Lc w b cs T) (ht : (ts.all fun t => t != T) = true) : Kts ts w w' := fun t hm => h.kt hL (by have := List.all_eq_true.1 ht t hm; simpa using this)
theorem Wt.kts {w w' : World} {T : TypeId} {ts : List TypeId} (h : Wt T w w') (ht : (ts.all fun t => t != T) = true) : Kts ts w w' := fun t hm => h.kt (by have := List.all_eq_true.1 ht t hm; simpa using this)

section
variable {α : Type}
/-- what cells say of an element, and on which types it hangs -/
def Stab (E : World → α → List Value → Prop) (ts : List TypeId) : Prop := ∀ w w' x vs, Kts ts w w' → E w x vs → E w' x vs
def Els (E : World → α → List Value → Prop) (c : Nat) (w : World) (ys : List Value) (xs : List α) : Prop :=
  ys.length = xs.length * c ∧ ∀ (i : Nat) (x : α), xs[i]? = some x → E w x ((ys.drop (i * c)).take c)
theorem Els.kts {E : World → α → List Value → Prop} {ts : List TypeId} {c : Nat} {w w' : World} {ys : List Value} {xs : List α} (h : Els E c w ys xs) (hS : Stab E ts) (k : Kts ts w w') : Els E c w' ys xs :=
  ⟨h.1, fun i x hx => hS _ _ _ _ k (h.2 i x hx)⟩
theorem Els.nil (E : World → α → List Value → Prop) (c : Nat) (w : World) : Els E c w [] [] := ⟨by simp, fun i x h => by simp at h⟩
theorem Els.snoc {E : World → α → List Value → Prop} {c : Nat} {w : World} {ys : List Value} {xs : List α} (h : Els E c w ys xs) {x : α} {vs : List Value} (hv : vs.length = c) (hx : E w x vs) : Els E c w (ys ++ vs) (xs ++ [x]) := by
  refine ⟨by simp [h.1, hv, Nat.add_mul], fun i y hy => ?_⟩
  rcases Nat.lt_or_ge i xs.length with hi | hi
  · rw [List.getElem?_append_left hi] at hy
    have h1 : i * c + c ≤ ys.length := by
      rw [h.1]
      have := Nat.mul_le_mul_right c (show i + 1 ≤ xs.length by omega)
      rw [Nat.add_mul] at this; omega
    have := h.2 i y hy
    rw [List.drop_append_of_le_length (by omega), List.take_append_of_le_length (by rw [List.length_drop]; omega)]
    exact this
  · rw [List.getElem?_append_right hi] at hy
    have h0 : i = xs.length := by
      have := (List.getElem?_eq_some_iff.1 hy).1
      simp at this; omega
    subst h0
    simp only [Nat.sub_self, List.getElem?_cons_zero, Option.some.injEq] at hy
    subst hy
    rw [← h.1, List.drop_left, ← hv, List.take_length]
    exact hx
theorem Els.set {E : World → α → List Value → Prop} {c : Nat} {w : World} {ys : List Value} {xs : List α} (h : Els E c w ys xs) {i : Nat} (hi : i < xs.length) {x : α} {vs : List Value} (hv : vs.length = c) (hx : E w x vs) :
    Els E c w (ys.take (i * c) ++ vs ++ ys.drop (i * c + c)) (xs.set i x) := by
  have hle : i * c + c ≤ ys.length := by
    rw [h.1]
    have := Nat.mul_le_mul_right c (show i + 1 ≤ xs.length by omega)
    rw [Nat.add_mul] at this; omega
  refine ⟨by rw [List.length_append, List.length_append, List.length_take, List.length_drop, List.length_set, hv, Nat.min_eq_left (by omega)]; have := h.1; omega, fun j y hy => ?_⟩
  rcases Nat.lt_trichotomy j i with hj | hj | hj
  · rw [List.getElem?_set_ne (by omega)] at hy
    have h1 : j * c + c ≤ i * c := by
      have := Nat.mul_le_mul_right c (show j + 1 ≤ i by omega)
      rw [Nat.add_mul] at this; omega
    have e : ((ys.take (i * c) ++ vs ++ ys.drop (i * c + c)).drop (j * c)).take c = (ys.drop (j * c)).take c := by
      rw [List.append_assoc, List.drop_append_of_le_length (by rw [List.length_take]; omega), List.take_append_of_le_length (by rw [List.length_drop, List.length_take]; omega), List.drop_take, List.take_take]
      congr 1; omega
    rw [e]; exact h.2 j y hy
  · subst hj
    rw [List.getElem?_set_self hi] at hy
    obtain rfl := Option.some.inj hy
    have e : ((ys.take (j * c) ++ vs ++ ys.drop (j * c + c)).drop (j * c)).take c = vs := by
      have hl : (ys.take (j * c)).length = j * c := by rw [List.length_take]; omega
      rw [List.append_assoc, List.drop_append, hl, Nat.sub_self, List.drop_zero, List.drop_eq_nil_of_le (by omega), List.nil_append, List.take_append_of_le_length (by omega), List.take_of_length_le (by omega)]
    rw [e]; exact hx
  · rw [List.getElem?_set_ne (by omega)] at hy
    have h1 : i * c + c ≤ j * c := by
      have := Nat.mul_le_mul_right c (show i + 1 ≤ j by omega)
      rw [Nat.add_mul] at this; omega
    have e : ((ys.take (i * c) ++ vs ++ ys.drop (i * c + c)).drop (j * c)).take c = (ys.drop (j * c)).take c := by
      have hl : (ys.take (i * c) ++ vs).length = i * c + c := by rw [List.length_append, List.length_take]; omega
      rw [List.drop_append, hl, List.drop_eq_nil_of_le (by omega), List.nil_append, List.drop_drop]
      congr 2; omega
    rw [e]; exact h.2 j y hy
theorem Els.mono {E F : World → α → List Value → Prop} {c : Nat} {w : World} {ys : List Value} {xs : List α} (h : Els E c w ys xs) (hf : ∀ x vs, E w x vs → F w x vs) : Els F c w ys xs := ⟨h.1, fun i x hx => hf _ _ (h.2 i x hx)⟩

/-- v is a slice of n elements, whose cells are ys -/
def Cs (T : TypeId) (w : World) (v : Value) (n : Nat) (ys : List Value) : Prop :=
  ∃ ao cap, v = .slice ao n cap ∧ n ≤ cap ∧ (0 < ys.length → ∃ b off cs fr, ao = some ⟨b, off, none⟩ ∧ w.heap[b]? = some (.cells cs T fr) ∧ ∀ j, j < ys.length → cs[off + j]? = ys[j]?)
theorem Cs.kt {T : TypeId} {w w' : World} {v : Value} {n : Nat} {ys : List Value} (h : Cs T w v n ys) (k : Kt T w w') : Cs T w' v n ys := by
  obtain ⟨ao, cap, h1, h2, h3⟩ := h
  refine ⟨ao, cap, h1, h2, fun hp => ?_⟩
  obtain ⟨b, off, cs, fr, e1, e2, e3⟩ := h3 hp
  exact ⟨b, off, cs, fr, e1, k _ _ _ e2, e3⟩
/-- the address of a cell of a slice -/
def adr (v : Value) (j : Nat) : Value :=
  match v with
  | .slice (some ⟨b, off, _⟩) _ _ => .pointer (some ⟨b, off + j, none⟩)
  | _ => undef
/-- at cell j of a slice lie vs -/
def AtV (w : World) (v : Value) (j : Nat) (vs : List Value) : Prop := ∃ b off n cap, v = .slice (some ⟨b, off, none⟩) n cap ∧ w.rangeAt b (off + j) vs
theorem Cs.at_ {T : TypeId} {w : World} {v : Value} {n : Nat} {ys : List Value} (h : Cs T w v n ys) (hp : 0 < ys.length) (j : Nat) (vs : List Value) (hv : (ys.drop j).take vs.length = vs) : AtV w v j vs := by
  obtain ⟨ao, cap, rfl, h2, h3⟩ := h
  obtain ⟨b, off, cs, fr, rfl, e2, e3⟩ := h3 hp
  refine ⟨b, off, _, _, rfl, fun i u hi => ?_⟩
  have hi' : i < vs.length := (List.getElem?_eq_some_iff.1 hi).1
  have h1 : ((ys.drop j).take vs.length)[i]? = vs[i]? := by rw [hv]
  rw [List.getElem?_take_of_lt hi', List.getElem?_drop, hi] at h1
  rw [cells_of e2, Nat.add_assoc, e3 (j + i) (List.getElem?_eq_some_iff.1 h1).1]
  exact h1
/-- a slice of elements -/
def Sl (E : World → α → List Value → Prop) (T : TypeId) (c : Nat) (w : World) (v : Value) (xs : List α) : Prop := ∃ ys, Cs T w v xs.length ys ∧ Els E c w ys xs
theorem Sl.kts {E : World → α → List Value → Prop} {ts : List TypeId} {T : TypeId} {c : Nat} {w w' : World} {v : Value} {xs : List α} (h : Sl E T c w v xs) (hS : Stab E ts) (k : Kts (T :: ts) w w') : Sl E T c w' v xs := by
  obtain ⟨ys, h1, h2⟩ := h
  exact ⟨ys, h1.kt (k T (by simp)), h2.kts hS (fun t ht => k t (by simp [ht]))⟩
theorem Sl.gr {E : World → α → List Value → Prop} {ts : List TypeId} {T : TypeId} {c : Nat} {w w' : World} {v : Value} {xs : List α} (h : Sl E T c w v xs) (hS : Stab E ts) (g : Gr w w') : Sl E T c w' v xs := h.kts hS (g.kts _)
theorem Sl.mono {E F : World → α → List Value → Prop} {T : TypeId} {c : Nat} {w : World} {v : Value} {xs : List α} (h : Sl E T c w v xs) (hf : ∀ x vs, E w x vs → F w x vs) : Sl F T c w v xs := by
  obtain ⟨ys, h1, h2⟩ := h
  exact ⟨ys, h1, h2.mono hf⟩
theorem Sl.form {E : World → α → List Value → Prop} {T : TypeId} {c : Nat} {w : World} {v : Value} {xs : List α} (h : Sl E T c w v xs) : ∃ ao cap, v = .slice ao xs.length cap ∧ xs.length ≤ cap := by
  obtain ⟨ys, ⟨ao, cap, h1, h2, _⟩, _⟩ := h
  exact ⟨ao, cap, h1, h2⟩
theorem Sl.one {E : World → α → List Value → Prop} {T : TypeId} {c : Nat} {w : World} {v : Value} {xs : List α} (h : Sl E T c w v xs) : v.oneCell' = true := by
  obtain ⟨ao, cap, rfl, _⟩ := h.form; rfl
theorem Sl.nil (E : World → α → List Value → Prop) (T : TypeId) (c : Nat) (w : World) (ao : Option Addr) (cap : Nat) : Sl E T c w (.slice ao 0 cap) ([] : List α) :=
  ⟨[], ⟨ao, cap, rfl, Nat.zero_le _, fun h => by simp at h⟩, Els.nil ..⟩
theorem Sl.get {E : World → α → List Value → Prop} {T : TypeId} {c : Nat} {w : World} {v : Value} {xs : List α} (h : Sl E T c w v xs) (hc : 0 < c) {i : Nat} {x : α} (hx : xs[i]? = some x) : ∃ vs, vs.length = c ∧ E w x vs ∧ AtV w v (i * c) vs := by
  obtain ⟨ys, h1, h2⟩ := h
  have hi := (List.getElem?_eq_some_iff.1 hx).1
  have hle : i * c + c ≤ ys.length := by
    rw [h2.1]
    have := Nat.mul_le_mul_right c (show i + 1 ≤ xs.length by omega)
    rw [Nat.add_mul] at this; omega
  have hl : ((ys.drop (i * c)).take c).length = c := by rw [List.length_take, List.length_drop]; omega
  exact ⟨_, hl, h2.2 i x hx, h1.at_ (by omega) _ _ (by rw [hl])⟩
theorem Sl.adr_some {E : World → α → List Value → Prop} {T : TypeId} {c : Nat} {w : World} {v : Value} {xs : List α} (h : Sl E T c w v xs) (hc : 0 < c) (hp : 0 < xs.length) : ∃ b off cap, v = .slice (some ⟨b, off, none⟩) xs.length cap := by
  obtain ⟨ys, ⟨ao, cap, h1, h2, h3⟩, h4⟩ := h
  obtain ⟨b, off, cs, fr, e1, _⟩ := h3 (by rw [h4.1]; exact Nat.mul_pos hp hc)
  exact ⟨b, off, cap, by rw [h1, e1]⟩

variable {P : Program} {a : Act} {o : Oper} {w : World} {Q : Exit → Act → World → Prop} {K : Act → World → Prop} {ops : Array Oper}
theorem rv_len {E : World → α → List Value → Prop} {T : TypeId} {c : Nat} {v : Value} {xs : List α} {w0 : World} (h : Sl E T c w0 v xs) (x : Operand) (t : TypeId) (hop : o.op = .call { callee := .builtin .len, args := #[x], argTypes := #[t] }) (hx : a.eval x = v) {e : TypeId} (hu : P.underlying t = some (.slice e)) :
    RunV P a o w (.int .i64 (xs.length : Int)) := by
  obtain ⟨ao, cap, rfl, _⟩ := h.form
  unfold RunV
  generalize a.eval = ev at *
  unfold execOp
  simp only [hop]
  simp [hx, go_sem, Builtin.len_, run_underlying hu, goInt]
theorem rv_idx {E : World → α → List Value → Prop} {T : TypeId} {c : Nat} {v : Value} {xs : List α} {w0 : World} (h : Sl E T c w0 v xs) (hc : 0 < c) (i : Nat) (hi : i < xs.length) (t : TypeId) (x y : Operand) (hop : o.op = .indexAddr t x y) (hx : a.eval x = v) (hy : a.eval y = .int .i64 (i : Int))
    {e : TypeId} (hu : P.underlying t = some (.slice e)) (hs : (P.info? e).map (·.size) = some c) : RunV P a o w (adr v (i * c)) := by
  obtain ⟨b, off, cap, rfl⟩ := h.adr_some hc (by omega)
  obtain ⟨j, hj, hsz⟩ := Option.map_eq_some_iff.1 hs
  unfold RunV execOp
  simp only [hop, hx, hy]
  have h1 : (0 : Int) ≤ (i : Int) ∧ (i : Int) < (xs.length : Int) := by omega
  by_cases h0 : i * c = 0 <;> simp [Instr.indexAt, asIntOf, run_underlying hu, sizeOf, typeInfo, hj, hsz, h1, hi, h0, adr, Addr.add]
theorem rv_ldn (vs : List Value) {v : Value} {j : Nat} (h : AtV w v j vs) (t : TypeId) (x : Operand) (hop : o.op = .load t x) (hx : a.eval x = adr v j) (hs : aggSize P t = some vs.length) : RunV P a o w (.agg vs.toArray) := by
  obtain ⟨b, off, n, cap, rfl, hr⟩ := h
  have hx' : a.eval x = .pointer (some ⟨b, off + j, none⟩) := hx
  unfold aggSize at hs
  unfold RunV
  cases hd : P.underlying t with
  | none => rw [hd] at hs; cases hs
  | some d =>
    rw [hd] at hs
    have hrow : d.isRow = true ∧ (P.info? t).map (·.size) = some vs.length := by
      cases d <;> first | cases hs | exact ⟨rfl, hs⟩
    unfold execOp
    simp only [hop, hx', Instr.loadAt, Instr.sureAddr, Sem.run_bind, Sem.run_pure, Result.andThen_ok, run_loadVar_mid w b (off + j) t vs d hr hd hrow.1 hrow.2]
theorem rv_ld1 (u : Value) {v : Value} {j : Nat} (h : AtV w v j [u]) (t : TypeId) (x : Operand) (hop : o.op = .load t x) (hx : a.eval x = adr v j) (hs : oneSize P t = true) : RunV P a o w u := by
  obtain ⟨b, off, n, cap, rfl, hr⟩ := h
  have hx' : a.eval x = .pointer (some ⟨b, off + j, none⟩) := hx
  unfold oneSize at hs
  have hc : w.cell? ⟨b, off + j, none⟩ = some u := hr 0 u rfl
  unfold RunV
  cases hd : P.underlying t with
  | none => rw [hd] at hs; cases hs
  | some d =>
    rw [hd] at hs
    have hagg : (isAgg t).run P w = .ok false w := by
      unfold isAgg
      rw [Sem.run_bind, run_underlying hd w]
      cases d <;> first | cases hs | rfl
    unfold execOp
    simp only [hop, hx', Instr.loadAt, Instr.sureAddr, Sem.run_bind, Sem.run_pure, Result.andThen_ok, loadVar, hagg]
    simp [load, Sem.run, hc]

/-- block b is an array of elements of the call's own -/
def Mk (E : World → α → List Value → Prop) (T : TypeId) (c : Nat) (w : World) (b : Nat) (xs : List α) : Prop := ∃ ys : List Value, Lc w b ys.toArray T ∧ Els E c w ys xs
theorem Mk.kts {E : World → α → List Value → Prop} {ts : List TypeId} {T : TypeId} {c : Nat} {w w' : World} {b : Nat} {xs : List α} (h : Mk E T c w b xs) (hS : Stab E ts) (k : Kts (T :: ts) w w') : Mk E T c w' b xs := by
  obtain ⟨ys, h1, h2⟩ := h
  exact ⟨ys, k T (by simp) _ _ _ h1, h2.kts hS (fun t ht => k t (by simp [ht]))⟩
theorem Mk.gr {E : World → α → List Value → Prop} {ts : List TypeId} {T : TypeId} {c : Nat} {w w' : World} {b : Nat} {xs : List α} (h : Mk E T c w b xs) (hS : Stab E ts) (g : Gr w w') : Mk E T c w' b xs := h.kts hS (g.kts _)
theorem Mk.lt {E : World → α → List Value → Prop} {T : TypeId} {c : Nat} {w : World} {b : Nat} {xs : List α} (h : Mk E T c w b xs) : b < w.heap.size := by
  obtain ⟨ys, h1, _⟩ := h; exact h1.lt
theorem Mk.sl {E : World → α → List Value → Prop} {T : TypeId} {c : Nat} {w : World} {b : Nat} {xs : List α} (h : Mk E T c w b xs) {cap : Nat} (hc : xs.length ≤ cap) : Sl E T c w (.slice (some ⟨b, 0, none⟩) xs.length cap) xs := by
  obtain ⟨ys, h1, h2⟩ := h
  exact ⟨ys, ⟨_, cap, rfl, hc, fun _ => ⟨b, 0, _, _, rfl, h1, fun j _ => by simp⟩⟩, h2⟩
theorem Mk.sl_n {E : World → α → List Value → Prop} {T : TypeId} {c : Nat} {w : World} {b : Nat} {xs : List α} (h : Mk E T c w b xs) {n cap : Nat} (hn : xs.length = n) (hc : n ≤ cap) : Sl E T c w (.slice (some ⟨b, 0, none⟩) n cap) xs := by
  subst hn; exact h.sl hc
theorem getD_some {d : α} {i : Nat} {xs : List α} (h : i < xs.length) : xs[i]? = some (xs.getD i d) := by simp [h]
theorem AtV.gr {w w' : World} {v : Value} {j : Nat} {vs : List Value} (h : AtV w v j vs) (g : Gr w w') : AtV w' v j vs := by
  obtain ⟨b, off, n, cap, e, hr⟩ := h
  refine ⟨b, off, n, cap, e, fun i u hi => ?_⟩
  have h1 := hr i u hi
  rw [← h1]
  exact Below.cell g (p := ⟨b, off + j + i, none⟩) (World.block_lt_of_cell? w _ h1)
theorem els_made {E : World → α → List Value → Prop} {w : World} {x0 : α} {z : List Value} (hz : E w x0 z) : ∀ n, Els E z.length w ((List.replicate n z).flatten) (List.replicate n x0)
  | 0 => Els.nil ..
  | n + 1 => by
    have := (els_made hz n).snoc rfl hz
    rw [List.replicate_succ', List.flatten_append, List.flatten_singleton, List.replicate_succ']
    exact this
theorem made_list (z : Array Value) (hz : 0 < z.size) (n : Nat) : (madeCells z (n * z.size)).toList = (List.replicate n z.toList).flatten := by
  apply List.ext_getElem?
  intro i
  have hl : ∀ m, ((List.replicate m z.toList).flatten).length = m * z.size := fun m => by simp
  have key : ∀ m i, i < m * z.size → ((List.replicate m z.toList).flatten)[i]? = z[i % z.size]? := by
    intro m
    induction m with
    | zero => intro i h; omega
    | succ m ih =>
      intro i h
      rw [List.replicate_succ, List.flatten_cons]
      rcases Nat.lt_or_ge i z.size with h1 | h1
      · rw [List.getElem?_append_left (by simpa using h1), Nat.mod_eq_of_lt h1]; simp
      · rw [List.getElem?_append_right (by simpa using h1), Array.length_toList, ih (i - z.size) (by rw [Nat.add_mul] at h; omega), Nat.mod_eq_sub_mod h1]
  by_cases h : i < n * z.size
  · rw [key n i h]
    have hm : i % z.size < z.size := Nat.mod_lt _ hz
    simp [madeCells, h, hm]
  · rw [List.getElem?_eq_none (by simp [madeCells]; omega), List.getElem?_eq_none (by rw [hl]; omega)]
/-- 'make([]T, n)' -/
theorem eff_mk {E : World → α → List Value → Prop} (x0 : α) (t e : TypeId) (z : Value) (n sz bytes : Nat) (d : Option Tmp) {x y : Operand} (hd : o.dst = d) (hop : o.op = .makeSlice t x y) (hx : a.eval x = .int .i64 (n : Int)) (hy : a.eval y = .int .i64 (n : Int)) (hu : P.underlying t = some (.slice e))
    (hi : (P.info? e).map (fun i => (i.zero, i.size, i.bytes)) = some (some z, sz, bytes)) (hsz : z.cells.size = sz ∧ 0 < sz) (hn : n ≤ 1000000) (hbytes : bytes ≤ 1000) (hE : ∀ w', E w' x0 z.cells.toList)
    (h : ∀ b w', Gr w w' → Mk E e sz w' b (List.replicate n x0) → w.heap.size ≤ b → K (a.put d (.slice (some ⟨b, 0, none⟩) n n)) w') : o.wp P a w K Q := by
  subst hd
  obtain ⟨i, hi, hzz⟩ := Option.map_eq_some_iff.1 hi
  simp only [Prod.mk.injEq] at hzz
  have hb1 : n * bytes ≤ 1000000 * 1000 := Nat.mul_le_mul hn hbytes
  have hrun := run_make (P := P) w t e i z hu hi hzz.1 .i64 .i64 (n : Int) (n : Int) (by omega) (by omega) (by rw [hzz.2.2, ← Int.natCast_mul, Nat.mul_comm]; omega) (by omega)
  rw [hzz.2.1] at hrun
  unfold Oper.wp execOp
  simp only [hop, hx, hy, Sem.run_bind, hrun, Result.andThen_ok, Sem.run_pure, Int.toNat_natCast]
  refine h _ _ (Gr.alloc w _) ⟨(madeCells z.cells (n * sz)).toList, by rw [Array.toArray_toList]; exact heap_alloc_new w _, ?_⟩ (Nat.le_refl _)
  obtain ⟨h1, h2⟩ := hsz
  subst h1
  rw [made_list _ h2]
  have := els_made (hE (w.alloc (.cells (madeCells z.cells (n * z.cells.size)) e))) n
  simpa using this
theorem writeAt_list : ∀ (vs : List Value) (off : Nat) (ys : List Value), off + vs.length ≤ ys.length → writeAt ys.toArray off vs = (ys.take off ++ vs ++ ys.drop (off + vs.length)).toArray
  | [], off, ys, _ => by simp [writeAt]
  | v :: vs, off, ys, h => by
    simp only [List.length_cons] at h
    rw [writeAt, List.setIfInBounds_toArray, writeAt_list vs (off + 1) (ys.set off v) (by simp; omega)]
    congr 1
    have h1 : (ys.set off v).take (off + 1) = ys.take off ++ [v] := by
      rw [List.take_add_one, List.take_set_of_le (Nat.le_refl _), List.getElem?_set_self (by omega)]; rfl
    have h2 : (ys.set off v).drop (off + 1 + vs.length) = ys.drop (off + (vs.length + 1)) := by
      rw [List.drop_set_of_lt (by omega)]; congr 1; omega
    rw [h1, h2]; simp
/-- a store at an element of an array of the call's own -/
theorem eff_stm {E : World → α → List Value → Prop} {ts : List TypeId} (hS : Stab E ts) {T : TypeId} {c : Nat} {b : Nat} {xs : List α} (hM : Mk E T c w b xs) (i : Nat) (hi : i < xs.length) (x0 : α) (v : Value) (vs : List Value) (n cap : Nat) (t : TypeId) (x y : Operand)
    (hop : o.op = .store t x y) (hd : o.dst = none) (hx : a.eval x = adr (.slice (some ⟨b, 0, none⟩) n cap) (i * c)) (hy : a.eval y = v) (hv : v.cells = vs.toArray) (hs : (P.info? t).map (·.size) = some c) (hc : vs.length = c) (h1 : One1 vs) (hE : E w x0 vs) (hT : (ts.all fun t => t != T) = true)
    (h : ∀ w', St w w' b → (∀ u, u ≠ T → Kt u w w') → Mk E T c w' b (xs.set i x0) → K a w') : o.wp P a w K Q := by
  obtain ⟨ys, hL, hE2⟩ := hM
  subst hc
  have hle : i * vs.length + vs.length ≤ ys.length := by
    rw [hE2.1]
    have := Nat.mul_le_mul_right vs.length (show i + 1 ≤ xs.length by omega)
    rw [Nat.add_mul] at this; omega
  have hx' : a.eval x = .pointer (some ⟨b, i * vs.length, none⟩) := by
    rw [hx]; simp [adr]
  refine eff_store t x y b (i * vs.length) v vs ys.toArray _ T hop hd hx' hy hv hL hs (by simpa using hle) h1 rfl (fun w' st L' => ?_)
  rw [writeAt_list _ _ _ hle] at L'
  have hk : Kts ts w w' := st.kts hL hT
  exact h w' st (fun u hu => st.kt hL hu) ⟨_, L', ((hE2.set hi rfl hE).kts hS hk)⟩

/-- a slice that the call appends to -/
def Ow (E : World → α → List Value → Prop) (T : TypeId) (c : Nat) (w : World) (B : Nat) (v : Value) (xs : List α) : Prop := ∃ ys, w.ownsRow B T c v xs.length ys ∧ Els E c w ys xs
theorem ownsRow_gr {w w' : World} {B T c n : Nat} {v : Value} {ys : List Value} (h : w.ownsRow B T c v n ys) (k : Kt T w w') : w'.ownsRow B T c v n ys := by
  refine ⟨h.1, ?_⟩
  rcases h.2 with hn | ⟨g, cap, cur, rfl, hb, hg, hr⟩
  · exact .inl hn
  · exact .inr ⟨g, cap, cur, rfl, hb, k _ _ _ hg, hr⟩
theorem Ow.kts {E : World → α → List Value → Prop} {ts : List TypeId} {T : TypeId} {c B : Nat} {w w' : World} {v : Value} {xs : List α} (h : Ow E T c w B v xs) (hS : Stab E ts) (k : Kts (T :: ts) w w') : Ow E T c w' B v xs := by
  obtain ⟨ys, h1, h2⟩ := h
  exact ⟨ys, ownsRow_gr h1 (k T (by simp)), h2.kts hS (fun t ht => k t (by simp [ht]))⟩
theorem Ow.gr {E : World → α → List Value → Prop} {ts : List TypeId} {T : TypeId} {c B : Nat} {w w' : World} {v : Value} {xs : List α} (h : Ow E T c w B v xs) (hS : Stab E ts) (g : Gr w w') : Ow E T c w' B v xs := h.kts hS (g.kts _)
theorem Ow.nil (E : World → α → List Value → Prop) (T : TypeId) (c : Nat) (w : World) (B : Nat) : Ow E T c w B (.slice none 0 0) ([] : List α) := ⟨[], World.ownsRow_nil .., Els.nil ..⟩
theorem Ow.one {E : World → α → List Value → Prop} {T : TypeId} {c B : Nat} {w : World} {v : Value} {xs : List α} (h : Ow E T c w B v xs) : v.oneCell' = true := by
  obtain ⟨ys, h1, _⟩ := h
  rcases h1.2 with ⟨rfl, _⟩ | ⟨g, cap, cur, rfl, _⟩ <;> rfl
theorem Ow.sl {E : World → α → List Value → Prop} {T : TypeId} {c B : Nat} {w : World} {v : Value} {xs : List α} (h : Ow E T c w B v xs) : Sl E T c w v xs := by
  obtain ⟨ys, h1, h2⟩ := h
  refine ⟨ys, ?_, h2⟩
  rcases h1.2 with ⟨rfl, hn⟩ | ⟨g, cap, cur, rfl, hb, hg, h3, h4, h5, h6⟩
  · refine ⟨none, 0, by rw [hn], by omega, fun hp => ?_⟩
    rw [h2.1, hn] at hp; simp at hp
  · refine ⟨_, cap, rfl, h3, fun _ => ⟨g, 0, cur, _, rfl, hg, fun j hj => ?_⟩⟩
    rw [h2.1] at hj
    have : (cur.toList.take (xs.length * c))[j]? = ys[j]? := by rw [h6]
    rw [List.getElem?_take_of_lt hj] at this
    rw [Nat.zero_add, ← this]; simp
theorem Ow.mono {E : World → α → List Value → Prop} {T : TypeId} {c B C : Nat} {w : World} {v : Value} {xs : List α} (h : Ow E T c w B v xs) (hC : C ≤ B) : Ow E T c w C v xs := by
  obtain ⟨ys, h1, h2⟩ := h
  refine ⟨ys, ⟨h1.1, ?_⟩, h2⟩
  rcases h1.2 with hn | ⟨g, cap, cur, rfl, hb, hg, hr⟩
  · exact .inl hn
  · exact .inr ⟨g, cap, cur, rfl, Nat.le_trans hC hb, hg, hr⟩
/-- append of one element -/
theorem eff_app {E : World → α → List Value → Prop} {ts : List TypeId} (hS : Stab E ts) (s x : Operand) (t : TypeId) (T B : Nat) (z : Value) (v : Value) (xs : List α) (b : Nat) (us : List Value) (x0 : α) (c cx : Nat) (d : Option Tmp) (bytes : Nat) (hd : o.dst = d)
    (ho : o.op = .call { callee := .builtin .append, args := #[s, x], argTypes := #[t, t] }) (hs : a.eval s = v) (hx : a.eval x = .slice (some ⟨b, 0, none⟩) 1 cx)
    (hown : Ow E T c w B v xs) (hL : Lc w b us.toArray T) (hu : One1 us) (hl : us.length = c) (hE : E w x0 us) (w0 : World) (hB : Gr w0 w) (hB0 : w0.heap.size ≤ B) (hBw : B ≤ w.heap.size) (hn : xs.length ≤ 1000000) (hbytes : bytes ≤ 1000)
    (ht : P.underlying t = some (.slice T)) (hi : (P.info? T).map (fun i => (i.zero, i.size, i.bytes)) = some (some z, c, bytes)) (hzs : z.cells.size = c ∧ 0 < c) (hT : (ts.all fun t => t != T) = true)
    (h : ∀ v' w', Ow E T c w' B v' (xs ++ [x0]) → Wt T w w' → Gr w0 w' → K (a.put d v') w') : o.wp P a w K Q := by
  subst hd
  obtain ⟨ys, hown, hEl⟩ := hown
  obtain ⟨i, hi, hz, hsize, hby⟩ := info_parts hi
  have hb1 : (xs.length + 1) * bytes ≤ 1000001 * 1000 := Nat.mul_le_mul (by omega) hbytes
  refine wp_append_own w s x t ho B T i z c bytes ht hi hz hsize hby hzs.1 hzs.2 v xs.length ys hs hown ⟨b, 0, none⟩ 1 cx us hx (by omega) (fun j y hj => ?_) hu.all (by unfold maxLen; omega) (by omega) hBw ?_
  · have e : (⟨b, 0, none⟩ : Addr).add j = ⟨b, j, none⟩ := by by_cases h0 : j = 0 <;> simp [Addr.add, h0]
    rw [e, cells_of hL]; simpa using hj
  · intro v' w' h2 hg _
    have hown' := hown
    have hnew : ∀ k, v.ownBlock = some k → B ≤ k ∧ ∃ cur, w.heap[k]? = some (.cells cur T (0, 0)) := by
      intro k hk
      rcases hown'.2 with ⟨rfl, _⟩ | ⟨g, cap, cur, rfl, hb, hgg, _⟩
      · simp [Value.ownBlock] at hk
      · simp [Value.ownBlock] at hk
        subst hk; exact ⟨hb, cur, hgg⟩
    have hwt : Wt T w w' := ⟨hg.os, hg.tape, hg.output, hg.size, fun k cs t fr ht hk => by
      rw [hg.block k (heap_lt hk) (fun e => ?_)]
      · exact hk
      · obtain ⟨_, cur, hc⟩ := hnew k e.symm
        rw [hk] at hc
        simp only [Option.some.injEq, Obj.cells.injEq] at hc
        exact ht hc.2.1⟩
    refine h v' w' ⟨_, by simpa using h2, (hEl.snoc hl hE).kts hS (hwt.kts hT)⟩ hwt ?_
    refine Below.trans hB ⟨hg.os, hg.tape, hg.output, hg.size, fun k hk => hg.block k (Nat.lt_of_lt_of_le hk hB.size) (fun e => ?_)⟩
    have := (hnew k e.symm).1
    omega
theorem ow_empty {E : World → α → List Value → Prop} {T : TypeId} {c : Nat} {w : World} {b B : Nat} (hL : Lc w b #[] T) (hB : B ≤ b) : Ow E T c w B (.slice (some ⟨b, 0, none⟩) 0 0) ([] : List α) :=
  ⟨[], ⟨by simp, .inr ⟨b, 0, #[], rfl, hB, hL, Nat.le_refl _, by unfold maxLen; omega, by simp, by simp⟩⟩, Els.nil ..⟩
/-- append of all elements of a slice -/
theorem eff_appn {E : World → α → List Value → Prop} {ts : List TypeId} (hS : Stab E ts) (s x : Operand) (t : TypeId) (T B : Nat) (z : Value) (v : Value) (xs : List α) (u : Value) (xs2 : List α) (c : Nat) (d : Option Tmp) (bytes : Nat) (hd : o.dst = d)
    (ho : o.op = .call { callee := .builtin .append, args := #[s, x], argTypes := #[t, t] }) (hs : a.eval s = v) (hx : a.eval x = u)
    (hown : Ow E T c w B v xs) (hu : Sl E T c w u xs2) (bx ox cx : Nat) (hux : u = .slice (some ⟨bx, ox, none⟩) xs2.length cx) (h1 : ∀ x vs, E w x vs → ∀ y ∈ vs, y.oneCell' = true) (w0 : World) (hB : Gr w0 w) (hB0 : w0.heap.size ≤ B) (hBw : B ≤ w.heap.size) (hn : xs.length + xs2.length ≤ 1000000) (hbytes : bytes ≤ 1000)
    (ht : P.underlying t = some (.slice T)) (hi : (P.info? T).map (fun i => (i.zero, i.size, i.bytes)) = some (some z, c, bytes)) (hzs : z.cells.size = c ∧ 0 < c) (hT : (ts.all fun t => t != T) = true)
    (h : ∀ v' w', Ow E T c w' B v' (xs ++ xs2) → Wt T w w' → Gr w0 w' → K (a.put d v') w') : o.wp P a w K Q := by
  subst hd
  obtain ⟨ys, hown, hEl⟩ := hown
  obtain ⟨i, hi, hz, hsize, hby⟩ := info_parts hi
  have hb1 : (xs.length + xs2.length) * bytes ≤ 1000000 * 1000 := Nat.mul_le_mul (by omega) hbytes
  subst hux
  obtain ⟨us, ⟨ao, cap, hsl, hcap, hraw⟩, hE2⟩ := hu
  simp only [Value.slice.injEq] at hsl
  obtain ⟨rfl, _, rfl⟩ := hsl
  refine wp_append_own w s x t ho B T i z c bytes ht hi hz hsize hby hzs.1 hzs.2 v xs.length ys hs hown ⟨bx, ox, none⟩ xs2.length cx us hx hE2.1 (fun j y hj => ?_) (fun y hy => ?_) (by unfold maxLen; omega) (by omega) hBw ?_
  · have hj' := (List.getElem?_eq_some_iff.1 hj).1
    obtain ⟨b, off, cs, fr, had, hbk, hcells⟩ := hraw (by omega)
    simp only [Option.some.injEq, Addr.mk.injEq, and_true] at had
    obtain ⟨rfl, rfl⟩ := had
    have e : (⟨bx, ox, none⟩ : Addr).add j = ⟨bx, ox + j, none⟩ := by by_cases h0 : j = 0 <;> simp [Addr.add, h0]
    rw [e, cells_of hbk, hcells j hj']; exact hj
  · obtain ⟨j, hj, rfl⟩ := List.mem_iff_getElem.1 hy
    have hjc : j / c < xs2.length := by rw [hE2.1] at hj; exact Nat.div_lt_of_lt_mul (by rw [Nat.mul_comm]; exact hj)
    have := hE2.2 (j / c) xs2[j / c] (List.getElem?_eq_getElem hjc)
    refine h1 _ _ this _ ?_
    have hm : j % c < c := Nat.mod_lt _ hzs.2
    have hd : j / c * c + j % c = j := by rw [Nat.mul_comm]; exact Nat.div_add_mod j c
    refine List.mem_iff_getElem?.2 ⟨j % c, ?_⟩
    rw [List.getElem?_take_of_lt hm, List.getElem?_drop, hd, List.getElem?_eq_getElem hj]
  · intro v' w' h2 hg _
    have hown' := hown
    have hnew : ∀ k, v.ownBlock = some k → B ≤ k ∧ ∃ cur, w.heap[k]? = some (.cells cur T (0, 0)) := by
      intro k hk
      rcases hown'.2 with ⟨rfl, _⟩ | ⟨g, cap, cur, rfl, hb, hgg, _⟩
      · simp [Value.ownBlock] at hk
      · simp [Value.ownBlock] at hk
        subst hk; exact ⟨hb, cur, hgg⟩
    have hwt : Wt T w w' := ⟨hg.os, hg.tape, hg.output, hg.size, fun k cs t fr ht hk => by
      rw [hg.block k (heap_lt hk) (fun e => ?_)]
      · exact hk
      · obtain ⟨_, cur, hc⟩ := hnew k e.symm
        rw [hk] at hc
        simp only [Option.some.injEq, Obj.cells.injEq] at hc
        exact ht hc.2.1⟩
    have hboth : Els E c w (ys ++ us) (xs ++ xs2) := by
      refine ⟨by rw [List.length_append, List.length_append, hEl.1, hE2.1, Nat.add_mul], fun k y hy => ?_⟩
      rcases Nat.lt_or_ge k xs.length with hk | hk
      · rw [List.getElem?_append_left hk] at hy
        have h3 : k * c + c ≤ ys.length := by
          rw [hEl.1]
          have := Nat.mul_le_mul_right c (show k + 1 ≤ xs.length by omega)
          rw [Nat.add_mul] at this; omega
        rw [List.drop_append_of_le_length (by omega), List.take_append_of_le_length (by rw [List.length_drop]; omega)]
        exact hEl.2 k y hy
      · rw [List.getElem?_append_right hk] at hy
        have h3 : xs.length * c ≤ k * c := Nat.mul_le_mul_right c hk
        rw [List.drop_append, hEl.1, List.drop_eq_nil_of_le (by rw [hEl.1]; exact h3), List.nil_append, ← Nat.sub_mul]
        exact hE2.2 _ y hy
    refine h v' w' ⟨_, by simpa using h2, hboth.kts hS (hwt.kts hT)⟩ hwt ?_
    refine Below.trans hB ⟨hg.os, hg.tape, hg.output, hg.size, fun k hk => hg.block k (Nat.lt_of_lt_of_le hk hB.size) (fun e => ?_)⟩
    have := (hnew k e.symm).1
    omega
theorem Sl.cases {E : World → α → List Value → Prop} {T : TypeId} {c : Nat} {w : World} {v : Value} {xs : List α} (h : Sl E T c w v xs) (hc : 0 < c) : xs = [] ∨ 0 < xs.length ∧ ∃ b off cap, v = .slice (some ⟨b, off, none⟩) xs.length cap := by
  cases xs with
  | nil => exact .inl rfl
  | cons x xs => exact .inr ⟨by simp, h.adr_some hc (by simp)⟩
end
/-! ### elements -/
/-- a text -/
def ETxt (_ : World) (X : List UInt8) (vs : List Value) : Prop := vs = [strV X]
theorem stab_txt : Stab ETxt [] := fun _ _ _ _ _ h => h
theorem one_txt (w : World) : ∀ X vs, ETxt w X vs → ∀ y ∈ vs, y.oneCell' = true := fun X vs h y hy => by
  subst h; simp only [List.mem_singleton] at hy; subst hy; rfl
/-- an int -/
def EI64 (_ : World) (z : Int) (vs : List Value) : Prop := vs = [.int .i64 z]
theorem stab_i64 : Stab EI64 [] := fun _ _ _ _ _ h => h
/-- a rational of less than k bits -/
def ERat (k : Nat) (w : World) (q : Rat) (vs : List Value) : Prop := ∃ c0 c1 c2 c3, vs = [c0, c1, c2, c3] ∧ IsRat w k c0 c1 c2 c3 q
theorem stab_rat (k : Nat) : Stab (ERat k) [83] := fun w w' _ _ hk h => by
  obtain ⟨c0, c1, c2, c3, e, hq⟩ := h
  exact ⟨c0, c1, c2, c3, e, hq.kp (hk 83 (by simp))⟩
theorem erat_zero (k : Nat) (hk : 64 ≤ k) (w : World) : ERat k w 0 [.bool false, .slice none 0 0, .bool false, .slice none 0 0] := ⟨_, _, _, _, rfl, IsRat.zero w hk⟩
theorem ERat.mono {k m : Nat} {w : World} {q : Rat} {vs : List Value} (h : ERat k w q vs) (hk : k ≤ m) : ERat m w q vs := by
  obtain ⟨c0, c1, c2, c3, e, hq⟩ := h
  exact ⟨c0, c1, c2, c3, e, hq.mono hk⟩
end Go.Proofs.YtloocadjbpgldaaGreatDoor
/- A slice of strings that is handed to a law. -/
namespace Go.Proofs.YtloocadjbpgldaaGreatDoor
open Go.ChangeShapes Go.WideShapes Go.ChangeAt Go.RowKit

theorem open_txts {H : Type} {enc : TypeId × Value → H} {P : Program} {W : World} {base base2 : Nat} {sp : Nat → Bool} {held : Bool} {t e : Nat} {v : Value} {d : DataW H} {p : List MemPlace}
    (ht : P.underlying t = some (.slice e)) (he : P.underlying e = some .string) (hc : P.cellsOf e = 1) (hval : Value.okWide P W .any base2 t v) (h : DataW.Trod enc P W base sp held t v d p) : ∃ (T : Nat) (Xs : List (List UInt8)), Sl ETxt T 1 W v Xs := by
  obtain ⟨a0, len0, cap0, rfl⟩ := okWide_slice ht hval
  obtain ⟨fuel, hf⟩ := h
  rcases open_strings ht he hc hf with ⟨hcs, _⟩ | ⟨a, len, cap, ss, hcs, _, hl, _, hss, _, hcell, _⟩
  · have e1 : (Value.slice a0 len0 cap0).cells.toList = [.slice a0 len0 cap0] := rfl
    rw [e1] at hcs
    simp only [List.cons.injEq, and_true] at hcs
    rw [hcs]
    exact ⟨0, [], Sl.nil ..⟩
  · have e1 : (Value.slice a0 len0 cap0).cells.toList = [.slice a0 len0 cap0] := rfl
    rw [e1] at hcs
    simp only [List.cons.injEq, and_true] at hcs
    rw [hcs]
    have hle : len ≤ ss.length := by rw [hss]; split <;> omega
    rcases Nat.eq_zero_or_pos len with h0 | hp
    · subst h0; exact ⟨0, [], Sl.nil ..⟩
    · have hc0 := hcell 0 (by omega)
      have ea : a.add 0 = a := by simp [Addr.add]
      rw [ea] at hc0
      obtain ⟨b, off, spot⟩ := a
      have hsp : spot = none := by
        unfold World.cell? at hc0
        cases spot with
        | none => rfl
        | some s => dsimp only at hc0; split at hc0 <;> simp at hc0
      subst hsp
      obtain ⟨cs, T, fr, hb⟩ : ∃ cs T fr, W.heap[b]? = some (.cells cs T fr) := by
        unfold World.cell? at hc0
        dsimp only at hc0
        split at hc0
        · next c T fr hh => exact ⟨c, T, fr, hh⟩
        · cases hc0
      have hmin : min len ss.length = len := Nat.min_eq_left hle
      refine ⟨T, (ss.take len).map fun s => s.data.toList, ((ss.take len).map fun s => Value.string s), ⟨_, cap, by simp [hmin], by simp [hmin]; omega, fun _ => ⟨b, off, cs, fr, rfl, hb, fun j hj => ?_⟩⟩, ⟨by simp, fun i x hx => ?_⟩⟩
      · have hj' : j < len := by simpa [hmin] using hj
        have h1 := hcell j (by omega)
        have e2 : (⟨b, off, none⟩ : Addr).add j = ⟨b, off + j, none⟩ := by by_cases h0 : j = 0 <;> simp [Addr.add, h0]
        rw [e2, cells_of hb] at h1
        rw [h1]
        simp [List.getElem?_take_of_lt hj', show j < ss.length by omega]
      · have hi : i < len := by have := (List.getElem?_eq_some_iff.1 hx).1; simpa [hmin] using this
        unfold ETxt
        rw [Nat.mul_one, List.drop_eq_getElem_cons (by simp [hmin]; omega), List.take_succ_cons, List.take_zero]
        have h2 : ((ss.take len).map fun s => s.data.toList)[i]? = some (ss[i]'(by omega)).data.toList := by simp [List.getElem?_take_of_lt hi, show i < ss.length by omega]
        rw [h2] at hx
        obtain rfl := Option.some.inj hx
        simp [strV]
end Go.Proofs.YtloocadjbpgldaaGreatDoor
/- What rational.read meets at any text: the library's functions, integer.Parse at texts out of their form. -/
namespace Go.Proofs.YtloocadjbpgldaaGreatDoor
open Go.RowKit

theorem trimS_nil {l cs : List UInt8} : Lib.trimS l cs = [] ↔ ∀ c ∈ l, cs.contains c = true := by
  constructor
  · intro h c hc
    rcases Bool.eq_false_or_eq_true (cs.contains c) with e | e
    · exact e
    · exact absurd h (trimS_some hc e)
  · exact trimS_all
theorem digit_iff {c : UInt8} : [48, 49, 50, 51, 52, 53, 54, 55, 56, 57].contains c = true ↔ 48 ≤ c.toNat ∧ c.toNat ≤ 57 := by
  constructor
  · intro h
    simp only [List.contains_cons, List.contains_nil, Bool.or_eq_true, beq_iff_eq, Bool.or_false] at h
    rcases h with rfl | rfl | rfl | rfl | rfl | rfl | rfl | rfl | rfl | rfl <;> decide
  · exact digit_in
/-- some bytes, all of them digits -/
theorem allD_trim (l : List UInt8) : allD l = ((l != ([] : List UInt8)) && (Lib.trimS l [48, 49, 50, 51, 52, 53, 54, 55, 56, 57] == ([] : List UInt8))) := by
  rw [Bool.eq_iff_iff]
  simp only [allD, Bool.and_eq_true, decide_eq_true_eq, List.all_eq_true, bne_iff_ne, beq_iff_eq, trimS_nil, digit_iff, isD_iff]
  rw [← List.length_pos_iff]
theorem zeros_trim (l : List UInt8) : zerosL l = (Lib.trimS l [48] == ([] : List UInt8)) := by
  rw [Bool.eq_iff_iff]
  simp [zerosL, trimS_nil]
theorem trim_any (l : List UInt8) (hl : l.length ≤ 1000000) (w : World) :
    Calls Tryz.prog 130 #[.string ⟨l.toArray⟩, .string ⟨#[48, 49, 50, 51, 52, 53, 54, 55, 56, 57]⟩] w fun e w' => e = .returned (.string ⟨(Lib.trimS l [48, 49, 50, 51, 52, 53, 54, 55, 56, 57]).toArray⟩) ∧ Gr w w' := by
  refine (Any.strings_Trim_laid Tryz.lays160 (by kernel_rfl) ⟨l.toArray⟩ ⟨#[48, 49, 50, 51, 52, 53, 54, 55, 56, 57]⟩ w (by show l.toArray.size ≤ _; simp; omega) (by decide) (ascii_of_all (by decide))).mono ?_
  rintro e w1 ⟨he, g⟩
  exact ⟨he, g⟩
theorem trim_any0 (l : List UInt8) (hl : l.length ≤ 1000000) (w : World) :
    Calls Tryz.prog 130 #[.string ⟨l.toArray⟩, .string ⟨#[48]⟩] w fun e w' => e = .returned (.string ⟨(Lib.trimS l [48]).toArray⟩) ∧ Gr w w' := by
  refine (Any.strings_Trim_laid Tryz.lays160 (by kernel_rfl) ⟨l.toArray⟩ ⟨#[48]⟩ w (by show l.toArray.size ≤ _; simp; omega) (by decide) (ascii_of_all (by decide))).mono ?_
  rintro e w1 ⟨he, g⟩
  exact ⟨he, g⟩
theorem trimprefix_any (l : List UInt8) (w : World) : Calls Tryz.prog 129 #[.string ⟨l.toArray⟩, .string ⟨#[45]⟩] w fun e w' => e = .returned (.string ⟨(strip l).toArray⟩) ∧ Gr w w' := by
  refine (Tryz.strings_TrimPrefix _ _ _).mono ?_
  rintro e w1 ⟨he, rfl⟩
  refine ⟨?_, Gr.refl _⟩
  rw [he]
  show Ending.returned (.string ⟨(Lib.trimPrefix l [45]).toArray⟩) = _
  have : Lib.trimPrefix l [45] = strip l := by
    cases l with
    | nil => rfl
    | cons c l =>
      rw [strip_cons]
      by_cases hc : c = 45
      · subst hc; simp [Lib.trimPrefix, Lib.hasPrefix]
      · have : ¬ (45 : UInt8) = c := fun e => hc e.symm
        simp [Lib.trimPrefix, Lib.hasPrefix, List.isPrefixOf, hc, this]
  rw [this]
theorem cut_any (l : List UInt8) (hl : l.length ≤ 1000000) {w : World} (hm : Mx w) :
    Calls Tryz.prog 127 #[.string ⟨l.toArray⟩, .string ⟨#[47]⟩] w fun e w' => e = .returned (.tuple #[.string ⟨(numL l).toArray⟩, .string ⟨((cutL l).2.getD []).toArray⟩, .bool (cutL l).2.isSome]) ∧ Gr w w' := by
  obtain ⟨m, hm⟩ := hm
  refine (Tryz.strings_Cut ⟨l.toArray⟩ ⟨#[47]⟩ m w (by show l.toArray.size < _; simp; omega) hm).mono ?_
  rintro e w1 ⟨he, n, rfl⟩
  refine ⟨?_, (Below.refl _ _).drewN _⟩
  rw [he]
  have e1 : (⟨l.toArray⟩ : ByteArray).data.toList = l := by simp
  rw [e1, show (⟨#[47]⟩ : ByteArray).data.toList = [47] from rfl, cut_slash]
theorem cut_no (l : List UInt8) (hl : l.length ≤ 1000000) (hc : cutL l = (l, none)) {w : World} (hm : Mx w) :
    Calls Tryz.prog 127 #[.string ⟨l.toArray⟩, .string ⟨#[47]⟩] w fun e w' => e = .returned (.tuple #[.string ⟨l.toArray⟩, .string ⟨([] : List UInt8).toArray⟩, .bool false]) ∧ Gr w w' := by
  refine (cut_any l hl hm).mono ?_
  rintro e w1 ⟨he, g⟩
  exact ⟨by rw [he, numL, hc]; rfl, g⟩
theorem cut_yes (X A D : List UInt8) (hl : X.length ≤ 1000000) (hc : cutL X = (A, some D)) {w : World} (hm : Mx w) :
    Calls Tryz.prog 127 #[.string ⟨X.toArray⟩, .string ⟨#[47]⟩] w fun e w' => e = .returned (.tuple #[.string ⟨A.toArray⟩, .string ⟨D.toArray⟩, .bool true]) ∧ Gr w w' := by
  refine (cut_any X hl hm).mono ?_
  rintro e w1 ⟨he, g⟩
  exact ⟨by rw [he, numL, hc]; rfl, g⟩
theorem strip_len (l : List UInt8) : (strip l).length ≤ l.length := by
  rcases strip_cases l with e | ⟨e, _⟩
  · have := congrArg List.length e; simp at this; omega
  · have := congrArg List.length e; omega
theorem strip_dig {l : List UInt8} (h : allD l = true) : allD (strip l) = true := by
  cases l with
  | nil => exact h
  | cons c l =>
    rw [strip_cons]
    by_cases hc : c = 45
    · have := (allD_all h).2 c (by simp)
      subst hc
      simp at this
    · rw [if_neg hc]; exact h
theorem badZ_head {l : List UInt8} (h : allD l = true) (h2 : zerosL l = false) (h3 : (l[0]? == some 48) = true) : badZ l = true := by
  cases l with
  | nil => cases h3
  | cons c l =>
    have hc : c = 48 := by simpa using h3
    subst hc
    cases l with
    | nil => simp [zerosL] at h2
    | cons d l => simp [badZ, strip_cons]
set_option maxHeartbeats 1000000 in
theorem parse_bad (l : List UInt8) (hl : l.length ≤ 60000) (h1 : allD (strip l) = true) (h2 : badZ l = true) (w : World) :
    Calls Tryz.prog 17 #[.string ⟨l.toArray⟩] w fun e w' => e = .returned (.tuple #[.agg #[.bool false, .slice none 0 0], .int .i64 3]) ∧ Gr w w' := by
  have hs1 := allD_all h1
  obtain ⟨s, hs⟩ : ∃ s : ByteArray, s = ⟨l.toArray⟩ := ⟨_, rfl⟩
  have hss : s.size = l.length := by rw [hs]; show l.toArray.size = _; simp
  obtain ⟨D, hD⟩ : ∃ D : ByteArray, D = ⟨(strip l).toArray⟩ := ⟨_, rfl⟩
  have hDl : D.data.toList = strip l := by rw [hD]
  have hDs : D.size = (strip l).length := by rw [hD]; show (strip l).toArray.size = _; simp
  have hD0 : 0 < D.size := by rw [hDs]; exact List.length_pos_iff.2 hs1.1
  have hslen := strip_len l
  have hc : ∀ w, Calls Tryz.prog 73 #[.string s, .string ⟨#[45]⟩] w fun e w' => e = .returned (.tuple #[.string D, .bool (decide ((strip l).length < l.length))]) ∧ w = w' := by
    intro w
    rw [hs, hD]
    refine (Tryz.strings_CutPrefix _ _ _).mono ?_
    rintro e w1 ⟨he, rfl⟩
    refine ⟨?_, rfl⟩
    rw [he]
    show Ending.returned (.tuple #[.string ⟨(Lib.trimPrefix l [45]).toArray⟩, .bool (Lib.hasPrefix l [45])]) = _
    cases l with
    | nil => rfl
    | cons c l =>
      rw [strip_cons]
      by_cases hc : c = 45
      · subst hc; simp [Lib.trimPrefix, Lib.hasPrefix]
      · have : ¬ (45 : UInt8) = c := fun e => hc e.symm
        simp [Lib.trimPrefix, Lib.hasPrefix, List.isPrefixOf, hc, this]
  have hcn := contains_no D (by rw [hDl]; exact hs1.2)
  have hne : (D.toList == []) = false := by
    rw [beq_eq_false_iff_ne, ByteArray.toList_eq, hDl]; exact hs1.1
  have hz0 : (D[0].toNat : Int) = 48 ∧ (1 < D.size ∨ (strip l).length < l.length) := by
    unfold badZ at h2
    simp only [Bool.and_eq_true, Bool.or_eq_true, decide_eq_true_eq] at h2
    have hh := head48 hD0
    rw [hDl, h2.1] at hh
    have hh := (beq_iff_eq.1 hh.symm)
    refine ⟨hh, ?_⟩
    rw [hDs]
    omega
  have h48' : ((D[0].toNat : Int) == 48) = true := by rw [hz0.1]; rfl
  have hor := hz0.2
  have hD1 : D.size ≤ 60000 := by omega
  have hss2 : s.size ≤ 60000 := by omega
  rw [← hs]
  have HD := Lib.hid hDl
  clear hz0 hDl hDs hD hs hss h2 hs1 h1 hslen
  go_enter Tryz.func17, Tryz.ntmps17
  go_wp2_with fail
  (with_reducible refine (hc _).mono ?_)
  rintro e w1 ⟨rfl, rfl⟩
  clear hc
  go_wp2_with fail
  (with_reducible refine (hcn _).mono ?_)
  rintro e w2 ⟨rfl, g2⟩
  clear hcn
  have p3 := Gr.heap g2 (heap_alloc_new w (.cells #[.bool false, .slice none 0 0] 27))
  have d0 := cells_of p3 0
  have d1 := cells_of p3 1
  have d2 := free_of p3
  have gw : Gr w w2 := (Gr.alloc w _).trans g2
  by_cases hD2 : (1 : Int) < (D.size : Int)
  · go_wp2
    have p4 := heap_setCell_at (i := 1) (.slice none 0 0) (heap_setCell_at (i := 0) (.bool false) p3)
    have hst := (St.setCell w2 w.heap.size 0 (.bool false)).trans (St.setCell _ w.heap.size 1 (.slice none 0 0))
    exact bodyPost_ret (v := .tuple #[.agg #[.bool false, .slice none 0 0], .int .i64 3]) (ret_cell_tmp' _ _ _ rfl rfl p4 (by kernel_rfl) rfl) rfl ⟨rfl, hst.gr gw (Nat.le_refl _)⟩
  · have hlt : (strip l).length < l.length := by
      rcases hor with h | h
      · omega
      · exact h
    go_wp2
    have p4 := heap_setCell_at (i := 1) (.slice none 0 0) (heap_setCell_at (i := 0) (.bool false) p3)
    have hst := (St.setCell w2 w.heap.size 0 (.bool false)).trans (St.setCell _ w.heap.size 1 (.slice none 0 0))
    exact bodyPost_ret (v := .tuple #[.agg #[.bool false, .slice none 0 0], .int .i64 3]) (ret_cell_tmp' _ _ _ rfl rfl p4 (by kernel_rfl) rfl) rfl ⟨rfl, hst.gr gw (Nat.le_refl _)⟩
end Go.Proofs.YtloocadjbpgldaaGreatDoor
/- Printed by a program of the prover's: rational.read at any text. -/
namespace Go.Proofs.YtloocadjbpgldaaGreatDoor
open Go.RowKit

set_option maxRecDepth 100000 in
set_option maxHeartbeats 1000000 in
theorem rdigits_a (l : List UInt8) (_hl : l.length ≤ 1000000) (w : World) :
    Calls Tryz.prog 128 #[(.string ⟨(l : List UInt8).toArray⟩)] w fun e w' => e = .returned (.bool (allD l)) ∧ Gr w w' := by
 go_enter Tryz.func128, Tryz.ntmps128
 have hB := Gr.refl w
 refine wp_seq_k (fun K1 k1 => ?_)
 refine rg [0] ?_
 refine sv 2 (.bool false) ?_
 simp only [p3, p4]
 refine sq_nil ?_
 refine k1 _ _ ?_
 try clear k1 K1
 refine wp_seq_k (fun K2 k2 => ?_)
 refine rg [0, 1, 2, 3, 4, 5, 6, 7] ?_
 refine sv 3 (.string ⟨(l : List UInt8).toArray⟩) ?_
 simp only [p3, p4]
 refine sw 4 (.bool (((l) != ([] : List UInt8)))) rfl (rv_sne 9 9 _ _ (l) ([]) rfl rfl rfl) ?_
 simp only [p3, p4]
 rcases Bool.eq_false_or_eq_true (((l) != ([] : List UInt8))) with hb3 | hb3
 ·refine sw 5 (.bool true) rfl (RunV.bool (x := ((l) != ([] : List UInt8))) (rvk (by kernel_rfl)) hb3) ?_
  simp only [p3, p4]
  refine sv 6 (.string ⟨(l : List UInt8).toArray⟩) ?_
  simp only [p3, p4]
  refine se ?_
  refine ec 7 (trim_any (l) (by omega) _) ?_
  rintro e4 w4 ⟨rfl, g4⟩
  refine ⟨_, rfl, ?_⟩
  replace hB := hB.trans g4
  simp only [p3, p4]
  refine sw 8 (.bool (((Lib.trimS (l) [48, 49, 50, 51, 52, 53, 54, 55, 56, 57]) == ([] : List UInt8)))) rfl (rv_seq 9 9 _ _ (Lib.trimS (l) [48, 49, 50, 51, 52, 53, 54, 55, 56, 57]) ([]) rfl rfl rfl) ?_
  simp only [p3, p4]
  refine sv 9 (.bool (((Lib.trimS (l) [48, 49, 50, 51, 52, 53, 54, 55, 56, 57]) == ([] : List UInt8)))) ?_
  simp only [p3, p4]
  refine sv 2 (.bool (((Lib.trimS (l) [48, 49, 50, 51, 52, 53, 54, 55, 56, 57]) == ([] : List UInt8)))) ?_
  simp only [p3, p4]
  refine sq_nil ?_
  refine k2 _ _ ?_
  try clear k2 K2
  refine wp_ret ?_
  refine bodyPost_ret (v := (.bool (((Lib.trimS (l) [48, 49, 50, 51, 52, 53, 54, 55, 56, 57]) == ([] : List UInt8))))) (ret_tmp rfl rfl) rfl ⟨?_, hB⟩
  exact (by rw [allD_trim, hb3]; rfl)
 ·refine sw 5 (.bool false) rfl (RunV.bool (x := ((l) != ([] : List UInt8))) (rvk (by kernel_rfl)) hb3) ?_
  simp only [p3, p4]
  refine ss 6 ?_
  simp only [p3, p4]
  refine ss 7 ?_
  simp only [p3, p4]
  refine ss 8 ?_
  simp only [p3, p4]
  refine sv 9 (.bool false) ?_
  simp only [p3, p4]
  refine sv 2 (.bool false) ?_
  simp only [p3, p4]
  refine sq_nil ?_
  refine k2 _ _ ?_
  try clear k2 K2
  refine wp_ret ?_
  refine bodyPost_ret (v := (.bool false)) (ret_tmp rfl rfl) rfl ⟨?_, hB⟩
  exact (by rw [allD_trim, hb3]; rfl)

set_option maxRecDepth 100000 in
set_option maxHeartbeats 1000000 in
theorem read_long (X : List UInt8) (most : Int) (_hx : X.length ≤ 1000000) (_hlong : most < (X.length : Int)) (w : World) (hm : Mx w) :
    Calls Tryz.prog 92 #[(.string ⟨(X : List UInt8).toArray⟩), (.int .i64 (most))] w fun e w' => e = .returned (.tuple #[.agg #[.bool false, .slice none 0 0, .bool false, .slice none 0 0], .int .i64 5]) ∧ Gr w w' := by
 have hl : decide (most < ((X).length : Int)) = true := by simp; omega
 go_enter Tryz.func92, Tryz.ntmps92
 have hB := Gr.refl w
 refine wp_seq_k (fun K1 k1 => ?_)
 refine rg [0, 1] ?_
 refine se ?_
 refine ea 31 #[(.bool false), (.slice none 0 0), (.bool false), (.slice none 0 0)] 4 hB fun b2 w2 g2 L2 o2 q2 hB => ?_
 simp only [p3, p4]
 refine sv 5 (.int .i64 0) ?_
 simp only [p3, p4]
 refine sq_nil ?_
 refine k1 _ _ ?_
 try clear k1 K1
 refine wp_seq_k (fun K3 k3 => ?_)
 refine rg [0, 1] ?_
 refine sv 13 (.string ⟨(X : List UInt8).toArray⟩) ?_
 simp only [p3, p4]
 refine sv 6 (.string ⟨(X : List UInt8).toArray⟩) ?_
 simp only [p3, p4]
 refine sq_nil ?_
 refine k3 _ _ ?_
 try clear k3 K3
 refine wp_seq_k (fun K4 k4 => ?_)
 refine rg [0, 1, 2, 3, 4, 5, 6, 7, 8] ?_
 refine sv 15 (.string ⟨(X : List UInt8).toArray⟩) ?_
 simp only [p3, p4]
 refine se ?_
 refine ec 16 (cut_any (X) (by omega) (hm.gr hB)) ?_
 rintro e5 w5 ⟨rfl, g5⟩
 refine ⟨_, rfl, ?_⟩
 replace hB := hB.trans g5
 simp only [p3, p4]
 refine sv 14 (.tuple #[(.string ⟨(numL (X) : List UInt8).toArray⟩), (.string ⟨((cutL (X)).2.getD [] : List UInt8).toArray⟩), (.bool ((cutL (X)).2.isSome))]) ?_
 simp only [p3, p4]
 refine sv 17 (.string ⟨(numL (X) : List UInt8).toArray⟩) ?_
 simp only [p3, p4]
 refine sv 18 (.string ⟨((cutL (X)).2.getD [] : List UInt8).toArray⟩) ?_
 simp only [p3, p4]
 refine sv 19 (.bool ((cutL (X)).2.isSome)) ?_
 simp only [p3, p4]
 refine sv 7 (.string ⟨(numL (X) : List UInt8).toArray⟩) ?_
 simp only [p3, p4]
 refine sv 8 (.string ⟨((cutL (X)).2.getD [] : List UInt8).toArray⟩) ?_
 simp only [p3, p4]
 refine sv 9 (.bool ((cutL (X)).2.isSome)) ?_
 simp only [p3, p4]
 refine sq_nil ?_
 refine k4 _ _ ?_
 try clear k4 K4
 refine wp_seq_k (fun K6 k6 => ?_)
 refine wp_block ?_
 refine wp_seq_k (fun K7 k7 => ?_)
 refine rg [0, 1, 2, 3, 4] ?_
 refine sv 21 (.string ⟨(X : List UInt8).toArray⟩) ?_
 simp only [p3, p4]
 refine sv 22 (.int .i64 (((X).length : Int))) ?_
 simp only [p3, p4]
 refine sv 23 (.int .i64 (most)) ?_
 simp only [p3, p4]
 refine sw 24 (.bool true) rfl (RunV.bool (x := decide (most < ((X).length : Int))) (rvk (by kernel_rfl)) hl) ?_
 simp only [p3, p4]
 refine sv 20 (.bool true) ?_
 simp only [p3, p4]
 refine sq_nil ?_
 refine k7 _ _ ?_
 try clear k7 K7
 refine wp_cond_true rfl ?_
 refine wp_seq_k (fun K8 k8 => ?_)
 refine rg [0, 1, 2] ?_
 refine sv 25 (.agg #[(.bool false), (.slice none 0 0), (.bool false), (.slice none 0 0)]) ?_
 simp only [p3, p4]
 refine se ?_
 replace L2 := L2.gr g5
 refine es 31 0 (.agg #[(.bool false), (.slice none 0 0), (.bool false), (.slice none 0 0)]) [(.bool false), (.slice none 0 0), (.bool false), (.slice none 0 0)] #[(.bool false), (.slice none 0 0), (.bool false), (.slice none 0 0)] L2 hB q2 ⟨rfl, rfl, rfl, rfl, trivial⟩ fun w9 st9 kp9 L2 hB => ?_
 refine sv 5 (.int .i64 5) ?_
 simp only [p3, p4]
 refine sq_nil ?_
 refine k8 _ _ ?_
 try clear k8 K8
 refine wp_ret ?_
 simp only [Exit.then, Exit.inBlock]
 refine bodyPost_ret (v := (.tuple #[(.agg #[(.bool false), (.slice none 0 0), (.bool false), (.slice none 0 0)]), (.int .i64 5)])) (ret_cell_tmp' _ _ _ rfl rfl L2 (by kernel_rfl) rfl) rfl ⟨?_, hB⟩
 exact rfl

set_option maxRecDepth 100000 in
set_option maxHeartbeats 1000000 in
theorem read_ns (X : List UInt8) (most : Int) (_hx : X.length ≤ 14000) (_hlong : (X.length : Int) ≤ most) (hc : cutL X = (X, none)) (h1 : allD (strip X) = false) (w : World) (hm : Mx w) :
    Calls Tryz.prog 92 #[(.string ⟨(X : List UInt8).toArray⟩), (.int .i64 (most))] w fun e w' => e = .returned (.tuple #[.agg #[.bool false, .slice none 0 0, .bool false, .slice none 0 0], .int .i64 14]) ∧ Gr w w' := by
 have hl : decide (most < ((X).length : Int)) = false := by simp; omega
 have hsX : (strip (X)).length ≤ (X).length := strip_len _
 go_enter Tryz.func92, Tryz.ntmps92
 have hB := Gr.refl w
 refine wp_seq_k (fun K1 k1 => ?_)
 refine rg [0, 1] ?_
 refine se ?_
 refine ea 31 #[(.bool false), (.slice none 0 0), (.bool false), (.slice none 0 0)] 4 hB fun b2 w2 g2 L2 o2 q2 hB => ?_
 simp only [p3, p4]
 refine sv 5 (.int .i64 0) ?_
 simp only [p3, p4]
 refine sq_nil ?_
 refine k1 _ _ ?_
 try clear k1 K1
 refine wp_seq_k (fun K3 k3 => ?_)
 refine rg [0, 1] ?_
 refine sv 13 (.string ⟨(X : List UInt8).toArray⟩) ?_
 simp only [p3, p4]
 refine sv 6 (.string ⟨(X : List UInt8).toArray⟩) ?_
 simp only [p3, p4]
 refine sq_nil ?_
 refine k3 _ _ ?_
 try clear k3 K3
 refine wp_seq_k (fun K4 k4 => ?_)
 refine rg [0, 1, 2, 3, 4, 5, 6, 7, 8] ?_
 refine sv 15 (.string ⟨(X : List UInt8).toArray⟩) ?_
 simp only [p3, p4]
 refine se ?_
 refine ec 16 (cut_no (X) (by omega) hc (hm.gr hB)) ?_
 rintro e5 w5 ⟨rfl, g5⟩
 refine ⟨_, rfl, ?_⟩
 replace hB := hB.trans g5
 simp only [p3, p4]
 refine sv 14 (.tuple #[(.string ⟨(X : List UInt8).toArray⟩), (.string ⟨([] : List UInt8).toArray⟩), (.bool false)]) ?_
 simp only [p3, p4]
 refine sv 17 (.string ⟨(X : List UInt8).toArray⟩) ?_
 simp only [p3, p4]
 refine sv 18 (.string ⟨([] : List UInt8).toArray⟩) ?_
 simp only [p3, p4]
 refine sv 19 (.bool false) ?_
 simp only [p3, p4]
 refine sv 7 (.string ⟨(X : List UInt8).toArray⟩) ?_
 simp only [p3, p4]
 refine sv 8 (.string ⟨([] : List UInt8).toArray⟩) ?_
 simp only [p3, p4]
 refine sv 9 (.bool false) ?_
 simp only [p3, p4]
 refine sq_nil ?_
 refine k4 _ _ ?_
 try clear k4 K4
 refine wp_seq_k (fun K6 k6 => ?_)
 refine wp_block ?_
 refine wp_seq_k (fun K7 k7 => ?_)
 refine rg [0, 1, 2, 3, 4] ?_
 refine sv 21 (.string ⟨(X : List UInt8).toArray⟩) ?_
 simp only [p3, p4]
 refine sv 22 (.int .i64 (((X).length : Int))) ?_
 simp only [p3, p4]
 refine sv 23 (.int .i64 (most)) ?_
 simp only [p3, p4]
 refine sw 24 (.bool false) rfl (RunV.bool (x := decide (most < ((X).length : Int))) (rvk (by kernel_rfl)) hl) ?_
 simp only [p3, p4]
 refine sv 20 (.bool false) ?_
 simp only [p3, p4]
 refine sq_nil ?_
 refine k7 _ _ ?_
 try clear k7 K7
 refine wp_cond_false rfl ?_
 refine wp_seq_k (fun K8 k8 => ?_)
 refine rg [0, 1, 2, 3, 4, 5, 6, 7, 8, 9, 10, 11, 12] ?_
 refine sv 27 (.string ⟨(X : List UInt8).toArray⟩) ?_
 simp only [p3, p4]
 refine se ?_
 refine ec 28 (trimprefix_any (X) _) ?_
 rintro e9 w9 ⟨rfl, g9⟩
 refine ⟨_, rfl, ?_⟩
 replace hB := hB.trans g9
 simp only [p3, p4]
 refine se ?_
 refine ec 29 (rdigits_a (strip (X)) (by omega) _) ?_
 rintro e10 w10 ⟨rfl, g10⟩
 refine ⟨_, rfl, ?_⟩
 replace hB := hB.trans g10
 simp only [p3, p4]
 refine sw 30 (.bool true) rfl (RunV.bool (x := !(allD (strip (X)))) (rvk (by kernel_rfl)) (show (!(allD (strip (X)))) = true by rw [h1]; rfl)) ?_
 simp only [p3, p4]
 refine sv 31 (.bool true) ?_
 simp only [p3, p4]
 refine ss 32 ?_
 simp only [p3, p4]
 refine ss 33 ?_
 simp only [p3, p4]
 refine ss 34 ?_
 simp only [p3, p4]
 refine ss 35 ?_
 simp only [p3, p4]
 refine ss 36 ?_
 simp only [p3, p4]
 refine ss 37 ?_
 simp only [p3, p4]
 refine sv 38 (.bool true) ?_
 simp only [p3, p4]
 refine sv 26 (.bool true) ?_
 simp only [p3, p4]
 refine sq_nil ?_
 refine k8 _ _ ?_
 try clear k8 K8
 refine wp_cond_true rfl ?_
 refine wp_seq_k (fun K11 k11 => ?_)
 refine rg [0, 1, 2] ?_
 refine sv 39 (.agg #[(.bool false), (.slice none 0 0), (.bool false), (.slice none 0 0)]) ?_
 simp only [p3, p4]
 refine se ?_
 replace L2 := L2.gr (g5.trans (g9.trans g10))
 refine es 31 0 (.agg #[(.bool false), (.slice none 0 0), (.bool false), (.slice none 0 0)]) [(.bool false), (.slice none 0 0), (.bool false), (.slice none 0 0)] #[(.bool false), (.slice none 0 0), (.bool false), (.slice none 0 0)] L2 hB q2 ⟨rfl, rfl, rfl, rfl, trivial⟩ fun w12 st12 kp12 L2 hB => ?_
 refine sv 5 (.int .i64 14) ?_
 simp only [p3, p4]
 refine sq_nil ?_
 refine k11 _ _ ?_
 try clear k11 K11
 refine wp_ret ?_
 simp only [Exit.then, Exit.inBlock]
 refine bodyPost_ret (v := (.tuple #[(.agg #[(.bool false), (.slice none 0 0), (.bool false), (.slice none 0 0)]), (.int .i64 14)])) (ret_cell_tmp' _ _ _ rfl rfl L2 (by kernel_rfl) rfl) rfl ⟨?_, hB⟩
 exact rfl

set_option maxRecDepth 100000 in
set_option maxHeartbeats 1000000 in
theorem read_nf (X : List UInt8) (most : Int) (_hx : X.length ≤ 14000) (_hlong : (X.length : Int) ≤ most) (hc : cutL X = (X, none)) (h1 : allD (strip X) = true) (h2 : badZ X = true) (w : World) (hm : Mx w) :
    Calls Tryz.prog 92 #[(.string ⟨(X : List UInt8).toArray⟩), (.int .i64 (most))] w fun e w' => e = .returned (.tuple #[.agg #[.bool false, .slice none 0 0, .bool false, .slice none 0 0], .int .i64 3]) ∧ Gr w w' := by
 have hl : decide (most < ((X).length : Int)) = false := by simp; omega
 have hsX : (strip (X)).length ≤ (X).length := strip_len _
 go_enter Tryz.func92, Tryz.ntmps92
 have hB := Gr.refl w
 refine wp_seq_k (fun K1 k1 => ?_)
 refine rg [0, 1] ?_
 refine se ?_
 refine ea 31 #[(.bool false), (.slice none 0 0), (.bool false), (.slice none 0 0)] 4 hB fun b2 w2 g2 L2 o2 q2 hB => ?_
 simp only [p3, p4]
 refine sv 5 (.int .i64 0) ?_
 simp only [p3, p4]
 refine sq_nil ?_
 refine k1 _ _ ?_
 try clear k1 K1
 refine wp_seq_k (fun K3 k3 => ?_)
 refine rg [0, 1] ?_
 refine sv 13 (.string ⟨(X : List UInt8).toArray⟩) ?_
 simp only [p3, p4]
 refine sv 6 (.string ⟨(X : List UInt8).toArray⟩) ?_
 simp only [p3, p4]
 refine sq_nil ?_
 refine k3 _ _ ?_
 try clear k3 K3
 refine wp_seq_k (fun K4 k4 => ?_)
 refine rg [0, 1, 2, 3, 4, 5, 6, 7, 8] ?_
 refine sv 15 (.string ⟨(X : List UInt8).toArray⟩) ?_
 simp only [p3, p4]
 refine se ?_
 refine ec 16 (cut_no (X) (by omega) hc (hm.gr hB)) ?_
 rintro e5 w5 ⟨rfl, g5⟩
 refine ⟨_, rfl, ?_⟩
 replace hB := hB.trans g5
 simp only [p3, p4]
 refine sv 14 (.tuple #[(.string ⟨(X : List UInt8).toArray⟩), (.string ⟨([] : List UInt8).toArray⟩), (.bool false)]) ?_
 simp only [p3, p4]
 refine sv 17 (.string ⟨(X : List UInt8).toArray⟩) ?_
 simp only [p3, p4]
 refine sv 18 (.string ⟨([] : List UInt8).toArray⟩) ?_
 simp only [p3, p4]
 refine sv 19 (.bool false) ?_
 simp only [p3, p4]
 refine sv 7 (.string ⟨(X : List UInt8).toArray⟩) ?_
 simp only [p3, p4]
 refine sv 8 (.string ⟨([] : List UInt8).toArray⟩) ?_
 simp only [p3, p4]
 refine sv 9 (.bool false) ?_
 simp only [p3, p4]
 refine sq_nil ?_
 refine k4 _ _ ?_
 try clear k4 K4
 refine wp_seq_k (fun K6 k6 => ?_)
 refine wp_block ?_
 refine wp_seq_k (fun K7 k7 => ?_)
 refine rg [0, 1, 2, 3, 4] ?_
 refine sv 21 (.string ⟨(X : List UInt8).toArray⟩) ?_
 simp only [p3, p4]
 refine sv 22 (.int .i64 (((X).length : Int))) ?_
 simp only [p3, p4]
 refine sv 23 (.int .i64 (most)) ?_
 simp only [p3, p4]
 refine sw 24 (.bool false) rfl (RunV.bool (x := decide (most < ((X).length : Int))) (rvk (by kernel_rfl)) hl) ?_
 simp only [p3, p4]
 refine sv 20 (.bool false) ?_
 simp only [p3, p4]
 refine sq_nil ?_
 refine k7 _ _ ?_
 try clear k7 K7
 refine wp_cond_false rfl ?_
 refine wp_seq_k (fun K8 k8 => ?_)
 refine rg [0, 1, 2, 3, 4, 5, 6, 7, 8, 9, 10, 11, 12] ?_
 refine sv 27 (.string ⟨(X : List UInt8).toArray⟩) ?_
 simp only [p3, p4]
 refine se ?_
 refine ec 28 (trimprefix_any (X) _) ?_
 rintro e9 w9 ⟨rfl, g9⟩
 refine ⟨_, rfl, ?_⟩
 replace hB := hB.trans g9
 simp only [p3, p4]
 refine se ?_
 refine ec 29 (rdigits_a (strip (X)) (by omega) _) ?_
 rintro e10 w10 ⟨rfl, g10⟩
 refine ⟨_, rfl, ?_⟩
 replace hB := hB.trans g10
 simp only [p3, p4]
 refine sw 30 (.bool false) rfl (RunV.bool (x := !(allD (strip (X)))) (rvk (by kernel_rfl)) (show (!(allD (strip (X)))) = false by rw [h1]; rfl)) ?_
 simp only [p3, p4]
 refine sv 31 (.bool false) ?_
 simp only [p3, p4]
 refine sv 32 (.bool false) ?_
 simp only [p3, p4]
 refine sv 33 (.bool false) ?_
 simp only [p3, p4]
 refine ss 34 ?_
 simp only [p3, p4]
 refine ss 35 ?_
 simp only [p3, p4]
 refine ss 36 ?_
 simp only [p3, p4]
 refine sv 37 (.bool false) ?_
 simp only [p3, p4]
 refine sv 38 (.bool false) ?_
 simp only [p3, p4]
 refine sv 26 (.bool false) ?_
 simp only [p3, p4]
 refine sq_nil ?_
 refine k8 _ _ ?_
 try clear k8 K8
 refine wp_cond_false rfl ?_
 refine wp_seq_k (fun K11 k11 => ?_)
 refine rg [0, 1, 2, 3, 4, 5, 6] ?_
 refine sv 41 (.bool false) ?_
 simp only [p3, p4]
 refine sv 42 (.bool false) ?_
 simp only [p3, p4]
 refine ss 43 ?_
 simp only [p3, p4]
 refine ss 44 ?_
 simp only [p3, p4]
 refine ss 45 ?_
 simp only [p3, p4]
 refine sv 46 (.bool false) ?_
 simp only [p3, p4]
 refine sv 40 (.bool false) ?_
 simp only [p3, p4]
 refine sq_nil ?_
 refine k11 _ _ ?_
 try clear k11 K11
 refine wp_cond_false rfl ?_
 refine wp_skip ?_
 refine k6 _ _ ?_
 try clear k6 K6
 refine wp_seq_k (fun K12 k12 => ?_)
 refine rg [0, 1, 2, 3, 4, 5, 6, 7] ?_
 refine sv 49 (.string ⟨(X : List UInt8).toArray⟩) ?_
 simp only [p3, p4]
 refine se ?_
 refine ec 50 (parse_bad (X) (by omega) h1 h2 _) ?_
 rintro e13 w13 ⟨rfl, g13⟩
 refine ⟨_, rfl, ?_⟩
 replace hB := hB.trans g13
 simp only [p3, p4]
 refine sv 48 (.tuple #[(.agg #[(.bool false), (.slice none 0 0)]), (.int .i64 3)]) ?_
 simp only [p3, p4]
 refine sv 51 (.agg #[(.bool false), (.slice none 0 0)]) ?_
 simp only [p3, p4]
 refine sv 52 (.int .i64 3) ?_
 simp only [p3, p4]
 refine se ?_
 refine ea 27 #[(.bool false), (.slice none 0 0)] 10 hB fun b14 w14 g14 L14 o14 q14 hB => ?_
 replace L2 := L2.gr (g5.trans (g9.trans (g10.trans g13)))
 have ne2_14 := L2.ne o14
 simp only [p3, p4]
 refine se ?_
 refine es 27 0 (.agg #[(.bool false), (.slice none 0 0)]) [(.bool false), (.slice none 0 0)] #[(.bool false), (.slice none 0 0)] L14 hB q14 ⟨rfl, rfl, trivial⟩ fun w15 st15 kp15 L14 hB => ?_
 refine sv 11 (.int .i64 3) ?_
 simp only [p3, p4]
 refine sq_nil ?_
 refine k12 _ _ ?_
 try clear k12 K12
 refine wp_seq_k (fun K16 k16 => ?_)
 refine wp_seq_k (fun K17 k17 => ?_)
 refine rg [0, 1] ?_
 refine sv 53 (.int .i64 3) ?_
 simp only [p3, p4]
 refine sv 54 (.bool true) ?_
 simp only [p3, p4]
 refine sq_nil ?_
 refine k17 _ _ ?_
 try clear k17 K17
 refine wp_cond_true rfl ?_
 refine wp_seq_k (fun K18 k18 => ?_)
 refine rg [0, 1, 2] ?_
 refine sv 55 (.agg #[(.bool false), (.slice none 0 0), (.bool false), (.slice none 0 0)]) ?_
 simp only [p3, p4]
 refine se ?_
 replace L2 := st15.lc (L2.gr g14) ne2_14
 refine es 31 0 (.agg #[(.bool false), (.slice none 0 0), (.bool false), (.slice none 0 0)]) [(.bool false), (.slice none 0 0), (.bool false), (.slice none 0 0)] #[(.bool false), (.slice none 0 0), (.bool false), (.slice none 0 0)] L2 hB q2 ⟨rfl, rfl, rfl, rfl, trivial⟩ fun w19 st19 kp19 L2 hB => ?_
 refine sv 5 (.int .i64 3) ?_
 simp only [p3, p4]
 refine sq_nil ?_
 refine k18 _ _ ?_
 try clear k18 K18
 refine wp_ret ?_
 simp only [Exit.then]
 refine bodyPost_ret (v := (.tuple #[(.agg #[(.bool false), (.slice none 0 0), (.bool false), (.slice none 0 0)]), (.int .i64 3)])) (ret_cell_tmp' _ _ _ rfl rfl L2 (by kernel_rfl) rfl) rfl ⟨?_, hB⟩
 exact rfl

set_option maxRecDepth 100000 in
set_option maxHeartbeats 1000000 in
theorem read_fs1 (X A D : List UInt8) (most : Int) (_hx : X.length ≤ 14000) (_hlong : (X.length : Int) ≤ most) (hc : cutL X = (A, some D)) (_hA : (A).length ≤ X.length) (_hD : D.length ≤ X.length) (h1 : allD (strip A) = false) (w : World) (hm : Mx w) :
    Calls Tryz.prog 92 #[(.string ⟨(X : List UInt8).toArray⟩), (.int .i64 (most))] w fun e w' => e = .returned (.tuple #[.agg #[.bool false, .slice none 0 0, .bool false, .slice none 0 0], .int .i64 14]) ∧ Gr w w' := by
 have hl : decide (most < ((X).length : Int)) = false := by simp; omega
 have hsA : (strip (A)).length ≤ (A).length := strip_len _
 go_enter Tryz.func92, Tryz.ntmps92
 have hB := Gr.refl w
 refine wp_seq_k (fun K1 k1 => ?_)
 refine rg [0, 1] ?_
 refine se ?_
 refine ea 31 #[(.bool false), (.slice none 0 0), (.bool false), (.slice none 0 0)] 4 hB fun b2 w2 g2 L2 o2 q2 hB => ?_
 simp only [p3, p4]
 refine sv 5 (.int .i64 0) ?_
 simp only [p3, p4]
 refine sq_nil ?_
 refine k1 _ _ ?_
 try clear k1 K1
 refine wp_seq_k (fun K3 k3 => ?_)
 refine rg [0, 1] ?_
 refine sv 13 (.string ⟨(X : List UInt8).toArray⟩) ?_
 simp only [p3, p4]
 refine sv 6 (.string ⟨(X : List UInt8).toArray⟩) ?_
 simp only [p3, p4]
 refine sq_nil ?_
 refine k3 _ _ ?_
 try clear k3 K3
 refine wp_seq_k (fun K4 k4 => ?_)
 refine rg [0, 1, 2, 3, 4, 5, 6, 7, 8] ?_
 refine sv 15 (.string ⟨(X : List UInt8).toArray⟩) ?_
 simp only [p3, p4]
 refine se ?_
 refine ec 16 (cut_yes (X) (A) (D) (by omega) hc (hm.gr hB)) ?_
 rintro e5 w5 ⟨rfl, g5⟩
 refine ⟨_, rfl, ?_⟩
 replace hB := hB.trans g5
 simp only [p3, p4]
 refine sv 14 (.tuple #[(.string ⟨(A : List UInt8).toArray⟩), (.string ⟨(D : List UInt8).toArray⟩), (.bool true)]) ?_
 simp only [p3, p4]
 refine sv 17 (.string ⟨(A : List UInt8).toArray⟩) ?_
 simp only [p3, p4]
 refine sv 18 (.string ⟨(D : List UInt8).toArray⟩) ?_
 simp only [p3, p4]
 refine sv 19 (.bool true) ?_
 simp only [p3, p4]
 refine sv 7 (.string ⟨(A : List UInt8).toArray⟩) ?_
 simp only [p3, p4]
 refine sv 8 (.string ⟨(D : List UInt8).toArray⟩) ?_
 simp only [p3, p4]
 refine sv 9 (.bool true) ?_
 simp only [p3, p4]
 refine sq_nil ?_
 refine k4 _ _ ?_
 try clear k4 K4
 refine wp_seq_k (fun K6 k6 => ?_)
 refine wp_block ?_
 refine wp_seq_k (fun K7 k7 => ?_)
 refine rg [0, 1, 2, 3, 4] ?_
 refine sv 21 (.string ⟨(X : List UInt8).toArray⟩) ?_
 simp only [p3, p4]
 refine sv 22 (.int .i64 (((X).length : Int))) ?_
 simp only [p3, p4]
 refine sv 23 (.int .i64 (most)) ?_
 simp only [p3, p4]
 refine sw 24 (.bool false) rfl (RunV.bool (x := decide (most < ((X).length : Int))) (rvk (by kernel_rfl)) hl) ?_
 simp only [p3, p4]
 refine sv 20 (.bool false) ?_
 simp only [p3, p4]
 refine sq_nil ?_
 refine k7 _ _ ?_
 try clear k7 K7
 refine wp_cond_false rfl ?_
 refine wp_seq_k (fun K8 k8 => ?_)
 refine rg [0, 1, 2, 3, 4, 5, 6, 7, 8, 9, 10, 11, 12] ?_
 refine sv 27 (.string ⟨(A : List UInt8).toArray⟩) ?_
 simp only [p3, p4]
 refine se ?_
 refine ec 28 (trimprefix_any (A) _) ?_
 rintro e9 w9 ⟨rfl, g9⟩
 refine ⟨_, rfl, ?_⟩
 replace hB := hB.trans g9
 simp only [p3, p4]
 refine se ?_
 refine ec 29 (rdigits_a (strip (A)) (by omega) _) ?_
 rintro e10 w10 ⟨rfl, g10⟩
 refine ⟨_, rfl, ?_⟩
 replace hB := hB.trans g10
 simp only [p3, p4]
 refine sw 30 (.bool true) rfl (RunV.bool (x := !(allD (strip (A)))) (rvk (by kernel_rfl)) (show (!(allD (strip (A)))) = true by rw [h1]; rfl)) ?_
 simp only [p3, p4]
 refine sv 31 (.bool true) ?_
 simp only [p3, p4]
 refine ss 32 ?_
 simp only [p3, p4]
 refine ss 33 ?_
 simp only [p3, p4]
 refine ss 34 ?_
 simp only [p3, p4]
 refine ss 35 ?_
 simp only [p3, p4]
 refine ss 36 ?_
 simp only [p3, p4]
 refine ss 37 ?_
 simp only [p3, p4]
 refine sv 38 (.bool true) ?_
 simp only [p3, p4]
 refine sv 26 (.bool true) ?_
 simp only [p3, p4]
 refine sq_nil ?_
 refine k8 _ _ ?_
 try clear k8 K8
 refine wp_cond_true rfl ?_
 refine wp_seq_k (fun K11 k11 => ?_)
 refine rg [0, 1, 2] ?_
 refine sv 39 (.agg #[(.bool false), (.slice none 0 0), (.bool false), (.slice none 0 0)]) ?_
 simp only [p3, p4]
 refine se ?_
 replace L2 := L2.gr (g5.trans (g9.trans g10))
 refine es 31 0 (.agg #[(.bool false), (.slice none 0 0), (.bool false), (.slice none 0 0)]) [(.bool false), (.slice none 0 0), (.bool false), (.slice none 0 0)] #[(.bool false), (.slice none 0 0), (.bool false), (.slice none 0 0)] L2 hB q2 ⟨rfl, rfl, rfl, rfl, trivial⟩ fun w12 st12 kp12 L2 hB => ?_
 refine sv 5 (.int .i64 14) ?_
 simp only [p3, p4]
 refine sq_nil ?_
 refine k11 _ _ ?_
 try clear k11 K11
 refine wp_ret ?_
 simp only [Exit.then, Exit.inBlock]
 refine bodyPost_ret (v := (.tuple #[(.agg #[(.bool false), (.slice none 0 0), (.bool false), (.slice none 0 0)]), (.int .i64 14)])) (ret_cell_tmp' _ _ _ rfl rfl L2 (by kernel_rfl) rfl) rfl ⟨?_, hB⟩
 exact rfl

set_option maxRecDepth 100000 in
set_option maxHeartbeats 1000000 in
theorem read_fs2 (X A D : List UInt8) (most : Int) (_hx : X.length ≤ 14000) (_hlong : (X.length : Int) ≤ most) (hc : cutL X = (A, some D)) (_hA : (A).length ≤ X.length) (_hD : D.length ≤ X.length) (h1 : allD (strip A) = true) (h2 : allD D = false) (w : World) (hm : Mx w) :
    Calls Tryz.prog 92 #[(.string ⟨(X : List UInt8).toArray⟩), (.int .i64 (most))] w fun e w' => e = .returned (.tuple #[.agg #[.bool false, .slice none 0 0, .bool false, .slice none 0 0], .int .i64 14]) ∧ Gr w w' := by
 have hl : decide (most < ((X).length : Int)) = false := by simp; omega
 have hsA : (strip (A)).length ≤ (A).length := strip_len _
 go_enter Tryz.func92, Tryz.ntmps92
 have hB := Gr.refl w
 refine wp_seq_k (fun K1 k1 => ?_)
 refine rg [0, 1] ?_
 refine se ?_
 refine ea 31 #[(.bool false), (.slice none 0 0), (.bool false), (.slice none 0 0)] 4 hB fun b2 w2 g2 L2 o2 q2 hB => ?_
 simp only [p3, p4]
 refine sv 5 (.int .i64 0) ?_
 simp only [p3, p4]
 refine sq_nil ?_
 refine k1 _ _ ?_
 try clear k1 K1
 refine wp_seq_k (fun K3 k3 => ?_)
 refine rg [0, 1] ?_
 refine sv 13 (.string ⟨(X : List UInt8).toArray⟩) ?_
 simp only [p3, p4]
 refine sv 6 (.string ⟨(X : List UInt8).toArray⟩) ?_
 simp only [p3, p4]
 refine sq_nil ?_
 refine k3 _ _ ?_
 try clear k3 K3
 refine wp_seq_k (fun K4 k4 => ?_)
 refine rg [0, 1, 2, 3, 4, 5, 6, 7, 8] ?_
 refine sv 15 (.string ⟨(X : List UInt8).toArray⟩) ?_
 simp only [p3, p4]
 refine se ?_
 refine ec 16 (cut_yes (X) (A) (D) (by omega) hc (hm.gr hB)) ?_
 rintro e5 w5 ⟨rfl, g5⟩
 refine ⟨_, rfl, ?_⟩
 replace hB := hB.trans g5
 simp only [p3, p4]
 refine sv 14 (.tuple #[(.string ⟨(A : List UInt8).toArray⟩), (.string ⟨(D : List UInt8).toArray⟩), (.bool true)]) ?_
 simp only [p3, p4]
 refine sv 17 (.string ⟨(A : List UInt8).toArray⟩) ?_
 simp only [p3, p4]
 refine sv 18 (.string ⟨(D : List UInt8).toArray⟩) ?_
 simp only [p3, p4]
 refine sv 19 (.bool true) ?_
 simp only [p3, p4]
 refine sv 7 (.string ⟨(A : List UInt8).toArray⟩) ?_
 simp only [p3, p4]
 refine sv 8 (.string ⟨(D : List UInt8).toArray⟩) ?_
 simp only [p3, p4]
 refine sv 9 (.bool true) ?_
 simp only [p3, p4]
 refine sq_nil ?_
 refine k4 _ _ ?_
 try clear k4 K4
 refine wp_seq_k (fun K6 k6 => ?_)
 refine wp_block ?_
 refine wp_seq_k (fun K7 k7 => ?_)
 refine rg [0, 1, 2, 3, 4] ?_
 refine sv 21 (.string ⟨(X : List UInt8).toArray⟩) ?_
 simp only [p3, p4]
 refine sv 22 (.int .i64 (((X).length : Int))) ?_
 simp only [p3, p4]
 refine sv 23 (.int .i64 (most)) ?_
 simp only [p3, p4]
 refine sw 24 (.bool false) rfl (RunV.bool (x := decide (most < ((X).length : Int))) (rvk (by kernel_rfl)) hl) ?_
 simp only [p3, p4]
 refine sv 20 (.bool false) ?_
 simp only [p3, p4]
 refine sq_nil ?_
 refine k7 _ _ ?_
 try clear k7 K7
 refine wp_cond_false rfl ?_
 refine wp_seq_k (fun K8 k8 => ?_)
 refine rg [0, 1, 2, 3, 4, 5, 6, 7, 8, 9, 10, 11, 12] ?_
 refine sv 27 (.string ⟨(A : List UInt8).toArray⟩) ?_
 simp only [p3, p4]
 refine se ?_
 refine ec 28 (trimprefix_any (A) _) ?_
 rintro e9 w9 ⟨rfl, g9⟩
 refine ⟨_, rfl, ?_⟩
 replace hB := hB.trans g9
 simp only [p3, p4]
 refine se ?_
 refine ec 29 (rdigits_a (strip (A)) (by omega) _) ?_
 rintro e10 w10 ⟨rfl, g10⟩
 refine ⟨_, rfl, ?_⟩
 replace hB := hB.trans g10
 simp only [p3, p4]
 refine sw 30 (.bool false) rfl (RunV.bool (x := !(allD (strip (A)))) (rvk (by kernel_rfl)) (show (!(allD (strip (A)))) = false by rw [h1]; rfl)) ?_
 simp only [p3, p4]
 refine sv 31 (.bool false) ?_
 simp only [p3, p4]
 refine sv 32 (.bool true) ?_
 simp only [p3, p4]
 refine sv 33 (.bool true) ?_
 simp only [p3, p4]
 refine sv 34 (.string ⟨(D : List UInt8).toArray⟩) ?_
 simp only [p3, p4]
 refine se ?_
 refine ec 35 (rdigits_a (D) (by omega) _) ?_
 rintro e11 w11 ⟨rfl, g11⟩
 refine ⟨_, rfl, ?_⟩
 replace hB := hB.trans g11
 simp only [p3, p4]
 refine sw 36 (.bool true) rfl (RunV.bool (x := !(allD (D))) (rvk (by kernel_rfl)) (show (!(allD (D))) = true by rw [h2]; rfl)) ?_
 simp only [p3, p4]
 refine sv 37 (.bool true) ?_
 simp only [p3, p4]
 refine sv 38 (.bool true) ?_
 simp only [p3, p4]
 refine sv 26 (.bool true) ?_
 simp only [p3, p4]
 refine sq_nil ?_
 refine k8 _ _ ?_
 try clear k8 K8
 refine wp_cond_true rfl ?_
 refine wp_seq_k (fun K12 k12 => ?_)
 refine rg [0, 1, 2] ?_
 refine sv 39 (.agg #[(.bool false), (.slice none 0 0), (.bool false), (.slice none 0 0)]) ?_
 simp only [p3, p4]
 refine se ?_
 replace L2 := L2.gr (g5.trans (g9.trans (g10.trans g11)))
 refine es 31 0 (.agg #[(.bool false), (.slice none 0 0), (.bool false), (.slice none 0 0)]) [(.bool false), (.slice none 0 0), (.bool false), (.slice none 0 0)] #[(.bool false), (.slice none 0 0), (.bool false), (.slice none 0 0)] L2 hB q2 ⟨rfl, rfl, rfl, rfl, trivial⟩ fun w13 st13 kp13 L2 hB => ?_
 refine sv 5 (.int .i64 14) ?_
 simp only [p3, p4]
 refine sq_nil ?_
 refine k12 _ _ ?_
 try clear k12 K12
 refine wp_ret ?_
 simp only [Exit.then, Exit.inBlock]
 refine bodyPost_ret (v := (.tuple #[(.agg #[(.bool false), (.slice none 0 0), (.bool false), (.slice none 0 0)]), (.int .i64 14)])) (ret_cell_tmp' _ _ _ rfl rfl L2 (by kernel_rfl) rfl) rfl ⟨?_, hB⟩
 exact rfl

set_option maxRecDepth 100000 in
set_option maxHeartbeats 1000000 in
theorem read_fz (X A D : List UInt8) (most : Int) (_hx : X.length ≤ 14000) (_hlong : (X.length : Int) ≤ most) (hc : cutL X = (A, some D)) (_hA : (A).length ≤ X.length) (_hD : D.length ≤ X.length) (h1 : allD (strip A) = true) (h2 : allD D = true) (h3 : zerosL D = true) (w : World) (hm : Mx w) :
    Calls Tryz.prog 92 #[(.string ⟨(X : List UInt8).toArray⟩), (.int .i64 (most))] w fun e w' => e = .returned (.tuple #[.agg #[.bool false, .slice none 0 0, .bool false, .slice none 0 0], .int .i64 19]) ∧ Gr w w' := by
 have hl : decide (most < ((X).length : Int)) = false := by simp; omega
 have hsA : (strip (A)).length ≤ (A).length := strip_len _
 have h4 : ((Lib.trimS (D) [48]) == ([] : List UInt8)) = true := by rw [← zeros_trim]; exact h3
 go_enter Tryz.func92, Tryz.ntmps92
 have hB := Gr.refl w
 refine wp_seq_k (fun K1 k1 => ?_)
 refine rg [0, 1] ?_
 refine se ?_
 refine ea 31 #[(.bool false), (.slice none 0 0), (.bool false), (.slice none 0 0)] 4 hB fun b2 w2 g2 L2 o2 q2 hB => ?_
 simp only [p3, p4]
 refine sv 5 (.int .i64 0) ?_
 simp only [p3, p4]
 refine sq_nil ?_
 refine k1 _ _ ?_
 try clear k1 K1
 refine wp_seq_k (fun K3 k3 => ?_)
 refine rg [0, 1] ?_
 refine sv 13 (.string ⟨(X : List UInt8).toArray⟩) ?_
 simp only [p3, p4]
 refine sv 6 (.string ⟨(X : List UInt8).toArray⟩) ?_
 simp only [p3, p4]
 refine sq_nil ?_
 refine k3 _ _ ?_
 try clear k3 K3
 refine wp_seq_k (fun K4 k4 => ?_)
 refine rg [0, 1, 2, 3, 4, 5, 6, 7, 8] ?_
 refine sv 15 (.string ⟨(X : List UInt8).toArray⟩) ?_
 simp only [p3, p4]
 refine se ?_
 refine ec 16 (cut_yes (X) (A) (D) (by omega) hc (hm.gr hB)) ?_
 rintro e5 w5 ⟨rfl, g5⟩
 refine ⟨_, rfl, ?_⟩
 replace hB := hB.trans g5
 simp only [p3, p4]
 refine sv 14 (.tuple #[(.string ⟨(A : List UInt8).toArray⟩), (.string ⟨(D : List UInt8).toArray⟩), (.bool true)]) ?_
 simp only [p3, p4]
 refine sv 17 (.string ⟨(A : List UInt8).toArray⟩) ?_
 simp only [p3, p4]
 refine sv 18 (.string ⟨(D : List UInt8).toArray⟩) ?_
 simp only [p3, p4]
 refine sv 19 (.bool true) ?_
 simp only [p3, p4]
 refine sv 7 (.string ⟨(A : List UInt8).toArray⟩) ?_
 simp only [p3, p4]
 refine sv 8 (.string ⟨(D : List UInt8).toArray⟩) ?_
 simp only [p3, p4]
 refine sv 9 (.bool true) ?_
 simp only [p3, p4]
 refine sq_nil ?_
 refine k4 _ _ ?_
 try clear k4 K4
 refine wp_seq_k (fun K6 k6 => ?_)
 refine wp_block ?_
 refine wp_seq_k (fun K7 k7 => ?_)
 refine rg [0, 1, 2, 3, 4] ?_
 refine sv 21 (.string ⟨(X : List UInt8).toArray⟩) ?_
 simp only [p3, p4]
 refine sv 22 (.int .i64 (((X).length : Int))) ?_
 simp only [p3, p4]
 refine sv 23 (.int .i64 (most)) ?_
 simp only [p3, p4]
 refine sw 24 (.bool false) rfl (RunV.bool (x := decide (most < ((X).length : Int))) (rvk (by kernel_rfl)) hl) ?_
 simp only [p3, p4]
 refine sv 20 (.bool false) ?_
 simp only [p3, p4]
 refine sq_nil ?_
 refine k7 _ _ ?_
 try clear k7 K7
 refine wp_cond_false rfl ?_
 refine wp_seq_k (fun K8 k8 => ?_)
 refine rg [0, 1, 2, 3, 4, 5, 6, 7, 8, 9, 10, 11, 12] ?_
 refine sv 27 (.string ⟨(A : List UInt8).toArray⟩) ?_
 simp only [p3, p4]
 refine se ?_
 refine ec 28 (trimprefix_any (A) _) ?_
 rintro e9 w9 ⟨rfl, g9⟩
 refine ⟨_, rfl, ?_⟩
 replace hB := hB.trans g9
 simp only [p3, p4]
 refine se ?_
 refine ec 29 (rdigits_a (strip (A)) (by omega) _) ?_
 rintro e10 w10 ⟨rfl, g10⟩
 refine ⟨_, rfl, ?_⟩
 replace hB := hB.trans g10
 simp only [p3, p4]
 refine sw 30 (.bool false) rfl (RunV.bool (x := !(allD (strip (A)))) (rvk (by kernel_rfl)) (show (!(allD (strip (A)))) = false by rw [h1]; rfl)) ?_
 simp only [p3, p4]
 refine sv 31 (.bool false) ?_
 simp only [p3, p4]
 refine sv 32 (.bool true) ?_
 simp only [p3, p4]
 refine sv 33 (.bool true) ?_
 simp only [p3, p4]
 refine sv 34 (.string ⟨(D : List UInt8).toArray⟩) ?_
 simp only [p3, p4]
 refine se ?_
 refine ec 35 (rdigits_a (D) (by omega) _) ?_
 rintro e11 w11 ⟨rfl, g11⟩
 refine ⟨_, rfl, ?_⟩
 replace hB := hB.trans g11
 simp only [p3, p4]
 refine sw 36 (.bool false) rfl (RunV.bool (x := !(allD (D))) (rvk (by kernel_rfl)) (show (!(allD (D))) = false by rw [h2]; rfl)) ?_
 simp only [p3, p4]
 refine sv 37 (.bool false) ?_
 simp only [p3, p4]
 refine sv 38 (.bool false) ?_
 simp only [p3, p4]
 refine sv 26 (.bool false) ?_
 simp only [p3, p4]
 refine sq_nil ?_
 refine k8 _ _ ?_
 try clear k8 K8
 refine wp_cond_false rfl ?_
 refine wp_seq_k (fun K12 k12 => ?_)
 refine rg [0, 1, 2, 3, 4, 5, 6] ?_
 refine sv 41 (.bool true) ?_
 simp only [p3, p4]
 refine sv 42 (.bool true) ?_
 simp only [p3, p4]
 refine sv 43 (.string ⟨(D : List UInt8).toArray⟩) ?_
 simp only [p3, p4]
 refine se ?_
 refine ec 44 (trim_any0 (D) (by omega) _) ?_
 rintro e13 w13 ⟨rfl, g13⟩
 refine ⟨_, rfl, ?_⟩
 replace hB := hB.trans g13
 simp only [p3, p4]
 refine sw 45 (.bool true) rfl (RunV.bool (x := ((Lib.trimS (D) [48]) == ([] : List UInt8))) (rv_seq 9 9 _ _ (Lib.trimS (D) [48]) ([]) rfl rfl rfl) h4) ?_
 simp only [p3, p4]
 refine sv 46 (.bool true) ?_
 simp only [p3, p4]
 refine sv 40 (.bool true) ?_
 simp only [p3, p4]
 refine sq_nil ?_
 refine k12 _ _ ?_
 try clear k12 K12
 refine wp_cond_true rfl ?_
 refine wp_seq_k (fun K14 k14 => ?_)
 refine rg [0, 1, 2] ?_
 refine sv 47 (.agg #[(.bool false), (.slice none 0 0), (.bool false), (.slice none 0 0)]) ?_
 simp only [p3, p4]
 refine se ?_
 replace L2 := L2.gr (g5.trans (g9.trans (g10.trans (g11.trans g13))))
 refine es 31 0 (.agg #[(.bool false), (.slice none 0 0), (.bool false), (.slice none 0 0)]) [(.bool false), (.slice none 0 0), (.bool false), (.slice none 0 0)] #[(.bool false), (.slice none 0 0), (.bool false), (.slice none 0 0)] L2 hB q2 ⟨rfl, rfl, rfl, rfl, trivial⟩ fun w15 st15 kp15 L2 hB => ?_
 refine sv 5 (.int .i64 19) ?_
 simp only [p3, p4]
 refine sq_nil ?_
 refine k14 _ _ ?_
 try clear k14 K14
 refine wp_ret ?_
 simp only [Exit.then, Exit.inBlock]
 refine bodyPost_ret (v := (.tuple #[(.agg #[(.bool false), (.slice none 0 0), (.bool false), (.slice none 0 0)]), (.int .i64 19)])) (ret_cell_tmp' _ _ _ rfl rfl L2 (by kernel_rfl) rfl) rfl ⟨?_, hB⟩
 exact rfl

set_option maxRecDepth 100000 in
set_option maxHeartbeats 1000000 in
theorem read_fb1 (X A D : List UInt8) (most : Int) (_hx : X.length ≤ 14000) (_hlong : (X.length : Int) ≤ most) (hc : cutL X = (A, some D)) (_hA : (A).length ≤ X.length) (_hD : D.length ≤ X.length) (h1 : allD (strip A) = true) (h2 : allD D = true) (h3 : zerosL D = false) (h5 : badZ A = true) (w : World) (hm : Mx w) :
    Calls Tryz.prog 92 #[(.string ⟨(X : List UInt8).toArray⟩), (.int .i64 (most))] w fun e w' => e = .returned (.tuple #[.agg #[.bool false, .slice none 0 0, .bool false, .slice none 0 0], .int .i64 3]) ∧ Gr w w' := by
 have hl : decide (most < ((X).length : Int)) = false := by simp; omega
 have hsA : (strip (A)).length ≤ (A).length := strip_len _
 have h4 : ((Lib.trimS (D) [48]) == ([] : List UInt8)) = false := by rw [← zeros_trim]; exact h3
 go_enter Tryz.func92, Tryz.ntmps92
 have hB := Gr.refl w
 refine wp_seq_k (fun K1 k1 => ?_)
 refine rg [0, 1] ?_
 refine se ?_
 refine ea 31 #[(.bool false), (.slice none 0 0), (.bool false), (.slice none 0 0)] 4 hB fun b2 w2 g2 L2 o2 q2 hB => ?_
 simp only [p3, p4]
 refine sv 5 (.int .i64 0) ?_
 simp only [p3, p4]
 refine sq_nil ?_
 refine k1 _ _ ?_
 try clear k1 K1
 refine wp_seq_k (fun K3 k3 => ?_)
 refine rg [0, 1] ?_
 refine sv 13 (.string ⟨(X : List UInt8).toArray⟩) ?_
 simp only [p3, p4]
 refine sv 6 (.string ⟨(X : List UInt8).toArray⟩) ?_
 simp only [p3, p4]
 refine sq_nil ?_
 refine k3 _ _ ?_
 try clear k3 K3
 refine wp_seq_k (fun K4 k4 => ?_)
 refine rg [0, 1, 2, 3, 4, 5, 6, 7, 8] ?_
 refine sv 15 (.string ⟨(X : List UInt8).toArray⟩) ?_
 simp only [p3, p4]
 refine se ?_
 refine ec 16 (cut_yes (X) (A) (D) (by omega) hc (hm.gr hB)) ?_
 rintro e5 w5 ⟨rfl, g5⟩
 refine ⟨_, rfl, ?_⟩
 replace hB := hB.trans g5
 simp only [p3, p4]
 refine sv 14 (.tuple #[(.string ⟨(A : List UInt8).toArray⟩), (.string ⟨(D : List UInt8).toArray⟩), (.bool true)]) ?_
 simp only [p3, p4]
 refine sv 17 (.string ⟨(A : List UInt8).toArray⟩) ?_
 simp only [p3, p4]
 refine sv 18 (.string ⟨(D : List UInt8).toArray⟩) ?_
 simp only [p3, p4]
 refine sv 19 (.bool true) ?_
 simp only [p3, p4]
 refine sv 7 (.string ⟨(A : List UInt8).toArray⟩) ?_
 simp only [p3, p4]
 refine sv 8 (.string ⟨(D : List UInt8).toArray⟩) ?_
 simp only [p3, p4]
 refine sv 9 (.bool true) ?_
 simp only [p3, p4]
 refine sq_nil ?_
 refine k4 _ _ ?_
 try clear k4 K4
 refine wp_seq_k (fun K6 k6 => ?_)
 refine wp_block ?_
 refine wp_seq_k (fun K7 k7 => ?_)
 refine rg [0, 1, 2, 3, 4] ?_
 refine sv 21 (.string ⟨(X : List UInt8).toArray⟩) ?_
 simp only [p3, p4]
 refine sv 22 (.int .i64 (((X).length : Int))) ?_
 simp only [p3, p4]
 refine sv 23 (.int .i64 (most)) ?_
 simp only [p3, p4]
 refine sw 24 (.bool false) rfl (RunV.bool (x := decide (most < ((X).length : Int))) (rvk (by kernel_rfl)) hl) ?_
 simp only [p3, p4]
 refine sv 20 (.bool false) ?_
 simp only [p3, p4]
 refine sq_nil ?_
 refine k7 _ _ ?_
 try clear k7 K7
 refine wp_cond_false rfl ?_
 refine wp_seq_k (fun K8 k8 => ?_)
 refine rg [0, 1, 2, 3, 4, 5, 6, 7, 8, 9, 10, 11, 12] ?_
 refine sv 27 (.string ⟨(A : List UInt8).toArray⟩) ?_
 simp only [p3, p4]
 refine se ?_
 refine ec 28 (trimprefix_any (A) _) ?_
 rintro e9 w9 ⟨rfl, g9⟩
 refine ⟨_, rfl, ?_⟩
 replace hB := hB.trans g9
 simp only [p3, p4]
 refine se ?_
 refine ec 29 (rdigits_a (strip (A)) (by omega) _) ?_
 rintro e10 w10 ⟨rfl, g10⟩
 refine ⟨_, rfl, ?_⟩
 replace hB := hB.trans g10
 simp only [p3, p4]
 refine sw 30 (.bool false) rfl (RunV.bool (x := !(allD (strip (A)))) (rvk (by kernel_rfl)) (show (!(allD (strip (A)))) = false by rw [h1]; rfl)) ?_
 simp only [p3, p4]
 refine sv 31 (.bool false) ?_
 simp only [p3, p4]
 refine sv 32 (.bool true) ?_
 simp only [p3, p4]
 refine sv 33 (.bool true) ?_
 simp only [p3, p4]
 refine sv 34 (.string ⟨(D : List UInt8).toArray⟩) ?_
 simp only [p3, p4]
 refine se ?_
 refine ec 35 (rdigits_a (D) (by omega) _) ?_
 rintro e11 w11 ⟨rfl, g11⟩
 refine ⟨_, rfl, ?_⟩
 replace hB := hB.trans g11
 simp only [p3, p4]
 refine sw 36 (.bool false) rfl (RunV.bool (x := !(allD (D))) (rvk (by kernel_rfl)) (show (!(allD (D))) = false by rw [h2]; rfl)) ?_
 simp only [p3, p4]
 refine sv 37 (.bool false) ?_
 simp only [p3, p4]
 refine sv 38 (.bool false) ?_
 simp only [p3, p4]
 refine sv 26 (.bool false) ?_
 simp only [p3, p4]
 refine sq_nil ?_
 refine k8 _ _ ?_
 try clear k8 K8
 refine wp_cond_false rfl ?_
 refine wp_seq_k (fun K12 k12 => ?_)
 refine rg [0, 1, 2, 3, 4, 5, 6] ?_
 refine sv 41 (.bool true) ?_
 simp only [p3, p4]
 refine sv 42 (.bool true) ?_
 simp only [p3, p4]
 refine sv 43 (.string ⟨(D : List UInt8).toArray⟩) ?_
 simp only [p3, p4]
 refine se ?_
 refine ec 44 (trim_any0 (D) (by omega) _) ?_
 rintro e13 w13 ⟨rfl, g13⟩
 refine ⟨_, rfl, ?_⟩
 replace hB := hB.trans g13
 simp only [p3, p4]
 refine sw 45 (.bool false) rfl (RunV.bool (x := ((Lib.trimS (D) [48]) == ([] : List UInt8))) (rv_seq 9 9 _ _ (Lib.trimS (D) [48]) ([]) rfl rfl rfl) h4) ?_
 simp only [p3, p4]
 refine sv 46 (.bool false) ?_
 simp only [p3, p4]
 refine sv 40 (.bool false) ?_
 simp only [p3, p4]
 refine sq_nil ?_
 refine k12 _ _ ?_
 try clear k12 K12
 refine wp_cond_false rfl ?_
 refine wp_skip ?_
 refine k6 _ _ ?_
 try clear k6 K6
 refine wp_seq_k (fun K14 k14 => ?_)
 refine rg [0, 1, 2, 3, 4, 5, 6, 7] ?_
 refine sv 49 (.string ⟨(A : List UInt8).toArray⟩) ?_
 simp only [p3, p4]
 refine se ?_
 refine ec 50 (parse_bad (A) (by omega) h1 h5 _) ?_
 rintro e15 w15 ⟨rfl, g15⟩
 refine ⟨_, rfl, ?_⟩
 replace hB := hB.trans g15
 simp only [p3, p4]
 refine sv 48 (.tuple #[(.agg #[(.bool false), (.slice none 0 0)]), (.int .i64 3)]) ?_
 simp only [p3, p4]
 refine sv 51 (.agg #[(.bool false), (.slice none 0 0)]) ?_
 simp only [p3, p4]
 refine sv 52 (.int .i64 3) ?_
 simp only [p3, p4]
 refine se ?_
 refine ea 27 #[(.bool false), (.slice none 0 0)] 10 hB fun b16 w16 g16 L16 o16 q16 hB => ?_
 replace L2 := L2.gr (g5.trans (g9.trans (g10.trans (g11.trans (g13.trans g15)))))
 have ne2_16 := L2.ne o16
 simp only [p3, p4]
 refine se ?_
 refine es 27 0 (.agg #[(.bool false), (.slice none 0 0)]) [(.bool false), (.slice none 0 0)] #[(.bool false), (.slice none 0 0)] L16 hB q16 ⟨rfl, rfl, trivial⟩ fun w17 st17 kp17 L16 hB => ?_
 refine sv 11 (.int .i64 3) ?_
 simp only [p3, p4]
 refine sq_nil ?_
 refine k14 _ _ ?_
 try clear k14 K14
 refine wp_seq_k (fun K18 k18 => ?_)
 refine wp_seq_k (fun K19 k19 => ?_)
 refine rg [0, 1] ?_
 refine sv 53 (.int .i64 3) ?_
 simp only [p3, p4]
 refine sv 54 (.bool true) ?_
 simp only [p3, p4]
 refine sq_nil ?_
 refine k19 _ _ ?_
 try clear k19 K19
 refine wp_cond_true rfl ?_
 refine wp_seq_k (fun K20 k20 => ?_)
 refine rg [0, 1, 2] ?_
 refine sv 55 (.agg #[(.bool false), (.slice none 0 0), (.bool false), (.slice none 0 0)]) ?_
 simp only [p3, p4]
 refine se ?_
 replace L2 := st17.lc (L2.gr g16) ne2_16
 refine es 31 0 (.agg #[(.bool false), (.slice none 0 0), (.bool false), (.slice none 0 0)]) [(.bool false), (.slice none 0 0), (.bool false), (.slice none 0 0)] #[(.bool false), (.slice none 0 0), (.bool false), (.slice none 0 0)] L2 hB q2 ⟨rfl, rfl, rfl, rfl, trivial⟩ fun w21 st21 kp21 L2 hB => ?_
 refine sv 5 (.int .i64 3) ?_
 simp only [p3, p4]
 refine sq_nil ?_
 refine k20 _ _ ?_
 try clear k20 K20
 refine wp_ret ?_
 simp only [Exit.then]
 refine bodyPost_ret (v := (.tuple #[(.agg #[(.bool false), (.slice none 0 0), (.bool false), (.slice none 0 0)]), (.int .i64 3)])) (ret_cell_tmp' _ _ _ rfl rfl L2 (by kernel_rfl) rfl) rfl ⟨?_, hB⟩
 exact rfl

set_option maxRecDepth 100000 in
set_option maxHeartbeats 1000000 in
theorem read_fb2 (X D : List UInt8) (z : Int) (most : Int) (_hx : X.length ≤ 14000) (_hlong : (X.length : Int) ≤ most) (hc : cutL X = (Lib.itoa (z), some D)) (_hA : (Lib.itoa (z)).length ≤ X.length) (_hD : D.length ≤ X.length) (h2 : allD D = true) (h2b : allD (strip D) = true) (h3 : zerosL D = false) (h5 : badZ D = true) (w : World) (hm : Mx w) :
    Calls Tryz.prog 92 #[(.string ⟨(X : List UInt8).toArray⟩), (.int .i64 (most))] w fun e w' => e = .returned (.tuple #[.agg #[.bool false, .slice none 0 0, .bool false, .slice none 0 0], .int .i64 3]) ∧ Gr w w' := by
 have hl : decide (most < ((X).length : Int)) = false := by simp; omega
 have hsA : (strip (Lib.itoa (z))).length ≤ (Lib.itoa (z)).length := strip_len _
 have h1 : allD (strip (Lib.itoa (z))) = true := by rw [strip_itoa]; exact allD_dec _
 have h4 : ((Lib.trimS (D) [48]) == ([] : List UInt8)) = false := by rw [← zeros_trim]; exact h3
 go_enter Tryz.func92, Tryz.ntmps92
 have hB := Gr.refl w
 refine wp_seq_k (fun K1 k1 => ?_)
 refine rg [0, 1] ?_
 refine se ?_
 refine ea 31 #[(.bool false), (.slice none 0 0), (.bool false), (.slice none 0 0)] 4 hB fun b2 w2 g2 L2 o2 q2 hB => ?_
 simp only [p3, p4]
 refine sv 5 (.int .i64 0) ?_
 simp only [p3, p4]
 refine sq_nil ?_
 refine k1 _ _ ?_
 try clear k1 K1
 refine wp_seq_k (fun K3 k3 => ?_)
 refine rg [0, 1] ?_
 refine sv 13 (.string ⟨(X : List UInt8).toArray⟩) ?_
 simp only [p3, p4]
 refine sv 6 (.string ⟨(X : List UInt8).toArray⟩) ?_
 simp only [p3, p4]
 refine sq_nil ?_
 refine k3 _ _ ?_
 try clear k3 K3
 refine wp_seq_k (fun K4 k4 => ?_)
 refine rg [0, 1, 2, 3, 4, 5, 6, 7, 8] ?_
 refine sv 15 (.string ⟨(X : List UInt8).toArray⟩) ?_
 simp only [p3, p4]
 refine se ?_
 refine ec 16 (cut_yes (X) (Lib.itoa (z)) (D) (by omega) hc (hm.gr hB)) ?_
 rintro e5 w5 ⟨rfl, g5⟩
 refine ⟨_, rfl, ?_⟩
 replace hB := hB.trans g5
 simp only [p3, p4]
 refine sv 14 (.tuple #[(.string ⟨(Lib.itoa (z) : List UInt8).toArray⟩), (.string ⟨(D : List UInt8).toArray⟩), (.bool true)]) ?_
 simp only [p3, p4]
 refine sv 17 (.string ⟨(Lib.itoa (z) : List UInt8).toArray⟩) ?_
 simp only [p3, p4]
 refine sv 18 (.string ⟨(D : List UInt8).toArray⟩) ?_
 simp only [p3, p4]
 refine sv 19 (.bool true) ?_
 simp only [p3, p4]
 refine sv 7 (.string ⟨(Lib.itoa (z) : List UInt8).toArray⟩) ?_
 simp only [p3, p4]
 refine sv 8 (.string ⟨(D : List UInt8).toArray⟩) ?_
 simp only [p3, p4]
 refine sv 9 (.bool true) ?_
 simp only [p3, p4]
 refine sq_nil ?_
 refine k4 _ _ ?_
 try clear k4 K4
 refine wp_seq_k (fun K6 k6 => ?_)
 refine wp_block ?_
 refine wp_seq_k (fun K7 k7 => ?_)
 refine rg [0, 1, 2, 3, 4] ?_
 refine sv 21 (.string ⟨(X : List UInt8).toArray⟩) ?_
 simp only [p3, p4]
 refine sv 22 (.int .i64 (((X).length : Int))) ?_
 simp only [p3, p4]
 refine sv 23 (.int .i64 (most)) ?_
 simp only [p3, p4]
 refine sw 24 (.bool false) rfl (RunV.bool (x := decide (most < ((X).length : Int))) (rvk (by kernel_rfl)) hl) ?_
 simp only [p3, p4]
 refine sv 20 (.bool false) ?_
 simp only [p3, p4]
 refine sq_nil ?_
 refine k7 _ _ ?_
 try clear k7 K7
 refine wp_cond_false rfl ?_
 refine wp_seq_k (fun K8 k8 => ?_)
 refine rg [0, 1, 2, 3, 4, 5, 6, 7, 8, 9, 10, 11, 12] ?_
 refine sv 27 (.string ⟨(Lib.itoa (z) : List UInt8).toArray⟩) ?_
 simp only [p3, p4]
 refine se ?_
 refine ec 28 (trimprefix_any (Lib.itoa (z)) _) ?_
 rintro e9 w9 ⟨rfl, g9⟩
 refine ⟨_, rfl, ?_⟩
 replace hB := hB.trans g9
 simp only [p3, p4]
 refine se ?_
 refine ec 29 (rdigits_a (strip (Lib.itoa (z))) (by omega) _) ?_
 rintro e10 w10 ⟨rfl, g10⟩
 refine ⟨_, rfl, ?_⟩
 replace hB := hB.trans g10
 simp only [p3, p4]
 refine sw 30 (.bool false) rfl (RunV.bool (x := !(allD (strip (Lib.itoa (z))))) (rvk (by kernel_rfl)) (show (!(allD (strip (Lib.itoa (z))))) = false by rw [h1]; rfl)) ?_
 simp only [p3, p4]
 refine sv 31 (.bool false) ?_
 simp only [p3, p4]
 refine sv 32 (.bool true) ?_
 simp only [p3, p4]
 refine sv 33 (.bool true) ?_
 simp only [p3, p4]
 refine sv 34 (.string ⟨(D : List UInt8).toArray⟩) ?_
 simp only [p3, p4]
 refine se ?_
 refine ec 35 (rdigits_a (D) (by omega) _) ?_
 rintro e11 w11 ⟨rfl, g11⟩
 refine ⟨_, rfl, ?_⟩
 replace hB := hB.trans g11
 simp only [p3, p4]
 refine sw 36 (.bool false) rfl (RunV.bool (x := !(allD (D))) (rvk (by kernel_rfl)) (show (!(allD (D))) = false by rw [h2]; rfl)) ?_
 simp only [p3, p4]
 refine sv 37 (.bool false) ?_
 simp only [p3, p4]
 refine sv 38 (.bool false) ?_
 simp only [p3, p4]
 refine sv 26 (.bool false) ?_
 simp only [p3, p4]
 refine sq_nil ?_
 refine k8 _ _ ?_
 try clear k8 K8
 refine wp_cond_false rfl ?_
 refine wp_seq_k (fun K12 k12 => ?_)
 refine rg [0, 1, 2, 3, 4, 5, 6] ?_
 refine sv 41 (.bool true) ?_
 simp only [p3, p4]
 refine sv 42 (.bool true) ?_
 simp only [p3, p4]
 refine sv 43 (.string ⟨(D : List UInt8).toArray⟩) ?_
 simp only [p3, p4]
 refine se ?_
 refine ec 44 (trim_any0 (D) (by omega) _) ?_
 rintro e13 w13 ⟨rfl, g13⟩
 refine ⟨_, rfl, ?_⟩
 replace hB := hB.trans g13
 simp only [p3, p4]
 refine sw 45 (.bool false) rfl (RunV.bool (x := ((Lib.trimS (D) [48]) == ([] : List UInt8))) (rv_seq 9 9 _ _ (Lib.trimS (D) [48]) ([]) rfl rfl rfl) h4) ?_
 simp only [p3, p4]
 refine sv 46 (.bool false) ?_
 simp only [p3, p4]
 refine sv 40 (.bool false) ?_
 simp only [p3, p4]
 refine sq_nil ?_
 refine k12 _ _ ?_
 try clear k12 K12
 refine wp_cond_false rfl ?_
 refine wp_skip ?_
 refine k6 _ _ ?_
 try clear k6 K6
 refine wp_seq_k (fun K14 k14 => ?_)
 refine rg [0, 1, 2, 3, 4, 5, 6, 7] ?_
 refine sv 49 (.string ⟨(Lib.itoa (z) : List UInt8).toArray⟩) ?_
 simp only [p3, p4]
 refine se ?_
 refine ec 50 (parse_i (z) (itoa_sz (z) (m := 14000) (by omega)) (by omega) _) ?_
 rintro e15 w15 ⟨⟨x15, y15, rfl, h15⟩, g15⟩
 refine ⟨_, rfl, ?_⟩
 replace hB := hB.trans g15
 simp only [p3, p4]
 refine sv 48 (.tuple #[(.agg #[x15, y15]), (.int .i64 0)]) ?_
 simp only [p3, p4]
 refine sv 51 (.agg #[x15, y15]) ?_
 simp only [p3, p4]
 refine sv 52 (.int .i64 0) ?_
 simp only [p3, p4]
 refine se ?_
 refine ea 27 #[(.bool false), (.slice none 0 0)] 10 hB fun b16 w16 g16 L16 o16 q16 hB => ?_
 replace L2 := L2.gr (g5.trans (g9.trans (g10.trans (g11.trans (g13.trans g15)))))
 have ne2_16 := L2.ne o16
 simp only [p3, p4]
 refine se ?_
 refine es 27 0 (.agg #[x15, y15]) [x15, y15] #[x15, y15] L16 hB q16 ⟨h15.one0, h15.one1, trivial⟩ fun w17 st17 kp17 L16 hB => ?_
 refine sv 11 (.int .i64 0) ?_
 simp only [p3, p4]
 refine sq_nil ?_
 refine k14 _ _ ?_
 try clear k14 K14
 refine wp_seq_k (fun K18 k18 => ?_)
 refine wp_seq_k (fun K19 k19 => ?_)
 refine rg [0, 1] ?_
 refine sv 53 (.int .i64 0) ?_
 simp only [p3, p4]
 refine sv 54 (.bool false) ?_
 simp only [p3, p4]
 refine sq_nil ?_
 refine k19 _ _ ?_
 try clear k19 K19
 refine wp_cond_false rfl ?_
 refine wp_skip ?_
 refine k18 _ _ ?_
 try clear k18 K18
 refine wp_seq_k (fun K20 k20 => ?_)
 refine wp_seq_k (fun K21 k21 => ?_)
 refine rg [0, 1] ?_
 refine sv 56 (.bool true) ?_
 simp only [p3, p4]
 refine sv 57 (.bool false) ?_
 simp only [p3, p4]
 refine sq_nil ?_
 refine k21 _ _ ?_
 try clear k21 K21
 refine wp_cond_false rfl ?_
 refine wp_skip ?_
 refine k20 _ _ ?_
 try clear k20 K20
 refine wp_seq_k (fun K22 k22 => ?_)
 refine rg [0, 1, 2, 3, 4, 5, 6, 7] ?_
 refine sv 61 (.string ⟨(D : List UInt8).toArray⟩) ?_
 simp only [p3, p4]
 refine se ?_
 refine ec 62 (parse_bad (D) (by omega) h2b h5 _) ?_
 rintro e23 w23 ⟨rfl, g23⟩
 refine ⟨_, rfl, ?_⟩
 replace hB := hB.trans g23
 simp only [p3, p4]
 refine sv 60 (.tuple #[(.agg #[(.bool false), (.slice none 0 0)]), (.int .i64 3)]) ?_
 simp only [p3, p4]
 refine sv 63 (.agg #[(.bool false), (.slice none 0 0)]) ?_
 simp only [p3, p4]
 refine sv 64 (.int .i64 3) ?_
 simp only [p3, p4]
 refine se ?_
 refine ea 27 #[(.bool false), (.slice none 0 0)] 12 hB fun b24 w24 g24 L24 o24 q24 hB => ?_
 replace L2 := (st17.lc (L2.gr g16) ne2_16).gr g23
 have ne2_24 := L2.ne o24
 replace L16 := L16.gr g23
 have ne16_24 := L16.ne o24
 simp only [p3, p4]
 refine se ?_
 refine es 27 0 (.agg #[(.bool false), (.slice none 0 0)]) [(.bool false), (.slice none 0 0)] #[(.bool false), (.slice none 0 0)] L24 hB q24 ⟨rfl, rfl, trivial⟩ fun w25 st25 kp25 L24 hB => ?_
 refine sv 11 (.int .i64 3) ?_
 simp only [p3, p4]
 refine sq_nil ?_
 refine k22 _ _ ?_
 try clear k22 K22
 refine wp_seq_k (fun K26 k26 => ?_)
 refine wp_seq_k (fun K27 k27 => ?_)
 have gd29 := Gr.drew w25
 replace hB := hB.trans gd29
 replace L16 := (st25.lc (L16.gr g24) ne16_24).gr gd29
 replace L24 := L24.gr gd29
 refine wp_region_ord (fun w' => Lc w' b16 #[x15, y15] 27 ∧ Lc w' b24 #[(.bool false), (.slice none 0 0)] 27) [(true, 0), (true, 1), (true, 2), (true, 3), (false, 4), (false, 5), (true, 6), (true, 7), (true, 8), (true, 9), (true, 10), (false, 11), (false, 12), (false, 13), (true, 14), (true, 15)] (by kernel_rfl) (by kernel_rfl) (by kernel_rfl) (by decide) (fun _ _ _ _ _ h => h) ⟨L16, L24⟩ ?_
 refine ov 65 (.int .i64 3) ?_
 simp only [p3, p4]
 refine ov 66 (.bool true) ?_
 simp only [p3, p4]
 refine ov 67 (.bool true) ?_
 simp only [p3, p4]
 refine os 68 ?_
 simp only [p3, p4]
 refine oz 69 ⟨L16, L24⟩ ?_
 simp only [p3, p4]
 refine oz 70 ⟨L16, L24⟩ ?_
 simp only [p3, p4]
 refine os 71 ?_
 simp only [p3, p4]
 refine ov 72 (.bool true) ?_
 simp only [p3, p4]
 refine ov 73 (.bool true) ?_
 simp only [p3, p4]
 refine os 74 ?_
 simp only [p3, p4]
 refine os 75 ?_
 simp only [p3, p4]
 refine oz 76 ⟨L16, L24⟩ ?_
 simp only [p3, p4]
 refine oz 77 ⟨L16, L24⟩ ?_
 simp only [p3, p4]
 refine oz 78 ⟨L16, L24⟩ ?_
 simp only [p3, p4]
 refine os 79 ?_
 simp only [p3, p4]
 refine ov 80 (.bool true) ?_
 simp only [p3, p4]
 refine ord_nil ?_
 refine k27 _ _ ?_
 try clear k27 K27
 refine wp_cond_true rfl ?_
 refine wp_seq_k (fun K30 k30 => ?_)
 refine rg [0, 1, 2] ?_
 refine sv 81 (.agg #[(.bool false), (.slice none 0 0), (.bool false), (.slice none 0 0)]) ?_
 simp only [p3, p4]
 refine se ?_
 replace L2 := (st25.lc (L2.gr g24) ne2_24).gr gd29
 refine es 31 0 (.agg #[(.bool false), (.slice none 0 0), (.bool false), (.slice none 0 0)]) [(.bool false), (.slice none 0 0), (.bool false), (.slice none 0 0)] #[(.bool false), (.slice none 0 0), (.bool false), (.slice none 0 0)] L2 hB q2 ⟨rfl, rfl, rfl, rfl, trivial⟩ fun w31 st31 kp31 L2 hB => ?_
 refine sv 5 (.int .i64 3) ?_
 simp only [p3, p4]
 refine sq_nil ?_
 refine k30 _ _ ?_
 try clear k30 K30
 refine wp_ret ?_
 simp only [Exit.then]
 refine bodyPost_ret (v := (.tuple #[(.agg #[(.bool false), (.slice none 0 0), (.bool false), (.slice none 0 0)]), (.int .i64 3)])) (ret_cell_tmp' _ _ _ rfl rfl L2 (by kernel_rfl) rfl) rfl ⟨?_, hB⟩
 exact rfl

set_option maxRecDepth 100000 in
set_option maxHeartbeats 1000000 in
theorem read_g1 (X : List UInt8) (z d : Int) (most : Int) (_hx : X.length ≤ 14000) (_hlong : (X.length : Int) ≤ most) (hc : cutL X = (Lib.itoa (z), some (Lib.itoa (d)))) (_hA : (Lib.itoa (z)).length ≤ X.length) (_hD : (Lib.itoa (d)).length ≤ X.length) (h2 : allD (Lib.itoa d) = true) (h3 : zerosL (Lib.itoa d) = false) (h5 : d = 1) (w : World) (hm : Mx w) :
    Calls Tryz.prog 92 #[(.string ⟨(X : List UInt8).toArray⟩), (.int .i64 (most))] w fun e w' => e = .returned (.tuple #[.agg #[.bool false, .slice none 0 0, .bool false, .slice none 0 0], .int .i64 3]) ∧ Gr w w' := by
 have hl : decide (most < ((X).length : Int)) = false := by simp; omega
 have hsA : (strip (Lib.itoa (z))).length ≤ (Lib.itoa (z)).length := strip_len _
 have h1 : allD (strip (Lib.itoa (z))) = true := by rw [strip_itoa]; exact allD_dec _
 have h4 : ((Lib.trimS (Lib.itoa (d)) [48]) == ([] : List UInt8)) = false := by rw [← zeros_trim]; exact h3
 have h6 : (sgn (d - 1) == (0 : Int)) = true := by rw [h5]; rfl
 go_enter Tryz.func92, Tryz.ntmps92
 have hB := Gr.refl w
 refine wp_seq_k (fun K1 k1 => ?_)
 refine rg [0, 1] ?_
 refine se ?_
 refine ea 31 #[(.bool false), (.slice none 0 0), (.bool false), (.slice none 0 0)] 4 hB fun b2 w2 g2 L2 o2 q2 hB => ?_
 simp only [p3, p4]
 refine sv 5 (.int .i64 0) ?_
 simp only [p3, p4]
 refine sq_nil ?_
 refine k1 _ _ ?_
 try clear k1 K1
 refine wp_seq_k (fun K3 k3 => ?_)
 refine rg [0, 1] ?_
 refine sv 13 (.string ⟨(X : List UInt8).toArray⟩) ?_
 simp only [p3, p4]
 refine sv 6 (.string ⟨(X : List UInt8).toArray⟩) ?_
 simp only [p3, p4]
 refine sq_nil ?_
 refine k3 _ _ ?_
 try clear k3 K3
 refine wp_seq_k (fun K4 k4 => ?_)
 refine rg [0, 1, 2, 3, 4, 5, 6, 7, 8] ?_
 refine sv 15 (.string ⟨(X : List UInt8).toArray⟩) ?_
 simp only [p3, p4]
 refine se ?_
 refine ec 16 (cut_yes (X) (Lib.itoa (z)) (Lib.itoa (d)) (by omega) hc (hm.gr hB)) ?_
 rintro e5 w5 ⟨rfl, g5⟩
 refine ⟨_, rfl, ?_⟩
 replace hB := hB.trans g5
 simp only [p3, p4]
 refine sv 14 (.tuple #[(.string ⟨(Lib.itoa (z) : List UInt8).toArray⟩), (.string ⟨(Lib.itoa (d) : List UInt8).toArray⟩), (.bool true)]) ?_
 simp only [p3, p4]
 refine sv 17 (.string ⟨(Lib.itoa (z) : List UInt8).toArray⟩) ?_
 simp only [p3, p4]
 refine sv 18 (.string ⟨(Lib.itoa (d) : List UInt8).toArray⟩) ?_
 simp only [p3, p4]
 refine sv 19 (.bool true) ?_
 simp only [p3, p4]
 refine sv 7 (.string ⟨(Lib.itoa (z) : List UInt8).toArray⟩) ?_
 simp only [p3, p4]
 refine sv 8 (.string ⟨(Lib.itoa (d) : List UInt8).toArray⟩) ?_
 simp only [p3, p4]
 refine sv 9 (.bool true) ?_
 simp only [p3, p4]
 refine sq_nil ?_
 refine k4 _ _ ?_
 try clear k4 K4
 refine wp_seq_k (fun K6 k6 => ?_)
 refine wp_block ?_
 refine wp_seq_k (fun K7 k7 => ?_)
 refine rg [0, 1, 2, 3, 4] ?_
 refine sv 21 (.string ⟨(X : List UInt8).toArray⟩) ?_
 simp only [p3, p4]
 refine sv 22 (.int .i64 (((X).length : Int))) ?_
 simp only [p3, p4]
 refine sv 23 (.int .i64 (most)) ?_
 simp only [p3, p4]
 refine sw 24 (.bool false) rfl (RunV.bool (x := decide (most < ((X).length : Int))) (rvk (by kernel_rfl)) hl) ?_
 simp only [p3, p4]
 refine sv 20 (.bool false) ?_
 simp only [p3, p4]
 refine sq_nil ?_
 refine k7 _ _ ?_
 try clear k7 K7
 refine wp_cond_false rfl ?_
 refine wp_seq_k (fun K8 k8 => ?_)
 refine rg [0, 1, 2, 3, 4, 5, 6, 7, 8, 9, 10, 11, 12] ?_
 refine sv 27 (.string ⟨(Lib.itoa (z) : List UInt8).toArray⟩) ?_
 simp only [p3, p4]
 refine se ?_
 refine ec 28 (trimprefix_any (Lib.itoa (z)) _) ?_
 rintro e9 w9 ⟨rfl, g9⟩
 refine ⟨_, rfl, ?_⟩
 replace hB := hB.trans g9
 simp only [p3, p4]
 refine se ?_
 refine ec 29 (rdigits_a (strip (Lib.itoa (z))) (by omega) _) ?_
 rintro e10 w10 ⟨rfl, g10⟩
 refine ⟨_, rfl, ?_⟩
 replace hB := hB.trans g10
 simp only [p3, p4]
 refine sw 30 (.bool false) rfl (RunV.bool (x := !(allD (strip (Lib.itoa (z))))) (rvk (by kernel_rfl)) (show (!(allD (strip (Lib.itoa (z))))) = false by rw [h1]; rfl)) ?_
 simp only [p3, p4]
 refine sv 31 (.bool false) ?_
 simp only [p3, p4]
 refine sv 32 (.bool true) ?_
 simp only [p3, p4]
 refine sv 33 (.bool true) ?_
 simp only [p3, p4]
 refine sv 34 (.string ⟨(Lib.itoa (d) : List UInt8).toArray⟩) ?_
 simp only [p3, p4]
 refine se ?_
 refine ec 35 (rdigits_a (Lib.itoa (d)) (by omega) _) ?_
 rintro e11 w11 ⟨rfl, g11⟩
 refine ⟨_, rfl, ?_⟩
 replace hB := hB.trans g11
 simp only [p3, p4]
 refine sw 36 (.bool false) rfl (RunV.bool (x := !(allD (Lib.itoa (d)))) (rvk (by kernel_rfl)) (show (!(allD (Lib.itoa (d)))) = false by rw [h2]; rfl)) ?_
 simp only [p3, p4]
 refine sv 37 (.bool false) ?_
 simp only [p3, p4]
 refine sv 38 (.bool false) ?_
 simp only [p3, p4]
 refine sv 26 (.bool false) ?_
 simp only [p3, p4]
 refine sq_nil ?_
 refine k8 _ _ ?_
 try clear k8 K8
 refine wp_cond_false rfl ?_
 refine wp_seq_k (fun K12 k12 => ?_)
 refine rg [0, 1, 2, 3, 4, 5, 6] ?_
 refine sv 41 (.bool true) ?_
 simp only [p3, p4]
 refine sv 42 (.bool true) ?_
 simp only [p3, p4]
 refine sv 43 (.string ⟨(Lib.itoa (d) : List UInt8).toArray⟩) ?_
 simp only [p3, p4]
 refine se ?_
 refine ec 44 (trim_any0 (Lib.itoa (d)) (by omega) _) ?_
 rintro e13 w13 ⟨rfl, g13⟩
 refine ⟨_, rfl, ?_⟩
 replace hB := hB.trans g13
 simp only [p3, p4]
 refine sw 45 (.bool false) rfl (RunV.bool (x := ((Lib.trimS (Lib.itoa (d)) [48]) == ([] : List UInt8))) (rv_seq 9 9 _ _ (Lib.trimS (Lib.itoa (d)) [48]) ([]) rfl rfl rfl) h4) ?_
 simp only [p3, p4]
 refine sv 46 (.bool false) ?_
 simp only [p3, p4]
 refine sv 40 (.bool false) ?_
 simp only [p3, p4]
 refine sq_nil ?_
 refine k12 _ _ ?_
 try clear k12 K12
 refine wp_cond_false rfl ?_
 refine wp_skip ?_
 refine k6 _ _ ?_
 try clear k6 K6
 refine wp_seq_k (fun K14 k14 => ?_)
 refine rg [0, 1, 2, 3, 4, 5, 6, 7] ?_
 refine sv 49 (.string ⟨(Lib.itoa (z) : List UInt8).toArray⟩) ?_
 simp only [p3, p4]
 refine se ?_
 refine ec 50 (parse_i (z) (itoa_sz (z) (m := 14000) (by omega)) (by omega) _) ?_
 rintro e15 w15 ⟨⟨x15, y15, rfl, h15⟩, g15⟩
 refine ⟨_, rfl, ?_⟩
 replace hB := hB.trans g15
 simp only [p3, p4]
 refine sv 48 (.tuple #[(.agg #[x15, y15]), (.int .i64 0)]) ?_
 simp only [p3, p4]
 refine sv 51 (.agg #[x15, y15]) ?_
 simp only [p3, p4]
 refine sv 52 (.int .i64 0) ?_
 simp only [p3, p4]
 refine se ?_
 refine ea 27 #[(.bool false), (.slice none 0 0)] 10 hB fun b16 w16 g16 L16 o16 q16 hB => ?_
 replace L2 := L2.gr (g5.trans (g9.trans (g10.trans (g11.trans (g13.trans g15)))))
 have ne2_16 := L2.ne o16
 simp only [p3, p4]
 refine se ?_
 refine es 27 0 (.agg #[x15, y15]) [x15, y15] #[x15, y15] L16 hB q16 ⟨h15.one0, h15.one1, trivial⟩ fun w17 st17 kp17 L16 hB => ?_
 refine sv 11 (.int .i64 0) ?_
 simp only [p3, p4]
 refine sq_nil ?_
 refine k14 _ _ ?_
 try clear k14 K14
 refine wp_seq_k (fun K18 k18 => ?_)
 refine wp_seq_k (fun K19 k19 => ?_)
 refine rg [0, 1] ?_
 refine sv 53 (.int .i64 0) ?_
 simp only [p3, p4]
 refine sv 54 (.bool false) ?_
 simp only [p3, p4]
 refine sq_nil ?_
 refine k19 _ _ ?_
 try clear k19 K19
 refine wp_cond_false rfl ?_
 refine wp_skip ?_
 refine k18 _ _ ?_
 try clear k18 K18
 refine wp_seq_k (fun K20 k20 => ?_)
 refine wp_seq_k (fun K21 k21 => ?_)
 refine rg [0, 1] ?_
 refine sv 56 (.bool true) ?_
 simp only [p3, p4]
 refine sv 57 (.bool false) ?_
 simp only [p3, p4]
 refine sq_nil ?_
 refine k21 _ _ ?_
 try clear k21 K21
 refine wp_cond_false rfl ?_
 refine wp_skip ?_
 refine k20 _ _ ?_
 try clear k20 K20
 refine wp_seq_k (fun K22 k22 => ?_)
 refine rg [0, 1, 2, 3, 4, 5, 6, 7] ?_
 refine sv 61 (.string ⟨(Lib.itoa (d) : List UInt8).toArray⟩) ?_
 simp only [p3, p4]
 refine se ?_
 refine ec 62 (parse_i (d) (itoa_sz (d) (m := 14000) (by omega)) (by omega) _) ?_
 rintro e23 w23 ⟨⟨x23, y23, rfl, h23⟩, g23⟩
 refine ⟨_, rfl, ?_⟩
 replace hB := hB.trans g23
 simp only [p3, p4]
 refine sv 60 (.tuple #[(.agg #[x23, y23]), (.int .i64 0)]) ?_
 simp only [p3, p4]
 refine sv 63 (.agg #[x23, y23]) ?_
 simp only [p3, p4]
 refine sv 64 (.int .i64 0) ?_
 simp only [p3, p4]
 refine se ?_
 refine ea 27 #[(.bool false), (.slice none 0 0)] 12 hB fun b24 w24 g24 L24 o24 q24 hB => ?_
 replace L2 := (st17.lc (L2.gr g16) ne2_16).gr g23
 have ne2_24 := L2.ne o24
 replace L16 := L16.gr g23
 have ne16_24 := L16.ne o24
 simp only [p3, p4]
 refine se ?_
 refine es 27 0 (.agg #[x23, y23]) [x23, y23] #[x23, y23] L24 hB q24 ⟨h23.one0, h23.one1, trivial⟩ fun w25 st25 kp25 L24 hB => ?_
 refine sv 11 (.int .i64 0) ?_
 simp only [p3, p4]
 refine sq_nil ?_
 refine k22 _ _ ?_
 try clear k22 K22
 refine wp_seq_k (fun K26 k26 => ?_)
 refine wp_seq_k (fun K27 k27 => ?_)
 have gd34 := Gr.drew w25
 replace hB := hB.trans gd34
 replace L16 := (st25.lc (L16.gr g24) ne16_24).gr gd34
 replace L24 := L24.gr gd34
 refine wp_region_ord (fun w' => Lc w' b16 #[x15, y15] 27 ∧ Lc w' b24 #[x23, y23] 27) [(true, 0), (true, 1), (true, 2), (true, 3), (false, 4), (false, 5), (true, 6), (true, 7), (true, 8), (true, 9), (true, 10), (false, 11), (false, 12), (false, 13), (true, 14), (true, 15)] (by kernel_rfl) (by kernel_rfl) (by kernel_rfl) (by decide) (fun _ _ _ _ _ h => h) ⟨L16, L24⟩ ?_
 refine ov 65 (.int .i64 0) ?_
 simp only [p3, p4]
 refine ov 66 (.bool false) ?_
 simp only [p3, p4]
 refine ov 67 (.bool false) ?_
 simp only [p3, p4]
 refine ow 68 (.agg #[x23, y23]) rfl (fun w' hS => (rl 27 0 [x23, y23] hS.2)) ?_
 simp only [p3, p4]
 refine oe ?_
 refine ec 69 (one_i _) ?_
 rintro e36 w36 ⟨⟨x36, y36, rfl, h36⟩, g36⟩
 refine ⟨_, rfl, ?_⟩
 replace hB := hB.trans g36
 replace L16 := L16.gr g36
 replace L24 := L24.gr g36
 refine ⟨⟨L16, L24⟩, ?_⟩
 simp only [p3, p4]
 refine oe ?_
 have kq39 := g24.kp.trans (kp25.trans (gd34.kp.trans g36.kp))
 replace h23 := h23.kp kq39
 refine ec 70 (compare_i h23 h36 (by omega) (by omega)) ?_
 rintro e38 w38 ⟨rfl, g38⟩
 refine ⟨_, rfl, ?_⟩
 replace hB := hB.trans g38
 replace L16 := L16.gr g38
 replace L24 := L24.gr g38
 refine ⟨⟨L16, L24⟩, ?_⟩
 simp only [p3, p4]
 refine ow 71 (.bool true) rfl (fun w' hS => (RunV.bool (x := (sgn (d - 1) == (0 : Int))) (rvk (by kernel_rfl)) h6)) ?_
 simp only [p3, p4]
 refine ov 72 (.bool true) ?_
 simp only [p3, p4]
 refine ov 73 (.bool true) ?_
 simp only [p3, p4]
 refine os 74 ?_
 simp only [p3, p4]
 refine os 75 ?_
 simp only [p3, p4]
 refine oz 76 ⟨L16, L24⟩ ?_
 simp only [p3, p4]
 refine oz 77 ⟨L16, L24⟩ ?_
 simp only [p3, p4]
 refine oz 78 ⟨L16, L24⟩ ?_
 simp only [p3, p4]
 refine os 79 ?_
 simp only [p3, p4]
 refine ov 80 (.bool true) ?_
 simp only [p3, p4]
 refine ord_nil ?_
 refine k27 _ _ ?_
 try clear k27 K27
 refine wp_cond_true rfl ?_
 refine wp_seq_k (fun K40 k40 => ?_)
 refine rg [0, 1, 2] ?_
 refine sv 81 (.agg #[(.bool false), (.slice none 0 0), (.bool false), (.slice none 0 0)]) ?_
 simp only [p3, p4]
 refine se ?_
 replace L2 := (st25.lc (L2.gr g24) ne2_24).gr (gd34.trans (g36.trans g38))
 refine es 31 0 (.agg #[(.bool false), (.slice none 0 0), (.bool false), (.slice none 0 0)]) [(.bool false), (.slice none 0 0), (.bool false), (.slice none 0 0)] #[(.bool false), (.slice none 0 0), (.bool false), (.slice none 0 0)] L2 hB q2 ⟨rfl, rfl, rfl, rfl, trivial⟩ fun w41 st41 kp41 L2 hB => ?_
 refine sv 5 (.int .i64 3) ?_
 simp only [p3, p4]
 refine sq_nil ?_
 refine k40 _ _ ?_
 try clear k40 K40
 refine wp_ret ?_
 simp only [Exit.then]
 refine bodyPost_ret (v := (.tuple #[(.agg #[(.bool false), (.slice none 0 0), (.bool false), (.slice none 0 0)]), (.int .i64 3)])) (ret_cell_tmp' _ _ _ rfl rfl L2 (by kernel_rfl) rfl) rfl ⟨?_, hB⟩
 exact rfl

set_option maxRecDepth 100000 in
set_option maxHeartbeats 1000000 in
theorem read_g2 (X : List UInt8) (z d : Int) (most : Int) (_hx : X.length ≤ 14000) (_hlong : (X.length : Int) ≤ most) (hc : cutL X = (Lib.itoa (z), some (Lib.itoa (d)))) (_hA : (Lib.itoa (z)).length ≤ X.length) (_hD : (Lib.itoa (d)).length ≤ X.length) (h2 : allD (Lib.itoa d) = true) (h3 : zerosL (Lib.itoa d) = false) (h5 : d ≠ 1) (h7 : Int.gcd z d ≠ 1) (w : World) (hm : Mx w) :
    Calls Tryz.prog 92 #[(.string ⟨(X : List UInt8).toArray⟩), (.int .i64 (most))] w fun e w' => e = .returned (.tuple #[.agg #[.bool false, .slice none 0 0, .bool false, .slice none 0 0], .int .i64 3]) ∧ Gr w w' := by
 have hl : decide (most < ((X).length : Int)) = false := by simp; omega
 have hsA : (strip (Lib.itoa (z))).length ≤ (Lib.itoa (z)).length := strip_len _
 have h1 : allD (strip (Lib.itoa (z))) = true := by rw [strip_itoa]; exact allD_dec _
 have h4 : ((Lib.trimS (Lib.itoa (d)) [48]) == ([] : List UInt8)) = false := by rw [← zeros_trim]; exact h3
 have h6 : (sgn (d - 1) == (0 : Int)) = false := by rw [beq_eq_false_iff_ne]; exact fun e => h5 (by have := sgn_eq_zero.1 e; omega)
 have h8 : (sgn ((Int.gcd (z) (d) : Int) - 1) != (0 : Int)) = true := by rw [bne_iff_ne]; exact fun e => h7 (by have := sgn_eq_zero.1 e; omega)
 go_enter Tryz.func92, Tryz.ntmps92
 have hB := Gr.refl w
 refine wp_seq_k (fun K1 k1 => ?_)
 refine rg [0, 1] ?_
 refine se ?_
 refine ea 31 #[(.bool false), (.slice none 0 0), (.bool false), (.slice none 0 0)] 4 hB fun b2 w2 g2 L2 o2 q2 hB => ?_
 simp only [p3, p4]
 refine sv 5 (.int .i64 0) ?_
 simp only [p3, p4]
 refine sq_nil ?_
 refine k1 _ _ ?_
 try clear k1 K1
 refine wp_seq_k (fun K3 k3 => ?_)
 refine rg [0, 1] ?_
 refine sv 13 (.string ⟨(X : List UInt8).toArray⟩) ?_
 simp only [p3, p4]
 refine sv 6 (.string ⟨(X : List UInt8).toArray⟩) ?_
 simp only [p3, p4]
 refine sq_nil ?_
 refine k3 _ _ ?_
 try clear k3 K3
 refine wp_seq_k (fun K4 k4 => ?_)
 refine rg [0, 1, 2, 3, 4, 5, 6, 7, 8] ?_
 refine sv 15 (.string ⟨(X : List UInt8).toArray⟩) ?_
 simp only [p3, p4]
 refine se ?_
 refine ec 16 (cut_yes (X) (Lib.itoa (z)) (Lib.itoa (d)) (by omega) hc (hm.gr hB)) ?_
 rintro e5 w5 ⟨rfl, g5⟩
 refine ⟨_, rfl, ?_⟩
 replace hB := hB.trans g5
 simp only [p3, p4]
 refine sv 14 (.tuple #[(.string ⟨(Lib.itoa (z) : List UInt8).toArray⟩), (.string ⟨(Lib.itoa (d) : List UInt8).toArray⟩), (.bool true)]) ?_
 simp only [p3, p4]
 refine sv 17 (.string ⟨(Lib.itoa (z) : List UInt8).toArray⟩) ?_
 simp only [p3, p4]
 refine sv 18 (.string ⟨(Lib.itoa (d) : List UInt8).toArray⟩) ?_
 simp only [p3, p4]
 refine sv 19 (.bool true) ?_
 simp only [p3, p4]
 refine sv 7 (.string ⟨(Lib.itoa (z) : List UInt8).toArray⟩) ?_
 simp only [p3, p4]
 refine sv 8 (.string ⟨(Lib.itoa (d) : List UInt8).toArray⟩) ?_
 simp only [p3, p4]
 refine sv 9 (.bool true) ?_
 simp only [p3, p4]
 refine sq_nil ?_
 refine k4 _ _ ?_
 try clear k4 K4
 refine wp_seq_k (fun K6 k6 => ?_)
 refine wp_block ?_
 refine wp_seq_k (fun K7 k7 => ?_)
 refine rg [0, 1, 2, 3, 4] ?_
 refine sv 21 (.string ⟨(X : List UInt8).toArray⟩) ?_
 simp only [p3, p4]
 refine sv 22 (.int .i64 (((X).length : Int))) ?_
 simp only [p3, p4]
 refine sv 23 (.int .i64 (most)) ?_
 simp only [p3, p4]
 refine sw 24 (.bool false) rfl (RunV.bool (x := decide (most < ((X).length : Int))) (rvk (by kernel_rfl)) hl) ?_
 simp only [p3, p4]
 refine sv 20 (.bool false) ?_
 simp only [p3, p4]
 refine sq_nil ?_
 refine k7 _ _ ?_
 try clear k7 K7
 refine wp_cond_false rfl ?_
 refine wp_seq_k (fun K8 k8 => ?_)
 refine rg [0, 1, 2, 3, 4, 5, 6, 7, 8, 9, 10, 11, 12] ?_
 refine sv 27 (.string ⟨(Lib.itoa (z) : List UInt8).toArray⟩) ?_
 simp only [p3, p4]
 refine se ?_
 refine ec 28 (trimprefix_any (Lib.itoa (z)) _) ?_
 rintro e9 w9 ⟨rfl, g9⟩
 refine ⟨_, rfl, ?_⟩
 replace hB := hB.trans g9
 simp only [p3, p4]
 refine se ?_
 refine ec 29 (rdigits_a (strip (Lib.itoa (z))) (by omega) _) ?_
 rintro e10 w10 ⟨rfl, g10⟩
 refine ⟨_, rfl, ?_⟩
 replace hB := hB.trans g10
 simp only [p3, p4]
 refine sw 30 (.bool false) rfl (RunV.bool (x := !(allD (strip (Lib.itoa (z))))) (rvk (by kernel_rfl)) (show (!(allD (strip (Lib.itoa (z))))) = false by rw [h1]; rfl)) ?_
 simp only [p3, p4]
 refine sv 31 (.bool false) ?_
 simp only [p3, p4]
 refine sv 32 (.bool true) ?_
 simp only [p3, p4]
 refine sv 33 (.bool true) ?_
 simp only [p3, p4]
 refine sv 34 (.string ⟨(Lib.itoa (d) : List UInt8).toArray⟩) ?_
 simp only [p3, p4]
 refine se ?_
 refine ec 35 (rdigits_a (Lib.itoa (d)) (by omega) _) ?_
 rintro e11 w11 ⟨rfl, g11⟩
 refine ⟨_, rfl, ?_⟩
 replace hB := hB.trans g11
 simp only [p3, p4]
 refine sw 36 (.bool false) rfl (RunV.bool (x := !(allD (Lib.itoa (d)))) (rvk (by kernel_rfl)) (show (!(allD (Lib.itoa (d)))) = false by rw [h2]; rfl)) ?_
 simp only [p3, p4]
 refine sv 37 (.bool false) ?_
 simp only [p3, p4]
 refine sv 38 (.bool false) ?_
 simp only [p3, p4]
 refine sv 26 (.bool false) ?_
 simp only [p3, p4]
 refine sq_nil ?_
 refine k8 _ _ ?_
 try clear k8 K8
 refine wp_cond_false rfl ?_
 refine wp_seq_k (fun K12 k12 => ?_)
 refine rg [0, 1, 2, 3, 4, 5, 6] ?_
 refine sv 41 (.bool true) ?_
 simp only [p3, p4]
 refine sv 42 (.bool true) ?_
 simp only [p3, p4]
 refine sv 43 (.string ⟨(Lib.itoa (d) : List UInt8).toArray⟩) ?_
 simp only [p3, p4]
 refine se ?_
 refine ec 44 (trim_any0 (Lib.itoa (d)) (by omega) _) ?_
 rintro e13 w13 ⟨rfl, g13⟩
 refine ⟨_, rfl, ?_⟩
 replace hB := hB.trans g13
 simp only [p3, p4]
 refine sw 45 (.bool false) rfl (RunV.bool (x := ((Lib.trimS (Lib.itoa (d)) [48]) == ([] : List UInt8))) (rv_seq 9 9 _ _ (Lib.trimS (Lib.itoa (d)) [48]) ([]) rfl rfl rfl) h4) ?_
 simp only [p3, p4]
 refine sv 46 (.bool false) ?_
 simp only [p3, p4]
 refine sv 40 (.bool false) ?_
 simp only [p3, p4]
 refine sq_nil ?_
 refine k12 _ _ ?_
 try clear k12 K12
 refine wp_cond_false rfl ?_
 refine wp_skip ?_
 refine k6 _ _ ?_
 try clear k6 K6
 refine wp_seq_k (fun K14 k14 => ?_)
 refine rg [0, 1, 2, 3, 4, 5, 6, 7] ?_
 refine sv 49 (.string ⟨(Lib.itoa (z) : List UInt8).toArray⟩) ?_
 simp only [p3, p4]
 refine se ?_
 refine ec 50 (parse_i (z) (itoa_sz (z) (m := 14000) (by omega)) (by omega) _) ?_
 rintro e15 w15 ⟨⟨x15, y15, rfl, h15⟩, g15⟩
 refine ⟨_, rfl, ?_⟩
 replace hB := hB.trans g15
 simp only [p3, p4]
 refine sv 48 (.tuple #[(.agg #[x15, y15]), (.int .i64 0)]) ?_
 simp only [p3, p4]
 refine sv 51 (.agg #[x15, y15]) ?_
 simp only [p3, p4]
 refine sv 52 (.int .i64 0) ?_
 simp only [p3, p4]
 refine se ?_
 refine ea 27 #[(.bool false), (.slice none 0 0)] 10 hB fun b16 w16 g16 L16 o16 q16 hB => ?_
 replace L2 := L2.gr (g5.trans (g9.trans (g10.trans (g11.trans (g13.trans g15)))))
 have ne2_16 := L2.ne o16
 simp only [p3, p4]
 refine se ?_
 refine es 27 0 (.agg #[x15, y15]) [x15, y15] #[x15, y15] L16 hB q16 ⟨h15.one0, h15.one1, trivial⟩ fun w17 st17 kp17 L16 hB => ?_
 refine sv 11 (.int .i64 0) ?_
 simp only [p3, p4]
 refine sq_nil ?_
 refine k14 _ _ ?_
 try clear k14 K14
 refine wp_seq_k (fun K18 k18 => ?_)
 refine wp_seq_k (fun K19 k19 => ?_)
 refine rg [0, 1] ?_
 refine sv 53 (.int .i64 0) ?_
 simp only [p3, p4]
 refine sv 54 (.bool false) ?_
 simp only [p3, p4]
 refine sq_nil ?_
 refine k19 _ _ ?_
 try clear k19 K19
 refine wp_cond_false rfl ?_
 refine wp_skip ?_
 refine k18 _ _ ?_
 try clear k18 K18
 refine wp_seq_k (fun K20 k20 => ?_)
 refine wp_seq_k (fun K21 k21 => ?_)
 refine rg [0, 1] ?_
 refine sv 56 (.bool true) ?_
 simp only [p3, p4]
 refine sv 57 (.bool false) ?_
 simp only [p3, p4]
 refine sq_nil ?_
 refine k21 _ _ ?_
 try clear k21 K21
 refine wp_cond_false rfl ?_
 refine wp_skip ?_
 refine k20 _ _ ?_
 try clear k20 K20
 refine wp_seq_k (fun K22 k22 => ?_)
 refine rg [0, 1, 2, 3, 4, 5, 6, 7] ?_
 refine sv 61 (.string ⟨(Lib.itoa (d) : List UInt8).toArray⟩) ?_
 simp only [p3, p4]
 refine se ?_
 refine ec 62 (parse_i (d) (itoa_sz (d) (m := 14000) (by omega)) (by omega) _) ?_
 rintro e23 w23 ⟨⟨x23, y23, rfl, h23⟩, g23⟩
 refine ⟨_, rfl, ?_⟩
 replace hB := hB.trans g23
 simp only [p3, p4]
 refine sv 60 (.tuple #[(.agg #[x23, y23]), (.int .i64 0)]) ?_
 simp only [p3, p4]
 refine sv 63 (.agg #[x23, y23]) ?_
 simp only [p3, p4]
 refine sv 64 (.int .i64 0) ?_
 simp only [p3, p4]
 refine se ?_
 refine ea 27 #[(.bool false), (.slice none 0 0)] 12 hB fun b24 w24 g24 L24 o24 q24 hB => ?_
 replace L2 := (st17.lc (L2.gr g16) ne2_16).gr g23
 have ne2_24 := L2.ne o24
 replace L16 := L16.gr g23
 have ne16_24 := L16.ne o24
 simp only [p3, p4]
 refine se ?_
 refine es 27 0 (.agg #[x23, y23]) [x23, y23] #[x23, y23] L24 hB q24 ⟨h23.one0, h23.one1, trivial⟩ fun w25 st25 kp25 L24 hB => ?_
 refine sv 11 (.int .i64 0) ?_
 simp only [p3, p4]
 refine sq_nil ?_
 refine k22 _ _ ?_
 try clear k22 K22
 refine wp_seq_k (fun K26 k26 => ?_)
 refine wp_seq_k (fun K27 k27 => ?_)
 have gd41 := Gr.drew w25
 replace hB := hB.trans gd41
 replace L16 := (st25.lc (L16.gr g24) ne16_24).gr gd41
 replace L24 := L24.gr gd41
 refine wp_region_ord (fun w' => Lc w' b16 #[x15, y15] 27 ∧ Lc w' b24 #[x23, y23] 27) [(true, 0), (true, 1), (true, 2), (true, 3), (false, 4), (false, 5), (true, 6), (true, 7), (true, 8), (true, 9), (true, 10), (false, 11), (false, 12), (false, 13), (true, 14), (true, 15)] (by kernel_rfl) (by kernel_rfl) (by kernel_rfl) (by decide) (fun _ _ _ _ _ h => h) ⟨L16, L24⟩ ?_
 refine ov 65 (.int .i64 0) ?_
 simp only [p3, p4]
 refine ov 66 (.bool false) ?_
 simp only [p3, p4]
 refine ov 67 (.bool false) ?_
 simp only [p3, p4]
 refine ow 68 (.agg #[x23, y23]) rfl (fun w' hS => (rl 27 0 [x23, y23] hS.2)) ?_
 simp only [p3, p4]
 refine oe ?_
 refine ec 69 (one_i _) ?_
 rintro e43 w43 ⟨⟨x43, y43, rfl, h43⟩, g43⟩
 refine ⟨_, rfl, ?_⟩
 replace hB := hB.trans g43
 replace L16 := L16.gr g43
 replace L24 := L24.gr g43
 refine ⟨⟨L16, L24⟩, ?_⟩
 simp only [p3, p4]
 refine oe ?_
 have kq46 := g24.kp.trans (kp25.trans (gd41.kp.trans g43.kp))
 replace h23 := h23.kp kq46
 refine ec 70 (compare_i h23 h43 (by omega) (by omega)) ?_
 rintro e45 w45 ⟨rfl, g45⟩
 refine ⟨_, rfl, ?_⟩
 replace hB := hB.trans g45
 replace L16 := L16.gr g45
 replace L24 := L24.gr g45
 refine ⟨⟨L16, L24⟩, ?_⟩
 simp only [p3, p4]
 refine ow 71 (.bool false) rfl (fun w' hS => (RunV.bool (x := (sgn (d - 1) == (0 : Int))) (rvk (by kernel_rfl)) h6)) ?_
 simp only [p3, p4]
 refine ov 72 (.bool false) ?_
 simp only [p3, p4]
 refine ov 73 (.bool false) ?_
 simp only [p3, p4]
 refine ow 74 (.agg #[x15, y15]) rfl (fun w' hS => (rl 27 0 [x15, y15] hS.1)) ?_
 simp only [p3, p4]
 refine ow 75 (.agg #[x23, y23]) rfl (fun w' hS => (rl 27 0 [x23, y23] hS.2)) ?_
 simp only [p3, p4]
 refine oe ?_
 have kq49 := g16.kp.trans (kp17.trans (g23.kp.trans (g24.kp.trans (kp25.trans (gd41.kp.trans (g43.kp.trans g45.kp))))))
 replace h15 := h15.kp kq49
 replace h23 := h23.kp g45.kp
 refine ec 76 (gcd_i h15 h23 (by omega)) ?_
 rintro e48 w48 ⟨⟨x48, y48, rfl, h48⟩, g48⟩
 refine ⟨_, rfl, ?_⟩
 replace hB := hB.trans g48
 replace L16 := L16.gr g48
 replace L24 := L24.gr g48
 refine ⟨⟨L16, L24⟩, ?_⟩
 simp only [p3, p4]
 refine oe ?_
 refine ec 77 (one_i _) ?_
 rintro e51 w51 ⟨⟨x51, y51, rfl, h51⟩, g51⟩
 refine ⟨_, rfl, ?_⟩
 replace hB := hB.trans g51
 replace L16 := L16.gr g51
 replace L24 := L24.gr g51
 refine ⟨⟨L16, L24⟩, ?_⟩
 simp only [p3, p4]
 refine oe ?_
 replace h48 := h48.kp g51.kp
 refine ec 78 (compare_i h48 h51 (by omega) (by omega)) ?_
 rintro e53 w53 ⟨rfl, g53⟩
 refine ⟨_, rfl, ?_⟩
 replace hB := hB.trans g53
 replace L16 := L16.gr g53
 replace L24 := L24.gr g53
 refine ⟨⟨L16, L24⟩, ?_⟩
 simp only [p3, p4]
 refine ow 79 (.bool true) rfl (fun w' hS => (RunV.bool (x := (sgn ((Int.gcd (z) (d) : Int) - 1) != (0 : Int))) (rvk (by kernel_rfl)) h8)) ?_
 simp only [p3, p4]
 refine ov 80 (.bool true) ?_
 simp only [p3, p4]
 refine ord_nil ?_
 refine k27 _ _ ?_
 try clear k27 K27
 refine wp_cond_true rfl ?_
 refine wp_seq_k (fun K54 k54 => ?_)
 refine rg [0, 1, 2] ?_
 refine sv 81 (.agg #[(.bool false), (.slice none 0 0), (.bool false), (.slice none 0 0)]) ?_
 simp only [p3, p4]
 refine se ?_
 replace L2 := (st25.lc (L2.gr g24) ne2_24).gr (gd41.trans (g43.trans (g45.trans (g48.trans (g51.trans g53)))))
 refine es 31 0 (.agg #[(.bool false), (.slice none 0 0), (.bool false), (.slice none 0 0)]) [(.bool false), (.slice none 0 0), (.bool false), (.slice none 0 0)] #[(.bool false), (.slice none 0 0), (.bool false), (.slice none 0 0)] L2 hB q2 ⟨rfl, rfl, rfl, rfl, trivial⟩ fun w55 st55 kp55 L2 hB => ?_
 refine sv 5 (.int .i64 3) ?_
 simp only [p3, p4]
 refine sq_nil ?_
 refine k54 _ _ ?_
 try clear k54 K54
 refine wp_ret ?_
 simp only [Exit.then]
 refine bodyPost_ret (v := (.tuple #[(.agg #[(.bool false), (.slice none 0 0), (.bool false), (.slice none 0 0)]), (.int .i64 3)])) (ret_cell_tmp' _ _ _ rfl rfl L2 (by kernel_rfl) rfl) rfl ⟨?_, hB⟩
 exact rfl

theorem read_bad (X : List UInt8) (most : Nat) (hx : X.length ≤ 14000) (h : ck2 X most ≠ 0) (w : World) (hm : Mx w) :
    Calls Tryz.prog 92 #[(.string ⟨(X : List UInt8).toArray⟩), (.int .i64 (most))] w fun e w' => e = .returned (.tuple #[.agg #[.bool false, .slice none 0 0, .bool false, .slice none 0 0], .int .i64 (ck2 X most)]) ∧ Gr w w' := by
  by_cases hl : most < X.length
  · have e : ck2 X most = 5 := by unfold ck2; rw [if_pos hl]
    rw [e]; exact read_long X most (by omega) (by omega) w hm
  have hl2 : (X.length : Int) ≤ (most : Int) := by omega
  have hcl := cutL_eq X
  have hnl := numL_len X
  rcases hcut : cutL X with ⟨A, _ | D⟩
  · rw [hcut] at hcl hnl
    obtain rfl : X = A := hcl
    have hn : numL X = X := by unfold numL; rw [hcut]
    have hd : denL X = [49] := by unfold denL; rw [hcut]; rfl
    unfold ck2 at h ⊢
    rw [if_neg hl, hn, hd] at h ⊢
    rw [show allD [49] = true from by decide, Bool.and_true] at h ⊢
    by_cases h1 : allD (strip X) = true
    · rw [if_neg (by rw [h1]; decide), if_neg (by decide)] at h ⊢
      by_cases h2 : badZ X = true
      · rw [if_pos (by rw [h2]; rfl)]
        exact read_nf X most hx hl2 hcut h1 h2 w hm
      · rw [Bool.not_eq_true] at h2
        rw [if_neg (by rw [h2]; decide), if_neg (by simp)] at h
        exact absurd rfl h
    · rw [Bool.not_eq_true] at h1
      rw [if_pos h1]
      exact read_ns X most hx hl2 hcut h1 w hm
  · rw [hcut] at hcl hnl
    dsimp only at hcl
    have hn : numL X = A := by unfold numL; rw [hcut]
    have hd : denL X = D := by unfold denL; rw [hcut]; rfl
    have hlen : X.length = A.length + (D.length + 1) := by rw [hcl]; simp
    have hA : A.length ≤ X.length := by omega
    have hD : D.length ≤ X.length := by omega
    unfold ck2 at h ⊢
    rw [if_neg hl, hn, hd] at h ⊢
    by_cases h1 : allD (strip A) = true
    · by_cases h2 : allD D = true
      · rw [h1, h2, if_neg (by decide)] at h ⊢
        by_cases h3 : zerosL D = true
        · rw [if_pos h3]
          exact read_fz X A D most hx hl2 hcut hA hD h1 h2 h3 w hm
        rw [if_neg h3] at h ⊢
        rw [Bool.not_eq_true] at h3
        by_cases h4 : badZ A = true
        · rw [if_pos (by rw [h4]; rfl)]
          exact read_fb1 X A D most hx hl2 hcut hA hD h1 h2 h3 h4 w hm
        rw [Bool.not_eq_true] at h4
        obtain ⟨z, rfl⟩ := form_itoa h1 h4
        have hz : valZ (Lib.itoa z) = z := valZ_itoa z
        by_cases h5 : (D[0]? == some 48) = true
        · rw [if_pos (by rw [h5, Bool.or_true])]
          exact read_fb2 X D z most hx hl2 hcut hA hD h2 (strip_dig h2) h3 (badZ_head h2 h3 h5) w hm
        rw [Bool.not_eq_true] at h5
        obtain ⟨e1, e2⟩ := den_text h2 h5
        obtain ⟨d, hd1⟩ : ∃ d : Int, d = (valL D : Int) := ⟨_, rfl⟩
        have e3 : Lib.itoa d = D := by rw [hd1, itoa_nonneg (by omega), Int.natAbs_natCast]; exact e1
        subst e3
        have hv : valZ (Lib.itoa d) = d := valZ_itoa d
        rw [if_neg (by rw [h4, h5]; decide), hz, hv] at h ⊢
        have hlt : decide ((Lib.itoa z).length < X.length) = true := by simp; omega
        rw [hlt, Bool.true_and] at h ⊢
        by_cases h6 : d = 1
        · rw [if_pos (by rw [h6, itoa_one]; rfl)]
          exact read_g1 X z d most hx hl2 hcut hA hD h2 h3 h6 w hm
        · by_cases h7 : Int.gcd z d = 1
          · rw [if_neg (by rw [h7]; simp; intro e; exact h6 (itoa_inj (by rw [e, itoa_one])))] at h
            exact absurd rfl h
          · rw [if_pos (by simp [h7])]
            exact read_g2 X z d most hx hl2 hcut hA hD h2 h3 h6 h7 w hm
      · rw [Bool.not_eq_true] at h2
        rw [if_pos (by rw [h2, Bool.and_false])]
        exact read_fs2 X A D most hx hl2 hcut hA hD h1 h2 w hm
    · rw [Bool.not_eq_true] at h1
      rw [if_pos (by rw [h1]; rfl)]
      exact read_fs1 X A D most hx hl2 hcut hA hD h1 w hm

set_option maxRecDepth 100000 in
set_option maxHeartbeats 1000000 in
theorem rparse_bad (X : List UInt8) (hx : X.length ≤ 14000) (h : ck2 X 400 ≠ 0) (w : World) (hm : Mx w) :
    Calls Tryz.prog 25 #[(.string ⟨(X : List UInt8).toArray⟩)] w fun e w' => e = .returned (.tuple #[.agg #[.bool false, .slice none 0 0, .bool false, .slice none 0 0], .int .i64 (ck2 X 400)]) ∧ Gr w w' := by
 go_enter Tryz.func25, Tryz.ntmps25
 have hB := Gr.refl w
 refine wp_seq_k (fun K1 k1 => ?_)
 refine rg [0, 1] ?_
 refine se ?_
 refine ea 31 #[(.bool false), (.slice none 0 0), (.bool false), (.slice none 0 0)] 2 hB fun b2 w2 g2 L2 o2 q2 hB => ?_
 simp only [p3, p4]
 refine sv 3 (.int .i64 0) ?_
 simp only [p3, p4]
 refine sq_nil ?_
 refine k1 _ _ ?_
 try clear k1 K1
 refine wp_seq_k (fun K3 k3 => ?_)
 refine rg [0, 1, 2, 3, 4, 5] ?_
 refine sv 4 (.string ⟨(X : List UInt8).toArray⟩) ?_
 simp only [p3, p4]
 refine se ?_
 refine ec 5 (read_bad X 400 hx h _ (hm.gr hB)) ?_
 rintro e4 w4 ⟨rfl, g4⟩
 refine ⟨_, rfl, ?_⟩
 replace hB := hB.trans g4
 simp only [p3, p4]
 refine sv 6 (.agg #[(.bool false), (.slice none 0 0), (.bool false), (.slice none 0 0)]) ?_
 simp only [p3, p4]
 refine sv 7 (.int .i64 (ck2 X 400)) ?_
 simp only [p3, p4]
 refine se ?_
 replace L2 := L2.gr g4
 refine es 31 0 (.agg #[(.bool false), (.slice none 0 0), (.bool false), (.slice none 0 0)]) [(.bool false), (.slice none 0 0), (.bool false), (.slice none 0 0)] #[(.bool false), (.slice none 0 0), (.bool false), (.slice none 0 0)] L2 hB q2 ⟨rfl, rfl, rfl, rfl, trivial⟩ fun w5 st5 kp5 L2 hB => ?_
 refine sv 3 (.int .i64 (ck2 X 400)) ?_
 simp only [p3, p4]
 refine sq_nil ?_
 refine k3 _ _ ?_
 try clear k3 K3
 refine wp_ret ?_
 refine bodyPost_ret (v := (.tuple #[(.agg #[(.bool false), (.slice none 0 0), (.bool false), (.slice none 0 0)]), (.int .i64 (ck2 X 400))])) (ret_cell_tmp' _ _ _ rfl rfl L2 (by kernel_rfl) rfl) rfl ⟨?_, hB⟩
 exact rfl

set_option maxRecDepth 100000 in
set_option maxHeartbeats 1000000 in
theorem rparse_long (X : List UInt8) (hx : X.length ≤ 1000000) (h : (400 : Int) < (X.length : Int)) (w : World) (hm : Mx w) :
    Calls Tryz.prog 25 #[(.string ⟨(X : List UInt8).toArray⟩)] w fun e w' => e = .returned (.tuple #[.agg #[.bool false, .slice none 0 0, .bool false, .slice none 0 0], .int .i64 5]) ∧ Gr w w' := by
 go_enter Tryz.func25, Tryz.ntmps25
 have hB := Gr.refl w
 refine wp_seq_k (fun K1 k1 => ?_)
 refine rg [0, 1] ?_
 refine se ?_
 refine ea 31 #[(.bool false), (.slice none 0 0), (.bool false), (.slice none 0 0)] 2 hB fun b2 w2 g2 L2 o2 q2 hB => ?_
 simp only [p3, p4]
 refine sv 3 (.int .i64 0) ?_
 simp only [p3, p4]
 refine sq_nil ?_
 refine k1 _ _ ?_
 try clear k1 K1
 refine wp_seq_k (fun K3 k3 => ?_)
 refine rg [0, 1, 2, 3, 4, 5] ?_
 refine sv 4 (.string ⟨(X : List UInt8).toArray⟩) ?_
 simp only [p3, p4]
 refine se ?_
 refine ec 5 (read_long X 400 hx h _ (hm.gr hB)) ?_
 rintro e4 w4 ⟨rfl, g4⟩
 refine ⟨_, rfl, ?_⟩
 replace hB := hB.trans g4
 simp only [p3, p4]
 refine sv 6 (.agg #[(.bool false), (.slice none 0 0), (.bool false), (.slice none 0 0)]) ?_
 simp only [p3, p4]
 refine sv 7 (.int .i64 5) ?_
 simp only [p3, p4]
 refine se ?_
 replace L2 := L2.gr g4
 refine es 31 0 (.agg #[(.bool false), (.slice none 0 0), (.bool false), (.slice none 0 0)]) [(.bool false), (.slice none 0 0), (.bool false), (.slice none 0 0)] #[(.bool false), (.slice none 0 0), (.bool false), (.slice none 0 0)] L2 hB q2 ⟨rfl, rfl, rfl, rfl, trivial⟩ fun w5 st5 kp5 L2 hB => ?_
 refine sv 3 (.int .i64 5) ?_
 simp only [p3, p4]
 refine sq_nil ?_
 refine k3 _ _ ?_
 try clear k3 K3
 refine wp_ret ?_
 refine bodyPost_ret (v := (.tuple #[(.agg #[(.bool false), (.slice none 0 0), (.bool false), (.slice none 0 0)]), (.int .i64 5)])) (ret_cell_tmp' _ _ _ rfl rfl L2 (by kernel_rfl) rfl) rfl ⟨?_, hB⟩
 exact rfl

set_option maxRecDepth 100000 in
set_option maxHeartbeats 1000000 in
theorem rread_bad (X : List UInt8) (hx : X.length ≤ 14000) (h : ck2 X 65536 ≠ 0) (w : World) (hm : Mx w) :
    Calls Tryz.prog 26 #[(.string ⟨(X : List UInt8).toArray⟩)] w fun e w' => e = .returned (.tuple #[.agg #[.bool false, .slice none 0 0, .bool false, .slice none 0 0], .int .i64 (ck2 X 65536)]) ∧ Gr w w' := by
 go_enter Tryz.func26, Tryz.ntmps26
 have hB := Gr.refl w
 refine wp_seq_k (fun K1 k1 => ?_)
 refine rg [0, 1] ?_
 refine se ?_
 refine ea 31 #[(.bool false), (.slice none 0 0), (.bool false), (.slice none 0 0)] 2 hB fun b2 w2 g2 L2 o2 q2 hB => ?_
 simp only [p3, p4]
 refine sv 3 (.int .i64 0) ?_
 simp only [p3, p4]
 refine sq_nil ?_
 refine k1 _ _ ?_
 try clear k1 K1
 refine wp_seq_k (fun K3 k3 => ?_)
 refine rg [0, 1, 2, 3, 4, 5] ?_
 refine sv 4 (.string ⟨(X : List UInt8).toArray⟩) ?_
 simp only [p3, p4]
 refine se ?_
 refine ec 5 (read_bad X 65536 hx h _ (hm.gr hB)) ?_
 rintro e4 w4 ⟨rfl, g4⟩
 refine ⟨_, rfl, ?_⟩
 replace hB := hB.trans g4
 simp only [p3, p4]
 refine sv 6 (.agg #[(.bool false), (.slice none 0 0), (.bool false), (.slice none 0 0)]) ?_
 simp only [p3, p4]
 refine sv 7 (.int .i64 (ck2 X 65536)) ?_
 simp only [p3, p4]
 refine se ?_
 replace L2 := L2.gr g4
 refine es 31 0 (.agg #[(.bool false), (.slice none 0 0), (.bool false), (.slice none 0 0)]) [(.bool false), (.slice none 0 0), (.bool false), (.slice none 0 0)] #[(.bool false), (.slice none 0 0), (.bool false), (.slice none 0 0)] L2 hB q2 ⟨rfl, rfl, rfl, rfl, trivial⟩ fun w5 st5 kp5 L2 hB => ?_
 refine sv 3 (.int .i64 (ck2 X 65536)) ?_
 simp only [p3, p4]
 refine sq_nil ?_
 refine k3 _ _ ?_
 try clear k3 K3
 refine wp_ret ?_
 refine bodyPost_ret (v := (.tuple #[(.agg #[(.bool false), (.slice none 0 0), (.bool false), (.slice none 0 0)]), (.int .i64 (ck2 X 65536))])) (ret_cell_tmp' _ _ _ rfl rfl L2 (by kernel_rfl) rfl) rfl ⟨?_, hB⟩
 exact rfl

set_option maxRecDepth 100000 in
set_option maxHeartbeats 1000000 in
theorem rread_long (X : List UInt8) (hx : X.length ≤ 1000000) (h : (65536 : Int) < (X.length : Int)) (w : World) (hm : Mx w) :
    Calls Tryz.prog 26 #[(.string ⟨(X : List UInt8).toArray⟩)] w fun e w' => e = .returned (.tuple #[.agg #[.bool false, .slice none 0 0, .bool false, .slice none 0 0], .int .i64 5]) ∧ Gr w w' := by
 go_enter Tryz.func26, Tryz.ntmps26
 have hB := Gr.refl w
 refine wp_seq_k (fun K1 k1 => ?_)
 refine rg [0, 1] ?_
 refine se ?_
 refine ea 31 #[(.bool false), (.slice none 0 0), (.bool false), (.slice none 0 0)] 2 hB fun b2 w2 g2 L2 o2 q2 hB => ?_
 simp only [p3, p4]
 refine sv 3 (.int .i64 0) ?_
 simp only [p3, p4]
 refine sq_nil ?_
 refine k1 _ _ ?_
 try clear k1 K1
 refine wp_seq_k (fun K3 k3 => ?_)
 refine rg [0, 1, 2, 3, 4, 5] ?_
 refine sv 4 (.string ⟨(X : List UInt8).toArray⟩) ?_
 simp only [p3, p4]
 refine se ?_
 refine ec 5 (read_long X 65536 hx h _ (hm.gr hB)) ?_
 rintro e4 w4 ⟨rfl, g4⟩
 refine ⟨_, rfl, ?_⟩
 replace hB := hB.trans g4
 simp only [p3, p4]
 refine sv 6 (.agg #[(.bool false), (.slice none 0 0), (.bool false), (.slice none 0 0)]) ?_
 simp only [p3, p4]
 refine sv 7 (.int .i64 5) ?_
 simp only [p3, p4]
 refine se ?_
 replace L2 := L2.gr g4
 refine es 31 0 (.agg #[(.bool false), (.slice none 0 0), (.bool false), (.slice none 0 0)]) [(.bool false), (.slice none 0 0), (.bool false), (.slice none 0 0)] #[(.bool false), (.slice none 0 0), (.bool false), (.slice none 0 0)] L2 hB q2 ⟨rfl, rfl, rfl, rfl, trivial⟩ fun w5 st5 kp5 L2 hB => ?_
 refine sv 3 (.int .i64 5) ?_
 simp only [p3, p4]
 refine sq_nil ?_
 refine k3 _ _ ?_
 try clear k3 K3
 refine wp_ret ?_
 refine bodyPost_ret (v := (.tuple #[(.agg #[(.bool false), (.slice none 0 0), (.bool false), (.slice none 0 0)]), (.int .i64 5)])) (ret_cell_tmp' _ _ _ rfl rfl L2 (by kernel_rfl) rfl) rfl ⟨?_, hB⟩
 exact rfl

end Go.Proofs.YtloocadjbpgldaaGreatDoor
/- Strings of zero bytes, made of slices of bytes. -/
namespace Go.Proofs.YtloocadjbpgldaaGreatDoor
open Go.RowKit

def zs (n : Nat) : List UInt8 := List.replicate n 0
theorem zs_len (n : Nat) : (zs n).length = n := List.length_replicate
theorem zs_size (n : Nat) : (⟨(zs n).toArray⟩ : ByteArray).size = n := by
  show (zs n).toArray.size = n
  rw [List.size_toArray, zs_len]
theorem zs_bytes {w : World} {b n : Nat} {t : TypeId} (h : Lc w b (madeCells #[.int .u8 0] n) t) : Lib.Bytes w b 0 ⟨(zs n).toArray⟩ := by
  intro i hi
  have hn : i < n := by rw [zs_size] at hi; exact hi
  have e1 : (zs n)[i]? = some 0 := by unfold zs; rw [List.getElem?_replicate, if_pos hn]
  rw [Nat.zero_add, cells_of h, ← Array.getElem?_toList, toList_madeCells_one, List.getElem?_replicate, if_pos hn, getElem_toList (l := zs n) (by simp) hi e1]
  rfl
theorem rcz {P : Program} {a : Act} {o : Oper} {w : World} {x : Operand} {b : Nat} (src dst e n : Nat) (hL : Lc w b (madeCells #[.int .u8 0] n) e) (hop : o.op = .convert src dst x) (hx : a.eval x = .slice (some ⟨b, 0, none⟩) n n)
    (hs : P.underlying src = some (.slice e)) (he : P.underlying e = some (.int .u8)) (hd : P.underlying dst = some .string) : RunV P a o w (.string ⟨(zs n).toArray⟩) := by
  have h := Lib.run_convert_whole w src e dst hs he hd b 0 ⟨(zs n).toArray⟩ (zs_bytes hL) n
  rw [zs_size] at h
  unfold RunV execOp
  simp only [hop, hx, Sem.run_bind, h, Result.andThen_ok, Sem.run_pure]
theorem rparse_z (w : World) (hm : Mx w) : Calls Tryz.prog 25 #[.string ⟨(zs 401).toArray⟩] w fun e w' => e = .returned (.tuple #[.agg #[.bool false, .slice none 0 0, .bool false, .slice none 0 0], .int .i64 5]) ∧ Gr w w' :=
  rparse_long (zs 401) (by rw [zs_len]; omega) (by rw [zs_len]; omega) w hm
theorem rread_z (w : World) (hm : Mx w) : Calls Tryz.prog 26 #[.string ⟨(zs 65537).toArray⟩] w fun e w' => e = .returned (.tuple #[.agg #[.bool false, .slice none 0 0, .bool false, .slice none 0 0], .int .i64 5]) ∧ Gr w w' :=
  rread_long (zs 65537) (by rw [zs_len]; omega) (by rw [zs_len]; omega) w hm
theorem ck2_most {X : List UInt8} {m n : Nat} (h1 : X.length ≤ m) (h2 : X.length ≤ n) : ck2 X m = ck2 X n := by
  unfold ck2
  rw [if_neg (show ¬ m < X.length by omega), if_neg (show ¬ n < X.length by omega)]
end Go.Proofs.YtloocadjbpgldaaGreatDoor
/- Lists of texts and their rationals: plain facts; a clone of a slice of texts. -/
namespace Go.Proofs.YtloocadjbpgldaaGreatDoor
open Go.RowKit

def bigT (X : List UInt8) : Bool := decide ((40 : Int) < (X.length : Int))
theorem all_succ {Xs : List (List UInt8)} {p : List UInt8 → Bool} {k : Nat} (h : ∀ j, j < k → p (Xs.getD j []) = false) (hk : p (Xs.getD k []) = false) : ∀ j, j < k + 1 → p (Xs.getD j []) = false := fun j hj => by
  rcases Nat.lt_or_eq_of_le (Nat.le_of_lt_succ hj) with h1 | rfl
  · exact h j h1
  · exact hk
theorem any_found {Xs : List (List UInt8)} {k : Nat} (hk : k < Xs.length) (h : bigT (Xs.getD k []) = true) : decide ((0 : Int) ≤ (k : Int)) = Xs.any bigT := by
  rw [decide_eq_true (by omega), eq_comm, List.any_eq_true]
  exact ⟨_, by rw [List.getD_eq_getElem?_getD, List.getElem?_eq_getElem hk]; exact List.getElem_mem hk, h⟩
theorem any_none {Xs : List (List UInt8)} (h : ∀ j, j < Xs.length → bigT (Xs.getD j []) = false) : decide ((0 : Int) ≤ -1) = Xs.any bigT := by
  rw [decide_eq_false (by omega), eq_comm, List.any_eq_false]
  intro X hX
  obtain ⟨j, hj, rfl⟩ := List.mem_iff_getElem.1 hX
  have := h j hj
  rw [List.getD_eq_getElem?_getD, List.getElem?_eq_getElem hj] at this
  simpa using this
theorem any_no {Xs : List (List UInt8)} (h : Xs.any bigT = false) (j : Nat) : (Xs.getD j []).length ≤ 40 := by
  rcases Nat.lt_or_ge j Xs.length with hj | hj
  · rw [List.any_eq_false] at h
    have := h (Xs.getD j []) (by rw [List.getD_eq_getElem?_getD, List.getElem?_eq_getElem hj]; exact List.getElem_mem hj)
    simp only [bigT, decide_eq_true_eq] at this
    omega
  · rw [List.getD_eq_getElem?_getD, List.getElem?_eq_none hj]; simp
/-- the first error of a list of texts -/
def ferr : List (List UInt8) → Int
  | [] => 0
  | X :: Xs => if ck2 X 40 = 0 then ferr Xs else ck2 X 40
theorem ferr_snoc : ∀ (Xs : List (List UInt8)) (X : List UInt8), ferr (Xs ++ [X]) = if ferr Xs = 0 then ck2 X 40 else ferr Xs
  | [], X => by
    simp only [List.nil_append, ferr, if_pos]
    split
    · next h => exact h.symm
    · rfl
  | Y :: Xs, X => by
    by_cases h : ck2 Y 40 = 0
    · simp only [List.cons_append, ferr, if_pos h]; exact ferr_snoc Xs X
    · simp only [List.cons_append, ferr, if_neg h]
theorem take_succ_getD {α : Type} {Xs : List α} {d : α} {k : Nat} (hk : k < Xs.length) : Xs.take (k + 1) = Xs.take k ++ [Xs.getD k d] := by
  rw [List.take_add_one, List.getD_eq_getElem?_getD, List.getElem?_eq_getElem hk]; rfl
theorem ferr_take {Xs : List (List UInt8)} {k : Nat} (hk : k < Xs.length) : ferr (Xs.take (k + 1)) = if ferr (Xs.take k) = 0 then ck2 (Xs.getD k []) 40 else ferr (Xs.take k) := by
  rw [take_succ_getD (d := []) hk, ferr_snoc]
theorem ferr_mid : ∀ {Xs : List (List UInt8)} {k : Nat}, k < Xs.length → (∀ j, j < k → ck2 (Xs.getD j []) 40 = 0) → ck2 (Xs.getD k []) 40 ≠ 0 → ferr Xs = ck2 (Xs.getD k []) 40
  | [], _, h, _, _ => by simp at h
  | X :: Xs, 0, _, _, h => by simp only [List.getD_cons_zero] at h ⊢; rw [ferr, if_neg h]
  | X :: Xs, k + 1, hk, hj, h => by
    have h0 := hj 0 (by omega)
    simp only [List.getD_cons_zero] at h0
    simp only [List.getD_cons_succ] at h ⊢
    rw [ferr, if_pos h0]
    exact ferr_mid (by simpa using hk) (fun j hj' => by have := hj (j + 1) (by omega); simpa using this) h
theorem ferr_none : ∀ {Xs : List (List UInt8)}, (∀ j, j < Xs.length → ck2 (Xs.getD j []) 40 = 0) → ferr Xs = 0
  | [], _ => rfl
  | X :: Xs, h => by
    have h0 := h 0 (by simp)
    simp only [List.getD_cons_zero] at h0
    rw [ferr, if_pos h0]
    exact ferr_none fun j hj => by have := h (j + 1) (by simpa using hj); simpa using this
open Classical in
/-- the rational of a text -/
noncomputable def valT (X : List UInt8) : Rat := if h : ∃ q, X = ratL q then h.choose else 0
theorem ratL_inj2 {a b : Rat} (h : ratL a = ratL b) : a = b := by
  have h1 := numL_ratL a
  have h2 := denL_ratL a
  rw [h, numL_ratL] at h1
  rw [h, denL_ratL] at h2
  have e1 := itoa_inj h1
  have e2 := itoa_inj h2
  exact Rat.ext e1.symm (by omega)
theorem valT_ratL {X : List UInt8} (h : ∃ q, X = ratL q) : X = ratL (valT X) := by
  unfold valT
  rw [dif_pos h]
  exact h.choose_spec
theorem valT_ck {X : List UInt8} (h : ck2 X 40 = 0) : X = ratL (valT X) := by
  obtain ⟨⟨q, e⟩, _⟩ := ck2_ratL h
  exact valT_ratL ⟨q, e⟩
/-- the first k elements done, the others as they were made -/
def filled {α β : Type} (f : α → β) (d : β) (Xs : List α) (k : Nat) : List β := (Xs.take k).map f ++ List.replicate (Xs.length - k) d
theorem filled_zero {α β : Type} (f : α → β) (d : β) (Xs : List α) : filled f d Xs 0 = List.replicate Xs.length d := by simp [filled]
theorem filled_len {α β : Type} (f : α → β) (d : β) (Xs : List α) {k : Nat} (hk : k ≤ Xs.length) : (filled f d Xs k).length = Xs.length := by simp [filled]; omega
theorem filled_all {α β : Type} (f : α → β) (d : β) (Xs : List α) : filled f d Xs Xs.length = Xs.map f := by simp [filled]
theorem filled_set {α β : Type} (f : α → β) (d : β) {Xs : List α} (dx : α) {k : Nat} (hk : k < Xs.length) {y : β} (hy : y = f (Xs.getD k dx)) : (filled f d Xs k).set k y = filled f d Xs (k + 1) := by
  unfold filled
  have h1 : ((Xs.take k).map f).length = k := by simp; omega
  have h2 : List.replicate (Xs.length - k) d = d :: List.replicate (Xs.length - (k + 1)) d := by
    rw [show Xs.length - k = (Xs.length - (k + 1)) + 1 by omega, List.replicate_succ]
  rw [List.set_append_right _ _ (by omega), h1, Nat.sub_self, h2, List.set_cons_zero, take_succ_getD (d := dx) hk, List.map_append, hy]
  simp
theorem map_valT {Xs : List (List UInt8)} (h : ferr Xs = 0) : (Xs.map valT).map ratL = Xs := by
  induction Xs with
  | nil => rfl
  | cons X Xs ih =>
    rw [ferr] at h
    split at h
    · next e => rw [List.map_cons, List.map_cons, ih h, ← valT_ck e]
    · next e => exact absurd h e
theorem pz_ok (X : List UInt8) (h : ck2 X 40 = 0) (w : World) (hm : Mx w) :
    Calls Tryz.prog 25 #[.string ⟨X.toArray⟩] w fun e w' => (∃ c0 c1 c2 c3, e = .returned (.tuple #[.agg #[c0, c1, c2, c3], .int .i64 0]) ∧ IsRat w' 160 c0 c1 c2 c3 (valT X)) ∧ Gr w w' := by
  have hl := (ck2_ratL h).2
  have e := valT_ck h
  have hs := ratL_sz (valT X) (m := 40) (by rw [← e]; omega)
  have := parse_q (k := 160) (valT X) hs (by omega) (by omega) (by rw [← e]; omega) w hm
  rw [← e] at this; exact this
theorem rz_ok (X : List UInt8) (h : ck2 X 40 = 0) (w : World) (hm : Mx w) :
    Calls Tryz.prog 26 #[.string ⟨X.toArray⟩] w fun e w' => (∃ c0 c1 c2 c3, e = .returned (.tuple #[.agg #[c0, c1, c2, c3], .int .i64 0]) ∧ IsRat w' 160 c0 c1 c2 c3 (valT X)) ∧ Gr w w' := by
  have hl := (ck2_ratL h).2
  have e := valT_ck h
  have hs := ratL_sz (valT X) (m := 40) (by rw [← e]; omega)
  have := readr_q (k := 160) (valT X) hs (by omega) (by omega) (by rw [← e]; omega) w hm
  rw [← e] at this; exact this
theorem pz_bad (X : List UInt8) (hl : X.length ≤ 40) (h : ck2 X 40 ≠ 0) (w : World) (hm : Mx w) :
    Calls Tryz.prog 25 #[.string ⟨X.toArray⟩] w fun e w' => e = .returned (.tuple #[.agg #[.bool false, .slice none 0 0, .bool false, .slice none 0 0], .int .i64 (ck2 X 40)]) ∧ Gr w w' := by
  have e := ck2_most (X := X) (m := 40) (n := 400) hl (by omega)
  rw [e] at h ⊢
  exact rparse_bad X (by omega) h w hm
theorem rz_bad (X : List UInt8) (hl : X.length ≤ 40) (h : ck2 X 40 ≠ 0) (w : World) (hm : Mx w) :
    Calls Tryz.prog 26 #[.string ⟨X.toArray⟩] w fun e w' => e = .returned (.tuple #[.agg #[.bool false, .slice none 0 0, .bool false, .slice none 0 0], .int .i64 (ck2 X 40)]) ∧ Gr w w' := by
  have e := ck2_most (X := X) (m := 40) (n := 65536) hl (by omega)
  rw [e] at h ⊢
  exact rread_bad X (by omega) h w hm
end Go.Proofs.YtloocadjbpgldaaGreatDoor
