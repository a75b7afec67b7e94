/- The walk's steps, each with its value written out: for walks that a program prints. -/
import Derived.Test.YtgopfikljndklaaDoorOrt
import Derived.Deep.MidRow
namespace Go.Proofs.YtgopfikljndklaaDoor
open Go.RowKit

section
variable {P : Program} {a : Act} {o : Oper} {w : World} {Q : Exit → Act → World → Prop} {K : Act → World → Prop} {ops : Array Oper}

/-- an operation leaves v and nothing else -/
def RunV (P : Program) (a : Act) (o : Oper) (w : World) (v : Value) : Prop := (execOp a.eval o).run P w = .ok (.value v) w
theorem rvk {v : Value} (h : (execOp a.eval o).run P w = .ok (.value v) w) : RunV P a o w v := h
theorem RunV.int {k : IntKind} {x y : Int} (h : RunV P a o w (.int k x)) (e : x = y) : RunV P a o w (.int k y) := e ▸ h
theorem RunV.bool {x y : Bool} (h : RunV P a o w (.bool x)) (e : x = y) : RunV P a o w (.bool y) := e ▸ h

/-- a variable of the call's own: the whole block -/
def Lc (w : World) (b : Nat) (cs : Array Value) (t : TypeId) : Prop := w.heap[b]? = some (.cells cs t)
theorem Lc.gr {w w' : World} {b : Nat} {cs : Array Value} {t : TypeId} (h : Lc w b cs t) (g : Gr w w') : Lc w' b cs t := g.heap h
theorem Lc.lt {w : World} {b : Nat} {cs : Array Value} {t : TypeId} (h : Lc w b cs t) : b < w.heap.size := heap_lt h
theorem Lc.ne {w : World} {b c : Nat} {cs : Array Value} {t : TypeId} (h : Lc w b cs t) (hc : w.heap.size ≤ c) : b ≠ c := fun e => by have := h.lt; omega

/-- is it a row of k cells? -/
def aggSize (P : Program) (t : TypeId) : Option Nat :=
  match P.underlying t with
  | some (.struct _) | some (.array _ _) => (P.info? t).map (·.size)
  | _ => none
def oneSize (P : Program) (t : TypeId) : Bool :=
  match P.underlying t with
  | some (.struct _) | some (.array _ _) => false
  | some _ => (P.info? t).map (·.size) == some 1
  | none => false

theorem rangeAt_of {cs : Array Value} {t : TypeId} {b : Nat} (h : Lc w b cs t) (off : Nat) (vs : List Value) (hv : (cs.toList.drop off).take vs.length = vs) : w.rangeAt b off vs := by
  intro j v hj
  have hj' : j < vs.length := (List.getElem?_eq_some_iff.1 hj).1
  rw [cells_of h, ← hj]
  have h1 : ((cs.toList.drop off).take vs.length)[j]? = vs[j]? := by rw [hv]
  rw [List.getElem?_take_of_lt hj', List.getElem?_drop] at h1
  rw [← h1]; simp

theorem rv_load (t : TypeId) (x : Operand) (b off : Nat) (cs : Array Value) (tt : TypeId) (vs : List Value) (hop : o.op = .load t x) (hx : a.eval x = .pointer (some ⟨b, off, none⟩))
    (hL : Lc w b cs tt) (hv : (cs.toList.drop off).take vs.length = vs) (hs : aggSize P t = some vs.length) : RunV P a o w (.agg vs.toArray) := by
  unfold aggSize at hs
  have hr := rangeAt_of hL off vs hv
  unfold RunV
  cases hd : P.underlying t with
  | none => rw [hd] at hs; cases hs
  | some d =>
    rw [hd] at hs
    have hrow : d.isRow = true ∧ (P.info? t).map (·.size) = some vs.length := by
      cases d <;> first | cases hs | exact ⟨rfl, hs⟩
    unfold execOp
    simp only [hop, hx, Instr.loadAt, Instr.sureAddr, Sem.run_bind, Sem.run_pure, Result.andThen_ok, run_loadVar_mid w b off t vs d hr hd hrow.1 hrow.2]
theorem rv_load1 (t : TypeId) (x : Operand) (b off : Nat) (cs : Array Value) (tt : TypeId) (v : Value) (hop : o.op = .load t x) (hx : a.eval x = .pointer (some ⟨b, off, none⟩))
    (hL : Lc w b cs tt) (hv : cs[off]? = some v) (hs : oneSize P t = true) : RunV P a o w v := by
  unfold oneSize at hs
  have hc : w.cell? ⟨b, off, none⟩ = some v := by rw [cells_of hL]; exact hv
  unfold RunV
  cases hd : P.underlying t with
  | none => rw [hd] at hs; cases hs
  | some d =>
    rw [hd] at hs
    have hagg : (isAgg t).run P w = .ok false w := by
      unfold isAgg
      rw [Sem.run_bind, run_underlying hd w]
      cases d <;> first | cases hs | rfl
    unfold execOp
    simp only [hop, hx, Instr.loadAt, Instr.sureAddr, Sem.run_bind, Sem.run_pure, Result.andThen_ok, loadVar, hagg]
    simp [load, Sem.run, hc]

/-! ### plain regions -/
theorem sq_nil (h : Q .normal a w) : wpOps P ops Q [] a w := h
theorem sq_val {i : Nat} {rest : List Nat} (d : Option Tmp) (v : Value) (ho : ops[i]? = some o) (hd : o.dst = d) (hw : Region.wanted o (yielded ops a.tmps) = true) (hv : RunV P a o w v)
    (h : wpOps P ops Q rest (a.put d v) w) : wpOps P ops Q (i :: rest) a w := by
  rw [wpOps_cons]
  subst hd
  unfold wpOp
  simp only [ho, hw, if_true]
  refine .inl ?_
  unfold Oper.wp
  rw [hv]
  exact h
theorem sq_skip {i : Nat} {rest : List Nat} (d : Option Tmp) (ho : ops[i]? = some o) (hd : o.dst = d) (hw : Region.wanted o (yielded ops a.tmps) = false)
    (h : wpOps P ops Q rest (a.put d undef) w) : wpOps P ops Q (i :: rest) a w := by
  rw [wpOps_cons]
  subst hd
  unfold wpOp
  simp only [ho, hw]
  exact h
theorem sq_eff {i : Nat} {rest : List Nat} (ho : ops[i]? = some o) (hw : Region.wanted o (yielded ops a.tmps) = true)
    (h : ∀ K : Act → World → Prop, (∀ a w, wpOps P ops Q rest a w → K a w) → o.wp P a w K Q) : wpOps P ops Q (i :: rest) a w := by
  rw [wpOps_cons]
  unfold wpOp
  simp only [ho, hw, if_true]
  exact .inl (h _ (fun _ _ h => h))

/-! ### what an operation does to the world -/
theorem eff_call {f : FuncId} {args : Array Value} {R : Ending → World → Prop} (d : Option Tmp) (hd : o.dst = d) (hrun : (execOp a.eval o).run P w = .ok (.enter f args) w) (hc : Calls P f args w R)
    (h : ∀ e w', R e w' → ∃ v, e = .returned v ∧ K (a.put d v) w') : o.wp P a w K Q := by
  subst hd
  unfold Oper.wp
  rw [hrun]
  simp only [Oper.upon]
  refine hc.mono fun e w' he => ?_
  obtain ⟨v, rfl, hk⟩ := h e w' he
  exact hk
theorem run_newRow (w : World) (t : TypeId) (cs : Array Value) : (newRow t cs).run P w = .ok ⟨w.heap.size, 0, none⟩ (w.alloc (.cells cs t)) := by
  simp [newRow]
theorem eff_box (t : TypeId) (x : Operand) (v : Value) (cs : Array Value) (d : Option Tmp) (hd : o.dst = d) (hop : o.op = .box t x) (hx : a.eval x = v) (hv : v.cells = cs)
    (h : ∀ b w', Gr w w' → Lc w' b cs t → w.heap.size ≤ b → K (a.put d (.pointer (some ⟨b, 0, none⟩))) w') : o.wp P a w K Q := by
  subst hd hx hv
  unfold Oper.wp execOp
  simp only [hop, Instr.box, newVar, Sem.run_bind, run_newRow, Result.andThen_ok, Sem.run_pure]
  exact h _ _ (Gr.alloc w _) (heap_alloc_new w _) (Nat.le_refl _)
theorem eff_alloc (t : TypeId) (z : Value) (cs : Array Value) (d : Option Tmp) (hd : o.dst = d) (hop : o.op = .alloc t) (hz : (P.info? t).map (·.zero) = some (some z)) (hv : z.cells = cs)
    (h : ∀ b w', Gr w w' → Lc w' b cs t → w.heap.size ≤ b → K (a.put d (.pointer (some ⟨b, 0, none⟩))) w') : o.wp P a w K Q := by
  subst hd hv
  obtain ⟨i, hi, hzz⟩ := Option.map_eq_some_iff.1 hz
  unfold Oper.wp execOp
  simp only [hop, Instr.alloc, zeroValue, typeInfo, newVar, Sem.run_bind, run_newRow, Result.andThen_ok, Sem.run_pure, run_program, hi, hzz]
  exact h _ _ (Gr.alloc w _) (heap_alloc_new w _) (Nat.le_refl _)

theorem eff_make (t e : TypeId) (z : Value) (L C sz : Nat) (cs : Array Value) (d : Option Tmp) {x y : Operand} (hd : o.dst = d) (hop : o.op = .makeSlice t x y) (hx : a.eval x = .int .i64 L) (hy : a.eval y = .int .i64 C) (hu : P.underlying t = some (.slice e))
    (hi : (P.info? e).map (fun i => (i.zero, i.size, decide (i.bytes * C ≤ 281474976710656))) = some (some z, sz, true)) (hL : decide (L ≤ C ∧ C ≤ 9223372036854775807) = true) (hcs : madeCells z.cells (C * sz) = cs)
    (h : ∀ b w', Gr w w' → Lc w' b cs e → w.heap.size ≤ b → K (a.put d (.slice (some ⟨b, 0, none⟩) L C)) w') : o.wp P a w K Q := by
  subst hd hcs
  obtain ⟨i, hi, hzz⟩ := Option.map_eq_some_iff.1 hi
  simp only [Prod.mk.injEq, decide_eq_true_eq] at hzz hL
  have hrun := run_make (P := P) w t e i z hu hi hzz.1 .i64 .i64 (L : Int) (C : Int) (by omega) (by omega) (by have h3 := hzz.2.2; rw [← Int.natCast_mul]; generalize i.bytes * C = q at *; omega) (by omega)
  rw [hzz.2.1] at hrun
  unfold Oper.wp execOp
  simp only [hop, hx, hy, Sem.run_bind, hrun, Result.andThen_ok, Sem.run_pure, Int.toNat_natCast]
  exact h _ _ (Gr.alloc w _) (heap_alloc_new w _) (Nat.le_refl _)

/-- w' is w but for block b -/
structure St (w w' : World) (b : Nat) : Prop where
  os : w'.os = w.os
  tape : w'.tape = w.tape
  output : w'.output = w.output
  size : w'.heap.size = w.heap.size
  block : ∀ k, k ≠ b → w'.heap[k]? = w.heap[k]?
theorem St.refl (w : World) (b : Nat) : St w w b := ⟨rfl, rfl, rfl, rfl, fun _ _ => rfl⟩
theorem St.trans {w1 w2 w3 : World} {b : Nat} (h : St w1 w2 b) (k : St w2 w3 b) : St w1 w3 b :=
  ⟨k.os.trans h.os, k.tape.trans h.tape, k.output.trans h.output, k.size.trans h.size, fun i hi => (k.block i hi).trans (h.block i hi)⟩
theorem St.setCell (w : World) (b i : Nat) (v : Value) : St w (w.setCell ⟨b, i, none⟩ v) b :=
  ⟨rfl, rfl, rfl, by simp, fun k hk => Below.heap_setCell _ _ _ _ hk⟩
theorem St.setCells (b : Nat) : ∀ (vs : List Value) (off : Nat) (w : World), St w (w.setCells b off vs) b
  | [], _, w => St.refl w b
  | v :: vs, off, w => (St.setCell w b off v).trans (St.setCells b vs (off + 1) _)
/-- a store into a block that is newer than w0 -/
theorem St.gr {w0 w w' : World} {b : Nat} (h : St w w' b) (g : Gr w0 w) (hb : w0.heap.size ≤ b) : Gr w0 w' :=
  Below.trans g ⟨h.os, h.tape, h.output, Nat.le_of_eq h.size.symm, fun k hk => h.block k (by omega)⟩
theorem St.below {B : Nat} {w0 w w' : World} {b : Nat} (h : St w w' b) (g : Below B w0 w) (hb : B ≤ b) : Below B w0 w' :=
  Below.trans g ⟨h.os, h.tape, h.output, Nat.le_of_eq h.size.symm, fun k hk => h.block k (by omega)⟩
theorem St.lc {w w' : World} {b c : Nat} {cs : Array Value} {t : TypeId} (h : St w w' b) (hL : Lc w c cs t) (hne : c ≠ b) : Lc w' c cs t := (h.block c hne).trans hL
theorem St.kp {w w' : World} {b : Nat} {cs : Array Value} {t : TypeId} (h : St w w' b) (hL : Lc w b cs t) (ht : t ≠ 103) : Kp w w' := fun c ds fr hc => by
  by_cases e : c = b
  · subst e
    unfold Lc at hL
    rw [hc] at hL
    simp only [Option.some.injEq, Obj.cells.injEq] at hL
    exact absurd hL.2.1.symm ht
  · exact (h.block c e).trans hc

/-- each is one cell -/
def One1 : List Value → Prop
  | [] => True
  | v :: vs => v.oneCell' = true ∧ One1 vs
theorem One1.all : ∀ {vs : List Value}, One1 vs → ∀ v ∈ vs, v.oneCell' = true
  | [], _, _, h => by cases h
  | u :: vs, h, v, hv => by
    rcases List.mem_cons.1 hv with rfl | hv
    · exact h.1
    · exact One1.all h.2 v hv
def writeAt (cs : Array Value) : Nat → List Value → Array Value
  | _, [] => cs
  | off, v :: vs => writeAt (cs.setIfInBounds off v) (off + 1) vs
theorem heap_setCells {b : Nat} {t : TypeId} {fr : Nat × Nat} : ∀ (vs : List Value) (off : Nat) {w : World} {cs : Array Value}, w.heap[b]? = some (.cells cs t fr) → (w.setCells b off vs).heap[b]? = some (.cells (writeAt cs off vs) t fr)
  | [], _, _, _, h => h
  | v :: vs, off, _, _, h => heap_setCells vs (off + 1) (heap_setCell_at v h)

theorem eff_store (t : TypeId) (x y : Operand) (b off : Nat) (v : Value) (vs : List Value) (cs cs' : Array Value) (tt : TypeId) (hop : o.op = .store t x y) (hd : o.dst = none) (hx : a.eval x = .pointer (some ⟨b, off, none⟩)) (hy : a.eval y = v) (hv : v.cells = vs.toArray)
    (hL : Lc w b cs tt) (hs : (P.info? t).map (·.size) = some vs.length) (hoff : off + vs.length ≤ cs.size) (h1 : One1 vs) (hcs : writeAt cs off vs = cs')
    (h : ∀ w', St w w' b → Lc w' b cs' tt → K a w') : o.wp P a w K Q := by
  subst hcs
  obtain ⟨i, hi, hsz⟩ := Option.map_eq_some_iff.1 hs
  have hrun : (storeVar t ⟨b, off, none⟩ v).run P w = .ok () (w.setCells b off vs) := by
    have := run_storeCells_cells (P := P) b off vs 0 w (fun j hj => by rw [Nat.add_zero, cells_of hL]; simp; omega) (fun j hj => free_of hL _) h1.all
    simp only [Nat.add_zero] at this
    simp [storeVar, sizeOf, typeInfo, hi, hv, hsz, this]
  unfold Oper.wp execOp
  simp only [hop, hx, hy, Instr.storeAt, Instr.sureAddr, Sem.run_bind, Sem.run_pure, Result.andThen_ok, hrun, Oper.upon, hd, Act.put]
  exact h _ (St.setCells b vs off w) (heap_setCells vs off hL)

/-! ### results -/
theorem run_load_lc {t : TypeId} {b : Nat} {cs : Array Value} {tt : TypeId} (hL : Lc w b cs tt) (hs : aggSize P t = some cs.size) : (loadVar t ⟨b, 0, none⟩).run P w = .ok (.agg cs) w := by
  unfold aggSize at hs
  have hr := rangeAt_of hL 0 cs.toList (by rw [List.drop_zero, List.take_length])
  cases hd : P.underlying t with
  | none => rw [hd] at hs; cases hs
  | some d =>
    rw [hd] at hs
    have hrow : d.isRow = true ∧ (P.info? t).map (·.size) = some cs.toList.length := by
      rw [Array.length_toList]
      cases d <;> first | cases hs | exact ⟨rfl, hs⟩
    have := run_loadVar_mid w b 0 t cs.toList d hr hd hrow.1 hrow.2
    simpa using this
theorem ret_cell {fn : Func} {tmps : Array Value} {p : Tmp} {t : TypeId} (b : Nat) (cs : Array Value) (tt : TypeId) (h : fn.results = #[.cell p t]) (hp : tmps.getD p undef = .pointer (some ⟨b, 0, none⟩)) (hL : Lc w b cs tt) (hs : aggSize P t = some cs.size) :
    (results fn tmps).run P w = .ok (.agg cs) w := by
  have := run_load_lc hL hs
  simp only [Array.getD_eq_getD_getElem?] at hp ⊢
  simp [results, h, asAddr, hp, this]
theorem ret_cell_tmp {fn : Func} {tmps : Array Value} {p u : Tmp} {t : TypeId} (b : Nat) (cs : Array Value) (tt : TypeId) (h : fn.results = #[.cell p t, .tmp u]) (hp : tmps.getD p undef = .pointer (some ⟨b, 0, none⟩)) (hL : Lc w b cs tt) (hs : aggSize P t = some cs.size) :
    (results fn tmps).run P w = .ok (.tuple #[.agg cs, tmps.getD u undef]) w := by
  have := run_load_lc hL hs
  simp only [Array.getD_eq_getD_getElem?] at hp ⊢
  simp [results, h, asAddr, hp, this]
theorem ret_cell2_tmp {fn : Func} {tmps : Array Value} {p q u : Tmp} {t t2 : TypeId} (b c : Nat) (cs ds : Array Value) (tt tt2 : TypeId) (h : fn.results = #[.cell p t, .cell q t2, .tmp u]) (hp : tmps.getD p undef = .pointer (some ⟨b, 0, none⟩)) (hq : tmps.getD q undef = .pointer (some ⟨c, 0, none⟩))
    (hL : Lc w b cs tt) (hs : aggSize P t = some cs.size) (hL2 : Lc w c ds tt2) (hs2 : aggSize P t2 = some ds.size) :
    (results fn tmps).run P w = .ok (.tuple #[.agg cs, .agg ds, tmps.getD u undef]) w := by
  have h1 := run_load_lc hL hs
  have h2 := run_load_lc hL2 hs2
  simp only [Array.getD_eq_getD_getElem?] at hp hq ⊢
  simp [results, h, asAddr, hp, hq, h1, h2]
end
end Go.Proofs.YtgopfikljndklaaDoor
