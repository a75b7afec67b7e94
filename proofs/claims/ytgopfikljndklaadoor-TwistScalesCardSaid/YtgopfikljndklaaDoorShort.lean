/- The walk's steps in few words: what is settled by computing is filled in by itself. -/
import Derived.Test.YtgopfikljndklaaDoorLoop
namespace Go.Proofs.YtgopfikljndklaaDoor
open Go.RowKit

section
variable {P : Program} {a : Act} {o : Oper} {w : World} {Q : Exit → Act → World → Prop} {K : Act → World → Prop} {ops : Array Oper} {l : List Value} {ds : List Deferred} {w0 : World}

theorem rg {id : Nat} (r : List Nat) (h : wpOps P ops Q r a w) (hr : List.range ops.size = r := by rfl) : (Code.region id ops false).wp P Q a w :=
  wp_region (by rw [hr]; exact h)
theorem sv {i : Nat} {rest : List Nat} (d : Nat) (v : Value) (h : wpOps P ops Q rest ⟨(l.set d v).toArray, ds⟩ w) (ho : ops[i]? = some o := by rfl) (hd : o.dst = some d := by rfl) (hw : Region.wanted o (yielded ops (⟨l.toArray, ds⟩ : Act).tmps) = true := by kernel_rfl)
    (hv : (execOp (⟨l.toArray, ds⟩ : Act).eval o).run P w = .ok (.value v) w := by kernel_rfl) : wpOps P ops Q (i :: rest) ⟨l.toArray, ds⟩ w :=
  sq_val _ v ho hd hw hv (by rw [p1]; show wpOps P ops Q rest ⟨l.toArray.setIfInBounds d v, ds⟩ w; rw [p2]; exact h)
theorem sw {i : Nat} {rest : List Nat} (d : Nat) (v : Value) (ho : ops[i]? = some o) (hv : RunV P ⟨l.toArray, ds⟩ o w v) (h : wpOps P ops Q rest ⟨(l.set d v).toArray, ds⟩ w) (hd : o.dst = some d := by rfl) (hw : Region.wanted o (yielded ops (⟨l.toArray, ds⟩ : Act).tmps) = true := by kernel_rfl) :
    wpOps P ops Q (i :: rest) ⟨l.toArray, ds⟩ w := sv d v h ho hd hw hv
theorem ss {i : Nat} {rest : List Nat} (d : Nat) (h : wpOps P ops Q rest ⟨(l.set d undef).toArray, ds⟩ w) (ho : ops[i]? = some o := by rfl) (hd : o.dst = some d := by rfl) (hw : Region.wanted o (yielded ops (⟨l.toArray, ds⟩ : Act).tmps) = false := by kernel_rfl) :
    wpOps P ops Q (i :: rest) ⟨l.toArray, ds⟩ w :=
  sq_skip _ ho hd hw (by rw [p1]; show wpOps P ops Q rest ⟨l.toArray.setIfInBounds d undef, ds⟩ w; rw [p2]; exact h)
theorem se {i : Nat} {rest : List Nat} (h : o.wp P a w (fun a w => wpOps P ops Q rest a w) Q) (ho : ops[i]? = some o := by rfl) (hw : Region.wanted o (yielded ops a.tmps) = true := by kernel_rfl) : wpOps P ops Q (i :: rest) a w := by
  rw [wpOps_cons]
  unfold wpOp
  simp only [ho, hw, if_true]
  exact .inl h

/-! ### regions that draw their order -/
variable {S : World → Prop} {S0 : World → Prop} {HS : List (List Nat × (World → Prop))} {listed : Array Bool} {fin : Act → World → Prop} {i : Nat} {rest : List (Bool × Nat)}
theorem putl (d : Nat) (v : Value) : (⟨l.toArray, ds⟩ : Act).put (some d) v = ⟨(l.set d v).toArray, ds⟩ := by
  rw [p1]; show (⟨l.toArray.setIfInBounds d v, ds⟩ : Act) = _; rw [p2]
theorem ov (d : Nat) (v : Value) (h : wpOrd P ops Q S rest ⟨(l.set d v).toArray, ds⟩ w) (ho : ops[i]? = some o := by rfl) (hd : o.dst = some d := by rfl) (hg : Region.wanted o (yielded ops (⟨l.toArray, ds⟩ : Act).tmps) = true := by kernel_rfl)
    (hv : ∀ w, S w → (execOp (⟨l.toArray, ds⟩ : Act).eval o).run P w = .ok (.value v) w := by intro _ _; kernel_rfl) : wpOrd P ops Q S ((true, i) :: rest) ⟨l.toArray, ds⟩ w :=
  ord_pureg _ v ho hd hg hv (by rw [putl]; exact h)
theorem ow (d : Nat) (v : Value) (ho : ops[i]? = some o) (hv : ∀ w, S w → RunV P ⟨l.toArray, ds⟩ o w v) (h : wpOrd P ops Q S rest ⟨(l.set d v).toArray, ds⟩ w) (hd : o.dst = some d := by rfl) (hg : Region.wanted o (yielded ops (⟨l.toArray, ds⟩ : Act).tmps) = true := by kernel_rfl) :
    wpOrd P ops Q S ((true, i) :: rest) ⟨l.toArray, ds⟩ w := ov d v h ho hd hg hv
theorem os (d : Nat) (h : wpOrd P ops Q S rest ⟨(l.set d undef).toArray, ds⟩ w) (ho : ops[i]? = some o := by rfl) (hd : o.dst = some d := by rfl) (hg : Region.wanted o (yielded ops (⟨l.toArray, ds⟩ : Act).tmps) = false := by kernel_rfl) :
    wpOrd P ops Q S ((true, i) :: rest) ⟨l.toArray, ds⟩ w := ord_skip _ ho hd hg (by rw [putl]; exact h)
theorem oz (d : Nat) (hS : S w) (h : wpOrd P ops Q S rest ⟨(l.set d undef).toArray, ds⟩ w) (ho : ops[i]? = some o := by rfl) (hd : o.dst = some d := by rfl) (hg : Region.wanted o (yielded ops (⟨l.toArray, ds⟩ : Act).tmps) = false := by kernel_rfl) :
    wpOrd P ops Q S ((false, i) :: rest) ⟨l.toArray, ds⟩ w := ord_effskip _ ho hd hg hS (by rw [putl]; exact h)
theorem oe (h : o.wp P a w (fun a w => S w ∧ wpOrd P ops Q S rest a w) Q) (ho : ops[i]? = some o := by rfl) (hg : Region.wanted o (yielded ops a.tmps) = true := by kernel_rfl) : wpOrd P ops Q S ((false, i) :: rest) a w := by
  unfold wpOrd wpOp
  simp only [ho]
  rw [if_pos hg]
  exact .inl h
theorem tv (d : Nat) (v : Value) (h : wpOrt P ops Q S0 HS rest (listed.setIfInBounds i true) ⟨(l.set d v).toArray, ds⟩ w) (ho : ops[i]? = some o := by rfl) (hd : o.dst = some d := by rfl) (hg : Region.wanted o (yielded ops (⟨l.toArray, ds⟩ : Act).tmps) = true := by kernel_rfl)
    (hv : ∀ w, S0 w ∧ heldAll (allWait ops i) HS w → (execOp (⟨l.toArray, ds⟩ : Act).eval o).run P w = .ok (.value v) w := by intro _ _; kernel_rfl) : wpOrt P ops Q S0 HS ((true, i) :: rest) listed ⟨l.toArray, ds⟩ w :=
  ort_pure _ v ho hd hg hv (by rw [putl]; exact h)
theorem tw (d : Nat) (v : Value) (ho : ops[i]? = some o) (hv : ∀ w, S0 w ∧ heldAll (allWait ops i) HS w → RunV P ⟨l.toArray, ds⟩ o w v) (h : wpOrt P ops Q S0 HS rest (listed.setIfInBounds i true) ⟨(l.set d v).toArray, ds⟩ w) (hd : o.dst = some d := by rfl)
    (hg : Region.wanted o (yielded ops (⟨l.toArray, ds⟩ : Act).tmps) = true := by kernel_rfl) : wpOrt P ops Q S0 HS ((true, i) :: rest) listed ⟨l.toArray, ds⟩ w := tv d v h ho hd hg hv
theorem ts (d : Nat) (h : wpOrt P ops Q S0 HS rest (listed.setIfInBounds i true) ⟨(l.set d undef).toArray, ds⟩ w) (ho : ops[i]? = some o := by rfl) (hd : o.dst = some d := by rfl) (hg : Region.wanted o (yielded ops (⟨l.toArray, ds⟩ : Act).tmps) = false := by kernel_rfl) :
    wpOrt P ops Q S0 HS ((true, i) :: rest) listed ⟨l.toArray, ds⟩ w := ort_skip _ ho hd hg (by rw [putl]; exact h)
theorem te (h : o.wp P a w (fun a w => S0 w ∧ heldAll (fresh (listed.setIfInBounds i true)) HS w ∧ wpOrt P ops Q S0 HS rest (listed.setIfInBounds i true) a w) Q) (ho : ops[i]? = some o := by rfl) (hg : Region.wanted o (yielded ops a.tmps) = true := by kernel_rfl) :
    wpOrt P ops Q S0 HS ((false, i) :: rest) listed a w :=
  ort_eff ho hg (fun K hK => Oper.wp_mono (fun a w h => hK a w h.1 h.2.1 h.2.2) h)
theorem fv (d : Nat) (v : Value) (h : wpFlo P ops Q S fin rest ⟨(l.set d v).toArray, ds⟩ w) (ho : ops[i]? = some o := by rfl) (hd : o.dst = some d := by rfl) (hg : o.guard = none := by rfl)
    (hv : ∀ w, S w → (execOp (⟨l.toArray, ds⟩ : Act).eval o).run P w = .ok (.value v) w := by intro _ _; kernel_rfl) : wpFlo P ops Q S fin ((true, i) :: rest) ⟨l.toArray, ds⟩ w :=
  flo_pure _ v ho hd hg hv (by rw [putl]; exact h)
theorem fw (d : Nat) (v : Value) (ho : ops[i]? = some o) (hv : ∀ w, S w → RunV P ⟨l.toArray, ds⟩ o w v) (h : wpFlo P ops Q S fin rest ⟨(l.set d v).toArray, ds⟩ w) (hd : o.dst = some d := by rfl) (hg : o.guard = none := by rfl) :
    wpFlo P ops Q S fin ((true, i) :: rest) ⟨l.toArray, ds⟩ w := fv d v h ho hd hg hv

/-! ### effects -/
theorem ec {f : FuncId} {args : Array Value} {R : Ending → World → Prop} (d : Nat) (hc : Calls P f args w R) (h : ∀ e w', R e w' → ∃ v, e = .returned v ∧ K ⟨(l.set d v).toArray, ds⟩ w')
    (hd : o.dst = some d := by rfl) (hrun : (execOp (⟨l.toArray, ds⟩ : Act).eval o).run P w = .ok (.enter f args) w := by kernel_rfl) : o.wp P ⟨l.toArray, ds⟩ w K Q :=
  eff_call _ hd hrun hc (fun e w' he => by obtain ⟨v, hv, hk⟩ := h e w' he; exact ⟨v, hv, by rw [putl]; exact hk⟩)
theorem eb {x : Operand} (t : TypeId) (cs : Array Value) (d : Nat) (hB : Gr w0 w) (h : ∀ b w', Gr w w' → Lc w' b cs t → w.heap.size ≤ b → w0.heap.size ≤ b → Gr w0 w' → K ⟨(l.set d (.pointer (some ⟨b, 0, none⟩))).toArray, ds⟩ w')
    (hd : o.dst = some d := by rfl) (hop : o.op = .box t x := by rfl) (hx : (⟨l.toArray, ds⟩ : Act).eval x = .agg cs := by rfl) : o.wp P ⟨l.toArray, ds⟩ w K Q :=
  eff_box t x _ cs _ hd hop hx rfl (fun b w' g L q => by rw [putl]; exact h b w' g L q (Nat.le_trans (Below.size hB) q) (hB.trans g))
theorem ea (t : TypeId) (cs : Array Value) (d : Nat) (hB : Gr w0 w) (h : ∀ b w', Gr w w' → Lc w' b cs t → w.heap.size ≤ b → w0.heap.size ≤ b → Gr w0 w' → K ⟨(l.set d (.pointer (some ⟨b, 0, none⟩))).toArray, ds⟩ w')
    (hd : o.dst = some d := by rfl) (hop : o.op = .alloc t := by rfl) (hz : (P.info? t).map (·.zero) = some (some (.agg cs)) := by kernel_rfl) : o.wp P ⟨l.toArray, ds⟩ w K Q :=
  eff_alloc t _ cs _ hd hop hz rfl (fun b w' g L q => by rw [putl]; exact h b w' g L q (Nat.le_trans (Below.size hB) q) (hB.trans g))
theorem es {x y : Operand} {tt b : Nat} {cs : Array Value} (t : TypeId) (off : Nat) (v : Value) (vs : List Value) (cs' : Array Value) (hL : Lc w b cs tt) (hB : Gr w0 w) (q : w0.heap.size ≤ b) (h1 : One1 vs)
    (h : ∀ w', St w w' b → Kp w w' → Lc w' b cs' tt → Gr w0 w' → K ⟨l.toArray, ds⟩ w')
    (hop : o.op = .store t x y := by rfl) (hd : o.dst = none := by rfl) (hx : (⟨l.toArray, ds⟩ : Act).eval x = .pointer (some ⟨b, off, none⟩) := by rfl) (hy : (⟨l.toArray, ds⟩ : Act).eval y = v := by rfl) (hv : v.cells = vs.toArray := by rfl)
    (hs : (P.info? t).map (·.size) = some vs.length := by kernel_rfl) (hoff : off + vs.length ≤ cs.size := by exact Nat.le_of_ble_eq_true rfl) (hcs : writeAt cs off vs = cs' := by kernel_rfl) (ht : tt ≠ 103 := by decide) : o.wp P ⟨l.toArray, ds⟩ w K Q :=
  eff_store t x y b off v vs cs cs' tt hop hd hx hy hv hL hs hoff h1 hcs (fun w' st N => h w' st (st.kp hL ht) N (st.gr hB q))
theorem rl {x : Operand} {cs : Array Value} {tt : TypeId} {b : Nat} (t : TypeId) (off : Nat) (vs : List Value) (hL : Lc w b cs tt) (hop : o.op = .load t x := by rfl) (hx : a.eval x = .pointer (some ⟨b, off, none⟩) := by rfl)
    (hv : (cs.toList.drop off).take vs.length = vs := by rfl) (hs : aggSize P t = some vs.length := by kernel_rfl) : RunV P a o w (.agg vs.toArray) := rv_load t x b off cs tt vs hop hx hL hv hs
theorem rk {x : Operand} {cs : Array Value} {tt : TypeId} {b : Nat} {v : Value} (t : TypeId) (off : Nat) (hL : Lc w b cs tt) (hop : o.op = .load t x := by rfl) (hx : a.eval x = .pointer (some ⟨b, off, none⟩) := by rfl)
    (hv : cs[off]? = some v := by rfl) (hs : oneSize P t = true := by kernel_rfl) : RunV P a o w v := rv_load1 t x b off cs tt v hop hx hL hv hs
end
end Go.Proofs.YtgopfikljndklaaDoor
