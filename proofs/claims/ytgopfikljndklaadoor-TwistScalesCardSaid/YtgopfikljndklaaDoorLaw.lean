/- From a walk to a row: a law whose arguments hold integers. -/
import Derived.Test.YtgopfikljndklaaDoorStr
import Derived.ProofKit
import Derived.Below
import Derived.Deep.DeepHandedRow
import Derived.Lib.LaidTab
import Derived.Stop.LaidErr
import Derived.LaidSub
namespace Go.Proofs.YtgopfikljndklaaDoor
open Go.ChangeShapes Go.WideShapes Go.ChangeAt Go.RowKit

theorem trodAll_kept {H : Type} {enc : TypeId × Value → H} {P : Program} (hl : laidOutB P = true) {W W' : World} (hb : Below W.heap.size W W') :
    ∀ {ts : List TypeId} {vs : List Value} {ds : List (DataW H)} {ps : List MemPlace}, (∀ t ∈ ts, P.readableRec t = true ∧ t < P.types.size) → DataW.TrodAll enc P W 0 (fun _ => true) true ts vs ds ps →
      (∀ x ∈ ps, x.block < W.heap.size) → DataW.TrodAll enc P W' 0 (fun b => decide (b < W.heap.size)) true ts vs ds ps
  | [], [], [], _, _, h, _ => h
  | t :: ts, v :: vs, d :: ds, ps, ht, h, hp => by
    obtain ⟨p, q, h1, h2, rfl⟩ := h
    exact ⟨p, q, Below.trod hl (ht t (by simp)).1 (ht t (by simp)).2 h1 hb (fun x hx => hp x (by simp [hx])), trodAll_kept hl hb (fun u hu => ht u (by simp [hu])) h2 (fun x hx => hp x (by simp [hx])), rfl⟩
  | [], [], _ :: _, _, _, h, _ => by cases h
  | [], _ :: _, _, _, _, h, _ => by cases h
  | _ :: _, [], _, _, _, h, _ => by cases h
  | _ :: _, _ :: _, [], _, _, h, _ => by cases h

/-- the row's last step: the law has returned true, and nothing of what was there has turned -/
theorem law_post {H : Type} {enc : TypeId × Value → H} {P : Program} {f : Func} {s : ChangeSpec} {W W' : World} {args : Array Value} {ds gs : List (DataW H)} {before : List MemPlace} {tb : TypeId}
    (hl : laidOutB P = true) (hr0 : (f.params.toList.all fun t => P.readableRec t && decide (t < P.types.size)) = true) (hres : f.resultTypes = #[tb]) (htb : P.underlying tb = some .bool) (hv : s.vars = [])
    (hW : DataW.Whole enc P f.params.toList s.vars false W args.toList ds gs before) (hfn : s.fn H (ds ++ gs) = { results := [.lit (.bool true)], args := ds }) (hb : Below W.heap.size W W') :
    s.post enc P f false true false false W args (.bool true) W' := by
  have hr : ∀ t ∈ f.params.toList, P.readableRec t = true ∧ t < P.types.size := fun t ht => by
    have := List.all_eq_true.1 hr0 t ht
    simpa using this
  have hlt : ∀ p ∈ before, p.block < W.heap.size := fun p hp => hW.lt p hp
  have hW' := hW
  obtain ⟨p, q, hA, hV, rfl, _, _⟩ := hW
  rw [hv] at hV
  obtain ⟨rfl, rfl⟩ := trodVars_none hV
  refine ⟨ds, [], _, [], p, [], hW', ?_, ?_, ?_, World.keptBut_mono (fun x hx => ⟨hx, .inr (.inl (by simpa using hx))⟩) (hb.frame (· ∈ p ++ [])), fun h => by cases h⟩
  · rw [hfn, hres]
    exact trodAll_mk1 (shut_bool htb true)
  · rw [hfn]
    exact trodAll_kept hl hb hr hA (fun x hx => hlt x (by simp [hx]))
  · rw [hfn, hv]; rfl

theorem cell_int {P : Program} {W : World} {base u : Nat} {k : IntKind} {v : Value} (hu : P.underlying u = some (.int k)) (h : Cell.okWide P W .any base u v) : ∃ n, v = .int k n ∧ k.has n := by
  unfold Cell.okWide at h
  rw [hu] at h
  unfold Cell.ok at h
  rw [hu] at h
  cases v <;> simp at h
  obtain ⟨rfl, h⟩ := h
  exact ⟨_, rfl, h⟩
theorem open_cell {P : Program} {W : World} {base t : Nat} {k : IntKind} {v : Value} (hu : P.underlying t = some (.int k)) (h : Value.okWide P W .any base t v) : ∃ n, v = .int k n ∧ k.has n := by
  unfold Value.okWide at h
  rw [hu] at h
  exact cell_int hu h
/-- a parameter of cells that are integers -/
theorem open_cells {P : Program} {W : World} {base t : Nat} {v : Value} {ts : List TypeId} (ks : List IntKind) (hagg : (match P.underlying t with | some (.struct _) | some (.array _ _) => true | _ => false) = true)
    (hct : P.cellTypes P.depth t = some ts) (hC : P.cellsOf t = ts.length) (hk : ts.map (fun u => P.underlying u) = ks.map fun k => some (.int k)) (h : Value.okWide P W .any base t v) :
    ∃ cs, v = .agg cs ∧ cs.size = ks.length ∧ ∀ (i : Nat) (k : IntKind), ks[i]? = some k → ∃ n : Int, cs[i]? = some (.int k n) ∧ k.has n := by
  have hlen : ts.length = ks.length := by have := congrArg List.length hk; simpa using this
  have h' : ∃ cs, v = .agg cs ∧ cs.size = P.cellsOf t ∧ Row.okWide P W .any base t cs := by
    unfold Value.okWide at h
    split at h <;> first | exact h | (rename_i h1 h2; revert hagg; split <;> simp_all)
  obtain ⟨cs, hv, hs, ts', hct', _, hc⟩ := h'
  rw [hct] at hct'
  obtain rfl := Option.some.inj hct'
  refine ⟨cs, hv, by omega, fun i k hi => ?_⟩
  have hil : i < ks.length := (List.getElem?_eq_some_iff.1 hi).1
  have hic : i < cs.size := by omega
  obtain ⟨u, hu, hcell⟩ := hc i cs[i] (Array.getElem?_eq_getElem hic)
  rw [Nat.mod_eq_of_lt (by omega)] at hu
  have : (ts.map (fun u => P.underlying u))[i]? = some (P.underlying u) := by simp [hu]
  rw [hk] at this
  simp only [List.getElem?_map, hi, Option.map_some, Option.some.injEq] at this
  obtain ⟨n, hn, hh⟩ := cell_int this.symm hcell
  exact ⟨n, by rw [Array.getElem?_eq_getElem hic, hn], hh⟩
theorem has_i8 {n : Int} (h : IntKind.i8.has n) : -128 ≤ n ∧ n ≤ 127 := h
theorem has_u8 {n : Int} (h : IntKind.u8.has n) : 0 ≤ n ∧ n ≤ 255 := h
/-- a world with a table laid -/
def layTab (w : World) (g : Nat) (cs : Array Value) : World :=
  { w with heap := w.heap.modify g fun
      | .cells _ t frozen => .cells cs t frozen
      | o => o }
theorem own : ownKnob Tryd.prog.godebug = none := by kernel_rfl
theorem laidOut : laidOutB Tryd.prog = true := by kernel_rfl
end Go.Proofs.YtgopfikljndklaaDoor
