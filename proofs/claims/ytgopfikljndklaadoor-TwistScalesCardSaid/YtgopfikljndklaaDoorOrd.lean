/- A region that draws its order, walked in one order: what only reads comes first, the calls wait for one another. -/
import Derived.Test.YtgopfikljndklaaDoorOwn
import Derived.Deep.RegionHeld3
import Derived.Deep.DrawnRows
namespace Go.Proofs.YtgopfikljndklaaDoor
open Go.RowKit

section
variable {P : Program} {ops : Array Oper} {Q : Exit → Act → World → Prop} {S : World → Prop}

/-- Is this list of operations (true: it only reads) an order that speaks for all? -/
def okOrd (ops : Array Oper) : List (Bool × Nat) → Array Bool → Bool
  | [], listed => (Region.ready .any ops listed).isEmpty
  | (true, i) :: rest, listed => (Region.ready .any ops listed).contains i && Region.free .any ops listed i && okOrd ops rest (listed.setIfInBounds i true)
  | (false, i) :: rest, listed => decide (Region.ready .any ops listed = [i]) && okOrd ops rest (listed.setIfInBounds i true)

/-- The walk in that order. -/
def wpOrd (P : Program) (ops : Array Oper) (Q : Exit → Act → World → Prop) (S : World → Prop) : List (Bool × Nat) → Act → World → Prop
  | [], a, w => Q .normal a w
  | (true, i) :: rest, a, w => ∃ o v, ops[i]? = some o ∧ YieldsIf P ops S o v a ∧ wpOrd P ops Q S rest (a.put o.dst v) w
  | (false, i) :: rest, a, w => wpOp P ops Q i (fun a' w' => S w' ∧ wpOrd P ops Q S rest a' w') a w

theorem wpOrd_sound (hs : Region.noSelect ops = true) (hQ : ∀ c (a : Act) (d : Tmp) v w, Q (.panic c) (a.put (some d) v) w → Q (.panic c) a w) :
    ∀ (l : List (Bool × Nat)) (fuel : Nat) (listed : Array Bool) (a : Act) (w : World), l.length ≤ fuel → okOrd ops l listed = true → S w → wpOrd P ops Q S l a w →
      wpAnyH P .any ops Q S fuel listed a w := by
  intro l
  induction l with
  | nil =>
    intro fuel listed a w _ hok _ h
    exact wpAnyH_done (by simpa [okOrd] using hok) h _
  | cons x rest ih =>
    intro fuel listed a w hl hok hS h
    obtain ⟨fuel, rfl⟩ : ∃ n, fuel = n + 1 := ⟨fuel - 1, by simp at hl; omega⟩
    obtain ⟨b, i⟩ := x
    cases b with
    | true =>
      simp only [okOrd, Bool.and_eq_true] at hok
      obtain ⟨o, v, ho, hy, hr⟩ := h
      exact wpAnyH_take ho hs hok.1.2 hok.1.1 (fun c a w h => by cases hd : o.dst with | none => rw [hd] at h; exact h | some d => rw [hd] at h; exact hQ c a d _ w h) hy hS (ih fuel _ _ _ (by simpa using hl) hok.2 hS hr)
    | false =>
      simp only [okOrd, Bool.and_eq_true, decide_eq_true_eq] at hok
      refine wpAnyH_all hok.1 (by simp) (fun j hj => ?_)
      obtain rfl : j = i := by simpa using hj
      refine wpOp_mono (fun a' w' h' => ?_) h
      exact ⟨h'.1, ih fuel _ _ _ (by simpa using hl) hok.2 h'.1 h'.2⟩

theorem wp_region_ord {id : Nat} {a : Act} {w : World} (S : World → Prop) (l : List (Bool × Nat)) (hm : P.follows .mixedOrders = true) (hs : Region.noSelect ops = true)
    (hok : okOrd ops l (Array.replicate ops.size false) = true) (hl : l.length ≤ ops.size) (hQ : ∀ c (a : Act) (d : Tmp) v w, Q (.panic c) (a.put (some d) v) w → Q (.panic c) a w) (hS : S w.drew)
    (h : wpOrd P ops Q S l a w.drew) : (Code.region id ops true).wp P Q a w :=
  wp_region_held hm (wpOrd_sound hs hQ l _ _ _ _ hl hok hS h)

theorem ord_nil {a : Act} {w : World} (h : Q .normal a w) : wpOrd P ops Q S [] a w := h

/-- an operation that only reads -/
theorem ord_pure {i : Nat} {rest : List (Bool × Nat)} {a : Act} {w : World} {o : Oper} (d : Option Tmp) (v : Value) (ho : ops[i]? = some o) (hd : o.dst = d) (hg : o.guard = none)
    (hv : ∀ w, S w → (execOp a.eval o).run P w = .ok (.value v) w) (h : wpOrd P ops Q S rest (a.put d v) w) : wpOrd P ops Q S ((true, i) :: rest) a w :=
  ⟨o, v, ho, .inl ⟨by simp [Region.wanted, hg], hv⟩, by rw [hd]; exact h⟩
/-- one that is guarded, and wanted -/
theorem ord_pureg {i : Nat} {rest : List (Bool × Nat)} {a : Act} {w : World} {o : Oper} (d : Option Tmp) (v : Value) (ho : ops[i]? = some o) (hd : o.dst = d) (hg : Region.wanted o (yielded ops a.tmps) = true)
    (hv : ∀ w, S w → (execOp a.eval o).run P w = .ok (.value v) w) (h : wpOrd P ops Q S rest (a.put d v) w) : wpOrd P ops Q S ((true, i) :: rest) a w :=
  ⟨o, v, ho, .inl ⟨hg, hv⟩, by rw [hd]; exact h⟩
/-- one that is not wanted -/
theorem ord_skip {i : Nat} {rest : List (Bool × Nat)} {a : Act} {w : World} {o : Oper} (d : Option Tmp) (ho : ops[i]? = some o) (hd : o.dst = d) (hg : Region.wanted o (yielded ops a.tmps) = false)
    (h : wpOrd P ops Q S rest (a.put d undef) w) : wpOrd P ops Q S ((true, i) :: rest) a w :=
  ⟨o, undef, ho, .inr ⟨hg, rfl⟩, by rw [hd]; exact h⟩
/-- a call, an allocation, a store -/
theorem ord_eff {i : Nat} {rest : List (Bool × Nat)} {a : Act} {w : World} {o : Oper} (ho : ops[i]? = some o) (hg : o.guard = none)
    (h : ∀ K : Act → World → Prop, (∀ a w, S w → wpOrd P ops Q S rest a w → K a w) → o.wp P a w K Q) : wpOrd P ops Q S ((false, i) :: rest) a w := by
  unfold wpOrd wpOp
  simp only [ho]
  rw [if_pos (by simp [Region.wanted, hg])]
  exact .inl (h _ (fun a w h1 h2 => ⟨h1, h2⟩))
theorem ord_effg {i : Nat} {rest : List (Bool × Nat)} {a : Act} {w : World} {o : Oper} (ho : ops[i]? = some o) (hg : Region.wanted o (yielded ops a.tmps) = true)
    (h : ∀ K : Act → World → Prop, (∀ a w, S w → wpOrd P ops Q S rest a w → K a w) → o.wp P a w K Q) : wpOrd P ops Q S ((false, i) :: rest) a w := by
  unfold wpOrd wpOp
  simp only [ho]
  rw [if_pos hg]
  exact .inl (h _ (fun a w h1 h2 => ⟨h1, h2⟩))
theorem ord_effskip {i : Nat} {rest : List (Bool × Nat)} {a : Act} {w : World} {o : Oper} (d : Option Tmp) (ho : ops[i]? = some o) (hd : o.dst = d) (hg : Region.wanted o (yielded ops a.tmps) = false)
    (hS : S w) (h : wpOrd P ops Q S rest (a.put d undef) w) : wpOrd P ops Q S ((false, i) :: rest) a w := by
  subst hd
  unfold wpOrd wpOp
  simp only [ho]
  rw [if_neg (by rw [hg]; decide)]
  exact ⟨hS, h⟩
end
end Go.Proofs.YtgopfikljndklaaDoor
