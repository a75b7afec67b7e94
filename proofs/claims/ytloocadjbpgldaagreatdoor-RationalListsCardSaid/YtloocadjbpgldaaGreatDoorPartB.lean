/- Joined of: Ord, Flo, Ort, Sq, Loop, Short, Dec, Str, Law, Int4, Int5, Gen1, Int6, Div1, Div2, Div3, Div4, Div5. -/
import Derived.Test.YtloocadjbpgldaaGreatDoorPartA
import Derived.Deep.RegionHeld3
import Derived.Deep.DrawnRows
import Derived.Deep.MidRow
import Derived.Deep.LoopGhost
import Derived.Laws.AppendOwn
import Derived.Laws.Concat
import Derived.Lib.ItoaNum
import Derived.Lib.ItoaMem
import Derived.Lib.Repeat
import Derived.Lib.Join
import Derived.ProofKit
import Derived.Below
import Derived.Deep.DeepHandedRow
import Derived.Lib.LaidTab
import Derived.Stop.LaidErr
import Derived.LaidSub
import Derived.Laws.BitsAllLaws
import Derived.Lib.SliceRun
import Derived.Lib.BitFns
/- A region that draws its order, walked in one order: what only reads comes first, the calls wait for one another. -/
namespace Go.Proofs.YtloocadjbpgldaaGreatDoor
open Go.RowKit

section
variable {P : Program} {ops : Array Oper} {Q : Exit → Act → World → Prop} {S : World → Prop}

/-- Is this list of operations (true: it only reads) an order that speaks for all? -/
def okOrd (ops : Array Oper) : List (Bool × Nat) → Array Bool → Bool
  | [], listed => (Region.ready .any ops listed).isEmpty
  | (true, i) :: rest, listed => (Region.ready .any ops listed).contains i && Region.free .any ops listed i && okOrd ops rest (listed.setIfInBounds i true)
  | (false, i) :: rest, listed => decide (Region.ready .any ops listed = [i]) && okOrd ops rest (listed.setIfInBounds i true)

/-- The walk in that order. -/
def wpOrd (P : Program) (ops : Array Oper) (Q : Exit → Act → World → Prop) (S : World → Prop) : List (Bool × Nat) → Act → World → Prop
  | [], a, w => Q .normal a w
  | (true, i) :: rest, a, w => ∃ o v, ops[i]? = some o ∧ YieldsIf P ops S o v a ∧ wpOrd P ops Q S rest (a.put o.dst v) w
  | (false, i) :: rest, a, w => wpOp P ops Q i (fun a' w' => S w' ∧ wpOrd P ops Q S rest a' w') a w

theorem wpOrd_sound (hs : Region.noSelect ops = true) (hQ : ∀ c (a : Act) (d : Tmp) v w, Q (.panic c) (a.put (some d) v) w → Q (.panic c) a w) :
    ∀ (l : List (Bool × Nat)) (fuel : Nat) (listed : Array Bool) (a : Act) (w : World), l.length ≤ fuel → okOrd ops l listed = true → S w → wpOrd P ops Q S l a w →
      wpAnyH P .any ops Q S fuel listed a w := by
  intro l
  induction l with
  | nil =>
    intro fuel listed a w _ hok _ h
    exact wpAnyH_done (by simpa [okOrd] using hok) h _
  | cons x rest ih =>
    intro fuel listed a w hl hok hS h
    obtain ⟨fuel, rfl⟩ : ∃ n, fuel = n + 1 := ⟨fuel - 1, by simp at hl; omega⟩
    obtain ⟨b, i⟩ := x
    cases b with
    | true =>
      simp only [okOrd, Bool.and_eq_true] at hok
      obtain ⟨o, v, ho, hy, hr⟩ := h
      exact wpAnyH_take ho hs hok.1.2 hok.1.1 (fun c a w h => by cases hd : o.dst with | none => rw [hd] at h; exact h | some d => rw [hd] at h; exact hQ c a d _ w h) hy hS (ih fuel _ _ _ (by simpa using hl) hok.2 hS hr)
    | false =>
      simp only [okOrd, Bool.and_eq_true, decide_eq_true_eq] at hok
      refine wpAnyH_all hok.1 (by simp) (fun j hj => ?_)
      obtain rfl : j = i := by simpa using hj
      refine wpOp_mono (fun a' w' h' => ?_) h
      exact ⟨h'.1, ih fuel _ _ _ (by simpa using hl) hok.2 h'.1 h'.2⟩

theorem wp_region_ord {id : Nat} {a : Act} {w : World} (S : World → Prop) (l : List (Bool × Nat)) (hm : P.follows .mixedOrders = true) (hs : Region.noSelect ops = true)
    (hok : okOrd ops l (Array.replicate ops.size false) = true) (hl : l.length ≤ ops.size) (hQ : ∀ c (a : Act) (d : Tmp) v w, Q (.panic c) (a.put (some d) v) w → Q (.panic c) a w) (hS : S w.drew)
    (h : wpOrd P ops Q S l a w.drew) : (Code.region id ops true).wp P Q a w :=
  wp_region_held hm (wpOrd_sound hs hQ l _ _ _ _ hl hok hS h)

theorem ord_nil {a : Act} {w : World} (h : Q .normal a w) : wpOrd P ops Q S [] a w := h

/-- an operation that only reads -/
theorem ord_pure {i : Nat} {rest : List (Bool × Nat)} {a : Act} {w : World} {o : Oper} (d : Option Tmp) (v : Value) (ho : ops[i]? = some o) (hd : o.dst = d) (hg : o.guard = none)
    (hv : ∀ w, S w → (execOp a.eval o).run P w = .ok (.value v) w) (h : wpOrd P ops Q S rest (a.put d v) w) : wpOrd P ops Q S ((true, i) :: rest) a w :=
  ⟨o, v, ho, .inl ⟨by simp [Region.wanted, hg], hv⟩, by rw [hd]; exact h⟩
/-- one that is guarded, and wanted -/
theorem ord_pureg {i : Nat} {rest : List (Bool × Nat)} {a : Act} {w : World} {o : Oper} (d : Option Tmp) (v : Value) (ho : ops[i]? = some o) (hd : o.dst = d) (hg : Region.wanted o (yielded ops a.tmps) = true)
    (hv : ∀ w, S w → (execOp a.eval o).run P w = .ok (.value v) w) (h : wpOrd P ops Q S rest (a.put d v) w) : wpOrd P ops Q S ((true, i) :: rest) a w :=
  ⟨o, v, ho, .inl ⟨hg, hv⟩, by rw [hd]; exact h⟩
/-- one that is not wanted -/
theorem ord_skip {i : Nat} {rest : List (Bool × Nat)} {a : Act} {w : World} {o : Oper} (d : Option Tmp) (ho : ops[i]? = some o) (hd : o.dst = d) (hg : Region.wanted o (yielded ops a.tmps) = false)
    (h : wpOrd P ops Q S rest (a.put d undef) w) : wpOrd P ops Q S ((true, i) :: rest) a w :=
  ⟨o, undef, ho, .inr ⟨hg, rfl⟩, by rw [hd]; exact h⟩
/-- a call, an allocation, a store -/
theorem ord_eff {i : Nat} {rest : List (Bool × Nat)} {a : Act} {w : World} {o : Oper} (ho : ops[i]? = some o) (hg : o.guard = none)
    (h : ∀ K : Act → World → Prop, (∀ a w, S w → wpOrd P ops Q S rest a w → K a w) → o.wp P a w K Q) : wpOrd P ops Q S ((false, i) :: rest) a w := by
  unfold wpOrd wpOp
  simp only [ho]
  rw [if_pos (by simp [Region.wanted, hg])]
  exact .inl (h _ (fun a w h1 h2 => ⟨h1, h2⟩))
theorem ord_effg {i : Nat} {rest : List (Bool × Nat)} {a : Act} {w : World} {o : Oper} (ho : ops[i]? = some o) (hg : Region.wanted o (yielded ops a.tmps) = true)
    (h : ∀ K : Act → World → Prop, (∀ a w, S w → wpOrd P ops Q S rest a w → K a w) → o.wp P a w K Q) : wpOrd P ops Q S ((false, i) :: rest) a w := by
  unfold wpOrd wpOp
  simp only [ho]
  rw [if_pos hg]
  exact .inl (h _ (fun a w h1 h2 => ⟨h1, h2⟩))
theorem ord_effskip {i : Nat} {rest : List (Bool × Nat)} {a : Act} {w : World} {o : Oper} (d : Option Tmp) (ho : ops[i]? = some o) (hd : o.dst = d) (hg : Region.wanted o (yielded ops a.tmps) = false)
    (hS : S w) (h : wpOrd P ops Q S rest (a.put d undef) w) : wpOrd P ops Q S ((false, i) :: rest) a w := by
  subst hd
  unfold wpOrd wpOp
  simp only [ho]
  rw [if_neg (by rw [hg]; decide)]
  exact ⟨hS, h⟩
end
end Go.Proofs.YtloocadjbpgldaaGreatDoor
/- A region that draws its order and makes variables of its own beside calls: the new variables may come up at any time. -/
namespace Go.Proofs.YtloocadjbpgldaaGreatDoor
open Go.RowKit

section
variable {P : Program} {ops : Array Oper} {Q : Exit → Act → World → Prop} {S : World → Prop}

/-- another operation does not see what a slot holds that it does not look at -/
theorem wpOp_fwd {j d : Nat} {v : Value} {oj : Oper} (hj : ops[j]? = some oj) (h1 : d ∉ oj.looksAt ops) (h2 : oj.dst ≠ some d) (hs : ∀ cs b, oj.op ≠ .select cs b)
    (hQ : ∀ c (a : Act) w, Q (.panic c) a w → Q (.panic c) (a.put (some d) v) w) {K : Act → World → Prop} {a : Act} {w : World}
    (h : wpOp P ops Q j K a w) : wpOp P ops Q j (fun a' w' => ∃ a₀, a' = a₀.put (some d) v ∧ K a₀ w') (a.put (some d) v) w := by
  have e1 : execOp (a.put (some d) v).eval oj = execOp a.eval oj := execOp_put oj hs a (some d) v (fun d' e => by cases e; exact h1)
  have e2 : Region.wanted oj (yielded ops (a.put (some d) v).tmps) = Region.wanted oj (yielded ops a.tmps) := wanted_put oj a (some d) v (fun d' e => by cases e; exact h1)
  have e3 : ∀ (a : Act) u, (a.put (some d) v).put oj.dst u = (a.put oj.dst u).put (some d) v := fun a u => Act.put_comm a v u (fun d' e => by cases e; exact h2)
  unfold wpOp at *
  simp only [hj] at *
  rw [e2]
  split
  · rename_i hw
    simp only [hw, if_true] at h
    rcases h with h | ⟨hasks, hlets⟩
    case inr => exact .inr ⟨by unfold Oper.asks at *; rw [e1]; exact hasks, hlets⟩
    refine .inl ?_
    unfold Oper.wp at *
    rw [e1]
    generalize (execOp a.eval oj).run P w = r at *
    cases r with
    | ok n w' =>
      cases n <;> simp only [Oper.upon] at h ⊢
      case value u => exact ⟨_, e3 a u, h⟩
      case skip => exact ⟨_, e3 a _, h⟩
      case defer dd => exact ⟨_, by rw [← e3]; rfl, h⟩
      case enter f args =>
        refine Calls.mono h fun e w'' he => ?_
        cases e with
        | returned u => exact ⟨_, e3 a u, he⟩
        | panicked c => exact hQ _ _ _ he
        | outgrown => exact he
      case row row args => exact Rows.mono h fun u w'' he => ⟨_, e3 a u, he⟩
    | halt x w' =>
      cases x <;> simp only [Oper.upon] at h ⊢
      case panic u => exact hQ _ _ _ h
  · rename_i hw
    simp only [hw] at h
    exact ⟨_, e3 a _, h⟩

/-- a new variable of the region: its operation, its slot, what it holds at first -/
structure Fl where
  op : Nat
  slot : Nat
  ty : TypeId
  zero : Array Value

def putFl (ps : Nat → Nat) (a : Act) (f : Fl) : Act := a.put (some f.slot) (.pointer (some ⟨ps f.op, 0, none⟩))
def setFl (listed : Array Bool) (fl : List Fl) : Array Bool := fl.foldl (fun l f => l.setIfInBounds f.op true) listed

def wpFlo (P : Program) (ops : Array Oper) (Q : Exit → Act → World → Prop) (S : World → Prop) (fin : Act → World → Prop) : List (Bool × Nat) → Act → World → Prop
  | [], a, w => ∀ w1, Gr w w1 → S w1 → fin a w1
  | (true, i) :: rest, a, w => ∃ o v, ops[i]? = some o ∧ YieldsIf P ops S o v a ∧ wpFlo P ops Q S fin rest (a.put o.dst v) w
  | (false, i) :: rest, a, w => ∀ w1, Gr w w1 → S w1 → wpOp P ops Q i (fun a' w' => Gr w1 w' ∧ S w' ∧ wpFlo P ops Q S fin rest a' w') a w1

theorem wpFlo_gr {fin : Act → World → Prop} : ∀ (l : List (Bool × Nat)) {a : Act} {w w' : World}, wpFlo P ops Q S fin l a w → Gr w w' → wpFlo P ops Q S fin l a w'
  | [], _, _, _, h, hg => fun w1 h1 => h w1 (hg.trans h1)
  | (true, _) :: l, _, _, _, h, hg => by
    obtain ⟨o, v, h1, h2, h3⟩ := h
    exact ⟨o, v, h1, h2, wpFlo_gr l h3 hg⟩
  | (false, _) :: _, _, _, _, h, hg => fun w1 h1 => h w1 (hg.trans h1)

/-- all that is asked of the region's edges, closed -/
def okFlo (ops : Array Oper) (fl : List Fl) (tl : List (Bool × Nat)) : List (Bool × Nat) → Array Bool → Bool
  | [], listed => okOrd ops tl (setFl listed fl) &&
      fl.all fun f => (Region.ready .any ops listed).contains f.op && decide (Region.ready .any ops (setFl listed (fl.filter (·.op != f.op))) = [f.op])
  | (true, i) :: rest, listed => (Region.ready .any ops listed).contains i && Region.free .any ops listed i && okFlo ops fl tl rest (listed.setIfInBounds i true)
  | (false, i) :: rest, listed => (Region.ready .any ops listed).contains i && decide (Region.ready .any ops (setFl listed fl) = [i]) && okFlo ops fl tl rest (listed.setIfInBounds i true)

/-- no operation ahead of the tail looks at the new variables' slots -/
def okAp (ops : Array Oper) (fl : List Fl) (l : List (Bool × Nat)) : Bool :=
  l.all fun x => match ops[x.2]? with
      | some o => fl.all fun f => !(o.looksAt ops).contains f.slot && o.dst != some f.slot && x.2 != f.op
      | none => false
/-- the new variables' operations -/
def okAl (ops : Array Oper) (fl : List Fl) : Bool :=
  decide (fl.map Fl.op).Nodup && decide (fl.map Fl.slot).Nodup && fl.all fun f => match ops[f.op]? with
    | some o => (match o.op with | .alloc t => t == f.ty | _ => false) && o.guard.isNone && o.dst == some f.slot
    | none => false

theorem setFl_cons (l : Array Bool) (f : Fl) (X : List Fl) : setFl l (f :: X) = setFl (l.setIfInBounds f.op true) X := rfl
theorem setFl_snoc (l : Array Bool) (X : List Fl) (f : Fl) : setFl l (X ++ [f]) = (setFl l X).setIfInBounds f.op true := by simp [setFl, List.foldl_append]
theorem setFl_append (l : Array Bool) (X Y : List Fl) : setFl l (X ++ Y) = setFl (setFl l X) Y := by simp [setFl, List.foldl_append]
theorem setFl_perm (l : Array Bool) {X Y : List Fl} (h : X.Perm Y) : setFl l X = setFl l Y := by
  unfold setFl
  refine List.Perm.foldl_eq' h (fun x _ y _ z => ?_) l
  by_cases e : x.op = y.op
  · rw [e]
  · exact (Array.setIfInBounds_comm _ _ e).symm ▸ rfl
theorem setFl_set (l : Array Bool) (X : List Fl) (i : Nat) : setFl (l.setIfInBounds i true) X = (setFl l X).setIfInBounds i true := by
  induction X generalizing l with
  | nil => rfl
  | cons f X ih =>
    rw [setFl_cons, setFl_cons, ← ih]
    by_cases e : f.op = i
    · rw [e]
    · rw [Array.setIfInBounds_comm _ _ e]
theorem ready_setFl {listed : Array Bool} {j : Nat} : ∀ (X : List Fl), j ∈ Region.ready .any ops listed → (∀ f ∈ X, j ≠ f.op) → j ∈ Region.ready .any ops (setFl listed X) := by
  intro X
  induction X generalizing listed with
  | nil => exact fun h _ => h
  | cons f X ih =>
    intro h hne
    rw [setFl_cons]
    exact ih (ready_mono h (hne f (by simp))) (fun g hg => hne g (by simp [hg]))
theorem free_set {listed : Array Bool} {i k : Nat} (h : Region.free .any ops listed i = true) : Region.free .any ops (listed.setIfInBounds k true) i = true := by
  unfold Region.free at *
  split at h
  · cases h
  · rename_i oi ho
    rw [List.all_eq_true] at h ⊢
    intro j hj
    have h1 := h j hj
    simp only [Bool.or_eq_true] at h1 ⊢
    rcases h1 with (h1 | h1) | h1
    · exact .inl (.inl h1)
    · by_cases e : k = j
      · subst e
        rcases Nat.lt_or_ge k listed.size with h' | h'
        · exact .inl (.inr (by simp [h']))
        · exact .inl (.inr (by simp [h']))
      · exact .inl (.inr (by rw [getD_set_ne true e]; exact h1))
    · exact .inr h1
theorem free_setFl {listed : Array Bool} {i : Nat} : ∀ (X : List Fl), Region.free .any ops listed i = true → Region.free .any ops (setFl listed X) i = true := by
  intro X
  induction X generalizing listed with
  | nil => exact id
  | cons f X ih => exact fun h => by rw [setFl_cons]; exact ih (free_set h)

theorem nodup_inj {α β : Type} {g : α → β} {l : List α} (h : (l.map g).Nodup) {a b : α} (ha : a ∈ l) (hb : b ∈ l) (e : g a = g b) : a = b := by
  induction l with
  | nil => cases ha
  | cons x l ih =>
    rw [List.map_cons, List.nodup_cons] at h
    rcases List.mem_cons.1 ha with rfl | ha' <;> rcases List.mem_cons.1 hb with rfl | hb'
    · rfl
    · exact absurd (List.mem_map.2 ⟨b, hb', e.symm⟩) h.1
    · exact absurd (List.mem_map.2 ⟨a, ha', e⟩) h.1
    · exact ih h.2 ha' hb'
theorem putFl_put {ps : Nat → Nat} (X : List Fl) (a : Act) (d : Option Tmp) (v : Value) (h : ∀ f ∈ X, d ≠ some f.slot) : (X.foldl (putFl ps) a).put d v = X.foldl (putFl ps) (a.put d v) := by
  induction X generalizing a with
  | nil => rfl
  | cons f X ih =>
    rw [List.foldl_cons, List.foldl_cons, ih _ (fun g hg => h g (by simp [hg]))]
    congr 1
    exact Act.put_comm a _ v (fun d' e => by cases e; exact h f (by simp))
theorem putFl_congr {ps ps' : Nat → Nat} (X : List Fl) (a : Act) (h : ∀ f ∈ X, ps f.op = ps' f.op) : X.foldl (putFl ps) a = X.foldl (putFl ps') a := by
  induction X generalizing a with
  | nil => rfl
  | cons f X ih =>
    rw [List.foldl_cons, List.foldl_cons, ih _ (fun g hg => h g (by simp [hg]))]
    congr 1
    unfold putFl
    rw [h f (by simp)]
theorem putFl_perm {ps : Nat → Nat} {X Y : List Fl} (h : X.Perm Y) (hn : (X.map Fl.slot).Nodup) (a : Act) : X.foldl (putFl ps) a = Y.foldl (putFl ps) a := by
  refine List.Perm.foldl_eq' h (fun x hx y hy z => ?_) a
  by_cases e : x = y
  · rw [e]
  · have hne : x.slot ≠ y.slot := fun e' => e (nodup_inj hn hx hy e')
    exact Act.put_comm z _ _ (fun d' e' => by cases e'; exact fun h => hne (Option.some.inj h).symm)

theorem yields_put {ps : Nat → Nat} {o : Oper} {v : Value} (hs : ∀ cs b, o.op ≠ .select cs b) (X : List Fl) (a : Act) (h : ∀ f ∈ X, f.slot ∉ o.looksAt ops) (hy : YieldsIf P ops S o v a) :
    YieldsIf P ops S o v (X.foldl (putFl ps) a) := by
  induction X generalizing a with
  | nil => exact hy
  | cons f X ih =>
    refine ih _ (fun g hg => h g (by simp [hg])) (hy.of_same ?_ ?_)
    · exact execOp_put o hs a (some f.slot) _ (fun d e => by cases e; exact h f (by simp))
    · exact wanted_put o a (some f.slot) _ (fun d e => by cases e; exact h f (by simp))
theorem wpOp_fwds {ps : Nat → Nat} {j : Nat} {oj : Oper} (hj : ops[j]? = some oj) (hs : ∀ cs b, oj.op ≠ .select cs b)
    (hQ : ∀ c (a : Act) (d : Tmp) v w, Q (.panic c) a w → Q (.panic c) (a.put (some d) v) w) {K : Act → World → Prop} {w : World} (X : List Fl) (h1 : ∀ f ∈ X, f.slot ∉ oj.looksAt ops) (h2 : ∀ f ∈ X, oj.dst ≠ some f.slot) :
    ∀ {a : Act}, wpOp P ops Q j K a w → wpOp P ops Q j (fun a' w' => ∃ a₀, a' = X.foldl (putFl ps) a₀ ∧ K a₀ w') (X.foldl (putFl ps) a) w := by
  induction X generalizing K with
  | nil => exact fun h => wpOp_mono (fun a' w' h' => ⟨a', rfl, h'⟩) h
  | cons f X ih =>
    intro a h
    have h3 := wpOp_fwd (d := f.slot) (v := .pointer (some ⟨ps f.op, 0, none⟩)) hj (h1 f (by simp)) (h2 f (by simp)) hs (fun c a w => hQ c a _ _ w) h
    refine wpOp_mono (fun a' w' h' => ?_) (ih (fun g hg => h1 g (by simp [hg])) (fun g hg => h2 g (by simp [hg])) h3)
    obtain ⟨a₀, e, a₁, e1, hk⟩ := h'
    exact ⟨a₁, by rw [e, e1]; rfl, hk⟩

/-- what is left for the tail: the new variables are there, and hold their zeros -/
def FloFin (P : Program) (ops : Array Oper) (Q : Exit → Act → World → Prop) (S : World → Prop) (B : Nat) (fl : List Fl) (tl : List (Bool × Nat)) (a : Act) (w : World) : Prop :=
  ∀ ps : Nat → Nat, (∀ f ∈ fl, w.heap[ps f.op]? = some (.cells f.zero f.ty) ∧ B ≤ ps f.op) → (fl.map fun f => ps f.op).Nodup → wpOrd P ops Q S tl (fl.foldl (putFl ps) a) w

theorem wpFlo_sound (hs : Region.noSelect ops = true) (hQ : ∀ c (a : Act) (d : Tmp) v w, Q (.panic c) (a.put (some d) v) w → Q (.panic c) a w)
    (hQ' : ∀ c (a : Act) (d : Tmp) v w, Q (.panic c) a w → Q (.panic c) (a.put (some d) v) w) (hSa : ∀ w o, S w → S (w.alloc o)) (B : Nat) (fl : List Fl) (tl : List (Bool × Nat))
    (hal : okAl ops fl = true) (hz : ∀ f ∈ fl, ∀ w, (Instr.alloc f.ty true (.tuple #[])).run P w = .ok (.pointer (some ⟨w.heap.size, 0, none⟩)) (w.alloc (.cells f.zero f.ty))) :
    ∀ (n : Nat) (l : List (Bool × Nat)) (X R : List Fl) (ps : Nat → Nat) (fuel : Nat) (listed : Array Bool) (a : Act) (w : World), l.length + R.length ≤ n → l.length + R.length + tl.length ≤ fuel →
      fl.Perm (X ++ R) → okFlo ops fl tl l listed = true → okAp ops fl l = true → S w → B ≤ w.heap.size → (∀ f ∈ X, w.heap[ps f.op]? = some (.cells f.zero f.ty) ∧ B ≤ ps f.op) → (X.map fun f => ps f.op).Nodup →
      wpFlo P ops Q S (FloFin P ops Q S B fl tl) l a w → wpAnyH P .any ops Q S fuel (setFl listed X) (X.foldl (putFl ps) a) w := by
  simp only [okAl, Bool.and_eq_true, decide_eq_true_eq, List.all_eq_true] at hal
  obtain ⟨⟨hno, hns⟩, hal⟩ := hal
  intro n
  induction n with
  | zero =>
    intro l X R ps fuel listed a w hn hf hp hok hap hS hB hX hXn h
    obtain rfl : l = [] := by cases l with | nil => rfl | cons x l => simp at hn
    obtain rfl : R = [] := by cases R with | nil => rfl | cons x l => simp at hn
    simp only [okFlo, Bool.and_eq_true] at hok
    rw [List.append_nil] at hp
    have h1 := h w (Gr.refl w) hS ps (fun f hf => hX f (hp.mem_iff.1 hf)) ((hp.map _).nodup_iff.2 hXn)
    rw [putFl_perm hp hns] at h1
    have h2 := hok.1
    rw [setFl_perm listed hp] at h2
    exact wpOrd_sound hs hQ tl fuel _ _ w (by simpa using hf) h2 hS h1
  | succ n ih =>
    intro l X R ps fuel listed a w hn hf hp hok hap hS hB hX hXn h
    -- a new variable comes up
    have float : ∀ fuel', l.length + R.length + tl.length ≤ fuel' + 1 → ∀ f ∈ R, wpOp P ops Q f.op (fun a' w' => S w' ∧ wpAnyH P .any ops Q S fuel' ((setFl listed X).setIfInBounds f.op true) a' w') (X.foldl (putFl ps) a) w := by
      intro fuel' hf' f hfR
      have hffl : f ∈ fl := hp.mem_iff.2 (by simp [hfR])
      have h1 := hal f hffl
      obtain ⟨R1, R2, rfl⟩ := List.append_of_mem hfR
      cases ho : ops[f.op]? with
      | none => rw [ho] at h1; cases h1
      | some o =>
        rw [ho] at h1
        simp only [Bool.and_eq_true, Option.isNone_iff_eq_none, beq_iff_eq] at h1
        obtain ⟨⟨h2, h3⟩, h4⟩ := h1
        have hop : o.op = .alloc f.ty := by
          cases hh : o.op <;> rw [hh] at h2 <;> first | cases h2 | (simp at h2; rw [h2])
        unfold wpOp
        simp only [ho]
        rw [if_pos (by simp [Region.wanted, h3])]
        refine .inl ?_
        have hrun : (execOp (X.foldl (putFl ps) a).eval o).run P w = .ok (.value (.pointer (some ⟨w.heap.size, 0, none⟩))) (w.alloc (.cells f.zero f.ty)) := by
          simp only [execOp, hop]
          have := hz f hffl w
          simp [this, Result.andThen]
        unfold Oper.wp
        rw [hrun]
        simp only [Oper.upon]
        refine ⟨hSa _ _ hS, ?_⟩
        have hnotX : ∀ g ∈ X, g.op ≠ f.op := fun g hg e => by
          have h5 : ((X ++ (R1 ++ f :: R2)).map Fl.op).Nodup := (hp.map _).nodup_iff.1 hno
          rw [List.map_append, List.nodup_append] at h5
          exact h5.2.2 _ (List.mem_map.2 ⟨g, hg, rfl⟩) _ (List.mem_map.2 ⟨f, by simp, rfl⟩) e
        have h6 := ih l (X ++ [f]) (R1 ++ R2) (fun k => if k = f.op then w.heap.size else ps k) fuel' listed a (w.alloc (.cells f.zero f.ty)) (by simp at hn ⊢; omega) (by simp at hf' ⊢; omega)
          (hp.trans (by simpa using List.Perm.append_left X (List.perm_middle))) hok hap (hSa _ _ hS) (by simp; omega)
          (fun g hg => by
            rcases List.mem_append.1 hg with hg | hg
            · rw [if_neg (hnotX g hg)]; exact ⟨(Gr.alloc w _).heap (hX g hg).1, (hX g hg).2⟩
            · obtain rfl : g = f := by simpa using hg
              rw [if_pos rfl]; exact ⟨heap_alloc_new w _, hB⟩)
          (by
            rw [List.map_append, List.nodup_append]
            refine ⟨?_, by simp, ?_⟩
            · rw [List.map_congr_left (g := fun f => ps f.op) (fun g hg => if_neg (hnotX g hg))]; exact hXn
            · intro x hx y hy
              obtain ⟨g, hg, rfl⟩ := List.mem_map.1 hx
              obtain rfl : y = w.heap.size := by simpa using hy
              rw [if_neg (hnotX g hg)]
              intro e
              have h7 := (hX g hg).1
              rw [e, Array.getElem?_eq_none (Nat.le_refl _)] at h7
              cases h7)
          (wpFlo_gr l h (Gr.alloc w _))
        rw [setFl_snoc, List.foldl_append, putFl_congr (ps' := ps) X a (fun g hg => if_neg (hnotX g hg))] at h6
        simp only [List.foldl_cons, List.foldl_nil, putFl, if_pos] at h6
        rw [h4]
        exact h6
    cases l with
    | nil =>
      cases R with
      | nil => 
        simp only [okFlo, Bool.and_eq_true] at hok
        rw [List.append_nil] at hp
        have h1 := h w (Gr.refl w) hS ps (fun f hf => hX f (hp.mem_iff.1 hf)) ((hp.map _).nodup_iff.2 hXn)
        rw [putFl_perm hp hns] at h1
        have h2 := hok.1
        rw [setFl_perm listed hp] at h2
        exact wpOrd_sound hs hQ tl fuel _ _ w (by simpa using hf) h2 hS h1
      | cons r R =>
        simp only [okFlo, Bool.and_eq_true, List.all_eq_true, decide_eq_true_eq] at hok
        obtain ⟨fuel, rfl⟩ : ∃ m, fuel = m + 1 := ⟨fuel - 1, by simp at hf; omega⟩
        have hrfl : r ∈ fl := hp.mem_iff.2 (by simp)
        have hnd : ((X ++ r :: R).map Fl.op).Nodup := (hp.map _).nodup_iff.1 hno
        rw [List.map_append, List.nodup_append] at hnd
        have hr : r.op ∈ Region.ready .any ops (setFl listed X) := ready_setFl X (by simpa using (hok.2 r hrfl).1)
          (fun g hg e => hnd.2.2 _ (List.mem_map.2 ⟨g, hg, rfl⟩) _ (List.mem_map.2 ⟨r, by simp, rfl⟩) e.symm)
        refine wpAnyH_all (rs := Region.ready .any ops (setFl listed X)) rfl (fun e => by rw [e] at hr; cases hr) (fun j hj => ?_)
        by_cases hjR : ∃ f ∈ r :: R, j = f.op
        · obtain ⟨f, hfR, rfl⟩ := hjR
          exact float fuel hf f hfR
        · -- nothing else may come up ahead of r
          refine absurd ?_ (fun e : j = r.op => hjR ⟨r, by simp, e⟩)
          have h1 := (hok.2 r hrfl).2
          have h2 : (fl.filter (·.op != r.op)).Perm (X ++ R) := by
            refine (hp.filter _).trans ?_
            rw [List.filter_append, List.filter_cons_of_neg (by simp)]
            rw [List.filter_eq_self.2 (fun g hg => by
              simp only [bne_iff_ne]; exact hnd.2.2 _ (List.mem_map.2 ⟨g, hg, rfl⟩) _ (List.mem_map.2 ⟨r, by simp, rfl⟩)),
              List.filter_eq_self.2 (fun g hg => by
                simp only [bne_iff_ne]
                have h3 := hnd.2.1
                rw [List.map_cons, List.nodup_cons] at h3
                exact fun e => h3.1 (List.mem_map.2 ⟨g, hg, e⟩))]
          rw [setFl_perm listed h2, setFl_append] at h1
          have h3 := ready_setFl R hj (fun g hg e => hjR ⟨g, by simp [hg], e⟩)
          rw [h1] at h3
          simpa using h3
    | cons x l =>
      obtain ⟨b, i⟩ := x
      obtain ⟨fuel, rfl⟩ : ∃ m, fuel = m + 1 := ⟨fuel - 1, by simp at hf; omega⟩
      have hap' := hap
      simp only [okAp, List.all_cons, Bool.and_eq_true] at hap'
      obtain ⟨hi, hapl⟩ := hap'
      cases b with
      | true =>
        simp only [okFlo, Bool.and_eq_true] at hok
        obtain ⟨o, v, ho, hy, hr⟩ := h
        rw [ho] at hi
        simp only [List.all_eq_true, Bool.and_eq_true, Bool.not_eq_true', bne_iff_ne] at hi
        have hXfl : ∀ f ∈ X, f ∈ fl := fun f hf => hp.mem_iff.2 (by simp [hf])
        refine wpAnyH_take ho hs (free_setFl X hok.1.2) (by simpa using ready_setFl X (by simpa using hok.1.1) (fun f hf => (hi f (hXfl f hf)).2))
          (fun c a w h => by cases hd : o.dst with | none => rw [hd] at h; exact h | some d => rw [hd] at h; exact hQ c a d _ w h) (yields_put (fun cs b => Region.noSelect_spec hs i o cs b ho) X a (fun f hf => by simpa using (hi f (hXfl f hf)).1.1) hy) hS ?_
        rw [putFl_put X a _ _ (fun f hf => (hi f (hXfl f hf)).1.2), ← setFl_set]
        exact ih l X R ps fuel _ _ w (by simp at hn; omega) (by simp at hf; omega) hp hok.2 hapl hS hB hX hXn hr
      | false =>
        simp only [okFlo, Bool.and_eq_true, decide_eq_true_eq] at hok
        have hops : ∃ o, ops[i]? = some o := by
          cases ho : ops[i]? with
          | none => rw [ho] at hi; cases hi
          | some o => exact ⟨o, rfl⟩
        obtain ⟨o, ho⟩ := hops
        rw [ho] at hi
        simp only [List.all_eq_true, Bool.and_eq_true, Bool.not_eq_true', bne_iff_ne] at hi
        have hXfl : ∀ f ∈ X, f ∈ fl := fun f hf => hp.mem_iff.2 (by simp [hf])
        have hr : i ∈ Region.ready .any ops (setFl listed X) := ready_setFl X (by simpa using hok.1.1) (fun f hf => (hi f (hXfl f hf)).2)
        refine wpAnyH_all (rs := Region.ready .any ops (setFl listed X)) rfl (fun e => by rw [e] at hr; cases hr) (fun j hj => ?_)
        by_cases hjR : ∃ f ∈ R, j = f.op
        · obtain ⟨f, hfR, rfl⟩ := hjR
          exact float fuel hf f hfR
        · have h3 := ready_setFl R hj (fun g hg e => hjR ⟨g, hg, e⟩)
          rw [← setFl_append, ← setFl_perm listed hp, hok.1.2] at h3
          obtain rfl : j = i := by simpa using h3
          have h4 := h w (Gr.refl w) hS
          have h5 := wpOp_fwds (ps := ps) ho (fun cs b => Region.noSelect_spec hs j o cs b ho) hQ' X (fun f hf => by simpa using (hi f (hXfl f hf)).1.1) (fun f hf => (hi f (hXfl f hf)).1.2) h4
          refine wpOp_mono (fun a' w' h' => ?_) h5
          obtain ⟨a₀, rfl, hg, hS', hc⟩ := h'
          refine ⟨hS', ?_⟩
          rw [← setFl_set]
          exact ih l X R ps fuel _ _ w' (by simp at hn; omega) (by simp at hf; omega) hp hok.2 hapl hS' (Nat.le_trans hB hg.size)
            (fun f hf => ⟨hg.heap (hX f hf).1, (hX f hf).2⟩) hXn hc

theorem wp_region_flo {id : Nat} {a : Act} {w : World} (S : World → Prop) (l : List (Bool × Nat)) (fl : List Fl) (tl : List (Bool × Nat)) (hm : P.follows .mixedOrders = true) (hs : Region.noSelect ops = true)
    (hok : okFlo ops fl tl l (Array.replicate ops.size false) = true) (hap : okAp ops fl l = true) (hal : okAl ops fl = true) (hl : l.length + fl.length + tl.length ≤ ops.size)
    (hQ : ∀ c (a : Act) (d : Tmp) v w, Q (.panic c) (a.put (some d) v) w → Q (.panic c) a w) (hQ' : ∀ c (a : Act) (d : Tmp) v w, Q (.panic c) a w → Q (.panic c) (a.put (some d) v) w) (hSa : ∀ w o, S w → S (w.alloc o)) (hS : S w.drew)
    (hz : ∀ f ∈ fl, ∀ w, (Instr.alloc f.ty true (.tuple #[])).run P w = .ok (.pointer (some ⟨w.heap.size, 0, none⟩)) (w.alloc (.cells f.zero f.ty)))
    (h : wpFlo P ops Q S (FloFin P ops Q S w.heap.size fl tl) l a w.drew) : (Code.region id ops true).wp P Q a w :=
  wp_region_held hm (wpFlo_sound hs hQ hQ' hSa w.heap.size fl tl hal hz _ l [] fl (fun _ => 0) _ _ _ _ (Nat.le_refl _) hl (by simp) hok hap hS (Nat.le_refl _) (fun f hf => by cases hf) (by simp) h)

theorem flo_nil {fin : Act → World → Prop} {a : Act} {w : World} (h : ∀ w1, Gr w w1 → S w1 → fin a w1) : wpFlo P ops Q S fin [] a w := h
theorem flo_pure {fin : Act → World → Prop} {i : Nat} {rest : List (Bool × Nat)} {a : Act} {w : World} {o : Oper} (d : Option Tmp) (v : Value) (ho : ops[i]? = some o) (hd : o.dst = d) (hg : o.guard = none)
    (hv : ∀ w, S w → (execOp a.eval o).run P w = .ok (.value v) w) (h : wpFlo P ops Q S fin rest (a.put d v) w) : wpFlo P ops Q S fin ((true, i) :: rest) a w :=
  ⟨o, v, ho, .inl ⟨by simp [Region.wanted, hg], hv⟩, by rw [hd]; exact h⟩
theorem flo_eff {fin : Act → World → Prop} {i : Nat} {rest : List (Bool × Nat)} {a : Act} {w : World} {o : Oper} (ho : ops[i]? = some o) (hg : o.guard = none)
    (h : ∀ w1, Gr w w1 → S w1 → ∀ K : Act → World → Prop, (∀ a w', Gr w1 w' → S w' → wpFlo P ops Q S fin rest a w' → K a w') → o.wp P a w1 K Q) : wpFlo P ops Q S fin ((false, i) :: rest) a w := by
  intro w1 hw1 hS
  unfold wpOp
  simp only [ho]
  rw [if_pos (by simp [Region.wanted, hg])]
  exact .inl (h w1 hw1 hS _ (fun a w h1 h2 h3 => ⟨h1, h2, h3⟩))
end
end Go.Proofs.YtloocadjbpgldaaGreatDoor
/- A region that draws its order, reads a variable and stores into it at the end: what only reads comes first, the calls wait for one another, and what the store turns is held till the store. -/
namespace Go.Proofs.YtloocadjbpgldaaGreatDoor
open Go.RowKit

section
variable {P : Program} {ops : Array Oper} {Q : Exit → Act → World → Prop} {S0 : World → Prop} {HS : List (List Nat × (World → Prop))}

/-- what is held of those entries that f says yes to -/
def heldAll (f : List Nat → Bool) : List (List Nat × (World → Prop)) → World → Prop
  | [], _ => True
  | x :: r, w => (f x.1 = true → x.2 w) ∧ heldAll f r w
theorem heldAll_mono {f g : List Nat → Bool} {w : World} : ∀ (HS : List (List Nat × (World → Prop))), (∀ x ∈ HS, g x.1 = true → f x.1 = true) → heldAll f HS w → heldAll g HS w
  | [], _, _ => trivial
  | x :: r, h, hh => ⟨fun hg => hh.1 (h x (by simp) hg), heldAll_mono r (fun y hy => h y (by simp [hy])) hh.2⟩
theorem heldAll_true {f : List Nat → Bool} {w : World} : ∀ {HS : List (List Nat × (World → Prop))}, heldAll (fun _ => true) HS w → heldAll f HS w :=
  fun {HS} h => heldAll_mono HS (fun _ _ _ => rfl) h
/-- none of these has come up -/
def fresh (listed : Array Bool) (TL : List Nat) : Bool := TL.all fun t => !listed.getD t true
/-- S0 holds always, what an entry says till one of its operations has come up -/
def Till (S0 : World → Prop) (HS : List (List Nat × (World → Prop))) (listed : Array Bool) (w : World) : Prop := S0 w ∧ heldAll (fresh listed) HS w
theorem fresh_set {listed : Array Bool} {i : Nat} {TL : List Nat} (hn : i ∉ TL) : fresh (listed.setIfInBounds i true) TL = fresh listed TL := by
  unfold fresh
  induction TL with
  | nil => rfl
  | cons t r ih =>
    simp only [List.all_cons]
    rw [ih (fun h => hn (by simp [h])), getD_set_ne true (fun e : i = t => hn (by simp [e]))]
theorem Till.set {listed : Array Bool} {i : Nat} {w : World} (hn : ∀ x ∈ HS, i ∉ x.1) (h : Till S0 HS listed w) : Till S0 HS (listed.setIfInBounds i true) w :=
  ⟨h.1, heldAll_mono HS (fun x hx hg => by rw [fresh_set (hn x hx)] at hg; exact hg) h.2⟩
theorem Till.unset {listed : Array Bool} {i : Nat} {w : World} (hn : ∀ x ∈ HS, i ∉ x.1) (h : Till S0 HS (listed.setIfInBounds i true) w) : Till S0 HS listed w :=
  ⟨h.1, heldAll_mono HS (fun x hx hg => by rw [fresh_set (hn x hx)]; exact hg) h.2⟩
theorem cameT {b : Bool} {p : Prop} (hb : b = false) : b = true → p := fun h => by rw [hb] at h; cases h

/-- Whatever order is picked from here on, and Till holds behind every operation. -/
def wpTill (P : Program) (ops : Array Oper) (Q : Exit → Act → World → Prop) (S0 : World → Prop) (HS : List (List Nat × (World → Prop))) : Nat → Array Bool → Act → World → Prop
  | 0, listed, a, w => Region.ready .any ops listed = [] ∧ Q .normal a w
  | fuel + 1, listed, a, w =>
    (Region.ready .any ops listed = [] → Q .normal a w) ∧
    ∀ i ∈ Region.ready .any ops listed, wpOp P ops Q i (fun a' w' => Till S0 HS (listed.setIfInBounds i true) w' ∧ wpTill P ops Q S0 HS fuel (listed.setIfInBounds i true) a' w') a w

theorem wpAny_of_till : ∀ (fuel : Nat) (listed : Array Bool) (a : Act) (w : World), wpTill P ops Q S0 HS fuel listed a w → wpAny P .any ops Q fuel listed a w
  | 0, _, _, _, h => h
  | fuel + 1, _, _, _, h => ⟨h.1, fun i hi => wpOp_mono (fun a' w' h' => wpAny_of_till fuel _ a' w' h'.2) (h.2 i hi)⟩

/-- what has come up has waited for what it waits for -/
def Closed (ops : Array Oper) (listed : Array Bool) : Prop := ∀ j oj, ops[j]? = some oj → listed.getD j true = true → ∀ e ∈ oj.after, Region.binds .any e = true → listed.getD e.on true = true

theorem Closed.set {listed : Array Bool} {i : Nat} (h : Closed ops listed) (hi : i ∈ Region.ready .any ops listed) : Closed ops (listed.setIfInBounds i true) := by
  intro j oj hj hl e he hb
  by_cases hij : i = j
  · subst hij
    obtain ⟨h0, o, ho, hall⟩ := mem_ready.1 hi
    rw [hj] at ho
    cases ho
    have := hall e he hb
    rcases Nat.lt_or_ge e.on listed.size with h' | h'
    · by_cases hie : i = e.on
      · rw [hie]; simp
      · rw [getD_set_ne true hie]; simpa [h'] using this
    · simp [Array.getElem?_eq_none h'] at this
  · rw [getD_set_ne true hij] at hl
    have := h j oj hj hl e he hb
    by_cases hie : i = e.on
    · rw [hie]; simp
    · rw [getD_set_ne true hie]; exact this

/-- t waits for i -/
def waits (ops : Array Oper) : Nat → Nat → Nat → Bool
  | 0, _, _ => false
  | n + 1, t, i => match ops[t]? with
    | some o => o.after.toList.any fun e => Region.binds .any e && (e.on == i || waits ops n e.on i)
    | none => false
theorem waits_closed {listed : Array Bool} {i : Nat} (h : Closed ops listed) (hi : listed.getD i true = false) : ∀ (n t : Nat), waits ops n t i = true → listed.getD t true = false := by
  intro n
  induction n with
  | zero => intro t ht; cases ht
  | succ n ih =>
    intro t ht
    unfold waits at ht
    split at ht
    · rename_i o ho
      obtain ⟨e, he, hp⟩ := List.any_eq_true.1 ht
      simp only [Bool.and_eq_true, Bool.or_eq_true, beq_iff_eq] at hp
      cases hl : listed.getD t true with
      | false => rfl
      | true =>
        have h1 := h t o ho hl e (by simpa using he) hp.1
        rcases hp.2 with h2 | h2
        · rw [h2, hi] at h1; cases h1
        · rw [ih _ h2] at h1; cases h1
    · cases ht

/-- An operation that only reads may be taken first, under what those who wait for it would end. -/
theorem wpTill_first {i : Nat} {oi : Oper} {v : Value} {SI : World → Prop} (hi : ops[i]? = some oi) (hsel : ∀ (j : Nat) (o : Oper) cs b, ops[j]? = some o → o.op ≠ .select cs b)
    (hQ : ∀ c a w, Q (.panic c) (a.put oi.dst v) w → Q (.panic c) a w)
    (hSI : ∀ listed w, Closed ops listed → listed.getD i true = false → Till S0 HS listed w → SI w) :
    ∀ (fuel : Nat) (listed : Array Bool) (a : Act) (w : World), Closed ops listed →
      (∀ j oj, ops[j]? = some oj → j ≠ i → listed.getD j true = false → (∀ e ∈ oj.after, Region.binds .any e = true → e.on ≠ i) → oi.apart ops oj = true) →
      i ∈ Region.ready .any ops listed → YieldsIf P ops SI oi v a → Till S0 HS listed w → (∀ x ∈ HS, i ∉ x.1) →
      wpTill P ops Q S0 HS fuel (listed.setIfInBounds i true) (a.put oi.dst v) w → wpTill P ops Q S0 HS (fuel + 1) listed a w := by
  intro fuel
  induction fuel with
  | zero =>
    intro listed a w hcl _ hr hy hS hn H
    refine ⟨fun h => (by rw [h] at hr; cases hr), fun j hj => ?_⟩
    by_cases hji : j = i
    · subst hji; exact hy.wpOp hi (hSI listed w hcl (mem_ready.1 hr).1 hS) ⟨hS.set hn, H⟩
    · have := ready_mono hj hji
      rw [H.1] at this
      cases this
  | succ fuel ih =>
    intro listed a w hcl hfree hr hy hS hn H
    refine ⟨fun h => (by rw [h] at hr; cases hr), fun j hj => ?_⟩
    by_cases hji : j = i
    · subst hji; exact hy.wpOp hi (hSI listed w hcl (mem_ready.1 hr).1 hS) ⟨hS.set hn, H⟩
    · have h1 := H.2 j (ready_mono hj hji)
      obtain ⟨hjun, oj, hoj, hall⟩ := mem_ready.1 hj
      have hnot : ∀ e ∈ oj.after, Region.binds .any e = true → e.on ≠ i := fun e he hb heq => by
        have h1 := hall e he hb
        have h0 := (mem_ready.1 hr).1
        rw [heq] at h1
        rcases Nat.lt_or_ge i listed.size with h' | h'
        · simp [h'] at h0 h1; rw [h0] at h1; cases h1
        · simp [Array.getElem?_eq_none h'] at h1
      have h2 := wpOp_putIf hoj (hfree j oj hoj hji hjun hnot) (fun cs b => hsel i oi cs b hi) (fun cs b => hsel j oj cs b hoj) hQ hy h1
      have hfree' : ∀ k ok, ops[k]? = some ok → k ≠ i → (listed.setIfInBounds j true).getD k true = false →
          (∀ e ∈ ok.after, Region.binds .any e = true → e.on ≠ i) → oi.apart ops ok = true := fun k ok hk hki hun hno => by
        refine hfree k ok hk hki ?_ hno
        by_cases hjk : j = k
        · subst hjk; exact hjun
        · rw [getD_set_ne true hjk] at hun; exact hun
      refine wpOp_mono (fun a' w' h3 => ?_) h2
      have hT : Till S0 HS (listed.setIfInBounds j true) w' := by
        have := h3.2.1
        rw [Array.setIfInBounds_comm _ _ (Ne.symm hji)] at this
        exact this.unset hn
      refine ⟨hT, ih (listed.setIfInBounds j true) a' w' (hcl.set hj) hfree' (ready_mono hr (Ne.symm hji)) h3.1 hT hn ?_⟩
      rw [Array.setIfInBounds_comm _ _ hji]
      exact h3.2.2

/-- Is this an order that speaks for all? (false: an operation with an effect; true: one that only reads) -/
def okTill (ops : Array Oper) (TLs : List (List Nat)) : List (Bool × Nat) → Array Bool → Bool
  | [], listed => (Region.ready .any ops listed).isEmpty
  | (true, i) :: rest, listed => (Region.ready .any ops listed).contains i && Region.free .any ops listed i && TLs.all (fun x => !x.contains i) && okTill ops TLs rest (listed.setIfInBounds i true)
  | (false, i) :: rest, listed => decide (Region.ready .any ops listed = [i]) && okTill ops TLs rest (listed.setIfInBounds i true)

/-- all of these wait for i -/
def allWait (ops : Array Oper) (i : Nat) (TL : List Nat) : Bool := TL.all fun t => waits ops ops.size t i
/-- The walk in that order. -/
def wpOrt (P : Program) (ops : Array Oper) (Q : Exit → Act → World → Prop) (S0 : World → Prop) (HS : List (List Nat × (World → Prop))) : List (Bool × Nat) → Array Bool → Act → World → Prop
  | [], _, a, w => Q .normal a w
  | (true, i) :: rest, listed, a, w => ∃ o v, ops[i]? = some o ∧ YieldsIf P ops (fun w => S0 w ∧ heldAll (allWait ops i) HS w) o v a ∧ wpOrt P ops Q S0 HS rest (listed.setIfInBounds i true) (a.put o.dst v) w
  | (false, i) :: rest, listed, a, w => wpOp P ops Q i (fun a' w' => Till S0 HS (listed.setIfInBounds i true) w' ∧ wpOrt P ops Q S0 HS rest (listed.setIfInBounds i true) a' w') a w

theorem wpOrt_sound (hs : Region.noSelect ops = true) (hQ : ∀ c (a : Act) (d : Tmp) v w, Q (.panic c) (a.put (some d) v) w → Q (.panic c) a w) :
    ∀ (l : List (Bool × Nat)) (fuel : Nat) (listed : Array Bool) (a : Act) (w : World), l.length ≤ fuel → Closed ops listed → okTill ops (HS.map (·.1)) l listed = true → Till S0 HS listed w → wpOrt P ops Q S0 HS l listed a w →
      wpTill P ops Q S0 HS fuel listed a w := by
  have hQd : ∀ c (a : Act) (d : Option Tmp) v w, Q (.panic c) (a.put d v) w → Q (.panic c) a w := by
    intro c a d v w h
    cases d with
    | none => exact h
    | some d => exact hQ c a d v w h
  intro l
  induction l with
  | nil =>
    intro fuel listed a w _ _ hok _ h
    have hr : Region.ready .any ops listed = [] := by simpa [okTill] using hok
    cases fuel with
    | zero => exact ⟨hr, h⟩
    | succ n => exact ⟨fun _ => h, by rw [hr]; simp⟩
  | cons x rest ih =>
    intro fuel listed a w hl hcl hok hS h
    obtain ⟨fuel, rfl⟩ : ∃ n, fuel = n + 1 := ⟨fuel - 1, by simp at hl; omega⟩
    obtain ⟨b, i⟩ := x
    cases b with
    | true =>
      simp only [okTill, Bool.and_eq_true, List.all_eq_true] at hok
      obtain ⟨⟨⟨hr, hf⟩, hn⟩, hrest⟩ := hok
      obtain ⟨o, v, ho, hy, hr'⟩ := h
      have hrm : i ∈ Region.ready .any ops listed := by simpa using hr
      have hn' : ∀ x ∈ HS, i ∉ x.1 := fun x hx => by simpa using hn x.1 (List.mem_map.2 ⟨x, hx, rfl⟩)
      refine wpTill_first ho (Region.noSelect_spec hs) (fun c a w h => hQd c a o.dst v w h)
        (fun listed w hc h0 hT => ⟨hT.1, heldAll_mono HS (fun x _ hg => by
            unfold allWait at hg
            unfold fresh
            rw [List.all_eq_true] at hg ⊢
            intro t ht
            rw [waits_closed hc h0 _ t (hg t ht)]; rfl) hT.2⟩) fuel listed a w hcl (Region.free_spec ho hf) hrm hy hS hn' ?_
      exact ih fuel _ _ _ (by simpa using hl) (hcl.set hrm) hrest (hS.set hn') hr'
    | false =>
      simp only [okTill, Bool.and_eq_true, decide_eq_true_eq] at hok
      refine ⟨fun h0 => (by rw [hok.1] at h0; cases h0), fun j hj => ?_⟩
      have hji : j = i := by rw [hok.1] at hj; simpa using hj
      subst hji
      refine wpOp_mono (fun a' w' h' => ?_) h
      exact ⟨h'.1, ih fuel _ _ _ (by simpa using hl) (hcl.set hj) hok.2 h'.1 h'.2⟩

theorem wp_region_ort {id : Nat} {a : Act} {w : World} (S0 : World → Prop) (HS : List (List Nat × (World → Prop))) (l : List (Bool × Nat)) (hm : P.follows .mixedOrders = true) (hs : Region.noSelect ops = true)
    (hok : okTill ops (HS.map (·.1)) l (Array.replicate ops.size false) = true) (hl : l.length ≤ ops.size) (hQ : ∀ c (a : Act) (d : Tmp) v w, Q (.panic c) (a.put (some d) v) w → Q (.panic c) a w) (hS0 : S0 w.drew) (hS1 : heldAll (fun _ => true) HS w.drew)
    (h : wpOrt P ops Q S0 HS l (Array.replicate ops.size false) a w.drew) : (Code.region id ops true).wp P Q a w :=
  wp_region_any hm (wpAny_of_till _ _ _ _ (wpOrt_sound hs hQ l _ _ _ _ hl (fun j oj hj hlj e he _ => by
      have hjs := (Array.getElem?_eq_some_iff.1 hj).1
      have : (Array.replicate ops.size false).getD j true = false := by simp [hjs]
      rw [this] at hlj; cases hlj) hok ⟨hS0, heldAll_true hS1⟩ h))

theorem ort_nil {a : Act} {w : World} {listed : Array Bool} (h : Q .normal a w) : wpOrt P ops Q S0 HS [] listed a w := h
theorem ort_pure {i : Nat} {rest : List (Bool × Nat)} {listed : Array Bool} {a : Act} {w : World} {o : Oper} (d : Option Tmp) (v : Value) (ho : ops[i]? = some o) (hd : o.dst = d) (hg : Region.wanted o (yielded ops a.tmps) = true)
    (hv : ∀ w, S0 w ∧ heldAll (allWait ops i) HS w → (execOp a.eval o).run P w = .ok (.value v) w) (h : wpOrt P ops Q S0 HS rest (listed.setIfInBounds i true) (a.put d v) w) : wpOrt P ops Q S0 HS ((true, i) :: rest) listed a w :=
  ⟨o, v, ho, .inl ⟨hg, hv⟩, by rw [hd]; exact h⟩
theorem ort_skip {i : Nat} {rest : List (Bool × Nat)} {listed : Array Bool} {a : Act} {w : World} {o : Oper} (d : Option Tmp) (ho : ops[i]? = some o) (hd : o.dst = d) (hg : Region.wanted o (yielded ops a.tmps) = false)
    (h : wpOrt P ops Q S0 HS rest (listed.setIfInBounds i true) (a.put d undef) w) : wpOrt P ops Q S0 HS ((true, i) :: rest) listed a w :=
  ⟨o, undef, ho, .inr ⟨hg, rfl⟩, by rw [hd]; exact h⟩
theorem ort_eff {i : Nat} {rest : List (Bool × Nat)} {listed : Array Bool} {a : Act} {w : World} {o : Oper} (ho : ops[i]? = some o) (hg : Region.wanted o (yielded ops a.tmps) = true)
    (h : ∀ K : Act → World → Prop, (∀ a w, S0 w → heldAll (fresh (listed.setIfInBounds i true)) HS w → wpOrt P ops Q S0 HS rest (listed.setIfInBounds i true) a w → K a w) → o.wp P a w K Q) : wpOrt P ops Q S0 HS ((false, i) :: rest) listed a w := by
  unfold wpOrt wpOp
  simp only [ho]
  rw [if_pos hg]
  exact .inl (h _ (fun a w h0 h1 h2 => ⟨⟨h0, h1⟩, h2⟩))
theorem ort_effskip {i : Nat} {rest : List (Bool × Nat)} {listed : Array Bool} {a : Act} {w : World} {o : Oper} (d : Option Tmp) (ho : ops[i]? = some o) (hd : o.dst = d) (hg : Region.wanted o (yielded ops a.tmps) = false)
    (hS0 : S0 w) (hS1 : heldAll (fresh (listed.setIfInBounds i true)) HS w) (h : wpOrt P ops Q S0 HS rest (listed.setIfInBounds i true) (a.put d undef) w) : wpOrt P ops Q S0 HS ((false, i) :: rest) listed a w := by
  subst hd
  unfold wpOrt wpOp
  simp only [ho]
  rw [if_neg (by rw [hg]; decide)]
  exact ⟨⟨hS0, hS1⟩, h⟩

/-! ### floating variables: what the tail is given -/
theorem floFin1 {B : Nat} {tl : List (Bool × Nat)} {a : Act} {w : World} {o1 s1 t1 : Nat} {z1 : Array Value}
    (h : ∀ b1, w.heap[b1]? = some (.cells z1 t1) → B ≤ b1 → wpOrd P ops Q S0 tl (a.put (some s1) (.pointer (some ⟨b1, 0, none⟩))) w) : FloFin P ops Q S0 B [⟨o1, s1, t1, z1⟩] tl a w :=
  fun ps hf _ => h (ps o1) (hf ⟨o1, s1, t1, z1⟩ (by simp)).1 (hf ⟨o1, s1, t1, z1⟩ (by simp)).2
theorem floFin2 {B : Nat} {tl : List (Bool × Nat)} {a : Act} {w : World} {o1 s1 t1 o2 s2 t2 : Nat} {z1 z2 : Array Value}
    (h : ∀ b1 b2, w.heap[b1]? = some (.cells z1 t1) → B ≤ b1 → w.heap[b2]? = some (.cells z2 t2) → B ≤ b2 → b1 ≠ b2 →
      wpOrd P ops Q S0 tl ((a.put (some s1) (.pointer (some ⟨b1, 0, none⟩))).put (some s2) (.pointer (some ⟨b2, 0, none⟩))) w) : FloFin P ops Q S0 B [⟨o1, s1, t1, z1⟩, ⟨o2, s2, t2, z2⟩] tl a w :=
  fun ps hf hn => h (ps o1) (ps o2) (hf ⟨o1, s1, t1, z1⟩ (by simp)).1 (hf ⟨o1, s1, t1, z1⟩ (by simp)).2 (hf ⟨o2, s2, t2, z2⟩ (by simp)).1 (hf ⟨o2, s2, t2, z2⟩ (by simp)).2 (by simp at hn; omega)
theorem floFin3 {B : Nat} {tl : List (Bool × Nat)} {a : Act} {w : World} {o1 s1 t1 o2 s2 t2 o3 s3 t3 : Nat} {z1 z2 z3 : Array Value}
    (h : ∀ b1 b2 b3, w.heap[b1]? = some (.cells z1 t1) → B ≤ b1 → w.heap[b2]? = some (.cells z2 t2) → B ≤ b2 → w.heap[b3]? = some (.cells z3 t3) → B ≤ b3 → b1 ≠ b2 → b1 ≠ b3 → b2 ≠ b3 →
      wpOrd P ops Q S0 tl (((a.put (some s1) (.pointer (some ⟨b1, 0, none⟩))).put (some s2) (.pointer (some ⟨b2, 0, none⟩))).put (some s3) (.pointer (some ⟨b3, 0, none⟩))) w) :
    FloFin P ops Q S0 B [⟨o1, s1, t1, z1⟩, ⟨o2, s2, t2, z2⟩, ⟨o3, s3, t3, z3⟩] tl a w :=
  fun ps hf hn => h (ps o1) (ps o2) (ps o3) (hf ⟨o1, s1, t1, z1⟩ (by simp)).1 (hf ⟨o1, s1, t1, z1⟩ (by simp)).2 (hf ⟨o2, s2, t2, z2⟩ (by simp)).1 (hf ⟨o2, s2, t2, z2⟩ (by simp)).2 (hf ⟨o3, s3, t3, z3⟩ (by simp)).1 (hf ⟨o3, s3, t3, z3⟩ (by simp)).2
    (by simp at hn; omega) (by simp at hn; omega) (by simp at hn; omega)
theorem floFin4 {B : Nat} {tl : List (Bool × Nat)} {a : Act} {w : World} {o1 s1 t1 o2 s2 t2 o3 s3 t3 o4 s4 t4 : Nat} {z1 z2 z3 z4 : Array Value}
    (h : ∀ b1 b2 b3 b4, w.heap[b1]? = some (.cells z1 t1) → B ≤ b1 → w.heap[b2]? = some (.cells z2 t2) → B ≤ b2 → w.heap[b3]? = some (.cells z3 t3) → B ≤ b3 → w.heap[b4]? = some (.cells z4 t4) → B ≤ b4 →
      b1 ≠ b2 → b1 ≠ b3 → b2 ≠ b3 → b1 ≠ b4 → b2 ≠ b4 → b3 ≠ b4 →
      wpOrd P ops Q S0 tl ((((a.put (some s1) (.pointer (some ⟨b1, 0, none⟩))).put (some s2) (.pointer (some ⟨b2, 0, none⟩))).put (some s3) (.pointer (some ⟨b3, 0, none⟩))).put (some s4) (.pointer (some ⟨b4, 0, none⟩))) w) :
    FloFin P ops Q S0 B [⟨o1, s1, t1, z1⟩, ⟨o2, s2, t2, z2⟩, ⟨o3, s3, t3, z3⟩, ⟨o4, s4, t4, z4⟩] tl a w :=
  fun ps hf hn => h (ps o1) (ps o2) (ps o3) (ps o4) (hf ⟨o1, s1, t1, z1⟩ (by simp)).1 (hf ⟨o1, s1, t1, z1⟩ (by simp)).2 (hf ⟨o2, s2, t2, z2⟩ (by simp)).1 (hf ⟨o2, s2, t2, z2⟩ (by simp)).2 (hf ⟨o3, s3, t3, z3⟩ (by simp)).1 (hf ⟨o3, s3, t3, z3⟩ (by simp)).2
    (hf ⟨o4, s4, t4, z4⟩ (by simp)).1 (hf ⟨o4, s4, t4, z4⟩ (by simp)).2
    (by simp at hn; omega) (by simp at hn; omega) (by simp at hn; omega) (by simp at hn; omega) (by simp at hn; omega) (by simp at hn; omega)
/-- a new variable's zero -/
theorem alloc_zero {t : TypeId} {z : Value} {cs : Array Value} (hz : (P.info? t).map (·.zero) = some (some z)) (hv : z.cells = cs) (w : World) :
    (Instr.alloc t true (.tuple #[])).run P w = .ok (.pointer (some ⟨w.heap.size, 0, none⟩)) (w.alloc (.cells cs t)) := by
  subst hv
  obtain ⟨i, hi, hzz⟩ := Option.map_eq_some_iff.1 hz
  simp [Instr.alloc, zeroValue, typeInfo, newVar, newRow, Sem.run_bind, Result.andThen_ok, Sem.run_pure, run_program, hi, hzz]
theorem flo_pureg {fin : Act → World → Prop} {i : Nat} {rest : List (Bool × Nat)} {a : Act} {w : World} {o : Oper} (d : Option Tmp) (v : Value) (ho : ops[i]? = some o) (hd : o.dst = d) (hg : Region.wanted o (yielded ops a.tmps) = true)
    (hv : ∀ w, S0 w → (execOp a.eval o).run P w = .ok (.value v) w) (h : wpFlo P ops Q S0 fin rest (a.put d v) w) : wpFlo P ops Q S0 fin ((true, i) :: rest) a w :=
  ⟨o, v, ho, .inl ⟨hg, hv⟩, by rw [hd]; exact h⟩
end
end Go.Proofs.YtloocadjbpgldaaGreatDoor
/- The walk's steps, each with its value written out: for walks that a program prints. -/
namespace Go.Proofs.YtloocadjbpgldaaGreatDoor
open Go.RowKit

section
variable {P : Program} {a : Act} {o : Oper} {w : World} {Q : Exit → Act → World → Prop} {K : Act → World → Prop} {ops : Array Oper}

/-- an operation leaves v and nothing else -/
def RunV (P : Program) (a : Act) (o : Oper) (w : World) (v : Value) : Prop := (execOp a.eval o).run P w = .ok (.value v) w
theorem rvk {v : Value} (h : (execOp a.eval o).run P w = .ok (.value v) w) : RunV P a o w v := h
theorem RunV.int {k : IntKind} {x y : Int} (h : RunV P a o w (.int k x)) (e : x = y) : RunV P a o w (.int k y) := e ▸ h
theorem RunV.bool {x y : Bool} (h : RunV P a o w (.bool x)) (e : x = y) : RunV P a o w (.bool y) := e ▸ h

/-- a variable of the call's own: the whole block -/
def Lc (w : World) (b : Nat) (cs : Array Value) (t : TypeId) : Prop := w.heap[b]? = some (.cells cs t)
theorem Lc.gr {w w' : World} {b : Nat} {cs : Array Value} {t : TypeId} (h : Lc w b cs t) (g : Gr w w') : Lc w' b cs t := g.heap h
theorem Lc.lt {w : World} {b : Nat} {cs : Array Value} {t : TypeId} (h : Lc w b cs t) : b < w.heap.size := heap_lt h
theorem Lc.ne {w : World} {b c : Nat} {cs : Array Value} {t : TypeId} (h : Lc w b cs t) (hc : w.heap.size ≤ c) : b ≠ c := fun e => by have := h.lt; omega

/-- is it a row of k cells? -/
def aggSize (P : Program) (t : TypeId) : Option Nat :=
  match P.underlying t with
  | some (.struct _) | some (.array _ _) => (P.info? t).map (·.size)
  | _ => none
def oneSize (P : Program) (t : TypeId) : Bool :=
  match P.underlying t with
  | some (.struct _) | some (.array _ _) => false
  | some _ => (P.info? t).map (·.size) == some 1
  | none => false

theorem rangeAt_of {cs : Array Value} {t : TypeId} {b : Nat} (h : Lc w b cs t) (off : Nat) (vs : List Value) (hv : (cs.toList.drop off).take vs.length = vs) : w.rangeAt b off vs := by
  intro j v hj
  have hj' : j < vs.length := (List.getElem?_eq_some_iff.1 hj).1
  rw [cells_of h, ← hj]
  have h1 : ((cs.toList.drop off).take vs.length)[j]? = vs[j]? := by rw [hv]
  rw [List.getElem?_take_of_lt hj', List.getElem?_drop] at h1
  rw [← h1]; simp

theorem rv_load (t : TypeId) (x : Operand) (b off : Nat) (cs : Array Value) (tt : TypeId) (vs : List Value) (hop : o.op = .load t x) (hx : a.eval x = .pointer (some ⟨b, off, none⟩))
    (hL : Lc w b cs tt) (hv : (cs.toList.drop off).take vs.length = vs) (hs : aggSize P t = some vs.length) : RunV P a o w (.agg vs.toArray) := by
  unfold aggSize at hs
  have hr := rangeAt_of hL off vs hv
  unfold RunV
  cases hd : P.underlying t with
  | none => rw [hd] at hs; cases hs
  | some d =>
    rw [hd] at hs
    have hrow : d.isRow = true ∧ (P.info? t).map (·.size) = some vs.length := by
      cases d <;> first | cases hs | exact ⟨rfl, hs⟩
    unfold execOp
    simp only [hop, hx, Instr.loadAt, Instr.sureAddr, Sem.run_bind, Sem.run_pure, Result.andThen_ok, run_loadVar_mid w b off t vs d hr hd hrow.1 hrow.2]
theorem rv_load1 (t : TypeId) (x : Operand) (b off : Nat) (cs : Array Value) (tt : TypeId) (v : Value) (hop : o.op = .load t x) (hx : a.eval x = .pointer (some ⟨b, off, none⟩))
    (hL : Lc w b cs tt) (hv : cs[off]? = some v) (hs : oneSize P t = true) : RunV P a o w v := by
  unfold oneSize at hs
  have hc : w.cell? ⟨b, off, none⟩ = some v := by rw [cells_of hL]; exact hv
  unfold RunV
  cases hd : P.underlying t with
  | none => rw [hd] at hs; cases hs
  | some d =>
    rw [hd] at hs
    have hagg : (isAgg t).run P w = .ok false w := by
      unfold isAgg
      rw [Sem.run_bind, run_underlying hd w]
      cases d <;> first | cases hs | rfl
    unfold execOp
    simp only [hop, hx, Instr.loadAt, Instr.sureAddr, Sem.run_bind, Sem.run_pure, Result.andThen_ok, loadVar, hagg]
    simp [load, Sem.run, hc]

/-! ### plain regions -/
theorem sq_nil (h : Q .normal a w) : wpOps P ops Q [] a w := h
theorem sq_val {i : Nat} {rest : List Nat} (d : Option Tmp) (v : Value) (ho : ops[i]? = some o) (hd : o.dst = d) (hw : Region.wanted o (yielded ops a.tmps) = true) (hv : RunV P a o w v)
    (h : wpOps P ops Q rest (a.put d v) w) : wpOps P ops Q (i :: rest) a w := by
  rw [wpOps_cons]
  subst hd
  unfold wpOp
  simp only [ho, hw, if_true]
  refine .inl ?_
  unfold Oper.wp
  rw [hv]
  exact h
theorem sq_skip {i : Nat} {rest : List Nat} (d : Option Tmp) (ho : ops[i]? = some o) (hd : o.dst = d) (hw : Region.wanted o (yielded ops a.tmps) = false)
    (h : wpOps P ops Q rest (a.put d undef) w) : wpOps P ops Q (i :: rest) a w := by
  rw [wpOps_cons]
  subst hd
  unfold wpOp
  simp only [ho, hw]
  exact h
theorem sq_eff {i : Nat} {rest : List Nat} (ho : ops[i]? = some o) (hw : Region.wanted o (yielded ops a.tmps) = true)
    (h : ∀ K : Act → World → Prop, (∀ a w, wpOps P ops Q rest a w → K a w) → o.wp P a w K Q) : wpOps P ops Q (i :: rest) a w := by
  rw [wpOps_cons]
  unfold wpOp
  simp only [ho, hw, if_true]
  exact .inl (h _ (fun _ _ h => h))

/-! ### what an operation does to the world -/
theorem eff_call {f : FuncId} {args : Array Value} {R : Ending → World → Prop} (d : Option Tmp) (hd : o.dst = d) (hrun : (execOp a.eval o).run P w = .ok (.enter f args) w) (hc : Calls P f args w R)
    (h : ∀ e w', R e w' → ∃ v, e = .returned v ∧ K (a.put d v) w') : o.wp P a w K Q := by
  subst hd
  unfold Oper.wp
  rw [hrun]
  simp only [Oper.upon]
  refine hc.mono fun e w' he => ?_
  obtain ⟨v, rfl, hk⟩ := h e w' he
  exact hk
theorem run_newRow (w : World) (t : TypeId) (cs : Array Value) : (newRow t cs).run P w = .ok ⟨w.heap.size, 0, none⟩ (w.alloc (.cells cs t)) := by
  simp [newRow]
theorem eff_box (t : TypeId) (x : Operand) (v : Value) (cs : Array Value) (d : Option Tmp) (hd : o.dst = d) (hop : o.op = .box t x) (hx : a.eval x = v) (hv : v.cells = cs)
    (h : ∀ b w', Gr w w' → Lc w' b cs t → w.heap.size ≤ b → K (a.put d (.pointer (some ⟨b, 0, none⟩))) w') : o.wp P a w K Q := by
  subst hd hx hv
  unfold Oper.wp execOp
  simp only [hop, Instr.box, newVar, Sem.run_bind, run_newRow, Result.andThen_ok, Sem.run_pure]
  exact h _ _ (Gr.alloc w _) (heap_alloc_new w _) (Nat.le_refl _)
theorem eff_alloc (t : TypeId) (z : Value) (cs : Array Value) (d : Option Tmp) (hd : o.dst = d) (hop : o.op = .alloc t) (hz : (P.info? t).map (·.zero) = some (some z)) (hv : z.cells = cs)
    (h : ∀ b w', Gr w w' → Lc w' b cs t → w.heap.size ≤ b → K (a.put d (.pointer (some ⟨b, 0, none⟩))) w') : o.wp P a w K Q := by
  subst hd hv
  obtain ⟨i, hi, hzz⟩ := Option.map_eq_some_iff.1 hz
  unfold Oper.wp execOp
  simp only [hop, Instr.alloc, zeroValue, typeInfo, newVar, Sem.run_bind, run_newRow, Result.andThen_ok, Sem.run_pure, run_program, hi, hzz]
  exact h _ _ (Gr.alloc w _) (heap_alloc_new w _) (Nat.le_refl _)

theorem eff_make (t e : TypeId) (z : Value) (L C sz : Nat) (cs : Array Value) (d : Option Tmp) {x y : Operand} (hd : o.dst = d) (hop : o.op = .makeSlice t x y) (hx : a.eval x = .int .i64 L) (hy : a.eval y = .int .i64 C) (hu : P.underlying t = some (.slice e))
    (hi : (P.info? e).map (fun i => (i.zero, i.size, decide (i.bytes * C ≤ 281474976710656))) = some (some z, sz, true)) (hL : decide (L ≤ C ∧ C ≤ 9223372036854775807) = true) (hcs : madeCells z.cells (C * sz) = cs)
    (h : ∀ b w', Gr w w' → Lc w' b cs e → w.heap.size ≤ b → K (a.put d (.slice (some ⟨b, 0, none⟩) L C)) w') : o.wp P a w K Q := by
  subst hd hcs
  obtain ⟨i, hi, hzz⟩ := Option.map_eq_some_iff.1 hi
  simp only [Prod.mk.injEq, decide_eq_true_eq] at hzz hL
  have hrun := run_make (P := P) w t e i z hu hi hzz.1 .i64 .i64 (L : Int) (C : Int) (by omega) (by omega) (by have h3 := hzz.2.2; rw [← Int.natCast_mul]; generalize i.bytes * C = q at *; omega) (by omega)
  rw [hzz.2.1] at hrun
  unfold Oper.wp execOp
  simp only [hop, hx, hy, Sem.run_bind, hrun, Result.andThen_ok, Sem.run_pure, Int.toNat_natCast]
  exact h _ _ (Gr.alloc w _) (heap_alloc_new w _) (Nat.le_refl _)

/-- w' is w but for block b -/
structure St (w w' : World) (b : Nat) : Prop where
  os : w'.os = w.os
  tape : w'.tape = w.tape
  output : w'.output = w.output
  size : w'.heap.size = w.heap.size
  block : ∀ k, k ≠ b → w'.heap[k]? = w.heap[k]?
theorem St.refl (w : World) (b : Nat) : St w w b := ⟨rfl, rfl, rfl, rfl, fun _ _ => rfl⟩
theorem St.trans {w1 w2 w3 : World} {b : Nat} (h : St w1 w2 b) (k : St w2 w3 b) : St w1 w3 b :=
  ⟨k.os.trans h.os, k.tape.trans h.tape, k.output.trans h.output, k.size.trans h.size, fun i hi => (k.block i hi).trans (h.block i hi)⟩
theorem St.setCell (w : World) (b i : Nat) (v : Value) : St w (w.setCell ⟨b, i, none⟩ v) b :=
  ⟨rfl, rfl, rfl, by simp, fun k hk => Below.heap_setCell _ _ _ _ hk⟩
theorem St.setCells (b : Nat) : ∀ (vs : List Value) (off : Nat) (w : World), St w (w.setCells b off vs) b
  | [], _, w => St.refl w b
  | v :: vs, off, w => (St.setCell w b off v).trans (St.setCells b vs (off + 1) _)
/-- a store into a block that is newer than w0 -/
theorem St.gr {w0 w w' : World} {b : Nat} (h : St w w' b) (g : Gr w0 w) (hb : w0.heap.size ≤ b) : Gr w0 w' :=
  Below.trans g ⟨h.os, h.tape, h.output, Nat.le_of_eq h.size.symm, fun k hk => h.block k (by omega)⟩
theorem St.below {B : Nat} {w0 w w' : World} {b : Nat} (h : St w w' b) (g : Below B w0 w) (hb : B ≤ b) : Below B w0 w' :=
  Below.trans g ⟨h.os, h.tape, h.output, Nat.le_of_eq h.size.symm, fun k hk => h.block k (by omega)⟩
theorem St.lc {w w' : World} {b c : Nat} {cs : Array Value} {t : TypeId} (h : St w w' b) (hL : Lc w c cs t) (hne : c ≠ b) : Lc w' c cs t := (h.block c hne).trans hL
theorem St.kp {w w' : World} {b : Nat} {cs : Array Value} {t : TypeId} (h : St w w' b) (hL : Lc w b cs t) (ht : t ≠ 83) : Kp w w' := fun c ds fr hc => by
  by_cases e : c = b
  · subst e
    unfold Lc at hL
    rw [hc] at hL
    simp only [Option.some.injEq, Obj.cells.injEq] at hL
    exact absurd hL.2.1.symm ht
  · exact (h.block c e).trans hc

/-- each is one cell -/
def One1 : List Value → Prop
  | [] => True
  | v :: vs => v.oneCell' = true ∧ One1 vs
theorem One1.all : ∀ {vs : List Value}, One1 vs → ∀ v ∈ vs, v.oneCell' = true
  | [], _, _, h => by cases h
  | u :: vs, h, v, hv => by
    rcases List.mem_cons.1 hv with rfl | hv
    · exact h.1
    · exact One1.all h.2 v hv
def writeAt (cs : Array Value) : Nat → List Value → Array Value
  | _, [] => cs
  | off, v :: vs => writeAt (cs.setIfInBounds off v) (off + 1) vs
theorem heap_setCells {b : Nat} {t : TypeId} {fr : Nat × Nat} : ∀ (vs : List Value) (off : Nat) {w : World} {cs : Array Value}, w.heap[b]? = some (.cells cs t fr) → (w.setCells b off vs).heap[b]? = some (.cells (writeAt cs off vs) t fr)
  | [], _, _, _, h => h
  | v :: vs, off, _, _, h => heap_setCells vs (off + 1) (heap_setCell_at v h)

theorem eff_store (t : TypeId) (x y : Operand) (b off : Nat) (v : Value) (vs : List Value) (cs cs' : Array Value) (tt : TypeId) (hop : o.op = .store t x y) (hd : o.dst = none) (hx : a.eval x = .pointer (some ⟨b, off, none⟩)) (hy : a.eval y = v) (hv : v.cells = vs.toArray)
    (hL : Lc w b cs tt) (hs : (P.info? t).map (·.size) = some vs.length) (hoff : off + vs.length ≤ cs.size) (h1 : One1 vs) (hcs : writeAt cs off vs = cs')
    (h : ∀ w', St w w' b → Lc w' b cs' tt → K a w') : o.wp P a w K Q := by
  subst hcs
  obtain ⟨i, hi, hsz⟩ := Option.map_eq_some_iff.1 hs
  have hrun : (storeVar t ⟨b, off, none⟩ v).run P w = .ok () (w.setCells b off vs) := by
    have := run_storeCells_cells (P := P) b off vs 0 w (fun j hj => by rw [Nat.add_zero, cells_of hL]; simp; omega) (fun j hj => free_of hL _) h1.all
    simp only [Nat.add_zero] at this
    simp [storeVar, sizeOf, typeInfo, hi, hv, hsz, this]
  unfold Oper.wp execOp
  simp only [hop, hx, hy, Instr.storeAt, Instr.sureAddr, Sem.run_bind, Sem.run_pure, Result.andThen_ok, hrun, Oper.upon, hd, Act.put]
  exact h _ (St.setCells b vs off w) (heap_setCells vs off hL)

/-! ### results -/
theorem run_load_lc {t : TypeId} {b : Nat} {cs : Array Value} {tt : TypeId} (hL : Lc w b cs tt) (hs : aggSize P t = some cs.size) : (loadVar t ⟨b, 0, none⟩).run P w = .ok (.agg cs) w := by
  unfold aggSize at hs
  have hr := rangeAt_of hL 0 cs.toList (by rw [List.drop_zero, List.take_length])
  cases hd : P.underlying t with
  | none => rw [hd] at hs; cases hs
  | some d =>
    rw [hd] at hs
    have hrow : d.isRow = true ∧ (P.info? t).map (·.size) = some cs.toList.length := by
      rw [Array.length_toList]
      cases d <;> first | cases hs | exact ⟨rfl, hs⟩
    have := run_loadVar_mid w b 0 t cs.toList d hr hd hrow.1 hrow.2
    simpa using this
theorem ret_cell {fn : Func} {tmps : Array Value} {p : Tmp} {t : TypeId} (b : Nat) (cs : Array Value) (tt : TypeId) (h : fn.results = #[.cell p t]) (hp : tmps.getD p undef = .pointer (some ⟨b, 0, none⟩)) (hL : Lc w b cs tt) (hs : aggSize P t = some cs.size) :
    (results fn tmps).run P w = .ok (.agg cs) w := by
  have := run_load_lc hL hs
  simp only [Array.getD_eq_getD_getElem?] at hp ⊢
  simp [results, h, asAddr, hp, this]
theorem ret_cell_tmp {fn : Func} {tmps : Array Value} {p u : Tmp} {t : TypeId} (b : Nat) (cs : Array Value) (tt : TypeId) (h : fn.results = #[.cell p t, .tmp u]) (hp : tmps.getD p undef = .pointer (some ⟨b, 0, none⟩)) (hL : Lc w b cs tt) (hs : aggSize P t = some cs.size) :
    (results fn tmps).run P w = .ok (.tuple #[.agg cs, tmps.getD u undef]) w := by
  have := run_load_lc hL hs
  simp only [Array.getD_eq_getD_getElem?] at hp ⊢
  simp [results, h, asAddr, hp, this]
theorem ret_cell2_tmp {fn : Func} {tmps : Array Value} {p q u : Tmp} {t t2 : TypeId} (b c : Nat) (cs ds : Array Value) (tt tt2 : TypeId) (h : fn.results = #[.cell p t, .cell q t2, .tmp u]) (hp : tmps.getD p undef = .pointer (some ⟨b, 0, none⟩)) (hq : tmps.getD q undef = .pointer (some ⟨c, 0, none⟩))
    (hL : Lc w b cs tt) (hs : aggSize P t = some cs.size) (hL2 : Lc w c ds tt2) (hs2 : aggSize P t2 = some ds.size) :
    (results fn tmps).run P w = .ok (.tuple #[.agg cs, .agg ds, tmps.getD u undef]) w := by
  have h1 := run_load_lc hL hs
  have h2 := run_load_lc hL2 hs2
  simp only [Array.getD_eq_getD_getElem?] at hp hq ⊢
  simp [results, h, asAddr, hp, hq, h1, h2]
end
end Go.Proofs.YtloocadjbpgldaaGreatDoor
/- Loops whose rounds are printed, slices that a call makes itself. -/
namespace Go.Proofs.YtloocadjbpgldaaGreatDoor
open Go.RowKit

section
variable {P : Program} {a : Act} {o : Oper} {w : World} {Q : Exit → Act → World → Prop} {K : Act → World → Prop} {ops : Array Oper}

theorem wp_loop_inv {c : Code} (I : Nat → Act → World → Prop) (n₀ : Nat) (h₀ : I n₀ a w)
    (round : ∀ n a w, I n a w → ∀ K : Act → World → Prop, (∀ n' a' w', n' < n → I n' a' w' → K a' w') → c.wp P (Exit.then K Q) a w) : (Code.loop c).wp P Q a w :=
  wp_loop_ghost I n₀ h₀ fun n a w h => round n a w h _ fun n' _ _ hn hI => ⟨n', hn, hI⟩

/-- a slice literal -/
theorem eff_bs (e n : Nat) (cs : Array Value) (d : Option Tmp) (hd : o.dst = d)
    (hrun : ∀ w, (execOp a.eval o).run P w = .ok (.value (.slice (some ⟨w.heap.size, 0, none⟩) n n)) (w.alloc (.cells cs e)))
    (h : ∀ b w', Gr w w' → Lc w' b cs e → w.heap.size ≤ b → K (a.put d (.slice (some ⟨b, 0, none⟩) n n)) w') : o.wp P a w K Q := by
  subst hd
  unfold Oper.wp
  rw [hrun]
  exact h _ _ (Gr.alloc w _) (heap_alloc_new w _) (Nat.le_refl _)

/-- w' is w but for blocks of element type T (and new ones) -/
structure Wt (T : TypeId) (w w' : World) : Prop where
  os : w'.os = w.os
  tape : w'.tape = w.tape
  output : w'.output = w.output
  size : w.heap.size ≤ w'.heap.size
  block : ∀ (b : Nat) (cs : Array Value) (t : TypeId) (fr : Nat × Nat), t ≠ T → w.heap[b]? = some (.cells cs t fr) → w'.heap[b]? = some (.cells cs t fr)
theorem Wt.kp {T : TypeId} {w w' : World} (h : Wt T w w') (hT : 83 ≠ T) : Kp w w' := fun b cs fr hb => h.block b cs _ fr hT hb
theorem Wt.lc {T : TypeId} {w w' : World} {b : Nat} {cs : Array Value} {t : TypeId} (h : Wt T w w') (hL : Lc w b cs t) (hT : t ≠ T) : Lc w' b cs t := h.block b cs t _ hT hL

/-- a row of one-cell values that the call owns, in a slice of its own making -/
def OwnS (w : World) (T B : Nat) (v : Value) (ys : List Value) : Prop := w.ownsRow B T 1 v ys.length ys
theorem OwnS.nil (w : World) (T B : Nat) : OwnS w T B (.slice none 0 0) [] := World.ownsRow_nil ..
theorem OwnS.gr {w w' : World} {T B : Nat} {v : Value} {ys : List Value} (h : OwnS w T B v ys) (g : Gr w w') : OwnS w' T B v ys := by
  unfold OwnS at *
  refine ⟨h.1, ?_⟩
  rcases h.2 with hn | ⟨k, cap, cur, rfl, hb, hg, hr⟩
  · exact .inl hn
  · exact .inr ⟨k, cap, cur, rfl, hb, g.heap hg, hr⟩
/-- append of one value -/
theorem eff_append1 (s x : Operand) (t : TypeId) (T B : Nat) (z : Value) (v : Value) (ys : List Value) (b : Nat) (u : Value) (c : Nat) (d : Option Tmp) (bytes : Nat) (hd : o.dst = d)
    (ho : o.op = .call { callee := .builtin .append, args := #[s, x], argTypes := #[t, t] }) (hs : a.eval s = v) (hx : a.eval x = .slice (some ⟨b, 0, none⟩) 1 c)
    (hown : OwnS w T B v ys) (hL : Lc w b #[u] T) (hu : u.oneCell' = true) (w0 : World) (hB : Gr w0 w) (hB0 : w0.heap.size ≤ B) (hBw : B ≤ w.heap.size) (hn : ys.length ≤ 1000000) (hbytes : bytes ≤ 1000)
    (ht : P.underlying t = some (.slice T)) (hi : (P.info? T).map (fun i => (i.zero, i.size, i.bytes)) = some (some z, 1, bytes)) (hzs : z.cells.size = 1)
    (h : ∀ v' w', OwnS w' T B v' (ys ++ [u]) → Wt T w w' → Gr w0 w' → K (a.put d v') w') : o.wp P a w K Q := by
  subst hd
  obtain ⟨i, hi, hz, hsize, hby⟩ := info_parts hi
  have hb1 : (ys.length + 1) * bytes ≤ 1000001 * 1000 := Nat.mul_le_mul (by omega) hbytes
  refine wp_append_own w s x t ho B T i z 1 bytes ht hi hz hsize hby hzs (by omega) v ys.length ys hs hown ⟨b, 0, none⟩ 1 c [u] hx rfl (fun j y hj => ?_) (fun y hy => ?_) (by unfold maxLen; omega) (by omega) hBw ?_
  · have hj0 : j = 0 := by
      have := (List.getElem?_eq_some_iff.1 hj).1
      simp at this; omega
    subst hj0
    simp only [List.getElem?_cons_zero, Option.some.injEq] at hj
    subst hj
    exact cells_of hL 0
  · simp only [List.mem_singleton] at hy
    subst hy; exact hu
  · intro v' w' h2 hg _
    have hown' := hown
    have hnew : ∀ k, v.ownBlock = some k → B ≤ k ∧ ∃ cur, w.heap[k]? = some (.cells cur T (0, 0)) := by
      intro k hk
      rcases hown'.2 with ⟨rfl, _⟩ | ⟨g, cap, cur, rfl, hb, hgg, _⟩
      · simp [Value.ownBlock] at hk
      · simp [Value.ownBlock] at hk
        subst hk; exact ⟨hb, cur, hgg⟩
    refine h v' w' ?_ ⟨hg.os, hg.tape, hg.output, hg.size, fun k cs t fr ht hk => ?_⟩ ?_
    · unfold OwnS; simpa using h2
    · rw [hg.block k (heap_lt hk) (fun e => ?_)]
      · exact hk
      · obtain ⟨_, cur, hc⟩ := hnew k e.symm
        rw [hk] at hc
        simp only [Option.some.injEq, Obj.cells.injEq] at hc
        exact ht hc.2.1
    · refine Below.trans hB ⟨hg.os, hg.tape, hg.output, hg.size, fun k hk => hg.block k (Nat.lt_of_lt_of_le hk hB.size) (fun e => ?_)⟩
      have := (hnew k e.symm).1
      omega
/-- a contract that turns a block of type T of the call's own -/
theorem OwnS.block {w : World} {T B : Nat} {v : Value} {ys : List Value} (h : OwnS w T B v ys) (hp : 0 < ys.length) :
    ∃ g cap cur, v = .slice (some ⟨g, 0, none⟩) ys.length cap ∧ B ≤ g ∧ w.heap[g]? = some (.cells cur T (0, 0)) ∧ ys.length ≤ cap ∧ cap ≤ maxLen ∧ cur.size = cap ∧ cur.toList.take ys.length = ys := by
  rcases h.2 with ⟨rfl, hn⟩ | ⟨g, cap, cur, rfl, hb, hg, h1, h2, h3, h4⟩
  · omega
  · exact ⟨g, cap, cur, rfl, hb, hg, h1, h2, by omega, by simpa using h4⟩
theorem OwnS.snoc {w : World} {T B : Nat} {v : Value} {L : List (List UInt8)} {X : List UInt8} {f : List UInt8 → Value} (h : OwnS w T B v (L.map f ++ [f X])) : OwnS w T B v ((L ++ [X]).map f) := by
  simpa using h
theorem RunV.str {x y : ByteArray} (h : RunV P a o w (.string x)) (e : x = y) : RunV P a o w (.string y) := e ▸ h
end
theorem bytes_append (x y : List UInt8) : (⟨x.toArray⟩ : ByteArray) ++ ⟨y.toArray⟩ = ⟨(x ++ y).toArray⟩ := by
  apply ByteArray.ext
  rw [ByteArray.data_append]
  simp
theorem rv_cat {P : Program} {a : Act} {o : Oper} {w : World} (t t2 : TypeId) (x y : Operand) (A B : List UInt8) (hop : o.op = .binOp .add t x y t2) (hx : a.eval x = .string ⟨A.toArray⟩) (hy : a.eval y = .string ⟨B.toArray⟩)
    (h : A.length + B.length ≤ 9223372036854775807) : RunV P a o w (.string ⟨(A ++ B).toArray⟩) := by
  have hrun := run_string_add_sum (P := P) w ⟨A.toArray⟩ ⟨B.toArray⟩ (by show A.toArray.size + B.toArray.size ≤ _; simpa using h)
  rw [bytes_append] at hrun
  unfold RunV execOp
  simp only [hop, hx, hy]
  simp [go_sem, binOp, eqGuard, hrun]
end Go.Proofs.YtloocadjbpgldaaGreatDoor
/- The walk's steps in few words: what is settled by computing is filled in by itself. -/
namespace Go.Proofs.YtloocadjbpgldaaGreatDoor
open Go.RowKit

section
variable {P : Program} {a : Act} {o : Oper} {w : World} {Q : Exit → Act → World → Prop} {K : Act → World → Prop} {ops : Array Oper} {l : List Value} {ds : List Deferred} {w0 : World}

theorem rg {id : Nat} (r : List Nat) (h : wpOps P ops Q r a w) (hr : List.range ops.size = r := by rfl) : (Code.region id ops false).wp P Q a w :=
  wp_region (by rw [hr]; exact h)
theorem sv {i : Nat} {rest : List Nat} (d : Nat) (v : Value) (h : wpOps P ops Q rest ⟨(l.set d v).toArray, ds⟩ w) (ho : ops[i]? = some o := by rfl) (hd : o.dst = some d := by rfl) (hw : Region.wanted o (yielded ops (⟨l.toArray, ds⟩ : Act).tmps) = true := by kernel_rfl)
    (hv : (execOp (⟨l.toArray, ds⟩ : Act).eval o).run P w = .ok (.value v) w := by kernel_rfl) : wpOps P ops Q (i :: rest) ⟨l.toArray, ds⟩ w :=
  sq_val _ v ho hd hw hv (by rw [p1]; show wpOps P ops Q rest ⟨l.toArray.setIfInBounds d v, ds⟩ w; rw [p2]; exact h)
theorem sw {i : Nat} {rest : List Nat} (d : Nat) (v : Value) (ho : ops[i]? = some o) (hv : RunV P ⟨l.toArray, ds⟩ o w v) (h : wpOps P ops Q rest ⟨(l.set d v).toArray, ds⟩ w) (hd : o.dst = some d := by rfl) (hw : Region.wanted o (yielded ops (⟨l.toArray, ds⟩ : Act).tmps) = true := by kernel_rfl) :
    wpOps P ops Q (i :: rest) ⟨l.toArray, ds⟩ w := sv d v h ho hd hw hv
theorem ss {i : Nat} {rest : List Nat} (d : Nat) (h : wpOps P ops Q rest ⟨(l.set d undef).toArray, ds⟩ w) (ho : ops[i]? = some o := by rfl) (hd : o.dst = some d := by rfl) (hw : Region.wanted o (yielded ops (⟨l.toArray, ds⟩ : Act).tmps) = false := by kernel_rfl) :
    wpOps P ops Q (i :: rest) ⟨l.toArray, ds⟩ w :=
  sq_skip _ ho hd hw (by rw [p1]; show wpOps P ops Q rest ⟨l.toArray.setIfInBounds d undef, ds⟩ w; rw [p2]; exact h)
theorem se {i : Nat} {rest : List Nat} (h : o.wp P a w (fun a w => wpOps P ops Q rest a w) Q) (ho : ops[i]? = some o := by rfl) (hw : Region.wanted o (yielded ops a.tmps) = true := by kernel_rfl) : wpOps P ops Q (i :: rest) a w := by
  rw [wpOps_cons]
  unfold wpOp
  simp only [ho, hw, if_true]
  exact .inl h

/-! ### regions that draw their order -/
variable {S : World → Prop} {S0 : World → Prop} {HS : List (List Nat × (World → Prop))} {listed : Array Bool} {fin : Act → World → Prop} {i : Nat} {rest : List (Bool × Nat)}
theorem putl (d : Nat) (v : Value) : (⟨l.toArray, ds⟩ : Act).put (some d) v = ⟨(l.set d v).toArray, ds⟩ := by
  rw [p1]; show (⟨l.toArray.setIfInBounds d v, ds⟩ : Act) = _; rw [p2]
theorem ov (d : Nat) (v : Value) (h : wpOrd P ops Q S rest ⟨(l.set d v).toArray, ds⟩ w) (ho : ops[i]? = some o := by rfl) (hd : o.dst = some d := by rfl) (hg : Region.wanted o (yielded ops (⟨l.toArray, ds⟩ : Act).tmps) = true := by kernel_rfl)
    (hv : ∀ w, S w → (execOp (⟨l.toArray, ds⟩ : Act).eval o).run P w = .ok (.value v) w := by intro _ _; kernel_rfl) : wpOrd P ops Q S ((true, i) :: rest) ⟨l.toArray, ds⟩ w :=
  ord_pureg _ v ho hd hg hv (by rw [putl]; exact h)
theorem ow (d : Nat) (v : Value) (ho : ops[i]? = some o) (hv : ∀ w, S w → RunV P ⟨l.toArray, ds⟩ o w v) (h : wpOrd P ops Q S rest ⟨(l.set d v).toArray, ds⟩ w) (hd : o.dst = some d := by rfl) (hg : Region.wanted o (yielded ops (⟨l.toArray, ds⟩ : Act).tmps) = true := by kernel_rfl) :
    wpOrd P ops Q S ((true, i) :: rest) ⟨l.toArray, ds⟩ w := ov d v h ho hd hg hv
theorem os (d : Nat) (h : wpOrd P ops Q S rest ⟨(l.set d undef).toArray, ds⟩ w) (ho : ops[i]? = some o := by rfl) (hd : o.dst = some d := by rfl) (hg : Region.wanted o (yielded ops (⟨l.toArray, ds⟩ : Act).tmps) = false := by kernel_rfl) :
    wpOrd P ops Q S ((true, i) :: rest) ⟨l.toArray, ds⟩ w := ord_skip _ ho hd hg (by rw [putl]; exact h)
theorem oz (d : Nat) (hS : S w) (h : wpOrd P ops Q S rest ⟨(l.set d undef).toArray, ds⟩ w) (ho : ops[i]? = some o := by rfl) (hd : o.dst = some d := by rfl) (hg : Region.wanted o (yielded ops (⟨l.toArray, ds⟩ : Act).tmps) = false := by kernel_rfl) :
    wpOrd P ops Q S ((false, i) :: rest) ⟨l.toArray, ds⟩ w := ord_effskip _ ho hd hg hS (by rw [putl]; exact h)
theorem oe (h : o.wp P a w (fun a w => S w ∧ wpOrd P ops Q S rest a w) Q) (ho : ops[i]? = some o := by rfl) (hg : Region.wanted o (yielded ops a.tmps) = true := by kernel_rfl) : wpOrd P ops Q S ((false, i) :: rest) a w := by
  unfold wpOrd wpOp
  simp only [ho]
  rw [if_pos hg]
  exact .inl h
theorem tv (d : Nat) (v : Value) (h : wpOrt P ops Q S0 HS rest (listed.setIfInBounds i true) ⟨(l.set d v).toArray, ds⟩ w) (ho : ops[i]? = some o := by rfl) (hd : o.dst = some d := by rfl) (hg : Region.wanted o (yielded ops (⟨l.toArray, ds⟩ : Act).tmps) = true := by kernel_rfl)
    (hv : ∀ w, S0 w ∧ heldAll (allWait ops i) HS w → (execOp (⟨l.toArray, ds⟩ : Act).eval o).run P w = .ok (.value v) w := by intro _ _; kernel_rfl) : wpOrt P ops Q S0 HS ((true, i) :: rest) listed ⟨l.toArray, ds⟩ w :=
  ort_pure _ v ho hd hg hv (by rw [putl]; exact h)
theorem tw (d : Nat) (v : Value) (ho : ops[i]? = some o) (hv : ∀ w, S0 w ∧ heldAll (allWait ops i) HS w → RunV P ⟨l.toArray, ds⟩ o w v) (h : wpOrt P ops Q S0 HS rest (listed.setIfInBounds i true) ⟨(l.set d v).toArray, ds⟩ w) (hd : o.dst = some d := by rfl)
    (hg : Region.wanted o (yielded ops (⟨l.toArray, ds⟩ : Act).tmps) = true := by kernel_rfl) : wpOrt P ops Q S0 HS ((true, i) :: rest) listed ⟨l.toArray, ds⟩ w := tv d v h ho hd hg hv
theorem ts (d : Nat) (h : wpOrt P ops Q S0 HS rest (listed.setIfInBounds i true) ⟨(l.set d undef).toArray, ds⟩ w) (ho : ops[i]? = some o := by rfl) (hd : o.dst = some d := by rfl) (hg : Region.wanted o (yielded ops (⟨l.toArray, ds⟩ : Act).tmps) = false := by kernel_rfl) :
    wpOrt P ops Q S0 HS ((true, i) :: rest) listed ⟨l.toArray, ds⟩ w := ort_skip _ ho hd hg (by rw [putl]; exact h)
theorem te (h : o.wp P a w (fun a w => S0 w ∧ heldAll (fresh (listed.setIfInBounds i true)) HS w ∧ wpOrt P ops Q S0 HS rest (listed.setIfInBounds i true) a w) Q) (ho : ops[i]? = some o := by rfl) (hg : Region.wanted o (yielded ops a.tmps) = true := by kernel_rfl) :
    wpOrt P ops Q S0 HS ((false, i) :: rest) listed a w :=
  ort_eff ho hg (fun _ hK => Oper.wp_mono (fun a w h => hK a w h.1 h.2.1 h.2.2) h)
theorem fv (d : Nat) (v : Value) (h : wpFlo P ops Q S fin rest ⟨(l.set d v).toArray, ds⟩ w) (ho : ops[i]? = some o := by rfl) (hd : o.dst = some d := by rfl) (hg : o.guard = none := by rfl)
    (hv : ∀ w, S w → (execOp (⟨l.toArray, ds⟩ : Act).eval o).run P w = .ok (.value v) w := by intro _ _; kernel_rfl) : wpFlo P ops Q S fin ((true, i) :: rest) ⟨l.toArray, ds⟩ w :=
  flo_pure _ v ho hd hg hv (by rw [putl]; exact h)
theorem fw (d : Nat) (v : Value) (ho : ops[i]? = some o) (hv : ∀ w, S w → RunV P ⟨l.toArray, ds⟩ o w v) (h : wpFlo P ops Q S fin rest ⟨(l.set d v).toArray, ds⟩ w) (hd : o.dst = some d := by rfl) (hg : o.guard = none := by rfl) :
    wpFlo P ops Q S fin ((true, i) :: rest) ⟨l.toArray, ds⟩ w := fv d v h ho hd hg hv

/-! ### effects -/
theorem ec {f : FuncId} {args : Array Value} {R : Ending → World → Prop} (d : Nat) (hc : Calls P f args w R) (h : ∀ e w', R e w' → ∃ v, e = .returned v ∧ K ⟨(l.set d v).toArray, ds⟩ w')
    (hd : o.dst = some d := by rfl) (hrun : (execOp (⟨l.toArray, ds⟩ : Act).eval o).run P w = .ok (.enter f args) w := by kernel_rfl) : o.wp P ⟨l.toArray, ds⟩ w K Q :=
  eff_call _ hd hrun hc (fun e w' he => by obtain ⟨v, hv, hk⟩ := h e w' he; exact ⟨v, hv, by rw [putl]; exact hk⟩)
theorem eb {x : Operand} (t : TypeId) (cs : Array Value) (d : Nat) (hB : Gr w0 w) (h : ∀ b w', Gr w w' → Lc w' b cs t → w.heap.size ≤ b → w0.heap.size ≤ b → Gr w0 w' → K ⟨(l.set d (.pointer (some ⟨b, 0, none⟩))).toArray, ds⟩ w')
    (hd : o.dst = some d := by rfl) (hop : o.op = .box t x := by rfl) (hx : (⟨l.toArray, ds⟩ : Act).eval x = .agg cs := by rfl) : o.wp P ⟨l.toArray, ds⟩ w K Q :=
  eff_box t x _ cs _ hd hop hx rfl (fun b w' g L q => by rw [putl]; exact h b w' g L q (Nat.le_trans (Below.size hB) q) (hB.trans g))
theorem ea (t : TypeId) (cs : Array Value) (d : Nat) (hB : Gr w0 w) (h : ∀ b w', Gr w w' → Lc w' b cs t → w.heap.size ≤ b → w0.heap.size ≤ b → Gr w0 w' → K ⟨(l.set d (.pointer (some ⟨b, 0, none⟩))).toArray, ds⟩ w')
    (hd : o.dst = some d := by rfl) (hop : o.op = .alloc t := by rfl) (hz : (P.info? t).map (·.zero) = some (some (.agg cs)) := by kernel_rfl) : o.wp P ⟨l.toArray, ds⟩ w K Q :=
  eff_alloc t _ cs _ hd hop hz rfl (fun b w' g L q => by rw [putl]; exact h b w' g L q (Nat.le_trans (Below.size hB) q) (hB.trans g))
theorem es {x y : Operand} {tt b : Nat} {cs : Array Value} (t : TypeId) (off : Nat) (v : Value) (vs : List Value) (cs' : Array Value) (hL : Lc w b cs tt) (hB : Gr w0 w) (q : w0.heap.size ≤ b) (h1 : One1 vs)
    (h : ∀ w', St w w' b → Kp w w' → Lc w' b cs' tt → Gr w0 w' → K ⟨l.toArray, ds⟩ w')
    (hop : o.op = .store t x y := by rfl) (hd : o.dst = none := by rfl) (hx : (⟨l.toArray, ds⟩ : Act).eval x = .pointer (some ⟨b, off, none⟩) := by rfl) (hy : (⟨l.toArray, ds⟩ : Act).eval y = v := by rfl) (hv : v.cells = vs.toArray := by rfl)
    (hs : (P.info? t).map (·.size) = some vs.length := by kernel_rfl) (hoff : off + vs.length ≤ cs.size := by exact Nat.le_of_ble_eq_true rfl) (hcs : writeAt cs off vs = cs' := by kernel_rfl) (ht : tt ≠ 83 := by decide) : o.wp P ⟨l.toArray, ds⟩ w K Q :=
  eff_store t x y b off v vs cs cs' tt hop hd hx hy hv hL hs hoff h1 hcs (fun w' st N => h w' st (st.kp hL ht) N (st.gr hB q))
theorem rl {x : Operand} {cs : Array Value} {tt : TypeId} {b : Nat} (t : TypeId) (off : Nat) (vs : List Value) (hL : Lc w b cs tt) (hop : o.op = .load t x := by rfl) (hx : a.eval x = .pointer (some ⟨b, off, none⟩) := by rfl)
    (hv : (cs.toList.drop off).take vs.length = vs := by rfl) (hs : aggSize P t = some vs.length := by kernel_rfl) : RunV P a o w (.agg vs.toArray) := rv_load t x b off cs tt vs hop hx hL hv hs
theorem rk {x : Operand} {cs : Array Value} {tt : TypeId} {b : Nat} {v : Value} (t : TypeId) (off : Nat) (hL : Lc w b cs tt) (hop : o.op = .load t x := by rfl) (hx : a.eval x = .pointer (some ⟨b, off, none⟩) := by rfl)
    (hv : cs[off]? = some v := by rfl) (hs : oneSize P t = true := by kernel_rfl) : RunV P a o w v := rv_load1 t x b off cs tt v hop hx hL hv hs
end
end Go.Proofs.YtloocadjbpgldaaGreatDoor
/- Decimal digits in groups of nine. -/
namespace Go.Proofs.YtloocadjbpgldaaGreatDoor
open Go

/-- r in k digits -/
def padk : Nat → Nat → List UInt8
  | 0, _ => []
  | k + 1, r => padk k (r / 10) ++ [UInt8.ofNat (48 + r % 10)]
theorem padk_length : ∀ k r, (padk k r).length = k
  | 0, _ => rfl
  | k + 1, r => by simp [padk, padk_length k]
theorem dec_step {u : Nat} (h : 10 ≤ u) : Lib.decDigits u = Lib.decDigits (u / 10) ++ [UInt8.ofNat (48 + u % 10)] := by
  rw [Lib.decDigits, dif_neg (by omega)]
theorem dec_small {u : Nat} (h : u < 10) : Lib.decDigits u = [UInt8.ofNat (48 + u)] := by rw [Lib.decDigits, dif_pos h]
theorem dec_split : ∀ (k q r : Nat), 0 < q → r < 10 ^ k → Lib.decDigits (q * 10 ^ k + r) = Lib.decDigits q ++ padk k r
  | 0, q, r, _, hr => by simp at hr; subst hr; simp [padk]
  | k + 1, q, r, hq, hr => by
    have e : q * 10 ^ (k + 1) + r = (q * 10 ^ k + r / 10) * 10 + r % 10 := by
      rw [Nat.pow_succ, Nat.add_mul, ← Nat.mul_assoc]; omega
    have hp : 0 < 10 ^ k := Nat.pow_pos (by omega)
    have hq1 : 1 ≤ q * 10 ^ k := Nat.mul_pos hq hp
    rw [e, dec_step (by omega)]
    have e1 : ((q * 10 ^ k + r / 10) * 10 + r % 10) / 10 = q * 10 ^ k + r / 10 := by omega
    have e2 : ((q * 10 ^ k + r / 10) * 10 + r % 10) % 10 = r % 10 := by omega
    rw [e1, e2, dec_split k q (r / 10) hq (by rw [Nat.pow_succ] at hr; omega), List.append_assoc]
    rfl
theorem padk_zeros : ∀ k, padk k 0 = Lib.repeatL [48] k
  | 0 => rfl
  | k + 1 => by
    have h : ∀ k, Lib.repeatL [48] k ++ [48] = [48] ++ Lib.repeatL [48] k := fun k => by
      induction k with
      | zero => rfl
      | succ k ih => simp only [Lib.repeatL, List.append_assoc, ih]
    rw [padk, Nat.zero_div, padk_zeros k]
    exact h k
theorem dec_len_le : ∀ (k u : Nat), u < 10 ^ (k + 1) → (Lib.decDigits u).length ≤ k + 1
  | 0, u, h => by rw [dec_small (by simpa using h)]; simp
  | k + 1, u, h => by
    by_cases h1 : u < 10
    · rw [dec_small h1]; simp
    · rw [dec_step (by omega)]
      have := dec_len_le k (u / 10) (by rw [Nat.pow_succ] at h; omega)
      simp; omega
theorem dec_pos (u : Nat) : 0 < (Lib.decDigits u).length := by
  by_cases h1 : u < 10
  · rw [dec_small h1]; simp
  · rw [dec_step (by omega)]; simp
theorem padk_dec : ∀ (k u : Nat), u < 10 ^ (k + 1) → padk (k + 1) u = Lib.repeatL [48] (k + 1 - (Lib.decDigits u).length) ++ Lib.decDigits u
  | 0, u, h => by
    rw [dec_small (by simpa using h)]
    have : u % 10 = u := by simp at h; omega
    simp [padk, this, Lib.repeatL]
  | k + 1, u, h => by
    rw [padk]
    by_cases h1 : u < 10
    · have e1 : u / 10 = 0 := by omega
      have e2 : u % 10 = u := by omega
      rw [e1, e2, padk_zeros, dec_small h1]; rfl
    · rw [padk_dec k (u / 10) (by rw [Nat.pow_succ] at h; omega), List.append_assoc, ← dec_step (by omega)]
      congr 2
      rw [dec_step (u := u) (by omega)]
      simp
/-- a group of nine digits, or the highest digits -/
def grp (u : Nat) : List UInt8 := if 0 < u / 1000000000 then Lib.repeatL [48] (9 - (Lib.decDigits (u % 1000000000)).length) ++ Lib.decDigits (u % 1000000000) else Lib.decDigits (u % 1000000000)
/-- the groups of a number, the lowest one first -/
def grps (u : Nat) : List (List UInt8) := if h : u = 0 then [] else grp u :: grps (u / 1000000000)
termination_by u
decreasing_by omega
theorem grps_zero : grps 0 = [] := by rw [grps]; simp
theorem grps_pos {u : Nat} (h : 0 < u) : grps u = grp u :: grps (u / 1000000000) := by rw [grps, dif_neg (by omega)]
theorem grps_text : ∀ (n u : Nat), u ≤ n → 0 < u → (grps u).reverse.flatten = Lib.decDigits u := by
  intro n
  induction n with
  | zero => intro u h h0; omega
  | succ n ih =>
    intro u h h0
    rw [grps_pos h0, List.reverse_cons, List.flatten_append]
    simp only [List.flatten_cons, List.flatten_nil, List.append_nil]
    unfold grp
    by_cases hq : 0 < u / 1000000000
    · rw [if_pos hq, ih _ (by omega) hq]
      have hr : u % 1000000000 < 10 ^ (8 + 1) := by omega
      rw [← padk_dec 8 _ hr]
      have := dec_split 9 (u / 1000000000) (u % 1000000000) hq (by omega)
      rw [← this]
      congr 1
      omega
    · have e : u / 1000000000 = 0 := by omega
      rw [if_neg hq, e, grps_zero]
      simp only [List.reverse_nil, List.flatten_nil, List.nil_append]
      congr 1
      omega
theorem join_nil_sep (l : List (List UInt8)) : Lib.join l [] = l.flatten := by
  unfold Lib.join List.intercalate
  induction l with
  | nil => rfl
  | cons a l ih =>
    cases l with
    | nil => simp
    | cons b l => simp only [List.intersperse_cons_cons, List.flatten_cons, List.nil_append] at ih ⊢; rw [ih]
theorem grps_len : ∀ (k u : Nat), u < 2 ^ k → (grps u).length ≤ k
  | 0, u, h => by
    have : u = 0 := by simpa using h
    subst this; rw [grps_zero]; simp
  | k + 1, u, h => by
    by_cases h0 : u = 0
    · subst h0; rw [grps_zero]; simp
    · rw [grps_pos (by omega), List.length_cons]
      have := grps_len k (u / 1000000000) (by rw [Nat.pow_succ] at h; omega)
      omega
theorem grps_len0 {u : Nat} (h : 0 < u) : 0 < (grps u).length := by rw [grps_pos h]; simp
theorem dec_len_bits (k u : Nat) (h : u < 2 ^ k) : (Lib.decDigits u).length ≤ k + 1 := by
  refine dec_len_le k u ?_
  have h1 : 2 ^ k ≤ 10 ^ k := Nat.pow_le_pow_left (by omega) k
  have h2 : 10 ^ k ≤ 10 ^ (k + 1) := Nat.pow_le_pow_right (by omega) (by omega)
  omega
theorem dec9 (u : Nat) : (Lib.decDigits (u % 1000000000)).length ≤ 9 := dec_len_le 8 _ (by omega)
theorem grps_step {L : List (List UInt8)} {u N : Nat} {X : List UInt8} (h : L ++ grps u = grps N) (h0 : 0 < u) (hX : X = grp u) : (L ++ [X]) ++ grps (u / 1000000000) = grps N := by
  rw [← h, grps_pos h0, hX, List.append_assoc]; rfl
theorem grp_hi {u : Nat} (h : 0 < u / 1000000000) : Lib.repeatL [48] (9 - (Lib.decDigits (u % 1000000000)).length) ++ Lib.decDigits (u % 1000000000) = grp u := by unfold grp; rw [if_pos h]
theorem grp_lo {u : Nat} (h : ¬ 0 < u / 1000000000) : Lib.decDigits (u % 1000000000) = grp u := by unfold grp; rw [if_neg h]
theorem grp_len (u : Nat) : (grp u).length ≤ 9 := by
  have := dec_len_le 8 (u % 1000000000) (by omega)
  unfold grp
  split
  · rw [List.length_append, Lib.repeatL_length]; simp; omega
  · exact this
/-- the text of a rational -/
def ratL (q : Rat) : List UInt8 := if q.den = 1 then Lib.itoa q.num else Lib.itoa q.num ++ [47] ++ Lib.itoa (q.den : Int)
theorem ratL_w {q : Rat} (h : q.den = 1) : ratL q = Lib.itoa q.num := if_pos h
theorem ratL_f {q : Rat} (h : ¬ q.den = 1) : ratL q = Lib.itoa q.num ++ [47] ++ Lib.itoa (q.den : Int) := if_neg h
end Go.Proofs.YtloocadjbpgldaaGreatDoor
/- Contracts of the library's functions on strings, as the printed walks use them. -/
namespace Go.Proofs.YtloocadjbpgldaaGreatDoor
open Go.RowKit

/-- the library's table of powers of ten -/
def Tab (w : World) : Prop := Lib.TabIs Tryz.prog w "internal/strconv.uint64pow10" .u64 Lib.pow10Tab
theorem Tab.gr {w w' : World} (h : Tab w) (g : Gr w w') : Tab w' := by
  unfold Tab Lib.TabIs World.var? at *
  cases hn : Tryz.prog.globalNamed "internal/strconv.uint64pow10" with
  | none => rw [hn] at h; cases h
  | some k =>
    rw [hn] at h
    simp only [Option.bind_some] at h ⊢
    cases hk : w.heap[k]? with
    | none => rw [hk] at h; cases h
    | some o => rw [g.heap hk]; rw [hk] at h; exact h
theorem itoa_t (n : Int) (h0 : 0 ≤ n) (h1 : n < 1000000000) {w : World} (ht : Tab w) :
    Calls Tryz.prog 87 #[.int .i64 n] w fun e w' => e = .returned (.string ⟨(Lib.decDigits n.toNat).toArray⟩) ∧ Gr w w' := by
  refine (Tryz.strconv_Itoa n (by omega) (by omega) w ht).mono ?_
  rintro e w' ⟨he, k, os, rfl⟩
  refine ⟨?_, ?_⟩
  · rw [he]; unfold Lib.itoa; rw [if_neg (by omega)]
  · refine ⟨rfl, rfl, rfl, by simp [Sort.grow], fun i hi => ?_⟩
    show (w.heap ++ os)[i]? = w.heap[i]?
    rw [Array.getElem?_append_left hi]
theorem repeat9 (n : Nat) (h : n ≤ 9) (w : World) :
    Calls Tryz.prog 88 #[.string ⟨#[48]⟩, .int .i64 (9 - (n : Int))] w fun e w' => e = .returned (.string ⟨(Lib.repeatL [48] (9 - n)).toArray⟩) ∧ Gr w w' := by
  have e : (9 - (n : Int)) = ((9 - n : Nat) : Int) := by omega
  rw [e]
  refine (Tryz.strings_Repeat ⟨#[48]⟩ (9 - n) w (by omega) ?_).mono ?_
  · show 1 * (9 - n) ≤ _
    omega
  · rintro e w' ⟨he, hb⟩
    exact ⟨he, hb⟩

/-- a string in a cell -/
def strV (l : List UInt8) : Value := .string ⟨l.toArray⟩
theorem writeAt_take : ∀ (vs : List Value) (off : Nat) (cs : Array Value), off + vs.length ≤ cs.size → (writeAt cs off vs).size = cs.size ∧ ∀ i, (writeAt cs off vs)[i]? = if off ≤ i ∧ i < off + vs.length then vs[i - off]? else cs[i]?
  | [], off, cs, _ => ⟨rfl, fun i => by rw [if_neg (by simp only [List.length_nil]; omega)]; rfl⟩
  | v :: vs, off, cs, h => by
    simp only [List.length_cons] at h
    obtain ⟨h1, h2⟩ := writeAt_take vs (off + 1) (cs.setIfInBounds off v) (by rw [Array.size_setIfInBounds]; omega)
    refine ⟨by rw [writeAt, h1]; simp, fun i => ?_⟩
    rw [writeAt, h2 i]
    by_cases e : off = i
    · subst e
      have h9 : off < cs.size := by omega
      rw [if_neg (by omega), if_pos (by simp)]
      simp [h9]
    · by_cases hi : off + 1 ≤ i ∧ i < off + 1 + vs.length
      · rw [if_pos hi, if_pos (by simp; omega)]
        have : i - off = (i - (off + 1)) + 1 := by omega
        rw [this, List.getElem?_cons_succ]
      · rw [if_neg hi, if_neg (by simp; omega), Array.getElem?_setIfInBounds_ne e]
theorem own_cells {w : World} {T : Nat} {L : List (List UInt8)} {g : Nat} {cur : Array Value} (hg : w.heap[g]? = some (.cells cur T (0, 0))) (ht : cur.toList.take (L.map strV).length = L.map strV) (i : Nat) (hi : i < L.length) :
    w.cell? ⟨g, i, none⟩ = some (strV (L.getD i [])) := by
  rw [cells_of hg]
  have h1 : (cur.toList.take (L.map strV).length)[i]? = (L.map strV)[i]? := by rw [ht]
  rw [List.getElem?_take_of_lt (by simpa using hi)] at h1
  rw [Array.getElem?_toList] at h1
  rw [h1]
  simp [hi]
theorem reverse_own {w : World} {B : Nat} {v : Value} {L : List (List UInt8)} (h : OwnS w 9 B v (L.map strV)) (hp : 0 < L.length) :
    Calls Tryz.prog 89 #[v] w fun e w' => e = .returned (.tuple #[]) ∧ OwnS w' 9 B v (L.reverse.map strV) ∧ Wt 9 w w' ∧ (∀ w0, Gr w0 w → w0.heap.size ≤ B → Gr w0 w') := by
  obtain ⟨g, cap, cur, rfl, hb, hg, h1, h2, h3, h4⟩ := h.block (by simpa using hp)
  rw [List.length_map] at h1 ⊢
  have hlen : L.length ≤ 9223372036854775807 := by unfold maxLen at h2; omega
  refine (Tryz.slices_Reverse_string_cells g 0 L.length cap (fun i => ⟨(L.getD i []).toArray⟩) w hlen (fun i hi => ?_) (fun i hi => free_of hg _)).mono ?_
  · rw [Nat.zero_add]; exact own_cells hg h4 i hi
  rintro e w' ⟨he, q, rfl⟩
  have es : (Lib.strsOf (fun i => ⟨(L.getD i []).toArray⟩) L.length) = L := by
    unfold Lib.strsOf
    apply List.ext_getElem
    · simp
    · intro i h1 h2; simp at h1; simp [h1]
  rw [es]
  have hst := St.setCells g (L.reverse.map encStr) 0 (w.drewN q)
  have hh : ((w.drewN q).setCells g 0 (L.reverse.map encStr)).heap[g]? = some (.cells (writeAt cur 0 (L.reverse.map encStr)) 9 (0, 0)) := heap_setCells _ 0 (w := w.drewN q) hg
  obtain ⟨hw1, hw2⟩ := writeAt_take (L.reverse.map encStr) 0 cur (by simp; omega)
  have hbl : ∀ k, k ≠ g → ((w.drewN q).setCells g 0 (L.reverse.map encStr)).heap[k]? = w.heap[k]? := fun k hk => hst.block k hk
  refine ⟨he, ⟨by simp, .inr ⟨g, cap, _, by simp, hb, hh, by simpa using h1, h2, by rw [hw1]; omega, ?_⟩⟩, ⟨hst.os, hst.tape, hst.output, Nat.le_of_eq hst.size.symm, fun b cs t fr ht hk => ?_⟩, fun w0 hG hB => ?_⟩
  · apply List.ext_getElem?
    intro i
    by_cases hi : i < L.length
    · rw [List.getElem?_take_of_lt (by simpa using hi), Array.getElem?_toList, hw2 i, if_pos (by simpa using hi)]
      rfl
    · rw [List.getElem?_eq_none (by simp; omega), List.getElem?_eq_none (by simp; omega)]
  · rw [hbl b (fun e => ?_)]
    · exact hk
    · subst e
      rw [hg] at hk
      simp only [Option.some.injEq, Obj.cells.injEq] at hk
      exact ht hk.2.1.symm
  · exact Below.trans hG ⟨hst.os, hst.tape, hst.output, Nat.le_of_eq hst.size.symm, fun k hk => hbl k (by omega)⟩
theorem join_own {w : World} {B : Nat} {v : Value} {L : List (List UInt8)} (h : OwnS w 9 B v (L.map strV)) (hp : 0 < L.length) (hl : L.flatten.length ≤ 140737488355328) (hn : L.length ≤ 1000000) :
    Calls Tryz.prog 90 #[v, .string ⟨#[]⟩] w fun e w' => e = .returned (.string ⟨L.flatten.toArray⟩) ∧ Gr w w' := by
  obtain ⟨g, cap, cur, rfl, hb, hg, h1, h2, h3, h4⟩ := h.block (by simpa using hp)
  have em : ((L.map fun l => (⟨l.toArray⟩ : ByteArray)).map fun x => x.data.toList) = L := by
    rw [List.map_map]
    conv => rhs; rw [← List.map_id L]
    exact List.map_congr_left fun l _ => by simp
  have := Tryz.strings_Join g 0 cap (L.map fun l => ⟨l.toArray⟩) ⟨#[]⟩ w (fun j x hj => ?_) (heap_lt hg) (by simp; omega) (by simpa using h1) (by
    rw [em]; show (Lib.join L []).length ≤ _; rw [join_nil_sep]; exact hl)
  · rw [em] at this
    simp only [List.length_map] at this ⊢
    refine this.mono ?_
    rintro e w' ⟨he, hb⟩
    refine ⟨?_, hb⟩
    rw [he]
    show Ending.returned (.string ⟨(Lib.join L []).toArray⟩) = _
    rw [join_nil_sep]
  · rw [Nat.zero_add, own_cells hg h4 j (by have := (List.getElem?_eq_some_iff.1 hj).1; simpa using this)]
    obtain ⟨hj', e⟩ := List.getElem?_eq_some_iff.1 hj
    subst e
    simp at hj'
    simp [hj', strV]
end Go.Proofs.YtloocadjbpgldaaGreatDoor
/- From a walk to a row: a law whose arguments hold integers. -/
namespace Go.Proofs.YtloocadjbpgldaaGreatDoor
open Go.ChangeShapes Go.WideShapes Go.ChangeAt Go.RowKit

theorem trodAll_kept {H : Type} {enc : TypeId × Value → H} {P : Program} (hl : laidOutB P = true) {W W' : World} (hb : Below W.heap.size W W') :
    ∀ {ts : List TypeId} {vs : List Value} {ds : List (DataW H)} {ps : List MemPlace}, (∀ t ∈ ts, P.readableRec t = true ∧ t < P.types.size) → DataW.TrodAll enc P W 0 (fun _ => true) true ts vs ds ps →
      (∀ x ∈ ps, x.block < W.heap.size) → DataW.TrodAll enc P W' 0 (fun b => decide (b < W.heap.size)) true ts vs ds ps
  | [], [], [], _, _, h, _ => h
  | t :: ts, v :: vs, d :: ds, ps, ht, h, hp => by
    obtain ⟨p, q, h1, h2, rfl⟩ := h
    exact ⟨p, q, Below.trod hl (ht t (by simp)).1 (ht t (by simp)).2 h1 hb (fun x hx => hp x (by simp [hx])), trodAll_kept hl hb (fun u hu => ht u (by simp [hu])) h2 (fun x hx => hp x (by simp [hx])), rfl⟩
  | [], [], _ :: _, _, _, h, _ => by cases h
  | [], _ :: _, _, _, _, h, _ => by cases h
  | _ :: _, [], _, _, _, h, _ => by cases h
  | _ :: _, _ :: _, [], _, _, h, _ => by cases h

/-- the row's last step: the law has returned true, and nothing of what was there has turned -/
theorem law_post {H : Type} {enc : TypeId × Value → H} {P : Program} {f : Func} {s : ChangeSpec} {W W' : World} {args : Array Value} {ds gs : List (DataW H)} {before : List MemPlace} {tb : TypeId}
    (hl : laidOutB P = true) (hr0 : (f.params.toList.all fun t => P.readableRec t && decide (t < P.types.size)) = true) (hres : f.resultTypes = #[tb]) (htb : P.underlying tb = some .bool) (hv : s.vars = [])
    (hW : DataW.Whole enc P f.params.toList s.vars false W args.toList ds gs before) (hfn : s.fn H (ds ++ gs) = { results := [.lit (.bool true)], args := ds }) (hb : Below W.heap.size W W') :
    s.post enc P f false true false false W args (.bool true) W' := by
  have hr : ∀ t ∈ f.params.toList, P.readableRec t = true ∧ t < P.types.size := fun t ht => by
    have := List.all_eq_true.1 hr0 t ht
    simpa using this
  have hlt : ∀ p ∈ before, p.block < W.heap.size := fun p hp => hW.lt p hp
  have hW' := hW
  obtain ⟨p, q, hA, hV, rfl, _, _⟩ := hW
  rw [hv] at hV
  obtain ⟨rfl, rfl⟩ := trodVars_none hV
  refine ⟨ds, [], _, [], p, [], hW', ?_, ?_, ?_, World.keptBut_mono (fun x hx => ⟨hx, .inr (.inl (by simpa using hx))⟩) (hb.frame (· ∈ p ++ [])), fun h => by cases h⟩
  · rw [hfn, hres]
    exact trodAll_mk1 (shut_bool htb true)
  · rw [hfn]
    exact trodAll_kept hl hb hr hA (fun x hx => hlt x (by simp [hx]))
  · rw [hfn, hv]; rfl

theorem cell_int {P : Program} {W : World} {base u : Nat} {k : IntKind} {v : Value} (hu : P.underlying u = some (.int k)) (h : Cell.okWide P W .any base u v) : ∃ n, v = .int k n ∧ k.has n := by
  unfold Cell.okWide at h
  rw [hu] at h
  unfold Cell.ok at h
  rw [hu] at h
  cases v <;> simp at h
  obtain ⟨rfl, h⟩ := h
  exact ⟨_, rfl, h⟩
theorem open_cell {P : Program} {W : World} {base t : Nat} {k : IntKind} {v : Value} (hu : P.underlying t = some (.int k)) (h : Value.okWide P W .any base t v) : ∃ n, v = .int k n ∧ k.has n := by
  unfold Value.okWide at h
  rw [hu] at h
  exact cell_int hu h
/-- a parameter of cells that are integers -/
theorem open_cells {P : Program} {W : World} {base t : Nat} {v : Value} {ts : List TypeId} (ks : List IntKind) (hagg : (match P.underlying t with | some (.struct _) | some (.array _ _) => true | _ => false) = true)
    (hct : P.cellTypes P.depth t = some ts) (hC : P.cellsOf t = ts.length) (hk : ts.map (fun u => P.underlying u) = ks.map fun k => some (.int k)) (h : Value.okWide P W .any base t v) :
    ∃ cs, v = .agg cs ∧ cs.size = ks.length ∧ ∀ (i : Nat) (k : IntKind), ks[i]? = some k → ∃ n : Int, cs[i]? = some (.int k n) ∧ k.has n := by
  have hlen : ts.length = ks.length := by have := congrArg List.length hk; simpa using this
  have h' : ∃ cs, v = .agg cs ∧ cs.size = P.cellsOf t ∧ Row.okWide P W .any base t cs := by
    unfold Value.okWide at h
    split at h <;> first | exact h | (rename_i h1 h2; revert hagg; split <;> simp_all)
  obtain ⟨cs, hv, hs, ts', hct', _, hc⟩ := h'
  rw [hct] at hct'
  obtain rfl := Option.some.inj hct'
  refine ⟨cs, hv, by omega, fun i k hi => ?_⟩
  have hil : i < ks.length := (List.getElem?_eq_some_iff.1 hi).1
  have hic : i < cs.size := by omega
  obtain ⟨u, hu, hcell⟩ := hc i cs[i] (Array.getElem?_eq_getElem hic)
  rw [Nat.mod_eq_of_lt (by omega)] at hu
  have : (ts.map (fun u => P.underlying u))[i]? = some (P.underlying u) := by simp [hu]
  rw [hk] at this
  simp only [List.getElem?_map, hi, Option.map_some, Option.some.injEq] at this
  obtain ⟨n, hn, hh⟩ := cell_int this.symm hcell
  exact ⟨n, by rw [Array.getElem?_eq_getElem hic, hn], hh⟩
theorem has_i8 {n : Int} (h : IntKind.i8.has n) : -128 ≤ n ∧ n ≤ 127 := h
theorem has_u8 {n : Int} (h : IntKind.u8.has n) : 0 ≤ n ∧ n ≤ 255 := h
/-- a world with a table laid -/
def layTab (w : World) (g : Nat) (cs : Array Value) : World :=
  { w with heap := w.heap.modify g fun
      | .cells _ t frozen => .cells cs t frozen
      | o => o }
theorem own : ownKnob Tryz.prog.godebug = none := by kernel_rfl
theorem laidOut : laidOutB Tryz.prog = true := by kernel_rfl
end Go.Proofs.YtloocadjbpgldaaGreatDoor
/- The walk through the product of integers. -/
namespace Go.Proofs.YtloocadjbpgldaaGreatDoor
open Go.RowKit

theorem mul_next (a b : Int) (i : Nat) : low a i * b + dg a i * b * 4294967296 ^ i = low a (i + 1) * b := by rw [low_succ]; grind
theorem mul_top {a b c : Int} {i lb : Nat} (hr : hi (low a i * b) (i + lb) = 0) (hb : hi b lb = 0)
    (h : hi (low a i * b + dg a i * b * 4294967296 ^ i) (i + lb) = hi (low a i * b) (i + lb) + dg a i * hi b lb + c) (h0 : 0 ≤ c) (h1 : c < 4294967296) :
    dg (low a (i + 1) * b) (i + lb) = c ∧ hi (low a (i + 1) * b) (i + 1 + lb) = 0 := by
  rw [mul_next, hr, hb, Int.mul_zero] at h
  have e : i + 1 + lb = i + lb + 1 := by omega
  rw [e, hi_succ]
  unfold dg
  omega

set_option maxRecDepth 100000 in
set_option maxHeartbeats 2000000 in
theorem mul_raw (s t : Bool) (a b : Int) (ao bo : Option Addr) (la lb ca cb : Nat) (w : World) (hla : la ≤ 1000000) (hlb : lb ≤ 1000000) (ha : Mag w ao la ca a) (hb : Mag w bo lb cb b) :
    Calls Tryz.prog 97 #[.agg #[.bool s, .slice ao la ca], .agg #[.bool t, .slice bo lb cb]] w fun e w' =>
      (∃ go n cap, e = .returned (.agg #[.bool ((s != t) && decide (0 < n)), .slice go n cap]) ∧ Mag w' go n cap (a * b)) ∧ Below w.heap.size w w' := by
  go_enter Tryz.func97, Tryz.ntmps97
  go_wp2_with (at_make; refine wpList_make32 _ rfl _ _ rfl _ _ (la + lb) rfl rfl (by omega) (by omega) (by omega) ?_)
  intro w1 hO hB hsz
  obtain ⟨hG0, f0, f1, f2, hS3⟩ := alloc3_facts w (.cells #[.bool s, .slice ao la ca] 27) (.cells #[.bool t, .slice bo lb cb] 27) (.cells #[.bool false, .slice none 0 0] 27)
  have hB' := (hB.mono (Nat.le_of_eq hS3) : Gr _ w1)
  have hG : Gr w w1 := hG0.trans hB'
  have p0 := Gr.heap hB' f0
  have p1 := Gr.heap hB' f1
  have p2 := Gr.heap hB' f2
  have c0 := cells_of p0 0
  have c1 := cells_of p0 1
  have c2 := cells_of p1 0
  have c3 := cells_of p1 1
  clear hB' hG0 hS3 f0 f1 f2
  have hO1 := hO
  clear hO hB hsz
  go_wp2
  go_loopw [22] (fun i wr => ∃ (k : Nat) (d : Nat → Int), k ≤ la ∧ i = .int .i64 k ∧ Own wr (w.heap.size + 1 + 1 + 1) (la + lb) d ∧ Below (w.heap.size + 1 + 1 + 1) w1 wr ∧ Hid (∀ j, j < la + lb → d j = dg (low a k * b) j) ∧ Hid (hi (low a k * b) (k + lb) = 0)) (fun i _ => la - (intOf i).toNat)
  case atStart => exact ⟨0, _, Nat.zero_le _, rfl, hO1, Below.refl _ _, fun j _ => by rw [low_zero, Int.zero_mul]; unfold dg; rw [hi_zero_n]; rfl, by rw [Hid, low_zero, Int.zero_mul, hi_zero_n]⟩
  case round =>
    obtain ⟨k, d, hk, rfl, hO, hB, hd, htop⟩ := hrel
    by_cases hlt : k < la
    · have hc := bcell hB
      have hw : Below w.heap.size w wr := Below.trans hG (hB.mono (by omega))
      obtain ⟨b1, off1, rfl, hcs1⟩ := (ha.below hw).row.at_ (by omega)
      have hcell1 := hcs1 k hlt
      have x0 := dg_nonneg a k
      have x1 := dg_lt a k
      clear hcs1 hw
      go_wp2
      obtain ⟨wo, hwo⟩ : ∃ wo : World, wo = wr := ⟨_, rfl⟩
      subst hwo
      go_loopw [8, 30] (fun c i wr => ∃ (j : Nat) (cr : Int) (e : Nat → Int), j ≤ lb ∧ i = .int .i64 j ∧ c = .int .u64 cr ∧ 0 ≤ cr ∧ cr < 4294967296 ∧ Own wr (w.heap.size + 1 + 1 + 1) (la + lb) e ∧ Below (w.heap.size + 1 + 1 + 1) w1 wr ∧
        Hid (hi (low a k * b + dg a k * b * 4294967296 ^ k) (k + j) = hi (low a k * b) (k + j) + dg a k * hi b j + cr) ∧
        Hid (∀ i, i < la + lb → e i = if i < k + j then dg (low a k * b + dg a k * b * 4294967296 ^ k) i else dg (low a k * b) i)) (fun _ i _ => lb - (intOf i).toNat)
      case atStart =>
        refine ⟨0, 0, d, Nat.zero_le _, rfl, rfl, by omega, by omega, hO, hB, ?_, fun i hi => ?_⟩
        · rw [Hid, Nat.add_zero, hi_addmul, hi_zero]; omega
        · rw [hd.out i hi, Nat.add_zero]
          split
          · rw [dg_addmul _ _ (by assumption)]
          · rfl
      case round =>
        obtain ⟨j, cr, e, hj, rfl, rfl, hc0, hc1, hO2, hB2, hz, he⟩ := hrel
        have hcc := bcell hB2
        by_cases hlt2 : j < lb
        · have hw : Below w.heap.size w wr := Below.trans hG (hB2.mono (by omega))
          obtain ⟨b2, off2, rfl, hcs2⟩ := (hb.below hw).row.at_ (by omega)
          have hcell2 := hcs2 j hlt2
          have y0 := dg_nonneg b j
          have y1 := dg_lt b j
          have hs := mul_step hz.out hc0 hc1 x0 x1
          have z0 := hs.2.2.2.2.1
          have z1 := hs.2.2.2.2.2
          have HS := Lib.hid hs
          clear hcs2 hw hs
          have hcell3 := hO2.cell (k + j) (by omega)
          have hfree := hO2.free (k + j)
          have e1 := he.out (k + j) (by omega)
          rw [if_neg (by omega)] at e1
          rw [e1] at hcell3
          have r0 := dg_nonneg (low a k * b) (k + j)
          have r1 := dg_lt (low a k * b) (k + j)
          clear e1
          go_wp2
          have hs := HS.out
          go_roundw
          case rel =>
            refine ⟨j + 1, _, _, by omega, by go_num, rfl, hs.2.2.1, hs.2.2.2.1, hO2.set (by omega) _, hB2.setCell (Nat.le_refl _) _, hs.2.1, fun i hi => ?_⟩
            by_cases e1 : i = k + j
            · subst e1; rw [upd_same, if_pos (by omega), hs.1]
            · rw [upd_other _ _ e1, he.out i hi]
              by_cases e2 : i < k + j
              · rw [if_pos e2, if_pos (by omega)]
              · rw [if_neg e2, if_neg (by omega)]
          case measure => simp [intOf]; omega
        · obtain rfl : j = lb := by omega
          have hcell3 := hO2.cell (k + j) (by omega)
          have hfree := hO2.free (k + j)
          have ht := mul_top htop.out hb.nl.top hz.out hc0 hc1
          have HT := Lib.hid ht
          clear ht
          go_wp2
          have ht := HT.out
          go_roundw
          case rel =>
            refine ⟨k + 1, _, by omega, by go_num, hO2.set (by omega) cr, hB2.setCell (Nat.le_refl _) _, fun i hi => ?_, ht.2⟩
            by_cases e1 : i = k + j
            · subst e1; rw [upd_same]; exact ht.1.symm
            · rw [upd_other _ _ e1, he.out i hi]
              by_cases e2 : i < k + j
              · rw [if_pos e2, mul_next]
              · rw [if_neg e2, dg_zero_of htop.out (by omega), dg_zero_of ht.2 (by omega)]
          case measure => simp [intOf]; omega
    · obtain rfl : k = la := by omega
      have hc := bcell hB
      go_wp2_with fail
      have hlow := low_top ha.nl.top
      have hO' := hO.congr hd.out
      have htop' := htop.out
      rw [hlow] at hO' htop'
      refine (signed_c _ _ _ _ (a * b) _ (by omega) (Nat.le_refl _) (Int.mul_nonneg ha.nl.nonneg hb.nl.nonneg) htop' hO'.row).mono ?_
      rintro e w3 ⟨⟨n, rfl, hm, hn⟩, hB3⟩
      have p3 := Gr.heap hB3 ((Below.block hB (w.heap.size + 1 + 1) (by omega)).trans p2)
      have d0 := cells_of p3 0
      have d1 := cells_of p3 1
      have d2 := free_of p3
      have hw3 : Below w.heap.size w w3 := Below.trans (Below.trans hG (hB.mono (by omega))) (Below.mono hB3 (Nat.le_trans (Below.size hG) (Below.size hB)))
      clear hc c0 c1 c2 c3 p0 p1 p2 hd htop hO hO1 hlow htop' hO'
      go_wp2
      have e0 : (!s == t && decide (0 < n)) = ((s != t) && decide (0 < n)) := by cases s <;> cases t <;> rfl
      have p4 := heap_setCell_at (i := 1) (.slice (some ⟨w.heap.size + 1 + 1 + 1, 0, none⟩) n (k + lb)) (heap_setCell_at (i := 0) (.bool (!s == t && decide (0 < n))) p3)
      have hst := (St.setCell w3 (w.heap.size + 1 + 1) 0 (.bool (!s == t && decide (0 < n)))).trans (St.setCell _ (w.heap.size + 1 + 1) 1 (.slice (some ⟨w.heap.size + 1 + 1 + 1, 0, none⟩) n (k + lb)))
      refine bodyPost_ret (v := .agg #[.bool (!s == t && decide (0 < n)), .slice (some ⟨w.heap.size + 1 + 1 + 1, 0, none⟩) n (k + lb)]) (ret_cell _ _ _ rfl rfl p4 (by kernel_rfl)) rfl ⟨⟨_, _, _, by rw [e0], (hm.kp (Gr.kp hB3)).kp (hst.kp p3 (by decide))⟩, hst.below hw3 (by omega)⟩
end Go.Proofs.YtloocadjbpgldaaGreatDoor
/- The contracts on magnitudes in the form that the printed walks use. -/
namespace Go.Proofs.YtloocadjbpgldaaGreatDoor
open Go.RowKit

theorem Mag.gr {w w' : World} {ao : Option Addr} {len cap : Nat} {n : Int} (h : Mag w ao len cap n) (hb : Gr w w') : Mag w' ao len cap n := h.kp hb.kp
theorem Mag.one0 {w : World} {ao : Option Addr} {len cap : Nat} {n : Int} (_h : Mag w ao len cap n) : (Value.slice ao len cap).oneCell' = true := rfl

/-- digits, perhaps with zeros at the end -/
structure Raw (w : World) (ao : Option Addr) (m cap : Nat) (n : Int) : Prop where
  cap : m ≤ cap
  len : m ≤ 2000000
  nonneg : 0 ≤ n
  top : hi n m = 0
  row : Row w ao m (dg n)
theorem Raw.kp {w w' : World} {ao : Option Addr} {len cap : Nat} {n : Int} (h : Raw w ao len cap n) (hb : Kp w w') : Raw w' ao len cap n := ⟨h.cap, h.len, h.nonneg, h.top, h.row.kp hb⟩
theorem Raw.gr {w w' : World} {ao : Option Addr} {len cap : Nat} {n : Int} (h : Raw w ao len cap n) (hb : Gr w w') : Raw w' ao len cap n := h.kp hb.kp

theorem plus_m {w : World} {ao bo : Option Addr} {la lb ca cb : Nat} {a b : Int} (ha : Mag w ao la ca a) (hb : Mag w bo lb cb b) (hla : la ≤ 1000000) (hlb : lb ≤ 1000000) :
    Calls Tryz.prog 131 #[.slice ao la ca, .slice bo lb cb] w fun e w' => (∃ go n, e = .returned (.slice go n n) ∧ Raw w' go n n (a + b)) ∧ Gr w w' := by
  refine (plus_c ao bo la lb ca cb a b w hla hlb ha hb).mono ?_
  rintro e w1 ⟨⟨g, n, he, hn, hO, ht⟩, hB⟩
  exact ⟨⟨_, n, he, Nat.le_refl _, by omega, by have := ha.nl.nonneg; have := hb.nl.nonneg; omega, ht, hO.row⟩, hB⟩
theorem minus_m {w : World} {ao bo : Option Addr} {la lb ca cb : Nat} {a b : Int} (ha : Mag w ao la ca a) (hb : Mag w bo lb cb b) (hla : la ≤ 1000000) (hlb : lb ≤ 1000000) (hle : b ≤ a) :
    Calls Tryz.prog 132 #[.slice ao la ca, .slice bo lb cb] w fun e w' => (∃ go n, e = .returned (.slice go n n) ∧ Raw w' go n n (a - b)) ∧ Gr w w' := by
  refine (minus_c ao bo la lb ca cb a b w hla hlb hle ha hb).mono ?_
  rintro e w1 ⟨⟨g, he, hO, ht⟩, hB⟩
  exact ⟨⟨_, la, he, Nat.le_refl _, by omega, by omega, ht, hO.row⟩, hB⟩
theorem order_m {w : World} {ao bo : Option Addr} {la lb ca cb : Nat} {a b : Int} (ha : Mag w ao la ca a) (hb : Mag w bo lb cb b) (hla : la ≤ 1000000) (hlb : lb ≤ 1000000) :
    Calls Tryz.prog 103 #[.slice ao la ca, .slice bo lb cb] w fun e w' => e = .returned (.int .i64 (sgn (a - b))) ∧ Gr w w' :=
  order_c ao bo la lb ca cb a b w (by omega) (by omega) ha hb
theorem signed_m {w : World} {ao : Option Addr} {len cap : Nat} {n : Int} {neg : Bool} (h : Raw w ao len cap n) :
    Calls Tryz.prog 78 #[.bool neg, .slice ao len cap] w fun e w' => (∃ k, e = .returned (.agg #[.bool (neg && decide (0 < k)), .slice ao k cap]) ∧ Mag w' ao k cap n) ∧ Gr w w' := by
  refine (signed_c neg ao len cap n w h.len h.cap h.nonneg h.top h.row).mono ?_
  rintro e w1 ⟨⟨k, he, hm, _⟩, hB⟩
  exact ⟨⟨k, he, hm.gr hB⟩, hB⟩
theorem sgn_nonneg {z : Int} (h : 0 ≤ z) : 0 ≤ sgn z := by unfold sgn; rw [if_neg (by omega)]; split <;> omega
theorem IsInt.mag {w : World} {k : Nat} {z : Int} {s : Bool} {ao : Option Addr} {len cap : Nat} (h : IsInt w k (.bool s) (.slice ao len cap) z) : s = decide (z < 0) ∧ Mag w ao len cap (z.natAbs : Int) ∧ Sz k z := by
  obtain ⟨ao', len', cap', h1, h2, h3, h4⟩ := h
  simp only [Value.bool.injEq, Value.slice.injEq] at h1 h2
  obtain ⟨rfl, rfl, rfl⟩ := h2
  exact ⟨h1, h3, h4⟩
end Go.Proofs.YtloocadjbpgldaaGreatDoor
/- Printed by a program of the prover's: the walks through sums of integers. -/
namespace Go.Proofs.YtloocadjbpgldaaGreatDoor
open Go.RowKit

set_option maxRecDepth 100000 in
set_option maxHeartbeats 1000000 in
theorem add_same {w : World} {s : Bool} {a b : Int} {ao bo : Option Addr} {la lb ca cb : Nat} (ha : Mag w ao la ca a) (hb : Mag w bo lb cb b) (hla : la ≤ 1000000) (hlb : lb ≤ 1000000) :
    Calls Tryz.prog 96 #[(.agg #[(.bool (s)), (.slice ao la ca)]), (.agg #[(.bool (s)), (.slice bo lb cb)])] w fun e w' => (∃ go n cap, e = .returned (.agg #[.bool (s && decide (0 < n)), .slice go n cap]) ∧ Mag w' go n cap (a + b)) ∧ Gr w w' := by
 have hss : (s == s) = true := by simp
 go_enter Tryz.func96, Tryz.ntmps96
 have hB := Gr.refl w
 refine wp_seq_k (fun K1 k1 => ?_)
 refine rg [0, 1, 2] ?_
 refine se ?_
 refine eb 27 #[(.bool (s)), (.slice ao la ca)] 2 hB fun b2 w2 g2 L2 o2 q2 hB => ?_
 simp only [p3, p4]
 refine se ?_
 refine eb 27 #[(.bool (s)), (.slice bo lb cb)] 3 hB fun b3 w3 g3 L3 o3 q3 hB => ?_
 have ne2_3 := L2.ne o3
 simp only [p3, p4]
 refine se ?_
 refine ea 27 #[(.bool false), (.slice none 0 0)] 4 hB fun b4 w4 g4 L4 o4 q4 hB => ?_
 replace L2 := L2.gr g3
 have ne2_4 := L2.ne o4
 have ne3_4 := L3.ne o4
 simp only [p3, p4]
 refine sq_nil ?_
 refine k1 _ _ ?_
 try clear k1 K1
 refine wp_seq_k (fun K5 k5 => ?_)
 refine wp_block ?_
 refine wp_seq_k (fun K6 k6 => ?_)
 refine rg [0, 1, 2, 3, 4, 5] ?_
 refine sv 6 (.pointer (some ⟨b2, 0, none⟩)) ?_
 simp only [p3, p4]
 replace L2 := L2.gr g4
 refine sw 7 (.bool (s)) rfl (rk 4 0 L2) ?_
 simp only [p3, p4]
 refine sv 8 (.pointer (some ⟨b3, 0, none⟩)) ?_
 simp only [p3, p4]
 replace L3 := L3.gr g4
 refine sw 9 (.bool (s)) rfl (rk 4 0 L3) ?_
 simp only [p3, p4]
 refine sw 10 (.bool true) rfl (RunV.bool (x := (s == s)) (rvk (by kernel_rfl)) hss) ?_
 simp only [p3, p4]
 refine sv 5 (.bool true) ?_
 simp only [p3, p4]
 refine sq_nil ?_
 refine k6 _ _ ?_
 try clear k6 K6
 refine wp_cond_true rfl ?_
 refine wp_seq_k (fun K7 k7 => ?_)
 have gd16 := Gr.drew w4
 replace hB := hB.trans gd16
 replace L2 := L2.gr gd16
 replace L3 := L3.gr gd16
 refine wp_region_ord (fun w' => Lc w' b2 #[(.bool (s)), (.slice ao la ca)] 27 ∧ Lc w' b3 #[(.bool (s)), (.slice bo lb cb)] 27) [(true, 0), (true, 1), (true, 2), (true, 3), (true, 4), (true, 5), (false, 6), (false, 7), (false, 8)] (by kernel_rfl) (by kernel_rfl) (by kernel_rfl) (by decide) (fun _ _ _ _ _ h => h) ⟨L2, L3⟩ ?_
 refine ov 11 (.pointer (some ⟨b2, 0, none⟩)) ?_
 simp only [p3, p4]
 refine ow 12 (.bool (s)) rfl (fun w' hS => (rk 4 0 hS.1)) ?_
 simp only [p3, p4]
 refine ov 13 (.pointer (some ⟨b2, 1, none⟩)) ?_
 simp only [p3, p4]
 refine ow 14 (.slice ao la ca) rfl (fun w' hS => (rk 25 1 hS.1)) ?_
 simp only [p3, p4]
 refine ov 15 (.pointer (some ⟨b3, 1, none⟩)) ?_
 simp only [p3, p4]
 refine ow 16 (.slice bo lb cb) rfl (fun w' hS => (rk 25 1 hS.2)) ?_
 simp only [p3, p4]
 refine oe ?_
 have kq19 := g2.kp.trans (g3.kp.trans (g4.kp.trans gd16.kp))
 replace ha := ha.kp kq19
 replace hb := hb.kp kq19
 refine ec 17 (plus_m ha hb (by omega) (by omega)) ?_
 rintro e18 w18 ⟨⟨go18, n18, rfl, h18⟩, g18⟩
 refine ⟨_, rfl, ?_⟩
 replace hB := hB.trans g18
 replace L2 := L2.gr g18
 replace L3 := L3.gr g18
 refine ⟨⟨L2, L3⟩, ?_⟩
 simp only [p3, p4]
 refine oe ?_
 refine ec 18 (signed_m (neg := s) h18) ?_
 rintro e21 w21 ⟨⟨k21, rfl, h21⟩, g21⟩
 refine ⟨_, rfl, ?_⟩
 replace hB := hB.trans g21
 replace L2 := L2.gr g21
 replace L3 := L3.gr g21
 refine ⟨⟨L2, L3⟩, ?_⟩
 simp only [p3, p4]
 refine oe ?_
 replace L4 := L4.gr (gd16.trans (g18.trans g21))
 refine es 27 0 (.agg #[(.bool (s && decide (0 < k21))), (.slice go18 k21 n18)]) [(.bool (s && decide (0 < k21))), (.slice go18 k21 n18)] #[(.bool (s && decide (0 < k21))), (.slice go18 k21 n18)] L4 hB q4 ⟨rfl, rfl, trivial⟩ fun w23 st23 kp23 L4 hB => ?_
 replace L2 := st23.lc L2 ne2_4
 replace L3 := st23.lc L3 ne3_4
 refine ⟨⟨L2, L3⟩, ?_⟩
 refine ord_nil ?_
 refine k7 _ _ ?_
 try clear k7 K7
 refine wp_ret ?_
 simp only [Exit.then, Exit.inBlock]
 refine bodyPost_ret (v := (.agg #[(.bool (s && decide (0 < k21))), (.slice go18 k21 n18)])) (ret_cell _ _ _ rfl rfl L4 (by kernel_rfl)) rfl ⟨?_, hB⟩
 replace h21 := h21.kp kp23
 exact ⟨_, _, _, rfl, h21⟩

set_option maxRecDepth 100000 in
set_option maxHeartbeats 1000000 in
theorem add_diff_ge {w : World} {s : Bool} {a b : Int} {ao bo : Option Addr} {la lb ca cb : Nat} (ha : Mag w ao la ca a) (hb : Mag w bo lb cb b) (hla : la ≤ 1000000) (hlb : lb ≤ 1000000) (hle : b ≤ a) :
    Calls Tryz.prog 96 #[(.agg #[(.bool (s)), (.slice ao la ca)]), (.agg #[(.bool (!s)), (.slice bo lb cb)])] w fun e w' => (∃ go n cap, e = .returned (.agg #[.bool (s && decide (0 < n)), .slice go n cap]) ∧ Mag w' go n cap (a - b)) ∧ Gr w w' := by
 have hss : (s == !s) = false := by simp
 have hor : decide ((0 : Int) ≤ sgn (a - b)) = true := by simp only [decide_eq_true_eq]; exact sgn_nonneg (by omega)
 go_enter Tryz.func96, Tryz.ntmps96
 have hB := Gr.refl w
 refine wp_seq_k (fun K1 k1 => ?_)
 refine rg [0, 1, 2] ?_
 refine se ?_
 refine eb 27 #[(.bool (s)), (.slice ao la ca)] 2 hB fun b2 w2 g2 L2 o2 q2 hB => ?_
 simp only [p3, p4]
 refine se ?_
 refine eb 27 #[(.bool (!s)), (.slice bo lb cb)] 3 hB fun b3 w3 g3 L3 o3 q3 hB => ?_
 have ne2_3 := L2.ne o3
 simp only [p3, p4]
 refine se ?_
 refine ea 27 #[(.bool false), (.slice none 0 0)] 4 hB fun b4 w4 g4 L4 o4 q4 hB => ?_
 replace L2 := L2.gr g3
 have ne2_4 := L2.ne o4
 have ne3_4 := L3.ne o4
 simp only [p3, p4]
 refine sq_nil ?_
 refine k1 _ _ ?_
 try clear k1 K1
 refine wp_seq_k (fun K5 k5 => ?_)
 refine wp_block ?_
 refine wp_seq_k (fun K6 k6 => ?_)
 refine rg [0, 1, 2, 3, 4, 5] ?_
 refine sv 6 (.pointer (some ⟨b2, 0, none⟩)) ?_
 simp only [p3, p4]
 replace L2 := L2.gr g4
 refine sw 7 (.bool (s)) rfl (rk 4 0 L2) ?_
 simp only [p3, p4]
 refine sv 8 (.pointer (some ⟨b3, 0, none⟩)) ?_
 simp only [p3, p4]
 replace L3 := L3.gr g4
 refine sw 9 (.bool (!s)) rfl (rk 4 0 L3) ?_
 simp only [p3, p4]
 refine sw 10 (.bool false) rfl (RunV.bool (x := (s == !s)) (rvk (by kernel_rfl)) hss) ?_
 simp only [p3, p4]
 refine sv 5 (.bool false) ?_
 simp only [p3, p4]
 refine sq_nil ?_
 refine k6 _ _ ?_
 try clear k6 K6
 refine wp_cond_false rfl ?_
 refine wp_seq_k (fun K7 k7 => ?_)
 refine rg [0, 1, 2, 3, 4, 5, 6] ?_
 refine sv 20 (.pointer (some ⟨b2, 1, none⟩)) ?_
 simp only [p3, p4]
 refine sw 21 (.slice ao la ca) rfl (rk 25 1 L2) ?_
 simp only [p3, p4]
 refine sv 22 (.pointer (some ⟨b3, 1, none⟩)) ?_
 simp only [p3, p4]
 refine sw 23 (.slice bo lb cb) rfl (rk 25 1 L3) ?_
 simp only [p3, p4]
 refine se ?_
 have kq9 := g2.kp.trans (g3.kp.trans g4.kp)
 replace ha := ha.kp kq9
 replace hb := hb.kp kq9
 refine ec 24 (order_m ha hb (by omega) (by omega)) ?_
 rintro e8 w8 ⟨rfl, g8⟩
 refine ⟨_, rfl, ?_⟩
 replace hB := hB.trans g8
 simp only [p3, p4]
 refine sw 25 (.bool true) rfl (RunV.bool (x := decide ((0 : Int) ≤ sgn (a - b))) (rvk (by kernel_rfl)) hor) ?_
 simp only [p3, p4]
 refine sv 19 (.bool true) ?_
 simp only [p3, p4]
 refine sq_nil ?_
 refine k7 _ _ ?_
 try clear k7 K7
 refine wp_cond_true rfl ?_
 refine wp_seq_k (fun K10 k10 => ?_)
 have gd19 := Gr.drew w8
 replace hB := hB.trans gd19
 replace L2 := L2.gr (g8.trans gd19)
 replace L3 := L3.gr (g8.trans gd19)
 refine wp_region_ord (fun w' => Lc w' b2 #[(.bool (s)), (.slice ao la ca)] 27 ∧ Lc w' b3 #[(.bool (!s)), (.slice bo lb cb)] 27) [(true, 0), (true, 1), (true, 2), (true, 3), (true, 4), (true, 5), (false, 6), (false, 7), (false, 8)] (by kernel_rfl) (by kernel_rfl) (by kernel_rfl) (by decide) (fun _ _ _ _ _ h => h) ⟨L2, L3⟩ ?_
 refine ov 26 (.pointer (some ⟨b2, 0, none⟩)) ?_
 simp only [p3, p4]
 refine ow 27 (.bool (s)) rfl (fun w' hS => (rk 4 0 hS.1)) ?_
 simp only [p3, p4]
 refine ov 28 (.pointer (some ⟨b2, 1, none⟩)) ?_
 simp only [p3, p4]
 refine ow 29 (.slice ao la ca) rfl (fun w' hS => (rk 25 1 hS.1)) ?_
 simp only [p3, p4]
 refine ov 30 (.pointer (some ⟨b3, 1, none⟩)) ?_
 simp only [p3, p4]
 refine ow 31 (.slice bo lb cb) rfl (fun w' hS => (rk 25 1 hS.2)) ?_
 simp only [p3, p4]
 refine oe ?_
 have kq22 := g8.kp.trans gd19.kp
 replace ha := ha.kp kq22
 replace hb := hb.kp kq22
 refine ec 32 (minus_m ha hb (by omega) (by omega) (by omega)) ?_
 rintro e21 w21 ⟨⟨go21, n21, rfl, h21⟩, g21⟩
 refine ⟨_, rfl, ?_⟩
 replace hB := hB.trans g21
 replace L2 := L2.gr g21
 replace L3 := L3.gr g21
 refine ⟨⟨L2, L3⟩, ?_⟩
 simp only [p3, p4]
 refine oe ?_
 refine ec 33 (signed_m (neg := s) h21) ?_
 rintro e24 w24 ⟨⟨k24, rfl, h24⟩, g24⟩
 refine ⟨_, rfl, ?_⟩
 replace hB := hB.trans g24
 replace L2 := L2.gr g24
 replace L3 := L3.gr g24
 refine ⟨⟨L2, L3⟩, ?_⟩
 simp only [p3, p4]
 refine oe ?_
 replace L4 := L4.gr (g8.trans (gd19.trans (g21.trans g24)))
 refine es 27 0 (.agg #[(.bool (s && decide (0 < k24))), (.slice go21 k24 n21)]) [(.bool (s && decide (0 < k24))), (.slice go21 k24 n21)] #[(.bool (s && decide (0 < k24))), (.slice go21 k24 n21)] L4 hB q4 ⟨rfl, rfl, trivial⟩ fun w26 st26 kp26 L4 hB => ?_
 replace L2 := st26.lc L2 ne2_4
 replace L3 := st26.lc L3 ne3_4
 refine ⟨⟨L2, L3⟩, ?_⟩
 refine ord_nil ?_
 refine k10 _ _ ?_
 try clear k10 K10
 refine wp_ret ?_
 simp only [Exit.then, Exit.inBlock]
 refine bodyPost_ret (v := (.agg #[(.bool (s && decide (0 < k24))), (.slice go21 k24 n21)])) (ret_cell _ _ _ rfl rfl L4 (by kernel_rfl)) rfl ⟨?_, hB⟩
 replace h24 := h24.kp kp26
 exact ⟨_, _, _, rfl, h24⟩

set_option maxRecDepth 100000 in
set_option maxHeartbeats 1000000 in
theorem add_diff_lt {w : World} {s : Bool} {a b : Int} {ao bo : Option Addr} {la lb ca cb : Nat} (ha : Mag w ao la ca a) (hb : Mag w bo lb cb b) (hla : la ≤ 1000000) (hlb : lb ≤ 1000000) (hle : a < b) :
    Calls Tryz.prog 96 #[(.agg #[(.bool (s)), (.slice ao la ca)]), (.agg #[(.bool (!s)), (.slice bo lb cb)])] w fun e w' => (∃ go n cap, e = .returned (.agg #[.bool (!s && decide (0 < n)), .slice go n cap]) ∧ Mag w' go n cap (b - a)) ∧ Gr w w' := by
 have hss : (s == !s) = false := by simp
 have hor : decide ((0 : Int) ≤ sgn (a - b)) = false := by rw [sgn_neg (by omega)]; rfl
 go_enter Tryz.func96, Tryz.ntmps96
 have hB := Gr.refl w
 refine wp_seq_k (fun K1 k1 => ?_)
 refine rg [0, 1, 2] ?_
 refine se ?_
 refine eb 27 #[(.bool (s)), (.slice ao la ca)] 2 hB fun b2 w2 g2 L2 o2 q2 hB => ?_
 simp only [p3, p4]
 refine se ?_
 refine eb 27 #[(.bool (!s)), (.slice bo lb cb)] 3 hB fun b3 w3 g3 L3 o3 q3 hB => ?_
 have ne2_3 := L2.ne o3
 simp only [p3, p4]
 refine se ?_
 refine ea 27 #[(.bool false), (.slice none 0 0)] 4 hB fun b4 w4 g4 L4 o4 q4 hB => ?_
 replace L2 := L2.gr g3
 have ne2_4 := L2.ne o4
 have ne3_4 := L3.ne o4
 simp only [p3, p4]
 refine sq_nil ?_
 refine k1 _ _ ?_
 try clear k1 K1
 refine wp_seq_k (fun K5 k5 => ?_)
 refine wp_block ?_
 refine wp_seq_k (fun K6 k6 => ?_)
 refine rg [0, 1, 2, 3, 4, 5] ?_
 refine sv 6 (.pointer (some ⟨b2, 0, none⟩)) ?_
 simp only [p3, p4]
 replace L2 := L2.gr g4
 refine sw 7 (.bool (s)) rfl (rk 4 0 L2) ?_
 simp only [p3, p4]
 refine sv 8 (.pointer (some ⟨b3, 0, none⟩)) ?_
 simp only [p3, p4]
 replace L3 := L3.gr g4
 refine sw 9 (.bool (!s)) rfl (rk 4 0 L3) ?_
 simp only [p3, p4]
 refine sw 10 (.bool false) rfl (RunV.bool (x := (s == !s)) (rvk (by kernel_rfl)) hss) ?_
 simp only [p3, p4]
 refine sv 5 (.bool false) ?_
 simp only [p3, p4]
 refine sq_nil ?_
 refine k6 _ _ ?_
 try clear k6 K6
 refine wp_cond_false rfl ?_
 refine wp_seq_k (fun K7 k7 => ?_)
 refine rg [0, 1, 2, 3, 4, 5, 6] ?_
 refine sv 20 (.pointer (some ⟨b2, 1, none⟩)) ?_
 simp only [p3, p4]
 refine sw 21 (.slice ao la ca) rfl (rk 25 1 L2) ?_
 simp only [p3, p4]
 refine sv 22 (.pointer (some ⟨b3, 1, none⟩)) ?_
 simp only [p3, p4]
 refine sw 23 (.slice bo lb cb) rfl (rk 25 1 L3) ?_
 simp only [p3, p4]
 refine se ?_
 have kq9 := g2.kp.trans (g3.kp.trans g4.kp)
 replace ha := ha.kp kq9
 replace hb := hb.kp kq9
 refine ec 24 (order_m ha hb (by omega) (by omega)) ?_
 rintro e8 w8 ⟨rfl, g8⟩
 refine ⟨_, rfl, ?_⟩
 replace hB := hB.trans g8
 simp only [p3, p4]
 refine sw 25 (.bool false) rfl (RunV.bool (x := decide ((0 : Int) ≤ sgn (a - b))) (rvk (by kernel_rfl)) hor) ?_
 simp only [p3, p4]
 refine sv 19 (.bool false) ?_
 simp only [p3, p4]
 refine sq_nil ?_
 refine k7 _ _ ?_
 try clear k7 K7
 refine wp_cond_false rfl ?_
 refine wp_skip ?_
 refine k5 _ _ ?_
 try clear k5 K5
 refine wp_seq_k (fun K10 k10 => ?_)
 have gd19 := Gr.drew w8
 replace hB := hB.trans gd19
 replace L2 := L2.gr (g8.trans gd19)
 replace L3 := L3.gr (g8.trans gd19)
 refine wp_region_ord (fun w' => Lc w' b2 #[(.bool (s)), (.slice ao la ca)] 27 ∧ Lc w' b3 #[(.bool (!s)), (.slice bo lb cb)] 27) [(true, 0), (true, 1), (true, 2), (true, 3), (true, 4), (true, 5), (false, 6), (false, 7), (false, 8)] (by kernel_rfl) (by kernel_rfl) (by kernel_rfl) (by decide) (fun _ _ _ _ _ h => h) ⟨L2, L3⟩ ?_
 refine ov 34 (.pointer (some ⟨b3, 0, none⟩)) ?_
 simp only [p3, p4]
 refine ow 35 (.bool (!s)) rfl (fun w' hS => (rk 4 0 hS.2)) ?_
 simp only [p3, p4]
 refine ov 36 (.pointer (some ⟨b3, 1, none⟩)) ?_
 simp only [p3, p4]
 refine ow 37 (.slice bo lb cb) rfl (fun w' hS => (rk 25 1 hS.2)) ?_
 simp only [p3, p4]
 refine ov 38 (.pointer (some ⟨b2, 1, none⟩)) ?_
 simp only [p3, p4]
 refine ow 39 (.slice ao la ca) rfl (fun w' hS => (rk 25 1 hS.1)) ?_
 simp only [p3, p4]
 refine oe ?_
 have kq22 := g8.kp.trans gd19.kp
 replace hb := hb.kp kq22
 replace ha := ha.kp kq22
 refine ec 40 (minus_m hb ha (by omega) (by omega) (by omega)) ?_
 rintro e21 w21 ⟨⟨go21, n21, rfl, h21⟩, g21⟩
 refine ⟨_, rfl, ?_⟩
 replace hB := hB.trans g21
 replace L2 := L2.gr g21
 replace L3 := L3.gr g21
 refine ⟨⟨L2, L3⟩, ?_⟩
 simp only [p3, p4]
 refine oe ?_
 refine ec 41 (signed_m (neg := !s) h21) ?_
 rintro e24 w24 ⟨⟨k24, rfl, h24⟩, g24⟩
 refine ⟨_, rfl, ?_⟩
 replace hB := hB.trans g24
 replace L2 := L2.gr g24
 replace L3 := L3.gr g24
 refine ⟨⟨L2, L3⟩, ?_⟩
 simp only [p3, p4]
 refine oe ?_
 replace L4 := L4.gr (g8.trans (gd19.trans (g21.trans g24)))
 refine es 27 0 (.agg #[(.bool (!s && decide (0 < k24))), (.slice go21 k24 n21)]) [(.bool (!s && decide (0 < k24))), (.slice go21 k24 n21)] #[(.bool (!s && decide (0 < k24))), (.slice go21 k24 n21)] L4 hB q4 ⟨rfl, rfl, trivial⟩ fun w26 st26 kp26 L4 hB => ?_
 replace L2 := st26.lc L2 ne2_4
 replace L3 := st26.lc L3 ne3_4
 refine ⟨⟨L2, L3⟩, ?_⟩
 refine ord_nil ?_
 refine k10 _ _ ?_
 try clear k10 K10
 refine wp_ret ?_
 refine bodyPost_ret (v := (.agg #[(.bool (!s && decide (0 < k24))), (.slice go21 k24 n21)])) (ret_cell _ _ _ rfl rfl L4 (by kernel_rfl)) rfl ⟨?_, hB⟩
 replace h24 := h24.kp kp26
 exact ⟨_, _, _, rfl, h24⟩

end Go.Proofs.YtloocadjbpgldaaGreatDoor
/- The contracts on integers: Neg, Add, Mul, Sign. -/
namespace Go.Proofs.YtloocadjbpgldaaGreatDoor
open Go.RowKit

theorem Mag.pos {w : World} {ao : Option Addr} {len cap : Nat} {n : Int} (h : Mag w ao len cap n) : decide (0 < len) = decide (0 < n) := by
  have h1 := h.nl.len_zero
  have h2 := h.nl.nonneg
  by_cases e : len = 0
  · have e2 := h1.1 e
    simp [e, e2]
  · have e2 : n ≠ 0 := fun h => e (h1.2 h)
    simp; omega
/-- a sign and a magnitude make an integer -/
theorem IsInt.mk' {w : World} {k : Nat} {s : Bool} {ao : Option Addr} {len cap : Nat} {n z : Int} (h : Mag w ao len cap n) (hn : n = (z.natAbs : Int)) (hs : 0 < n → s = decide (z < 0)) (hz : Sz k z) :
    IsInt w k (.bool (s && decide (0 < len))) (.slice ao len cap) z := by
  refine ⟨ao, len, cap, ?_, rfl, hn ▸ h, hz⟩
  rw [h.pos]
  by_cases e : 0 < n
  · rw [hs e]; simp [e]
  · have : ¬ z < 0 := by omega
    simp [e, this]

set_option maxHeartbeats 1000000 in
theorem neg_i {k : Nat} {x y : Value} {z : Int} {w : World} (hz : IsInt w k x y z) :
    Calls Tryz.prog 100 #[.agg #[x, y]] w fun e w' => (∃ x' y', e = .returned (.agg #[x', y']) ∧ IsInt w' k x' y' (-z)) ∧ Gr w w' := by
  obtain ⟨ao, len, cap, rfl, rfl, hm, hs⟩ := hz
  by_cases h0 : z < 0
  · have hd : decide (z < 0) = true := by simpa using h0
    rw [hd]
    go_enter Tryz.func100, Tryz.ntmps100
    go_wp2
    exact bodyPost_ret (v := .agg #[.bool false, .slice ao len cap]) (by simp [results, Tryz.results100, go_sem]) rfl
      ⟨⟨_, _, rfl, ao, len, cap, by simp; omega, rfl, by rw [Int.natAbs_neg]; exact hm.below (((Below.refl _ _).alloc (Nat.le_refl _) _).alloc (by simp) _), hs.neg⟩, ((Below.refl _ _).alloc (Nat.le_refl _) _).alloc (by simp) _⟩
  · have hd : decide (z < 0) = false := by simpa using h0
    rw [hd]
    go_enter Tryz.func100, Tryz.ntmps100
    go_wp2
    have h1 := hm.nl.len_zero
    exact bodyPost_ret (v := .agg #[.bool (decide (0 < len)), .slice ao len cap]) (by simp [results, Tryz.results100, go_sem]) rfl
      ⟨⟨_, _, rfl, ao, len, cap, by simp; omega, rfl, by rw [Int.natAbs_neg]; exact hm.below (((Below.refl _ _).alloc (Nat.le_refl _) _).alloc (by simp) _), hs.neg⟩, ((Below.refl _ _).alloc (Nat.le_refl _) _).alloc (by simp) _⟩

set_option maxHeartbeats 1000000 in
theorem sign_i {k : Nat} {x y : Value} {z : Int} {w : World} (hz : IsInt w k x y z) :
    Calls Tryz.prog 79 #[.agg #[x, y]] w fun e w' => e = .returned (.int .i64 (sgn z)) ∧ Gr w w' := by
  obtain ⟨ao, len, cap, rfl, rfl, hm, hs⟩ := hz
  have hp := hm.nl.len_zero
  by_cases h0 : len = 0
  · subst h0
    have e0 : z = 0 := by omega
    subst e0
    go_enter Tryz.func79, Tryz.ntmps79
    go_wp2
    go_ret
    exact ⟨rfl, (Below.refl _ _).alloc (Nat.le_refl _) _⟩
  · have hl : ((len : Int) == 0) = false := by simp; omega
    by_cases h1 : z < 0
    · have hd : decide (z < 0) = true := by simpa using h1
      rw [hd]
      go_enter Tryz.func79, Tryz.ntmps79
      go_wp2
      go_ret
      exact ⟨ret_int (sgn_neg h1).symm, (Below.refl _ _).alloc (Nat.le_refl _) _⟩
    · have hd : decide (z < 0) = false := by simpa using h1
      rw [hd]
      go_enter Tryz.func79, Tryz.ntmps79
      go_wp2
      go_ret
      exact ⟨ret_int (sgn_pos (by omega)).symm, (Below.refl _ _).alloc (Nat.le_refl _) _⟩

theorem mul_i {k m : Nat} {x y x2 y2 : Value} {z u : Int} {w : World} (hz : IsInt w k x y z) (hu : IsInt w m x2 y2 u) (hk : k + m ≤ 1000000) :
    Calls Tryz.prog 97 #[.agg #[x, y], .agg #[x2, y2]] w fun e w' => (∃ x' y', e = .returned (.agg #[x', y']) ∧ IsInt w' (k + m) x' y' (z * u)) ∧ Gr w w' := by
  obtain ⟨ao, la, ca, rfl, rfl, ha, hs⟩ := hz
  obtain ⟨bo, lb, cb, rfl, rfl, hb, ht⟩ := hu
  have hla := ha.nl.len_sz hs.nat
  have hlb := hb.nl.len_sz ht.nat
  refine (mul_raw _ _ _ _ ao bo la lb ca cb w (by omega) (by omega) ha hb).mono ?_
  rintro e w1 ⟨⟨go, n, cap, he, hm⟩, hB⟩
  refine ⟨⟨_, _, he, IsInt.mk' hm (by rw [Int.natAbs_mul]; simp) (fun hp => ?_) (hs.mul ht)⟩, hB⟩
  by_cases h1 : z < 0 <;> by_cases h2 : u < 0
  · have : ¬ z * u < 0 := by have := Int.mul_pos_of_neg_of_neg h1 h2; omega
    simp [h1, h2, this]
  · have h3 : u ≠ 0 := fun h => by subst h; simp at hp
    have : z * u < 0 := Int.mul_neg_of_neg_of_pos h1 (by omega)
    simp [h1, h2, this]
  · have h3 : z ≠ 0 := fun h => by subst h; simp at hp
    have : z * u < 0 := Int.mul_neg_of_pos_of_neg (by omega) h2
    simp [h1, h2, this]
  · have : ¬ z * u < 0 := by have := Int.mul_nonneg (show 0 ≤ z by omega) (show 0 ≤ u by omega); omega
    simp [h1, h2, this]

theorem add_i {k m : Nat} {x y x2 y2 : Value} {z u : Int} {w : World} (hz : IsInt w k x y z) (hu : IsInt w m x2 y2 u) (hk : k + m + 1 ≤ 1000000) :
    Calls Tryz.prog 96 #[.agg #[x, y], .agg #[x2, y2]] w fun e w' => (∃ x' y', e = .returned (.agg #[x', y']) ∧ IsInt w' (k + m + 1) x' y' (z + u)) ∧ Gr w w' := by
  obtain ⟨ao, la, ca, rfl, rfl, ha, hs⟩ := hz
  obtain ⟨bo, lb, cb, rfl, rfl, hb, ht⟩ := hu
  have hla := ha.nl.len_sz hs.nat
  have hlb := hb.nl.len_sz ht.nat
  have hsz := hs.add ht
  by_cases h : decide (z < 0) = decide (u < 0)
  · rw [← h]
    refine (add_same ha hb (by omega) (by omega)).mono ?_
    rintro e w1 ⟨⟨go, n, cap, he, hm⟩, hB⟩
    have h' : z < 0 ↔ u < 0 := by simpa using h
    exact ⟨⟨_, _, he, IsInt.mk' hm (by omega) (fun hp => by simp; omega) hsz⟩, hB⟩
  · have h2 : decide (u < 0) = !decide (z < 0) := by cases h3 : decide (z < 0) <;> cases h4 : decide (u < 0) <;> simp_all
    rw [h2]
    have h' : ¬ (z < 0 ↔ u < 0) := by simpa using h
    rcases Int.lt_or_le (z.natAbs : Int) (u.natAbs : Int) with h3 | h3
    · refine (add_diff_lt ha hb (by omega) (by omega) h3).mono ?_
      rintro e w1 ⟨⟨go, n, cap, he, hm⟩, hB⟩
      exact ⟨⟨_, _, he, IsInt.mk' hm (by omega) (fun hp => by rw [← h2]; simp; omega) hsz⟩, hB⟩
    · refine (add_diff_ge ha hb (by omega) (by omega) h3).mono ?_
      rintro e w1 ⟨⟨go, n, cap, he, hm⟩, hB⟩
      exact ⟨⟨_, _, he, IsInt.mk' hm (by omega) (fun hp => by simp; omega) hsz⟩, hB⟩
end Go.Proofs.YtloocadjbpgldaaGreatDoor
/- The walks through division: short, raised, lowered. -/
namespace Go.Proofs.YtloocadjbpgldaaGreatDoor
open Go.RowKit

theorem or_add (i : Nat) (a b : Nat) (h : b < 2 ^ i) : (a * 2 ^ i) ||| b = a * 2 ^ i + b := by
  have := Nat.shiftLeft_add_eq_or_of_lt h a
  rw [Nat.shiftLeft_eq] at this
  exact this.symm
theorem or64 (r d : Int) (h0 : 0 ≤ r) (h1 : r < 4294967296) (h2 : 0 ≤ d) (h3 : d < 4294967296) : bits BinOp.or IntKind.u64 (r * 4294967296) d = r * 4294967296 + d := by
  obtain ⟨a, rfl⟩ := Int.eq_ofNat_of_zero_le h0
  obtain ⟨b, rfl⟩ := Int.eq_ofNat_of_zero_le h2
  have e : ((a : Int) * 4294967296) = ((a * 2 ^ 32 : Nat) : Int) := by simp
  rw [e, u64_or_nat _ _ (by omega) (by omega), or_add 32 a b (by omega)]
  simp

set_option maxRecDepth 100000 in
set_option maxHeartbeats 1000000 in
theorem short_c (ao : Option Addr) (la ca : Nat) (a x : Int) (w : World) (hla : la ≤ 1000000) (ha : Mag w ao la ca a) (hx0 : 0 < x) (hx1 : x < 4294967296) :
    Calls Tryz.prog 86 #[.slice ao la ca, .int .u32 x] w fun e w' => (∃ go k cap, e = .returned (.tuple #[.slice go k cap, .int .u32 (a % x)]) ∧ Mag w' go k cap (a / x)) ∧ Gr w w' := by
  go_enter Tryz.func86, Tryz.ntmps86
  go_wp2_with (at_make; refine wpList_make32 _ rfl _ _ rfl _ _ la rfl rfl (by omega) (by omega) (by omega) ?_)
  intro w1 hO hB hsz
  go_wp2
  go_loopw [7, 8] (fun c i wr => ∃ (k : Nat) (r : Int) (d : Nat → Int), k ≤ la ∧ i = .int .i64 ((k : Int) - 1) ∧ c = .int .u64 r ∧ 0 ≤ r ∧ r < 4294967296 ∧ Hid (r = hi a k % x) ∧ Own wr w.heap.size la d ∧ Below w.heap.size w wr ∧
      Hid (∀ j, k ≤ j → j < la → d j = dg (a / x) j)) (fun _ i _ => (intOf i + 1).toNat)
  case atStart => exact ⟨la, 0, _, Nat.le_refl _, rfl, rfl, by omega, by omega, by rw [Hid, ha.nl.top]; simp, hO, hB, fun j h1 h2 => by omega⟩
  case round =>
    obtain ⟨k, r, d, hk, rfl, rfl, hr0, hr1, hr, hO, hB, hd⟩ := hrel
    by_cases hp : 0 < k
    · obtain ⟨b1, off1, rfl, hcs⟩ := (ha.row.below hB).at_ (by omega)
      obtain ⟨j, rfl⟩ : ∃ j, k = j + 1 := ⟨k - 1, by omega⟩
      have hcell := hcs j (by omega)
      have hcell3 := hO.cell j (by omega)
      have hfree := hO.free j
      have d0 := dg_nonneg a j
      have d1 := dg_lt a j
      have e1 : (((j + 1 : Nat) : Int) - 1) = (j : Int) := by omega
      simp only [e1]
      have hor := or64 r (dg a j) hr0 hr1 d0 d1
      have hs := short_step a x j hx0 hx1
      rw [← hr.out] at hs
      have q1 := hs.2.2.1
      have q0 := hs.2.2.2
      have HS := Lib.hid hs
      clear hs
      clear hcs e1
      go_wp2
      have hs := HS.out
      have m0 := Int.emod_nonneg (r * 4294967296 + dg a j) (show x ≠ 0 by omega)
      have m1 := Int.emod_lt_of_pos (r * 4294967296 + dg a j) hx0
      go_roundw
      case rel =>
        refine ⟨j, _, _, by omega, rfl, rfl, m0, by omega, hs.2.1.symm, hO.set (by omega) _, hB.setCell (Nat.le_refl _) _, fun i h1 h2 => ?_⟩
        by_cases e : i = j
        · subst e; rw [upd_same, hs.1]
        · rw [upd_other _ _ e]; exact hd.out i (by omega) h2
      case measure => simp [intOf]
    · obtain rfl : k = 0 := by omega
      go_wp2_with fail
      have ht : hi (a / x) la = 0 := by rw [hi_div a x hx0, ha.nl.top, Int.zero_ediv]
      refine (trim_c _ _ _ (a / x) _ (by omega) (Nat.le_refl _) (Int.ediv_nonneg ha.nl.nonneg (by omega)) ht (hO.congr (fun j hj => hd.out j (by omega) hj)).row).mono ?_
      rintro e w3 ⟨⟨k, rfl, hm, hk2⟩, rfl⟩
      have hr' : r = a % x := hr.out
      go_wp2
      go_ret2
      exact ⟨⟨_, _, _, rfl, hm⟩, hB⟩

theorem or32_low {s : Nat} {c q : Int} (hs : s ≤ 32) (h0 : 0 ≤ c) (h1 : c < 2 ^ s) (hq0 : 0 ≤ q) (hq : q * 2 ^ s < 4294967296) : bits BinOp.or IntKind.u32 c (q * 2 ^ s) = c + q * 2 ^ s := by
  obtain ⟨a, rfl⟩ := Int.eq_ofNat_of_zero_le h0
  obtain ⟨b, rfl⟩ := Int.eq_ofNat_of_zero_le hq0
  have e : ((b : Int) * 2 ^ s) = ((b * 2 ^ s : Nat) : Int) := by simp
  have e2 : ((2 : Int) ^ s) = ((2 ^ s : Nat) : Int) := by simp
  rw [e2] at h1
  rw [e] at hq ⊢
  have hlt : a < 2 ^ s := by omega
  have hle : 2 ^ s ≤ 2 ^ 32 := Nat.pow_le_pow_right (by omega) (by omega)
  rw [u32_or_nat _ _ (by omega) (by omega), Nat.or_comm, or_add s b a hlt]
  omega
theorem wrap64_of {x : Int} (h0 : 0 ≤ x) (h1 : x < 18446744073709551616) : IntKind.u64.wrap x = x := by
  rw [IntKind.wrap_u64]; omega

set_option maxRecDepth 100000 in
set_option maxHeartbeats 1000000 in
theorem raised_c (ao : Option Addr) (la ca : Nat) (a : Int) (s : Nat) (w : World) (hla : la ≤ 1000000) (ha : Mag w ao la ca a) (hs : s < 32) :
    Calls Tryz.prog 160 #[.slice ao la ca, .int .i64 s] w fun e w' => (∃ g, e = .returned (.slice (some ⟨g, 0, none⟩) (la + 1) (la + 1)) ∧ w.heap.size ≤ g ∧ Own w' g (la + 1) (dg (a * 2 ^ s)) ∧ hi (a * 2 ^ s) (la + 1) = 0) ∧ Gr w w' := by
  go_enter Tryz.func160, Tryz.ntmps160
  go_wp2_with (at_make; refine wpList_make32 _ rfl _ _ rfl _ _ (la + 1) rfl rfl (by omega) (by omega) (by omega) ?_)
  intro w1 hO hB hsz
  go_wp2
  go_loopw [14] (fun i wr => ∃ (k : Nat) (c : Int) (d : Nat → Int), k ≤ la ∧ i = .int .i64 k ∧ 0 ≤ c ∧ Hid (c < 2 ^ s ∧ hi (a * 2 ^ s) k = hi a k * 2 ^ s + c ∧ d k = c ∧ ∀ j, j < k → d j = dg (a * 2 ^ s) j) ∧ Own wr w.heap.size (la + 1) d ∧ Below w.heap.size w wr) (fun i _ => la - (intOf i).toNat)
  case atStart => exact ⟨0, 0, fun _ => 0, Nat.zero_le _, rfl, by omega, ⟨Int.pow_pos (by omega), by rw [hi_zero, hi_zero]; omega, rfl, fun j hj => by omega⟩, hO, hB⟩
  case round =>
    obtain ⟨k, c, d, hk, rfl, hc0, hh, hO, hB⟩ := hrel
    by_cases hlt : k < la
    · obtain ⟨b1, off1, rfl, hcs⟩ := (ha.row.below hB).at_ (by omega)
      have hcell := hcs k (by omega)
      have hcell3 := hO.cell k (by omega)
      have hcell4 := hO.cell (k + 1) (by omega)
      have hfree := hO.free k
      have hfree' := hO.free (k + 1)
      have d0 := dg_nonneg a k
      have d1 := dg_lt a k
      have i0 : (0 : Int) ≤ (k : Int) := by omega
      have i1 : (k : Int) < ((la + 1 : Nat) : Int) := by omega
      have s0 : (0 : Int) ≤ (s : Int) := by omega
      have s1 : (s : Int) < 32 := by omega
      clear hcs
      go_wp2
      go_region
      go_wp2
      obtain ⟨h1, h2, h3, h4⟩ := hh.out
      obtain ⟨hp1, hp2, hp3⟩ := pow_split hs
      have hst := raise_step hp1 hp2 hp3 h2 hc0 h1
      have hle : (2 : Int) ^ s ≤ 4294967296 := by
        have := Int.mul_le_mul_of_nonneg_left (show (1 : Int) ≤ 2 ^ (32 - s) by omega) (Int.le_of_lt hp2)
        rw [hp1, Int.mul_one] at this
        exact this
      have hprod : dg a k * 2 ^ s ≤ 4294967295 * 4294967296 := Int.mul_le_mul (by omega) hle (by omega) (by omega)
      have hprod0 : 0 ≤ dg a k * 2 ^ s := Int.mul_nonneg d0 (by omega)
      have ew := wrap64_of hprod0 (by omega)
      have eo : bits BinOp.or IntKind.u32 (d k) (dg a k * 2 ^ s % 4294967296) = c + dg a k * 2 ^ s % 4294967296 := by
        rw [h3, hst.2.2.2.2]
        refine or32_low (Nat.le_of_lt hs) hc0 h1 (Int.emod_nonneg _ (by omega)) ?_
        rw [← hst.2.2.2.2]; omega
      rw [ew, eo]
      go_roundw
      case rel =>
        refine ⟨k + 1, dg a k * 2 ^ s / 4294967296, _, by omega, by go_num, hst.2.2.1, ⟨hst.2.2.2.1, hst.2.1, ?_, fun j hj => ?_⟩, ((hO.set (by omega) _).set (by omega) _).gr (Gr.drew _), ((hB.setCell (Nat.le_refl _) _).setCell (Nat.le_refl _) _).drew⟩
        · rw [upd_same]
          have := hst.2.2.2.1
          omega
        · rw [upd_other _ _ (by omega)]
          by_cases e : j = k
          · subst e; rw [upd_same, hst.1]
          · rw [upd_other _ _ e]; exact h4 j (by omega)
      case measure => simp [intOf]; omega
    · obtain rfl : k = la := by omega
      go_wp2
      go_ret
      obtain ⟨h1, h2, h3, h4⟩ := hh.out
      obtain ⟨hp1, hp2, hp3⟩ := pow_split hs
      have hle : (2 : Int) ^ s ≤ 4294967296 := by
        have := Int.mul_le_mul_of_nonneg_left (show (1 : Int) ≤ 2 ^ (32 - s) by omega) (Int.le_of_lt hp2)
        rw [hp1, Int.mul_one] at this
        exact this
      rw [ha.nl.top, Int.zero_mul, Int.zero_add] at h2
      refine ⟨⟨_, rfl, Nat.le_refl _, hO.congr (fun j hj => ?_), by rw [hi_succ, h2]; omega⟩, hB⟩
      by_cases e : j = k
      · subst e; rw [h3]; unfold dg; rw [h2]; omega
      · exact h4 j (by omega)
end Go.Proofs.YtloocadjbpgldaaGreatDoor
/- The walks through division: slices.Clone, lowered. -/
namespace Go.Proofs.YtloocadjbpgldaaGreatDoor
open Go.RowKit

theorem own_of {w : World} {base n : Nat} {v : Value} {d : Nat → Int} (h : w.ownsRow base 83 1 v n ((List.range n).map fun i => Value.int .u32 (d i))) :
    (n = 0 ∧ v = .slice none 0 0) ∨ ∃ g cap, v = .slice (some ⟨g, 0, none⟩) n cap ∧ n ≤ cap ∧ base ≤ g ∧ Own w g n d := by
  rcases h.2 with ⟨h1, h2⟩ | ⟨g, cap, cur, h1, h2, h3, h4, _, _, h5⟩
  · exact .inl ⟨h2, h1⟩
  · refine .inr ⟨g, cap, h1, h4, h2, cur, h3, fun i hi => ?_⟩
    rw [Nat.mul_one] at h5
    have h6 : (cur.toList.take n)[i]? = ((List.range n).map fun i => Value.int .u32 (d i))[i]? := by rw [h5]
    rw [List.getElem?_take_of_lt hi] at h6
    simp [hi] at h6
    simpa using h6

def CloneQ (la : Nat) (d : Nat → Int) (w : World) (e : Ending) (w' : World) : Prop :=
  (∃ go cap, e = .returned (.slice go la cap) ∧ la ≤ cap ∧ (0 < la → ∃ g, go = some ⟨g, 0, none⟩ ∧ w.heap.size ≤ g ∧ Own w' g la d)) ∧ Gr w w'
set_option maxRecDepth 100000 in
set_option maxHeartbeats 1000000 in
theorem clone_c (ao : Option Addr) (la ca : Nat) (d : Nat → Int) (w : World) (hla : la ≤ 2000000) (ha : Row w ao la d) :
    Calls Tryz.prog 177 #[.slice ao la ca] w (CloneQ la d w) := by
  cases ao with
  | none =>
    have h0 : la = 0 := by
      rcases Nat.eq_zero_or_pos la with h | h
      · exact h
      · obtain ⟨b, off, e, _⟩ := ha.at_ h; cases e
    subst h0
    have he : (binOp .eql 25 (.slice none 0 ca) (.slice none 0 0)).run Tryz.prog w = .ok (.bool true) w := Lib.run_eql_slice_nil (P := Tryz.prog) w 25 83 none 0 ca 0 0 Tryz.underlying25
    go_enter Tryz.func177, Tryz.ntmps177
    go_wp2
    go_ret
    exact ⟨⟨none, 0, rfl, by omega, by omega⟩, Gr.refl w⟩
  | some ad =>
    have he : (binOp .eql 25 (.slice (some ad) la ca) (.slice none 0 0)).run Tryz.prog w = .ok (.bool false) w := Lib.run_eql_slice_nil (P := Tryz.prog) w 25 83 (some ad) la ca 0 0 Tryz.underlying25
    have hbs : ∀ w, (Instr.buildSlice 25 0 #[]).run Tryz.prog w = .ok (.slice (some ⟨w.heap.size, 0, none⟩) 0 0) (w.alloc (.cells #[] 83)) := fun _ => by kernel_rfl
    have hd : ∀ j u, ((List.range la).map fun i => Value.int .u32 (d i))[j]? = some u → w.cell? (ad.add j) = some u := by
      intro j u hj
      have hlt : j < la := by simpa using (List.getElem?_eq_some_iff.1 hj).1
      obtain ⟨b, off, e, hc⟩ := ha.at_ (by omega)
      obtain rfl := Option.some.inj e
      have := hc j hlt
      simp [hlt] at hj
      rw [Addr.add_lit, this, ← hj]
    have HD := Lib.hid hd
    clear hd ha
    obtain ⟨i, hi, hz, hs, hb⟩ := info_parts u32_info
    go_enter Tryz.func177, Tryz.ntmps177
    go_wp2_with (at_builtin; refine wpList_append_own _ rfl _ _ 25 rfl w.heap.size 83 i _ 1 4 Tryz.underlying25 hi hz hs hb rfl (by omega) _ 0 [] rfl (World.ownsRow_made w #[] 0 (Nat.le_refl _) (by simp) rfl) ad la ca ((List.range la).map fun i => Value.int .u32 (d i)) rfl (by simp) ?h1 ?h2 (by unfold maxLen; omega) (by omega) (by simp) ?_)
    case h1 => exact fun j u hj => (World.cell?_alloc_lt w _ _ (World.block_lt_of_cell? w _ (HD.out j u hj))).trans (HD.out j u hj)
    case h2 =>
      intro u hu
      obtain ⟨_, _, rfl⟩ := List.mem_map.1 hu
      rfl
    intro v' w1 hown hgrow hnil
    have hG : Gr w w1 := ((Below.refl w.heap.size w).alloc (Nat.le_refl _) _).grown hgrow (by simp) (fun k hk => by simp [Value.ownBlock] at hk; omega)
    rcases own_of hown with ⟨rfl, rfl⟩ | ⟨g, cap, rfl, hcap, hg, hO⟩
    · exact absurd rfl hnil
    · clear he hbs hnil hgrow hown HD
      go_wp2
      go_ret
      exact ⟨⟨_, cap, rfl, hcap, fun _ => ⟨g, rfl, hg, hO⟩⟩, hG⟩

set_option maxRecDepth 100000 in
set_option maxHeartbeats 2000000 in
theorem lowered_c (ao : Option Addr) (la ca : Nat) (a : Int) (s : Nat) (w : World) (hla : la ≤ 1000001) (ha : Mag w ao la ca a) (hs : s < 32) :
    Calls Tryz.prog 162 #[.slice ao la ca, .int .i64 s] w fun e w' => (∃ go k cap, e = .returned (.slice go k cap) ∧ Mag w' go k cap (a / 2 ^ s)) ∧ Gr w w' := by
  go_enter Tryz.func162, Tryz.ntmps162
  go_wp2_with fail
  refine (clone_c ao la ca (dg a) _ (by omega) ha.row).mono ?_
  rintro e w1 ⟨⟨go, cap, rfl, hcap, hg⟩, hG⟩
  obtain ⟨hp1, hp2, hp3⟩ := pow_split hs
  by_cases hz : la = 0
  · subst hz
    have h0 : a = 0 := ha.nl.len_zero.1 rfl
    go_wp2
    go_loopw [11] (fun i wr => i = .int .i64 0 ∧ wr = w1) (fun _ _ => 0)
    case atStart => exact ⟨rfl, rfl⟩
    case round =>
      obtain ⟨rfl, rfl⟩ := hrel
      go_wp2_with fail
      refine (trim_c _ _ _ (a / 2 ^ s) _ (by omega) hcap (Int.ediv_nonneg ha.nl.nonneg (by omega)) (by rw [h0, Int.zero_ediv]; rfl) (Row.nil _ _ _)).mono ?_
      rintro e w3 ⟨⟨m, rfl, hm, hm2⟩, rfl⟩
      go_wp2
      go_ret
      exact ⟨⟨_, _, _, rfl, hm⟩, hG⟩
  · obtain ⟨g, rfl, hge, hO⟩ := hg (by omega)
    have s0 : (0 : Int) ≤ (s : Int) := by omega
    have s1 : (s : Int) < 32 := by omega
    go_wp2
    go_loopw [11] (fun i wr => ∃ (k : Nat) (d : Nat → Int), k ≤ la ∧ i = .int .i64 k ∧ Hid (∀ j, j < la → d j = if j < k then dg (a / 2 ^ s) j else dg a j) ∧ Own wr g la d ∧ Below g w1 wr) (fun i _ => la - (intOf i).toNat)
    case atStart => exact ⟨0, dg a, Nat.zero_le _, rfl, fun j hj => by simp, hO, Below.refl _ _⟩
    case round =>
      obtain ⟨k, d, hk, rfl, hd, hO, hB⟩ := hrel
      have hw : Below w.heap.size w wr := Below.trans hG (hB.mono hge)
      by_cases hlt : k < la
      · have hdk := hd.out k hlt
        rw [if_neg (by omega)] at hdk
        have hcell3 := hO.cell k hlt
        rw [hdk] at hcell3
        have hfree := hO.free k
        have d0 := dg_nonneg a k
        have d1 := dg_lt a k
        have HK := Lib.hid hdk
        clear hdk
        have i0 : (0 : Int) ≤ (k : Int) := by omega
        have i1 : (k : Int) < (la : Int) := by omega
        by_cases hlt2 : k + 1 < la
        · obtain ⟨b1, off1, rfl, hcs⟩ := (ha.row.below hw).at_ (by omega)
          have hcell := hcs (k + 1) (by omega)
          have e0 := dg_nonneg a (k + 1)
          have e1 := dg_lt a (k + 1)
          have j0 : (0 : Int) ≤ (k : Int) + 1 := by omega
          have j1 : (k : Int) + 1 < (la : Int) := by omega
          clear hcs
          go_wp2
          go_region
          go_wp2
          have hst := lower_step (n := a) (i := k) hp1 hp2 hp3
          have eo : bits BinOp.or IntKind.u32 (dg a k / 2 ^ s) (dg a (k + 1) * 4294967296 / 2 ^ s % 4294967296) = dg (a / 2 ^ s) k := by
            rw [hst.2.2.1, hst.2.1, hst.1, hst.2.1]
            refine or32_low (by omega) hst.2.2.2.1 hst.2.2.2.2 (Int.emod_nonneg _ (by omega)) ?_
            rw [← hst.2.1]; omega
          rw [eo]
          go_roundw
          case rel =>
            refine ⟨k + 1, _, by omega, by go_num, fun j hj => ?_, ((hO.set (by omega) _).set (by omega) _).gr (Gr.drew _), ((hB.setCell (Nat.le_refl _) _).setCell (Nat.le_refl _) _).drew⟩
            by_cases e : j = k
            · subst e; rw [upd_same, if_pos (by omega)]
            · rw [upd_other _ _ e, upd_other _ _ e, hd.out j hj]
              by_cases e2 : j < k
              · rw [if_pos e2, if_pos (by omega)]
              · rw [if_neg e2, if_neg (by omega)]
          case measure => simp [intOf]; omega
        · have hl := lower_last (n := a) (i := k) hp2 (hi_ge ha.nl.top (by omega))
          have HL := Lib.hid hl
          clear hl
          go_wp2
          go_roundw
          case rel =>
            refine ⟨k + 1, _, by omega, by go_num, fun j hj => ?_, hO.set (by omega) _, hB.setCell (Nat.le_refl _) _⟩
            by_cases e : j = k
            · subst e; rw [upd_same, if_pos (by omega), HL.out]
            · rw [upd_other _ _ e, hd.out j hj]
              by_cases e2 : j < k
              · rw [if_pos e2, if_pos (by omega)]
              · rw [if_neg e2, if_neg (by omega)]
          case measure => simp [intOf]; omega
      · obtain rfl : k = la := by omega
        go_wp2_with fail
        have ht : hi (a / 2 ^ s) k = 0 := by rw [hi_div a _ hp2, ha.nl.top, Int.zero_ediv]
        refine (trim_c _ _ _ (a / 2 ^ s) _ (by omega) hcap (Int.ediv_nonneg ha.nl.nonneg (by omega)) ht (hO.congr (fun j hj => by rw [hd.out j hj, if_pos hj])).row).mono ?_
        rintro e w3 ⟨⟨m, rfl, hm, hm2⟩, rfl⟩
        go_wp2
        go_ret
        exact ⟨⟨_, _, _, rfl, hm⟩, hw⟩
end Go.Proofs.YtloocadjbpgldaaGreatDoor
/- The walk through the digit of a quotient. -/
namespace Go.Proofs.YtloocadjbpgldaaGreatDoor
open Go.RowKit

theorem St.drewN {w w' : World} {b : Nat} (h : St w w' b) (n : Nat) : St w (w'.drewN n) b := ⟨h.os, h.tape, h.output, h.size, h.block⟩
theorem St.drew {w w' : World} {b : Nat} (h : St w w' b) : St w w'.drew b := ⟨h.os, h.tape, h.output, h.size, h.block⟩
theorem St.cell {w w' : World} {b : Nat} (h : St w w' b) {c o : Nat} (hc : c ≠ b) : w'.cell? ⟨c, o, none⟩ = w.cell? ⟨c, o, none⟩ := World.cell?_of_block (w := w) (h.block c hc)
theorem Own.drewN {w : World} {b n : Nat} {d : Nat → Int} (h : Own w b n d) (k : Nat) : Own (w.drewN k) b n d := h.gr ((Below.refl _ _).drewN k)

set_option maxRecDepth 100000 in
set_option maxHeartbeats 4000000 in
theorem digit_c (bu off cu bv offv cv m N : Nat) (D : Nat → Int) (U V : Int) (w : World) (hm : m ≤ 1000000) (hN : off + (m + 3) ≤ N) (hN2 : N ≤ 2000000) (hO : Own w bu N D) (hD : Hid (∀ i, i < m + 3 → D (off + i) = dg U i))
    (hU0 : 0 ≤ U) (hUt : Hid (hi U (m + 3) = 0)) (hV : NL V (m + 2)) (hvc : Hid (∀ i, i < m + 2 → w.cell? ⟨bv, offv + i, none⟩ = some (.int .u32 (dg V i)))) (hne : bv ≠ bu) (hnorm : 2147483648 ≤ dg V (m + 1)) (hUV : U < V * 4294967296) :
    Calls Tryz.prog 161 #[.slice (some ⟨bu, off, none⟩) (m + 3) cu, .slice (some ⟨bv, offv, none⟩) (m + 2) cv] w fun e w' =>
      e = .returned (.int .u32 (U / V)) ∧ St w w' bu ∧ ∃ D', Own w' bu N D' ∧ (∀ i, i < m + 3 → D' (off + i) = dg (U % V) i) ∧ ∀ j, (j < off ∨ off + (m + 3) ≤ j) → D' j = D j := by
  have cu2 := hO.cell (off + (m + 2)) (by omega)
  have cu1 := hO.cell (off + (m + 1)) (by omega)
  have cu0 := hO.cell (off + m) (by omega)
  rw [hD.out _ (by omega)] at cu2 cu1 cu0
  have cv1 := hvc.out (m + 1) (by omega)
  have cv0 := hvc.out m (by omega)
  have u20 := dg_nonneg U (m + 2)
  have u21 := dg_lt U (m + 2)
  have u10 := dg_nonneg U (m + 1)
  have u11 := dg_lt U (m + 1)
  have u00 := dg_nonneg U m
  have u01 := dg_lt U m
  have v11 := dg_lt V (m + 1)
  have v00 := dg_nonneg V m
  have v01 := dg_lt V m
  have hor := or64 (dg U (m + 2)) (dg U (m + 1)) u20 u21 u10 u11
  go_enter Tryz.func161, Tryz.ntmps161
  go_wp2
  go_quiet (fail)
  go_wp2
  go_quiet (fail)
  go_wp2
  have hv1 : hi V (m + 1) = dg V (m + 1) := by have := hi_split V (m + 1); rw [hV.top] at this; omega
  have hvm : hi V m = dg V (m + 1) * 4294967296 + dg V m := by have := hi_split V m; rw [hv1] at this; omega
  have hu2 : hi U (m + 2) = dg U (m + 2) := by have := hi_split U (m + 2); rw [hUt.out] at this; omega
  have hu1 : hi U (m + 1) = dg U (m + 2) * 4294967296 + dg U (m + 1) := by have := hi_split U (m + 1); rw [hu2] at this; omega
  have hum : hi U m = (dg U (m + 2) * 4294967296 + dg U (m + 1)) * 4294967296 + dg U m := by have := hi_split U m; rw [hu1] at this; omega
  have hV0 : 0 < V := by
    have := hi_le_of hV.nonneg (show 0 ≤ m + 1 by omega)
    rw [hv1, hi_zero] at this; omega
  have hQ0 : 0 ≤ U / V := Int.ediv_nonneg hU0 (by omega)
  have hQB : U / V < 4294967296 := Int.ediv_lt_of_lt_mul hV0 (by first | exact hUV | (rw [Int.mul_comm]; exact hUV))
  have hQV : U / V * V ≤ U := Int.ediv_mul_le U (by omega)
  have hlo := knuth_lo m hQ0 hQV
  have hlo1 := knuth_lo (m + 1) hQ0 hQV
  rw [hv1, hu1] at hlo1
  have KN := Lib.hid (And.intro hvm (And.intro hum (And.intro hlo (And.intro hQB (And.intro hQ0 hV0)))))
  have q0 := Int.ediv_nonneg (show 0 ≤ dg U (m + 2) * 4294967296 + dg U (m + 1) by omega) (show 0 ≤ dg V (m + 1) by omega)
  have q1 : (dg U (m + 2) * 4294967296 + dg U (m + 1)) / dg V (m + 1) < 8589934592 := Int.ediv_lt_of_lt_mul (by omega) (by omega)
  have q2 : U / V ≤ (dg U (m + 2) * 4294967296 + dg U (m + 1)) / dg V (m + 1) := (Int.le_ediv_iff_mul_le (by omega)).2 hlo1
  have q3 := Int.emod_add_mul_ediv (dg U (m + 2) * 4294967296 + dg U (m + 1)) (dg V (m + 1))
  have q4 := Int.emod_nonneg (dg U (m + 2) * 4294967296 + dg U (m + 1)) (show dg V (m + 1) ≠ 0 by omega)
  have q5 := Int.emod_lt_of_pos (dg U (m + 2) * 4294967296 + dg U (m + 1)) (show 0 < dg V (m + 1) by omega)
  have Q2 := Lib.hid (And.intro q2 q3)
  have hu2v : dg U (m + 2) ≤ dg V (m + 1) := by
    have h1 := hi_mono (show U ≤ V * 4294967296 ^ 1 + 0 by omega) (m + 2)
    have h2 : hi (V * 4294967296 ^ 1 + 0) (m + 2) = hi V (m + 1) := by
      rw [Int.add_zero, Int.pow_one, show m + 2 = 1 + (m + 1) by omega, hi_add]
      congr 1
      rw [hi_succ, hi_zero]; omega
    rw [h2, hu2, hv1] at h1; exact h1
  clear hv1 hvm hu2 hu1 hum hQ0 hQB hQV hlo hlo1 q2 q3 hV0 hor hUV
  have st0 : St w (w.drewN 0) bu := (St.refl w bu).drewN 0
  clear cu2 cu1 cu0 st0
  simp only [show m + 2 - 1 = m + 1 from rfl]
  go_loopw [7, 8] (fun sq sr wr => ∃ (q r : Int), sq = .int .u64 q ∧ sr = .int .u64 r ∧ 0 ≤ q ∧ q < 8589934592 ∧ 0 ≤ r ∧ r < 8589934592 ∧ St w wr bu ∧ Own wr bu N D ∧
      Hid (q * dg V (m + 1) + r = dg U (m + 2) * 4294967296 + dg U (m + 1) ∧ U / V ≤ q)) (fun sq _ _ => (intOf sq).toNat)
  case atStart => exact ⟨_, _, rfl, rfl, q0, q1, q4, by omega, ((St.refl w bu).drewN _).drewN _, (hO.drewN _).drewN _, by have := Q2.out; refine ⟨?_, this.1⟩; rw [Int.mul_comm]; omega⟩
  case round =>
    obtain ⟨q, r, rfl, rfl, hq0, hq1, hr0, hr1, hst, hOr, hqr⟩ := hrel
    have cu0 := hOr.cell (off + m) (by omega)
    rw [hD.out _ (by omega)] at cu0
    have cw1 := (hst.cell (o := offv + (m + 1)) hne).trans cv1
    have cw0 := (hst.cell (o := offv + m) hne).trans cv0
    have p0 : 0 ≤ q * dg V m := Int.mul_nonneg hq0 v00
    by_cases hex : r < 4294967296 ∧ (4294967296 ≤ q ∨ r * 4294967296 + dg U m < q * dg V m)
    · obtain ⟨hr, hh⟩ := hex
      have d1 : decide (r < 4294967296) = true := by simpa using hr
      have hor := or64 r (dg U m) hr0 hr u00 u01
      have hlt : U / V < q := by
        obtain ⟨hvm, hum, hlo, hQB, hQ0, hV0⟩ := KN.out
        rcases hh with hh | hh
        · omega
        · exact knuth_dec hlo hvm hum hqr.out.1 hh (hi_nonneg hV.nonneg m)
      have HL := Lib.hid hlt
      have HK := Lib.hid KN.out
      have q6 : 1 ≤ q := by have := KN.out.2.2.2.2.1; omega
      clear hlt
      by_cases hqb : 4294967296 ≤ q
      · have d2 : decide (4294967296 ≤ q) = true := by simpa using hqb
        clear hh
        go_wp2
        go_quiet (fail)
        go_wp2
        go_roundw
        case rel =>
          refine ⟨q - 1, r + dg V (m + 1), rfl, rfl, by omega, by omega, by omega, by omega, hst.drewN _, hOr.drewN _, ?_, by have := HL.out; omega⟩
          have := hqr.out.1
          rw [Int.sub_mul]; omega
        case measure => simp [intOf]; omega
      · have d2 : decide (4294967296 ≤ q) = false := by simpa using hqb
        have hp : r * 4294967296 + dg U m < q * dg V m := by rcases hh with hh | hh; exact absurd hh hqb; exact hh
        have p1 : q * dg V m ≤ 4294967295 * 4294967295 := Int.mul_le_mul (by omega) (by omega) v00 (by omega)
        have d3 : decide (r * 4294967296 + dg U m < q * dg V m) = true := by simpa using hp
        clear hh
        go_wp2
        go_quiet (fail)
        go_wp2
        go_roundw
        case rel =>
          refine ⟨q - 1, r + dg V (m + 1), rfl, rfl, by omega, by omega, by omega, by omega, hst.drewN _, hOr.drewN _, ?_, by have := HL.out; omega⟩
          have := hqr.out.1
          rw [Int.sub_mul]; omega
        case measure => simp [intOf]; omega
    · -- the estimate is right, or one too great
      have hq2 : q ≤ 4294967295 := by
        rcases Int.lt_or_le r 4294967296 with h | h
        · rcases Int.lt_or_le q 4294967296 with h2 | h2
          · omega
          · exact absurd ⟨h, .inl h2⟩ hex
        · rcases Int.lt_or_le q 4294967296 with h2 | h2
          · omega
          · exfalso
            have h3 := hqr.out.1
            have h4 : 4294967296 * dg V (m + 1) ≤ q * dg V (m + 1) := Int.mul_le_mul_of_nonneg_right h2 (by omega)
            have h5 : dg U (m + 2) ≤ dg V (m + 1) := hu2v
            omega
      have p1 : q * dg V m ≤ 4294967295 * 4294967295 := Int.mul_le_mul hq2 (by omega) v00 (by omega)
      have hfin : q * V < U + V := by
        obtain ⟨hvm, hum, hlo, hQB, hQ0, hV0⟩ := KN.out
        refine knuth_hi m hq0 hq2 (by rw [hvm]; omega) (knuth_end hvm hum hqr.out.1 ?_)
        rcases Int.lt_or_le r 4294967296 with h | h
        · rcases Int.lt_or_le (r * 4294967296 + dg U m) (q * dg V m) with h2 | h2
          · exact absurd ⟨h, .inr h2⟩ hex
          · exact h2
        · omega
      have hge := hqr.out.2
      have FIN := Lib.hid (And.intro hfin hge)
      have d2 : decide (4294967296 ≤ q) = false := by simp; omega
      have hcase : (decide (r < 4294967296) = false ∧ True) ∨ (r < 4294967296 ∧ decide (r < 4294967296) = true ∧ decide (r * 4294967296 + dg U m < q * dg V m) = false ∧ bits BinOp.or IntKind.u64 (r * 4294967296) (dg U m) = r * 4294967296 + dg U m) := by
        rcases Int.lt_or_le r 4294967296 with h | h
        · rcases Int.lt_or_le (r * 4294967296 + dg U m) (q * dg V m) with h2 | h2
          · exact absurd ⟨h, .inr h2⟩ hex
          · exact .inr ⟨h, by simpa using h, by simpa using h2, or64 r (dg U m) hr0 h u00 u01⟩
        · exact .inl ⟨by simpa using h, trivial⟩
      clear hfin hge hex hqr hu2v
      rcases hcase with ⟨d1, _⟩ | ⟨dr, d1, d3, hor⟩
      all_goals
        go_wp2
        go_quiet (fail)
        go_wp2
        clear cu0 cw1 cw0 d1 d2 p0 p1 q0 q1 q4 q5 Q2 u20 u21 u10 u11 u00 u01 v11 v00 v01 cv1 cv0
        try clear d3 hor
        go_loopw [9, 10, 86] (fun sc sb si wr => ∃ (c br : Int) (i : Nat) (E : Nat → Int), sc = .int .u64 c ∧ sb = .int .i64 br ∧ si = .int .i64 i ∧ i ≤ m + 2 ∧ 0 ≤ c ∧ c < 4294967296 ∧ 0 ≤ br ∧ br ≤ 1 ∧ St w wr bu ∧ Own wr bu N E ∧
          Hid (hi (V * q + 0) i = hi V i * q + c ∧ hi (U - (V * q + 0)) i = hi U i - hi (V * q + 0) i - br ∧ (∀ j, j < i → E (off + j) = dg (U - (V * q + 0)) j) ∧ (∀ j, i ≤ j → j < m + 3 → E (off + j) = dg U j) ∧ ∀ j, (j < off ∨ off + (m + 3) ≤ j) → E j = D j)) (fun _ _ si _ => m + 2 - (intOf si).toNat)
        case atStart => exact ⟨0, 0, 0, D, rfl, rfl, rfl, by omega, by omega, by omega, by omega, by omega, hst.drewN _, hOr.drewN _, by simp [hi_zero], by simp [hi_zero], fun j hj => by omega, fun j _ hj => hD.out j hj, fun j _ => rfl⟩
        case round =>
          obtain ⟨c, br, i, E, rfl, rfl, rfl, hi0, hc0, hc1, hb0, hb1, hst2, hO2, hh⟩ := hrel
          by_cases hlt : i < m + 2
          · have cv2 := (hst2.cell (o := offv + i) hne).trans (hvc.out i hlt)
            have cu2 := hO2.cell (off + i) (by omega)
            have hfree := hO2.free (off + i)
            have e1 := hh.out.2.2.2.1 i (Nat.le_refl _) (by omega)
            rw [e1] at cu2
            have E1 := Lib.hid e1
            have hs := scale_step hh.out.1 hc0 hc1 hq0 (by omega)
            have s1 := hs.2.2.1
            have s2 := hs.2.2.2.1
            have s3 := hs.2.2.2.2.1
            have s4 := hs.2.2.2.2.2
            have HS := Lib.hid hs
            have x0 := dg_nonneg U i
            have x1 := dg_lt U i
            have x2 := dg_nonneg V i
            have x3 := dg_lt V i
            have ecomm : q * dg V i = dg V i * q := Int.mul_comm _ _
            clear e1 hs
            go_wp2
            all_goals
              have hs := HS.out
              have hms := minus_step (a := U) (b := V * q + 0) hh.out.2.1 hb0 hb1
              go_roundw
              case rel =>
                refine ⟨_, _, i + 1, _, rfl, rfl, by go_num, by omega, s1, s2, by omega, by omega, hst2.trans (St.setCell _ _ _ _), hO2.set (by omega) _, hs.2.1, ?_, fun j hj => ?_, fun j h1 h2 => ?_, fun j hj => ?_⟩
                · have h2 := hms.2
                  rw [hs.1] at h2
                  first | rw [if_pos (by assumption)] at h2 | rw [if_neg (by omega)] at h2
                  exact h2
                · by_cases e : j = i
                  · subst e; rw [upd_same, hms.1, hs.1]; omega
                  · rw [upd_other _ _ (by omega)]; exact hh.out.2.2.1 j (by omega)
                · rw [upd_other _ _ (by omega)]; exact hh.out.2.2.2.1 j (by omega) h2
                · rw [upd_other _ _ (by omega)]; exact hh.out.2.2.2.2 j hj
              case measure => simp [intOf]; omega
          · obtain rfl : i = m + 2 := by omega
            have cu2 := hO2.cell (off + (m + 2)) (by omega)
            have hfree := hO2.free (off + (m + 2))
            have e1 := hh.out.2.2.2.1 (m + 2) (Nat.le_refl _) (by omega)
            rw [e1] at cu2
            have ht := hh.out.2.1
            have hc := hh.out.1
            rw [hV.top, Int.zero_mul, Int.zero_add] at hc
            have hu2 : hi U (m + 2) = dg U (m + 2) := by have := hi_split U (m + 2); rw [hUt.out] at this; omega
            rw [hc, hu2] at ht
            have x0 := dg_nonneg U (m + 2)
            have x1 := dg_lt U (m + 2)
            have HT := Lib.hid ht
            have E1 := Lib.hid e1
            clear e1 hc hu2 ht
            by_cases hneg : 0 ≤ dg U (m + 2) - br - c
            · go_wp2
              go_ret
              have hV0 := KN.out.2.2.2.2.2
              have hD0 : 0 ≤ U - V * q := by
                rcases Int.lt_or_le (U - (V * q + 0)) 0 with h | h
                · have := hi_neg h (m + 2); rw [HT.out] at this; omega
                · omega
              have hmd := mod_of hV0 hD0 FIN.out.2
              refine ⟨?_, hst2.trans (St.setCell _ _ _ _), _, hO2.set (by omega) _, fun i hi0 => ?_, fun j hj => ?_⟩
              · rw [← hmd.1]; first | rfl | exact congrArg (fun z => Ending.returned (Value.int .u32 z)) (show q % 4294967296 = q by omega)
              · rw [← hmd.2]
                by_cases e : i = m + 2
                · subst e; rw [upd_same]
                  have : dg (U - V * q) (m + 2) = hi (U - V * q) (m + 2) % 4294967296 := rfl
                  have h2 := HT.out
                  rw [Int.add_zero] at h2
                  rw [this, h2]; omega
                · rw [upd_other _ _ (by omega)]
                  have := hh.out.2.2.1 i (by omega)
                  rw [Int.add_zero] at this; exact this
              · rw [upd_other _ _ (by omega)]; exact hh.out.2.2.2.2 j hj
            · go_wp2
              have HV0 := Lib.hid KN.out.2.2.2.2.2
              have hstA := hst2.trans (St.setCell wr bu (off + (m + 2)) (.int .u32 ((dg U (m + 2) - br - c) % 4294967296)))
              have hOA := hO2.set (w := wr) (show off + (m + 2) < N by omega) ((dg U (m + 2) - br - c) % 4294967296)
              have HE : Hid (∀ i, i < m + 3 → upd E (off + (m + 2)) ((dg U (m + 2) - br - c) % 4294967296) (off + i) = dg (U - V * q) i) := by
                intro i hi0
                by_cases e : i = m + 2
                · subst e; rw [upd_same]
                  have : dg (U - V * q) (m + 2) = hi (U - V * q) (m + 2) % 4294967296 := rfl
                  have h2 := HT.out
                  rw [Int.add_zero] at h2
                  rw [this, h2]; omega
                · rw [upd_other _ _ (by omega)]
                  have := hh.out.2.2.1 i (by omega)
                  rw [Int.add_zero] at this; exact this
              have HN : Hid (U - V * q < 0) := by
                rcases Int.lt_or_le (U - V * q) 0 with h | h
                · exact h
                · exfalso
                  have h2 := hi_nonneg h (m + 2)
                  have h3 := HT.out
                  rw [Int.add_zero] at h3
                  omega
              have HOUT : Hid (∀ j, (j < off ∨ off + (m + 3) ≤ j) → upd E (off + (m + 2)) ((dg U (m + 2) - br - c) % 4294967296) j = D j) := by
                intro j hj; rw [upd_other _ _ (by omega)]; exact hh.out.2.2.2.2 j hj
              have hq1 : 1 ≤ q := by
                have hmb := mod_of_back HV0.out HN.out FIN.out.1
                have := KN.out.2.2.2.2.1
                omega
              clear hst2 hO2 hh HT E1 hfree hneg hc0 hc1 hb0 hb1 x0 x1 cu2
              go_loopw [9, 139] (fun sc si wz => ∃ (c2 : Int) (k : Nat) (F : Nat → Int), sc = .int .u64 c2 ∧ si = .int .i64 k ∧ k ≤ m + 2 ∧ 0 ≤ c2 ∧ c2 ≤ 1 ∧ St w wz bu ∧ Own wz bu N F ∧
                Hid (hi (U - V * q + V) k = hi (U - V * q) k + hi V k + c2 ∧ (∀ j, j < k → F (off + j) = dg (U - V * q + V) j) ∧ (∀ j, k ≤ j → j < m + 3 → F (off + j) = dg (U - V * q) j) ∧ ∀ j, (j < off ∨ off + (m + 3) ≤ j) → F j = D j)) (fun _ si _ => m + 2 - (intOf si).toNat)
              case atStart => exact ⟨0, 0, _, rfl, rfl, by omega, by omega, by omega, hstA, hOA, by simp [hi_zero], fun j hj => by omega, fun j _ hj => HE.out j hj, HOUT.out⟩
              case round =>
                obtain ⟨c2, k, F, rfl, rfl, hk0, hc0, hc1, hst3, hO3, hh⟩ := hrel
                by_cases hlt : k < m + 2
                · have cv2 := (hst3.cell (o := offv + k) hne).trans (hvc.out k hlt)
                  have cu2 := hO3.cell (off + k) (by omega)
                  have hfree := hO3.free (off + k)
                  have e1 := hh.out.2.2.1 k (Nat.le_refl _) (by omega)
                  rw [e1] at cu2
                  have HS := Lib.hid (plus_step hh.out.1 hc0 hc1)
                  have x0 := dg_nonneg (U - V * q) k
                  have x1 := dg_lt (U - V * q) k
                  have x2 := dg_nonneg V k
                  have x3 := dg_lt V k
                  clear e1
                  go_wp2
                  go_roundw
                  case rel =>
                    have hs := HS.out
                    refine ⟨_, k + 1, _, rfl, by go_num, by omega, ?_, ?_, hst3.trans (St.setCell _ _ _ _), hO3.set (by omega) _, ?_, fun j hj => ?_, fun j h1 h2 => ?_, fun j hj => ?_⟩
                    · go_num
                    · go_num
                    · rw [hs.2.1]; go_num
                    · by_cases e : j = k
                      · subst e; rw [upd_same, hs.1]; go_num
                      · rw [upd_other _ _ (by omega)]; exact hh.out.2.1 j (by omega)
                    · rw [upd_other _ _ (by omega)]; exact hh.out.2.2.1 j (by omega) h2
                    · rw [upd_other _ _ (by omega)]; exact hh.out.2.2.2 j hj
                  case measure => simp [intOf]; omega
                · obtain rfl : k = m + 2 := by omega
                  have cu2 := hO3.cell (off + (m + 2)) (by omega)
                  have hfree := hO3.free (off + (m + 2))
                  have e1 := hh.out.2.2.1 (m + 2) (Nat.le_refl _) (by omega)
                  rw [e1] at cu2
                  have HS := Lib.hid (plus_step0 hh.out.1 hc0 hc1 hV.top)
                  have x0 := dg_nonneg (U - V * q) (m + 2)
                  have x1 := dg_lt (U - V * q) (m + 2)
                  clear e1
                  go_wp2
                  go_ret
                  have hmd := mod_of_back HV0.out HN.out FIN.out.1
                  refine ⟨?_, hst3.trans (St.setCell _ _ _ _), _, hO3.set (by omega) _, fun i hi0 => ?_, fun j hj => ?_⟩
                  · rw [← hmd.1]; first | rfl | exact congrArg (fun z => Ending.returned (Value.int .u32 z)) (show (q - 1) % 4294967296 = q - 1 by omega)
                  · rw [← hmd.2]
                    by_cases e : i = m + 2
                    · subst e; rw [upd_same, HS.out.1]; go_num
                    · rw [upd_other _ _ (by omega)]; exact hh.out.2.1 i (by omega)
                  · rw [upd_other _ _ (by omega)]; exact hh.out.2.2.2 j hj
end Go.Proofs.YtloocadjbpgldaaGreatDoor
/- The law of the long division, in plain Lean. -/
namespace Go.Proofs.YtloocadjbpgldaaGreatDoor

theorem bitLenAux_bounds : ∀ (f x : Nat), 0 < x → x < 2 ^ f → ∃ L, Lib.bitLenAux f x = L + 1 ∧ 2 ^ L ≤ x ∧ x < 2 ^ (L + 1)
  | 0, x, h0, h1 => by simp at h1; omega
  | f + 1, x, h0, h1 => by
    by_cases h : x = 1
    · subst h
      refine ⟨0, ?_, by simp, by simp⟩
      cases f <;> simp [Lib.bitLenAux]
    · obtain ⟨L, e1, e2, e3⟩ := bitLenAux_bounds f (x / 2) (by omega) (by rw [Nat.pow_succ] at h1; omega)
      refine ⟨L + 1, ?_, by rw [Nat.pow_succ]; omega, by rw [Nat.pow_succ]; omega⟩
      simp only [Lib.bitLenAux, show ¬ x = 0 by omega, if_false, e1]; omega
theorem leadz {x : Int} (h0 : 0 < x) (h1 : x < 4294967296) : ∃ s : Nat, s < 32 ∧ 32 - (Lib.bitLen x.toNat : Int) = s ∧ 2147483648 ≤ x * 2 ^ s ∧ x * 2 ^ s < 4294967296 := by
  obtain ⟨n, rfl⟩ := Int.eq_ofNat_of_zero_le (Int.le_of_lt h0)
  have h4 := Lib.bitLen_le n 32 (by omega) (by omega)
  obtain ⟨L, e1, e2, e3⟩ := bitLenAux_bounds 64 n (by omega) (by omega)
  have e4 : Lib.bitLen n = L + 1 := e1
  refine ⟨31 - L, by omega, by simp only [Int.toNat_natCast]; omega, ?_⟩
  have e5 : 2 ^ L * 2 ^ (31 - L) = 2147483648 := by rw [← Nat.pow_add, show L + (31 - L) = 31 by omega]
  have e6 : 2 ^ (L + 1) * 2 ^ (31 - L) = 4294967296 := by rw [← Nat.pow_add, show L + 1 + (31 - L) = 32 by omega]
  have p : 0 < 2 ^ (31 - L) := Nat.pow_pos (by omega)
  have e7 := Nat.mul_le_mul_right (2 ^ (31 - L)) e2
  have e8 := Nat.mul_lt_mul_of_pos_right e3 p
  have e9 : ((n : Int) * 2 ^ (31 - L)) = ((n * 2 ^ (31 - L) : Nat) : Int) := by simp
  rw [e9]; omega

theorem hi_mul_bounds (b : Int) {p : Int} (hp : 0 < p) : ∀ k, hi b k * p ≤ hi (b * p) k ∧ hi (b * p) k < (hi b k + 1) * p
  | 0 => by rw [hi_zero, hi_zero, Int.add_mul]; omega
  | k + 1 => by
    have h := hi_mul_bounds b hp k
    have hs := hi_split b k
    have d0 := dg_nonneg b k
    have d1 := dg_lt b k
    rw [hi_succ (b * p)]
    have e1 : hi b k * p = 4294967296 * (hi b (k + 1) * p) + dg b k * p := by rw [hs]; grind
    have e2 : (hi b k + 1) * p = 4294967296 * (hi b (k + 1) * p) + (dg b k + 1) * p := by rw [hs]; grind
    have e3 : (hi b (k + 1) + 1) * p = hi b (k + 1) * p + p := by grind
    have e4 : 0 ≤ dg b k * p := Int.mul_nonneg d0 (by omega)
    have e5 : (dg b k + 1) * p ≤ 4294967296 * p := Int.mul_le_mul_of_nonneg_right (by omega) (by omega)
    rw [e1, e2] at h
    rw [e3]
    omega
/-- the divisor, its top digit made great -/
theorem norm_nl {b : Int} {m s : Nat} (hb : NL b (m + 1)) (h1 : 2147483648 ≤ dg b m * 2 ^ s) (h2 : dg b m * 2 ^ s < 4294967296) (hs : s < 32) : NL (b * 2 ^ s) (m + 1) ∧ 2147483648 ≤ dg (b * 2 ^ s) m := by
  have hp : (0 : Int) < 2 ^ s := Int.pow_pos (by omega)
  have ht := hb.topdig (by omega)
  simp only [Nat.add_sub_cancel] at ht
  have h3 := hi_mul_bounds b hp m
  rw [← ht.1] at h3
  obtain ⟨hp1, _, hp3⟩ := pow_split hs
  have h4 : (dg b m + 1) * 2 ^ s ≤ 4294967296 := by
    rw [← hp1, Int.mul_comm (2 ^ s)] at h2
    have h5 := Int.lt_of_mul_lt_mul_right h2 (Int.le_of_lt hp)
    rw [← hp1, Int.mul_comm (2 ^ s)]
    exact Int.mul_le_mul_of_nonneg_right (by omega) (Int.le_of_lt hp)
  have h6 : hi (b * 2 ^ s) (m + 1) = 0 := by rw [hi_succ]; omega
  have h7 := hi_split (b * 2 ^ s) m
  rw [h6] at h7
  exact ⟨⟨Int.mul_nonneg hb.nonneg (by omega), h6, fun _ => by simp only [Nat.add_sub_cancel]; omega⟩, by omega⟩
theorem NL.uniq {n : Int} {k m : Nat} (h : NL n k) (g : NL n m) : k = m := by
  rcases Nat.lt_trichotomy k m with e | e | e
  · exact absurd (hi_ge h.top (by omega)) (g.full (by omega))
  · exact e
  · exact absurd (hi_ge g.top (by omega)) (h.full (by omega))
/-- the window of the rest, one digit further down -/
def win (U V : Int) (i : Nat) : Int := hi U (i + 1) % V * 4294967296 + dg U i
theorem win_hi (U V : Int) (i : Nat) : hi (win U V i) 1 = hi U (i + 1) % V := by
  have d0 := dg_nonneg U i
  have d1 := dg_lt U i
  unfold win
  rw [hi_succ, hi_zero]; omega
theorem win_dg0 (U V : Int) (i : Nat) : dg (win U V i) 0 = dg U i := by
  have d0 := dg_nonneg U i
  have d1 := dg_lt U i
  have : dg (win U V i) 0 = win U V i % 4294967296 := rfl
  rw [this]; unfold win; omega
theorem win_dgs (U V : Int) (i k : Nat) : dg (win U V i) (k + 1) = dg (hi U (i + 1) % V) k := by
  unfold dg
  rw [Nat.add_comm k 1, hi_add, win_hi]
theorem win_lt (U : Int) {V : Int} (hV : 0 < V) (i : Nat) : win U V i < V * 4294967296 ∧ 0 ≤ win U V i := by
  have d0 := dg_nonneg U i
  have d1 := dg_lt U i
  have h1 := Int.emod_nonneg (hi U (i + 1)) (show V ≠ 0 by omega)
  have h2 := Int.emod_lt_of_pos (hi U (i + 1)) hV
  unfold win; omega
theorem win_top (U : Int) {V : Int} {n : Nat} (hV : 0 < V) (hn : hi V n = 0) (i : Nat) : hi (win U V i) (n + 1) = 0 := by
  have h1 := Int.emod_nonneg (hi U (i + 1)) (show V ≠ 0 by omega)
  have h2 := Int.emod_lt_of_pos (hi U (i + 1)) hV
  rw [Nat.add_comm, hi_add, win_hi]
  have h3 := hi_mono (Int.le_of_lt h2) n
  have h4 := hi_nonneg h1 n
  omega
theorem win_div (U : Int) {V : Int} (hV : 0 < V) (i : Nat) : win U V i / V = dg (U / V) i ∧ win U V i % V = hi U i % V := by
  have hs := hi_split U i
  have hd0 := dg_nonneg U i
  have hd := dg_lt U i
  have hlt := win_lt U hV i
  have e1 : hi U i = win U V i + V * (4294967296 * (hi U (i + 1) / V)) := by
    have := Int.emod_add_mul_ediv (hi U (i + 1)) V
    unfold win; rw [hs]; grind
  have e2 : hi (U / V) i = win U V i / V + 4294967296 * (hi U (i + 1) / V) := by
    rw [hi_div U V hV, e1, Int.add_mul_ediv_left _ _ (show V ≠ 0 by omega)]
  have h4 : win U V i / V < 4294967296 := Int.ediv_lt_of_lt_mul hV (by rw [Int.mul_comm]; exact hlt.1)
  have h5 : 0 ≤ win U V i / V := Int.ediv_nonneg hlt.2 (by omega)
  have hdd : dg (U / V) i = hi (U / V) i % 4294967296 := rfl
  refine ⟨by rw [hdd, e2]; omega, ?_⟩
  rw [e1, Int.add_mul_emod_self_left]
/-- the first window -/
theorem first_lt {a b p : Int} {q m : Nat} (ha : hi a (q + (m + 1)) = 0) (hb : NL b (m + 1)) (hp : 0 < p) : hi (a * p) (q + 1) < b * p := by
  have hbt := hb.full (by omega)
  simp only [Nat.add_sub_cancel] at hbt
  have hb1 := hi_nonneg hb.nonneg m
  have h2 := (hi_mul_bounds a hp (q + 1)).2
  have h3 : hi a (q + 1) < b := by
    rcases Int.lt_or_le (hi a (q + 1)) b with h | h
    · exact h
    · have h4 := hi_mono h m
      rw [← hi_add, show q + 1 + m = q + (m + 1) by omega, ha] at h4
      omega
  have h5 : (hi a (q + 1) + 1) * p ≤ b * p := Int.mul_le_mul_of_nonneg_right (by omega) (by omega)
  omega
end Go.Proofs.YtloocadjbpgldaaGreatDoor
/- The walk through the long division. -/
namespace Go.Proofs.YtloocadjbpgldaaGreatDoor
open Go.RowKit

theorem Own.st {w w' : World} {b c n : Nat} {d : Nat → Int} (h : Own w c n d) (hs : St w w' b) (hc : c ≠ b) : Own w' c n d := by
  obtain ⟨cs, hb, hr⟩ := h.raw
  exact ⟨cs, by rw [hs.block c hc]; exact hb, hr⟩
theorem dg_top {n : Int} {k j : Nat} (h : hi n k = 0) (hj : k ≤ j) : dg n j = 0 := by
  have : dg n j = hi n j % 4294967296 := rfl
  rw [this, hi_ge h hj]; rfl

set_option maxRecDepth 100000 in
set_option maxHeartbeats 1000000 in
theorem divide_c (ao bo : Option Addr) (la lb ca cb : Nat) (a b : Int) (w : World) (hla : la ≤ 1000000) (hlb : lb ≤ 1000000) (ha : Mag w ao la ca a) (hb : Mag w bo lb cb b) (hb0 : 0 < b) :
    Calls Tryz.prog 134 #[.slice ao la ca, .slice bo lb cb] w fun e w' =>
      (∃ qo qk qc ro rk rc, e = .returned (.tuple #[.slice qo qk qc, .slice ro rk rc]) ∧ Mag w' qo qk qc (a / b) ∧ Mag w' ro rk rc (a % b)) ∧ Gr w w' := by
  have a0 := ha.nl.nonneg
  rcases Int.lt_or_le a b with hab | hab
  · go_enter Tryz.func134, Tryz.ntmps134
    go_wp2_with fail
    refine (order_c ao bo la lb ca cb a b _ (by omega) (by omega) ha hb).mono ?_
    rintro e w1 ⟨rfl, hG⟩
    rw [sgn_neg (show a - b < 0 by omega)]
    go_wp2
    go_ret2
    exact ⟨⟨_, _, _, _, _, _, rfl, by rw [Int.ediv_eq_zero_of_lt a0 hab]; exact ⟨Nat.le_refl _, NL.zero, Row.nil _ _ _⟩, by rw [Int.emod_eq_of_lt a0 hab]; exact ha.below hG⟩, hG⟩
  · have hd1 : decide (sgn (a - b) < 0) = false := by
      unfold sgn; rw [if_neg (by omega)]; split <;> rfl
    have hlb0 : 0 < lb := by
      rcases Nat.eq_zero_or_pos lb with h | h
      · have := hb.nl.len_zero.1 h; omega
      · exact h
    by_cases hl1 : lb = 1
    · subst hl1
      obtain ⟨b1, off1, rfl, hcs⟩ := hb.row.at_ (by omega)
      have e0 : dg b 0 = b := by
        have h1 := hb.nl.top
        have h2 := hi_split b 0
        rw [h1, hi_zero] at h2; omega
      have hc := hcs 0 (by omega)
      rw [e0, Nat.add_zero] at hc
      have hb1 : b < 4294967296 := by have := dg_lt b 0; omega
      go_enter Tryz.func134, Tryz.ntmps134
      go_wp2_with fail
      refine (order_c ao _ la 1 ca cb a b _ (by omega) (by omega) ha hb).mono ?_
      rintro e w1 ⟨rfl, hG⟩
      have hc1 := ((bcell hG).1 b1 off1 (World.block_lt_of_cell? w _ hc)).trans hc
      go_wp2_with fail
      refine (short_c ao la ca a b _ (by omega) (ha.below hG) hb0 hb1).mono ?_
      rintro e w2 ⟨⟨go, k, cap, rfl, hm⟩, hG2⟩
      have hG3 : Gr w w2 := Gr.trans hG hG2
      go_wp2_with fail
      have m0 := Int.emod_nonneg a (show b ≠ 0 by omega)
      have m1 := Int.emod_lt_of_pos a hb0
      have hd0 : dg (a % b) 0 = a % b := by
        have : dg (a % b) 0 = a % b % 4294967296 := rfl
        rw [this]; omega
      have hh1 : hi (a % b) 1 = 0 := by rw [hi_succ, hi_zero]; omega
      have hfr := alloc1_facts w2 (.cells #[.int .u32 (a % b)] 83)
      have hrow : Row (w2.alloc (.cells #[.int .u32 (a % b)] 83)) (some ⟨w2.heap.size, 0, none⟩) 1 (dg (a % b)) :=
        ⟨fun _ => ⟨_, 0, _, _, rfl, hfr.2.1, fun i hi0 => by obtain rfl : i = 0 := by omega
                                                             rw [hd0]; rfl⟩⟩
      refine (trim_c _ 1 1 (a % b) _ (by omega) (by omega) m0 hh1 hrow).mono ?_
      rintro e w3 ⟨⟨k2, rfl, hm2, hk2⟩, rfl⟩
      go_wp2
      go_ret2
      exact ⟨⟨_, _, _, _, _, _, rfl, hm.below hfr.1, hm2⟩, hG3.trans hfr.1⟩
    · obtain ⟨m, rfl⟩ : ∃ m, lb = m + 2 := ⟨lb - 2, by omega⟩
      have hge : m + 2 ≤ la := by
        rcases Nat.lt_or_ge la (m + 2) with h | h
        · exfalso
          have h1 := hi_mono hab (m + 1)
          have h2 := hi_ge ha.nl.top (show la ≤ m + 1 by omega)
          have h3 := hb.nl.full (by omega)
          simp only [show m + 2 - 1 = m + 1 from rfl] at h3
          have h4 := hi_nonneg hb.nl.nonneg (m + 1)
          omega
        · exact h
      obtain ⟨q, rfl⟩ : ∃ q, la = q + (m + 2) := ⟨la - (m + 2), by omega⟩
      obtain ⟨b1, off1, rfl, hcs⟩ := hb.row.at_ (by omega)
      have hc := hcs (m + 1) (by omega)
      have t0 : 0 < dg b (m + 1) := (hb.nl.topdig (by omega)).2
      have t1 := dg_lt b (m + 1)
      obtain ⟨s, hs0, hs1, hs2, hs3⟩ := leadz t0 t1
      have hp : (0 : Int) < 2 ^ s := Int.pow_pos (by omega)
      obtain ⟨hV, hnorm⟩ := norm_nl hb.nl hs2 hs3 hs0
      have hV0 : 0 < b * 2 ^ s := Int.mul_pos hb0 hp
      have hne : ((m + 2 : Nat) : Int) ≠ 1 := by omega
      have hd2 : (((m + 2 : Nat) : Int) == 1) = false := by simpa using hne
      clear hcs
      go_enter Tryz.func134, Tryz.ntmps134
      go_wp2_with fail
      refine (order_c ao _ _ _ ca cb a b _ (by omega) (by omega) ha hb).mono ?_
      rintro e w1 ⟨rfl, hG⟩
      have hc1 := ((bcell hG).1 b1 (off1 + (m + 1)) (World.block_lt_of_cell? w _ hc)).trans hc
      go_wp2_with fail
      refine (Tryz.bits_LeadingZeros32 (dg b (m + 1)) _ (by omega) (by omega)).mono ?_
      rintro e w1x ⟨rfl, rfl⟩
      rw [hs1]
      go_wp2_with fail
      refine (raised_c ao _ ca a s _ (by omega) (ha.below hG) hs0).mono ?_
      rintro e w2 ⟨⟨gu, rfl, hgu, hOu, htu⟩, hG2⟩
      have hG12 := Gr.trans hG hG2
      go_wp2_with fail
      refine (raised_c _ _ cb b s _ (by omega) (hb.below hG12) hs0).mono ?_
      rintro e w3 ⟨⟨gv, rfl, hgv, hOv, htv⟩, hG3⟩
      have hG13 := Gr.trans hG12 hG3
      have hltu := hOu.lt
      have hltv := hOv.lt
      have hOu3 := hOu.gr hG3
      go_wp2_with fail
      refine (trim_c _ (m + 2 + 1) (m + 2 + 1) (b * 2 ^ s) _ (by omega) (by omega) hV.nonneg htv hOv.row).mono ?_
      rintro e w4 ⟨⟨k, rfl, hMv, hk⟩, rfl⟩
      obtain rfl : k = m + 2 := hMv.nl.uniq hV
      go_wp2_with (at_make; refine wpList_make32 _ rfl _ _ rfl _ _ (q + 1) rfl rfl ?h1 ?h2 (by omega) ?_)
      case h1 => omega
      case h2 => omega
      intro w5 hOq hB5 hsz
      have hOu5 := hOu3.below hB5
      have hOv5 := hOv.below hB5
      have hG15 : Gr w w5 := Gr.trans hG13 hB5
      have hs1' := hG.size
      have hs2' := hG2.size
      go_wp2
      have hlq : hi (a * 2 ^ s) (q + 1) < b * 2 ^ s := first_lt (m := m + 1) ha.nl.top hb.nl hp
      have hlq0 : 0 ≤ hi (a * 2 ^ s) (q + 1) := hi_nonneg (Int.mul_nonneg a0 (by omega)) _
      have hbase : w.heap.size ≤ w3.heap.size := hG13.size
      have hugv : gu ≠ gv := by omega
      have huq : gu ≠ w3.heap.size := by have := hG3.size; omega
      have hvq : gv ≠ w3.heap.size := by omega
      have HP := Lib.hid (And.intro hp (And.intro hV0 (And.intro hlq hlq0)))
      clear hp hlq hlq0
      have hQd : (a * 2 ^ s) / (b * 2 ^ s) = a / b := Int.mul_ediv_mul_of_pos_left _ _ HP.out.1
      have hRd : (a * 2 ^ s) % (b * 2 ^ s) = a % b * 2 ^ s := by rw [Int.mul_comm a, Int.mul_comm b, Int.mul_emod_mul_of_pos _ _ HP.out.1, Int.mul_comm]
      have HQ := Lib.hid (And.intro hQd hRd)
      clear hQd hRd
      clear hV0 hs2 hs3 hsz
      have hU0 : 0 ≤ a * 2 ^ s := Int.mul_nonneg a0 (Int.le_of_lt HP.out.1)
      generalize hUU : a * 2 ^ s = U at *
      generalize hVV : b * 2 ^ s = V at *
      generalize hgq : w3.heap.size = gq at *
      go_loopw [11] (fun i wr => ∃ (k : Nat) (d E : Nat → Int), i = .int .i64 ((k : Int) - 1) ∧ k ≤ q + 1 ∧ Own wr gu (q + (m + 2) + 1) E ∧ Own wr gv (m + 2 + 1) (dg V) ∧ Own wr gq (q + 1) d ∧ Gr w wr ∧
        Hid ((∀ j, j < k → E j = dg U j) ∧ (∀ j, k + j < q + (m + 2) + 1 → E (k + j) = dg (hi U k % V) j) ∧ ∀ j, k ≤ j → j < q + 1 → d j = dg (U / V) j)) (fun i _ => (intOf i + 1).toNat)
      case atStart =>
        refine ⟨q + 1, _, _, by go_num, Nat.le_refl _, hOu5, hOv5, hOq, hG15, fun j _ => rfl, fun j hj => ?_, fun j h1 h2 => by omega⟩
        rw [Int.emod_eq_of_lt HP.out.2.2.2 HP.out.2.2.1]
        unfold dg
        rw [hi_add]
      case round =>
        obtain ⟨k, d, E, rfl, hk, hOu, hOv, hOq, hGr, hh⟩ := hrel
        by_cases hpos : 0 < k
        · obtain ⟨j, rfl⟩ : ∃ j, k = j + 1 := ⟨k - 1, by omega⟩
          have e1 : (((j + 1 : Nat) : Int) - 1) = (j : Int) := by omega
          simp only [e1]
          have hfree := hOq.free j
          have hcq := hOq.cell j (by omega)
          clear e1
          go_wp2_with fail
          rw [show j + (m + 2) + 1 - j = m + 3 by omega]
          refine (digit_c gu j _ gv 0 _ m (q + (m + 2) + 1) E (win U V j) V _ (by omega) (by omega) (by omega) hOu ?g1 ?g2 ?g3 hV ?g4 (Ne.symm hugv) hnorm ?g5).mono ?_
          case g1 =>
            intro i hi0
            cases i with
            | zero => rw [win_dg0]; exact hh.out.1 j (by omega)
            | succ i => rw [win_dgs, show j + (i + 1) = j + 1 + i by omega]; exact hh.out.2.1 i (by omega)
          case g2 => exact (win_lt U HP.out.2.1 j).2
          case g3 => exact win_top U HP.out.2.1 hV.top j
          case g4 => intro i hi0; rw [Nat.zero_add]; exact hOv.cell i (by omega)
          case g5 => exact (win_lt U HP.out.2.1 j).1
          rintro e w6 ⟨rfl, hst, D', hOu6, hw1, hw2⟩
          rw [(win_div U HP.out.2.1 j).1]
          have hOv6 := hOv.st hst (Ne.symm hugv)
          have hOq6 := hOq.st hst (Ne.symm huq)
          have hGr6 := hst.gr hGr (by omega)
          have hfree := hOq6.free j
          have hcq := hOq6.cell j (by omega)
          have hw3 := (win_div U HP.out.2.1 j).2
          rw [hw3] at hw1
          have HW := Lib.hid (And.intro hw1 hw2)
          clear hw1 hw2 hw3
          go_wp2
          go_roundw
          case rel =>
            refine ⟨j, _, D', rfl, by omega, hOu6.st (St.setCell _ _ _ _) huq, hOv6.st (St.setCell _ _ _ _) hvq, hOq6.set (by omega) _, (St.setCell _ _ _ _).gr hGr6 (by omega), fun i hi0 => ?_, fun i hi0 => ?_, fun i h1 h2 => ?_⟩
            · rw [HW.out.2 i (by omega)]; exact hh.out.1 i (by omega)
            · by_cases hi1 : i < m + 3
              · exact HW.out.1 i hi1
              · have z1 : dg (hi U j % V) i = 0 := dg_top (k := m + 2) (by
                  have h1 := Int.emod_nonneg (hi U j) (show V ≠ 0 by have := HP.out.2.1; omega)
                  have h2 := Int.emod_lt_of_pos (hi U j) HP.out.2.1
                  have h3 := hi_mono (Int.le_of_lt h2) (m + 2)
                  have h4 := hi_nonneg h1 (m + 2)
                  rw [hV.top] at h3
                  exact Int.le_antisymm h3 h4) (by omega)
                have z2 : dg (hi U (j + 1) % V) (i - 1) = 0 := dg_top (k := m + 2) (by
                  have h1 := Int.emod_nonneg (hi U (j + 1)) (show V ≠ 0 by have := HP.out.2.1; omega)
                  have h2 := Int.emod_lt_of_pos (hi U (j + 1)) HP.out.2.1
                  have h3 := hi_mono (Int.le_of_lt h2) (m + 2)
                  have h4 := hi_nonneg h1 (m + 2)
                  rw [hV.top] at h3
                  exact Int.le_antisymm h3 h4) (by omega)
                rw [z1, HW.out.2 (j + i) (by omega), ← z2, show j + i = j + 1 + (i - 1) by omega]
                exact hh.out.2.1 (i - 1) (by omega)
            · by_cases e : i = j
              · subst e; rw [upd_same]
              · rw [upd_other _ _ e]; exact hh.out.2.2 i (by omega) h2
          case measure => simp [intOf]; try omega
        · obtain rfl : k = 0 := by omega
          have hV1 := HP.out.2.1
          have m0 := Int.emod_nonneg U (show V ≠ 0 by omega)
          have m1 : U % V ≤ U := by
            have h1 := Int.emod_add_mul_ediv U V
            have h2 : 0 ≤ V * (U / V) := Int.mul_nonneg (by omega) (Int.ediv_nonneg hU0 (by omega))
            omega
          have q0 : 0 ≤ U / V := Int.ediv_nonneg hU0 (by omega)
          have q1 : hi (U / V) (q + 1) = 0 := by
            rw [hi_div U V hV1]
            exact Int.ediv_eq_zero_of_lt HP.out.2.2.2 HP.out.2.2.1
          have m2 : hi (U % V) (q + (m + 2) + 1) = 0 := by
            have h1 := hi_mono m1 (q + (m + 2) + 1)
            have h2 := hi_nonneg m0 (q + (m + 2) + 1)
            omega
          go_wp2_with fail
          refine (trim_c _ (q + 1) (q + 1) (U / V) _ (by omega) (by omega) q0 q1 (hOq.congr (fun i hi0 => hh.out.2.2 i (by omega) hi0)).row).mono ?_
          rintro e w6 ⟨⟨k1, rfl, hM1, hk1⟩, rfl⟩
          go_wp2_with fail
          refine (trim_c _ (q + (m + 2) + 1) (q + (m + 2) + 1) (U % V) _ (by omega) (by omega) m0 m2 (hOu.congr (fun i hi0 => by
            have := hh.out.2.1 i (by omega)
            rw [Nat.zero_add, hi_zero] at this; exact this)).row).mono ?_
          rintro e w6 ⟨⟨k2, rfl, hM2, hk2⟩, rfl⟩
          go_wp2_with fail
          refine (lowered_c _ k2 _ (U % V) s _ (by omega) hM2 hs0).mono ?_
          rintro e w7 ⟨⟨go, k3, cap, rfl, hM3⟩, hG7⟩
          go_wp2
          go_ret2
          rw [HQ.out.1] at hM1
          rw [HQ.out.2, Int.mul_ediv_cancel _ (show (2 : Int) ^ s ≠ 0 by have := HP.out.1; omega)] at hM3
          exact ⟨⟨_, _, _, _, _, _, rfl, hM1.below hG7, hM3⟩, Gr.trans hGr hG7⟩
end Go.Proofs.YtloocadjbpgldaaGreatDoor
