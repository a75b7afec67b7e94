/- A region that draws its order and makes variables of its own beside calls: the new variables may come up at any time. -/
import Derived.Test.YtgopfikljndklaaDoorOrd
namespace Go.Proofs.YtgopfikljndklaaDoor
open Go.RowKit

section
variable {P : Program} {ops : Array Oper} {Q : Exit → Act → World → Prop} {S : World → Prop}

/-- another operation does not see what a slot holds that it does not look at -/
theorem wpOp_fwd {j d : Nat} {v : Value} {oj : Oper} (hj : ops[j]? = some oj) (h1 : d ∉ oj.looksAt ops) (h2 : oj.dst ≠ some d) (hs : ∀ cs b, oj.op ≠ .select cs b)
    (hQ : ∀ c (a : Act) w, Q (.panic c) a w → Q (.panic c) (a.put (some d) v) w) {K : Act → World → Prop} {a : Act} {w : World}
    (h : wpOp P ops Q j K a w) : wpOp P ops Q j (fun a' w' => ∃ a₀, a' = a₀.put (some d) v ∧ K a₀ w') (a.put (some d) v) w := by
  have e1 : execOp (a.put (some d) v).eval oj = execOp a.eval oj := execOp_put oj hs a (some d) v (fun d' e => by cases e; exact h1)
  have e2 : Region.wanted oj (yielded ops (a.put (some d) v).tmps) = Region.wanted oj (yielded ops a.tmps) := wanted_put oj a (some d) v (fun d' e => by cases e; exact h1)
  have e3 : ∀ (a : Act) u, (a.put (some d) v).put oj.dst u = (a.put oj.dst u).put (some d) v := fun a u => Act.put_comm a v u (fun d' e => by cases e; exact h2)
  unfold wpOp at *
  simp only [hj] at *
  rw [e2]
  split
  · rename_i hw
    simp only [hw, if_true] at h
    rcases h with h | ⟨hasks, hlets⟩
    case inr => exact .inr ⟨by unfold Oper.asks at *; rw [e1]; exact hasks, hlets⟩
    refine .inl ?_
    unfold Oper.wp at *
    rw [e1]
    generalize (execOp a.eval oj).run P w = r at *
    cases r with
    | ok n w' =>
      cases n <;> simp only [Oper.upon] at h ⊢
      case value u => exact ⟨_, e3 a u, h⟩
      case skip => exact ⟨_, e3 a _, h⟩
      case defer dd => exact ⟨_, by rw [← e3]; rfl, h⟩
      case enter f args =>
        refine Calls.mono h fun e w'' he => ?_
        cases e with
        | returned u => exact ⟨_, e3 a u, he⟩
        | panicked c => exact hQ _ _ _ he
        | outgrown => exact he
      case row row args => exact Rows.mono h fun u w'' he => ⟨_, e3 a u, he⟩
    | halt x w' =>
      cases x <;> simp only [Oper.upon] at h ⊢
      case panic u => exact hQ _ _ _ h
  · rename_i hw
    simp only [hw] at h
    exact ⟨_, e3 a _, h⟩

/-- a new variable of the region: its operation, its slot, what it holds at first -/
structure Fl where
  op : Nat
  slot : Nat
  ty : TypeId
  zero : Array Value

def putFl (ps : Nat → Nat) (a : Act) (f : Fl) : Act := a.put (some f.slot) (.pointer (some ⟨ps f.op, 0, none⟩))
def setFl (listed : Array Bool) (fl : List Fl) : Array Bool := fl.foldl (fun l f => l.setIfInBounds f.op true) listed

def wpFlo (P : Program) (ops : Array Oper) (Q : Exit → Act → World → Prop) (S : World → Prop) (fin : Act → World → Prop) : List (Bool × Nat) → Act → World → Prop
  | [], a, w => ∀ w1, Gr w w1 → S w1 → fin a w1
  | (true, i) :: rest, a, w => ∃ o v, ops[i]? = some o ∧ YieldsIf P ops S o v a ∧ wpFlo P ops Q S fin rest (a.put o.dst v) w
  | (false, i) :: rest, a, w => ∀ w1, Gr w w1 → S w1 → wpOp P ops Q i (fun a' w' => Gr w1 w' ∧ S w' ∧ wpFlo P ops Q S fin rest a' w') a w1

theorem wpFlo_gr {fin : Act → World → Prop} : ∀ (l : List (Bool × Nat)) {a : Act} {w w' : World}, wpFlo P ops Q S fin l a w → Gr w w' → wpFlo P ops Q S fin l a w'
  | [], _, _, _, h, hg => fun w1 h1 => h w1 (hg.trans h1)
  | (true, _) :: l, _, _, _, h, hg => by
    obtain ⟨o, v, h1, h2, h3⟩ := h
    exact ⟨o, v, h1, h2, wpFlo_gr l h3 hg⟩
  | (false, _) :: _, _, _, _, h, hg => fun w1 h1 => h w1 (hg.trans h1)

/-- all that is asked of the region's edges, closed -/
def okFlo (ops : Array Oper) (fl : List Fl) (tl : List (Bool × Nat)) : List (Bool × Nat) → Array Bool → Bool
  | [], listed => okOrd ops tl (setFl listed fl) &&
      fl.all fun f => (Region.ready .any ops listed).contains f.op && decide (Region.ready .any ops (setFl listed (fl.filter (·.op != f.op))) = [f.op])
  | (true, i) :: rest, listed => (Region.ready .any ops listed).contains i && Region.free .any ops listed i && okFlo ops fl tl rest (listed.setIfInBounds i true)
  | (false, i) :: rest, listed => (Region.ready .any ops listed).contains i && decide (Region.ready .any ops (setFl listed fl) = [i]) && okFlo ops fl tl rest (listed.setIfInBounds i true)

/-- no operation ahead of the tail looks at the new variables' slots -/
def okAp (ops : Array Oper) (fl : List Fl) (l : List (Bool × Nat)) : Bool :=
  l.all fun x => match ops[x.2]? with
      | some o => fl.all fun f => !(o.looksAt ops).contains f.slot && o.dst != some f.slot && x.2 != f.op
      | none => false
/-- the new variables' operations -/
def okAl (ops : Array Oper) (fl : List Fl) : Bool :=
  decide (fl.map Fl.op).Nodup && decide (fl.map Fl.slot).Nodup && fl.all fun f => match ops[f.op]? with
    | some o => (match o.op with | .alloc t => t == f.ty | _ => false) && o.guard.isNone && o.dst == some f.slot
    | none => false

theorem setFl_cons (l : Array Bool) (f : Fl) (X : List Fl) : setFl l (f :: X) = setFl (l.setIfInBounds f.op true) X := rfl
theorem setFl_snoc (l : Array Bool) (X : List Fl) (f : Fl) : setFl l (X ++ [f]) = (setFl l X).setIfInBounds f.op true := by simp [setFl, List.foldl_append]
theorem setFl_append (l : Array Bool) (X Y : List Fl) : setFl l (X ++ Y) = setFl (setFl l X) Y := by simp [setFl, List.foldl_append]
theorem setFl_perm (l : Array Bool) {X Y : List Fl} (h : X.Perm Y) : setFl l X = setFl l Y := by
  unfold setFl
  refine List.Perm.foldl_eq' h (fun x _ y _ z => ?_) l
  by_cases e : x.op = y.op
  · rw [e]
  · exact (Array.setIfInBounds_comm _ _ e).symm ▸ rfl
theorem setFl_set (l : Array Bool) (X : List Fl) (i : Nat) : setFl (l.setIfInBounds i true) X = (setFl l X).setIfInBounds i true := by
  induction X generalizing l with
  | nil => rfl
  | cons f X ih =>
    rw [setFl_cons, setFl_cons, ← ih]
    by_cases e : f.op = i
    · rw [e]
    · rw [Array.setIfInBounds_comm _ _ e]
theorem ready_setFl {listed : Array Bool} {j : Nat} : ∀ (X : List Fl), j ∈ Region.ready .any ops listed → (∀ f ∈ X, j ≠ f.op) → j ∈ Region.ready .any ops (setFl listed X) := by
  intro X
  induction X generalizing listed with
  | nil => exact fun h _ => h
  | cons f X ih =>
    intro h hne
    rw [setFl_cons]
    exact ih (ready_mono h (hne f (by simp))) (fun g hg => hne g (by simp [hg]))
theorem free_set {listed : Array Bool} {i k : Nat} (h : Region.free .any ops listed i = true) : Region.free .any ops (listed.setIfInBounds k true) i = true := by
  unfold Region.free at *
  split at h
  · cases h
  · rename_i oi ho
    rw [List.all_eq_true] at h ⊢
    intro j hj
    have h1 := h j hj
    simp only [Bool.or_eq_true] at h1 ⊢
    rcases h1 with (h1 | h1) | h1
    · exact .inl (.inl h1)
    · by_cases e : k = j
      · subst e
        rcases Nat.lt_or_ge k listed.size with h' | h'
        · exact .inl (.inr (by simp [h']))
        · exact .inl (.inr (by simp [h']))
      · exact .inl (.inr (by rw [getD_set_ne true e]; exact h1))
    · exact .inr h1
theorem free_setFl {listed : Array Bool} {i : Nat} : ∀ (X : List Fl), Region.free .any ops listed i = true → Region.free .any ops (setFl listed X) i = true := by
  intro X
  induction X generalizing listed with
  | nil => exact id
  | cons f X ih => exact fun h => by rw [setFl_cons]; exact ih (free_set h)

theorem nodup_inj {α β : Type} {g : α → β} {l : List α} (h : (l.map g).Nodup) {a b : α} (ha : a ∈ l) (hb : b ∈ l) (e : g a = g b) : a = b := by
  induction l with
  | nil => cases ha
  | cons x l ih =>
    rw [List.map_cons, List.nodup_cons] at h
    rcases List.mem_cons.1 ha with rfl | ha' <;> rcases List.mem_cons.1 hb with rfl | hb'
    · rfl
    · exact absurd (List.mem_map.2 ⟨b, hb', e.symm⟩) h.1
    · exact absurd (List.mem_map.2 ⟨a, ha', e⟩) h.1
    · exact ih h.2 ha' hb'
theorem putFl_put {ps : Nat → Nat} (X : List Fl) (a : Act) (d : Option Tmp) (v : Value) (h : ∀ f ∈ X, d ≠ some f.slot) : (X.foldl (putFl ps) a).put d v = X.foldl (putFl ps) (a.put d v) := by
  induction X generalizing a with
  | nil => rfl
  | cons f X ih =>
    rw [List.foldl_cons, List.foldl_cons, ih _ (fun g hg => h g (by simp [hg]))]
    congr 1
    exact Act.put_comm a _ v (fun d' e => by cases e; exact h f (by simp))
theorem putFl_congr {ps ps' : Nat → Nat} (X : List Fl) (a : Act) (h : ∀ f ∈ X, ps f.op = ps' f.op) : X.foldl (putFl ps) a = X.foldl (putFl ps') a := by
  induction X generalizing a with
  | nil => rfl
  | cons f X ih =>
    rw [List.foldl_cons, List.foldl_cons, ih _ (fun g hg => h g (by simp [hg]))]
    congr 1
    unfold putFl
    rw [h f (by simp)]
theorem putFl_perm {ps : Nat → Nat} {X Y : List Fl} (h : X.Perm Y) (hn : (X.map Fl.slot).Nodup) (a : Act) : X.foldl (putFl ps) a = Y.foldl (putFl ps) a := by
  refine List.Perm.foldl_eq' h (fun x hx y hy z => ?_) a
  by_cases e : x = y
  · rw [e]
  · have hne : x.slot ≠ y.slot := fun e' => e (nodup_inj hn hx hy e')
    exact Act.put_comm z _ _ (fun d' e' => by cases e'; exact fun h => hne (Option.some.inj h).symm)

theorem yields_put {ps : Nat → Nat} {o : Oper} {v : Value} (hs : ∀ cs b, o.op ≠ .select cs b) (X : List Fl) (a : Act) (h : ∀ f ∈ X, f.slot ∉ o.looksAt ops) (hy : YieldsIf P ops S o v a) :
    YieldsIf P ops S o v (X.foldl (putFl ps) a) := by
  induction X generalizing a with
  | nil => exact hy
  | cons f X ih =>
    refine ih _ (fun g hg => h g (by simp [hg])) (hy.of_same ?_ ?_)
    · exact execOp_put o hs a (some f.slot) _ (fun d e => by cases e; exact h f (by simp))
    · exact wanted_put o a (some f.slot) _ (fun d e => by cases e; exact h f (by simp))
theorem wpOp_fwds {ps : Nat → Nat} {j : Nat} {oj : Oper} (hj : ops[j]? = some oj) (hs : ∀ cs b, oj.op ≠ .select cs b)
    (hQ : ∀ c (a : Act) (d : Tmp) v w, Q (.panic c) a w → Q (.panic c) (a.put (some d) v) w) {K : Act → World → Prop} {w : World} (X : List Fl) (h1 : ∀ f ∈ X, f.slot ∉ oj.looksAt ops) (h2 : ∀ f ∈ X, oj.dst ≠ some f.slot) :
    ∀ {a : Act}, wpOp P ops Q j K a w → wpOp P ops Q j (fun a' w' => ∃ a₀, a' = X.foldl (putFl ps) a₀ ∧ K a₀ w') (X.foldl (putFl ps) a) w := by
  induction X generalizing K with
  | nil => exact fun h => wpOp_mono (fun a' w' h' => ⟨a', rfl, h'⟩) h
  | cons f X ih =>
    intro a h
    have h3 := wpOp_fwd (d := f.slot) (v := .pointer (some ⟨ps f.op, 0, none⟩)) hj (h1 f (by simp)) (h2 f (by simp)) hs (fun c a w => hQ c a _ _ w) h
    refine wpOp_mono (fun a' w' h' => ?_) (ih (fun g hg => h1 g (by simp [hg])) (fun g hg => h2 g (by simp [hg])) h3)
    obtain ⟨a₀, e, a₁, e1, hk⟩ := h'
    exact ⟨a₁, by rw [e, e1]; rfl, hk⟩

/-- what is left for the tail: the new variables are there, and hold their zeros -/
def FloFin (P : Program) (ops : Array Oper) (Q : Exit → Act → World → Prop) (S : World → Prop) (B : Nat) (fl : List Fl) (tl : List (Bool × Nat)) (a : Act) (w : World) : Prop :=
  ∀ ps : Nat → Nat, (∀ f ∈ fl, w.heap[ps f.op]? = some (.cells f.zero f.ty) ∧ B ≤ ps f.op) → (fl.map fun f => ps f.op).Nodup → wpOrd P ops Q S tl (fl.foldl (putFl ps) a) w

theorem wpFlo_sound (hs : Region.noSelect ops = true) (hQ : ∀ c (a : Act) (d : Tmp) v w, Q (.panic c) (a.put (some d) v) w → Q (.panic c) a w)
    (hQ' : ∀ c (a : Act) (d : Tmp) v w, Q (.panic c) a w → Q (.panic c) (a.put (some d) v) w) (hSa : ∀ w o, S w → S (w.alloc o)) (B : Nat) (fl : List Fl) (tl : List (Bool × Nat))
    (hal : okAl ops fl = true) (hz : ∀ f ∈ fl, ∀ w, (Instr.alloc f.ty true (.tuple #[])).run P w = .ok (.pointer (some ⟨w.heap.size, 0, none⟩)) (w.alloc (.cells f.zero f.ty))) :
    ∀ (n : Nat) (l : List (Bool × Nat)) (X R : List Fl) (ps : Nat → Nat) (fuel : Nat) (listed : Array Bool) (a : Act) (w : World), l.length + R.length ≤ n → l.length + R.length + tl.length ≤ fuel →
      fl.Perm (X ++ R) → okFlo ops fl tl l listed = true → okAp ops fl l = true → S w → B ≤ w.heap.size → (∀ f ∈ X, w.heap[ps f.op]? = some (.cells f.zero f.ty) ∧ B ≤ ps f.op) → (X.map fun f => ps f.op).Nodup →
      wpFlo P ops Q S (FloFin P ops Q S B fl tl) l a w → wpAnyH P .any ops Q S fuel (setFl listed X) (X.foldl (putFl ps) a) w := by
  simp only [okAl, Bool.and_eq_true, decide_eq_true_eq, List.all_eq_true] at hal
  obtain ⟨⟨hno, hns⟩, hal⟩ := hal
  intro n
  induction n with
  | zero =>
    intro l X R ps fuel listed a w hn hf hp hok hap hS hB hX hXn h
    obtain rfl : l = [] := by cases l with | nil => rfl | cons x l => simp at hn
    obtain rfl : R = [] := by cases R with | nil => rfl | cons x l => simp at hn
    simp only [okFlo, Bool.and_eq_true] at hok
    rw [List.append_nil] at hp
    have h1 := h w (Gr.refl w) hS ps (fun f hf => hX f (hp.mem_iff.1 hf)) ((hp.map _).nodup_iff.2 hXn)
    rw [putFl_perm hp hns] at h1
    have h2 := hok.1
    rw [setFl_perm listed hp] at h2
    exact wpOrd_sound hs hQ tl fuel _ _ w (by simpa using hf) h2 hS h1
  | succ n ih =>
    intro l X R ps fuel listed a w hn hf hp hok hap hS hB hX hXn h
    -- a new variable comes up
    have float : ∀ fuel', l.length + R.length + tl.length ≤ fuel' + 1 → ∀ f ∈ R, wpOp P ops Q f.op (fun a' w' => S w' ∧ wpAnyH P .any ops Q S fuel' ((setFl listed X).setIfInBounds f.op true) a' w') (X.foldl (putFl ps) a) w := by
      intro fuel' hf' f hfR
      have hffl : f ∈ fl := hp.mem_iff.2 (by simp [hfR])
      have h1 := hal f hffl
      obtain ⟨R1, R2, rfl⟩ := List.append_of_mem hfR
      cases ho : ops[f.op]? with
      | none => rw [ho] at h1; cases h1
      | some o =>
        rw [ho] at h1
        simp only [Bool.and_eq_true, Option.isNone_iff_eq_none, beq_iff_eq] at h1
        obtain ⟨⟨h2, h3⟩, h4⟩ := h1
        have hop : o.op = .alloc f.ty := by
          cases hh : o.op <;> rw [hh] at h2 <;> first | cases h2 | (simp at h2; rw [h2])
        unfold wpOp
        simp only [ho]
        rw [if_pos (by simp [Region.wanted, h3])]
        refine .inl ?_
        have hrun : (execOp (X.foldl (putFl ps) a).eval o).run P w = .ok (.value (.pointer (some ⟨w.heap.size, 0, none⟩))) (w.alloc (.cells f.zero f.ty)) := by
          simp only [execOp, hop]
          have := hz f hffl w
          simp [this, Result.andThen]
        unfold Oper.wp
        rw [hrun]
        simp only [Oper.upon]
        refine ⟨hSa _ _ hS, ?_⟩
        have hnotX : ∀ g ∈ X, g.op ≠ f.op := fun g hg e => by
          have h5 : ((X ++ (R1 ++ f :: R2)).map Fl.op).Nodup := (hp.map _).nodup_iff.1 hno
          rw [List.map_append, List.nodup_append] at h5
          exact h5.2.2 _ (List.mem_map.2 ⟨g, hg, rfl⟩) _ (List.mem_map.2 ⟨f, by simp, rfl⟩) e
        have h6 := ih l (X ++ [f]) (R1 ++ R2) (fun k => if k = f.op then w.heap.size else ps k) fuel' listed a (w.alloc (.cells f.zero f.ty)) (by simp at hn ⊢; omega) (by simp at hf' ⊢; omega)
          (hp.trans (by simpa using List.Perm.append_left X (List.perm_middle))) hok hap (hSa _ _ hS) (by simp; omega)
          (fun g hg => by
            rcases List.mem_append.1 hg with hg | hg
            · rw [if_neg (hnotX g hg)]; exact ⟨(Gr.alloc w _).heap (hX g hg).1, (hX g hg).2⟩
            · obtain rfl : g = f := by simpa using hg
              rw [if_pos rfl]; exact ⟨heap_alloc_new w _, hB⟩)
          (by
            rw [List.map_append, List.nodup_append]
            refine ⟨?_, by simp, ?_⟩
            · rw [List.map_congr_left (g := fun f => ps f.op) (fun g hg => if_neg (hnotX g hg))]; exact hXn
            · intro x hx y hy
              obtain ⟨g, hg, rfl⟩ := List.mem_map.1 hx
              obtain rfl : y = w.heap.size := by simpa using hy
              rw [if_neg (hnotX g hg)]
              intro e
              have h7 := (hX g hg).1
              rw [e, Array.getElem?_eq_none (Nat.le_refl _)] at h7
              cases h7)
          (wpFlo_gr l h (Gr.alloc w _))
        rw [setFl_snoc, List.foldl_append, putFl_congr (ps' := ps) X a (fun g hg => if_neg (hnotX g hg))] at h6
        simp only [List.foldl_cons, List.foldl_nil, putFl, if_pos] at h6
        rw [h4]
        exact h6
    cases l with
    | nil =>
      cases R with
      | nil => 
        simp only [okFlo, Bool.and_eq_true] at hok
        rw [List.append_nil] at hp
        have h1 := h w (Gr.refl w) hS ps (fun f hf => hX f (hp.mem_iff.1 hf)) ((hp.map _).nodup_iff.2 hXn)
        rw [putFl_perm hp hns] at h1
        have h2 := hok.1
        rw [setFl_perm listed hp] at h2
        exact wpOrd_sound hs hQ tl fuel _ _ w (by simpa using hf) h2 hS h1
      | cons r R =>
        simp only [okFlo, Bool.and_eq_true, List.all_eq_true, decide_eq_true_eq] at hok
        obtain ⟨fuel, rfl⟩ : ∃ m, fuel = m + 1 := ⟨fuel - 1, by simp at hf; omega⟩
        have hrfl : r ∈ fl := hp.mem_iff.2 (by simp)
        have hnd : ((X ++ r :: R).map Fl.op).Nodup := (hp.map _).nodup_iff.1 hno
        rw [List.map_append, List.nodup_append] at hnd
        have hr : r.op ∈ Region.ready .any ops (setFl listed X) := ready_setFl X (by simpa using (hok.2 r hrfl).1)
          (fun g hg e => hnd.2.2 _ (List.mem_map.2 ⟨g, hg, rfl⟩) _ (List.mem_map.2 ⟨r, by simp, rfl⟩) e.symm)
        refine wpAnyH_all (rs := Region.ready .any ops (setFl listed X)) rfl (fun e => by rw [e] at hr; cases hr) (fun j hj => ?_)
        by_cases hjR : ∃ f ∈ r :: R, j = f.op
        · obtain ⟨f, hfR, rfl⟩ := hjR
          exact float fuel hf f hfR
        · -- nothing else may come up ahead of r
          refine absurd ?_ (fun e : j = r.op => hjR ⟨r, by simp, e⟩)
          have h1 := (hok.2 r hrfl).2
          have h2 : (fl.filter (·.op != r.op)).Perm (X ++ R) := by
            refine (hp.filter _).trans ?_
            rw [List.filter_append, List.filter_cons_of_neg (by simp)]
            rw [List.filter_eq_self.2 (fun g hg => by
              simp only [bne_iff_ne]; exact hnd.2.2 _ (List.mem_map.2 ⟨g, hg, rfl⟩) _ (List.mem_map.2 ⟨r, by simp, rfl⟩)),
              List.filter_eq_self.2 (fun g hg => by
                simp only [bne_iff_ne]
                have h3 := hnd.2.1
                rw [List.map_cons, List.nodup_cons] at h3
                exact fun e => h3.1 (List.mem_map.2 ⟨g, hg, e⟩))]
          rw [setFl_perm listed h2, setFl_append] at h1
          have h3 := ready_setFl R hj (fun g hg e => hjR ⟨g, by simp [hg], e⟩)
          rw [h1] at h3
          simpa using h3
    | cons x l =>
      obtain ⟨b, i⟩ := x
      obtain ⟨fuel, rfl⟩ : ∃ m, fuel = m + 1 := ⟨fuel - 1, by simp at hf; omega⟩
      have hap' := hap
      simp only [okAp, List.all_cons, Bool.and_eq_true] at hap'
      obtain ⟨hi, hapl⟩ := hap'
      cases b with
      | true =>
        simp only [okFlo, Bool.and_eq_true] at hok
        obtain ⟨o, v, ho, hy, hr⟩ := h
        rw [ho] at hi
        simp only [List.all_eq_true, Bool.and_eq_true, Bool.not_eq_true', bne_iff_ne] at hi
        have hXfl : ∀ f ∈ X, f ∈ fl := fun f hf => hp.mem_iff.2 (by simp [hf])
        refine wpAnyH_take ho hs (free_setFl X hok.1.2) (by simpa using ready_setFl X (by simpa using hok.1.1) (fun f hf => (hi f (hXfl f hf)).2))
          (fun c a w h => by cases hd : o.dst with | none => rw [hd] at h; exact h | some d => rw [hd] at h; exact hQ c a d _ w h) (yields_put (fun cs b => Region.noSelect_spec hs i o cs b ho) X a (fun f hf => by simpa using (hi f (hXfl f hf)).1.1) hy) hS ?_
        rw [putFl_put X a _ _ (fun f hf => (hi f (hXfl f hf)).1.2), ← setFl_set]
        exact ih l X R ps fuel _ _ w (by simp at hn; omega) (by simp at hf; omega) hp hok.2 hapl hS hB hX hXn hr
      | false =>
        simp only [okFlo, Bool.and_eq_true, decide_eq_true_eq] at hok
        have hops : ∃ o, ops[i]? = some o := by
          cases ho : ops[i]? with
          | none => rw [ho] at hi; cases hi
          | some o => exact ⟨o, rfl⟩
        obtain ⟨o, ho⟩ := hops
        rw [ho] at hi
        simp only [List.all_eq_true, Bool.and_eq_true, Bool.not_eq_true', bne_iff_ne] at hi
        have hXfl : ∀ f ∈ X, f ∈ fl := fun f hf => hp.mem_iff.2 (by simp [hf])
        have hr : i ∈ Region.ready .any ops (setFl listed X) := ready_setFl X (by simpa using hok.1.1) (fun f hf => (hi f (hXfl f hf)).2)
        refine wpAnyH_all (rs := Region.ready .any ops (setFl listed X)) rfl (fun e => by rw [e] at hr; cases hr) (fun j hj => ?_)
        by_cases hjR : ∃ f ∈ R, j = f.op
        · obtain ⟨f, hfR, rfl⟩ := hjR
          exact float fuel hf f hfR
        · have h3 := ready_setFl R hj (fun g hg e => hjR ⟨g, hg, e⟩)
          rw [← setFl_append, ← setFl_perm listed hp, hok.1.2] at h3
          obtain rfl : j = i := by simpa using h3
          have h4 := h w (Gr.refl w) hS
          have h5 := wpOp_fwds (ps := ps) ho (fun cs b => Region.noSelect_spec hs j o cs b ho) hQ' X (fun f hf => by simpa using (hi f (hXfl f hf)).1.1) (fun f hf => (hi f (hXfl f hf)).1.2) h4
          refine wpOp_mono (fun a' w' h' => ?_) h5
          obtain ⟨a₀, rfl, hg, hS', hc⟩ := h'
          refine ⟨hS', ?_⟩
          rw [← setFl_set]
          exact ih l X R ps fuel _ _ w' (by simp at hn; omega) (by simp at hf; omega) hp hok.2 hapl hS' (Nat.le_trans hB hg.size)
            (fun f hf => ⟨hg.heap (hX f hf).1, (hX f hf).2⟩) hXn hc

theorem wp_region_flo {id : Nat} {a : Act} {w : World} (S : World → Prop) (l : List (Bool × Nat)) (fl : List Fl) (tl : List (Bool × Nat)) (hm : P.follows .mixedOrders = true) (hs : Region.noSelect ops = true)
    (hok : okFlo ops fl tl l (Array.replicate ops.size false) = true) (hap : okAp ops fl l = true) (hal : okAl ops fl = true) (hl : l.length + fl.length + tl.length ≤ ops.size)
    (hQ : ∀ c (a : Act) (d : Tmp) v w, Q (.panic c) (a.put (some d) v) w → Q (.panic c) a w) (hQ' : ∀ c (a : Act) (d : Tmp) v w, Q (.panic c) a w → Q (.panic c) (a.put (some d) v) w) (hSa : ∀ w o, S w → S (w.alloc o)) (hS : S w.drew)
    (hz : ∀ f ∈ fl, ∀ w, (Instr.alloc f.ty true (.tuple #[])).run P w = .ok (.pointer (some ⟨w.heap.size, 0, none⟩)) (w.alloc (.cells f.zero f.ty)))
    (h : wpFlo P ops Q S (FloFin P ops Q S w.heap.size fl tl) l a w.drew) : (Code.region id ops true).wp P Q a w :=
  wp_region_held hm (wpFlo_sound hs hQ hQ' hSa w.heap.size fl tl hal hz _ l [] fl (fun _ => 0) _ _ _ _ (Nat.le_refl _) hl (by simp) hok hap hS (Nat.le_refl _) (fun f hf => by cases hf) (by simp) h)

theorem flo_nil {fin : Act → World → Prop} {a : Act} {w : World} (h : ∀ w1, Gr w w1 → S w1 → fin a w1) : wpFlo P ops Q S fin [] a w := h
theorem flo_pure {fin : Act → World → Prop} {i : Nat} {rest : List (Bool × Nat)} {a : Act} {w : World} {o : Oper} (d : Option Tmp) (v : Value) (ho : ops[i]? = some o) (hd : o.dst = d) (hg : o.guard = none)
    (hv : ∀ w, S w → (execOp a.eval o).run P w = .ok (.value v) w) (h : wpFlo P ops Q S fin rest (a.put d v) w) : wpFlo P ops Q S fin ((true, i) :: rest) a w :=
  ⟨o, v, ho, .inl ⟨by simp [Region.wanted, hg], hv⟩, by rw [hd]; exact h⟩
theorem flo_eff {fin : Act → World → Prop} {i : Nat} {rest : List (Bool × Nat)} {a : Act} {w : World} {o : Oper} (ho : ops[i]? = some o) (hg : o.guard = none)
    (h : ∀ w1, Gr w w1 → S w1 → ∀ K : Act → World → Prop, (∀ a w', Gr w1 w' → S w' → wpFlo P ops Q S fin rest a w' → K a w') → o.wp P a w1 K Q) : wpFlo P ops Q S fin ((false, i) :: rest) a w := by
  intro w1 hw1 hS
  unfold wpOp
  simp only [ho]
  rw [if_pos (by simp [Region.wanted, hg])]
  exact .inl (h w1 hw1 hS _ (fun a w h1 h2 h3 => ⟨h1, h2, h3⟩))
end
end Go.Proofs.YtgopfikljndklaaDoor
