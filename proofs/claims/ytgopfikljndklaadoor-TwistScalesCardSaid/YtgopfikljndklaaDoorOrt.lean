/- A region that draws its order, reads a variable and stores into it at the end: what only reads comes first, the calls wait for one another, and what the store turns is held till the store. -/
import Derived.Test.YtgopfikljndklaaDoorFlo
namespace Go.Proofs.YtgopfikljndklaaDoor
open Go.RowKit

section
variable {P : Program} {ops : Array Oper} {Q : Exit → Act → World → Prop} {S0 : World → Prop} {HS : List (List Nat × (World → Prop))}

/-- what is held of those entries that f says yes to -/
def heldAll (f : List Nat → Bool) : List (List Nat × (World → Prop)) → World → Prop
  | [], _ => True
  | x :: r, w => (f x.1 = true → x.2 w) ∧ heldAll f r w
theorem heldAll_mono {f g : List Nat → Bool} {w : World} : ∀ (HS : List (List Nat × (World → Prop))), (∀ x ∈ HS, g x.1 = true → f x.1 = true) → heldAll f HS w → heldAll g HS w
  | [], _, _ => trivial
  | x :: r, h, hh => ⟨fun hg => hh.1 (h x (by simp) hg), heldAll_mono r (fun y hy => h y (by simp [hy])) hh.2⟩
theorem heldAll_true {f : List Nat → Bool} {w : World} : ∀ {HS : List (List Nat × (World → Prop))}, heldAll (fun _ => true) HS w → heldAll f HS w :=
  fun {HS} h => heldAll_mono HS (fun _ _ _ => rfl) h
/-- none of these has come up -/
def fresh (listed : Array Bool) (TL : List Nat) : Bool := TL.all fun t => !listed.getD t true
/-- S0 holds always, what an entry says till one of its operations has come up -/
def Till (S0 : World → Prop) (HS : List (List Nat × (World → Prop))) (listed : Array Bool) (w : World) : Prop := S0 w ∧ heldAll (fresh listed) HS w
theorem fresh_set {listed : Array Bool} {i : Nat} {TL : List Nat} (hn : i ∉ TL) : fresh (listed.setIfInBounds i true) TL = fresh listed TL := by
  unfold fresh
  induction TL with
  | nil => rfl
  | cons t r ih =>
    simp only [List.all_cons]
    rw [ih (fun h => hn (by simp [h])), getD_set_ne true (fun e : i = t => hn (by simp [e]))]
theorem Till.set {listed : Array Bool} {i : Nat} {w : World} (hn : ∀ x ∈ HS, i ∉ x.1) (h : Till S0 HS listed w) : Till S0 HS (listed.setIfInBounds i true) w :=
  ⟨h.1, heldAll_mono HS (fun x hx hg => by rw [fresh_set (hn x hx)] at hg; exact hg) h.2⟩
theorem Till.unset {listed : Array Bool} {i : Nat} {w : World} (hn : ∀ x ∈ HS, i ∉ x.1) (h : Till S0 HS (listed.setIfInBounds i true) w) : Till S0 HS listed w :=
  ⟨h.1, heldAll_mono HS (fun x hx hg => by rw [fresh_set (hn x hx)]; exact hg) h.2⟩
theorem cameT {b : Bool} {p : Prop} (hb : b = false) : b = true → p := fun h => by rw [hb] at h; cases h

/-- Whatever order is picked from here on, and Till holds behind every operation. -/
def wpTill (P : Program) (ops : Array Oper) (Q : Exit → Act → World → Prop) (S0 : World → Prop) (HS : List (List Nat × (World → Prop))) : Nat → Array Bool → Act → World → Prop
  | 0, listed, a, w => Region.ready .any ops listed = [] ∧ Q .normal a w
  | fuel + 1, listed, a, w =>
    (Region.ready .any ops listed = [] → Q .normal a w) ∧
    ∀ i ∈ Region.ready .any ops listed, wpOp P ops Q i (fun a' w' => Till S0 HS (listed.setIfInBounds i true) w' ∧ wpTill P ops Q S0 HS fuel (listed.setIfInBounds i true) a' w') a w

theorem wpAny_of_till : ∀ (fuel : Nat) (listed : Array Bool) (a : Act) (w : World), wpTill P ops Q S0 HS fuel listed a w → wpAny P .any ops Q fuel listed a w
  | 0, _, _, _, h => h
  | fuel + 1, _, _, _, h => ⟨h.1, fun i hi => wpOp_mono (fun a' w' h' => wpAny_of_till fuel _ a' w' h'.2) (h.2 i hi)⟩

/-- what has come up has waited for what it waits for -/
def Closed (ops : Array Oper) (listed : Array Bool) : Prop := ∀ j oj, ops[j]? = some oj → listed.getD j true = true → ∀ e ∈ oj.after, Region.binds .any e = true → listed.getD e.on true = true

theorem Closed.set {listed : Array Bool} {i : Nat} (h : Closed ops listed) (hi : i ∈ Region.ready .any ops listed) : Closed ops (listed.setIfInBounds i true) := by
  intro j oj hj hl e he hb
  by_cases hij : i = j
  · subst hij
    obtain ⟨h0, o, ho, hall⟩ := mem_ready.1 hi
    rw [hj] at ho
    cases ho
    have := hall e he hb
    rcases Nat.lt_or_ge e.on listed.size with h' | h'
    · by_cases hie : i = e.on
      · rw [hie]; simp
      · rw [getD_set_ne true hie]; simpa [h'] using this
    · simp [Array.getElem?_eq_none h'] at this
  · rw [getD_set_ne true hij] at hl
    have := h j oj hj hl e he hb
    by_cases hie : i = e.on
    · rw [hie]; simp
    · rw [getD_set_ne true hie]; exact this

/-- t waits for i -/
def waits (ops : Array Oper) : Nat → Nat → Nat → Bool
  | 0, _, _ => false
  | n + 1, t, i => match ops[t]? with
    | some o => o.after.toList.any fun e => Region.binds .any e && (e.on == i || waits ops n e.on i)
    | none => false
theorem waits_closed {listed : Array Bool} {i : Nat} (h : Closed ops listed) (hi : listed.getD i true = false) : ∀ (n t : Nat), waits ops n t i = true → listed.getD t true = false := by
  intro n
  induction n with
  | zero => intro t ht; cases ht
  | succ n ih =>
    intro t ht
    unfold waits at ht
    split at ht
    · rename_i o ho
      obtain ⟨e, he, hp⟩ := List.any_eq_true.1 ht
      simp only [Bool.and_eq_true, Bool.or_eq_true, beq_iff_eq] at hp
      cases hl : listed.getD t true with
      | false => rfl
      | true =>
        have h1 := h t o ho hl e (by simpa using he) hp.1
        rcases hp.2 with h2 | h2
        · rw [h2, hi] at h1; cases h1
        · rw [ih _ h2] at h1; cases h1
    · cases ht

/-- An operation that only reads may be taken first, under what those who wait for it would end. -/
theorem wpTill_first {i : Nat} {oi : Oper} {v : Value} {SI : World → Prop} (hi : ops[i]? = some oi) (hsel : ∀ (j : Nat) (o : Oper) cs b, ops[j]? = some o → o.op ≠ .select cs b)
    (hQ : ∀ c a w, Q (.panic c) (a.put oi.dst v) w → Q (.panic c) a w)
    (hSI : ∀ listed w, Closed ops listed → listed.getD i true = false → Till S0 HS listed w → SI w) :
    ∀ (fuel : Nat) (listed : Array Bool) (a : Act) (w : World), Closed ops listed →
      (∀ j oj, ops[j]? = some oj → j ≠ i → listed.getD j true = false → (∀ e ∈ oj.after, Region.binds .any e = true → e.on ≠ i) → oi.apart ops oj = true) →
      i ∈ Region.ready .any ops listed → YieldsIf P ops SI oi v a → Till S0 HS listed w → (∀ x ∈ HS, i ∉ x.1) →
      wpTill P ops Q S0 HS fuel (listed.setIfInBounds i true) (a.put oi.dst v) w → wpTill P ops Q S0 HS (fuel + 1) listed a w := by
  intro fuel
  induction fuel with
  | zero =>
    intro listed a w hcl _ hr hy hS hn H
    refine ⟨fun h => (by rw [h] at hr; cases hr), fun j hj => ?_⟩
    by_cases hji : j = i
    · subst hji; exact hy.wpOp hi (hSI listed w hcl (mem_ready.1 hr).1 hS) ⟨hS.set hn, H⟩
    · have := ready_mono hj hji
      rw [H.1] at this
      cases this
  | succ fuel ih =>
    intro listed a w hcl hfree hr hy hS hn H
    refine ⟨fun h => (by rw [h] at hr; cases hr), fun j hj => ?_⟩
    by_cases hji : j = i
    · subst hji; exact hy.wpOp hi (hSI listed w hcl (mem_ready.1 hr).1 hS) ⟨hS.set hn, H⟩
    · have h1 := H.2 j (ready_mono hj hji)
      obtain ⟨hjun, oj, hoj, hall⟩ := mem_ready.1 hj
      have hnot : ∀ e ∈ oj.after, Region.binds .any e = true → e.on ≠ i := fun e he hb heq => by
        have h1 := hall e he hb
        have h0 := (mem_ready.1 hr).1
        rw [heq] at h1
        rcases Nat.lt_or_ge i listed.size with h' | h'
        · simp [h'] at h0 h1; rw [h0] at h1; cases h1
        · simp [Array.getElem?_eq_none h'] at h1
      have h2 := wpOp_putIf hoj (hfree j oj hoj hji hjun hnot) (fun cs b => hsel i oi cs b hi) (fun cs b => hsel j oj cs b hoj) hQ hy h1
      have hfree' : ∀ k ok, ops[k]? = some ok → k ≠ i → (listed.setIfInBounds j true).getD k true = false →
          (∀ e ∈ ok.after, Region.binds .any e = true → e.on ≠ i) → oi.apart ops ok = true := fun k ok hk hki hun hno => by
        refine hfree k ok hk hki ?_ hno
        by_cases hjk : j = k
        · subst hjk; exact hjun
        · rw [getD_set_ne true hjk] at hun; exact hun
      refine wpOp_mono (fun a' w' h3 => ?_) h2
      have hT : Till S0 HS (listed.setIfInBounds j true) w' := by
        have := h3.2.1
        rw [Array.setIfInBounds_comm _ _ (Ne.symm hji)] at this
        exact this.unset hn
      refine ⟨hT, ih (listed.setIfInBounds j true) a' w' (hcl.set hj) hfree' (ready_mono hr (Ne.symm hji)) h3.1 hT hn ?_⟩
      rw [Array.setIfInBounds_comm _ _ hji]
      exact h3.2.2

/-- Is this an order that speaks for all? (false: an operation with an effect; true: one that only reads) -/
def okTill (ops : Array Oper) (TLs : List (List Nat)) : List (Bool × Nat) → Array Bool → Bool
  | [], listed => (Region.ready .any ops listed).isEmpty
  | (true, i) :: rest, listed => (Region.ready .any ops listed).contains i && Region.free .any ops listed i && TLs.all (fun x => !x.contains i) && okTill ops TLs rest (listed.setIfInBounds i true)
  | (false, i) :: rest, listed => decide (Region.ready .any ops listed = [i]) && okTill ops TLs rest (listed.setIfInBounds i true)

/-- all of these wait for i -/
def allWait (ops : Array Oper) (i : Nat) (TL : List Nat) : Bool := TL.all fun t => waits ops ops.size t i
/-- The walk in that order. -/
def wpOrt (P : Program) (ops : Array Oper) (Q : Exit → Act → World → Prop) (S0 : World → Prop) (HS : List (List Nat × (World → Prop))) : List (Bool × Nat) → Array Bool → Act → World → Prop
  | [], _, a, w => Q .normal a w
  | (true, i) :: rest, listed, a, w => ∃ o v, ops[i]? = some o ∧ YieldsIf P ops (fun w => S0 w ∧ heldAll (allWait ops i) HS w) o v a ∧ wpOrt P ops Q S0 HS rest (listed.setIfInBounds i true) (a.put o.dst v) w
  | (false, i) :: rest, listed, a, w => wpOp P ops Q i (fun a' w' => Till S0 HS (listed.setIfInBounds i true) w' ∧ wpOrt P ops Q S0 HS rest (listed.setIfInBounds i true) a' w') a w

theorem wpOrt_sound (hs : Region.noSelect ops = true) (hQ : ∀ c (a : Act) (d : Tmp) v w, Q (.panic c) (a.put (some d) v) w → Q (.panic c) a w) :
    ∀ (l : List (Bool × Nat)) (fuel : Nat) (listed : Array Bool) (a : Act) (w : World), l.length ≤ fuel → Closed ops listed → okTill ops (HS.map (·.1)) l listed = true → Till S0 HS listed w → wpOrt P ops Q S0 HS l listed a w →
      wpTill P ops Q S0 HS fuel listed a w := by
  have hQd : ∀ c (a : Act) (d : Option Tmp) v w, Q (.panic c) (a.put d v) w → Q (.panic c) a w := by
    intro c a d v w h
    cases d with
    | none => exact h
    | some d => exact hQ c a d v w h
  intro l
  induction l with
  | nil =>
    intro fuel listed a w _ _ hok _ h
    have hr : Region.ready .any ops listed = [] := by simpa [okTill] using hok
    cases fuel with
    | zero => exact ⟨hr, h⟩
    | succ n => exact ⟨fun _ => h, by rw [hr]; simp⟩
  | cons x rest ih =>
    intro fuel listed a w hl hcl hok hS h
    obtain ⟨fuel, rfl⟩ : ∃ n, fuel = n + 1 := ⟨fuel - 1, by simp at hl; omega⟩
    obtain ⟨b, i⟩ := x
    cases b with
    | true =>
      simp only [okTill, Bool.and_eq_true, List.all_eq_true] at hok
      obtain ⟨⟨⟨hr, hf⟩, hn⟩, hrest⟩ := hok
      obtain ⟨o, v, ho, hy, hr'⟩ := h
      have hrm : i ∈ Region.ready .any ops listed := by simpa using hr
      have hn' : ∀ x ∈ HS, i ∉ x.1 := fun x hx => by simpa using hn x.1 (List.mem_map.2 ⟨x, hx, rfl⟩)
      refine wpTill_first ho (Region.noSelect_spec hs) (fun c a w h => hQd c a o.dst v w h)
        (fun listed w hc h0 hT => ⟨hT.1, heldAll_mono HS (fun x _ hg => by
            unfold allWait at hg
            unfold fresh
            rw [List.all_eq_true] at hg ⊢
            intro t ht
            rw [waits_closed hc h0 _ t (hg t ht)]; rfl) hT.2⟩) fuel listed a w hcl (Region.free_spec ho hf) hrm hy hS hn' ?_
      exact ih fuel _ _ _ (by simpa using hl) (hcl.set hrm) hrest (hS.set hn') hr'
    | false =>
      simp only [okTill, Bool.and_eq_true, decide_eq_true_eq] at hok
      refine ⟨fun h0 => (by rw [hok.1] at h0; cases h0), fun j hj => ?_⟩
      have hji : j = i := by rw [hok.1] at hj; simpa using hj
      subst hji
      refine wpOp_mono (fun a' w' h' => ?_) h
      exact ⟨h'.1, ih fuel _ _ _ (by simpa using hl) (hcl.set hj) hok.2 h'.1 h'.2⟩

theorem wp_region_ort {id : Nat} {a : Act} {w : World} (S0 : World → Prop) (HS : List (List Nat × (World → Prop))) (l : List (Bool × Nat)) (hm : P.follows .mixedOrders = true) (hs : Region.noSelect ops = true)
    (hok : okTill ops (HS.map (·.1)) l (Array.replicate ops.size false) = true) (hl : l.length ≤ ops.size) (hQ : ∀ c (a : Act) (d : Tmp) v w, Q (.panic c) (a.put (some d) v) w → Q (.panic c) a w) (hS0 : S0 w.drew) (hS1 : heldAll (fun _ => true) HS w.drew)
    (h : wpOrt P ops Q S0 HS l (Array.replicate ops.size false) a w.drew) : (Code.region id ops true).wp P Q a w :=
  wp_region_any hm (wpAny_of_till _ _ _ _ (wpOrt_sound hs hQ l _ _ _ _ hl (fun j oj hj hlj e he _ => by
      have hjs := (Array.getElem?_eq_some_iff.1 hj).1
      have : (Array.replicate ops.size false).getD j true = false := by simp [hjs]
      rw [this] at hlj; cases hlj) hok ⟨hS0, heldAll_true hS1⟩ h))

theorem ort_nil {a : Act} {w : World} {listed : Array Bool} (h : Q .normal a w) : wpOrt P ops Q S0 HS [] listed a w := h
theorem ort_pure {i : Nat} {rest : List (Bool × Nat)} {listed : Array Bool} {a : Act} {w : World} {o : Oper} (d : Option Tmp) (v : Value) (ho : ops[i]? = some o) (hd : o.dst = d) (hg : Region.wanted o (yielded ops a.tmps) = true)
    (hv : ∀ w, S0 w ∧ heldAll (allWait ops i) HS w → (execOp a.eval o).run P w = .ok (.value v) w) (h : wpOrt P ops Q S0 HS rest (listed.setIfInBounds i true) (a.put d v) w) : wpOrt P ops Q S0 HS ((true, i) :: rest) listed a w :=
  ⟨o, v, ho, .inl ⟨hg, hv⟩, by rw [hd]; exact h⟩
theorem ort_skip {i : Nat} {rest : List (Bool × Nat)} {listed : Array Bool} {a : Act} {w : World} {o : Oper} (d : Option Tmp) (ho : ops[i]? = some o) (hd : o.dst = d) (hg : Region.wanted o (yielded ops a.tmps) = false)
    (h : wpOrt P ops Q S0 HS rest (listed.setIfInBounds i true) (a.put d undef) w) : wpOrt P ops Q S0 HS ((true, i) :: rest) listed a w :=
  ⟨o, undef, ho, .inr ⟨hg, rfl⟩, by rw [hd]; exact h⟩
theorem ort_eff {i : Nat} {rest : List (Bool × Nat)} {listed : Array Bool} {a : Act} {w : World} {o : Oper} (ho : ops[i]? = some o) (hg : Region.wanted o (yielded ops a.tmps) = true)
    (h : ∀ K : Act → World → Prop, (∀ a w, S0 w → heldAll (fresh (listed.setIfInBounds i true)) HS w → wpOrt P ops Q S0 HS rest (listed.setIfInBounds i true) a w → K a w) → o.wp P a w K Q) : wpOrt P ops Q S0 HS ((false, i) :: rest) listed a w := by
  unfold wpOrt wpOp
  simp only [ho]
  rw [if_pos hg]
  exact .inl (h _ (fun a w h0 h1 h2 => ⟨⟨h0, h1⟩, h2⟩))
theorem ort_effskip {i : Nat} {rest : List (Bool × Nat)} {listed : Array Bool} {a : Act} {w : World} {o : Oper} (d : Option Tmp) (ho : ops[i]? = some o) (hd : o.dst = d) (hg : Region.wanted o (yielded ops a.tmps) = false)
    (hS0 : S0 w) (hS1 : heldAll (fresh (listed.setIfInBounds i true)) HS w) (h : wpOrt P ops Q S0 HS rest (listed.setIfInBounds i true) (a.put d undef) w) : wpOrt P ops Q S0 HS ((false, i) :: rest) listed a w := by
  subst hd
  unfold wpOrt wpOp
  simp only [ho]
  rw [if_neg (by rw [hg]; decide)]
  exact ⟨⟨hS0, hS1⟩, h⟩

/-! ### floating variables: what the tail is given -/
theorem floFin1 {B : Nat} {tl : List (Bool × Nat)} {a : Act} {w : World} {o1 s1 t1 : Nat} {z1 : Array Value}
    (h : ∀ b1, w.heap[b1]? = some (.cells z1 t1) → B ≤ b1 → wpOrd P ops Q S0 tl (a.put (some s1) (.pointer (some ⟨b1, 0, none⟩))) w) : FloFin P ops Q S0 B [⟨o1, s1, t1, z1⟩] tl a w :=
  fun ps hf _ => h (ps o1) (hf ⟨o1, s1, t1, z1⟩ (by simp)).1 (hf ⟨o1, s1, t1, z1⟩ (by simp)).2
theorem floFin2 {B : Nat} {tl : List (Bool × Nat)} {a : Act} {w : World} {o1 s1 t1 o2 s2 t2 : Nat} {z1 z2 : Array Value}
    (h : ∀ b1 b2, w.heap[b1]? = some (.cells z1 t1) → B ≤ b1 → w.heap[b2]? = some (.cells z2 t2) → B ≤ b2 → b1 ≠ b2 →
      wpOrd P ops Q S0 tl ((a.put (some s1) (.pointer (some ⟨b1, 0, none⟩))).put (some s2) (.pointer (some ⟨b2, 0, none⟩))) w) : FloFin P ops Q S0 B [⟨o1, s1, t1, z1⟩, ⟨o2, s2, t2, z2⟩] tl a w :=
  fun ps hf hn => h (ps o1) (ps o2) (hf ⟨o1, s1, t1, z1⟩ (by simp)).1 (hf ⟨o1, s1, t1, z1⟩ (by simp)).2 (hf ⟨o2, s2, t2, z2⟩ (by simp)).1 (hf ⟨o2, s2, t2, z2⟩ (by simp)).2 (by simp at hn; omega)
theorem floFin3 {B : Nat} {tl : List (Bool × Nat)} {a : Act} {w : World} {o1 s1 t1 o2 s2 t2 o3 s3 t3 : Nat} {z1 z2 z3 : Array Value}
    (h : ∀ b1 b2 b3, w.heap[b1]? = some (.cells z1 t1) → B ≤ b1 → w.heap[b2]? = some (.cells z2 t2) → B ≤ b2 → w.heap[b3]? = some (.cells z3 t3) → B ≤ b3 → b1 ≠ b2 → b1 ≠ b3 → b2 ≠ b3 →
      wpOrd P ops Q S0 tl (((a.put (some s1) (.pointer (some ⟨b1, 0, none⟩))).put (some s2) (.pointer (some ⟨b2, 0, none⟩))).put (some s3) (.pointer (some ⟨b3, 0, none⟩))) w) :
    FloFin P ops Q S0 B [⟨o1, s1, t1, z1⟩, ⟨o2, s2, t2, z2⟩, ⟨o3, s3, t3, z3⟩] tl a w :=
  fun ps hf hn => h (ps o1) (ps o2) (ps o3) (hf ⟨o1, s1, t1, z1⟩ (by simp)).1 (hf ⟨o1, s1, t1, z1⟩ (by simp)).2 (hf ⟨o2, s2, t2, z2⟩ (by simp)).1 (hf ⟨o2, s2, t2, z2⟩ (by simp)).2 (hf ⟨o3, s3, t3, z3⟩ (by simp)).1 (hf ⟨o3, s3, t3, z3⟩ (by simp)).2
    (by simp at hn; omega) (by simp at hn; omega) (by simp at hn; omega)
theorem floFin4 {B : Nat} {tl : List (Bool × Nat)} {a : Act} {w : World} {o1 s1 t1 o2 s2 t2 o3 s3 t3 o4 s4 t4 : Nat} {z1 z2 z3 z4 : Array Value}
    (h : ∀ b1 b2 b3 b4, w.heap[b1]? = some (.cells z1 t1) → B ≤ b1 → w.heap[b2]? = some (.cells z2 t2) → B ≤ b2 → w.heap[b3]? = some (.cells z3 t3) → B ≤ b3 → w.heap[b4]? = some (.cells z4 t4) → B ≤ b4 →
      b1 ≠ b2 → b1 ≠ b3 → b2 ≠ b3 → b1 ≠ b4 → b2 ≠ b4 → b3 ≠ b4 →
      wpOrd P ops Q S0 tl ((((a.put (some s1) (.pointer (some ⟨b1, 0, none⟩))).put (some s2) (.pointer (some ⟨b2, 0, none⟩))).put (some s3) (.pointer (some ⟨b3, 0, none⟩))).put (some s4) (.pointer (some ⟨b4, 0, none⟩))) w) :
    FloFin P ops Q S0 B [⟨o1, s1, t1, z1⟩, ⟨o2, s2, t2, z2⟩, ⟨o3, s3, t3, z3⟩, ⟨o4, s4, t4, z4⟩] tl a w :=
  fun ps hf hn => h (ps o1) (ps o2) (ps o3) (ps o4) (hf ⟨o1, s1, t1, z1⟩ (by simp)).1 (hf ⟨o1, s1, t1, z1⟩ (by simp)).2 (hf ⟨o2, s2, t2, z2⟩ (by simp)).1 (hf ⟨o2, s2, t2, z2⟩ (by simp)).2 (hf ⟨o3, s3, t3, z3⟩ (by simp)).1 (hf ⟨o3, s3, t3, z3⟩ (by simp)).2
    (hf ⟨o4, s4, t4, z4⟩ (by simp)).1 (hf ⟨o4, s4, t4, z4⟩ (by simp)).2
    (by simp at hn; omega) (by simp at hn; omega) (by simp at hn; omega) (by simp at hn; omega) (by simp at hn; omega) (by simp at hn; omega)
/-- a new variable's zero -/
theorem alloc_zero {t : TypeId} {z : Value} {cs : Array Value} (hz : (P.info? t).map (·.zero) = some (some z)) (hv : z.cells = cs) (w : World) :
    (Instr.alloc t true (.tuple #[])).run P w = .ok (.pointer (some ⟨w.heap.size, 0, none⟩)) (w.alloc (.cells cs t)) := by
  subst hv
  obtain ⟨i, hi, hzz⟩ := Option.map_eq_some_iff.1 hz
  simp [Instr.alloc, zeroValue, typeInfo, newVar, newRow, Sem.run_bind, Result.andThen_ok, Sem.run_pure, run_program, hi, hzz]
theorem flo_pureg {fin : Act → World → Prop} {i : Nat} {rest : List (Bool × Nat)} {a : Act} {w : World} {o : Oper} (d : Option Tmp) (v : Value) (ho : ops[i]? = some o) (hd : o.dst = d) (hg : Region.wanted o (yielded ops a.tmps) = true)
    (hv : ∀ w, S0 w → (execOp a.eval o).run P w = .ok (.value v) w) (h : wpFlo P ops Q S0 fin rest (a.put d v) w) : wpFlo P ops Q S0 fin ((true, i) :: rest) a w :=
  ⟨o, v, ho, .inl ⟨hg, hv⟩, by rw [hd]; exact h⟩
end
end Go.Proofs.YtgopfikljndklaaDoor
