/- Joined of: Arr, Vin, Scal, Prq, Stq, Gen71, RowVectorPrimitive. -/
import Derived.Test.YtlcmllfacolkaaaGreatDoorPartA
import Derived.ChangeKeysEq
import Derived.Laws.StructEq
import Derived.Test.YtlcmllfacolkaaaGreatDoorPartF
import Derived.Test.YtlcmllfacolkaaaGreatDoorPartD
import Init.Data.Rat.Lemmas
import Derived.Test.YtlcmllfacolkaaaGreatDoorPartE
import Derived.Test.YtlcmllfacolkaaaGreatDoorPartC
import Derived.Test.YtlcmllfacolkaaaGreatDoorPartB
import Derived.Test.YtlcmllfacolkaaaGreatDoorCards
import Derived.Test.YtlcmllfacolkaaaGreatDoorTie
/- Arrays of integers compared. -/
namespace Go.Proofs.YtlcmllfacolkaaaGreatDoor
open Go.RowKit

def allEq : List Int → List Int → Bool
  | x :: xs, y :: ys => x == y && allEq xs ys
  | _, _ => true
/-- the same, from the left on -/
def eqL : Bool → List Int → List Int → Bool
  | b, x :: xs, y :: ys => eqL (b && x == y) xs ys
  | b, _, _ => b
theorem eqL_all : ∀ (X Y : List Int) (b : Bool), eqL b X Y = (b && allEq X Y)
  | [], _, b => by simp [eqL, allEq]
  | _ :: _, [], b => by simp [eqL, allEq]
  | x :: xs, y :: ys, b => by rw [eqL, eqL_all xs ys, allEq, Bool.and_assoc]
def conjL : List Int → List Int → Bool
  | x :: xs, y :: ys => eqL (x == y) xs ys
  | _, _ => true
theorem conjL_all (X Y : List Int) : conjL X Y = allEq X Y := by
  cases X with
  | nil => cases Y <;> rfl
  | cons x xs => cases Y with
    | nil => rfl
    | cons y ys => rw [conjL, eqL_all, allEq]

theorem items_int {P : Program} {w : World} {d e : Nat} {k : IntKind} (he : P.underlying e = some (.int k)) (hp : P.plainKey e = true) (A B : Array Value) :
    ∀ (X Y : List Int) (i0 : Nat), X.length = Y.length → (∀ j x, X[j]? = some x → A[i0 + j]? = some (.int k x)) → (∀ j y, Y[j]? = some y → B[i0 + j]? = some (.int k y)) →
      (Op.eqItems (d + 1) e 1 A B (List.range' i0 X.length)).run P w = .ok (allEq X Y) w
  | [], _, _, _, _, _ => by simp [Op.eqItems, allEq]
  | x :: xs, [], _, h, _, _ => by simp at h
  | x :: xs, y :: ys, i0, h, hA, hB => by
    have h1 : A[i0]? = some (.int k x) := hA 0 x rfl
    have h2 : B[i0]? = some (.int k y) := hB 0 y rfl
    have ih := items_int (w := w) (d := d) he hp A B xs ys (i0 + 1) (by simpa using h) (fun j z hj => by have := hA (j + 1) z hj; rwa [show i0 + (j + 1) = i0 + 1 + j by omega] at this)
      (fun j z hj => by have := hB (j + 1) z hj; rwa [show i0 + (j + 1) = i0 + 1 + j by omega] at this)
    rw [List.length_cons, List.range'_succ]
    simp only [Op.eqItems, Sem.run_bind, Nat.mul_one, run_part_plain w hp h1, run_part_plain w hp h2, Result.andThen_ok, run_equalIn_int w d e k k x y he, allEq]
    cases hxy : (x == y) with
    | true => simpa using ih
    | false => simp

section
variable {P : Program} {a : Act} {o : Oper} {w : World}
theorem arr_equal {t e : Nat} {k : IntKind} (X Y : List Int) (hu : P.underlying t = some (.array X.length e)) (hn : X.length = Y.length)
    (he : (P.underlying e, (P.info? e).isSome, P.cellsOf e, P.plainKey e) = (some (.int k), true, 1, true)) :
    (Op.equal t (.agg (X.map (Value.int k)).toArray) (.agg (Y.map (Value.int k)).toArray)).run P w = .ok (allEq X Y) w := by
  simp only [Prod.mk.injEq] at he
  obtain ⟨h1, h2, h3, h4⟩ := he
  obtain ⟨i, hi⟩ := Option.isSome_iff_exists.1 h2
  show (Op.equalIn (9999 + 1) t _ _).run P w = _
  rw [run_equalIn_array w 9999 _ _ hu hi, h3, List.range_eq_range']
  exact items_int (d := 9998) h1 h4 _ _ X Y 0 hn (fun j x hj => by simp [hj]) (fun j y hj => by simp [hj])
theorem rv_arreq (t t2 e : Nat) {k : IntKind} (x y : Operand) (X Y : List Int) (hop : o.op = .binOp .eql t x y t2) (hx : a.eval x = .agg (X.map (Value.int k)).toArray) (hy : a.eval y = .agg (Y.map (Value.int k)).toArray)
    (hu : (P.underlying t, decide (X.length = Y.length)) = (some (.array X.length e), true)) (he : (P.underlying e, (P.info? e).isSome, P.cellsOf e, P.plainKey e) = (some (.int k), true, 1, true)) (hg : P.eqGuardType P.depth t = false) :
    RunV P a o w (.bool (conjL X Y)) := by
  simp only [Prod.mk.injEq, decide_eq_true_eq] at hu
  have h := arr_equal (w := w) X Y hu.1 hu.2 he
  rw [conjL_all]
  unfold RunV execOp
  simp only [hop, hx, hy]
  simp [go_sem, binOp, eqGuard, hg, h]
theorem rv_arrne (t t2 e : Nat) {k : IntKind} (x y : Operand) (X Y : List Int) (hop : o.op = .binOp .neq t x y t2) (hx : a.eval x = .agg (X.map (Value.int k)).toArray) (hy : a.eval y = .agg (Y.map (Value.int k)).toArray)
    (hu : (P.underlying t, decide (X.length = Y.length)) = (some (.array X.length e), true)) (he : (P.underlying e, (P.info? e).isSome, P.cellsOf e, P.plainKey e) = (some (.int k), true, 1, true)) (hg : P.eqGuardType P.depth t = false) :
    RunV P a o w (.bool (!conjL X Y)) := by
  simp only [Prod.mk.injEq, decide_eq_true_eq] at hu
  have h := arr_equal (w := w) X Y hu.1 hu.2 he
  rw [conjL_all]
  unfold RunV execOp
  simp only [hop, hx, hy]
  simp [go_sem, binOp, eqGuard, hg, h]
end
end Go.Proofs.YtlcmllfacolkaaaGreatDoor
/- Whole vectors: rests, and small numbers that are ints. -/
namespace Go.Proofs.YtlcmllfacolkaaaGreatDoor
open Go.RowKit

theorem rv_remt {P : Program} {a : Act} {o : Oper} {w : World} (t t2 : TypeId) (x y : Operand) (A B : Int) (hop : o.op = .binOp .rem t x y t2) (hx : a.eval x = .int .i64 A) (hy : a.eval y = .int .i64 B) (hB : 0 < B) : RunV P a o w (.int .i64 (Int.tmod A B)) := by
  unfold RunV execOp
  simp only [hop, hx, hy]
  have h0 : ¬ B = 0 := by omega
  simp [go_sem, eqGuard, binOp, Op.intDiv, h0]
theorem fits_int {n : Int} (h0 : -9223372036854775808 ≤ n) (h1 : n ≤ 9223372036854775807) : fitsQ ((n : Int) : Rat) = true ∧ valQ ((n : Int) : Rat) = n := by
  have e : fitsQ ((n : Int) : Rat) = true := by
    unfold fitsQ fitsI
    rw [Rat.num_intCast, decide_eq_true (show ((n : Int) : Rat).den = 1 from rfl), decide_eq_true h0, decide_eq_true h1]; rfl
  exact ⟨e, by unfold valQ; rw [e, if_pos rfl, Rat.num_intCast]⟩
theorem fits_eq {a : Rat} (h : fitsQ a = true) : a = ((valQ a : Int) : Rat) ∧ -9223372036854775808 ≤ valQ a ∧ valQ a ≤ 9223372036854775807 := by
  have h2 := h
  simp only [fitsQ, fitsI, Bool.and_eq_true, decide_eq_true_eq] at h2
  unfold valQ
  rw [h, if_pos rfl]
  refine ⟨?_, h2.2⟩
  exact Rat.ext (by rw [Rat.num_intCast]) (by rw [h2.1]; rfl)
/-- a small number is an int where the division leaves no rest -/
theorem fits_small {n D : Int} {a : Rat} (hn : -128 ≤ n ∧ n ≤ 127) (_hD : 0 ≤ D ∧ D ≤ 255) (h : a = (n : Rat) / ((1 + D % 6 : Int) : Rat)) : fitsQ a = (Int.tmod n (1 + D % 6) == (0 : Int)) := by
  obtain ⟨q, hq, hq0, hq1⟩ : ∃ q : Int, q = 1 + D % 6 ∧ 0 < q ∧ q ≤ 6 := ⟨_, rfl, by omega, by omega⟩
  rw [← hq] at h ⊢
  have hqr : ((q : Int) : Rat) ≠ 0 := by
    intro e
    have : q = 0 := by exact_mod_cast e
    omega
  have hm : a * ((q : Int) : Rat) = ((n : Int) : Rat) := by rw [h]; exact Rat.div_mul_cancel hqr
  rw [Bool.eq_iff_iff, beq_iff_eq]
  constructor
  · intro hf
    obtain ⟨e, _, _⟩ := fits_eq hf
    rw [e, ← Rat.intCast_mul] at hm
    have : valQ a * q = n := by exact_mod_cast hm
    rw [← this]
    exact Int.mul_tmod_left _ _
  · intro ht
    obtain ⟨m, hm2⟩ := Int.dvd_of_tmod_eq_zero ht
    have hb1 : -128 ≤ m ∧ m ≤ 127 := by
      subst hm2
      rcases Int.lt_trichotomy m 0 with h0 | h0 | h0
      · have := Int.mul_le_mul_of_nonpos_right (show (1 : Int) ≤ q by omega) (show m ≤ 0 by omega)
        omega
      · omega
      · have := Int.mul_le_mul_of_nonneg_right (show (1 : Int) ≤ q by omega) (show 0 ≤ m by omega)
        omega
    have ea : a = ((m : Int) : Rat) := by
      rw [hm2, Rat.intCast_mul, Rat.mul_comm] at hm
      rw [h, hm2, Rat.intCast_mul, Rat.mul_comm]
      exact Rat.mul_div_cancel hqr
    rw [ea]
    exact (fits_int (by omega) (by omega)).1
theorem sEq_fits {a1 a2 a3 : Rat} (h1 : fitsQ a1 = true) (h2 : fitsQ a2 = true) (h3 : fitsQ a3 = true) : sEq [ratL a1, ratL a2, ratL a3] [ratL ((valQ a1 : Int) : Rat), ratL ((valQ a2 : Int) : Rat), ratL ((valQ a3 : Int) : Rat)] = true :=
  sEq_q (fits_eq h1).1 (fits_eq h2).1 (fits_eq h3).1
end Go.Proofs.YtlcmllfacolkaaaGreatDoor
/- The primitive multiple of six small numbers: plain facts. -/
namespace Go.Proofs.YtlcmllfacolkaaaGreatDoor
/-- the greatest common divisor of a list, as the code takes it -/
def gcdL : Int → List Int → Int
  | d, [] => d
  | d, z :: zs => gcdL (Int.gcd d z : Int) zs
theorem gcdL_dvd : ∀ (zs : List Int) (d : Int), gcdL d zs ∣ d ∧ ∀ z ∈ zs, gcdL d zs ∣ z
  | [], d => ⟨Int.dvd_refl d, fun z h => by cases h⟩
  | z :: zs, d => by
    obtain ⟨h1, h2⟩ := gcdL_dvd zs (Int.gcd d z : Int)
    refine ⟨Int.dvd_trans h1 (Int.gcd_dvd_left ..), fun y hy => ?_⟩
    rcases List.mem_cons.1 hy with rfl | hy
    · exact Int.dvd_trans h1 (Int.gcd_dvd_right ..)
    · exact h2 y hy
theorem dvd_gcdL : ∀ (zs : List Int) (d m : Int), m ∣ d → (∀ z ∈ zs, m ∣ z) → m ∣ gcdL d zs
  | [], d, m, h, _ => h
  | z :: zs, d, m, h, hz => dvd_gcdL zs _ m (Int.dvd_coe_gcd h (hz z (by simp))) (fun y hy => hz y (by simp [hy]))
theorem gcdL_nonneg : ∀ (zs : List Int) (d : Int), 0 ≤ d → 0 ≤ gcdL d zs
  | [], _, h => h
  | _ :: zs, _, _ => gcdL_nonneg zs _ (Int.natCast_nonneg _)
/-- a list of integers without a common divisor -/
def Prim1 (zs : List Int) : Prop := gcdL 0 zs = 1
theorem prim1_unit {zs : List Int} (h : Prim1 zs) {m : Int} (hm : ∀ z ∈ zs, m ∣ z) : m ∣ 1 := by
  have := dvd_gcdL zs 0 m (Int.dvd_zero m) hm
  rw [h] at this; exact this
/-- divided by its greatest common divisor, a list is primitive -/
theorem prim1_div {zs : List Int} (h : 0 < gcdL 0 zs) : Prim1 (zs.map (· / gcdL 0 zs)) := by
  have hd := gcdL_dvd zs 0
  generalize hg : gcdL 0 zs = g at *
  have h1 := gcdL_dvd (zs.map (· / g)) 0
  have h0 : 0 ≤ gcdL 0 (zs.map (· / g)) := gcdL_nonneg _ 0 (Int.le_refl 0)
  unfold Prim1
  generalize he : gcdL 0 (zs.map (· / g)) = e at *
  have hge : g * e ∣ g := by
    have := dvd_gcdL zs 0 (g * e) (Int.dvd_zero _) (fun z hz => by
      obtain ⟨c, hc⟩ := h1.2 (z / g) (List.mem_map.2 ⟨z, hz, rfl⟩)
      obtain ⟨b, hb⟩ := hd.2 z hz
      have : z / g = b := by rw [hb]; exact Int.mul_ediv_cancel_left b (by omega)
      rw [this] at hc
      exact ⟨c, by rw [hb, hc, Int.mul_assoc]⟩)
    rw [hg] at this; exact this
  obtain ⟨c, hc⟩ := hge
  have h2 : e * c = 1 := by
    have : g * (e * c) = g * 1 := by rw [← Int.mul_assoc, ← hc, Int.mul_one]
    exact Int.eq_of_mul_eq_mul_left (by omega) this
  have h3 : e ∣ 1 := ⟨c, h2.symm⟩
  have h4 := Int.le_of_dvd (by omega) h3
  have h5 : e ≠ 0 := fun e0 => by rw [e0, Int.zero_mul] at h2; omega
  omega
theorem dvd_of_coprime {k m n : Int} (h : k ∣ m * n) (hc : Int.gcd k m = 1) : k ∣ n := by
  rw [← Int.natAbs_dvd_natAbs] at h ⊢
  rw [Int.natAbs_mul] at h
  exact Nat.Coprime.dvd_of_dvd_mul_left (show Nat.gcd k.natAbs m.natAbs = 1 from hc) h
/-- two primitive lists, one a positive multiple of the other: they are the same -/
theorem prim1_same {n : Nat} {Y Z : Nat → Int} (hY : Prim1 ((List.range n).map Y)) (hZ : Prim1 ((List.range n).map Z)) {p q : Int} (hp : 0 < p) (hq : 0 < q) (h : ∀ i, i < n → q * Z i = p * Y i) : ∀ i, i < n → Z i = Y i := by
  -- p and q without a common divisor
  have key : ∀ {p q : Int}, 0 < p → 0 < q → Int.gcd p q = 1 → (∀ i, i < n → q * Z i = p * Y i) → p = 1 ∧ q = 1 := by
    intro p q hp hq hc h
    have hq1 : q ∣ 1 := prim1_unit hY (fun z hz => by
      obtain ⟨i, hi, rfl⟩ := List.mem_map.1 hz
      exact dvd_of_coprime (m := p) ⟨Z i, (h i (List.mem_range.1 hi)).symm⟩ (by rw [Int.gcd_comm]; exact hc))
    have hp1 : p ∣ 1 := prim1_unit hZ (fun z hz => by
      obtain ⟨i, hi, rfl⟩ := List.mem_map.1 hz
      exact dvd_of_coprime (m := q) ⟨Y i, h i (List.mem_range.1 hi)⟩ hc)
    have := Int.le_of_dvd (by omega) hp1
    have := Int.le_of_dvd (by omega) hq1
    omega
  have hg : 0 < (Int.gcd p q : Int) := by
    have : Int.gcd p q ≠ 0 := by rw [Ne, Int.gcd_eq_zero_iff]; omega
    omega
  obtain ⟨p', hp'⟩ := Int.gcd_dvd_left (a := p) (b := q)
  obtain ⟨q', hq'⟩ := Int.gcd_dvd_right (a := p) (b := q)
  generalize hgg : (Int.gcd p q : Int) = g at *
  have hp0 : 0 < p' := by
    rcases Int.lt_or_le 0 p' with h1 | h1
    · exact h1
    · have := Int.mul_nonpos_of_nonneg_of_nonpos (Int.le_of_lt hg) h1; omega
  have hq0 : 0 < q' := by
    rcases Int.lt_or_le 0 q' with h1 | h1
    · exact h1
    · have := Int.mul_nonpos_of_nonneg_of_nonpos (Int.le_of_lt hg) h1; omega
  have hc : Int.gcd p' q' = 1 := by
    have h1 : (Int.gcd (g * p') (g * q') : Int) = g * (Int.gcd p' q' : Int) := by
      rw [Int.gcd_mul_left]
      have : (g.natAbs : Int) = g := by omega
      rw [Int.natCast_mul, this]
    rw [← hp', ← hq', hgg] at h1
    have : g * (Int.gcd p' q' : Int) = g * 1 := by omega
    have := Int.eq_of_mul_eq_mul_left (by omega) this
    omega
  have hh : ∀ i, i < n → q' * Z i = p' * Y i := fun i hi => by
    have := h i hi
    rw [hp', hq', Int.mul_assoc, Int.mul_assoc] at this
    exact Int.eq_of_mul_eq_mul_left (by omega) this
  obtain ⟨e1, e2⟩ := key hp0 hq0 hc hh
  intro i hi
  have := hh i hi
  rw [e1, e2, Int.one_mul, Int.one_mul] at this
  exact this

def lcmT (M d : Int) : Int := M * (d / (Int.gcd M d : Int))
theorem lcmT_facts {M : Int} (q : Rat) (h : 0 < M) : 0 < lcmT M (q.den : Int) ∧ M ∣ lcmT M (q.den : Int) ∧ (q.den : Int) ∣ lcmT M (q.den : Int) := by
  have hd := q.den_pos
  have hg : 0 < (Int.gcd M (q.den : Int) : Int) := by
    have : Int.gcd M (q.den : Int) ≠ 0 := by rw [Ne, Int.gcd_eq_zero_iff]; omega
    omega
  obtain ⟨m', hm⟩ := Int.gcd_dvd_left (a := M) (b := (q.den : Int))
  obtain ⟨d', hd'⟩ := Int.gcd_dvd_right (a := M) (b := (q.den : Int))
  unfold lcmT
  generalize (Int.gcd M (q.den : Int) : Int) = g at *
  have e : (q.den : Int) / g = d' := by rw [hd']; exact Int.mul_ediv_cancel_left d' (by omega)
  have hp : 0 < d' := by
    rcases Int.lt_or_le 0 d' with h1 | h1
    · exact h1
    · have := Int.mul_nonpos_of_nonneg_of_nonpos (Int.le_of_lt hg) h1; omega
  rw [e]
  refine ⟨Int.mul_pos h hp, ⟨d', rfl⟩, ⟨m', ?_⟩⟩
  rw [hd', hm, Int.mul_assoc, Int.mul_assoc, Int.mul_comm m' d']
def tden (a1 a2 a3 a4 a5 a6 : Rat) : Int :=
  lcmT (lcmT (lcmT (lcmT (lcmT (lcmT 1 (a1.den : Int)) (a2.den : Int)) (a3.den : Int)) (a4.den : Int)) (a5.den : Int)) (a6.den : Int)
theorem tden_facts (a1 a2 a3 a4 a5 a6 : Rat) : 0 < tden a1 a2 a3 a4 a5 a6 ∧ (a1.den : Int) ∣ tden a1 a2 a3 a4 a5 a6 ∧ (a2.den : Int) ∣ tden a1 a2 a3 a4 a5 a6 ∧ (a3.den : Int) ∣ tden a1 a2 a3 a4 a5 a6 ∧
    (a4.den : Int) ∣ tden a1 a2 a3 a4 a5 a6 ∧ (a5.den : Int) ∣ tden a1 a2 a3 a4 a5 a6 ∧ (a6.den : Int) ∣ tden a1 a2 a3 a4 a5 a6 := by
  unfold tden
  obtain ⟨p1, l1, r1⟩ := lcmT_facts a1 (show (0 : Int) < 1 by omega)
  obtain ⟨p2, l2, r2⟩ := lcmT_facts a2 p1
  obtain ⟨p3, l3, r3⟩ := lcmT_facts a3 p2
  obtain ⟨p4, l4, r4⟩ := lcmT_facts a4 p3
  obtain ⟨p5, l5, r5⟩ := lcmT_facts a5 p4
  obtain ⟨p6, l6, r6⟩ := lcmT_facts a6 p5
  have t5 := l6
  have t4 := Int.dvd_trans l5 t5
  have t3 := Int.dvd_trans l4 t4
  have t2 := Int.dvd_trans l3 t3
  have t1 := Int.dvd_trans l2 t2
  exact ⟨p6, Int.dvd_trans r1 t1, Int.dvd_trans r2 t2, Int.dvd_trans r3 t3, Int.dvd_trans r4 t4, Int.dvd_trans r5 t5, r6⟩
def tz (M : Int) (a : Rat) : Int := a.num * (M / (a.den : Int))
theorem tz_eq {M : Int} {a : Rat} (h : (a.den : Int) ∣ M) : (M : Rat) * a = (tz M a : Rat) := by
  have hd := a.den_pos
  obtain ⟨c, hc⟩ := h
  have e : M / (a.den : Int) = c := by rw [hc]; exact Int.mul_ediv_cancel_left c (by omega)
  have e2 : ((a.den : Int) : Rat) * a = (a.num : Rat) := by
    have h1 := Rat.num_divInt_den a
    have h2 : (a.num : Rat) / ((a.den : Int) : Rat) = a := by rw [← Rat.divInt_eq_div]; exact h1
    have h3 : ((a.den : Int) : Rat) ≠ 0 := by
      intro h4
      have := congrArg Rat.num h4
      simp at this
      omega
    grind
  unfold tz
  rw [e, hc, Rat.intCast_mul, Rat.intCast_mul]
  grind
def tgcd (a1 a2 a3 a4 a5 a6 : Rat) : Int :=
  gcdL 0 [tz (tden a1 a2 a3 a4 a5 a6) a1, tz (tden a1 a2 a3 a4 a5 a6) a2, tz (tden a1 a2 a3 a4 a5 a6) a3, tz (tden a1 a2 a3 a4 a5 a6) a4, tz (tden a1 a2 a3 a4 a5 a6) a5, tz (tden a1 a2 a3 a4 a5 a6) a6]
theorem intCast_ne {d : Int} (h : d ≠ 0) : (d : Rat) ≠ 0 := by
  intro h4
  have := congrArg Rat.num h4
  simp at this
  exact h this
theorem intCast_inj' {a b : Int} (h : (a : Rat) = (b : Rat)) : a = b := by
  have := congrArg Rat.num h
  simpa using this
/-- the primitive multiple of ns / D, out of any common multiple M of the denominators -/
theorem scal_list {ns : List Int} {qs : List Rat} {D M : Int} (hD : 0 < D) (hM : 0 < M) (hlen : qs.length = ns.length) (hs : ∀ (i : Nat) (h : i < ns.length), qs[i] = (ns[i] : Rat) / (D : Rat))
    (hden : ∀ a ∈ qs, (a.den : Int) ∣ M) (hg : 0 < gcdL 0 ns) : 0 < gcdL 0 (qs.map (tz M)) ∧
      ∀ (i : Nat) (h : i < ns.length), Rat.divInt M (gcdL 0 (qs.map (tz M))) * qs[i] = ((ns[i] / gcdL 0 ns : Int) : Rat) := by
  have hz : ∀ (i : Nat) (h : i < ns.length), D * tz M (qs[i]'(by omega)) = M * ns[i] := fun i h => by
    apply intCast_inj'
    rw [Rat.intCast_mul, Rat.intCast_mul, ← tz_eq (hden _ (List.getElem_mem (by omega))), hs i h]
    have := intCast_ne (show D ≠ 0 by omega)
    grind
  have hG0 := gcdL_nonneg (qs.map (tz M)) 0 (Int.le_refl 0)
  have hGd := gcdL_dvd (qs.map (tz M)) 0
  have hgd := gcdL_dvd ns 0
  have hG : 0 < gcdL 0 (qs.map (tz M)) := by
    rcases Int.lt_or_eq_of_le hG0 with h | h
    · exact h
    · exfalso
      have h0 : (0 : Int) ∣ gcdL 0 ns := dvd_gcdL ns 0 0 (Int.dvd_refl 0) (fun z hz' => by
        obtain ⟨i, hi, rfl⟩ := List.mem_iff_getElem.1 hz'
        have h1 := hGd.2 (tz M (qs[i]'(by omega))) (List.mem_map.2 ⟨_, List.getElem_mem (by omega), rfl⟩)
        rw [← h] at h1
        have h2 : tz M (qs[i]'(by omega)) = 0 := Int.zero_dvd.1 h1
        have h3 := hz i hi
        rw [h2, Int.mul_zero] at h3
        rcases Int.mul_eq_zero.1 h3.symm with h4 | h4
        · omega
        · rw [h4]; exact Int.dvd_refl 0)
      have := Int.zero_dvd.1 h0
      omega
  refine ⟨hG, ?_⟩
  have hY := prim1_div hg
  have hZ := prim1_div hG
  generalize hgg : gcdL 0 ns = g at *
  generalize hGG : gcdL 0 (qs.map (tz M)) = G at *
  have eY : (List.range ns.length).map (fun i => (ns.map (· / g)).getD i 0) = ns.map (· / g) := by
    apply List.ext_getElem
    · simp
    · intro i h1 h2; simp at h2; simp [h2]
  have eZ : (List.range ns.length).map (fun i => ((qs.map (tz M)).map (· / G)).getD i 0) = (qs.map (tz M)).map (· / G) := by
    apply List.ext_getElem
    · simp [hlen]
    · intro i h1 h2; simp at h2; simp [h2]
  have key := prim1_same (n := ns.length) (Y := fun i => (ns.map (· / g)).getD i 0) (Z := fun i => ((qs.map (tz M)).map (· / G)).getD i 0) (by rw [eY]; exact hY) (by rw [eZ]; exact hZ)
    (p := M * g) (q := D * G) (Int.mul_pos hM hg) (Int.mul_pos hD hG) (fun i hi => by
      have h1 := hz i hi
      have hi' : i < qs.length := by omega
      obtain ⟨c, hc⟩ := hgd.2 ns[i] (List.getElem_mem hi)
      obtain ⟨e, he⟩ := hGd.2 (tz M qs[i]) (List.mem_map.2 ⟨_, List.getElem_mem hi', rfl⟩)
      have e1 : ns[i] / g = c := by rw [hc]; exact Int.mul_ediv_cancel_left c (by omega)
      have e2 : tz M qs[i] / G = e := by rw [he]; exact Int.mul_ediv_cancel_left e (by omega)
      simp only [List.getD_eq_getElem?_getD, List.getElem?_map, List.getElem?_eq_getElem hi, List.getElem?_eq_getElem hi', Option.map_some, Option.getD_some, e1, e2]
      rw [he, hc] at h1
      rw [Int.mul_assoc, Int.mul_assoc]; exact h1)
  intro i hi
  have hi' : i < qs.length := by omega
  have h1 := key i hi
  simp only [List.getD_eq_getElem?_getD, List.getElem?_map, List.getElem?_eq_getElem hi, List.getElem?_eq_getElem hi', Option.map_some, Option.getD_some] at h1
  obtain ⟨e, he⟩ := hGd.2 (tz M qs[i]) (List.mem_map.2 ⟨_, List.getElem_mem hi', rfl⟩)
  have e2 : tz M qs[i] / G = e := by rw [he]; exact Int.mul_ediv_cancel_left e (by omega)
  rw [← h1, e2, Rat.divInt_eq_div]
  have h2 := tz_eq (hden _ (List.getElem_mem hi'))
  rw [he, Rat.intCast_mul] at h2
  have := intCast_ne (show G ≠ 0 by omega)
  grind
end Go.Proofs.YtlcmllfacolkaaaGreatDoor
/- The primitive vector of the reference: plain facts, texts. -/
namespace Go.Proofs.YtlcmllfacolkaaaGreatDoor
open Go.RowKit

theorem lcmS_T {M : Int} (q : Rat) : lcmS M (q.den : Int) = lcmT M (q.den : Int) := by
  have hd := q.den_pos
  have hg : 0 < (Int.gcd M (q.den : Int) : Int) := by
    have : Int.gcd M (q.den : Int) ≠ 0 := by rw [Ne, Int.gcd_eq_zero_iff]; omega
    omega
  obtain ⟨m', hm⟩ := Int.gcd_dvd_left (a := M) (b := (q.den : Int))
  obtain ⟨d', hd'⟩ := Int.gcd_dvd_right (a := M) (b := (q.den : Int))
  unfold lcmS lcmT
  generalize (Int.gcd M (q.den : Int) : Int) = g at *
  have e1 : (q.den : Int) / g = d' := by rw [hd']; exact Int.mul_ediv_cancel_left d' (by omega)
  have e2 : M / g = m' := by rw [hm]; exact Int.mul_ediv_cancel_left m' (by omega)
  rw [e1, e2, hm, hd', Int.mul_comm g m', Int.mul_assoc]
theorem pden_facts (a1 a2 a3 : Rat) : 0 < pden a1 a2 a3 ∧ (a1.den : Int) ∣ pden a1 a2 a3 ∧ (a2.den : Int) ∣ pden a1 a2 a3 ∧ (a3.den : Int) ∣ pden a1 a2 a3 := by
  unfold pden
  rw [lcmS_T, lcmS_T, lcmS_T]
  obtain ⟨p1, l1, r1⟩ := lcmT_facts a1 (show (0 : Int) < 1 by omega)
  obtain ⟨p2, l2, r2⟩ := lcmT_facts a2 p1
  obtain ⟨p3, l3, r3⟩ := lcmT_facts a3 p2
  exact ⟨p3, Int.dvd_trans r1 (Int.dvd_trans l2 l3), Int.dvd_trans r2 l3, r3⟩
theorem tz_num {M : Int} {a : Rat} (h : (a.den : Int) ∣ M) : (Rat.divInt M 1 * a).num = tz M a := by rw [divInt_one, tz_eq h, Rat.num_intCast]
theorem tz_mul {M : Int} {a : Rat} (h : (a.den : Int) ∣ M) : a * ((M : Int) : Rat) = ((tz M a : Int) : Rat) := by rw [Rat.mul_comm, tz_eq h]
theorem prim_ref {a1 a2 a3 : Rat} {D : Int} (hD : 0 < D) (h1 : (a1.den : Int) ∣ D) (h2 : (a2.den : Int) ∣ D) (h3 : (a3.den : Int) ∣ D) (hz : ¬(a1 = 0 ∧ a2 = 0 ∧ a3 = 0)) :
    0 < gcdL 0 [tz D a1, tz D a2, tz D a3] ∧ ∀ (x : Rat), x ∈ [a1, a2, a3] → prim a1 a2 a3 x = x * ((D : Int) : Rat) * (1 / ((gcdL 0 [tz D a1, tz D a2, tz D a3] : Int) : Rat)) := by
  obtain ⟨pp, d1, d2, d3⟩ := pden_facts a1 a2 a3
  have hDr := intCast_ne (show D ≠ 0 by omega)
  have hgp : 0 < gcdL 0 [tz D a1, tz D a2, tz D a3] := by
    have h0 := gcdL_nonneg [tz D a1, tz D a2, tz D a3] 0 (Int.le_refl 0)
    rcases Int.lt_or_eq_of_le h0 with h | h
    · exact h
    · exfalso
      apply hz
      have hd := gcdL_dvd [tz D a1, tz D a2, tz D a3] 0
      rw [← h] at hd
      have z : ∀ a : Rat, (a.den : Int) ∣ D → (0 : Int) ∣ tz D a → a = 0 := fun a ha hh => by
        have e := tz_mul ha
        rw [Int.zero_dvd.1 hh] at e
        rcases Rat.mul_eq_zero.1 (by rw [e]; rfl) with h5 | h5
        · exact h5
        · exact absurd h5 hDr
      exact ⟨z _ h1 (hd.2 _ (by simp)), z _ h2 (hd.2 _ (by simp)), z _ h3 (hd.2 _ (by simp))⟩
  refine ⟨hgp, ?_⟩
  have hdv := gcdL_dvd [tz D a1, tz D a2, tz D a3] 0
  have key := scal_list (ns := [tz D a1, tz D a2, tz D a3]) (qs := [a1, a2, a3]) (D := D) (M := pden a1 a2 a3) hD pp rfl (fun i h => by
    have hh : ∀ a : Rat, (a.den : Int) ∣ D → a = ((tz D a : Int) : Rat) / ((D : Int) : Rat) := fun a ha => by rw [← tz_mul ha]; exact (Rat.mul_div_cancel hDr).symm
    match i, h with
    | 0, _ => exact hh a1 h1
    | 1, _ => exact hh a2 h2
    | 2, _ => exact hh a3 h3) (fun a ha => by
    simp only [List.mem_cons, List.not_mem_nil, or_false] at ha
    rcases ha with rfl | rfl | rfl <;> assumption) hgp
  have eg : pgcd a1 a2 a3 = gcdL 0 ([a1, a2, a3].map (tz (pden a1 a2 a3))) := by
    unfold pgcd
    rw [tz_num d1, tz_num d2, tz_num d3]; rfl
  have epr : ∀ x, prim a1 a2 a3 x = Rat.divInt (pden a1 a2 a3) (pgcd a1 a2 a3) * x := fun x => by
    unfold prim
    rw [divInt_one, ← Rat.mul_assoc, Rat.divInt_eq_div, Rat.divInt_eq_div]
    grind
  intro x hx
  have fin : ∀ a : Rat, (a.den : Int) ∣ D → tz D a ∈ [tz D a1, tz D a2, tz D a3] → Rat.divInt (pden a1 a2 a3) (gcdL 0 ([a1, a2, a3].map (tz (pden a1 a2 a3)))) * a = ((tz D a / gcdL 0 [tz D a1, tz D a2, tz D a3] : Int) : Rat) →
      prim a1 a2 a3 a = a * ((D : Int) : Rat) * (1 / ((gcdL 0 [tz D a1, tz D a2, tz D a3] : Int) : Rat)) := fun a ha hm he => by
    rw [epr, eg, he, tz_mul ha]
    obtain ⟨c, hc⟩ := hdv.2 _ hm
    generalize gcdL 0 [tz D a1, tz D a2, tz D a3] = G at *
    rw [hc, Int.mul_ediv_cancel_left c (by omega), Rat.intCast_mul]
    have := intCast_ne (show G ≠ 0 by omega)
    grind
  simp only [List.mem_cons, List.not_mem_nil, or_false] at hx
  rcases hx with rfl | rfl | rfl
  · exact fin _ h1 (by simp) (key.2 0 (by simp))
  · exact fin _ h2 (by simp) (key.2 1 (by simp))
  · exact fin _ h3 (by simp) (key.2 2 (by simp))
theorem den_prod (a1 a2 a3 : Rat) : 0 < (a1.den : Int) * (a2.den : Int) * (a3.den : Int) ∧ (a1.den : Int) ∣ (a1.den : Int) * (a2.den : Int) * (a3.den : Int) ∧ (a2.den : Int) ∣ (a1.den : Int) * (a2.den : Int) * (a3.den : Int) ∧ (a3.den : Int) ∣ (a1.den : Int) * (a2.den : Int) * (a3.den : Int) := by
  have h1 := a1.den_pos
  have h2 := a2.den_pos
  have h3 := a3.den_pos
  refine ⟨Int.mul_pos (Int.mul_pos (by omega) (by omega)) (by omega), ?_, ?_, Int.dvd_mul_left ..⟩
  · rw [Int.mul_assoc]; exact Int.dvd_mul_right ..
  · rw [Int.mul_comm (a1.den : Int), Int.mul_assoc]; exact Int.dvd_mul_right ..
/-- the primitive vector is parallel to its vector -/
theorem prim_parallel {a1 a2 a3 : Rat} (hz : ¬(a1 = 0 ∧ a2 = 0 ∧ a3 = 0)) :
    ((!(vcmp (prim a1 a2 a3 a1) (prim a1 a2 a3 a2) (prim a1 a2 a3 a3) 0 0 0 == (0 : Int)) && !(vcmp a1 a2 a3 0 0 0 == (0 : Int))) &&
      (vcmp (prim a1 a2 a3 a2 * a3 - prim a1 a2 a3 a3 * a2) (prim a1 a2 a3 a3 * a1 - prim a1 a2 a3 a1 * a3) (prim a1 a2 a3 a1 * a2 - prim a1 a2 a3 a2 * a1) 0 0 0 == (0 : Int))) = true := by
  have hp : pfac a1 a2 a3 ≠ 0 := by
    have h1 := pgcd_pos hz
    have h2 := pden_pos a1 a2 a3
    unfold pfac
    intro e
    rcases Rat.mul_eq_zero.1 e with h | h
    · rw [Rat.divInt_eq_div] at h
      have := intCast_ne (show pgcd a1 a2 a3 ≠ 0 by omega)
      have : (((1 : Int) : Rat)) = 0 := by grind
      exact absurd this (by decide)
    · exact rat_pden h2 h
  have e1 : (vcmp a1 a2 a3 0 0 0 == (0 : Int)) = false := vzero_false.2 hz
  have e2 : (vcmp (prim a1 a2 a3 a1) (prim a1 a2 a3 a2) (prim a1 a2 a3 a3) 0 0 0 == (0 : Int)) = false := by
    rw [vzero_false]
    rintro ⟨z1, z2, z3⟩
    apply hz
    have z : ∀ x, prim a1 a2 a3 x = 0 → x = 0 := fun x h => by
      rw [prim_fac] at h
      rcases Rat.mul_eq_zero.1 h with h | h
      · exact absurd h hp
      · exact h
    exact ⟨z _ z1, z _ z2, z _ z3⟩
  rw [e1, e2]
  simp only [prim_fac]
  exact veq_t (by grind) (by grind) (by grind)
/-! ### texts -/
theorem r1_mul_1 {m : Nat} (y : Int) (hy : Sz m y) (hk : 1 + m ≤ 700000) (w : World) :
    Calls Tryz.prog 82 #[.string ⟨([49] : List UInt8).toArray⟩, .string ⟨(Lib.itoa y).toArray⟩] w fun e w' => e = .returned (.string ⟨(ratL (((y : Int) : Rat))).toArray⟩) ∧ Gr w w' := by
  have h := r1_mul (k := 1) 1 y (by unfold Sz; decide) hy hk w
  rw [itoa_one, Int.one_mul] at h
  rw [ratL_iz]; exact h
theorem r1_mul_z {k m : Nat} (x y : Int) (hx : Sz k x) (hy : Sz m y) (hk : k + m ≤ 700000) (w : World) :
    Calls Tryz.prog 82 #[.string ⟨(ratL (((x : Int) : Rat))).toArray⟩, .string ⟨(Lib.itoa y).toArray⟩] w fun e w' => e = .returned (.string ⟨(ratL (((x * y : Int) : Rat))).toArray⟩) ∧ Gr w w' := by
  rw [ratL_iz, ratL_iz]; exact r1_mul x y hx hy hk w
theorem r1_gcd_0 {m : Nat} (q : Rat) (z : Int) (e : q = ((z : Int) : Rat)) (hz : Sz m z) (hk : 1 + m ≤ 140000) (w : World) :
    Calls Tryz.prog 83 #[.string ⟨([48] : List UInt8).toArray⟩, .string ⟨(ratL (q)).toArray⟩] w fun e w' => e = .returned (.string ⟨(Lib.itoa (Int.gcd 0 z : Int)).toArray⟩) ∧ Gr w w' := by
  have h := r1_gcd (k := 1) 0 z (Sz.zero 1) hz hk w
  rw [itoa_zero] at h
  rw [e, ratL_iz]; exact h
theorem r1_gcd_q {k m : Nat} (g : Int) (q : Rat) (z : Int) (e : q = ((z : Int) : Rat)) (hg : Sz k g) (hz : Sz m z) (hk : k + m ≤ 140000) (w : World) :
    Calls Tryz.prog 83 #[.string ⟨(Lib.itoa g).toArray⟩, .string ⟨(ratL (q)).toArray⟩] w fun e w' => e = .returned (.string ⟨(Lib.itoa (Int.gcd g z : Int)).toArray⟩) ∧ Gr w w' := by
  rw [e, ratL_iz]; exact r1_gcd g z hg hz hk w
theorem r2_div_1 {k : Nat} (g : Int) (hg : Sz k g) (h0 : 0 < g) (hk : 1 + k ≤ 6000) (hk0 : 0 < k) (w : World) :
    Calls Tryz.prog 55 #[.string ⟨([49] : List UInt8).toArray⟩, .string ⟨(Lib.itoa g).toArray⟩] w fun e w' => e = .returned (.string ⟨(ratL (1 / ((g : Int) : Rat))).toArray⟩) ∧ Gr w w' := by
  have h := r2_div (k := 1) ((1 : Int) : Rat) ((g : Int) : Rat) (RS.int (by unfold Sz; decide) (by omega)) (RS.int hg hk0) (by rw [Rat.num_intCast]; omega) hk w
  rw [ratL_iz, ratL_iz, itoa_one] at h
  exact h
end Go.Proofs.YtlcmllfacolkaaaGreatDoor
/- Arrays of texts compared with themselves; an integer among the rationals is small. -/
namespace Go.Proofs.YtlcmllfacolkaaaGreatDoor
open Go.RowKit
section
variable {P : Program} {a : Act} {o : Oper} {w : World} {Q : Exit → Act → World → Prop}
theorem wp_seq_cut {x y : Code} (J : Act → World → Prop) (h1 : ∀ K : Act → World → Prop, (∀ a w, J a w → K a w) → x.wp P (Exit.then K Q) a w) (h2 : ∀ a w, J a w → y.wp P Q a w) : (x.seq y).wp P Q a w :=
  wp_seq_k fun K hK => h1 K (fun a w hj => hK a w (h2 a w hj))
/-- some pieces, one behind the other, and K behind them -/
def wpChain (P : Program) (Q : Exit → Act → World → Prop) (K : Act → World → Prop) : List Code → Act → World → Prop
  | [], a, w => K a w
  | x :: r, a, w => x.wp P (Exit.then (wpChain P Q K r) Q) a w
theorem chain_k {K : Act → World → Prop} {x : Code} {r : List Code} (h : ∀ K' : Act → World → Prop, (∀ a w, wpChain P Q K r a w → K' a w) → x.wp P (Exit.then K' Q) a w) : wpChain P Q K (x :: r) a w :=
  h _ (fun _ _ h => h)
theorem chain_nil {K : Act → World → Prop} (h : K a w) : wpChain P Q K [] a w := h
theorem chain_seq {K : Act → World → Prop} {z : Code} (hz : ∀ a w, K a w → z.wp P Q a w) : ∀ (l : List Code) {a : Act} {w : World}, wpChain P Q K l a w → (l.foldr Code.seq z).wp P Q a w
  | [], _, _, h => hz _ _ h
  | x :: r, _, _, h => wp_seq (wp_mono h fun e a' w' he => by
      cases e with
      | normal => exact chain_seq hz r he
      | exit id => exact he
      | goto l => exact he
      | ret => exact he
      | panic ch => exact he
      | outgrown => exact he)
theorem wp_cut2 {x y z : Code} (J : Act → World → Prop) (h1 : ∀ K : Act → World → Prop, (∀ a w, J a w → K a w) → wpChain P Q K [x, y] a w) (h2 : ∀ a w, J a w → z.wp P Q a w) : (x.seq (y.seq z)).wp P Q a w :=
  chain_seq (K := J) h2 [x, y] (h1 J fun _ _ h => h)
theorem wp_cut3 {x y y2 z : Code} (J : Act → World → Prop) (h1 : ∀ K : Act → World → Prop, (∀ a w, J a w → K a w) → wpChain P Q K [x, y, y2] a w) (h2 : ∀ a w, J a w → z.wp P Q a w) : (x.seq (y.seq (y2.seq z))).wp P Q a w :=
  chain_seq (K := J) h2 [x, y, y2] (h1 J fun _ _ h => h)
theorem wp_cut4 {x y y2 y3 z : Code} (J : Act → World → Prop) (h1 : ∀ K : Act → World → Prop, (∀ a w, J a w → K a w) → wpChain P Q K [x, y, y2, y3] a w) (h2 : ∀ a w, J a w → z.wp P Q a w) : (x.seq (y.seq (y2.seq (y3.seq z)))).wp P Q a w :=
  chain_seq (K := J) h2 [x, y, y2, y3] (h1 J fun _ _ h => h)
theorem rv_rem (t t2 : TypeId) (x y : Operand) (A B : Int) (hop : o.op = .binOp .rem t x y t2) (hx : a.eval x = .int .i64 A) (hy : a.eval y = .int .i64 B) (hA : 0 ≤ A) (hB : 0 < B) : RunV P a o w (.int .i64 (A % B)) := by
  have h0 : ¬ B = 0 := by omega
  have e : Int.tmod A B = A % B := Int.tmod_eq_emod_of_nonneg hA
  unfold RunV execOp
  simp only [hop, hx, hy]
  simp [go_sem, binOp, eqGuard, Op.intDiv, h0, e]
theorem rv_quo (t t2 : TypeId) (x y : Operand) (A B C : Int) (hop : o.op = .binOp .quo t x y t2) (hx : a.eval x = .int .i64 A) (hy : a.eval y = .int .i64 B) (hC : Int.tdiv A B = C) (h1 : -9223372036854775808 ≤ C) (h2 : C ≤ 9223372036854775807) (hB : 0 < B) : RunV P a o w (.int .i64 C) := by
  have h0 : ¬ B = 0 := by omega
  have e2 : IntKind.i64.wrap C = C := by rw [IntKind.wrap_i64]; omega
  unfold RunV execOp
  simp only [hop, hx, hy]
  simp [go_sem, binOp, eqGuard, Op.intDiv, h0, hC, e2]
end

theorem items_str {P : Program} {w : World} {d e : Nat} (he : P.underlying e = some .string) (hp : P.plainKey e = true) (A : Array Value) :
    ∀ (X : List (List UInt8)) (i0 : Nat), (∀ j x, X[j]? = some x → A[i0 + j]? = some (.string ⟨x.toArray⟩)) → (Op.eqItems (d + 1) e 1 A A (List.range' i0 X.length)).run P w = .ok true w
  | [], _, _ => by simp [Op.eqItems]
  | x :: xs, i0, hA => by
    have h1 : A[i0]? = some (.string ⟨x.toArray⟩) := hA 0 x rfl
    have ih := items_str (w := w) (d := d) he hp A xs (i0 + 1) (fun j z hj => by have := hA (j + 1) z hj; rwa [show i0 + (j + 1) = i0 + 1 + j by omega] at this)
    rw [List.length_cons, List.range'_succ]
    simp only [Op.eqItems, Sem.run_bind, Nat.mul_one, run_part_plain w hp h1, Result.andThen_ok, run_equalIn_string w d e _ _ he, beq_self_eq_true]
    simpa using ih
theorem rv_streq {P : Program} {a : Act} {o : Oper} {w : World} (t t2 e : Nat) (x y : Operand) (X : List (List UInt8)) (hop : o.op = .binOp .eql t x y t2) (hx : a.eval x = .agg (X.map fun l => Value.string ⟨l.toArray⟩).toArray) (hy : a.eval y = .agg (X.map fun l => Value.string ⟨l.toArray⟩).toArray)
    (hu : P.underlying t = some (.array X.length e)) (he : (P.underlying e, (P.info? e).isSome, P.cellsOf e, P.plainKey e) = (some .string, true, 1, true)) (hg : P.eqGuardType P.depth t = false) :
    RunV P a o w (.bool true) := by
  simp only [Prod.mk.injEq] at he
  obtain ⟨h1, h2, h3, h4⟩ := he
  obtain ⟨i, hi⟩ := Option.isSome_iff_exists.1 h2
  have h : (Op.equal t (.agg (X.map fun l => Value.string ⟨l.toArray⟩).toArray) (.agg (X.map fun l => Value.string ⟨l.toArray⟩).toArray)).run P w = .ok true w := by
    show (Op.equalIn (9999 + 1) t _ _).run P w = _
    rw [run_equalIn_array w 9999 _ _ hu hi, h3, List.range_eq_range']
    exact items_str (d := 9998) h1 h4 _ X 0 (fun j x hj => by simp [hj])
  unfold RunV execOp
  simp only [hop, hx, hy]
  simp [go_sem, binOp, eqGuard, hg, h]
theorem IsRat.small {w : World} {K : Nat} {c0 c1 c2 c3 : Value} {z : Int} (h : IsRat w K c0 c1 c2 c3 (z : Rat)) (h0 : -9223372036854775808 ≤ z) (h1 : z ≤ 9223372036854775807) : IsRat w 64 c0 c1 c2 c3 (z : Rat) := by
  obtain ⟨hn, ⟨D, hd, hD⟩, _⟩ := h
  have e1 : ((z : Rat)).num = z := Rat.num_intCast z
  have e2 : ((z : Rat)).den = 1 := Rat.den_intCast z
  rw [e1] at hn
  refine ⟨by rw [e1]; exact hn.resz (Sz.i64 h0 h1), ⟨D, hd.resz ?_, hD⟩, Nat.le_refl 64⟩
  unfold Sz
  rw [e2] at hD
  rcases hD with h | ⟨h, _⟩ <;> subst h <;> decide
theorem gcd_stepZ {g n : Int} (hg : 0 ≤ g) (hn : 0 < n) : Int.gcd n (g % n) = Int.gcd g n := by
  obtain ⟨a, rfl⟩ := Int.eq_ofNat_of_zero_le hg
  obtain ⟨b, rfl⟩ := Int.eq_ofNat_of_zero_le (Int.le_of_lt hn)
  rw [← Int.natCast_emod, Int.gcd_natCast_natCast, Int.gcd_natCast_natCast, Nat.gcd_comm b, ← Nat.gcd_rec, Nat.gcd_comm]
theorem gcd_endZ {g n G v m : Int} (h : Int.gcd g n = Int.gcd G v) (hn : (n != (0 : Int)) = false) (hg : 0 ≤ g) (hv : v = m ∨ v = -m) : g = (Int.gcd G m : Int) := by
  have h0 : n = 0 := by simpa using hn
  rw [h0, Int.gcd_zero_right] at h
  have : Int.gcd G v = Int.gcd G m := by
    rcases hv with e | e
    · rw [e]
    · rw [e, Int.gcd_neg]
  omega
theorem quo_eq {n g G : Int} (h : g = G) (hd : G ∣ n) : Int.tdiv n g = n / G := by
  subst h; exact Int.tdiv_eq_ediv_of_dvd hd
theorem quo_small {n g : Int} (hg : 0 < g) (h0 : -128 ≤ n) (h1 : n ≤ 127) : -128 ≤ n / g ∧ n / g ≤ 127 := by
  have a := Int.ediv_le_ediv hg h0
  have b := Int.ediv_le_ediv hg h1
  have c : -128 ≤ -128 / g := by
    rw [Int.le_ediv_iff_mul_le hg]; omega
  have d : 127 / g ≤ 127 := Int.ediv_le_self _ (by omega)
  omega
theorem gcdL_pos {l : List Int} (h : ¬ ∀ z ∈ l, z = 0) : 0 < gcdL 0 l := by
  have h0 := gcdL_nonneg l 0 (Int.le_refl 0)
  have hd := (gcdL_dvd l 0).2
  rcases Int.lt_or_eq_of_le h0 with h1 | h1
  · exact h1
  · exact absurd (fun z hz => Int.zero_dvd.1 (by have := hd z hz; rwa [← h1] at this)) h
theorem zero_over (D : Int) : (((0 : Int) : Rat) / (D : Rat)) = 0 := by
  have : ((0 : Int) : Rat) = 0 := rfl
  rw [this, Rat.div_def, Rat.zero_mul]
theorem over_zero {n D : Int} (hD : 0 < D) (h : ((n : Rat) / (D : Rat)) = 0) : n = 0 := by
  have h1 := intCast_ne (show D ≠ 0 by omega)
  have h2 : (n : Rat) = 0 := by grind
  exact intCast_inj' h2
end Go.Proofs.YtlcmllfacolkaaaGreatDoor
/- Printed by a program of the prover's: VectorPrimitive. -/
namespace Go.Proofs.YtlcmllfacolkaaaGreatDoor
open Go.RowKit

set_option maxRecDepth 100000 in
set_option maxHeartbeats 4000000 in
theorem r3_prim0 {k : Nat} (a1 : Rat) (a2 : Rat) (a3 : Rat) (ha1 : RS k a1) (ha2 : RS k a2) (ha3 : RS k a3) (_hk : k ≤ 120) (_hk0 : 0 < k) (hz0 : ¬(a1 = 0 ∧ a2 = 0 ∧ a3 = 0)) (w : World) :
    Calls Tryz.prog 35 #[(.agg #[(.string ⟨(ratL (a1) : List UInt8).toArray⟩), (.string ⟨(ratL (a2) : List UInt8).toArray⟩), (.string ⟨(ratL (a3) : List UInt8).toArray⟩)])] w fun e w' => e = .returned (.agg #[.string ⟨(ratL (a1 * (((a1.den : Int) * (a2.den : Int) * (a3.den : Int) : Int) : Rat) * (1 / (((Int.gcd (Int.gcd (Int.gcd 0 (tz ((a1.den : Int) * (a2.den : Int) * (a3.den : Int)) a1) : Int) (tz ((a1.den : Int) * (a2.den : Int) * (a3.den : Int)) a2) : Int) (tz ((a1.den : Int) * (a2.den : Int) * (a3.den : Int)) a3) : Int) : Int) : Rat)))).toArray⟩, .string ⟨(ratL (a2 * (((a1.den : Int) * (a2.den : Int) * (a3.den : Int) : Int) : Rat) * (1 / (((Int.gcd (Int.gcd (Int.gcd 0 (tz ((a1.den : Int) * (a2.den : Int) * (a3.den : Int)) a1) : Int) (tz ((a1.den : Int) * (a2.den : Int) * (a3.den : Int)) a2) : Int) (tz ((a1.den : Int) * (a2.den : Int) * (a3.den : Int)) a3) : Int) : Int) : Rat)))).toArray⟩, .string ⟨(ratL (a3 * (((a1.den : Int) * (a2.den : Int) * (a3.den : Int) : Int) : Rat) * (1 / (((Int.gcd (Int.gcd (Int.gcd 0 (tz ((a1.den : Int) * (a2.den : Int) * (a3.den : Int)) a1) : Int) (tz ((a1.den : Int) * (a2.den : Int) * (a3.den : Int)) a2) : Int) (tz ((a1.den : Int) * (a2.den : Int) * (a3.den : Int)) a3) : Int) : Int) : Rat)))).toArray⟩]) ∧ Gr w w' := by
 have hDr : RS (k + k + k) (((a1.den : Int) * (a2.den : Int) * (a3.den : Int) : Int) : Rat) := RS.int ((ha1.2.mul ha2.2).mul ha3.2) (by omega)
 obtain ⟨hdp, hd1, hd2, hd3⟩ := den_prod a1 a2 a3
 have e1 : a1 * (((a1.den : Int) * (a2.den : Int) * (a3.den : Int) : Int) : Rat) = ((tz ((a1.den : Int) * (a2.den : Int) * (a3.den : Int)) a1 : Int) : Rat) := tz_mul hd1
 have s1 : Sz (k + (k + k + k)) (tz ((a1.den : Int) * (a2.den : Int) * (a3.den : Int)) a1) := by
   have h := (ha1.mul hDr).1
   rw [e1, Rat.num_intCast] at h; exact h
 have e2 : a2 * (((a1.den : Int) * (a2.den : Int) * (a3.den : Int) : Int) : Rat) = ((tz ((a1.den : Int) * (a2.den : Int) * (a3.den : Int)) a2 : Int) : Rat) := tz_mul hd2
 have s2 : Sz (k + (k + k + k)) (tz ((a1.den : Int) * (a2.den : Int) * (a3.den : Int)) a2) := by
   have h := (ha2.mul hDr).1
   rw [e2, Rat.num_intCast] at h; exact h
 have e3 : a3 * (((a1.den : Int) * (a2.den : Int) * (a3.den : Int) : Int) : Rat) = ((tz ((a1.den : Int) * (a2.den : Int) * (a3.den : Int)) a3 : Int) : Rat) := tz_mul hd3
 have s3 : Sz (k + (k + k + k)) (tz ((a1.den : Int) * (a2.den : Int) * (a3.den : Int)) a3) := by
   have h := (ha3.mul hDr).1
   rw [e3, Rat.num_intCast] at h; exact h
 have sg1 : Sz (1 + (k + (k + k + k))) (Int.gcd 0 (tz ((a1.den : Int) * (a2.den : Int) * (a3.den : Int)) a1) : Int) := sz_gcd2 (Sz.zero 1) s1
 have sg2 : Sz (1 + (k + (k + k + k)) + (k + (k + k + k))) (Int.gcd (Int.gcd 0 (tz ((a1.den : Int) * (a2.den : Int) * (a3.den : Int)) a1) : Int) (tz ((a1.den : Int) * (a2.den : Int) * (a3.den : Int)) a2) : Int) := sz_gcd2 sg1 s2
 have sg3 : Sz (1 + (k + (k + k + k)) + (k + (k + k + k)) + (k + (k + k + k))) (Int.gcd (Int.gcd (Int.gcd 0 (tz ((a1.den : Int) * (a2.den : Int) * (a3.den : Int)) a1) : Int) (tz ((a1.den : Int) * (a2.den : Int) * (a3.den : Int)) a2) : Int) (tz ((a1.den : Int) * (a2.den : Int) * (a3.den : Int)) a3) : Int) := sz_gcd2 sg2 s3
 have hgp : 0 < (Int.gcd (Int.gcd (Int.gcd 0 (tz ((a1.den : Int) * (a2.den : Int) * (a3.den : Int)) a1) : Int) (tz ((a1.den : Int) * (a2.den : Int) * (a3.den : Int)) a2) : Int) (tz ((a1.den : Int) * (a2.den : Int) * (a3.den : Int)) a3) : Int) := (prim_ref hdp hd1 hd2 hd3 hz0).1
 have hGr : RS (1 + (1 + (k + (k + k + k)) + (k + (k + k + k)) + (k + (k + k + k)))) (1 / (((Int.gcd (Int.gcd (Int.gcd 0 (tz ((a1.den : Int) * (a2.den : Int) * (a3.den : Int)) a1) : Int) (tz ((a1.den : Int) * (a2.den : Int) * (a3.den : Int)) a2) : Int) (tz ((a1.den : Int) * (a2.den : Int) * (a3.den : Int)) a3) : Int) : Int) : Rat)) := RS.div (a := 1) (RS.int (z := 1) (by unfold Sz; decide) (by omega)) (RS.int sg3 (by omega)) (by rw [Rat.num_intCast]; omega)
 go_enter Tryz.func35, Tryz.ntmps35
 have hB := Gr.refl w
 refine wp_seq_k (fun K1 k1 => ?_)
 refine rg [0, 1] ?_
 refine se ?_
 refine eb 49 #[(.string ⟨(ratL (a1) : List UInt8).toArray⟩), (.string ⟨(ratL (a2) : List UInt8).toArray⟩), (.string ⟨(ratL (a3) : List UInt8).toArray⟩)] 1 hB fun b2 w2 g2 L2 o2 q2 hB => ?_
 simp only [p3, p4]
 refine se ?_
 refine ea 49 #[(.string ⟨([] : List UInt8).toArray⟩), (.string ⟨([] : List UInt8).toArray⟩), (.string ⟨([] : List UInt8).toArray⟩)] 2 hB fun b3 w3 g3 L3 o3 q3 hB => ?_
 have ne2_3 := L2.ne o3
 simp only [p3, p4]
 refine sq_nil ?_
 refine k1 _ _ ?_
 try clear k1 K1
 refine wp_seq_k (fun K4 k4 => ?_)
 refine rg [0, 1] ?_
 refine sv 3 (.string ⟨([49] : List UInt8).toArray⟩) ?_
 simp only [p3, p4]
 refine sv 4 (.string ⟨([48] : List UInt8).toArray⟩) ?_
 simp only [p3, p4]
 refine sq_nil ?_
 refine k4 _ _ ?_
 try clear k4 K4
 refine wp_seq_k (fun K5 k5 => ?_)
 refine wp_seq_k (fun K6 k6 => ?_)
 refine rg [0] ?_
 refine sv 5 (.int .i64 0) ?_
 simp only [p3, p4]
 refine sq_nil ?_
 refine k6 _ _ ?_
 try clear k6 K6
 refine wp_block ?_
 refine wp_loop_rounds 4 ?_
 show Code.wp _ _ _ _ _
 refine wp_seq_k (fun K7 k7 => ?_)
 refine wp_seq_k (fun K8 k8 => ?_)
 refine rg [0, 1] ?_
 refine sv 9 (.int .i64 0) ?_
 simp only [p3, p4]
 refine sv 10 (.bool true) ?_
 simp only [p3, p4]
 refine sq_nil ?_
 refine k8 _ _ ?_
 try clear k8 K8
 refine wp_cond_true rfl ?_
 refine wp_skip ?_
 refine k7 _ _ ?_
 try clear k7 K7
 refine wp_seq_k (fun K9 k9 => ?_)
 refine wp_block ?_
 refine wp_seq_k (fun K10 k10 => ?_)
 refine rg [0, 1, 2, 3, 4, 5, 6, 7, 8] ?_
 refine sv 14 (.int .i64 0) ?_
 simp only [p3, p4]
 refine sv 15 (.pointer (some ⟨b2, 0, none⟩)) ?_
 simp only [p3, p4]
 replace L2 := L2.gr g3
 refine sw 16 (.string ⟨(ratL (a1) : List UInt8).toArray⟩) rfl (rk 9 0 L2) ?_
 simp only [p3, p4]
 refine se ?_
 refine ec 17 (r2_parts_q a1 ha1.1 ha1.2 (by omega) _) ?_
 rintro e11 w11 ⟨rfl, g11⟩
 refine ⟨_, rfl, ?_⟩
 replace hB := hB.trans g11
 simp only [p3, p4]
 refine sv 13 (.tuple #[(.string ⟨(Lib.itoa (a1.num) : List UInt8).toArray⟩), (.string ⟨(Lib.itoa ((a1.den : Int)) : List UInt8).toArray⟩)]) ?_
 simp only [p3, p4]
 refine sv 18 (.string ⟨(Lib.itoa (a1.num) : List UInt8).toArray⟩) ?_
 simp only [p3, p4]
 refine sv 19 (.string ⟨(Lib.itoa ((a1.den : Int)) : List UInt8).toArray⟩) ?_
 simp only [p3, p4]
 refine sv 6 (.string ⟨(Lib.itoa (a1.num) : List UInt8).toArray⟩) ?_
 simp only [p3, p4]
 refine sv 7 (.string ⟨(Lib.itoa ((a1.den : Int)) : List UInt8).toArray⟩) ?_
 simp only [p3, p4]
 refine sq_nil ?_
 refine k10 _ _ ?_
 try clear k10 K10
 refine rg [0, 1, 2, 3] ?_
 refine sv 20 (.string ⟨([49] : List UInt8).toArray⟩) ?_
 simp only [p3, p4]
 refine sv 21 (.string ⟨(Lib.itoa ((a1.den : Int)) : List UInt8).toArray⟩) ?_
 simp only [p3, p4]
 refine se ?_
 refine ec 22 (r1_mul_1 ((a1.den : Int)) ha1.2 (by omega) _) ?_
 rintro e12 w12 ⟨rfl, g12⟩
 refine ⟨_, rfl, ?_⟩
 replace hB := hB.trans g12
 simp only [p3, p4]
 refine sv 3 (.string ⟨(ratL ((((a1.den : Int) : Int) : Rat)) : List UInt8).toArray⟩) ?_
 simp only [p3, p4]
 refine sq_nil ?_
 refine k9 _ _ ?_
 try clear k9 K9
 refine rg [0, 1, 2] ?_
 refine sv 11 (.int .i64 0) ?_
 simp only [p3, p4]
 refine sv 12 (.int .i64 1) ?_
 simp only [p3, p4]
 refine sv 5 (.int .i64 1) ?_
 simp only [p3, p4]
 refine sq_nil ?_
 show Code.rounds _ _ _ _ _ _
 show Code.wp _ _ _ _ _
 refine wp_seq_k (fun K13 k13 => ?_)
 refine wp_seq_k (fun K14 k14 => ?_)
 refine rg [0, 1] ?_
 refine sv 9 (.int .i64 1) ?_
 simp only [p3, p4]
 refine sv 10 (.bool true) ?_
 simp only [p3, p4]
 refine sq_nil ?_
 refine k14 _ _ ?_
 try clear k14 K14
 refine wp_cond_true rfl ?_
 refine wp_skip ?_
 refine k13 _ _ ?_
 try clear k13 K13
 refine wp_seq_k (fun K15 k15 => ?_)
 refine wp_block ?_
 refine wp_seq_k (fun K16 k16 => ?_)
 refine rg [0, 1, 2, 3, 4, 5, 6, 7, 8] ?_
 refine sv 14 (.int .i64 1) ?_
 simp only [p3, p4]
 refine sv 15 (.pointer (some ⟨b2, 1, none⟩)) ?_
 simp only [p3, p4]
 replace L2 := L2.gr (g11.trans g12)
 refine sw 16 (.string ⟨(ratL (a2) : List UInt8).toArray⟩) rfl (rk 9 1 L2) ?_
 simp only [p3, p4]
 refine se ?_
 refine ec 17 (r2_parts_q a2 ha2.1 ha2.2 (by omega) _) ?_
 rintro e17 w17 ⟨rfl, g17⟩
 refine ⟨_, rfl, ?_⟩
 replace hB := hB.trans g17
 simp only [p3, p4]
 refine sv 13 (.tuple #[(.string ⟨(Lib.itoa (a2.num) : List UInt8).toArray⟩), (.string ⟨(Lib.itoa ((a2.den : Int)) : List UInt8).toArray⟩)]) ?_
 simp only [p3, p4]
 refine sv 18 (.string ⟨(Lib.itoa (a2.num) : List UInt8).toArray⟩) ?_
 simp only [p3, p4]
 refine sv 19 (.string ⟨(Lib.itoa ((a2.den : Int)) : List UInt8).toArray⟩) ?_
 simp only [p3, p4]
 refine sv 6 (.string ⟨(Lib.itoa (a2.num) : List UInt8).toArray⟩) ?_
 simp only [p3, p4]
 refine sv 7 (.string ⟨(Lib.itoa ((a2.den : Int)) : List UInt8).toArray⟩) ?_
 simp only [p3, p4]
 refine sq_nil ?_
 refine k16 _ _ ?_
 try clear k16 K16
 refine rg [0, 1, 2, 3] ?_
 refine sv 20 (.string ⟨(ratL ((((a1.den : Int) : Int) : Rat)) : List UInt8).toArray⟩) ?_
 simp only [p3, p4]
 refine sv 21 (.string ⟨(Lib.itoa ((a2.den : Int)) : List UInt8).toArray⟩) ?_
 simp only [p3, p4]
 refine se ?_
 refine ec 22 (r1_mul_z ((a1.den : Int)) ((a2.den : Int)) ha1.2 ha2.2 (by omega) _) ?_
 rintro e18 w18 ⟨rfl, g18⟩
 refine ⟨_, rfl, ?_⟩
 replace hB := hB.trans g18
 simp only [p3, p4]
 refine sv 3 (.string ⟨(ratL ((((a1.den : Int) * (a2.den : Int) : Int) : Rat)) : List UInt8).toArray⟩) ?_
 simp only [p3, p4]
 refine sq_nil ?_
 refine k15 _ _ ?_
 try clear k15 K15
 refine rg [0, 1, 2] ?_
 refine sv 11 (.int .i64 1) ?_
 simp only [p3, p4]
 refine sv 12 (.int .i64 2) ?_
 simp only [p3, p4]
 refine sv 5 (.int .i64 2) ?_
 simp only [p3, p4]
 refine sq_nil ?_
 show Code.rounds _ _ _ _ _ _
 show Code.wp _ _ _ _ _
 refine wp_seq_k (fun K19 k19 => ?_)
 refine wp_seq_k (fun K20 k20 => ?_)
 refine rg [0, 1] ?_
 refine sv 9 (.int .i64 2) ?_
 simp only [p3, p4]
 refine sv 10 (.bool true) ?_
 simp only [p3, p4]
 refine sq_nil ?_
 refine k20 _ _ ?_
 try clear k20 K20
 refine wp_cond_true rfl ?_
 refine wp_skip ?_
 refine k19 _ _ ?_
 try clear k19 K19
 refine wp_seq_k (fun K21 k21 => ?_)
 refine wp_block ?_
 refine wp_seq_k (fun K22 k22 => ?_)
 refine rg [0, 1, 2, 3, 4, 5, 6, 7, 8] ?_
 refine sv 14 (.int .i64 2) ?_
 simp only [p3, p4]
 refine sv 15 (.pointer (some ⟨b2, 2, none⟩)) ?_
 simp only [p3, p4]
 replace L2 := L2.gr (g17.trans g18)
 refine sw 16 (.string ⟨(ratL (a3) : List UInt8).toArray⟩) rfl (rk 9 2 L2) ?_
 simp only [p3, p4]
 refine se ?_
 refine ec 17 (r2_parts_q a3 ha3.1 ha3.2 (by omega) _) ?_
 rintro e23 w23 ⟨rfl, g23⟩
 refine ⟨_, rfl, ?_⟩
 replace hB := hB.trans g23
 simp only [p3, p4]
 refine sv 13 (.tuple #[(.string ⟨(Lib.itoa (a3.num) : List UInt8).toArray⟩), (.string ⟨(Lib.itoa ((a3.den : Int)) : List UInt8).toArray⟩)]) ?_
 simp only [p3, p4]
 refine sv 18 (.string ⟨(Lib.itoa (a3.num) : List UInt8).toArray⟩) ?_
 simp only [p3, p4]
 refine sv 19 (.string ⟨(Lib.itoa ((a3.den : Int)) : List UInt8).toArray⟩) ?_
 simp only [p3, p4]
 refine sv 6 (.string ⟨(Lib.itoa (a3.num) : List UInt8).toArray⟩) ?_
 simp only [p3, p4]
 refine sv 7 (.string ⟨(Lib.itoa ((a3.den : Int)) : List UInt8).toArray⟩) ?_
 simp only [p3, p4]
 refine sq_nil ?_
 refine k22 _ _ ?_
 try clear k22 K22
 refine rg [0, 1, 2, 3] ?_
 refine sv 20 (.string ⟨(ratL ((((a1.den : Int) * (a2.den : Int) : Int) : Rat)) : List UInt8).toArray⟩) ?_
 simp only [p3, p4]
 refine sv 21 (.string ⟨(Lib.itoa ((a3.den : Int)) : List UInt8).toArray⟩) ?_
 simp only [p3, p4]
 refine se ?_
 refine ec 22 (r1_mul_z ((a1.den : Int) * (a2.den : Int)) ((a3.den : Int)) (ha1.2.mul ha2.2) ha3.2 (by omega) _) ?_
 rintro e24 w24 ⟨rfl, g24⟩
 refine ⟨_, rfl, ?_⟩
 replace hB := hB.trans g24
 simp only [p3, p4]
 refine sv 3 (.string ⟨(ratL ((((a1.den : Int) * (a2.den : Int) * (a3.den : Int) : Int) : Rat)) : List UInt8).toArray⟩) ?_
 simp only [p3, p4]
 refine sq_nil ?_
 refine k21 _ _ ?_
 try clear k21 K21
 refine rg [0, 1, 2] ?_
 refine sv 11 (.int .i64 2) ?_
 simp only [p3, p4]
 refine sv 12 (.int .i64 3) ?_
 simp only [p3, p4]
 refine sv 5 (.int .i64 3) ?_
 simp only [p3, p4]
 refine sq_nil ?_
 show Code.rounds _ _ _ _ _ _
 show Code.wp _ _ _ _ _
 refine wp_seq_k (fun K25 k25 => ?_)
 refine wp_seq_k (fun K26 k26 => ?_)
 refine rg [0, 1] ?_
 refine sv 9 (.int .i64 3) ?_
 simp only [p3, p4]
 refine sv 10 (.bool false) ?_
 simp only [p3, p4]
 refine sq_nil ?_
 refine k26 _ _ ?_
 try clear k26 K26
 refine wp_cond_false rfl ?_
 refine wp_exit ?_
 simp only [Exit.then, Exit.inBlock, ↓reduceIte]
 refine k5 _ _ ?_
 try clear k5 K5
 refine wp_seq_k (fun K27 k27 => ?_)
 refine rg [0, 1, 2, 3] ?_
 replace L2 := L2.gr (g23.trans g24)
 refine sw 23 (.agg #[(.string ⟨(ratL (a1) : List UInt8).toArray⟩), (.string ⟨(ratL (a2) : List UInt8).toArray⟩), (.string ⟨(ratL (a3) : List UInt8).toArray⟩)]) rfl (rl 49 0 [(.string ⟨(ratL (a1) : List UInt8).toArray⟩), (.string ⟨(ratL (a2) : List UInt8).toArray⟩), (.string ⟨(ratL (a3) : List UInt8).toArray⟩)] L2) ?_
 simp only [p3, p4]
 refine sv 24 (.string ⟨(ratL ((((a1.den : Int) * (a2.den : Int) * (a3.den : Int) : Int) : Rat)) : List UInt8).toArray⟩) ?_
 simp only [p3, p4]
 refine se ?_
 refine ec 25 (r3_scale (a1) (a2) (a3) ha1 ha2 ha3 ((((a1.den : Int) * (a2.den : Int) * (a3.den : Int) : Int) : Rat)) hDr (by omega) _) ?_
 rintro e28 w28 ⟨rfl, g28⟩
 refine ⟨_, rfl, ?_⟩
 replace hB := hB.trans g28
 simp only [p3, p4]
 refine se ?_
 replace L2 := L2.gr g28
 refine es 49 0 (.agg #[(.string ⟨(ratL (a1 * ((((a1.den : Int) * (a2.den : Int) * (a3.den : Int) : Int) : Rat))) : List UInt8).toArray⟩), (.string ⟨(ratL (a2 * ((((a1.den : Int) * (a2.den : Int) * (a3.den : Int) : Int) : Rat))) : List UInt8).toArray⟩), (.string ⟨(ratL (a3 * ((((a1.den : Int) * (a2.den : Int) * (a3.den : Int) : Int) : Rat))) : List UInt8).toArray⟩)]) [(.string ⟨(ratL (a1 * ((((a1.den : Int) * (a2.den : Int) * (a3.den : Int) : Int) : Rat))) : List UInt8).toArray⟩), (.string ⟨(ratL (a2 * ((((a1.den : Int) * (a2.den : Int) * (a3.den : Int) : Int) : Rat))) : List UInt8).toArray⟩), (.string ⟨(ratL (a3 * ((((a1.den : Int) * (a2.den : Int) * (a3.den : Int) : Int) : Rat))) : List UInt8).toArray⟩)] #[(.string ⟨(ratL (a1 * ((((a1.den : Int) * (a2.den : Int) * (a3.den : Int) : Int) : Rat))) : List UInt8).toArray⟩), (.string ⟨(ratL (a2 * ((((a1.den : Int) * (a2.den : Int) * (a3.den : Int) : Int) : Rat))) : List UInt8).toArray⟩), (.string ⟨(ratL (a3 * ((((a1.den : Int) * (a2.den : Int) * (a3.den : Int) : Int) : Rat))) : List UInt8).toArray⟩)] L2 hB q2 ⟨rfl, rfl, rfl, trivial⟩ fun w29 st29 kp29 L2 hB => ?_
 refine sq_nil ?_
 refine k27 _ _ ?_
 try clear k27 K27
 refine wp_seq_k (fun K30 k30 => ?_)
 refine wp_seq_k (fun K31 k31 => ?_)
 refine rg [0] ?_
 refine sv 8 (.int .i64 0) ?_
 simp only [p3, p4]
 refine sq_nil ?_
 refine k31 _ _ ?_
 try clear k31 K31
 refine wp_block ?_
 refine wp_loop_rounds 4 ?_
 show Code.wp _ _ _ _ _
 refine wp_seq_k (fun K32 k32 => ?_)
 refine wp_seq_k (fun K33 k33 => ?_)
 refine rg [0, 1] ?_
 refine sv 26 (.int .i64 0) ?_
 simp only [p3, p4]
 refine sv 27 (.bool true) ?_
 simp only [p3, p4]
 refine sq_nil ?_
 refine k33 _ _ ?_
 try clear k33 K33
 refine wp_cond_true rfl ?_
 refine wp_skip ?_
 refine k32 _ _ ?_
 try clear k32 K32
 refine wp_seq_k (fun K34 k34 => ?_)
 refine wp_block ?_
 refine rg [0, 1, 2, 3, 4, 5] ?_
 refine sv 30 (.string ⟨([48] : List UInt8).toArray⟩) ?_
 simp only [p3, p4]
 refine sv 31 (.int .i64 0) ?_
 simp only [p3, p4]
 refine sv 32 (.pointer (some ⟨b2, 0, none⟩)) ?_
 simp only [p3, p4]
 refine sw 33 (.string ⟨(ratL (a1 * ((((a1.den : Int) * (a2.den : Int) * (a3.den : Int) : Int) : Rat))) : List UInt8).toArray⟩) rfl (rk 9 0 L2) ?_
 simp only [p3, p4]
 refine se ?_
 refine ec 34 (r1_gcd_0 (a1 * (((a1.den : Int) * (a2.den : Int) * (a3.den : Int) : Int) : Rat)) (tz ((a1.den : Int) * (a2.den : Int) * (a3.den : Int)) a1) e1 s1 (by omega) _) ?_
 rintro e35 w35 ⟨rfl, g35⟩
 refine ⟨_, rfl, ?_⟩
 replace hB := hB.trans g35
 simp only [p3, p4]
 refine sv 4 (.string ⟨(Lib.itoa ((Int.gcd 0 (tz ((a1.den : Int) * (a2.den : Int) * (a3.den : Int)) a1) : Int)) : List UInt8).toArray⟩) ?_
 simp only [p3, p4]
 refine sq_nil ?_
 refine k34 _ _ ?_
 try clear k34 K34
 refine rg [0, 1, 2] ?_
 refine sv 28 (.int .i64 0) ?_
 simp only [p3, p4]
 refine sv 29 (.int .i64 1) ?_
 simp only [p3, p4]
 refine sv 8 (.int .i64 1) ?_
 simp only [p3, p4]
 refine sq_nil ?_
 show Code.rounds _ _ _ _ _ _
 show Code.wp _ _ _ _ _
 refine wp_seq_k (fun K36 k36 => ?_)
 refine wp_seq_k (fun K37 k37 => ?_)
 refine rg [0, 1] ?_
 refine sv 26 (.int .i64 1) ?_
 simp only [p3, p4]
 refine sv 27 (.bool true) ?_
 simp only [p3, p4]
 refine sq_nil ?_
 refine k37 _ _ ?_
 try clear k37 K37
 refine wp_cond_true rfl ?_
 refine wp_skip ?_
 refine k36 _ _ ?_
 try clear k36 K36
 refine wp_seq_k (fun K38 k38 => ?_)
 refine wp_block ?_
 refine rg [0, 1, 2, 3, 4, 5] ?_
 refine sv 30 (.string ⟨(Lib.itoa ((Int.gcd 0 (tz ((a1.den : Int) * (a2.den : Int) * (a3.den : Int)) a1) : Int)) : List UInt8).toArray⟩) ?_
 simp only [p3, p4]
 refine sv 31 (.int .i64 1) ?_
 simp only [p3, p4]
 refine sv 32 (.pointer (some ⟨b2, 1, none⟩)) ?_
 simp only [p3, p4]
 replace L2 := L2.gr g35
 refine sw 33 (.string ⟨(ratL (a2 * ((((a1.den : Int) * (a2.den : Int) * (a3.den : Int) : Int) : Rat))) : List UInt8).toArray⟩) rfl (rk 9 1 L2) ?_
 simp only [p3, p4]
 refine se ?_
 refine ec 34 (r1_gcd_q (Int.gcd 0 (tz ((a1.den : Int) * (a2.den : Int) * (a3.den : Int)) a1) : Int) (a2 * (((a1.den : Int) * (a2.den : Int) * (a3.den : Int) : Int) : Rat)) (tz ((a1.den : Int) * (a2.den : Int) * (a3.den : Int)) a2) e2 sg1 s2 (by omega) _) ?_
 rintro e39 w39 ⟨rfl, g39⟩
 refine ⟨_, rfl, ?_⟩
 replace hB := hB.trans g39
 simp only [p3, p4]
 refine sv 4 (.string ⟨(Lib.itoa ((Int.gcd (Int.gcd 0 (tz ((a1.den : Int) * (a2.den : Int) * (a3.den : Int)) a1) : Int) (tz ((a1.den : Int) * (a2.den : Int) * (a3.den : Int)) a2) : Int)) : List UInt8).toArray⟩) ?_
 simp only [p3, p4]
 refine sq_nil ?_
 refine k38 _ _ ?_
 try clear k38 K38
 refine rg [0, 1, 2] ?_
 refine sv 28 (.int .i64 1) ?_
 simp only [p3, p4]
 refine sv 29 (.int .i64 2) ?_
 simp only [p3, p4]
 refine sv 8 (.int .i64 2) ?_
 simp only [p3, p4]
 refine sq_nil ?_
 show Code.rounds _ _ _ _ _ _
 show Code.wp _ _ _ _ _
 refine wp_seq_k (fun K40 k40 => ?_)
 refine wp_seq_k (fun K41 k41 => ?_)
 refine rg [0, 1] ?_
 refine sv 26 (.int .i64 2) ?_
 simp only [p3, p4]
 refine sv 27 (.bool true) ?_
 simp only [p3, p4]
 refine sq_nil ?_
 refine k41 _ _ ?_
 try clear k41 K41
 refine wp_cond_true rfl ?_
 refine wp_skip ?_
 refine k40 _ _ ?_
 try clear k40 K40
 refine wp_seq_k (fun K42 k42 => ?_)
 refine wp_block ?_
 refine rg [0, 1, 2, 3, 4, 5] ?_
 refine sv 30 (.string ⟨(Lib.itoa ((Int.gcd (Int.gcd 0 (tz ((a1.den : Int) * (a2.den : Int) * (a3.den : Int)) a1) : Int) (tz ((a1.den : Int) * (a2.den : Int) * (a3.den : Int)) a2) : Int)) : List UInt8).toArray⟩) ?_
 simp only [p3, p4]
 refine sv 31 (.int .i64 2) ?_
 simp only [p3, p4]
 refine sv 32 (.pointer (some ⟨b2, 2, none⟩)) ?_
 simp only [p3, p4]
 replace L2 := L2.gr g39
 refine sw 33 (.string ⟨(ratL (a3 * ((((a1.den : Int) * (a2.den : Int) * (a3.den : Int) : Int) : Rat))) : List UInt8).toArray⟩) rfl (rk 9 2 L2) ?_
 simp only [p3, p4]
 refine se ?_
 refine ec 34 (r1_gcd_q (Int.gcd (Int.gcd 0 (tz ((a1.den : Int) * (a2.den : Int) * (a3.den : Int)) a1) : Int) (tz ((a1.den : Int) * (a2.den : Int) * (a3.den : Int)) a2) : Int) (a3 * (((a1.den : Int) * (a2.den : Int) * (a3.den : Int) : Int) : Rat)) (tz ((a1.den : Int) * (a2.den : Int) * (a3.den : Int)) a3) e3 sg2 s3 (by omega) _) ?_
 rintro e43 w43 ⟨rfl, g43⟩
 refine ⟨_, rfl, ?_⟩
 replace hB := hB.trans g43
 simp only [p3, p4]
 refine sv 4 (.string ⟨(Lib.itoa ((Int.gcd (Int.gcd (Int.gcd 0 (tz ((a1.den : Int) * (a2.den : Int) * (a3.den : Int)) a1) : Int) (tz ((a1.den : Int) * (a2.den : Int) * (a3.den : Int)) a2) : Int) (tz ((a1.den : Int) * (a2.den : Int) * (a3.den : Int)) a3) : Int)) : List UInt8).toArray⟩) ?_
 simp only [p3, p4]
 refine sq_nil ?_
 refine k42 _ _ ?_
 try clear k42 K42
 refine rg [0, 1, 2] ?_
 refine sv 28 (.int .i64 2) ?_
 simp only [p3, p4]
 refine sv 29 (.int .i64 3) ?_
 simp only [p3, p4]
 refine sv 8 (.int .i64 3) ?_
 simp only [p3, p4]
 refine sq_nil ?_
 show Code.rounds _ _ _ _ _ _
 show Code.wp _ _ _ _ _
 refine wp_seq_k (fun K44 k44 => ?_)
 refine wp_seq_k (fun K45 k45 => ?_)
 refine rg [0, 1] ?_
 refine sv 26 (.int .i64 3) ?_
 simp only [p3, p4]
 refine sv 27 (.bool false) ?_
 simp only [p3, p4]
 refine sq_nil ?_
 refine k45 _ _ ?_
 try clear k45 K45
 refine wp_cond_false rfl ?_
 refine wp_exit ?_
 simp only [Exit.then, Exit.inBlock, ↓reduceIte]
 refine k30 _ _ ?_
 try clear k30 K30
 refine wp_seq_k (fun K46 k46 => ?_)
 have gd54 := Gr.drew w43
 replace hB := hB.trans gd54
 replace L2 := L2.gr (g43.trans gd54)
 refine wp_region_ord (fun w' => Lc w' b2 #[(.string ⟨(ratL (a1 * ((((a1.den : Int) * (a2.den : Int) * (a3.den : Int) : Int) : Rat))) : List UInt8).toArray⟩), (.string ⟨(ratL (a2 * ((((a1.den : Int) * (a2.den : Int) * (a3.den : Int) : Int) : Rat))) : List UInt8).toArray⟩), (.string ⟨(ratL (a3 * ((((a1.den : Int) * (a2.den : Int) * (a3.den : Int) : Int) : Rat))) : List UInt8).toArray⟩)] 49) [(true, 0), (true, 1), (false, 2), (false, 3), (false, 4)] (by kernel_rfl) (by kernel_rfl) (by kernel_rfl) (by decide) (fun _ _ _ _ _ h => h) L2 ?_
 refine ow 35 (.agg #[(.string ⟨(ratL (a1 * ((((a1.den : Int) * (a2.den : Int) * (a3.den : Int) : Int) : Rat))) : List UInt8).toArray⟩), (.string ⟨(ratL (a2 * ((((a1.den : Int) * (a2.den : Int) * (a3.den : Int) : Int) : Rat))) : List UInt8).toArray⟩), (.string ⟨(ratL (a3 * ((((a1.den : Int) * (a2.den : Int) * (a3.den : Int) : Int) : Rat))) : List UInt8).toArray⟩)]) rfl (fun w' hS => (rl 49 0 [(.string ⟨(ratL (a1 * ((((a1.den : Int) * (a2.den : Int) * (a3.den : Int) : Int) : Rat))) : List UInt8).toArray⟩), (.string ⟨(ratL (a2 * ((((a1.den : Int) * (a2.den : Int) * (a3.den : Int) : Int) : Rat))) : List UInt8).toArray⟩), (.string ⟨(ratL (a3 * ((((a1.den : Int) * (a2.den : Int) * (a3.den : Int) : Int) : Rat))) : List UInt8).toArray⟩)] hS)) ?_
 simp only [p3, p4]
 refine ov 36 (.string ⟨(Lib.itoa ((Int.gcd (Int.gcd (Int.gcd 0 (tz ((a1.den : Int) * (a2.den : Int) * (a3.den : Int)) a1) : Int) (tz ((a1.den : Int) * (a2.den : Int) * (a3.den : Int)) a2) : Int) (tz ((a1.den : Int) * (a2.den : Int) * (a3.den : Int)) a3) : Int)) : List UInt8).toArray⟩) ?_
 simp only [p3, p4]
 refine oe ?_
 refine ec 37 (r2_div_1 (Int.gcd (Int.gcd (Int.gcd 0 (tz ((a1.den : Int) * (a2.den : Int) * (a3.den : Int)) a1) : Int) (tz ((a1.den : Int) * (a2.den : Int) * (a3.den : Int)) a2) : Int) (tz ((a1.den : Int) * (a2.den : Int) * (a3.den : Int)) a3) : Int) sg3 hgp (by omega) (by omega) _) ?_
 rintro e56 w56 ⟨rfl, g56⟩
 refine ⟨_, rfl, ?_⟩
 replace hB := hB.trans g56
 replace L2 := L2.gr g56
 refine ⟨L2, ?_⟩
 simp only [p3, p4]
 refine oe ?_
 refine ec 38 (r3_scale (a1 * ((((a1.den : Int) * (a2.den : Int) * (a3.den : Int) : Int) : Rat))) (a2 * ((((a1.den : Int) * (a2.den : Int) * (a3.den : Int) : Int) : Rat))) (a3 * ((((a1.den : Int) * (a2.den : Int) * (a3.den : Int) : Int) : Rat))) (ha1.mul hDr) (ha2.mul hDr) (ha3.mul hDr) (1 / (((Int.gcd (Int.gcd (Int.gcd 0 (tz ((a1.den : Int) * (a2.den : Int) * (a3.den : Int)) a1) : Int) (tz ((a1.den : Int) * (a2.den : Int) * (a3.den : Int)) a2) : Int) (tz ((a1.den : Int) * (a2.den : Int) * (a3.den : Int)) a3) : Int) : Int) : Rat)) hGr (by omega) _) ?_
 rintro e58 w58 ⟨rfl, g58⟩
 refine ⟨_, rfl, ?_⟩
 replace hB := hB.trans g58
 replace L2 := L2.gr g58
 refine ⟨L2, ?_⟩
 simp only [p3, p4]
 refine oe ?_
 replace L3 := (st29.lc (L3.gr (g11.trans (g12.trans (g17.trans (g18.trans (g23.trans (g24.trans g28))))))) (Ne.symm ne2_3)).gr (g35.trans (g39.trans (g43.trans (gd54.trans (g56.trans g58)))))
 refine es 49 0 (.agg #[(.string ⟨(ratL ((a1 * ((((a1.den : Int) * (a2.den : Int) * (a3.den : Int) : Int) : Rat))) * (1 / (((Int.gcd (Int.gcd (Int.gcd 0 (tz ((a1.den : Int) * (a2.den : Int) * (a3.den : Int)) a1) : Int) (tz ((a1.den : Int) * (a2.den : Int) * (a3.den : Int)) a2) : Int) (tz ((a1.den : Int) * (a2.den : Int) * (a3.den : Int)) a3) : Int) : Int) : Rat))) : List UInt8).toArray⟩), (.string ⟨(ratL ((a2 * ((((a1.den : Int) * (a2.den : Int) * (a3.den : Int) : Int) : Rat))) * (1 / (((Int.gcd (Int.gcd (Int.gcd 0 (tz ((a1.den : Int) * (a2.den : Int) * (a3.den : Int)) a1) : Int) (tz ((a1.den : Int) * (a2.den : Int) * (a3.den : Int)) a2) : Int) (tz ((a1.den : Int) * (a2.den : Int) * (a3.den : Int)) a3) : Int) : Int) : Rat))) : List UInt8).toArray⟩), (.string ⟨(ratL ((a3 * ((((a1.den : Int) * (a2.den : Int) * (a3.den : Int) : Int) : Rat))) * (1 / (((Int.gcd (Int.gcd (Int.gcd 0 (tz ((a1.den : Int) * (a2.den : Int) * (a3.den : Int)) a1) : Int) (tz ((a1.den : Int) * (a2.den : Int) * (a3.den : Int)) a2) : Int) (tz ((a1.den : Int) * (a2.den : Int) * (a3.den : Int)) a3) : Int) : Int) : Rat))) : List UInt8).toArray⟩)]) [(.string ⟨(ratL ((a1 * ((((a1.den : Int) * (a2.den : Int) * (a3.den : Int) : Int) : Rat))) * (1 / (((Int.gcd (Int.gcd (Int.gcd 0 (tz ((a1.den : Int) * (a2.den : Int) * (a3.den : Int)) a1) : Int) (tz ((a1.den : Int) * (a2.den : Int) * (a3.den : Int)) a2) : Int) (tz ((a1.den : Int) * (a2.den : Int) * (a3.den : Int)) a3) : Int) : Int) : Rat))) : List UInt8).toArray⟩), (.string ⟨(ratL ((a2 * ((((a1.den : Int) * (a2.den : Int) * (a3.den : Int) : Int) : Rat))) * (1 / (((Int.gcd (Int.gcd (Int.gcd 0 (tz ((a1.den : Int) * (a2.den : Int) * (a3.den : Int)) a1) : Int) (tz ((a1.den : Int) * (a2.den : Int) * (a3.den : Int)) a2) : Int) (tz ((a1.den : Int) * (a2.den : Int) * (a3.den : Int)) a3) : Int) : Int) : Rat))) : List UInt8).toArray⟩), (.string ⟨(ratL ((a3 * ((((a1.den : Int) * (a2.den : Int) * (a3.den : Int) : Int) : Rat))) * (1 / (((Int.gcd (Int.gcd (Int.gcd 0 (tz ((a1.den : Int) * (a2.den : Int) * (a3.den : Int)) a1) : Int) (tz ((a1.den : Int) * (a2.den : Int) * (a3.den : Int)) a2) : Int) (tz ((a1.den : Int) * (a2.den : Int) * (a3.den : Int)) a3) : Int) : Int) : Rat))) : List UInt8).toArray⟩)] #[(.string ⟨(ratL ((a1 * ((((a1.den : Int) * (a2.den : Int) * (a3.den : Int) : Int) : Rat))) * (1 / (((Int.gcd (Int.gcd (Int.gcd 0 (tz ((a1.den : Int) * (a2.den : Int) * (a3.den : Int)) a1) : Int) (tz ((a1.den : Int) * (a2.den : Int) * (a3.den : Int)) a2) : Int) (tz ((a1.den : Int) * (a2.den : Int) * (a3.den : Int)) a3) : Int) : Int) : Rat))) : List UInt8).toArray⟩), (.string ⟨(ratL ((a2 * ((((a1.den : Int) * (a2.den : Int) * (a3.den : Int) : Int) : Rat))) * (1 / (((Int.gcd (Int.gcd (Int.gcd 0 (tz ((a1.den : Int) * (a2.den : Int) * (a3.den : Int)) a1) : Int) (tz ((a1.den : Int) * (a2.den : Int) * (a3.den : Int)) a2) : Int) (tz ((a1.den : Int) * (a2.den : Int) * (a3.den : Int)) a3) : Int) : Int) : Rat))) : List UInt8).toArray⟩), (.string ⟨(ratL ((a3 * ((((a1.den : Int) * (a2.den : Int) * (a3.den : Int) : Int) : Rat))) * (1 / (((Int.gcd (Int.gcd (Int.gcd 0 (tz ((a1.den : Int) * (a2.den : Int) * (a3.den : Int)) a1) : Int) (tz ((a1.den : Int) * (a2.den : Int) * (a3.den : Int)) a2) : Int) (tz ((a1.den : Int) * (a2.den : Int) * (a3.den : Int)) a3) : Int) : Int) : Rat))) : List UInt8).toArray⟩)] L3 hB q3 ⟨rfl, rfl, rfl, trivial⟩ fun w60 st60 kp60 L3 hB => ?_
 replace L2 := st60.lc L2 ne2_3
 refine ⟨L2, ?_⟩
 refine ord_nil ?_
 refine k46 _ _ ?_
 try clear k46 K46
 refine wp_ret ?_
 refine bodyPost_ret (v := (.agg #[(.string ⟨(ratL ((a1 * ((((a1.den : Int) * (a2.den : Int) * (a3.den : Int) : Int) : Rat))) * (1 / (((Int.gcd (Int.gcd (Int.gcd 0 (tz ((a1.den : Int) * (a2.den : Int) * (a3.den : Int)) a1) : Int) (tz ((a1.den : Int) * (a2.den : Int) * (a3.den : Int)) a2) : Int) (tz ((a1.den : Int) * (a2.den : Int) * (a3.den : Int)) a3) : Int) : Int) : Rat))) : List UInt8).toArray⟩), (.string ⟨(ratL ((a2 * ((((a1.den : Int) * (a2.den : Int) * (a3.den : Int) : Int) : Rat))) * (1 / (((Int.gcd (Int.gcd (Int.gcd 0 (tz ((a1.den : Int) * (a2.den : Int) * (a3.den : Int)) a1) : Int) (tz ((a1.den : Int) * (a2.den : Int) * (a3.den : Int)) a2) : Int) (tz ((a1.den : Int) * (a2.den : Int) * (a3.den : Int)) a3) : Int) : Int) : Rat))) : List UInt8).toArray⟩), (.string ⟨(ratL ((a3 * ((((a1.den : Int) * (a2.den : Int) * (a3.den : Int) : Int) : Rat))) * (1 / (((Int.gcd (Int.gcd (Int.gcd 0 (tz ((a1.den : Int) * (a2.den : Int) * (a3.den : Int)) a1) : Int) (tz ((a1.den : Int) * (a2.den : Int) * (a3.den : Int)) a2) : Int) (tz ((a1.den : Int) * (a2.den : Int) * (a3.den : Int)) a3) : Int) : Int) : Rat))) : List UInt8).toArray⟩)])) (ret_cell _ _ _ rfl rfl L3 (by kernel_rfl)) rfl ⟨?_, hB⟩
 exact rfl

theorem r3_prim {k : Nat} (a1 : Rat) (a2 : Rat) (a3 : Rat) (ha1 : RS k a1) (ha2 : RS k a2) (ha3 : RS k a3) (hk : k ≤ 120) (hk0 : 0 < k) (hz0 : ¬(a1 = 0 ∧ a2 = 0 ∧ a3 = 0)) (w : World) :
    Calls Tryz.prog 35 #[(.agg #[(.string ⟨(ratL (a1) : List UInt8).toArray⟩), (.string ⟨(ratL (a2) : List UInt8).toArray⟩), (.string ⟨(ratL (a3) : List UInt8).toArray⟩)])] w fun e w' => e = .returned (.agg #[.string ⟨(ratL (prim a1 a2 a3 a1)).toArray⟩, .string ⟨(ratL (prim a1 a2 a3 a2)).toArray⟩, .string ⟨(ratL (prim a1 a2 a3 a3)).toArray⟩]) ∧ Gr w w' := by
  obtain ⟨hdp, hd1, hd2, hd3⟩ := den_prod a1 a2 a3
  have h := (prim_ref hdp hd1 hd2 hd3 hz0).2
  have h0 := r3_prim0 a1 a2 a3 ha1 ha2 ha3 hk hk0 hz0 w
  rw [h a1 (by simp), h a2 (by simp), h a3 (by simp)]
  exact h0

theorem lawVm0 (a1 a2 a3 : Rat)  : sEq [ratL (prim (a1) (a2) (a3) (a1)), ratL (prim (a1) (a2) (a3) (a2)), ratL (prim (a1) (a2) (a3) (a3))] [ratL (prim (a1) (a2) (a3) (a1)), ratL (prim (a1) (a2) (a3) (a2)), ratL (prim (a1) (a2) (a3) (a3))] = true := sEq_q rfl rfl rfl
theorem lawVm1 (c1 c2 c3 : Rat)  : sEq [ratL (prim (c1) (c2) (c3) (c1)), ratL (prim (c1) (c2) (c3) (c2)), ratL (prim (c1) (c2) (c3) (c3))] [ratL (prim (c1) (c2) (c3) (c1)), ratL (prim (c1) (c2) (c3) (c2)), ratL (prim (c1) (c2) (c3) (c3))] = true := sEq_q rfl rfl rfl
theorem lawVm2 (Qm1 Qm2 Qm3 : Rat)  : sEq [ratL (prim ((Qm1)) ((Qm2)) ((Qm3)) ((Qm1))), ratL (prim ((Qm1)) ((Qm2)) ((Qm3)) ((Qm2))), ratL (prim ((Qm1)) ((Qm2)) ((Qm3)) ((Qm3)))] [ratL (prim (Qm1) (Qm2) (Qm3) (Qm1)), ratL (prim (Qm1) (Qm2) (Qm3) (Qm2)), ratL (prim (Qm1) (Qm2) (Qm3) (Qm3))] = true := sEq_q rfl rfl rfl
set_option maxRecDepth 100000 in
set_option maxHeartbeats 16000000 in
theorem vprm_q (ia1 ia2 ia3 da : Int) (ja1 : -128 ≤ ia1 ∧ ia1 ≤ 127) (ja2 : -128 ≤ ia2 ∧ ia2 ≤ 127) (ja3 : -128 ≤ ia3 ∧ ia3 ≤ 127) (jda : 0 ≤ da ∧ da ≤ 255) (a1 a2 a3 : Rat) (ea1 : a1 = ((ia1 : Int) : Rat) / ((1 + da % 6 : Int) : Rat)) (ea2 : a2 = ((ia2 : Int) : Rat) / ((1 + da % 6 : Int) : Rat)) (ea3 : a3 = ((ia3 : Int) : Rat) / ((1 + da % 6 : Int) : Rat)) (ic1 ic2 ic3 dc : Int) (jc1 : -128 ≤ ic1 ∧ ic1 ≤ 127) (jc2 : -128 ≤ ic2 ∧ ic2 ≤ 127) (jc3 : -128 ≤ ic3 ∧ ic3 ≤ 127) (jdc : 0 ≤ dc ∧ dc ≤ 255) (c1 c2 c3 : Rat) (ec1 : c1 = ((ic1 : Int) : Rat) / ((1 + dc % 6 : Int) : Rat)) (ec2 : c2 = ((ic2 : Int) : Rat) / ((1 + dc % 6 : Int) : Rat)) (ec3 : c3 = ((ic3 : Int) : Rat) / ((1 + dc % 6 : Int) : Rat)) (m1 m2 m3 : Int) (_jm1 : -9223372036854775808 ≤ m1 ∧ m1 ≤ 9223372036854775807) (_jm2 : -9223372036854775808 ≤ m2 ∧ m2 ≤ 9223372036854775807) (_jm3 : -9223372036854775808 ≤ m3 ∧ m3 ≤ 9223372036854775807) (w : World) (ht : Tab w) (hm : Mx w) :
    Calls Tryz.prog 6 #[(.agg #[(.int .i8 (ia1)), (.int .i8 (ia2)), (.int .i8 (ia3)), (.int .u8 (da))]), (.agg #[(.int .i8 (ic1)), (.int .i8 (ic2)), (.int .i8 (ic3)), (.int .u8 (dc))]), (.agg #[(.int .i64 (m1)), (.int .i64 (m2)), (.int .i64 (m3))])] w fun e w' => e = .returned (.bool true) ∧ Gr w w' := by
 have ha1 : RS 16 a1 := small_rs ja1 jda ea1
 have ha2 : RS 16 a2 := small_rs ja2 jda ea2
 have ha3 : RS 16 a3 := small_rs ja3 jda ea3
 have hc1 : RS 16 c1 := small_rs jc1 jdc ec1
 have hc2 : RS 16 c2 := small_rs jc2 jdc ec2
 have hc3 : RS 16 c3 := small_rs jc3 jdc ec3
 go_enter Tryz.func6, Tryz.ntmps6
 have hB := Gr.refl w
 refine wp_seq_k (fun K1 k1 => ?_)
 refine rg [0, 1, 2, 3] ?_
 refine se ?_
 refine eb 42 #[(.int .i8 (ia1)), (.int .i8 (ia2)), (.int .i8 (ia3)), (.int .u8 (da))] 3 hB fun b2 w2 g2 L2 o2 q2 hB => ?_
 simp only [p3, p4]
 refine se ?_
 refine eb 42 #[(.int .i8 (ic1)), (.int .i8 (ic2)), (.int .i8 (ic3)), (.int .u8 (dc))] 4 hB fun b3 w3 g3 L3 o3 q3 hB => ?_
 simp only [p3, p4]
 refine se ?_
 refine eb 45 #[(.int .i64 (m1)), (.int .i64 (m2)), (.int .i64 (m3))] 5 hB fun b4 w4 g4 L4 o4 q4 hB => ?_
 replace L2 := L2.gr g3
 simp only [p3, p4]
 refine sv 6 (.bool false) ?_
 simp only [p3, p4]
 refine sq_nil ?_
 refine k1 _ _ ?_
 try clear k1 K1
 refine wp_seq_k (fun K5 k5 => ?_)
 refine wp_seq_k (fun K6 k6 => ?_)
 refine rg [0, 1] ?_
 refine se ?_
 refine ec 13 (known3 _ (ht.gr hB) (hm.gr hB)) ?_
 rintro e7 w7 ⟨rfl, g7⟩
 refine ⟨_, rfl, ?_⟩
 replace hB := hB.trans g7
 simp only [p3, p4]
 refine sv 14 (.bool false) ?_
 simp only [p3, p4]
 refine sq_nil ?_
 refine k6 _ _ ?_
 try clear k6 K6
 refine wp_cond_false rfl ?_
 refine wp_skip ?_
 refine k5 _ _ ?_
 try clear k5 K5
 refine wp_seq_k (fun K8 k8 => ?_)
 have gd18 := Gr.drew w7
 replace hB := hB.trans gd18
 replace L2 := L2.gr (g4.trans (g7.trans gd18))
 replace L3 := L3.gr (g4.trans (g7.trans gd18))
 replace L4 := L4.gr (g7.trans gd18)
 refine wp_region_ord (fun w' => Lc w' b2 #[(.int .i8 (ia1)), (.int .i8 (ia2)), (.int .i8 (ia3)), (.int .u8 (da))] 42 ∧ Lc w' b3 #[(.int .i8 (ic1)), (.int .i8 (ic2)), (.int .i8 (ic3)), (.int .u8 (dc))] 42 ∧ Lc w' b4 #[(.int .i64 (m1)), (.int .i64 (m2)), (.int .i64 (m3))] 45) [(true, 0), (true, 2), (true, 4), (false, 1), (false, 3), (false, 5), (false, 6), (true, 7)] (by kernel_rfl) (by kernel_rfl) (by kernel_rfl) (by decide) (fun _ _ _ _ _ h => h) ⟨L2, L3, L4⟩ ?_
 refine ow 15 (.agg #[(.int .i8 (ia1)), (.int .i8 (ia2)), (.int .i8 (ia3)), (.int .u8 (da))]) rfl (fun w' hS => (rl 42 0 [(.int .i8 (ia1)), (.int .i8 (ia2)), (.int .i8 (ia3)), (.int .u8 (da))] hS.1)) ?_
 simp only [p3, p4]
 refine ow 17 (.agg #[(.int .i8 (ic1)), (.int .i8 (ic2)), (.int .i8 (ic3)), (.int .u8 (dc))]) rfl (fun w' hS => (rl 42 0 [(.int .i8 (ic1)), (.int .i8 (ic2)), (.int .i8 (ic3)), (.int .u8 (dc))] hS.2.1)) ?_
 simp only [p3, p4]
 refine ow 19 (.agg #[(.int .i64 (m1)), (.int .i64 (m2)), (.int .i64 (m3))]) rfl (fun w' hS => (rl 45 0 [(.int .i64 (m1)), (.int .i64 (m2)), (.int .i64 (m3))] hS.2.2)) ?_
 simp only [p3, p4]
 refine oe ?_
 refine ec 16 (texts_v ia1 ia2 ia3 da ja1 ja2 ja3 jda a1 a2 a3 ea1 ea2 ea3 _) ?_
 rintro e20 w20 ⟨rfl, g20⟩
 refine ⟨_, rfl, ?_⟩
 replace hB := hB.trans g20
 replace L2 := L2.gr g20
 replace L3 := L3.gr g20
 replace L4 := L4.gr g20
 refine ⟨⟨L2, L3, L4⟩, ?_⟩
 simp only [p3, p4]
 refine oe ?_
 refine ec 18 (texts_v ic1 ic2 ic3 dc jc1 jc2 jc3 jdc c1 c2 c3 ec1 ec2 ec3 _) ?_
 rintro e22 w22 ⟨rfl, g22⟩
 refine ⟨_, rfl, ?_⟩
 replace hB := hB.trans g22
 replace L2 := L2.gr g22
 replace L3 := L3.gr g22
 replace L4 := L4.gr g22
 refine ⟨⟨L2, L3, L4⟩, ?_⟩
 simp only [p3, p4]
 refine oe ?_
 refine ec 20 (r3_of (m1) (m2) (m3) (by omega) (by omega) (by omega) _) ?_
 rintro e24 w24 ⟨rfl, g24⟩
 refine ⟨_, rfl, ?_⟩
 replace hB := hB.trans g24
 replace L2 := L2.gr g24
 replace L3 := L3.gr g24
 replace L4 := L4.gr g24
 refine ⟨⟨L2, L3, L4⟩, ?_⟩
 simp only [p3, p4]
 refine oe ?_
 refine eff_bs 49 3 #[(.string ⟨(ratL (a1) : List UInt8).toArray⟩), (.string ⟨(ratL (a2) : List UInt8).toArray⟩), (.string ⟨(ratL (a3) : List UInt8).toArray⟩), (.string ⟨(ratL (c1) : List UInt8).toArray⟩), (.string ⟨(ratL (c2) : List UInt8).toArray⟩), (.string ⟨(ratL (c3) : List UInt8).toArray⟩), (.string ⟨(ratL (((m1 : Int) : Rat)) : List UInt8).toArray⟩), (.string ⟨(ratL (((m2 : Int) : Rat)) : List UInt8).toArray⟩), (.string ⟨(ratL (((m3 : Int) : Rat)) : List UInt8).toArray⟩)] (some 21) rfl (fun _ => by kernel_rfl) (fun b26 w26 g26 L26 q26 => ?_)
 replace hB := hB.trans g26
 replace L2 := L2.gr g26
 replace L3 := L3.gr g26
 replace L4 := L4.gr g26
 refine ⟨⟨L2, L3, L4⟩, ?_⟩
 simp only [putl, p3, p4]
 refine ov 7 (.slice (some ⟨b26, 0, none⟩) 3 3) ?_
 simp only [p3, p4]
 refine ord_nil ?_
 refine k8 _ _ ?_
 try clear k8 K8
 refine wp_seq_k (fun K27 k27 => ?_)
 have gd37 := Gr.drew w26
 replace hB := hB.trans gd37
 replace L2 := L2.gr gd37
 replace L3 := L3.gr gd37
 replace L4 := L4.gr gd37
 refine wp_region_ord (fun w' => Lc w' b2 #[(.int .i8 (ia1)), (.int .i8 (ia2)), (.int .i8 (ia3)), (.int .u8 (da))] 42 ∧ Lc w' b3 #[(.int .i8 (ic1)), (.int .i8 (ic2)), (.int .i8 (ic3)), (.int .u8 (dc))] 42 ∧ Lc w' b4 #[(.int .i64 (m1)), (.int .i64 (m2)), (.int .i64 (m3))] 45) [(true, 0), (true, 2), (true, 4), (false, 1), (false, 3), (false, 5), (false, 6), (true, 7)] (by kernel_rfl) (by kernel_rfl) (by kernel_rfl) (by decide) (fun _ _ _ _ _ h => h) ⟨L2, L3, L4⟩ ?_
 refine ow 22 (.agg #[(.int .i8 (ia1)), (.int .i8 (ia2)), (.int .i8 (ia3)), (.int .u8 (da))]) rfl (fun w' hS => (rl 42 0 [(.int .i8 (ia1)), (.int .i8 (ia2)), (.int .i8 (ia3)), (.int .u8 (da))] hS.1)) ?_
 simp only [p3, p4]
 refine ow 24 (.agg #[(.int .i8 (ic1)), (.int .i8 (ic2)), (.int .i8 (ic3)), (.int .u8 (dc))]) rfl (fun w' hS => (rl 42 0 [(.int .i8 (ic1)), (.int .i8 (ic2)), (.int .i8 (ic3)), (.int .u8 (dc))] hS.2.1)) ?_
 simp only [p3, p4]
 refine ow 26 (.agg #[(.int .i64 (m1)), (.int .i64 (m2)), (.int .i64 (m3))]) rfl (fun w' hS => (rl 45 0 [(.int .i64 (m1)), (.int .i64 (m2)), (.int .i64 (m3))] hS.2.2)) ?_
 simp only [p3, p4]
 refine oe ?_
 refine ec 23 (made_v ia1 ia2 ia3 da ja1 ja2 ja3 jda a1 a2 a3 ea1 ea2 ea3 _ (hm.gr hB)) ?_
 rintro e39 w39 ⟨⟨t39_0, t39_1, t39_2, t39_3, t39_4, t39_5, t39_6, t39_7, t39_8, t39_9, t39_10, t39_11, rfl, h39a, h39b, h39c⟩, g39⟩
 refine ⟨_, rfl, ?_⟩
 replace hB := hB.trans g39
 replace L2 := L2.gr g39
 replace L3 := L3.gr g39
 replace L4 := L4.gr g39
 refine ⟨⟨L2, L3, L4⟩, ?_⟩
 simp only [p3, p4]
 refine oe ?_
 refine ec 25 (made_v ic1 ic2 ic3 dc jc1 jc2 jc3 jdc c1 c2 c3 ec1 ec2 ec3 _ (hm.gr hB)) ?_
 rintro e41 w41 ⟨⟨t41_0, t41_1, t41_2, t41_3, t41_4, t41_5, t41_6, t41_7, t41_8, t41_9, t41_10, t41_11, rfl, h41a, h41b, h41c⟩, g41⟩
 refine ⟨_, rfl, ?_⟩
 replace hB := hB.trans g41
 replace L2 := L2.gr g41
 replace L3 := L3.gr g41
 replace L4 := L4.gr g41
 refine ⟨⟨L2, L3, L4⟩, ?_⟩
 simp only [p3, p4]
 refine oe ?_
 refine ec 27 (vof_v (m1) (m2) (m3) (by omega) (by omega) (by omega) _) ?_
 rintro e43 w43 ⟨⟨t43_0, t43_1, t43_2, t43_3, t43_4, t43_5, t43_6, t43_7, t43_8, t43_9, t43_10, t43_11, rfl, h43a, h43b, h43c⟩, g43⟩
 refine ⟨_, rfl, ?_⟩
 replace hB := hB.trans g43
 replace L2 := L2.gr g43
 replace L3 := L3.gr g43
 replace L4 := L4.gr g43
 refine ⟨⟨L2, L3, L4⟩, ?_⟩
 simp only [p3, p4]
 refine oe ?_
 refine eff_bs 32 3 #[t39_0, t39_1, t39_2, t39_3, t39_4, t39_5, t39_6, t39_7, t39_8, t39_9, t39_10, t39_11, t41_0, t41_1, t41_2, t41_3, t41_4, t41_5, t41_6, t41_7, t41_8, t41_9, t41_10, t41_11, t43_0, t43_1, t43_2, t43_3, t43_4, t43_5, t43_6, t43_7, t43_8, t43_9, t43_10, t43_11] (some 28) rfl (fun _ => by kernel_rfl) (fun b45 w45 g45 L45 q45 => ?_)
 replace L26 := L26.gr (gd37.trans (g39.trans (g41.trans g43)))
 replace hB := hB.trans g45
 replace L2 := L2.gr g45
 replace L3 := L3.gr g45
 replace L4 := L4.gr g45
 refine ⟨⟨L2, L3, L4⟩, ?_⟩
 simp only [putl, p3, p4]
 refine ov 8 (.slice (some ⟨b45, 0, none⟩) 3 3) ?_
 simp only [p3, p4]
 refine ord_nil ?_
 refine k27 _ _ ?_
 try clear k27 K27
 refine wp_seq_k (fun K46 k46 => ?_)
 refine wp_seq_k (fun K47 k47 => ?_)
 refine rg [0] ?_
 refine sv 9 (.int .i64 0) ?_
 simp only [p3, p4]
 refine sq_nil ?_
 refine k47 _ _ ?_
 try clear k47 K47
 refine wp_block ?_
 refine wp_loop_rounds 4 ?_
 show Code.wp _ _ _ _ _
 refine wp_seq_k (fun K48 k48 => ?_)
 refine wp_seq_k (fun K49 k49 => ?_)
 refine rg [0, 1] ?_
 refine sv 29 (.int .i64 0) ?_
 simp only [p3, p4]
 refine sv 30 (.bool true) ?_
 simp only [p3, p4]
 refine sq_nil ?_
 refine k49 _ _ ?_
 try clear k49 K49
 refine wp_cond_true rfl ?_
 refine wp_skip ?_
 refine k48 _ _ ?_
 try clear k48 K48
 refine wp_seq_k (fun K50 k50 => ?_)
 refine wp_block ?_
 refine wp_cut2 (fun a w' => ∃  (u51 : Nat → Value), a = ⟨[(u51 0), (u51 1), (u51 2), (.pointer (some ⟨b2, 0, none⟩)), (.pointer (some ⟨b3, 0, none⟩)), (.pointer (some ⟨b4, 0, none⟩)), (u51 6), (.slice (some ⟨b26, 0, none⟩) 3 3), (.slice (some ⟨b45, 0, none⟩) 3 3), (.int .i64 0), (u51 10), (u51 11), undef, (u51 13), (.bool false), (u51 15), (u51 16), (u51 17), (u51 18), (u51 19), (u51 20), (u51 21), (u51 22), (u51 23), (u51 24), (u51 25), (u51 26), (u51 27), (u51 28), (u51 29), (.bool true), undef, undef, (u51 33), (u51 34), (u51 35), (u51 36), (u51 37), (u51 38), (u51 39), (u51 40), (u51 41), (u51 42), (u51 43), (u51 44), (u51 45), (u51 46), (u51 47), (u51 48), (u51 49), (u51 50), (u51 51), (u51 52), (u51 53), (u51 54), (u51 55), (u51 56), (u51 57), (u51 58), (u51 59), (u51 60), (u51 61), (u51 62), (u51 63), (u51 64), (u51 65), (u51 66), (u51 67), (u51 68), (u51 69), (u51 70), (u51 71), (u51 72), (u51 73), (u51 74), (u51 75), (u51 76), (u51 77), (u51 78), (u51 79), (u51 80), (u51 81), (u51 82), (u51 83), (u51 84), (u51 85), undef, undef, undef, undef, undef, undef, undef, undef, undef, undef, undef, undef, undef, undef, undef, undef, undef, undef, undef, undef, undef, undef].toArray, []⟩ ∧ IsRat w' 64 t39_0 t39_1 t39_2 t39_3 (a1) ∧ IsRat w' 64 t39_4 t39_5 t39_6 t39_7 (a2) ∧ IsRat w' 64 t39_8 t39_9 t39_10 t39_11 (a3) ∧ IsRat w' 64 t41_0 t41_1 t41_2 t41_3 (c1) ∧ IsRat w' 64 t41_4 t41_5 t41_6 t41_7 (c2) ∧ IsRat w' 64 t41_8 t41_9 t41_10 t41_11 (c3) ∧ IsRat w' 64 t43_0 t43_1 t43_2 t43_3 ((((m1 : Int) : Rat))) ∧ IsRat w' 64 t43_4 t43_5 t43_6 t43_7 ((((m2 : Int) : Rat))) ∧ IsRat w' 64 t43_8 t43_9 t43_10 t43_11 ((((m3 : Int) : Rat))) ∧ Lc w' b26 #[(.string ⟨(ratL (a1) : List UInt8).toArray⟩), (.string ⟨(ratL (a2) : List UInt8).toArray⟩), (.string ⟨(ratL (a3) : List UInt8).toArray⟩), (.string ⟨(ratL (c1) : List UInt8).toArray⟩), (.string ⟨(ratL (c2) : List UInt8).toArray⟩), (.string ⟨(ratL (c3) : List UInt8).toArray⟩), (.string ⟨(ratL (((m1 : Int) : Rat)) : List UInt8).toArray⟩), (.string ⟨(ratL (((m2 : Int) : Rat)) : List UInt8).toArray⟩), (.string ⟨(ratL (((m3 : Int) : Rat)) : List UInt8).toArray⟩)] 49 ∧ Lc w' b45 #[t39_0, t39_1, t39_2, t39_3, t39_4, t39_5, t39_6, t39_7, t39_8, t39_9, t39_10, t39_11, t41_0, t41_1, t41_2, t41_3, t41_4, t41_5, t41_6, t41_7, t41_8, t41_9, t41_10, t41_11, t43_0, t43_1, t43_2, t43_3, t43_4, t43_5, t43_6, t43_7, t43_8, t43_9, t43_10, t43_11] 32 ∧ Gr w w') (fun K51 k51 => ?_) ?_
 ·refine chain_k (fun K52 k52 => ?_)
  refine rg [0, 1, 2, 3, 4, 5, 6, 7, 8, 9, 10] ?_
  refine sv 34 (.slice (some ⟨b45, 0, none⟩) 3 3) ?_
  simp only [p3, p4]
  refine sv 35 (.int .i64 0) ?_
  simp only [p3, p4]
  refine sv 36 (.pointer (some ⟨b45, 0, none⟩)) ?_
  simp only [p3, p4]
  refine sw 37 (.agg #[t39_0, t39_1, t39_2, t39_3, t39_4, t39_5, t39_6, t39_7, t39_8, t39_9, t39_10, t39_11]) rfl (rl 32 0 [t39_0, t39_1, t39_2, t39_3, t39_4, t39_5, t39_6, t39_7, t39_8, t39_9, t39_10, t39_11] L45) ?_
  simp only [p3, p4]
  refine se ?_
  have kq53 := g41.kp.trans (g43.kp.trans g45.kp)
  replace h39a := h39a.kp kq53
  replace h39b := h39b.kp kq53
  replace h39c := h39c.kp kq53
  rcases Bool.eq_false_or_eq_true ((vcmp (a1) (a2) (a3) 0 0 0 == (0 : Int))) with hb54 | hb54
  ·refine ec 38 (vprim_zero h39a h39b h39c (by omega) (vzero_iff.1 hb54)) ?_
   rintro e55 w55 ⟨⟨t55_0, t55_1, t55_2, t55_3, t55_4, t55_5, t55_6, t55_7, t55_8, t55_9, t55_10, t55_11, rfl, h55a, h55b, h55c⟩, g55⟩
   refine ⟨_, rfl, ?_⟩
   replace hB := hB.trans g55
   simp only [p3, p4]
   refine sv 33 (.tuple #[(.agg #[t55_0, t55_1, t55_2, t55_3, t55_4, t55_5, t55_6, t55_7, t55_8, t55_9, t55_10, t55_11]), (.int .i64 19)]) ?_
   simp only [p3, p4]
   refine sv 39 (.agg #[t55_0, t55_1, t55_2, t55_3, t55_4, t55_5, t55_6, t55_7, t55_8, t55_9, t55_10, t55_11]) ?_
   simp only [p3, p4]
   refine sv 40 (.int .i64 19) ?_
   simp only [p3, p4]
   refine se ?_
   refine ea 32 #[(.bool false), (.slice none 0 0), (.bool false), (.slice none 0 0), (.bool false), (.slice none 0 0), (.bool false), (.slice none 0 0), (.bool false), (.slice none 0 0), (.bool false), (.slice none 0 0)] 10 hB fun b56 w56 g56 L56 o56 q56 hB => ?_
   replace L26 := L26.gr (g45.trans g55)
   have ne26_56 := L26.ne o56
   replace L45 := L45.gr g55
   have ne45_56 := L45.ne o56
   simp only [p3, p4]
   refine se ?_
   refine es 32 0 (.agg #[t55_0, t55_1, t55_2, t55_3, t55_4, t55_5, t55_6, t55_7, t55_8, t55_9, t55_10, t55_11]) [t55_0, t55_1, t55_2, t55_3, t55_4, t55_5, t55_6, t55_7, t55_8, t55_9, t55_10, t55_11] #[t55_0, t55_1, t55_2, t55_3, t55_4, t55_5, t55_6, t55_7, t55_8, t55_9, t55_10, t55_11] L56 hB q56 ⟨h55a.one0, h55a.one1, h55a.one2, h55a.one3, h55b.one0, h55b.one1, h55b.one2, h55b.one3, h55c.one0, h55c.one1, h55c.one2, h55c.one3, trivial⟩ fun w57 st57 kp57 L56 hB => ?_
   refine sv 11 (.int .i64 19) ?_
   simp only [p3, p4]
   refine sq_nil ?_
   refine k52 _ _ ?_
   try clear k52 K52
   refine chain_k (fun K58 k58 => ?_)
   refine wp_seq_k (fun K59 k59 => ?_)
   have gd69 := Gr.drew w57
   replace hB := hB.trans gd69
   replace L26 := (st57.lc (L26.gr g56) ne26_56).gr gd69
   replace L45 := (st57.lc (L45.gr g56) ne45_56).gr gd69
   replace L56 := L56.gr gd69
   refine wp_region_ord (fun w' => Lc w' b26 #[(.string ⟨(ratL (a1) : List UInt8).toArray⟩), (.string ⟨(ratL (a2) : List UInt8).toArray⟩), (.string ⟨(ratL (a3) : List UInt8).toArray⟩), (.string ⟨(ratL (c1) : List UInt8).toArray⟩), (.string ⟨(ratL (c2) : List UInt8).toArray⟩), (.string ⟨(ratL (c3) : List UInt8).toArray⟩), (.string ⟨(ratL (((m1 : Int) : Rat)) : List UInt8).toArray⟩), (.string ⟨(ratL (((m2 : Int) : Rat)) : List UInt8).toArray⟩), (.string ⟨(ratL (((m3 : Int) : Rat)) : List UInt8).toArray⟩)] 49 ∧ Lc w' b45 #[t39_0, t39_1, t39_2, t39_3, t39_4, t39_5, t39_6, t39_7, t39_8, t39_9, t39_10, t39_11, t41_0, t41_1, t41_2, t41_3, t41_4, t41_5, t41_6, t41_7, t41_8, t41_9, t41_10, t41_11, t43_0, t43_1, t43_2, t43_3, t43_4, t43_5, t43_6, t43_7, t43_8, t43_9, t43_10, t43_11] 32 ∧ Lc w' b56 #[t55_0, t55_1, t55_2, t55_3, t55_4, t55_5, t55_6, t55_7, t55_8, t55_9, t55_10, t55_11] 32) [(true, 0), (true, 1), (true, 2), (true, 3), (false, 4), (true, 5), (true, 6), (true, 7), (true, 8), (true, 9), (false, 10), (true, 11), (true, 12), (true, 13), (true, 14), (true, 15), (true, 16), (true, 17), (true, 18), (false, 19), (true, 20), (true, 21), (true, 22), (true, 23), (true, 24), (true, 25), (true, 26), (true, 27), (true, 28), (true, 29), (false, 30), (false, 31), (true, 32), (true, 33), (true, 34), (true, 35), (true, 36), (true, 37), (true, 38), (true, 39), (false, 40), (true, 41), (true, 42), (true, 43), (true, 44)] (by kernel_rfl) (by kernel_rfl) (by kernel_rfl) (by decide) (fun _ _ _ _ _ h => h) ⟨L26, L45, L56⟩ ?_
   refine ov 41 (.slice (some ⟨b26, 0, none⟩) 3 3) ?_
   simp only [p3, p4]
   refine ov 42 (.int .i64 0) ?_
   simp only [p3, p4]
   refine ov 43 (.pointer (some ⟨b26, 0, none⟩)) ?_
   simp only [p3, p4]
   refine ow 44 (.agg #[(.string ⟨(ratL (a1) : List UInt8).toArray⟩), (.string ⟨(ratL (a2) : List UInt8).toArray⟩), (.string ⟨(ratL (a3) : List UInt8).toArray⟩)]) rfl (fun w' hS => (rl 49 0 [(.string ⟨(ratL (a1) : List UInt8).toArray⟩), (.string ⟨(ratL (a2) : List UInt8).toArray⟩), (.string ⟨(ratL (a3) : List UInt8).toArray⟩)] hS.1)) ?_
   simp only [p3, p4]
   refine oe ?_
   refine ec 45 (r3_zero (a1) (a2) (a3) _) ?_
   rintro e71 w71 ⟨rfl, g71⟩
   refine ⟨_, rfl, ?_⟩
   replace hB := hB.trans g71
   replace L26 := L26.gr g71
   replace L45 := L45.gr g71
   replace L56 := L56.gr g71
   refine ⟨⟨L26, L45, L56⟩, ?_⟩
   simp only [p3, p4]
   refine ow 46 (.bool true) rfl (fun w' hS => (RunV.bool (x := vcmp (a1) (a2) (a3) 0 0 0 == (0 : Int)) (rvk (by kernel_rfl)) hb54)) ?_
   simp only [p3, p4]
   refine ov 47 (.int .i64 19) ?_
   simp only [p3, p4]
   refine ov 48 (.bool false) ?_
   simp only [p3, p4]
   refine ov 49 (.bool false) ?_
   simp only [p3, p4]
   refine ow 50 (.agg #[t55_0, t55_1, t55_2, t55_3, t55_4, t55_5, t55_6, t55_7, t55_8, t55_9, t55_10, t55_11]) rfl (fun w' hS => (rl 32 0 [t55_0, t55_1, t55_2, t55_3, t55_4, t55_5, t55_6, t55_7, t55_8, t55_9, t55_10, t55_11] hS.2.2)) ?_
   simp only [p3, p4]
   refine oe ?_
   have kq74 := g56.kp.trans (kp57.trans (gd69.kp.trans g71.kp))
   replace h55a := h55a.kp kq74
   replace h55b := h55b.kp kq74
   replace h55c := h55c.kp kq74
   refine ec 51 (vzero_v h55a h55b h55c (by omega)) ?_
   rintro e73 w73 ⟨rfl, g73⟩
   refine ⟨_, rfl, ?_⟩
   replace hB := hB.trans g73
   replace L26 := L26.gr g73
   replace L45 := L45.gr g73
   replace L56 := L56.gr g73
   refine ⟨⟨L26, L45, L56⟩, ?_⟩
   simp only [p3, p4]
   have hb75 : (vcmp 0 0 0 0 0 0 == (0 : Int)) = true := (veq_t rfl rfl rfl)
   refine ow 52 (.bool false) rfl (fun w' hS => (RunV.bool (x := !(vcmp 0 0 0 0 0 0 == (0 : Int))) (rvk (by kernel_rfl)) (show (!(vcmp 0 0 0 0 0 0 == (0 : Int))) = false by rw [hb75]; rfl))) ?_
   simp only [p3, p4]
   refine ov 53 (.bool false) ?_
   simp only [p3, p4]
   refine ov 54 (.bool false) ?_
   simp only [p3, p4]
   refine ov 55 (.bool false) ?_
   simp only [p3, p4]
   refine ov 56 (.slice (some ⟨b26, 0, none⟩) 3 3) ?_
   simp only [p3, p4]
   refine ov 57 (.int .i64 0) ?_
   simp only [p3, p4]
   refine ov 58 (.pointer (some ⟨b26, 0, none⟩)) ?_
   simp only [p3, p4]
   refine ow 59 (.agg #[(.string ⟨(ratL (a1) : List UInt8).toArray⟩), (.string ⟨(ratL (a2) : List UInt8).toArray⟩), (.string ⟨(ratL (a3) : List UInt8).toArray⟩)]) rfl (fun w' hS => (rl 49 0 [(.string ⟨(ratL (a1) : List UInt8).toArray⟩), (.string ⟨(ratL (a2) : List UInt8).toArray⟩), (.string ⟨(ratL (a3) : List UInt8).toArray⟩)] hS.1)) ?_
   simp only [p3, p4]
   refine oe ?_
   refine ec 60 (r3_zero (a1) (a2) (a3) _) ?_
   rintro e77 w77 ⟨rfl, g77⟩
   refine ⟨_, rfl, ?_⟩
   replace hB := hB.trans g77
   replace L26 := L26.gr g77
   replace L45 := L45.gr g77
   replace L56 := L56.gr g77
   refine ⟨⟨L26, L45, L56⟩, ?_⟩
   simp only [p3, p4]
   refine ow 61 (.bool false) rfl (fun w' hS => (RunV.bool (x := !(vcmp (a1) (a2) (a3) 0 0 0 == (0 : Int))) (rvk (by kernel_rfl)) (show (!(vcmp (a1) (a2) (a3) 0 0 0 == (0 : Int))) = false by rw [hb54]; rfl))) ?_
   simp only [p3, p4]
   refine ov 62 (.bool false) ?_
   simp only [p3, p4]
   refine os 63 ?_
   simp only [p3, p4]
   refine os 64 ?_
   simp only [p3, p4]
   refine os 65 ?_
   simp only [p3, p4]
   refine os 66 ?_
   simp only [p3, p4]
   refine os 67 ?_
   simp only [p3, p4]
   refine os 68 ?_
   simp only [p3, p4]
   refine os 69 ?_
   simp only [p3, p4]
   refine os 70 ?_
   simp only [p3, p4]
   refine oz 71 ⟨L26, L45, L56⟩ ?_
   simp only [p3, p4]
   refine oz 72 ⟨L26, L45, L56⟩ ?_
   simp only [p3, p4]
   refine os 73 ?_
   simp only [p3, p4]
   refine os 74 ?_
   simp only [p3, p4]
   refine os 75 ?_
   simp only [p3, p4]
   refine os 76 ?_
   simp only [p3, p4]
   refine os 77 ?_
   simp only [p3, p4]
   refine os 78 ?_
   simp only [p3, p4]
   refine os 79 ?_
   simp only [p3, p4]
   refine os 80 ?_
   simp only [p3, p4]
   refine oz 81 ⟨L26, L45, L56⟩ ?_
   simp only [p3, p4]
   refine os 82 ?_
   simp only [p3, p4]
   refine os 83 ?_
   simp only [p3, p4]
   refine ov 84 (.bool false) ?_
   simp only [p3, p4]
   refine ov 85 (.bool false) ?_
   simp only [p3, p4]
   refine ord_nil ?_
   refine k59 _ _ ?_
   try clear k59 K59
   refine wp_cond_false rfl ?_
   refine wp_skip ?_
   refine k58 _ _ ?_
   try clear k58 K58
   refine chain_nil ?_
   have kq78 := g55.kp.trans (g56.kp.trans (kp57.trans (gd69.kp.trans (g71.kp.trans (g73.kp.trans g77.kp)))))
   replace h39a := h39a.kp kq78
   replace h39b := h39b.kp kq78
   replace h39c := h39c.kp kq78
   have kq79 := g43.kp.trans (g45.kp.trans (g55.kp.trans (g56.kp.trans (kp57.trans (gd69.kp.trans (g71.kp.trans (g73.kp.trans g77.kp)))))))
   replace h41a := h41a.kp kq79
   replace h41b := h41b.kp kq79
   replace h41c := h41c.kp kq79
   have kq80 := g45.kp.trans (g55.kp.trans (g56.kp.trans (kp57.trans (gd69.kp.trans (g71.kp.trans (g73.kp.trans g77.kp))))))
   replace h43a := h43a.kp kq80
   replace h43b := h43b.kp kq80
   replace h43c := h43c.kp kq80
   refine k51 ⟨List.toArray ?l81, []⟩ _ ?_
   exact ⟨(fun i => List.getD ?l81 i undef), rfl, h39a, h39b, h39c, h41a, h41b, h41c, h43a, h43b, h43c, L26, L45, hB⟩
  ·refine ec 38 (vprim_ok h39a h39b h39c (by omega) (vzero_false.1 hb54)) ?_
   rintro e82 w82 ⟨⟨t82_0, t82_1, t82_2, t82_3, t82_4, t82_5, t82_6, t82_7, t82_8, t82_9, t82_10, t82_11, rfl, h82a, h82b, h82c⟩, g82⟩
   refine ⟨_, rfl, ?_⟩
   replace hB := hB.trans g82
   simp only [p3, p4]
   refine sv 33 (.tuple #[(.agg #[t82_0, t82_1, t82_2, t82_3, t82_4, t82_5, t82_6, t82_7, t82_8, t82_9, t82_10, t82_11]), (.int .i64 0)]) ?_
   simp only [p3, p4]
   refine sv 39 (.agg #[t82_0, t82_1, t82_2, t82_3, t82_4, t82_5, t82_6, t82_7, t82_8, t82_9, t82_10, t82_11]) ?_
   simp only [p3, p4]
   refine sv 40 (.int .i64 0) ?_
   simp only [p3, p4]
   refine se ?_
   refine ea 32 #[(.bool false), (.slice none 0 0), (.bool false), (.slice none 0 0), (.bool false), (.slice none 0 0), (.bool false), (.slice none 0 0), (.bool false), (.slice none 0 0), (.bool false), (.slice none 0 0)] 10 hB fun b83 w83 g83 L83 o83 q83 hB => ?_
   replace L26 := L26.gr (g45.trans g82)
   have ne26_83 := L26.ne o83
   replace L45 := L45.gr g82
   have ne45_83 := L45.ne o83
   simp only [p3, p4]
   refine se ?_
   refine es 32 0 (.agg #[t82_0, t82_1, t82_2, t82_3, t82_4, t82_5, t82_6, t82_7, t82_8, t82_9, t82_10, t82_11]) [t82_0, t82_1, t82_2, t82_3, t82_4, t82_5, t82_6, t82_7, t82_8, t82_9, t82_10, t82_11] #[t82_0, t82_1, t82_2, t82_3, t82_4, t82_5, t82_6, t82_7, t82_8, t82_9, t82_10, t82_11] L83 hB q83 ⟨h82a.one0, h82a.one1, h82a.one2, h82a.one3, h82b.one0, h82b.one1, h82b.one2, h82b.one3, h82c.one0, h82c.one1, h82c.one2, h82c.one3, trivial⟩ fun w84 st84 kp84 L83 hB => ?_
   refine sv 11 (.int .i64 0) ?_
   simp only [p3, p4]
   refine sq_nil ?_
   refine k52 _ _ ?_
   try clear k52 K52
   refine chain_k (fun K85 k85 => ?_)
   refine wp_seq_k (fun K86 k86 => ?_)
   have gd102 := Gr.drew w84
   replace hB := hB.trans gd102
   replace L26 := (st84.lc (L26.gr g83) ne26_83).gr gd102
   replace L45 := (st84.lc (L45.gr g83) ne45_83).gr gd102
   replace L83 := L83.gr gd102
   refine wp_region_ord (fun w' => Lc w' b26 #[(.string ⟨(ratL (a1) : List UInt8).toArray⟩), (.string ⟨(ratL (a2) : List UInt8).toArray⟩), (.string ⟨(ratL (a3) : List UInt8).toArray⟩), (.string ⟨(ratL (c1) : List UInt8).toArray⟩), (.string ⟨(ratL (c2) : List UInt8).toArray⟩), (.string ⟨(ratL (c3) : List UInt8).toArray⟩), (.string ⟨(ratL (((m1 : Int) : Rat)) : List UInt8).toArray⟩), (.string ⟨(ratL (((m2 : Int) : Rat)) : List UInt8).toArray⟩), (.string ⟨(ratL (((m3 : Int) : Rat)) : List UInt8).toArray⟩)] 49 ∧ Lc w' b45 #[t39_0, t39_1, t39_2, t39_3, t39_4, t39_5, t39_6, t39_7, t39_8, t39_9, t39_10, t39_11, t41_0, t41_1, t41_2, t41_3, t41_4, t41_5, t41_6, t41_7, t41_8, t41_9, t41_10, t41_11, t43_0, t43_1, t43_2, t43_3, t43_4, t43_5, t43_6, t43_7, t43_8, t43_9, t43_10, t43_11] 32 ∧ Lc w' b83 #[t82_0, t82_1, t82_2, t82_3, t82_4, t82_5, t82_6, t82_7, t82_8, t82_9, t82_10, t82_11] 32) [(true, 0), (true, 1), (true, 2), (true, 3), (false, 4), (true, 5), (true, 6), (true, 7), (true, 8), (true, 9), (false, 10), (true, 11), (true, 12), (true, 13), (true, 14), (true, 15), (true, 16), (true, 17), (true, 18), (false, 19), (true, 20), (true, 21), (true, 22), (true, 23), (true, 24), (true, 25), (true, 26), (true, 27), (true, 28), (true, 29), (false, 30), (false, 31), (true, 32), (true, 33), (true, 34), (true, 35), (true, 36), (true, 37), (true, 38), (true, 39), (false, 40), (true, 41), (true, 42), (true, 43), (true, 44)] (by kernel_rfl) (by kernel_rfl) (by kernel_rfl) (by decide) (fun _ _ _ _ _ h => h) ⟨L26, L45, L83⟩ ?_
   refine ov 41 (.slice (some ⟨b26, 0, none⟩) 3 3) ?_
   simp only [p3, p4]
   refine ov 42 (.int .i64 0) ?_
   simp only [p3, p4]
   refine ov 43 (.pointer (some ⟨b26, 0, none⟩)) ?_
   simp only [p3, p4]
   refine ow 44 (.agg #[(.string ⟨(ratL (a1) : List UInt8).toArray⟩), (.string ⟨(ratL (a2) : List UInt8).toArray⟩), (.string ⟨(ratL (a3) : List UInt8).toArray⟩)]) rfl (fun w' hS => (rl 49 0 [(.string ⟨(ratL (a1) : List UInt8).toArray⟩), (.string ⟨(ratL (a2) : List UInt8).toArray⟩), (.string ⟨(ratL (a3) : List UInt8).toArray⟩)] hS.1)) ?_
   simp only [p3, p4]
   refine oe ?_
   refine ec 45 (r3_zero (a1) (a2) (a3) _) ?_
   rintro e104 w104 ⟨rfl, g104⟩
   refine ⟨_, rfl, ?_⟩
   replace hB := hB.trans g104
   replace L26 := L26.gr g104
   replace L45 := L45.gr g104
   replace L83 := L83.gr g104
   refine ⟨⟨L26, L45, L83⟩, ?_⟩
   simp only [p3, p4]
   refine ow 46 (.bool false) rfl (fun w' hS => (RunV.bool (x := vcmp (a1) (a2) (a3) 0 0 0 == (0 : Int)) (rvk (by kernel_rfl)) hb54)) ?_
   simp only [p3, p4]
   refine os 47 ?_
   simp only [p3, p4]
   refine os 48 ?_
   simp only [p3, p4]
   refine os 49 ?_
   simp only [p3, p4]
   refine os 50 ?_
   simp only [p3, p4]
   refine oz 51 ⟨L26, L45, L83⟩ ?_
   simp only [p3, p4]
   refine os 52 ?_
   simp only [p3, p4]
   refine os 53 ?_
   simp only [p3, p4]
   refine ov 54 (.bool false) ?_
   simp only [p3, p4]
   refine ov 55 (.bool false) ?_
   simp only [p3, p4]
   refine ov 56 (.slice (some ⟨b26, 0, none⟩) 3 3) ?_
   simp only [p3, p4]
   refine ov 57 (.int .i64 0) ?_
   simp only [p3, p4]
   refine ov 58 (.pointer (some ⟨b26, 0, none⟩)) ?_
   simp only [p3, p4]
   refine ow 59 (.agg #[(.string ⟨(ratL (a1) : List UInt8).toArray⟩), (.string ⟨(ratL (a2) : List UInt8).toArray⟩), (.string ⟨(ratL (a3) : List UInt8).toArray⟩)]) rfl (fun w' hS => (rl 49 0 [(.string ⟨(ratL (a1) : List UInt8).toArray⟩), (.string ⟨(ratL (a2) : List UInt8).toArray⟩), (.string ⟨(ratL (a3) : List UInt8).toArray⟩)] hS.1)) ?_
   simp only [p3, p4]
   refine oe ?_
   refine ec 60 (r3_zero (a1) (a2) (a3) _) ?_
   rintro e106 w106 ⟨rfl, g106⟩
   refine ⟨_, rfl, ?_⟩
   replace hB := hB.trans g106
   replace L26 := L26.gr g106
   replace L45 := L45.gr g106
   replace L83 := L83.gr g106
   refine ⟨⟨L26, L45, L83⟩, ?_⟩
   simp only [p3, p4]
   refine ow 61 (.bool true) rfl (fun w' hS => (RunV.bool (x := !(vcmp (a1) (a2) (a3) 0 0 0 == (0 : Int))) (rvk (by kernel_rfl)) (show (!(vcmp (a1) (a2) (a3) 0 0 0 == (0 : Int))) = true by rw [hb54]; rfl))) ?_
   simp only [p3, p4]
   refine ov 62 (.bool true) ?_
   simp only [p3, p4]
   refine ov 63 (.int .i64 0) ?_
   simp only [p3, p4]
   refine ov 64 (.bool false) ?_
   simp only [p3, p4]
   refine ov 65 (.bool false) ?_
   simp only [p3, p4]
   refine ow 66 (.agg #[t82_0, t82_1, t82_2, t82_3, t82_4, t82_5, t82_6, t82_7, t82_8, t82_9, t82_10, t82_11]) rfl (fun w' hS => (rl 32 0 [t82_0, t82_1, t82_2, t82_3, t82_4, t82_5, t82_6, t82_7, t82_8, t82_9, t82_10, t82_11] hS.2.2)) ?_
   simp only [p3, p4]
   refine ov 67 (.slice (some ⟨b26, 0, none⟩) 3 3) ?_
   simp only [p3, p4]
   refine ov 68 (.int .i64 0) ?_
   simp only [p3, p4]
   refine ov 69 (.pointer (some ⟨b26, 0, none⟩)) ?_
   simp only [p3, p4]
   refine ow 70 (.agg #[(.string ⟨(ratL (a1) : List UInt8).toArray⟩), (.string ⟨(ratL (a2) : List UInt8).toArray⟩), (.string ⟨(ratL (a3) : List UInt8).toArray⟩)]) rfl (fun w' hS => (rl 49 0 [(.string ⟨(ratL (a1) : List UInt8).toArray⟩), (.string ⟨(ratL (a2) : List UInt8).toArray⟩), (.string ⟨(ratL (a3) : List UInt8).toArray⟩)] hS.1)) ?_
   simp only [p3, p4]
   refine oe ?_
   refine ec 71 (r3_prim (k := 64) (a1) (a2) (a3) (ha1.mono (by omega)) (ha2.mono (by omega)) (ha3.mono (by omega)) (by omega) (by omega) (vzero_false.1 hb54) _) ?_
   rintro e108 w108 ⟨rfl, g108⟩
   refine ⟨_, rfl, ?_⟩
   replace hB := hB.trans g108
   replace L26 := L26.gr g108
   replace L45 := L45.gr g108
   replace L83 := L83.gr g108
   refine ⟨⟨L26, L45, L83⟩, ?_⟩
   simp only [p3, p4]
   refine oe ?_
   have kq111 := g83.kp.trans (kp84.trans (gd102.kp.trans (g104.kp.trans (g106.kp.trans g108.kp))))
   replace h82a := h82a.kp kq111
   replace h82b := h82b.kp kq111
   replace h82c := h82c.kp kq111
   refine ec 72 (is_v (ratL (prim (a1) (a2) (a3) (a1))) (ratL (prim (a1) (a2) (a3) (a2))) (ratL (prim (a1) (a2) (a3) (a3))) h82a h82b h82c (by omega) (ht.gr hB)) ?_
   rintro e110 w110 ⟨rfl, g110⟩
   refine ⟨_, rfl, ?_⟩
   replace hB := hB.trans g110
   replace L26 := L26.gr g110
   replace L45 := L45.gr g110
   replace L83 := L83.gr g110
   refine ⟨⟨L26, L45, L83⟩, ?_⟩
   simp only [p3, p4]
   have hb112 : (sEq [ratL ((prim (a1) (a2) (a3) (a1))), ratL ((prim (a1) (a2) (a3) (a2))), ratL ((prim (a1) (a2) (a3) (a3)))] [ratL (prim (a1) (a2) (a3) (a1)), ratL (prim (a1) (a2) (a3) (a2)), ratL (prim (a1) (a2) (a3) (a3))]) = true := (lawVm0 a1 a2 a3 )
   refine ow 73 (.bool false) rfl (fun w' hS => (RunV.bool (x := !(sEq [ratL ((prim (a1) (a2) (a3) (a1))), ratL ((prim (a1) (a2) (a3) (a2))), ratL ((prim (a1) (a2) (a3) (a3)))] [ratL (prim (a1) (a2) (a3) (a1)), ratL (prim (a1) (a2) (a3) (a2)), ratL (prim (a1) (a2) (a3) (a3))])) (rvk (by kernel_rfl)) (show (!(sEq [ratL ((prim (a1) (a2) (a3) (a1))), ratL ((prim (a1) (a2) (a3) (a2))), ratL ((prim (a1) (a2) (a3) (a3)))] [ratL (prim (a1) (a2) (a3) (a1)), ratL (prim (a1) (a2) (a3) (a2)), ratL (prim (a1) (a2) (a3) (a3))])) = false by rw [hb112]; rfl))) ?_
   simp only [p3, p4]
   refine ov 74 (.bool false) ?_
   simp only [p3, p4]
   refine ov 75 (.bool false) ?_
   simp only [p3, p4]
   refine ow 76 (.agg #[t82_0, t82_1, t82_2, t82_3, t82_4, t82_5, t82_6, t82_7, t82_8, t82_9, t82_10, t82_11]) rfl (fun w' hS => (rl 32 0 [t82_0, t82_1, t82_2, t82_3, t82_4, t82_5, t82_6, t82_7, t82_8, t82_9, t82_10, t82_11] hS.2.2)) ?_
   simp only [p3, p4]
   refine ov 77 (.slice (some ⟨b45, 0, none⟩) 3 3) ?_
   simp only [p3, p4]
   refine ov 78 (.int .i64 0) ?_
   simp only [p3, p4]
   refine ov 79 (.pointer (some ⟨b45, 0, none⟩)) ?_
   simp only [p3, p4]
   refine ow 80 (.agg #[t39_0, t39_1, t39_2, t39_3, t39_4, t39_5, t39_6, t39_7, t39_8, t39_9, t39_10, t39_11]) rfl (fun w' hS => (rl 32 0 [t39_0, t39_1, t39_2, t39_3, t39_4, t39_5, t39_6, t39_7, t39_8, t39_9, t39_10, t39_11] hS.2.1)) ?_
   simp only [p3, p4]
   refine oe ?_
   replace h82a := h82a.kp g110.kp
   replace h82b := h82b.kp g110.kp
   replace h82c := h82c.kp g110.kp
   have kq115 := g82.kp.trans (g83.kp.trans (kp84.trans (gd102.kp.trans (g104.kp.trans (g106.kp.trans (g108.kp.trans g110.kp))))))
   replace h39a := h39a.kp kq115
   replace h39b := h39b.kp kq115
   replace h39c := h39c.kp kq115
   refine ec 81 (vparallel_v h82a h82b h82c h39a h39b h39c (by omega)) ?_
   rintro e114 w114 ⟨rfl, g114⟩
   refine ⟨_, rfl, ?_⟩
   replace hB := hB.trans g114
   replace L26 := L26.gr g114
   replace L45 := L45.gr g114
   replace L83 := L83.gr g114
   refine ⟨⟨L26, L45, L83⟩, ?_⟩
   simp only [p3, p4]
   have hb116 : (((!(vcmp (prim (a1) (a2) (a3) (a1)) (prim (a1) (a2) (a3) (a2)) (prim (a1) (a2) (a3) (a3)) 0 0 0 == (0 : Int)) && !(vcmp a1 a2 a3 0 0 0 == (0 : Int))) && (vcmp ((prim (a1) (a2) (a3) (a2)) * a3 - (prim (a1) (a2) (a3) (a3)) * a2) ((prim (a1) (a2) (a3) (a3)) * a1 - (prim (a1) (a2) (a3) (a1)) * a3) ((prim (a1) (a2) (a3) (a1)) * a2 - (prim (a1) (a2) (a3) (a2)) * a1) 0 0 0 == (0 : Int)))) = true := (prim_parallel (vzero_false.1 hb54))
   refine ow 82 (.bool false) rfl (fun w' hS => (RunV.bool (x := !(((!(vcmp (prim (a1) (a2) (a3) (a1)) (prim (a1) (a2) (a3) (a2)) (prim (a1) (a2) (a3) (a3)) 0 0 0 == (0 : Int)) && !(vcmp a1 a2 a3 0 0 0 == (0 : Int))) && (vcmp ((prim (a1) (a2) (a3) (a2)) * a3 - (prim (a1) (a2) (a3) (a3)) * a2) ((prim (a1) (a2) (a3) (a3)) * a1 - (prim (a1) (a2) (a3) (a1)) * a3) ((prim (a1) (a2) (a3) (a1)) * a2 - (prim (a1) (a2) (a3) (a2)) * a1) 0 0 0 == (0 : Int))))) (rvk (by kernel_rfl)) (show (!(((!(vcmp (prim (a1) (a2) (a3) (a1)) (prim (a1) (a2) (a3) (a2)) (prim (a1) (a2) (a3) (a3)) 0 0 0 == (0 : Int)) && !(vcmp a1 a2 a3 0 0 0 == (0 : Int))) && (vcmp ((prim (a1) (a2) (a3) (a2)) * a3 - (prim (a1) (a2) (a3) (a3)) * a2) ((prim (a1) (a2) (a3) (a3)) * a1 - (prim (a1) (a2) (a3) (a1)) * a3) ((prim (a1) (a2) (a3) (a1)) * a2 - (prim (a1) (a2) (a3) (a2)) * a1) 0 0 0 == (0 : Int))))) = false by rw [hb116]; rfl))) ?_
   simp only [p3, p4]
   refine ov 83 (.bool false) ?_
   simp only [p3, p4]
   refine ov 84 (.bool false) ?_
   simp only [p3, p4]
   refine ov 85 (.bool false) ?_
   simp only [p3, p4]
   refine ord_nil ?_
   refine k86 _ _ ?_
   try clear k86 K86
   refine wp_cond_false rfl ?_
   refine wp_skip ?_
   refine k85 _ _ ?_
   try clear k85 K85
   refine chain_nil ?_
   replace h39a := h39a.kp g114.kp
   replace h39b := h39b.kp g114.kp
   replace h39c := h39c.kp g114.kp
   have kq117 := g43.kp.trans (g45.kp.trans (g82.kp.trans (g83.kp.trans (kp84.trans (gd102.kp.trans (g104.kp.trans (g106.kp.trans (g108.kp.trans (g110.kp.trans g114.kp)))))))))
   replace h41a := h41a.kp kq117
   replace h41b := h41b.kp kq117
   replace h41c := h41c.kp kq117
   have kq118 := g45.kp.trans (g82.kp.trans (g83.kp.trans (kp84.trans (gd102.kp.trans (g104.kp.trans (g106.kp.trans (g108.kp.trans (g110.kp.trans g114.kp))))))))
   replace h43a := h43a.kp kq118
   replace h43b := h43b.kp kq118
   replace h43c := h43c.kp kq118
   refine k51 ⟨List.toArray ?l119, []⟩ _ ?_
   exact ⟨(fun i => List.getD ?l119 i undef), rfl, h39a, h39b, h39c, h41a, h41b, h41c, h43a, h43b, h43c, L26, L45, hB⟩
 rintro a51 w51 ⟨u51, rfl, h39a, h39b, h39c, h41a, h41b, h41c, h43a, h43b, h43c, L26, L45, hB⟩
 refine wp_seq_k (fun K120 k120 => ?_)
 refine rg [0, 1, 2, 3] ?_
 refine sv 86 (.int .i64 0) ?_
 simp only [p3, p4]
 refine sv 87 (.int .i64 1) ?_
 simp only [p3, p4]
 refine sv 88 (.int .i64 1) ?_
 simp only [p3, p4]
 refine sv 12 (.int .i64 1) ?_
 simp only [p3, p4]
 refine sq_nil ?_
 refine k120 _ _ ?_
 try clear k120 K120
 refine wp_seq_k (fun K121 k121 => ?_)
 have gd128 := Gr.drew w51
 replace hB := hB.trans gd128
 replace L26 := L26.gr gd128
 replace L45 := L45.gr gd128
 refine wp_region_ord (fun w' => Lc w' b26 #[(.string ⟨(ratL (a1) : List UInt8).toArray⟩), (.string ⟨(ratL (a2) : List UInt8).toArray⟩), (.string ⟨(ratL (a3) : List UInt8).toArray⟩), (.string ⟨(ratL (c1) : List UInt8).toArray⟩), (.string ⟨(ratL (c2) : List UInt8).toArray⟩), (.string ⟨(ratL (c3) : List UInt8).toArray⟩), (.string ⟨(ratL (((m1 : Int) : Rat)) : List UInt8).toArray⟩), (.string ⟨(ratL (((m2 : Int) : Rat)) : List UInt8).toArray⟩), (.string ⟨(ratL (((m3 : Int) : Rat)) : List UInt8).toArray⟩)] 49 ∧ Lc w' b45 #[t39_0, t39_1, t39_2, t39_3, t39_4, t39_5, t39_6, t39_7, t39_8, t39_9, t39_10, t39_11, t41_0, t41_1, t41_2, t41_3, t41_4, t41_5, t41_6, t41_7, t41_8, t41_9, t41_10, t41_11, t43_0, t43_1, t43_2, t43_3, t43_4, t43_5, t43_6, t43_7, t43_8, t43_9, t43_10, t43_11] 32) [(true, 0), (true, 1), (true, 2), (true, 3), (true, 4), (true, 5), (true, 6), (true, 7), (true, 9), (true, 10), (true, 11), (true, 12), (true, 13), (true, 14), (true, 15), (true, 16), (false, 8), (false, 17), (true, 18)] (by kernel_rfl) (by kernel_rfl) (by kernel_rfl) (by decide) (fun _ _ _ _ _ h => h) ⟨L26, L45⟩ ?_
 refine ov 89 (.slice (some ⟨b45, 0, none⟩) 3 3) ?_
 simp only [p3, p4]
 refine ov 90 (.int .i64 0) ?_
 simp only [p3, p4]
 refine ov 91 (.pointer (some ⟨b45, 0, none⟩)) ?_
 simp only [p3, p4]
 refine ow 92 (.agg #[t39_0, t39_1, t39_2, t39_3, t39_4, t39_5, t39_6, t39_7, t39_8, t39_9, t39_10, t39_11]) rfl (fun w' hS => (rl 32 0 [t39_0, t39_1, t39_2, t39_3, t39_4, t39_5, t39_6, t39_7, t39_8, t39_9, t39_10, t39_11] hS.2)) ?_
 simp only [p3, p4]
 refine ov 93 (.slice (some ⟨b45, 0, none⟩) 3 3) ?_
 simp only [p3, p4]
 refine ov 94 (.int .i64 1) ?_
 simp only [p3, p4]
 refine ov 95 (.pointer (some ⟨b45, 12, none⟩)) ?_
 simp only [p3, p4]
 refine ow 96 (.agg #[t41_0, t41_1, t41_2, t41_3, t41_4, t41_5, t41_6, t41_7, t41_8, t41_9, t41_10, t41_11]) rfl (fun w' hS => (rl 32 12 [t41_0, t41_1, t41_2, t41_3, t41_4, t41_5, t41_6, t41_7, t41_8, t41_9, t41_10, t41_11] hS.2)) ?_
 simp only [p3, p4]
 refine ov 98 (.slice (some ⟨b26, 0, none⟩) 3 3) ?_
 simp only [p3, p4]
 refine ov 99 (.int .i64 0) ?_
 simp only [p3, p4]
 refine ov 100 (.pointer (some ⟨b26, 0, none⟩)) ?_
 simp only [p3, p4]
 refine ow 101 (.agg #[(.string ⟨(ratL (a1) : List UInt8).toArray⟩), (.string ⟨(ratL (a2) : List UInt8).toArray⟩), (.string ⟨(ratL (a3) : List UInt8).toArray⟩)]) rfl (fun w' hS => (rl 49 0 [(.string ⟨(ratL (a1) : List UInt8).toArray⟩), (.string ⟨(ratL (a2) : List UInt8).toArray⟩), (.string ⟨(ratL (a3) : List UInt8).toArray⟩)] hS.1)) ?_
 simp only [p3, p4]
 refine ov 102 (.slice (some ⟨b26, 0, none⟩) 3 3) ?_
 simp only [p3, p4]
 refine ov 103 (.int .i64 1) ?_
 simp only [p3, p4]
 refine ov 104 (.pointer (some ⟨b26, 3, none⟩)) ?_
 simp only [p3, p4]
 refine ow 105 (.agg #[(.string ⟨(ratL (c1) : List UInt8).toArray⟩), (.string ⟨(ratL (c2) : List UInt8).toArray⟩), (.string ⟨(ratL (c3) : List UInt8).toArray⟩)]) rfl (fun w' hS => (rl 49 3 [(.string ⟨(ratL (c1) : List UInt8).toArray⟩), (.string ⟨(ratL (c2) : List UInt8).toArray⟩), (.string ⟨(ratL (c3) : List UInt8).toArray⟩)] hS.1)) ?_
 simp only [p3, p4]
 refine oe ?_
 replace h39a := h39a.kp gd128.kp
 replace h39b := h39b.kp gd128.kp
 replace h39c := h39c.kp gd128.kp
 replace h41a := h41a.kp gd128.kp
 replace h41b := h41b.kp gd128.kp
 replace h41c := h41c.kp gd128.kp
 refine ec 97 (vparallel_v h39a h39b h39c h41a h41b h41c (by omega)) ?_
 rintro e130 w130 ⟨rfl, g130⟩
 refine ⟨_, rfl, ?_⟩
 replace hB := hB.trans g130
 replace L26 := L26.gr g130
 replace L45 := L45.gr g130
 refine ⟨⟨L26, L45⟩, ?_⟩
 simp only [p3, p4]
 refine oe ?_
 refine ec 106 (r3_parallel (a1) (a2) (a3) ha1 ha2 ha3 (c1) (c2) (c3) hc1 hc2 hc3 (by omega) _) ?_
 rintro e132 w132 ⟨rfl, g132⟩
 refine ⟨_, rfl, ?_⟩
 replace hB := hB.trans g132
 replace L26 := L26.gr g132
 replace L45 := L45.gr g132
 refine ⟨⟨L26, L45⟩, ?_⟩
 simp only [p3, p4]
 have hb133 : (((((!(vcmp a1 a2 a3 0 0 0 == (0 : Int)) && !(vcmp c1 c2 c3 0 0 0 == (0 : Int))) && (vcmp (a2 * c3 - a3 * c2) (a3 * c1 - a1 * c3) (a1 * c2 - a2 * c1) 0 0 0 == (0 : Int)))) != (((!(vcmp (a1) (a2) (a3) 0 0 0 == (0 : Int)) && !(vcmp (c1) (c2) (c3) 0 0 0 == (0 : Int))) && (vcmp (a2 * c3 - a3 * c2) (a3 * c1 - a1 * c3) (a1 * c2 - a2 * c1) 0 0 0 == (0 : Int)))))) = false := (by simp)
 refine ow 107 (.bool false) rfl (fun w' hS => (RunV.bool (x := ((((!(vcmp a1 a2 a3 0 0 0 == (0 : Int)) && !(vcmp c1 c2 c3 0 0 0 == (0 : Int))) && (vcmp (a2 * c3 - a3 * c2) (a3 * c1 - a1 * c3) (a1 * c2 - a2 * c1) 0 0 0 == (0 : Int)))) != (((!(vcmp (a1) (a2) (a3) 0 0 0 == (0 : Int)) && !(vcmp (c1) (c2) (c3) 0 0 0 == (0 : Int))) && (vcmp (a2 * c3 - a3 * c2) (a3 * c1 - a1 * c3) (a1 * c2 - a2 * c1) 0 0 0 == (0 : Int)))))) (rvk (by kernel_rfl)) hb133)) ?_
 simp only [p3, p4]
 refine ord_nil ?_
 refine k121 _ _ ?_
 try clear k121 K121
 refine wp_cond_false rfl ?_
 refine wp_skip ?_
 refine k50 _ _ ?_
 try clear k50 K50
 refine rg [0, 1, 2] ?_
 refine sv 31 (.int .i64 0) ?_
 simp only [p3, p4]
 refine sv 32 (.int .i64 1) ?_
 simp only [p3, p4]
 refine sv 9 (.int .i64 1) ?_
 simp only [p3, p4]
 refine sq_nil ?_
 show Code.rounds _ _ _ _ _ _
 show Code.wp _ _ _ _ _
 refine wp_seq_k (fun K134 k134 => ?_)
 refine wp_seq_k (fun K135 k135 => ?_)
 refine rg [0, 1] ?_
 refine sv 29 (.int .i64 1) ?_
 simp only [p3, p4]
 refine sv 30 (.bool true) ?_
 simp only [p3, p4]
 refine sq_nil ?_
 refine k135 _ _ ?_
 try clear k135 K135
 refine wp_cond_true rfl ?_
 refine wp_skip ?_
 refine k134 _ _ ?_
 try clear k134 K134
 refine wp_seq_k (fun K136 k136 => ?_)
 refine wp_block ?_
 refine wp_cut2 (fun a w' => ∃  (u137 : Nat → Value), a = ⟨[(u137 0), (u137 1), (u137 2), (.pointer (some ⟨b2, 0, none⟩)), (.pointer (some ⟨b3, 0, none⟩)), (.pointer (some ⟨b4, 0, none⟩)), (u137 6), (.slice (some ⟨b26, 0, none⟩) 3 3), (.slice (some ⟨b45, 0, none⟩) 3 3), (.int .i64 1), (u137 10), (u137 11), (.int .i64 1), (u137 13), (.bool false), (u137 15), (u137 16), (u137 17), (u137 18), (u137 19), (u137 20), (u137 21), (u137 22), (u137 23), (u137 24), (u137 25), (u137 26), (u137 27), (u137 28), (u137 29), (.bool true), (u137 31), (u137 32), (u137 33), (u137 34), (u137 35), (u137 36), (u137 37), (u137 38), (u137 39), (u137 40), (u137 41), (u137 42), (u137 43), (u137 44), (u137 45), (u137 46), (u137 47), (u137 48), (u137 49), (u137 50), (u137 51), (u137 52), (u137 53), (u137 54), (u137 55), (u137 56), (u137 57), (u137 58), (u137 59), (u137 60), (u137 61), (u137 62), (u137 63), (u137 64), (u137 65), (u137 66), (u137 67), (u137 68), (u137 69), (u137 70), (u137 71), (u137 72), (u137 73), (u137 74), (u137 75), (u137 76), (u137 77), (u137 78), (u137 79), (u137 80), (u137 81), (u137 82), (u137 83), (u137 84), (u137 85), (u137 86), (u137 87), (u137 88), (u137 89), (u137 90), (u137 91), (u137 92), (u137 93), (u137 94), (u137 95), (u137 96), (u137 97), (u137 98), (u137 99), (u137 100), (u137 101), (u137 102), (u137 103), (u137 104), (u137 105), (u137 106), (.bool false)].toArray, []⟩ ∧ IsRat w' 64 t39_0 t39_1 t39_2 t39_3 (a1) ∧ IsRat w' 64 t39_4 t39_5 t39_6 t39_7 (a2) ∧ IsRat w' 64 t39_8 t39_9 t39_10 t39_11 (a3) ∧ IsRat w' 64 t41_0 t41_1 t41_2 t41_3 (c1) ∧ IsRat w' 64 t41_4 t41_5 t41_6 t41_7 (c2) ∧ IsRat w' 64 t41_8 t41_9 t41_10 t41_11 (c3) ∧ IsRat w' 64 t43_0 t43_1 t43_2 t43_3 ((((m1 : Int) : Rat))) ∧ IsRat w' 64 t43_4 t43_5 t43_6 t43_7 ((((m2 : Int) : Rat))) ∧ IsRat w' 64 t43_8 t43_9 t43_10 t43_11 ((((m3 : Int) : Rat))) ∧ Lc w' b26 #[(.string ⟨(ratL (a1) : List UInt8).toArray⟩), (.string ⟨(ratL (a2) : List UInt8).toArray⟩), (.string ⟨(ratL (a3) : List UInt8).toArray⟩), (.string ⟨(ratL (c1) : List UInt8).toArray⟩), (.string ⟨(ratL (c2) : List UInt8).toArray⟩), (.string ⟨(ratL (c3) : List UInt8).toArray⟩), (.string ⟨(ratL (((m1 : Int) : Rat)) : List UInt8).toArray⟩), (.string ⟨(ratL (((m2 : Int) : Rat)) : List UInt8).toArray⟩), (.string ⟨(ratL (((m3 : Int) : Rat)) : List UInt8).toArray⟩)] 49 ∧ Lc w' b45 #[t39_0, t39_1, t39_2, t39_3, t39_4, t39_5, t39_6, t39_7, t39_8, t39_9, t39_10, t39_11, t41_0, t41_1, t41_2, t41_3, t41_4, t41_5, t41_6, t41_7, t41_8, t41_9, t41_10, t41_11, t43_0, t43_1, t43_2, t43_3, t43_4, t43_5, t43_6, t43_7, t43_8, t43_9, t43_10, t43_11] 32 ∧ Gr w w') (fun K137 k137 => ?_) ?_
 ·refine chain_k (fun K138 k138 => ?_)
  refine rg [0, 1, 2, 3, 4, 5, 6, 7, 8, 9, 10] ?_
  refine sv 34 (.slice (some ⟨b45, 0, none⟩) 3 3) ?_
  simp only [p3, p4]
  refine sv 35 (.int .i64 1) ?_
  simp only [p3, p4]
  refine sv 36 (.pointer (some ⟨b45, 12, none⟩)) ?_
  simp only [p3, p4]
  refine sw 37 (.agg #[t41_0, t41_1, t41_2, t41_3, t41_4, t41_5, t41_6, t41_7, t41_8, t41_9, t41_10, t41_11]) rfl (rl 32 12 [t41_0, t41_1, t41_2, t41_3, t41_4, t41_5, t41_6, t41_7, t41_8, t41_9, t41_10, t41_11] L45) ?_
  simp only [p3, p4]
  refine se ?_
  have kq139 := g130.kp.trans g132.kp
  replace h41a := h41a.kp kq139
  replace h41b := h41b.kp kq139
  replace h41c := h41c.kp kq139
  rcases Bool.eq_false_or_eq_true ((vcmp (c1) (c2) (c3) 0 0 0 == (0 : Int))) with hb140 | hb140
  ·refine ec 38 (vprim_zero h41a h41b h41c (by omega) (vzero_iff.1 hb140)) ?_
   rintro e141 w141 ⟨⟨t141_0, t141_1, t141_2, t141_3, t141_4, t141_5, t141_6, t141_7, t141_8, t141_9, t141_10, t141_11, rfl, h141a, h141b, h141c⟩, g141⟩
   refine ⟨_, rfl, ?_⟩
   replace hB := hB.trans g141
   simp only [p3, p4]
   refine sv 33 (.tuple #[(.agg #[t141_0, t141_1, t141_2, t141_3, t141_4, t141_5, t141_6, t141_7, t141_8, t141_9, t141_10, t141_11]), (.int .i64 19)]) ?_
   simp only [p3, p4]
   refine sv 39 (.agg #[t141_0, t141_1, t141_2, t141_3, t141_4, t141_5, t141_6, t141_7, t141_8, t141_9, t141_10, t141_11]) ?_
   simp only [p3, p4]
   refine sv 40 (.int .i64 19) ?_
   simp only [p3, p4]
   refine se ?_
   refine ea 32 #[(.bool false), (.slice none 0 0), (.bool false), (.slice none 0 0), (.bool false), (.slice none 0 0), (.bool false), (.slice none 0 0), (.bool false), (.slice none 0 0), (.bool false), (.slice none 0 0)] 10 hB fun b142 w142 g142 L142 o142 q142 hB => ?_
   replace L26 := L26.gr g141
   have ne26_142 := L26.ne o142
   replace L45 := L45.gr g141
   have ne45_142 := L45.ne o142
   simp only [p3, p4]
   refine se ?_
   refine es 32 0 (.agg #[t141_0, t141_1, t141_2, t141_3, t141_4, t141_5, t141_6, t141_7, t141_8, t141_9, t141_10, t141_11]) [t141_0, t141_1, t141_2, t141_3, t141_4, t141_5, t141_6, t141_7, t141_8, t141_9, t141_10, t141_11] #[t141_0, t141_1, t141_2, t141_3, t141_4, t141_5, t141_6, t141_7, t141_8, t141_9, t141_10, t141_11] L142 hB q142 ⟨h141a.one0, h141a.one1, h141a.one2, h141a.one3, h141b.one0, h141b.one1, h141b.one2, h141b.one3, h141c.one0, h141c.one1, h141c.one2, h141c.one3, trivial⟩ fun w143 st143 kp143 L142 hB => ?_
   refine sv 11 (.int .i64 19) ?_
   simp only [p3, p4]
   refine sq_nil ?_
   refine k138 _ _ ?_
   try clear k138 K138
   refine chain_k (fun K144 k144 => ?_)
   refine wp_seq_k (fun K145 k145 => ?_)
   have gd155 := Gr.drew w143
   replace hB := hB.trans gd155
   replace L26 := (st143.lc (L26.gr g142) ne26_142).gr gd155
   replace L45 := (st143.lc (L45.gr g142) ne45_142).gr gd155
   replace L142 := L142.gr gd155
   refine wp_region_ord (fun w' => Lc w' b26 #[(.string ⟨(ratL (a1) : List UInt8).toArray⟩), (.string ⟨(ratL (a2) : List UInt8).toArray⟩), (.string ⟨(ratL (a3) : List UInt8).toArray⟩), (.string ⟨(ratL (c1) : List UInt8).toArray⟩), (.string ⟨(ratL (c2) : List UInt8).toArray⟩), (.string ⟨(ratL (c3) : List UInt8).toArray⟩), (.string ⟨(ratL (((m1 : Int) : Rat)) : List UInt8).toArray⟩), (.string ⟨(ratL (((m2 : Int) : Rat)) : List UInt8).toArray⟩), (.string ⟨(ratL (((m3 : Int) : Rat)) : List UInt8).toArray⟩)] 49 ∧ Lc w' b45 #[t39_0, t39_1, t39_2, t39_3, t39_4, t39_5, t39_6, t39_7, t39_8, t39_9, t39_10, t39_11, t41_0, t41_1, t41_2, t41_3, t41_4, t41_5, t41_6, t41_7, t41_8, t41_9, t41_10, t41_11, t43_0, t43_1, t43_2, t43_3, t43_4, t43_5, t43_6, t43_7, t43_8, t43_9, t43_10, t43_11] 32 ∧ Lc w' b142 #[t141_0, t141_1, t141_2, t141_3, t141_4, t141_5, t141_6, t141_7, t141_8, t141_9, t141_10, t141_11] 32) [(true, 0), (true, 1), (true, 2), (true, 3), (false, 4), (true, 5), (true, 6), (true, 7), (true, 8), (true, 9), (false, 10), (true, 11), (true, 12), (true, 13), (true, 14), (true, 15), (true, 16), (true, 17), (true, 18), (false, 19), (true, 20), (true, 21), (true, 22), (true, 23), (true, 24), (true, 25), (true, 26), (true, 27), (true, 28), (true, 29), (false, 30), (false, 31), (true, 32), (true, 33), (true, 34), (true, 35), (true, 36), (true, 37), (true, 38), (true, 39), (false, 40), (true, 41), (true, 42), (true, 43), (true, 44)] (by kernel_rfl) (by kernel_rfl) (by kernel_rfl) (by decide) (fun _ _ _ _ _ h => h) ⟨L26, L45, L142⟩ ?_
   refine ov 41 (.slice (some ⟨b26, 0, none⟩) 3 3) ?_
   simp only [p3, p4]
   refine ov 42 (.int .i64 1) ?_
   simp only [p3, p4]
   refine ov 43 (.pointer (some ⟨b26, 3, none⟩)) ?_
   simp only [p3, p4]
   refine ow 44 (.agg #[(.string ⟨(ratL (c1) : List UInt8).toArray⟩), (.string ⟨(ratL (c2) : List UInt8).toArray⟩), (.string ⟨(ratL (c3) : List UInt8).toArray⟩)]) rfl (fun w' hS => (rl 49 3 [(.string ⟨(ratL (c1) : List UInt8).toArray⟩), (.string ⟨(ratL (c2) : List UInt8).toArray⟩), (.string ⟨(ratL (c3) : List UInt8).toArray⟩)] hS.1)) ?_
   simp only [p3, p4]
   refine oe ?_
   refine ec 45 (r3_zero (c1) (c2) (c3) _) ?_
   rintro e157 w157 ⟨rfl, g157⟩
   refine ⟨_, rfl, ?_⟩
   replace hB := hB.trans g157
   replace L26 := L26.gr g157
   replace L45 := L45.gr g157
   replace L142 := L142.gr g157
   refine ⟨⟨L26, L45, L142⟩, ?_⟩
   simp only [p3, p4]
   refine ow 46 (.bool true) rfl (fun w' hS => (RunV.bool (x := vcmp (c1) (c2) (c3) 0 0 0 == (0 : Int)) (rvk (by kernel_rfl)) hb140)) ?_
   simp only [p3, p4]
   refine ov 47 (.int .i64 19) ?_
   simp only [p3, p4]
   refine ov 48 (.bool false) ?_
   simp only [p3, p4]
   refine ov 49 (.bool false) ?_
   simp only [p3, p4]
   refine ow 50 (.agg #[t141_0, t141_1, t141_2, t141_3, t141_4, t141_5, t141_6, t141_7, t141_8, t141_9, t141_10, t141_11]) rfl (fun w' hS => (rl 32 0 [t141_0, t141_1, t141_2, t141_3, t141_4, t141_5, t141_6, t141_7, t141_8, t141_9, t141_10, t141_11] hS.2.2)) ?_
   simp only [p3, p4]
   refine oe ?_
   have kq160 := g142.kp.trans (kp143.trans (gd155.kp.trans g157.kp))
   replace h141a := h141a.kp kq160
   replace h141b := h141b.kp kq160
   replace h141c := h141c.kp kq160
   refine ec 51 (vzero_v h141a h141b h141c (by omega)) ?_
   rintro e159 w159 ⟨rfl, g159⟩
   refine ⟨_, rfl, ?_⟩
   replace hB := hB.trans g159
   replace L26 := L26.gr g159
   replace L45 := L45.gr g159
   replace L142 := L142.gr g159
   refine ⟨⟨L26, L45, L142⟩, ?_⟩
   simp only [p3, p4]
   have hb161 : (vcmp 0 0 0 0 0 0 == (0 : Int)) = true := (veq_t rfl rfl rfl)
   refine ow 52 (.bool false) rfl (fun w' hS => (RunV.bool (x := !(vcmp 0 0 0 0 0 0 == (0 : Int))) (rvk (by kernel_rfl)) (show (!(vcmp 0 0 0 0 0 0 == (0 : Int))) = false by rw [hb161]; rfl))) ?_
   simp only [p3, p4]
   refine ov 53 (.bool false) ?_
   simp only [p3, p4]
   refine ov 54 (.bool false) ?_
   simp only [p3, p4]
   refine ov 55 (.bool false) ?_
   simp only [p3, p4]
   refine ov 56 (.slice (some ⟨b26, 0, none⟩) 3 3) ?_
   simp only [p3, p4]
   refine ov 57 (.int .i64 1) ?_
   simp only [p3, p4]
   refine ov 58 (.pointer (some ⟨b26, 3, none⟩)) ?_
   simp only [p3, p4]
   refine ow 59 (.agg #[(.string ⟨(ratL (c1) : List UInt8).toArray⟩), (.string ⟨(ratL (c2) : List UInt8).toArray⟩), (.string ⟨(ratL (c3) : List UInt8).toArray⟩)]) rfl (fun w' hS => (rl 49 3 [(.string ⟨(ratL (c1) : List UInt8).toArray⟩), (.string ⟨(ratL (c2) : List UInt8).toArray⟩), (.string ⟨(ratL (c3) : List UInt8).toArray⟩)] hS.1)) ?_
   simp only [p3, p4]
   refine oe ?_
   refine ec 60 (r3_zero (c1) (c2) (c3) _) ?_
   rintro e163 w163 ⟨rfl, g163⟩
   refine ⟨_, rfl, ?_⟩
   replace hB := hB.trans g163
   replace L26 := L26.gr g163
   replace L45 := L45.gr g163
   replace L142 := L142.gr g163
   refine ⟨⟨L26, L45, L142⟩, ?_⟩
   simp only [p3, p4]
   refine ow 61 (.bool false) rfl (fun w' hS => (RunV.bool (x := !(vcmp (c1) (c2) (c3) 0 0 0 == (0 : Int))) (rvk (by kernel_rfl)) (show (!(vcmp (c1) (c2) (c3) 0 0 0 == (0 : Int))) = false by rw [hb140]; rfl))) ?_
   simp only [p3, p4]
   refine ov 62 (.bool false) ?_
   simp only [p3, p4]
   refine os 63 ?_
   simp only [p3, p4]
   refine os 64 ?_
   simp only [p3, p4]
   refine os 65 ?_
   simp only [p3, p4]
   refine os 66 ?_
   simp only [p3, p4]
   refine os 67 ?_
   simp only [p3, p4]
   refine os 68 ?_
   simp only [p3, p4]
   refine os 69 ?_
   simp only [p3, p4]
   refine os 70 ?_
   simp only [p3, p4]
   refine oz 71 ⟨L26, L45, L142⟩ ?_
   simp only [p3, p4]
   refine oz 72 ⟨L26, L45, L142⟩ ?_
   simp only [p3, p4]
   refine os 73 ?_
   simp only [p3, p4]
   refine os 74 ?_
   simp only [p3, p4]
   refine os 75 ?_
   simp only [p3, p4]
   refine os 76 ?_
   simp only [p3, p4]
   refine os 77 ?_
   simp only [p3, p4]
   refine os 78 ?_
   simp only [p3, p4]
   refine os 79 ?_
   simp only [p3, p4]
   refine os 80 ?_
   simp only [p3, p4]
   refine oz 81 ⟨L26, L45, L142⟩ ?_
   simp only [p3, p4]
   refine os 82 ?_
   simp only [p3, p4]
   refine os 83 ?_
   simp only [p3, p4]
   refine ov 84 (.bool false) ?_
   simp only [p3, p4]
   refine ov 85 (.bool false) ?_
   simp only [p3, p4]
   refine ord_nil ?_
   refine k145 _ _ ?_
   try clear k145 K145
   refine wp_cond_false rfl ?_
   refine wp_skip ?_
   refine k144 _ _ ?_
   try clear k144 K144
   refine chain_nil ?_
   have kq164 := g130.kp.trans (g132.kp.trans (g141.kp.trans (g142.kp.trans (kp143.trans (gd155.kp.trans (g157.kp.trans (g159.kp.trans g163.kp)))))))
   replace h39a := h39a.kp kq164
   replace h39b := h39b.kp kq164
   replace h39c := h39c.kp kq164
   have kq165 := g141.kp.trans (g142.kp.trans (kp143.trans (gd155.kp.trans (g157.kp.trans (g159.kp.trans g163.kp)))))
   replace h41a := h41a.kp kq165
   replace h41b := h41b.kp kq165
   replace h41c := h41c.kp kq165
   have kq166 := gd128.kp.trans (g130.kp.trans (g132.kp.trans (g141.kp.trans (g142.kp.trans (kp143.trans (gd155.kp.trans (g157.kp.trans (g159.kp.trans g163.kp))))))))
   replace h43a := h43a.kp kq166
   replace h43b := h43b.kp kq166
   replace h43c := h43c.kp kq166
   refine k137 ⟨List.toArray ?l167, []⟩ _ ?_
   exact ⟨(fun i => List.getD ?l167 i undef), rfl, h39a, h39b, h39c, h41a, h41b, h41c, h43a, h43b, h43c, L26, L45, hB⟩
  ·refine ec 38 (vprim_ok h41a h41b h41c (by omega) (vzero_false.1 hb140)) ?_
   rintro e168 w168 ⟨⟨t168_0, t168_1, t168_2, t168_3, t168_4, t168_5, t168_6, t168_7, t168_8, t168_9, t168_10, t168_11, rfl, h168a, h168b, h168c⟩, g168⟩
   refine ⟨_, rfl, ?_⟩
   replace hB := hB.trans g168
   simp only [p3, p4]
   refine sv 33 (.tuple #[(.agg #[t168_0, t168_1, t168_2, t168_3, t168_4, t168_5, t168_6, t168_7, t168_8, t168_9, t168_10, t168_11]), (.int .i64 0)]) ?_
   simp only [p3, p4]
   refine sv 39 (.agg #[t168_0, t168_1, t168_2, t168_3, t168_4, t168_5, t168_6, t168_7, t168_8, t168_9, t168_10, t168_11]) ?_
   simp only [p3, p4]
   refine sv 40 (.int .i64 0) ?_
   simp only [p3, p4]
   refine se ?_
   refine ea 32 #[(.bool false), (.slice none 0 0), (.bool false), (.slice none 0 0), (.bool false), (.slice none 0 0), (.bool false), (.slice none 0 0), (.bool false), (.slice none 0 0), (.bool false), (.slice none 0 0)] 10 hB fun b169 w169 g169 L169 o169 q169 hB => ?_
   replace L26 := L26.gr g168
   have ne26_169 := L26.ne o169
   replace L45 := L45.gr g168
   have ne45_169 := L45.ne o169
   simp only [p3, p4]
   refine se ?_
   refine es 32 0 (.agg #[t168_0, t168_1, t168_2, t168_3, t168_4, t168_5, t168_6, t168_7, t168_8, t168_9, t168_10, t168_11]) [t168_0, t168_1, t168_2, t168_3, t168_4, t168_5, t168_6, t168_7, t168_8, t168_9, t168_10, t168_11] #[t168_0, t168_1, t168_2, t168_3, t168_4, t168_5, t168_6, t168_7, t168_8, t168_9, t168_10, t168_11] L169 hB q169 ⟨h168a.one0, h168a.one1, h168a.one2, h168a.one3, h168b.one0, h168b.one1, h168b.one2, h168b.one3, h168c.one0, h168c.one1, h168c.one2, h168c.one3, trivial⟩ fun w170 st170 kp170 L169 hB => ?_
   refine sv 11 (.int .i64 0) ?_
   simp only [p3, p4]
   refine sq_nil ?_
   refine k138 _ _ ?_
   try clear k138 K138
   refine chain_k (fun K171 k171 => ?_)
   refine wp_seq_k (fun K172 k172 => ?_)
   have gd188 := Gr.drew w170
   replace hB := hB.trans gd188
   replace L26 := (st170.lc (L26.gr g169) ne26_169).gr gd188
   replace L45 := (st170.lc (L45.gr g169) ne45_169).gr gd188
   replace L169 := L169.gr gd188
   refine wp_region_ord (fun w' => Lc w' b26 #[(.string ⟨(ratL (a1) : List UInt8).toArray⟩), (.string ⟨(ratL (a2) : List UInt8).toArray⟩), (.string ⟨(ratL (a3) : List UInt8).toArray⟩), (.string ⟨(ratL (c1) : List UInt8).toArray⟩), (.string ⟨(ratL (c2) : List UInt8).toArray⟩), (.string ⟨(ratL (c3) : List UInt8).toArray⟩), (.string ⟨(ratL (((m1 : Int) : Rat)) : List UInt8).toArray⟩), (.string ⟨(ratL (((m2 : Int) : Rat)) : List UInt8).toArray⟩), (.string ⟨(ratL (((m3 : Int) : Rat)) : List UInt8).toArray⟩)] 49 ∧ Lc w' b45 #[t39_0, t39_1, t39_2, t39_3, t39_4, t39_5, t39_6, t39_7, t39_8, t39_9, t39_10, t39_11, t41_0, t41_1, t41_2, t41_3, t41_4, t41_5, t41_6, t41_7, t41_8, t41_9, t41_10, t41_11, t43_0, t43_1, t43_2, t43_3, t43_4, t43_5, t43_6, t43_7, t43_8, t43_9, t43_10, t43_11] 32 ∧ Lc w' b169 #[t168_0, t168_1, t168_2, t168_3, t168_4, t168_5, t168_6, t168_7, t168_8, t168_9, t168_10, t168_11] 32) [(true, 0), (true, 1), (true, 2), (true, 3), (false, 4), (true, 5), (true, 6), (true, 7), (true, 8), (true, 9), (false, 10), (true, 11), (true, 12), (true, 13), (true, 14), (true, 15), (true, 16), (true, 17), (true, 18), (false, 19), (true, 20), (true, 21), (true, 22), (true, 23), (true, 24), (true, 25), (true, 26), (true, 27), (true, 28), (true, 29), (false, 30), (false, 31), (true, 32), (true, 33), (true, 34), (true, 35), (true, 36), (true, 37), (true, 38), (true, 39), (false, 40), (true, 41), (true, 42), (true, 43), (true, 44)] (by kernel_rfl) (by kernel_rfl) (by kernel_rfl) (by decide) (fun _ _ _ _ _ h => h) ⟨L26, L45, L169⟩ ?_
   refine ov 41 (.slice (some ⟨b26, 0, none⟩) 3 3) ?_
   simp only [p3, p4]
   refine ov 42 (.int .i64 1) ?_
   simp only [p3, p4]
   refine ov 43 (.pointer (some ⟨b26, 3, none⟩)) ?_
   simp only [p3, p4]
   refine ow 44 (.agg #[(.string ⟨(ratL (c1) : List UInt8).toArray⟩), (.string ⟨(ratL (c2) : List UInt8).toArray⟩), (.string ⟨(ratL (c3) : List UInt8).toArray⟩)]) rfl (fun w' hS => (rl 49 3 [(.string ⟨(ratL (c1) : List UInt8).toArray⟩), (.string ⟨(ratL (c2) : List UInt8).toArray⟩), (.string ⟨(ratL (c3) : List UInt8).toArray⟩)] hS.1)) ?_
   simp only [p3, p4]
   refine oe ?_
   refine ec 45 (r3_zero (c1) (c2) (c3) _) ?_
   rintro e190 w190 ⟨rfl, g190⟩
   refine ⟨_, rfl, ?_⟩
   replace hB := hB.trans g190
   replace L26 := L26.gr g190
   replace L45 := L45.gr g190
   replace L169 := L169.gr g190
   refine ⟨⟨L26, L45, L169⟩, ?_⟩
   simp only [p3, p4]
   refine ow 46 (.bool false) rfl (fun w' hS => (RunV.bool (x := vcmp (c1) (c2) (c3) 0 0 0 == (0 : Int)) (rvk (by kernel_rfl)) hb140)) ?_
   simp only [p3, p4]
   refine os 47 ?_
   simp only [p3, p4]
   refine os 48 ?_
   simp only [p3, p4]
   refine os 49 ?_
   simp only [p3, p4]
   refine os 50 ?_
   simp only [p3, p4]
   refine oz 51 ⟨L26, L45, L169⟩ ?_
   simp only [p3, p4]
   refine os 52 ?_
   simp only [p3, p4]
   refine os 53 ?_
   simp only [p3, p4]
   refine ov 54 (.bool false) ?_
   simp only [p3, p4]
   refine ov 55 (.bool false) ?_
   simp only [p3, p4]
   refine ov 56 (.slice (some ⟨b26, 0, none⟩) 3 3) ?_
   simp only [p3, p4]
   refine ov 57 (.int .i64 1) ?_
   simp only [p3, p4]
   refine ov 58 (.pointer (some ⟨b26, 3, none⟩)) ?_
   simp only [p3, p4]
   refine ow 59 (.agg #[(.string ⟨(ratL (c1) : List UInt8).toArray⟩), (.string ⟨(ratL (c2) : List UInt8).toArray⟩), (.string ⟨(ratL (c3) : List UInt8).toArray⟩)]) rfl (fun w' hS => (rl 49 3 [(.string ⟨(ratL (c1) : List UInt8).toArray⟩), (.string ⟨(ratL (c2) : List UInt8).toArray⟩), (.string ⟨(ratL (c3) : List UInt8).toArray⟩)] hS.1)) ?_
   simp only [p3, p4]
   refine oe ?_
   refine ec 60 (r3_zero (c1) (c2) (c3) _) ?_
   rintro e192 w192 ⟨rfl, g192⟩
   refine ⟨_, rfl, ?_⟩
   replace hB := hB.trans g192
   replace L26 := L26.gr g192
   replace L45 := L45.gr g192
   replace L169 := L169.gr g192
   refine ⟨⟨L26, L45, L169⟩, ?_⟩
   simp only [p3, p4]
   refine ow 61 (.bool true) rfl (fun w' hS => (RunV.bool (x := !(vcmp (c1) (c2) (c3) 0 0 0 == (0 : Int))) (rvk (by kernel_rfl)) (show (!(vcmp (c1) (c2) (c3) 0 0 0 == (0 : Int))) = true by rw [hb140]; rfl))) ?_
   simp only [p3, p4]
   refine ov 62 (.bool true) ?_
   simp only [p3, p4]
   refine ov 63 (.int .i64 0) ?_
   simp only [p3, p4]
   refine ov 64 (.bool false) ?_
   simp only [p3, p4]
   refine ov 65 (.bool false) ?_
   simp only [p3, p4]
   refine ow 66 (.agg #[t168_0, t168_1, t168_2, t168_3, t168_4, t168_5, t168_6, t168_7, t168_8, t168_9, t168_10, t168_11]) rfl (fun w' hS => (rl 32 0 [t168_0, t168_1, t168_2, t168_3, t168_4, t168_5, t168_6, t168_7, t168_8, t168_9, t168_10, t168_11] hS.2.2)) ?_
   simp only [p3, p4]
   refine ov 67 (.slice (some ⟨b26, 0, none⟩) 3 3) ?_
   simp only [p3, p4]
   refine ov 68 (.int .i64 1) ?_
   simp only [p3, p4]
   refine ov 69 (.pointer (some ⟨b26, 3, none⟩)) ?_
   simp only [p3, p4]
   refine ow 70 (.agg #[(.string ⟨(ratL (c1) : List UInt8).toArray⟩), (.string ⟨(ratL (c2) : List UInt8).toArray⟩), (.string ⟨(ratL (c3) : List UInt8).toArray⟩)]) rfl (fun w' hS => (rl 49 3 [(.string ⟨(ratL (c1) : List UInt8).toArray⟩), (.string ⟨(ratL (c2) : List UInt8).toArray⟩), (.string ⟨(ratL (c3) : List UInt8).toArray⟩)] hS.1)) ?_
   simp only [p3, p4]
   refine oe ?_
   refine ec 71 (r3_prim (k := 64) (c1) (c2) (c3) (hc1.mono (by omega)) (hc2.mono (by omega)) (hc3.mono (by omega)) (by omega) (by omega) (vzero_false.1 hb140) _) ?_
   rintro e194 w194 ⟨rfl, g194⟩
   refine ⟨_, rfl, ?_⟩
   replace hB := hB.trans g194
   replace L26 := L26.gr g194
   replace L45 := L45.gr g194
   replace L169 := L169.gr g194
   refine ⟨⟨L26, L45, L169⟩, ?_⟩
   simp only [p3, p4]
   refine oe ?_
   have kq197 := g169.kp.trans (kp170.trans (gd188.kp.trans (g190.kp.trans (g192.kp.trans g194.kp))))
   replace h168a := h168a.kp kq197
   replace h168b := h168b.kp kq197
   replace h168c := h168c.kp kq197
   refine ec 72 (is_v (ratL (prim (c1) (c2) (c3) (c1))) (ratL (prim (c1) (c2) (c3) (c2))) (ratL (prim (c1) (c2) (c3) (c3))) h168a h168b h168c (by omega) (ht.gr hB)) ?_
   rintro e196 w196 ⟨rfl, g196⟩
   refine ⟨_, rfl, ?_⟩
   replace hB := hB.trans g196
   replace L26 := L26.gr g196
   replace L45 := L45.gr g196
   replace L169 := L169.gr g196
   refine ⟨⟨L26, L45, L169⟩, ?_⟩
   simp only [p3, p4]
   have hb198 : (sEq [ratL ((prim (c1) (c2) (c3) (c1))), ratL ((prim (c1) (c2) (c3) (c2))), ratL ((prim (c1) (c2) (c3) (c3)))] [ratL (prim (c1) (c2) (c3) (c1)), ratL (prim (c1) (c2) (c3) (c2)), ratL (prim (c1) (c2) (c3) (c3))]) = true := (lawVm1 c1 c2 c3 )
   refine ow 73 (.bool false) rfl (fun w' hS => (RunV.bool (x := !(sEq [ratL ((prim (c1) (c2) (c3) (c1))), ratL ((prim (c1) (c2) (c3) (c2))), ratL ((prim (c1) (c2) (c3) (c3)))] [ratL (prim (c1) (c2) (c3) (c1)), ratL (prim (c1) (c2) (c3) (c2)), ratL (prim (c1) (c2) (c3) (c3))])) (rvk (by kernel_rfl)) (show (!(sEq [ratL ((prim (c1) (c2) (c3) (c1))), ratL ((prim (c1) (c2) (c3) (c2))), ratL ((prim (c1) (c2) (c3) (c3)))] [ratL (prim (c1) (c2) (c3) (c1)), ratL (prim (c1) (c2) (c3) (c2)), ratL (prim (c1) (c2) (c3) (c3))])) = false by rw [hb198]; rfl))) ?_
   simp only [p3, p4]
   refine ov 74 (.bool false) ?_
   simp only [p3, p4]
   refine ov 75 (.bool false) ?_
   simp only [p3, p4]
   refine ow 76 (.agg #[t168_0, t168_1, t168_2, t168_3, t168_4, t168_5, t168_6, t168_7, t168_8, t168_9, t168_10, t168_11]) rfl (fun w' hS => (rl 32 0 [t168_0, t168_1, t168_2, t168_3, t168_4, t168_5, t168_6, t168_7, t168_8, t168_9, t168_10, t168_11] hS.2.2)) ?_
   simp only [p3, p4]
   refine ov 77 (.slice (some ⟨b45, 0, none⟩) 3 3) ?_
   simp only [p3, p4]
   refine ov 78 (.int .i64 1) ?_
   simp only [p3, p4]
   refine ov 79 (.pointer (some ⟨b45, 12, none⟩)) ?_
   simp only [p3, p4]
   refine ow 80 (.agg #[t41_0, t41_1, t41_2, t41_3, t41_4, t41_5, t41_6, t41_7, t41_8, t41_9, t41_10, t41_11]) rfl (fun w' hS => (rl 32 12 [t41_0, t41_1, t41_2, t41_3, t41_4, t41_5, t41_6, t41_7, t41_8, t41_9, t41_10, t41_11] hS.2.1)) ?_
   simp only [p3, p4]
   refine oe ?_
   replace h168a := h168a.kp g196.kp
   replace h168b := h168b.kp g196.kp
   replace h168c := h168c.kp g196.kp
   have kq201 := g168.kp.trans (g169.kp.trans (kp170.trans (gd188.kp.trans (g190.kp.trans (g192.kp.trans (g194.kp.trans g196.kp))))))
   replace h41a := h41a.kp kq201
   replace h41b := h41b.kp kq201
   replace h41c := h41c.kp kq201
   refine ec 81 (vparallel_v h168a h168b h168c h41a h41b h41c (by omega)) ?_
   rintro e200 w200 ⟨rfl, g200⟩
   refine ⟨_, rfl, ?_⟩
   replace hB := hB.trans g200
   replace L26 := L26.gr g200
   replace L45 := L45.gr g200
   replace L169 := L169.gr g200
   refine ⟨⟨L26, L45, L169⟩, ?_⟩
   simp only [p3, p4]
   have hb202 : (((!(vcmp (prim (c1) (c2) (c3) (c1)) (prim (c1) (c2) (c3) (c2)) (prim (c1) (c2) (c3) (c3)) 0 0 0 == (0 : Int)) && !(vcmp c1 c2 c3 0 0 0 == (0 : Int))) && (vcmp ((prim (c1) (c2) (c3) (c2)) * c3 - (prim (c1) (c2) (c3) (c3)) * c2) ((prim (c1) (c2) (c3) (c3)) * c1 - (prim (c1) (c2) (c3) (c1)) * c3) ((prim (c1) (c2) (c3) (c1)) * c2 - (prim (c1) (c2) (c3) (c2)) * c1) 0 0 0 == (0 : Int)))) = true := (prim_parallel (vzero_false.1 hb140))
   refine ow 82 (.bool false) rfl (fun w' hS => (RunV.bool (x := !(((!(vcmp (prim (c1) (c2) (c3) (c1)) (prim (c1) (c2) (c3) (c2)) (prim (c1) (c2) (c3) (c3)) 0 0 0 == (0 : Int)) && !(vcmp c1 c2 c3 0 0 0 == (0 : Int))) && (vcmp ((prim (c1) (c2) (c3) (c2)) * c3 - (prim (c1) (c2) (c3) (c3)) * c2) ((prim (c1) (c2) (c3) (c3)) * c1 - (prim (c1) (c2) (c3) (c1)) * c3) ((prim (c1) (c2) (c3) (c1)) * c2 - (prim (c1) (c2) (c3) (c2)) * c1) 0 0 0 == (0 : Int))))) (rvk (by kernel_rfl)) (show (!(((!(vcmp (prim (c1) (c2) (c3) (c1)) (prim (c1) (c2) (c3) (c2)) (prim (c1) (c2) (c3) (c3)) 0 0 0 == (0 : Int)) && !(vcmp c1 c2 c3 0 0 0 == (0 : Int))) && (vcmp ((prim (c1) (c2) (c3) (c2)) * c3 - (prim (c1) (c2) (c3) (c3)) * c2) ((prim (c1) (c2) (c3) (c3)) * c1 - (prim (c1) (c2) (c3) (c1)) * c3) ((prim (c1) (c2) (c3) (c1)) * c2 - (prim (c1) (c2) (c3) (c2)) * c1) 0 0 0 == (0 : Int))))) = false by rw [hb202]; rfl))) ?_
   simp only [p3, p4]
   refine ov 83 (.bool false) ?_
   simp only [p3, p4]
   refine ov 84 (.bool false) ?_
   simp only [p3, p4]
   refine ov 85 (.bool false) ?_
   simp only [p3, p4]
   refine ord_nil ?_
   refine k172 _ _ ?_
   try clear k172 K172
   refine wp_cond_false rfl ?_
   refine wp_skip ?_
   refine k171 _ _ ?_
   try clear k171 K171
   refine chain_nil ?_
   have kq203 := g130.kp.trans (g132.kp.trans (g168.kp.trans (g169.kp.trans (kp170.trans (gd188.kp.trans (g190.kp.trans (g192.kp.trans (g194.kp.trans (g196.kp.trans g200.kp)))))))))
   replace h39a := h39a.kp kq203
   replace h39b := h39b.kp kq203
   replace h39c := h39c.kp kq203
   replace h41a := h41a.kp g200.kp
   replace h41b := h41b.kp g200.kp
   replace h41c := h41c.kp g200.kp
   have kq204 := gd128.kp.trans (g130.kp.trans (g132.kp.trans (g168.kp.trans (g169.kp.trans (kp170.trans (gd188.kp.trans (g190.kp.trans (g192.kp.trans (g194.kp.trans (g196.kp.trans g200.kp))))))))))
   replace h43a := h43a.kp kq204
   replace h43b := h43b.kp kq204
   replace h43c := h43c.kp kq204
   refine k137 ⟨List.toArray ?l205, []⟩ _ ?_
   exact ⟨(fun i => List.getD ?l205 i undef), rfl, h39a, h39b, h39c, h41a, h41b, h41c, h43a, h43b, h43c, L26, L45, hB⟩
 rintro a137 w137 ⟨u137, rfl, h39a, h39b, h39c, h41a, h41b, h41c, h43a, h43b, h43c, L26, L45, hB⟩
 refine wp_seq_k (fun K206 k206 => ?_)
 refine rg [0, 1, 2, 3] ?_
 refine sv 86 (.int .i64 1) ?_
 simp only [p3, p4]
 refine sv 87 (.int .i64 2) ?_
 simp only [p3, p4]
 refine sv 88 (.int .i64 2) ?_
 simp only [p3, p4]
 refine sv 12 (.int .i64 2) ?_
 simp only [p3, p4]
 refine sq_nil ?_
 refine k206 _ _ ?_
 try clear k206 K206
 refine wp_seq_k (fun K207 k207 => ?_)
 have gd214 := Gr.drew w137
 replace hB := hB.trans gd214
 replace L26 := L26.gr gd214
 replace L45 := L45.gr gd214
 refine wp_region_ord (fun w' => Lc w' b26 #[(.string ⟨(ratL (a1) : List UInt8).toArray⟩), (.string ⟨(ratL (a2) : List UInt8).toArray⟩), (.string ⟨(ratL (a3) : List UInt8).toArray⟩), (.string ⟨(ratL (c1) : List UInt8).toArray⟩), (.string ⟨(ratL (c2) : List UInt8).toArray⟩), (.string ⟨(ratL (c3) : List UInt8).toArray⟩), (.string ⟨(ratL (((m1 : Int) : Rat)) : List UInt8).toArray⟩), (.string ⟨(ratL (((m2 : Int) : Rat)) : List UInt8).toArray⟩), (.string ⟨(ratL (((m3 : Int) : Rat)) : List UInt8).toArray⟩)] 49 ∧ Lc w' b45 #[t39_0, t39_1, t39_2, t39_3, t39_4, t39_5, t39_6, t39_7, t39_8, t39_9, t39_10, t39_11, t41_0, t41_1, t41_2, t41_3, t41_4, t41_5, t41_6, t41_7, t41_8, t41_9, t41_10, t41_11, t43_0, t43_1, t43_2, t43_3, t43_4, t43_5, t43_6, t43_7, t43_8, t43_9, t43_10, t43_11] 32) [(true, 0), (true, 1), (true, 2), (true, 3), (true, 4), (true, 5), (true, 6), (true, 7), (true, 9), (true, 10), (true, 11), (true, 12), (true, 13), (true, 14), (true, 15), (true, 16), (false, 8), (false, 17), (true, 18)] (by kernel_rfl) (by kernel_rfl) (by kernel_rfl) (by decide) (fun _ _ _ _ _ h => h) ⟨L26, L45⟩ ?_
 refine ov 89 (.slice (some ⟨b45, 0, none⟩) 3 3) ?_
 simp only [p3, p4]
 refine ov 90 (.int .i64 1) ?_
 simp only [p3, p4]
 refine ov 91 (.pointer (some ⟨b45, 12, none⟩)) ?_
 simp only [p3, p4]
 refine ow 92 (.agg #[t41_0, t41_1, t41_2, t41_3, t41_4, t41_5, t41_6, t41_7, t41_8, t41_9, t41_10, t41_11]) rfl (fun w' hS => (rl 32 12 [t41_0, t41_1, t41_2, t41_3, t41_4, t41_5, t41_6, t41_7, t41_8, t41_9, t41_10, t41_11] hS.2)) ?_
 simp only [p3, p4]
 refine ov 93 (.slice (some ⟨b45, 0, none⟩) 3 3) ?_
 simp only [p3, p4]
 refine ov 94 (.int .i64 2) ?_
 simp only [p3, p4]
 refine ov 95 (.pointer (some ⟨b45, 24, none⟩)) ?_
 simp only [p3, p4]
 refine ow 96 (.agg #[t43_0, t43_1, t43_2, t43_3, t43_4, t43_5, t43_6, t43_7, t43_8, t43_9, t43_10, t43_11]) rfl (fun w' hS => (rl 32 24 [t43_0, t43_1, t43_2, t43_3, t43_4, t43_5, t43_6, t43_7, t43_8, t43_9, t43_10, t43_11] hS.2)) ?_
 simp only [p3, p4]
 refine ov 98 (.slice (some ⟨b26, 0, none⟩) 3 3) ?_
 simp only [p3, p4]
 refine ov 99 (.int .i64 1) ?_
 simp only [p3, p4]
 refine ov 100 (.pointer (some ⟨b26, 3, none⟩)) ?_
 simp only [p3, p4]
 refine ow 101 (.agg #[(.string ⟨(ratL (c1) : List UInt8).toArray⟩), (.string ⟨(ratL (c2) : List UInt8).toArray⟩), (.string ⟨(ratL (c3) : List UInt8).toArray⟩)]) rfl (fun w' hS => (rl 49 3 [(.string ⟨(ratL (c1) : List UInt8).toArray⟩), (.string ⟨(ratL (c2) : List UInt8).toArray⟩), (.string ⟨(ratL (c3) : List UInt8).toArray⟩)] hS.1)) ?_
 simp only [p3, p4]
 refine ov 102 (.slice (some ⟨b26, 0, none⟩) 3 3) ?_
 simp only [p3, p4]
 refine ov 103 (.int .i64 2) ?_
 simp only [p3, p4]
 refine ov 104 (.pointer (some ⟨b26, 6, none⟩)) ?_
 simp only [p3, p4]
 refine ow 105 (.agg #[(.string ⟨(ratL (((m1 : Int) : Rat)) : List UInt8).toArray⟩), (.string ⟨(ratL (((m2 : Int) : Rat)) : List UInt8).toArray⟩), (.string ⟨(ratL (((m3 : Int) : Rat)) : List UInt8).toArray⟩)]) rfl (fun w' hS => (rl 49 6 [(.string ⟨(ratL (((m1 : Int) : Rat)) : List UInt8).toArray⟩), (.string ⟨(ratL (((m2 : Int) : Rat)) : List UInt8).toArray⟩), (.string ⟨(ratL (((m3 : Int) : Rat)) : List UInt8).toArray⟩)] hS.1)) ?_
 simp only [p3, p4]
 refine oe ?_
 replace h41a := h41a.kp gd214.kp
 replace h41b := h41b.kp gd214.kp
 replace h41c := h41c.kp gd214.kp
 replace h43a := h43a.kp gd214.kp
 replace h43b := h43b.kp gd214.kp
 replace h43c := h43c.kp gd214.kp
 refine ec 97 (vparallel_v h41a h41b h41c h43a h43b h43c (by omega)) ?_
 rintro e216 w216 ⟨rfl, g216⟩
 refine ⟨_, rfl, ?_⟩
 replace hB := hB.trans g216
 replace L26 := L26.gr g216
 replace L45 := L45.gr g216
 refine ⟨⟨L26, L45⟩, ?_⟩
 simp only [p3, p4]
 refine oe ?_
 refine ec 106 (r3_parallel (c1) (c2) (c3) hc1 hc2 hc3 (((m1 : Int) : Rat)) (((m2 : Int) : Rat)) (((m3 : Int) : Rat)) (rs_i64 (n := m1) (by omega)) (rs_i64 (n := m2) (by omega)) (rs_i64 (n := m3) (by omega)) (by omega) _) ?_
 rintro e218 w218 ⟨rfl, g218⟩
 refine ⟨_, rfl, ?_⟩
 replace hB := hB.trans g218
 replace L26 := L26.gr g218
 replace L45 := L45.gr g218
 refine ⟨⟨L26, L45⟩, ?_⟩
 simp only [p3, p4]
 have hb219 : (((((!(vcmp c1 c2 c3 0 0 0 == (0 : Int)) && !(vcmp (((m1 : Int) : Rat)) (((m2 : Int) : Rat)) (((m3 : Int) : Rat)) 0 0 0 == (0 : Int))) && (vcmp (c2 * (((m3 : Int) : Rat)) - c3 * (((m2 : Int) : Rat))) (c3 * (((m1 : Int) : Rat)) - c1 * (((m3 : Int) : Rat))) (c1 * (((m2 : Int) : Rat)) - c2 * (((m1 : Int) : Rat))) 0 0 0 == (0 : Int)))) != (((!(vcmp (c1) (c2) (c3) 0 0 0 == (0 : Int)) && !(vcmp (((m1 : Int) : Rat)) (((m2 : Int) : Rat)) (((m3 : Int) : Rat)) 0 0 0 == (0 : Int))) && (vcmp (c2 * ((m3 : Int) : Rat) - c3 * ((m2 : Int) : Rat)) (c3 * ((m1 : Int) : Rat) - c1 * ((m3 : Int) : Rat)) (c1 * ((m2 : Int) : Rat) - c2 * ((m1 : Int) : Rat)) 0 0 0 == (0 : Int)))))) = false := (by simp)
 refine ow 107 (.bool false) rfl (fun w' hS => (RunV.bool (x := ((((!(vcmp c1 c2 c3 0 0 0 == (0 : Int)) && !(vcmp (((m1 : Int) : Rat)) (((m2 : Int) : Rat)) (((m3 : Int) : Rat)) 0 0 0 == (0 : Int))) && (vcmp (c2 * (((m3 : Int) : Rat)) - c3 * (((m2 : Int) : Rat))) (c3 * (((m1 : Int) : Rat)) - c1 * (((m3 : Int) : Rat))) (c1 * (((m2 : Int) : Rat)) - c2 * (((m1 : Int) : Rat))) 0 0 0 == (0 : Int)))) != (((!(vcmp (c1) (c2) (c3) 0 0 0 == (0 : Int)) && !(vcmp (((m1 : Int) : Rat)) (((m2 : Int) : Rat)) (((m3 : Int) : Rat)) 0 0 0 == (0 : Int))) && (vcmp (c2 * ((m3 : Int) : Rat) - c3 * ((m2 : Int) : Rat)) (c3 * ((m1 : Int) : Rat) - c1 * ((m3 : Int) : Rat)) (c1 * ((m2 : Int) : Rat) - c2 * ((m1 : Int) : Rat)) 0 0 0 == (0 : Int)))))) (rvk (by kernel_rfl)) hb219)) ?_
 simp only [p3, p4]
 refine ord_nil ?_
 refine k207 _ _ ?_
 try clear k207 K207
 refine wp_cond_false rfl ?_
 refine wp_skip ?_
 refine k136 _ _ ?_
 try clear k136 K136
 refine rg [0, 1, 2] ?_
 refine sv 31 (.int .i64 1) ?_
 simp only [p3, p4]
 refine sv 32 (.int .i64 2) ?_
 simp only [p3, p4]
 refine sv 9 (.int .i64 2) ?_
 simp only [p3, p4]
 refine sq_nil ?_
 show Code.rounds _ _ _ _ _ _
 show Code.wp _ _ _ _ _
 refine wp_seq_k (fun K220 k220 => ?_)
 refine wp_seq_k (fun K221 k221 => ?_)
 refine rg [0, 1] ?_
 refine sv 29 (.int .i64 2) ?_
 simp only [p3, p4]
 refine sv 30 (.bool true) ?_
 simp only [p3, p4]
 refine sq_nil ?_
 refine k221 _ _ ?_
 try clear k221 K221
 refine wp_cond_true rfl ?_
 refine wp_skip ?_
 refine k220 _ _ ?_
 try clear k220 K220
 refine wp_seq_k (fun K222 k222 => ?_)
 refine wp_block ?_
 refine wp_cut2 (fun a w' => ∃  (u223 : Nat → Value), a = ⟨[(u223 0), (u223 1), (u223 2), (.pointer (some ⟨b2, 0, none⟩)), (.pointer (some ⟨b3, 0, none⟩)), (.pointer (some ⟨b4, 0, none⟩)), (u223 6), (.slice (some ⟨b26, 0, none⟩) 3 3), (.slice (some ⟨b45, 0, none⟩) 3 3), (.int .i64 2), (u223 10), (u223 11), (.int .i64 2), (u223 13), (.bool false), (u223 15), (u223 16), (u223 17), (u223 18), (u223 19), (u223 20), (u223 21), (u223 22), (u223 23), (u223 24), (u223 25), (u223 26), (u223 27), (u223 28), (u223 29), (.bool true), (u223 31), (u223 32), (u223 33), (u223 34), (u223 35), (u223 36), (u223 37), (u223 38), (u223 39), (u223 40), (u223 41), (u223 42), (u223 43), (u223 44), (u223 45), (u223 46), (u223 47), (u223 48), (u223 49), (u223 50), (u223 51), (u223 52), (u223 53), (u223 54), (u223 55), (u223 56), (u223 57), (u223 58), (u223 59), (u223 60), (u223 61), (u223 62), (u223 63), (u223 64), (u223 65), (u223 66), (u223 67), (u223 68), (u223 69), (u223 70), (u223 71), (u223 72), (u223 73), (u223 74), (u223 75), (u223 76), (u223 77), (u223 78), (u223 79), (u223 80), (u223 81), (u223 82), (u223 83), (u223 84), (u223 85), (u223 86), (u223 87), (u223 88), (u223 89), (u223 90), (u223 91), (u223 92), (u223 93), (u223 94), (u223 95), (u223 96), (u223 97), (u223 98), (u223 99), (u223 100), (u223 101), (u223 102), (u223 103), (u223 104), (u223 105), (u223 106), (.bool false)].toArray, []⟩ ∧ IsRat w' 64 t39_0 t39_1 t39_2 t39_3 (a1) ∧ IsRat w' 64 t39_4 t39_5 t39_6 t39_7 (a2) ∧ IsRat w' 64 t39_8 t39_9 t39_10 t39_11 (a3) ∧ IsRat w' 64 t41_0 t41_1 t41_2 t41_3 (c1) ∧ IsRat w' 64 t41_4 t41_5 t41_6 t41_7 (c2) ∧ IsRat w' 64 t41_8 t41_9 t41_10 t41_11 (c3) ∧ IsRat w' 64 t43_0 t43_1 t43_2 t43_3 ((((m1 : Int) : Rat))) ∧ IsRat w' 64 t43_4 t43_5 t43_6 t43_7 ((((m2 : Int) : Rat))) ∧ IsRat w' 64 t43_8 t43_9 t43_10 t43_11 ((((m3 : Int) : Rat))) ∧ Lc w' b26 #[(.string ⟨(ratL (a1) : List UInt8).toArray⟩), (.string ⟨(ratL (a2) : List UInt8).toArray⟩), (.string ⟨(ratL (a3) : List UInt8).toArray⟩), (.string ⟨(ratL (c1) : List UInt8).toArray⟩), (.string ⟨(ratL (c2) : List UInt8).toArray⟩), (.string ⟨(ratL (c3) : List UInt8).toArray⟩), (.string ⟨(ratL (((m1 : Int) : Rat)) : List UInt8).toArray⟩), (.string ⟨(ratL (((m2 : Int) : Rat)) : List UInt8).toArray⟩), (.string ⟨(ratL (((m3 : Int) : Rat)) : List UInt8).toArray⟩)] 49 ∧ Lc w' b45 #[t39_0, t39_1, t39_2, t39_3, t39_4, t39_5, t39_6, t39_7, t39_8, t39_9, t39_10, t39_11, t41_0, t41_1, t41_2, t41_3, t41_4, t41_5, t41_6, t41_7, t41_8, t41_9, t41_10, t41_11, t43_0, t43_1, t43_2, t43_3, t43_4, t43_5, t43_6, t43_7, t43_8, t43_9, t43_10, t43_11] 32 ∧ Gr w w') (fun K223 k223 => ?_) ?_
 ·refine chain_k (fun K224 k224 => ?_)
  refine rg [0, 1, 2, 3, 4, 5, 6, 7, 8, 9, 10] ?_
  refine sv 34 (.slice (some ⟨b45, 0, none⟩) 3 3) ?_
  simp only [p3, p4]
  refine sv 35 (.int .i64 2) ?_
  simp only [p3, p4]
  refine sv 36 (.pointer (some ⟨b45, 24, none⟩)) ?_
  simp only [p3, p4]
  refine sw 37 (.agg #[t43_0, t43_1, t43_2, t43_3, t43_4, t43_5, t43_6, t43_7, t43_8, t43_9, t43_10, t43_11]) rfl (rl 32 24 [t43_0, t43_1, t43_2, t43_3, t43_4, t43_5, t43_6, t43_7, t43_8, t43_9, t43_10, t43_11] L45) ?_
  simp only [p3, p4]
  refine se ?_
  have kq225 := g216.kp.trans g218.kp
  replace h43a := h43a.kp kq225
  replace h43b := h43b.kp kq225
  replace h43c := h43c.kp kq225
  rcases Bool.eq_false_or_eq_true ((vcmp ((((m1 : Int) : Rat))) ((((m2 : Int) : Rat))) ((((m3 : Int) : Rat))) 0 0 0 == (0 : Int))) with hb226 | hb226
  ·refine ec 38 (vprim_zero h43a h43b h43c (by omega) (vzero_iff.1 hb226)) ?_
   rintro e227 w227 ⟨⟨t227_0, t227_1, t227_2, t227_3, t227_4, t227_5, t227_6, t227_7, t227_8, t227_9, t227_10, t227_11, rfl, h227a, h227b, h227c⟩, g227⟩
   refine ⟨_, rfl, ?_⟩
   replace hB := hB.trans g227
   simp only [p3, p4]
   refine sv 33 (.tuple #[(.agg #[t227_0, t227_1, t227_2, t227_3, t227_4, t227_5, t227_6, t227_7, t227_8, t227_9, t227_10, t227_11]), (.int .i64 19)]) ?_
   simp only [p3, p4]
   refine sv 39 (.agg #[t227_0, t227_1, t227_2, t227_3, t227_4, t227_5, t227_6, t227_7, t227_8, t227_9, t227_10, t227_11]) ?_
   simp only [p3, p4]
   refine sv 40 (.int .i64 19) ?_
   simp only [p3, p4]
   refine se ?_
   refine ea 32 #[(.bool false), (.slice none 0 0), (.bool false), (.slice none 0 0), (.bool false), (.slice none 0 0), (.bool false), (.slice none 0 0), (.bool false), (.slice none 0 0), (.bool false), (.slice none 0 0)] 10 hB fun b228 w228 g228 L228 o228 q228 hB => ?_
   replace L26 := L26.gr g227
   have ne26_228 := L26.ne o228
   replace L45 := L45.gr g227
   have ne45_228 := L45.ne o228
   simp only [p3, p4]
   refine se ?_
   refine es 32 0 (.agg #[t227_0, t227_1, t227_2, t227_3, t227_4, t227_5, t227_6, t227_7, t227_8, t227_9, t227_10, t227_11]) [t227_0, t227_1, t227_2, t227_3, t227_4, t227_5, t227_6, t227_7, t227_8, t227_9, t227_10, t227_11] #[t227_0, t227_1, t227_2, t227_3, t227_4, t227_5, t227_6, t227_7, t227_8, t227_9, t227_10, t227_11] L228 hB q228 ⟨h227a.one0, h227a.one1, h227a.one2, h227a.one3, h227b.one0, h227b.one1, h227b.one2, h227b.one3, h227c.one0, h227c.one1, h227c.one2, h227c.one3, trivial⟩ fun w229 st229 kp229 L228 hB => ?_
   refine sv 11 (.int .i64 19) ?_
   simp only [p3, p4]
   refine sq_nil ?_
   refine k224 _ _ ?_
   try clear k224 K224
   refine chain_k (fun K230 k230 => ?_)
   refine wp_seq_k (fun K231 k231 => ?_)
   have gd241 := Gr.drew w229
   replace hB := hB.trans gd241
   replace L26 := (st229.lc (L26.gr g228) ne26_228).gr gd241
   replace L45 := (st229.lc (L45.gr g228) ne45_228).gr gd241
   replace L228 := L228.gr gd241
   refine wp_region_ord (fun w' => Lc w' b26 #[(.string ⟨(ratL (a1) : List UInt8).toArray⟩), (.string ⟨(ratL (a2) : List UInt8).toArray⟩), (.string ⟨(ratL (a3) : List UInt8).toArray⟩), (.string ⟨(ratL (c1) : List UInt8).toArray⟩), (.string ⟨(ratL (c2) : List UInt8).toArray⟩), (.string ⟨(ratL (c3) : List UInt8).toArray⟩), (.string ⟨(ratL (((m1 : Int) : Rat)) : List UInt8).toArray⟩), (.string ⟨(ratL (((m2 : Int) : Rat)) : List UInt8).toArray⟩), (.string ⟨(ratL (((m3 : Int) : Rat)) : List UInt8).toArray⟩)] 49 ∧ Lc w' b45 #[t39_0, t39_1, t39_2, t39_3, t39_4, t39_5, t39_6, t39_7, t39_8, t39_9, t39_10, t39_11, t41_0, t41_1, t41_2, t41_3, t41_4, t41_5, t41_6, t41_7, t41_8, t41_9, t41_10, t41_11, t43_0, t43_1, t43_2, t43_3, t43_4, t43_5, t43_6, t43_7, t43_8, t43_9, t43_10, t43_11] 32 ∧ Lc w' b228 #[t227_0, t227_1, t227_2, t227_3, t227_4, t227_5, t227_6, t227_7, t227_8, t227_9, t227_10, t227_11] 32) [(true, 0), (true, 1), (true, 2), (true, 3), (false, 4), (true, 5), (true, 6), (true, 7), (true, 8), (true, 9), (false, 10), (true, 11), (true, 12), (true, 13), (true, 14), (true, 15), (true, 16), (true, 17), (true, 18), (false, 19), (true, 20), (true, 21), (true, 22), (true, 23), (true, 24), (true, 25), (true, 26), (true, 27), (true, 28), (true, 29), (false, 30), (false, 31), (true, 32), (true, 33), (true, 34), (true, 35), (true, 36), (true, 37), (true, 38), (true, 39), (false, 40), (true, 41), (true, 42), (true, 43), (true, 44)] (by kernel_rfl) (by kernel_rfl) (by kernel_rfl) (by decide) (fun _ _ _ _ _ h => h) ⟨L26, L45, L228⟩ ?_
   refine ov 41 (.slice (some ⟨b26, 0, none⟩) 3 3) ?_
   simp only [p3, p4]
   refine ov 42 (.int .i64 2) ?_
   simp only [p3, p4]
   refine ov 43 (.pointer (some ⟨b26, 6, none⟩)) ?_
   simp only [p3, p4]
   refine ow 44 (.agg #[(.string ⟨(ratL (((m1 : Int) : Rat)) : List UInt8).toArray⟩), (.string ⟨(ratL (((m2 : Int) : Rat)) : List UInt8).toArray⟩), (.string ⟨(ratL (((m3 : Int) : Rat)) : List UInt8).toArray⟩)]) rfl (fun w' hS => (rl 49 6 [(.string ⟨(ratL (((m1 : Int) : Rat)) : List UInt8).toArray⟩), (.string ⟨(ratL (((m2 : Int) : Rat)) : List UInt8).toArray⟩), (.string ⟨(ratL (((m3 : Int) : Rat)) : List UInt8).toArray⟩)] hS.1)) ?_
   simp only [p3, p4]
   refine oe ?_
   refine ec 45 (r3_zero (((m1 : Int) : Rat)) (((m2 : Int) : Rat)) (((m3 : Int) : Rat)) _) ?_
   rintro e243 w243 ⟨rfl, g243⟩
   refine ⟨_, rfl, ?_⟩
   replace hB := hB.trans g243
   replace L26 := L26.gr g243
   replace L45 := L45.gr g243
   replace L228 := L228.gr g243
   refine ⟨⟨L26, L45, L228⟩, ?_⟩
   simp only [p3, p4]
   refine ow 46 (.bool true) rfl (fun w' hS => (RunV.bool (x := vcmp (((m1 : Int) : Rat)) (((m2 : Int) : Rat)) (((m3 : Int) : Rat)) 0 0 0 == (0 : Int)) (rvk (by kernel_rfl)) hb226)) ?_
   simp only [p3, p4]
   refine ov 47 (.int .i64 19) ?_
   simp only [p3, p4]
   refine ov 48 (.bool false) ?_
   simp only [p3, p4]
   refine ov 49 (.bool false) ?_
   simp only [p3, p4]
   refine ow 50 (.agg #[t227_0, t227_1, t227_2, t227_3, t227_4, t227_5, t227_6, t227_7, t227_8, t227_9, t227_10, t227_11]) rfl (fun w' hS => (rl 32 0 [t227_0, t227_1, t227_2, t227_3, t227_4, t227_5, t227_6, t227_7, t227_8, t227_9, t227_10, t227_11] hS.2.2)) ?_
   simp only [p3, p4]
   refine oe ?_
   have kq246 := g228.kp.trans (kp229.trans (gd241.kp.trans g243.kp))
   replace h227a := h227a.kp kq246
   replace h227b := h227b.kp kq246
   replace h227c := h227c.kp kq246
   refine ec 51 (vzero_v h227a h227b h227c (by omega)) ?_
   rintro e245 w245 ⟨rfl, g245⟩
   refine ⟨_, rfl, ?_⟩
   replace hB := hB.trans g245
   replace L26 := L26.gr g245
   replace L45 := L45.gr g245
   replace L228 := L228.gr g245
   refine ⟨⟨L26, L45, L228⟩, ?_⟩
   simp only [p3, p4]
   have hb247 : (vcmp 0 0 0 0 0 0 == (0 : Int)) = true := (veq_t rfl rfl rfl)
   refine ow 52 (.bool false) rfl (fun w' hS => (RunV.bool (x := !(vcmp 0 0 0 0 0 0 == (0 : Int))) (rvk (by kernel_rfl)) (show (!(vcmp 0 0 0 0 0 0 == (0 : Int))) = false by rw [hb247]; rfl))) ?_
   simp only [p3, p4]
   refine ov 53 (.bool false) ?_
   simp only [p3, p4]
   refine ov 54 (.bool false) ?_
   simp only [p3, p4]
   refine ov 55 (.bool false) ?_
   simp only [p3, p4]
   refine ov 56 (.slice (some ⟨b26, 0, none⟩) 3 3) ?_
   simp only [p3, p4]
   refine ov 57 (.int .i64 2) ?_
   simp only [p3, p4]
   refine ov 58 (.pointer (some ⟨b26, 6, none⟩)) ?_
   simp only [p3, p4]
   refine ow 59 (.agg #[(.string ⟨(ratL (((m1 : Int) : Rat)) : List UInt8).toArray⟩), (.string ⟨(ratL (((m2 : Int) : Rat)) : List UInt8).toArray⟩), (.string ⟨(ratL (((m3 : Int) : Rat)) : List UInt8).toArray⟩)]) rfl (fun w' hS => (rl 49 6 [(.string ⟨(ratL (((m1 : Int) : Rat)) : List UInt8).toArray⟩), (.string ⟨(ratL (((m2 : Int) : Rat)) : List UInt8).toArray⟩), (.string ⟨(ratL (((m3 : Int) : Rat)) : List UInt8).toArray⟩)] hS.1)) ?_
   simp only [p3, p4]
   refine oe ?_
   refine ec 60 (r3_zero (((m1 : Int) : Rat)) (((m2 : Int) : Rat)) (((m3 : Int) : Rat)) _) ?_
   rintro e249 w249 ⟨rfl, g249⟩
   refine ⟨_, rfl, ?_⟩
   replace hB := hB.trans g249
   replace L26 := L26.gr g249
   replace L45 := L45.gr g249
   replace L228 := L228.gr g249
   refine ⟨⟨L26, L45, L228⟩, ?_⟩
   simp only [p3, p4]
   refine ow 61 (.bool false) rfl (fun w' hS => (RunV.bool (x := !(vcmp (((m1 : Int) : Rat)) (((m2 : Int) : Rat)) (((m3 : Int) : Rat)) 0 0 0 == (0 : Int))) (rvk (by kernel_rfl)) (show (!(vcmp (((m1 : Int) : Rat)) (((m2 : Int) : Rat)) (((m3 : Int) : Rat)) 0 0 0 == (0 : Int))) = false by rw [hb226]; rfl))) ?_
   simp only [p3, p4]
   refine ov 62 (.bool false) ?_
   simp only [p3, p4]
   refine os 63 ?_
   simp only [p3, p4]
   refine os 64 ?_
   simp only [p3, p4]
   refine os 65 ?_
   simp only [p3, p4]
   refine os 66 ?_
   simp only [p3, p4]
   refine os 67 ?_
   simp only [p3, p4]
   refine os 68 ?_
   simp only [p3, p4]
   refine os 69 ?_
   simp only [p3, p4]
   refine os 70 ?_
   simp only [p3, p4]
   refine oz 71 ⟨L26, L45, L228⟩ ?_
   simp only [p3, p4]
   refine oz 72 ⟨L26, L45, L228⟩ ?_
   simp only [p3, p4]
   refine os 73 ?_
   simp only [p3, p4]
   refine os 74 ?_
   simp only [p3, p4]
   refine os 75 ?_
   simp only [p3, p4]
   refine os 76 ?_
   simp only [p3, p4]
   refine os 77 ?_
   simp only [p3, p4]
   refine os 78 ?_
   simp only [p3, p4]
   refine os 79 ?_
   simp only [p3, p4]
   refine os 80 ?_
   simp only [p3, p4]
   refine oz 81 ⟨L26, L45, L228⟩ ?_
   simp only [p3, p4]
   refine os 82 ?_
   simp only [p3, p4]
   refine os 83 ?_
   simp only [p3, p4]
   refine ov 84 (.bool false) ?_
   simp only [p3, p4]
   refine ov 85 (.bool false) ?_
   simp only [p3, p4]
   refine ord_nil ?_
   refine k231 _ _ ?_
   try clear k231 K231
   refine wp_cond_false rfl ?_
   refine wp_skip ?_
   refine k230 _ _ ?_
   try clear k230 K230
   refine chain_nil ?_
   have kq250 := gd214.kp.trans (g216.kp.trans (g218.kp.trans (g227.kp.trans (g228.kp.trans (kp229.trans (gd241.kp.trans (g243.kp.trans (g245.kp.trans g249.kp))))))))
   replace h39a := h39a.kp kq250
   replace h39b := h39b.kp kq250
   replace h39c := h39c.kp kq250
   have kq251 := g216.kp.trans (g218.kp.trans (g227.kp.trans (g228.kp.trans (kp229.trans (gd241.kp.trans (g243.kp.trans (g245.kp.trans g249.kp)))))))
   replace h41a := h41a.kp kq251
   replace h41b := h41b.kp kq251
   replace h41c := h41c.kp kq251
   have kq252 := g227.kp.trans (g228.kp.trans (kp229.trans (gd241.kp.trans (g243.kp.trans (g245.kp.trans g249.kp)))))
   replace h43a := h43a.kp kq252
   replace h43b := h43b.kp kq252
   replace h43c := h43c.kp kq252
   refine k223 ⟨List.toArray ?l253, []⟩ _ ?_
   exact ⟨(fun i => List.getD ?l253 i undef), rfl, h39a, h39b, h39c, h41a, h41b, h41c, h43a, h43b, h43c, L26, L45, hB⟩
  ·refine ec 38 (vprim_ok h43a h43b h43c (by omega) (vzero_false.1 hb226)) ?_
   rintro e254 w254 ⟨⟨t254_0, t254_1, t254_2, t254_3, t254_4, t254_5, t254_6, t254_7, t254_8, t254_9, t254_10, t254_11, rfl, h254a, h254b, h254c⟩, g254⟩
   refine ⟨_, rfl, ?_⟩
   replace hB := hB.trans g254
   simp only [p3, p4]
   refine sv 33 (.tuple #[(.agg #[t254_0, t254_1, t254_2, t254_3, t254_4, t254_5, t254_6, t254_7, t254_8, t254_9, t254_10, t254_11]), (.int .i64 0)]) ?_
   simp only [p3, p4]
   refine sv 39 (.agg #[t254_0, t254_1, t254_2, t254_3, t254_4, t254_5, t254_6, t254_7, t254_8, t254_9, t254_10, t254_11]) ?_
   simp only [p3, p4]
   refine sv 40 (.int .i64 0) ?_
   simp only [p3, p4]
   refine se ?_
   refine ea 32 #[(.bool false), (.slice none 0 0), (.bool false), (.slice none 0 0), (.bool false), (.slice none 0 0), (.bool false), (.slice none 0 0), (.bool false), (.slice none 0 0), (.bool false), (.slice none 0 0)] 10 hB fun b255 w255 g255 L255 o255 q255 hB => ?_
   replace L26 := L26.gr g254
   have ne26_255 := L26.ne o255
   replace L45 := L45.gr g254
   have ne45_255 := L45.ne o255
   simp only [p3, p4]
   refine se ?_
   refine es 32 0 (.agg #[t254_0, t254_1, t254_2, t254_3, t254_4, t254_5, t254_6, t254_7, t254_8, t254_9, t254_10, t254_11]) [t254_0, t254_1, t254_2, t254_3, t254_4, t254_5, t254_6, t254_7, t254_8, t254_9, t254_10, t254_11] #[t254_0, t254_1, t254_2, t254_3, t254_4, t254_5, t254_6, t254_7, t254_8, t254_9, t254_10, t254_11] L255 hB q255 ⟨h254a.one0, h254a.one1, h254a.one2, h254a.one3, h254b.one0, h254b.one1, h254b.one2, h254b.one3, h254c.one0, h254c.one1, h254c.one2, h254c.one3, trivial⟩ fun w256 st256 kp256 L255 hB => ?_
   refine sv 11 (.int .i64 0) ?_
   simp only [p3, p4]
   refine sq_nil ?_
   refine k224 _ _ ?_
   try clear k224 K224
   refine chain_k (fun K257 k257 => ?_)
   refine wp_seq_k (fun K258 k258 => ?_)
   have gd274 := Gr.drew w256
   replace hB := hB.trans gd274
   replace L26 := (st256.lc (L26.gr g255) ne26_255).gr gd274
   replace L45 := (st256.lc (L45.gr g255) ne45_255).gr gd274
   replace L255 := L255.gr gd274
   refine wp_region_ord (fun w' => Lc w' b26 #[(.string ⟨(ratL (a1) : List UInt8).toArray⟩), (.string ⟨(ratL (a2) : List UInt8).toArray⟩), (.string ⟨(ratL (a3) : List UInt8).toArray⟩), (.string ⟨(ratL (c1) : List UInt8).toArray⟩), (.string ⟨(ratL (c2) : List UInt8).toArray⟩), (.string ⟨(ratL (c3) : List UInt8).toArray⟩), (.string ⟨(ratL (((m1 : Int) : Rat)) : List UInt8).toArray⟩), (.string ⟨(ratL (((m2 : Int) : Rat)) : List UInt8).toArray⟩), (.string ⟨(ratL (((m3 : Int) : Rat)) : List UInt8).toArray⟩)] 49 ∧ Lc w' b45 #[t39_0, t39_1, t39_2, t39_3, t39_4, t39_5, t39_6, t39_7, t39_8, t39_9, t39_10, t39_11, t41_0, t41_1, t41_2, t41_3, t41_4, t41_5, t41_6, t41_7, t41_8, t41_9, t41_10, t41_11, t43_0, t43_1, t43_2, t43_3, t43_4, t43_5, t43_6, t43_7, t43_8, t43_9, t43_10, t43_11] 32 ∧ Lc w' b255 #[t254_0, t254_1, t254_2, t254_3, t254_4, t254_5, t254_6, t254_7, t254_8, t254_9, t254_10, t254_11] 32) [(true, 0), (true, 1), (true, 2), (true, 3), (false, 4), (true, 5), (true, 6), (true, 7), (true, 8), (true, 9), (false, 10), (true, 11), (true, 12), (true, 13), (true, 14), (true, 15), (true, 16), (true, 17), (true, 18), (false, 19), (true, 20), (true, 21), (true, 22), (true, 23), (true, 24), (true, 25), (true, 26), (true, 27), (true, 28), (true, 29), (false, 30), (false, 31), (true, 32), (true, 33), (true, 34), (true, 35), (true, 36), (true, 37), (true, 38), (true, 39), (false, 40), (true, 41), (true, 42), (true, 43), (true, 44)] (by kernel_rfl) (by kernel_rfl) (by kernel_rfl) (by decide) (fun _ _ _ _ _ h => h) ⟨L26, L45, L255⟩ ?_
   refine ov 41 (.slice (some ⟨b26, 0, none⟩) 3 3) ?_
   simp only [p3, p4]
   refine ov 42 (.int .i64 2) ?_
   simp only [p3, p4]
   refine ov 43 (.pointer (some ⟨b26, 6, none⟩)) ?_
   simp only [p3, p4]
   refine ow 44 (.agg #[(.string ⟨(ratL (((m1 : Int) : Rat)) : List UInt8).toArray⟩), (.string ⟨(ratL (((m2 : Int) : Rat)) : List UInt8).toArray⟩), (.string ⟨(ratL (((m3 : Int) : Rat)) : List UInt8).toArray⟩)]) rfl (fun w' hS => (rl 49 6 [(.string ⟨(ratL (((m1 : Int) : Rat)) : List UInt8).toArray⟩), (.string ⟨(ratL (((m2 : Int) : Rat)) : List UInt8).toArray⟩), (.string ⟨(ratL (((m3 : Int) : Rat)) : List UInt8).toArray⟩)] hS.1)) ?_
   simp only [p3, p4]
   refine oe ?_
   refine ec 45 (r3_zero (((m1 : Int) : Rat)) (((m2 : Int) : Rat)) (((m3 : Int) : Rat)) _) ?_
   rintro e276 w276 ⟨rfl, g276⟩
   refine ⟨_, rfl, ?_⟩
   replace hB := hB.trans g276
   replace L26 := L26.gr g276
   replace L45 := L45.gr g276
   replace L255 := L255.gr g276
   refine ⟨⟨L26, L45, L255⟩, ?_⟩
   simp only [p3, p4]
   refine ow 46 (.bool false) rfl (fun w' hS => (RunV.bool (x := vcmp (((m1 : Int) : Rat)) (((m2 : Int) : Rat)) (((m3 : Int) : Rat)) 0 0 0 == (0 : Int)) (rvk (by kernel_rfl)) hb226)) ?_
   simp only [p3, p4]
   refine os 47 ?_
   simp only [p3, p4]
   refine os 48 ?_
   simp only [p3, p4]
   refine os 49 ?_
   simp only [p3, p4]
   refine os 50 ?_
   simp only [p3, p4]
   refine oz 51 ⟨L26, L45, L255⟩ ?_
   simp only [p3, p4]
   refine os 52 ?_
   simp only [p3, p4]
   refine os 53 ?_
   simp only [p3, p4]
   refine ov 54 (.bool false) ?_
   simp only [p3, p4]
   refine ov 55 (.bool false) ?_
   simp only [p3, p4]
   refine ov 56 (.slice (some ⟨b26, 0, none⟩) 3 3) ?_
   simp only [p3, p4]
   refine ov 57 (.int .i64 2) ?_
   simp only [p3, p4]
   refine ov 58 (.pointer (some ⟨b26, 6, none⟩)) ?_
   simp only [p3, p4]
   refine ow 59 (.agg #[(.string ⟨(ratL (((m1 : Int) : Rat)) : List UInt8).toArray⟩), (.string ⟨(ratL (((m2 : Int) : Rat)) : List UInt8).toArray⟩), (.string ⟨(ratL (((m3 : Int) : Rat)) : List UInt8).toArray⟩)]) rfl (fun w' hS => (rl 49 6 [(.string ⟨(ratL (((m1 : Int) : Rat)) : List UInt8).toArray⟩), (.string ⟨(ratL (((m2 : Int) : Rat)) : List UInt8).toArray⟩), (.string ⟨(ratL (((m3 : Int) : Rat)) : List UInt8).toArray⟩)] hS.1)) ?_
   simp only [p3, p4]
   refine oe ?_
   refine ec 60 (r3_zero (((m1 : Int) : Rat)) (((m2 : Int) : Rat)) (((m3 : Int) : Rat)) _) ?_
   rintro e278 w278 ⟨rfl, g278⟩
   refine ⟨_, rfl, ?_⟩
   replace hB := hB.trans g278
   replace L26 := L26.gr g278
   replace L45 := L45.gr g278
   replace L255 := L255.gr g278
   refine ⟨⟨L26, L45, L255⟩, ?_⟩
   simp only [p3, p4]
   refine ow 61 (.bool true) rfl (fun w' hS => (RunV.bool (x := !(vcmp (((m1 : Int) : Rat)) (((m2 : Int) : Rat)) (((m3 : Int) : Rat)) 0 0 0 == (0 : Int))) (rvk (by kernel_rfl)) (show (!(vcmp (((m1 : Int) : Rat)) (((m2 : Int) : Rat)) (((m3 : Int) : Rat)) 0 0 0 == (0 : Int))) = true by rw [hb226]; rfl))) ?_
   simp only [p3, p4]
   refine ov 62 (.bool true) ?_
   simp only [p3, p4]
   refine ov 63 (.int .i64 0) ?_
   simp only [p3, p4]
   refine ov 64 (.bool false) ?_
   simp only [p3, p4]
   refine ov 65 (.bool false) ?_
   simp only [p3, p4]
   refine ow 66 (.agg #[t254_0, t254_1, t254_2, t254_3, t254_4, t254_5, t254_6, t254_7, t254_8, t254_9, t254_10, t254_11]) rfl (fun w' hS => (rl 32 0 [t254_0, t254_1, t254_2, t254_3, t254_4, t254_5, t254_6, t254_7, t254_8, t254_9, t254_10, t254_11] hS.2.2)) ?_
   simp only [p3, p4]
   refine ov 67 (.slice (some ⟨b26, 0, none⟩) 3 3) ?_
   simp only [p3, p4]
   refine ov 68 (.int .i64 2) ?_
   simp only [p3, p4]
   refine ov 69 (.pointer (some ⟨b26, 6, none⟩)) ?_
   simp only [p3, p4]
   refine ow 70 (.agg #[(.string ⟨(ratL (((m1 : Int) : Rat)) : List UInt8).toArray⟩), (.string ⟨(ratL (((m2 : Int) : Rat)) : List UInt8).toArray⟩), (.string ⟨(ratL (((m3 : Int) : Rat)) : List UInt8).toArray⟩)]) rfl (fun w' hS => (rl 49 6 [(.string ⟨(ratL (((m1 : Int) : Rat)) : List UInt8).toArray⟩), (.string ⟨(ratL (((m2 : Int) : Rat)) : List UInt8).toArray⟩), (.string ⟨(ratL (((m3 : Int) : Rat)) : List UInt8).toArray⟩)] hS.1)) ?_
   simp only [p3, p4]
   refine oe ?_
   refine ec 71 (r3_prim (k := 64) (((m1 : Int) : Rat)) (((m2 : Int) : Rat)) (((m3 : Int) : Rat)) ((rs_i64 (n := m1) (by omega)).mono (by omega)) ((rs_i64 (n := m2) (by omega)).mono (by omega)) ((rs_i64 (n := m3) (by omega)).mono (by omega)) (by omega) (by omega) (vzero_false.1 hb226) _) ?_
   rintro e280 w280 ⟨rfl, g280⟩
   refine ⟨_, rfl, ?_⟩
   replace hB := hB.trans g280
   replace L26 := L26.gr g280
   replace L45 := L45.gr g280
   replace L255 := L255.gr g280
   refine ⟨⟨L26, L45, L255⟩, ?_⟩
   simp only [p3, p4]
   refine oe ?_
   have kq283 := g255.kp.trans (kp256.trans (gd274.kp.trans (g276.kp.trans (g278.kp.trans g280.kp))))
   replace h254a := h254a.kp kq283
   replace h254b := h254b.kp kq283
   replace h254c := h254c.kp kq283
   refine ec 72 (is_v (ratL (prim (((m1 : Int) : Rat)) (((m2 : Int) : Rat)) (((m3 : Int) : Rat)) (((m1 : Int) : Rat)))) (ratL (prim (((m1 : Int) : Rat)) (((m2 : Int) : Rat)) (((m3 : Int) : Rat)) (((m2 : Int) : Rat)))) (ratL (prim (((m1 : Int) : Rat)) (((m2 : Int) : Rat)) (((m3 : Int) : Rat)) (((m3 : Int) : Rat)))) h254a h254b h254c (by omega) (ht.gr hB)) ?_
   rintro e282 w282 ⟨rfl, g282⟩
   refine ⟨_, rfl, ?_⟩
   replace hB := hB.trans g282
   replace L26 := L26.gr g282
   replace L45 := L45.gr g282
   replace L255 := L255.gr g282
   refine ⟨⟨L26, L45, L255⟩, ?_⟩
   simp only [p3, p4]
   have hb284 : (sEq [ratL ((prim ((((m1 : Int) : Rat))) ((((m2 : Int) : Rat))) ((((m3 : Int) : Rat))) ((((m1 : Int) : Rat))))), ratL ((prim ((((m1 : Int) : Rat))) ((((m2 : Int) : Rat))) ((((m3 : Int) : Rat))) ((((m2 : Int) : Rat))))), ratL ((prim ((((m1 : Int) : Rat))) ((((m2 : Int) : Rat))) ((((m3 : Int) : Rat))) ((((m3 : Int) : Rat)))))] [ratL (prim (((m1 : Int) : Rat)) (((m2 : Int) : Rat)) (((m3 : Int) : Rat)) (((m1 : Int) : Rat))), ratL (prim (((m1 : Int) : Rat)) (((m2 : Int) : Rat)) (((m3 : Int) : Rat)) (((m2 : Int) : Rat))), ratL (prim (((m1 : Int) : Rat)) (((m2 : Int) : Rat)) (((m3 : Int) : Rat)) (((m3 : Int) : Rat)))]) = true := (lawVm2 ((m1 : Int) : Rat) ((m2 : Int) : Rat) ((m3 : Int) : Rat) )
   refine ow 73 (.bool false) rfl (fun w' hS => (RunV.bool (x := !(sEq [ratL ((prim ((((m1 : Int) : Rat))) ((((m2 : Int) : Rat))) ((((m3 : Int) : Rat))) ((((m1 : Int) : Rat))))), ratL ((prim ((((m1 : Int) : Rat))) ((((m2 : Int) : Rat))) ((((m3 : Int) : Rat))) ((((m2 : Int) : Rat))))), ratL ((prim ((((m1 : Int) : Rat))) ((((m2 : Int) : Rat))) ((((m3 : Int) : Rat))) ((((m3 : Int) : Rat)))))] [ratL (prim (((m1 : Int) : Rat)) (((m2 : Int) : Rat)) (((m3 : Int) : Rat)) (((m1 : Int) : Rat))), ratL (prim (((m1 : Int) : Rat)) (((m2 : Int) : Rat)) (((m3 : Int) : Rat)) (((m2 : Int) : Rat))), ratL (prim (((m1 : Int) : Rat)) (((m2 : Int) : Rat)) (((m3 : Int) : Rat)) (((m3 : Int) : Rat)))])) (rvk (by kernel_rfl)) (show (!(sEq [ratL ((prim ((((m1 : Int) : Rat))) ((((m2 : Int) : Rat))) ((((m3 : Int) : Rat))) ((((m1 : Int) : Rat))))), ratL ((prim ((((m1 : Int) : Rat))) ((((m2 : Int) : Rat))) ((((m3 : Int) : Rat))) ((((m2 : Int) : Rat))))), ratL ((prim ((((m1 : Int) : Rat))) ((((m2 : Int) : Rat))) ((((m3 : Int) : Rat))) ((((m3 : Int) : Rat)))))] [ratL (prim (((m1 : Int) : Rat)) (((m2 : Int) : Rat)) (((m3 : Int) : Rat)) (((m1 : Int) : Rat))), ratL (prim (((m1 : Int) : Rat)) (((m2 : Int) : Rat)) (((m3 : Int) : Rat)) (((m2 : Int) : Rat))), ratL (prim (((m1 : Int) : Rat)) (((m2 : Int) : Rat)) (((m3 : Int) : Rat)) (((m3 : Int) : Rat)))])) = false by rw [hb284]; rfl))) ?_
   simp only [p3, p4]
   refine ov 74 (.bool false) ?_
   simp only [p3, p4]
   refine ov 75 (.bool false) ?_
   simp only [p3, p4]
   refine ow 76 (.agg #[t254_0, t254_1, t254_2, t254_3, t254_4, t254_5, t254_6, t254_7, t254_8, t254_9, t254_10, t254_11]) rfl (fun w' hS => (rl 32 0 [t254_0, t254_1, t254_2, t254_3, t254_4, t254_5, t254_6, t254_7, t254_8, t254_9, t254_10, t254_11] hS.2.2)) ?_
   simp only [p3, p4]
   refine ov 77 (.slice (some ⟨b45, 0, none⟩) 3 3) ?_
   simp only [p3, p4]
   refine ov 78 (.int .i64 2) ?_
   simp only [p3, p4]
   refine ov 79 (.pointer (some ⟨b45, 24, none⟩)) ?_
   simp only [p3, p4]
   refine ow 80 (.agg #[t43_0, t43_1, t43_2, t43_3, t43_4, t43_5, t43_6, t43_7, t43_8, t43_9, t43_10, t43_11]) rfl (fun w' hS => (rl 32 24 [t43_0, t43_1, t43_2, t43_3, t43_4, t43_5, t43_6, t43_7, t43_8, t43_9, t43_10, t43_11] hS.2.1)) ?_
   simp only [p3, p4]
   refine oe ?_
   replace h254a := h254a.kp g282.kp
   replace h254b := h254b.kp g282.kp
   replace h254c := h254c.kp g282.kp
   have kq287 := g254.kp.trans (g255.kp.trans (kp256.trans (gd274.kp.trans (g276.kp.trans (g278.kp.trans (g280.kp.trans g282.kp))))))
   replace h43a := h43a.kp kq287
   replace h43b := h43b.kp kq287
   replace h43c := h43c.kp kq287
   refine ec 81 (vparallel_v h254a h254b h254c h43a h43b h43c (by omega)) ?_
   rintro e286 w286 ⟨rfl, g286⟩
   refine ⟨_, rfl, ?_⟩
   replace hB := hB.trans g286
   replace L26 := L26.gr g286
   replace L45 := L45.gr g286
   replace L255 := L255.gr g286
   refine ⟨⟨L26, L45, L255⟩, ?_⟩
   simp only [p3, p4]
   have hb288 : (((!(vcmp (prim ((((m1 : Int) : Rat))) ((((m2 : Int) : Rat))) ((((m3 : Int) : Rat))) ((((m1 : Int) : Rat)))) (prim ((((m1 : Int) : Rat))) ((((m2 : Int) : Rat))) ((((m3 : Int) : Rat))) ((((m2 : Int) : Rat)))) (prim ((((m1 : Int) : Rat))) ((((m2 : Int) : Rat))) ((((m3 : Int) : Rat))) ((((m3 : Int) : Rat)))) 0 0 0 == (0 : Int)) && !(vcmp (((m1 : Int) : Rat)) (((m2 : Int) : Rat)) (((m3 : Int) : Rat)) 0 0 0 == (0 : Int))) && (vcmp ((prim ((((m1 : Int) : Rat))) ((((m2 : Int) : Rat))) ((((m3 : Int) : Rat))) ((((m2 : Int) : Rat)))) * (((m3 : Int) : Rat)) - (prim ((((m1 : Int) : Rat))) ((((m2 : Int) : Rat))) ((((m3 : Int) : Rat))) ((((m3 : Int) : Rat)))) * (((m2 : Int) : Rat))) ((prim ((((m1 : Int) : Rat))) ((((m2 : Int) : Rat))) ((((m3 : Int) : Rat))) ((((m3 : Int) : Rat)))) * (((m1 : Int) : Rat)) - (prim ((((m1 : Int) : Rat))) ((((m2 : Int) : Rat))) ((((m3 : Int) : Rat))) ((((m1 : Int) : Rat)))) * (((m3 : Int) : Rat))) ((prim ((((m1 : Int) : Rat))) ((((m2 : Int) : Rat))) ((((m3 : Int) : Rat))) ((((m1 : Int) : Rat)))) * (((m2 : Int) : Rat)) - (prim ((((m1 : Int) : Rat))) ((((m2 : Int) : Rat))) ((((m3 : Int) : Rat))) ((((m2 : Int) : Rat)))) * (((m1 : Int) : Rat))) 0 0 0 == (0 : Int)))) = true := (prim_parallel (vzero_false.1 hb226))
   refine ow 82 (.bool false) rfl (fun w' hS => (RunV.bool (x := !(((!(vcmp (prim ((((m1 : Int) : Rat))) ((((m2 : Int) : Rat))) ((((m3 : Int) : Rat))) ((((m1 : Int) : Rat)))) (prim ((((m1 : Int) : Rat))) ((((m2 : Int) : Rat))) ((((m3 : Int) : Rat))) ((((m2 : Int) : Rat)))) (prim ((((m1 : Int) : Rat))) ((((m2 : Int) : Rat))) ((((m3 : Int) : Rat))) ((((m3 : Int) : Rat)))) 0 0 0 == (0 : Int)) && !(vcmp (((m1 : Int) : Rat)) (((m2 : Int) : Rat)) (((m3 : Int) : Rat)) 0 0 0 == (0 : Int))) && (vcmp ((prim ((((m1 : Int) : Rat))) ((((m2 : Int) : Rat))) ((((m3 : Int) : Rat))) ((((m2 : Int) : Rat)))) * (((m3 : Int) : Rat)) - (prim ((((m1 : Int) : Rat))) ((((m2 : Int) : Rat))) ((((m3 : Int) : Rat))) ((((m3 : Int) : Rat)))) * (((m2 : Int) : Rat))) ((prim ((((m1 : Int) : Rat))) ((((m2 : Int) : Rat))) ((((m3 : Int) : Rat))) ((((m3 : Int) : Rat)))) * (((m1 : Int) : Rat)) - (prim ((((m1 : Int) : Rat))) ((((m2 : Int) : Rat))) ((((m3 : Int) : Rat))) ((((m1 : Int) : Rat)))) * (((m3 : Int) : Rat))) ((prim ((((m1 : Int) : Rat))) ((((m2 : Int) : Rat))) ((((m3 : Int) : Rat))) ((((m1 : Int) : Rat)))) * (((m2 : Int) : Rat)) - (prim ((((m1 : Int) : Rat))) ((((m2 : Int) : Rat))) ((((m3 : Int) : Rat))) ((((m2 : Int) : Rat)))) * (((m1 : Int) : Rat))) 0 0 0 == (0 : Int))))) (rvk (by kernel_rfl)) (show (!(((!(vcmp (prim ((((m1 : Int) : Rat))) ((((m2 : Int) : Rat))) ((((m3 : Int) : Rat))) ((((m1 : Int) : Rat)))) (prim ((((m1 : Int) : Rat))) ((((m2 : Int) : Rat))) ((((m3 : Int) : Rat))) ((((m2 : Int) : Rat)))) (prim ((((m1 : Int) : Rat))) ((((m2 : Int) : Rat))) ((((m3 : Int) : Rat))) ((((m3 : Int) : Rat)))) 0 0 0 == (0 : Int)) && !(vcmp (((m1 : Int) : Rat)) (((m2 : Int) : Rat)) (((m3 : Int) : Rat)) 0 0 0 == (0 : Int))) && (vcmp ((prim ((((m1 : Int) : Rat))) ((((m2 : Int) : Rat))) ((((m3 : Int) : Rat))) ((((m2 : Int) : Rat)))) * (((m3 : Int) : Rat)) - (prim ((((m1 : Int) : Rat))) ((((m2 : Int) : Rat))) ((((m3 : Int) : Rat))) ((((m3 : Int) : Rat)))) * (((m2 : Int) : Rat))) ((prim ((((m1 : Int) : Rat))) ((((m2 : Int) : Rat))) ((((m3 : Int) : Rat))) ((((m3 : Int) : Rat)))) * (((m1 : Int) : Rat)) - (prim ((((m1 : Int) : Rat))) ((((m2 : Int) : Rat))) ((((m3 : Int) : Rat))) ((((m1 : Int) : Rat)))) * (((m3 : Int) : Rat))) ((prim ((((m1 : Int) : Rat))) ((((m2 : Int) : Rat))) ((((m3 : Int) : Rat))) ((((m1 : Int) : Rat)))) * (((m2 : Int) : Rat)) - (prim ((((m1 : Int) : Rat))) ((((m2 : Int) : Rat))) ((((m3 : Int) : Rat))) ((((m2 : Int) : Rat)))) * (((m1 : Int) : Rat))) 0 0 0 == (0 : Int))))) = false by rw [hb288]; rfl))) ?_
   simp only [p3, p4]
   refine ov 83 (.bool false) ?_
   simp only [p3, p4]
   refine ov 84 (.bool false) ?_
   simp only [p3, p4]
   refine ov 85 (.bool false) ?_
   simp only [p3, p4]
   refine ord_nil ?_
   refine k258 _ _ ?_
   try clear k258 K258
   refine wp_cond_false rfl ?_
   refine wp_skip ?_
   refine k257 _ _ ?_
   try clear k257 K257
   refine chain_nil ?_
   have kq289 := gd214.kp.trans (g216.kp.trans (g218.kp.trans (g254.kp.trans (g255.kp.trans (kp256.trans (gd274.kp.trans (g276.kp.trans (g278.kp.trans (g280.kp.trans (g282.kp.trans g286.kp))))))))))
   replace h39a := h39a.kp kq289
   replace h39b := h39b.kp kq289
   replace h39c := h39c.kp kq289
   have kq290 := g216.kp.trans (g218.kp.trans (g254.kp.trans (g255.kp.trans (kp256.trans (gd274.kp.trans (g276.kp.trans (g278.kp.trans (g280.kp.trans (g282.kp.trans g286.kp)))))))))
   replace h41a := h41a.kp kq290
   replace h41b := h41b.kp kq290
   replace h41c := h41c.kp kq290
   replace h43a := h43a.kp g286.kp
   replace h43b := h43b.kp g286.kp
   replace h43c := h43c.kp g286.kp
   refine k223 ⟨List.toArray ?l291, []⟩ _ ?_
   exact ⟨(fun i => List.getD ?l291 i undef), rfl, h39a, h39b, h39c, h41a, h41b, h41c, h43a, h43b, h43c, L26, L45, hB⟩
 rintro a223 w223 ⟨u223, rfl, h39a, h39b, h39c, h41a, h41b, h41c, h43a, h43b, h43c, L26, L45, hB⟩
 refine wp_seq_k (fun K292 k292 => ?_)
 refine rg [0, 1, 2, 3] ?_
 refine sv 86 (.int .i64 2) ?_
 simp only [p3, p4]
 refine sv 87 (.int .i64 3) ?_
 simp only [p3, p4]
 refine sv 88 (.int .i64 0) ?_
 simp only [p3, p4]
 refine sv 12 (.int .i64 0) ?_
 simp only [p3, p4]
 refine sq_nil ?_
 refine k292 _ _ ?_
 try clear k292 K292
 refine wp_seq_k (fun K293 k293 => ?_)
 have gd300 := Gr.drew w223
 replace hB := hB.trans gd300
 replace L26 := L26.gr gd300
 replace L45 := L45.gr gd300
 refine wp_region_ord (fun w' => Lc w' b26 #[(.string ⟨(ratL (a1) : List UInt8).toArray⟩), (.string ⟨(ratL (a2) : List UInt8).toArray⟩), (.string ⟨(ratL (a3) : List UInt8).toArray⟩), (.string ⟨(ratL (c1) : List UInt8).toArray⟩), (.string ⟨(ratL (c2) : List UInt8).toArray⟩), (.string ⟨(ratL (c3) : List UInt8).toArray⟩), (.string ⟨(ratL (((m1 : Int) : Rat)) : List UInt8).toArray⟩), (.string ⟨(ratL (((m2 : Int) : Rat)) : List UInt8).toArray⟩), (.string ⟨(ratL (((m3 : Int) : Rat)) : List UInt8).toArray⟩)] 49 ∧ Lc w' b45 #[t39_0, t39_1, t39_2, t39_3, t39_4, t39_5, t39_6, t39_7, t39_8, t39_9, t39_10, t39_11, t41_0, t41_1, t41_2, t41_3, t41_4, t41_5, t41_6, t41_7, t41_8, t41_9, t41_10, t41_11, t43_0, t43_1, t43_2, t43_3, t43_4, t43_5, t43_6, t43_7, t43_8, t43_9, t43_10, t43_11] 32) [(true, 0), (true, 1), (true, 2), (true, 3), (true, 4), (true, 5), (true, 6), (true, 7), (true, 9), (true, 10), (true, 11), (true, 12), (true, 13), (true, 14), (true, 15), (true, 16), (false, 8), (false, 17), (true, 18)] (by kernel_rfl) (by kernel_rfl) (by kernel_rfl) (by decide) (fun _ _ _ _ _ h => h) ⟨L26, L45⟩ ?_
 refine ov 89 (.slice (some ⟨b45, 0, none⟩) 3 3) ?_
 simp only [p3, p4]
 refine ov 90 (.int .i64 2) ?_
 simp only [p3, p4]
 refine ov 91 (.pointer (some ⟨b45, 24, none⟩)) ?_
 simp only [p3, p4]
 refine ow 92 (.agg #[t43_0, t43_1, t43_2, t43_3, t43_4, t43_5, t43_6, t43_7, t43_8, t43_9, t43_10, t43_11]) rfl (fun w' hS => (rl 32 24 [t43_0, t43_1, t43_2, t43_3, t43_4, t43_5, t43_6, t43_7, t43_8, t43_9, t43_10, t43_11] hS.2)) ?_
 simp only [p3, p4]
 refine ov 93 (.slice (some ⟨b45, 0, none⟩) 3 3) ?_
 simp only [p3, p4]
 refine ov 94 (.int .i64 0) ?_
 simp only [p3, p4]
 refine ov 95 (.pointer (some ⟨b45, 0, none⟩)) ?_
 simp only [p3, p4]
 refine ow 96 (.agg #[t39_0, t39_1, t39_2, t39_3, t39_4, t39_5, t39_6, t39_7, t39_8, t39_9, t39_10, t39_11]) rfl (fun w' hS => (rl 32 0 [t39_0, t39_1, t39_2, t39_3, t39_4, t39_5, t39_6, t39_7, t39_8, t39_9, t39_10, t39_11] hS.2)) ?_
 simp only [p3, p4]
 refine ov 98 (.slice (some ⟨b26, 0, none⟩) 3 3) ?_
 simp only [p3, p4]
 refine ov 99 (.int .i64 2) ?_
 simp only [p3, p4]
 refine ov 100 (.pointer (some ⟨b26, 6, none⟩)) ?_
 simp only [p3, p4]
 refine ow 101 (.agg #[(.string ⟨(ratL (((m1 : Int) : Rat)) : List UInt8).toArray⟩), (.string ⟨(ratL (((m2 : Int) : Rat)) : List UInt8).toArray⟩), (.string ⟨(ratL (((m3 : Int) : Rat)) : List UInt8).toArray⟩)]) rfl (fun w' hS => (rl 49 6 [(.string ⟨(ratL (((m1 : Int) : Rat)) : List UInt8).toArray⟩), (.string ⟨(ratL (((m2 : Int) : Rat)) : List UInt8).toArray⟩), (.string ⟨(ratL (((m3 : Int) : Rat)) : List UInt8).toArray⟩)] hS.1)) ?_
 simp only [p3, p4]
 refine ov 102 (.slice (some ⟨b26, 0, none⟩) 3 3) ?_
 simp only [p3, p4]
 refine ov 103 (.int .i64 0) ?_
 simp only [p3, p4]
 refine ov 104 (.pointer (some ⟨b26, 0, none⟩)) ?_
 simp only [p3, p4]
 refine ow 105 (.agg #[(.string ⟨(ratL (a1) : List UInt8).toArray⟩), (.string ⟨(ratL (a2) : List UInt8).toArray⟩), (.string ⟨(ratL (a3) : List UInt8).toArray⟩)]) rfl (fun w' hS => (rl 49 0 [(.string ⟨(ratL (a1) : List UInt8).toArray⟩), (.string ⟨(ratL (a2) : List UInt8).toArray⟩), (.string ⟨(ratL (a3) : List UInt8).toArray⟩)] hS.1)) ?_
 simp only [p3, p4]
 refine oe ?_
 replace h43a := h43a.kp gd300.kp
 replace h43b := h43b.kp gd300.kp
 replace h43c := h43c.kp gd300.kp
 replace h39a := h39a.kp gd300.kp
 replace h39b := h39b.kp gd300.kp
 replace h39c := h39c.kp gd300.kp
 refine ec 97 (vparallel_v h43a h43b h43c h39a h39b h39c (by omega)) ?_
 rintro e302 w302 ⟨rfl, g302⟩
 refine ⟨_, rfl, ?_⟩
 replace hB := hB.trans g302
 replace L26 := L26.gr g302
 replace L45 := L45.gr g302
 refine ⟨⟨L26, L45⟩, ?_⟩
 simp only [p3, p4]
 refine oe ?_
 refine ec 106 (r3_parallel (((m1 : Int) : Rat)) (((m2 : Int) : Rat)) (((m3 : Int) : Rat)) (rs_i64 (n := m1) (by omega)) (rs_i64 (n := m2) (by omega)) (rs_i64 (n := m3) (by omega)) (a1) (a2) (a3) ha1 ha2 ha3 (by omega) _) ?_
 rintro e304 w304 ⟨rfl, g304⟩
 refine ⟨_, rfl, ?_⟩
 replace hB := hB.trans g304
 replace L26 := L26.gr g304
 replace L45 := L45.gr g304
 refine ⟨⟨L26, L45⟩, ?_⟩
 simp only [p3, p4]
 have hb305 : (((((!(vcmp (((m1 : Int) : Rat)) (((m2 : Int) : Rat)) (((m3 : Int) : Rat)) 0 0 0 == (0 : Int)) && !(vcmp a1 a2 a3 0 0 0 == (0 : Int))) && (vcmp ((((m2 : Int) : Rat)) * a3 - (((m3 : Int) : Rat)) * a2) ((((m3 : Int) : Rat)) * a1 - (((m1 : Int) : Rat)) * a3) ((((m1 : Int) : Rat)) * a2 - (((m2 : Int) : Rat)) * a1) 0 0 0 == (0 : Int)))) != (((!(vcmp (((m1 : Int) : Rat)) (((m2 : Int) : Rat)) (((m3 : Int) : Rat)) 0 0 0 == (0 : Int)) && !(vcmp (a1) (a2) (a3) 0 0 0 == (0 : Int))) && (vcmp (((m2 : Int) : Rat) * a3 - ((m3 : Int) : Rat) * a2) (((m3 : Int) : Rat) * a1 - ((m1 : Int) : Rat) * a3) (((m1 : Int) : Rat) * a2 - ((m2 : Int) : Rat) * a1) 0 0 0 == (0 : Int)))))) = false := (by simp)
 refine ow 107 (.bool false) rfl (fun w' hS => (RunV.bool (x := ((((!(vcmp (((m1 : Int) : Rat)) (((m2 : Int) : Rat)) (((m3 : Int) : Rat)) 0 0 0 == (0 : Int)) && !(vcmp a1 a2 a3 0 0 0 == (0 : Int))) && (vcmp ((((m2 : Int) : Rat)) * a3 - (((m3 : Int) : Rat)) * a2) ((((m3 : Int) : Rat)) * a1 - (((m1 : Int) : Rat)) * a3) ((((m1 : Int) : Rat)) * a2 - (((m2 : Int) : Rat)) * a1) 0 0 0 == (0 : Int)))) != (((!(vcmp (((m1 : Int) : Rat)) (((m2 : Int) : Rat)) (((m3 : Int) : Rat)) 0 0 0 == (0 : Int)) && !(vcmp (a1) (a2) (a3) 0 0 0 == (0 : Int))) && (vcmp (((m2 : Int) : Rat) * a3 - ((m3 : Int) : Rat) * a2) (((m3 : Int) : Rat) * a1 - ((m1 : Int) : Rat) * a3) (((m1 : Int) : Rat) * a2 - ((m2 : Int) : Rat) * a1) 0 0 0 == (0 : Int)))))) (rvk (by kernel_rfl)) hb305)) ?_
 simp only [p3, p4]
 refine ord_nil ?_
 refine k293 _ _ ?_
 try clear k293 K293
 refine wp_cond_false rfl ?_
 refine wp_skip ?_
 refine k222 _ _ ?_
 try clear k222 K222
 refine rg [0, 1, 2] ?_
 refine sv 31 (.int .i64 2) ?_
 simp only [p3, p4]
 refine sv 32 (.int .i64 3) ?_
 simp only [p3, p4]
 refine sv 9 (.int .i64 3) ?_
 simp only [p3, p4]
 refine sq_nil ?_
 show Code.rounds _ _ _ _ _ _
 show Code.wp _ _ _ _ _
 refine wp_seq_k (fun K306 k306 => ?_)
 refine wp_seq_k (fun K307 k307 => ?_)
 refine rg [0, 1] ?_
 refine sv 29 (.int .i64 3) ?_
 simp only [p3, p4]
 refine sv 30 (.bool false) ?_
 simp only [p3, p4]
 refine sq_nil ?_
 refine k307 _ _ ?_
 try clear k307 K307
 refine wp_cond_false rfl ?_
 refine wp_exit ?_
 simp only [Exit.then, Exit.inBlock, ↓reduceIte]
 refine k46 _ _ ?_
 try clear k46 K46
 refine wp_seq_k (fun K308 k308 => ?_)
 refine rg [0] ?_
 refine sv 6 (.bool true) ?_
 simp only [p3, p4]
 refine sq_nil ?_
 refine k308 _ _ ?_
 try clear k308 K308
 refine wp_ret ?_
 refine bodyPost_ret (v := (.bool true)) (ret_tmp rfl rfl) rfl ⟨?_, hB⟩
 exact rfl

theorem vector_primitive (ia1 ia2 ia3 da : Int) (ja1 : -128 ≤ ia1 ∧ ia1 ≤ 127) (ja2 : -128 ≤ ia2 ∧ ia2 ≤ 127) (ja3 : -128 ≤ ia3 ∧ ia3 ≤ 127) (jda : 0 ≤ da ∧ da ≤ 255) (ic1 ic2 ic3 dc : Int) (jc1 : -128 ≤ ic1 ∧ ic1 ≤ 127) (jc2 : -128 ≤ ic2 ∧ ic2 ≤ 127) (jc3 : -128 ≤ ic3 ∧ ic3 ≤ 127) (jdc : 0 ≤ dc ∧ dc ≤ 255) (m1 m2 m3 : Int) (jm1 : -9223372036854775808 ≤ m1 ∧ m1 ≤ 9223372036854775807) (jm2 : -9223372036854775808 ≤ m2 ∧ m2 ≤ 9223372036854775807) (jm3 : -9223372036854775808 ≤ m3 ∧ m3 ≤ 9223372036854775807) (w : World) (ht : Tab w) (hm : Mx w) :
    Calls Tryz.prog 6 #[(.agg #[(.int .i8 (ia1)), (.int .i8 (ia2)), (.int .i8 (ia3)), (.int .u8 (da))]), (.agg #[(.int .i8 (ic1)), (.int .i8 (ic2)), (.int .i8 (ic3)), (.int .u8 (dc))]), (.agg #[(.int .i64 (m1)), (.int .i64 (m2)), (.int .i64 (m3))])] w fun e w' => e = .returned (.bool true) ∧ Gr w w' := by
  obtain ⟨a1, ea1⟩ : ∃ r : Rat, r = ((ia1 : Int) : Rat) / ((1 + da % 6 : Int) : Rat) := ⟨_, rfl⟩
  obtain ⟨a2, ea2⟩ : ∃ r : Rat, r = ((ia2 : Int) : Rat) / ((1 + da % 6 : Int) : Rat) := ⟨_, rfl⟩
  obtain ⟨a3, ea3⟩ : ∃ r : Rat, r = ((ia3 : Int) : Rat) / ((1 + da % 6 : Int) : Rat) := ⟨_, rfl⟩
  obtain ⟨c1, ec1⟩ : ∃ r : Rat, r = ((ic1 : Int) : Rat) / ((1 + dc % 6 : Int) : Rat) := ⟨_, rfl⟩
  obtain ⟨c2, ec2⟩ : ∃ r : Rat, r = ((ic2 : Int) : Rat) / ((1 + dc % 6 : Int) : Rat) := ⟨_, rfl⟩
  obtain ⟨c3, ec3⟩ : ∃ r : Rat, r = ((ic3 : Int) : Rat) / ((1 + dc % 6 : Int) : Rat) := ⟨_, rfl⟩
  exact vprm_q ia1 ia2 ia3 da ja1 ja2 ja3 jda a1 a2 a3 ea1 ea2 ea3 ic1 ic2 ic3 dc jc1 jc2 jc3 jdc c1 c2 c3 ec1 ec2 ec3 m1 m2 m3 jm1 jm2 jm3 w ht hm

end Go.Proofs.YtlcmllfacolkaaaGreatDoor
/- The law VectorPrimitive holds of every input: its row, and its card tied to the program's text. Printed by a program of the prover's. -/
namespace Go.Proofs.YtlcmllfacolkaaaGreatDoor
open Go.ChangeShapes Go.WideShapes Go.ChangeAt Go.RowKit

theorem vectorPrimitive_table {W : World} (h : laidMetH Tryz.prog Rows.vectorPrimitiveRow.laid W) : Tab W :=
  Lib.tabIs_of_head (rest := _) (g := 1) (t := 208) (e := 132) (n := 20) (by kernel_rfl) (by kernel_rfl) (by kernel_rfl) (by kernel_rfl) (by kernel_rfl) (by kernel_rfl) ((show laidMet Tryz.prog Rows.vectorPrimitiveRow.laid W from (MakeChecks.laidMetH_plain _ _ _ (by kernel_rfl)) ▸ h).tail.tail)
theorem vectorPrimitive_maxlen {W : World} (h : W.ShapedOpen Tryz.prog) : Mx W :=
  Go.Proofs.cell_of_shapedOpen_int (zero := #[.int .i64 0]) (g := 0) (t := 3) h (of_decide_eq_true (by kernel_rfl)) (by kernel_rfl) rfl (by kernel_rfl) (by kernel_rfl) Tryz.underlying3
set_option maxRecDepth 100000 in
theorem vectorPrimitive_contract (H : Type) (enc : TypeId × Value → H) (W : World) (base : Nat) (args : Array Value) (ds gs : List (DataW H)) (before : List MemPlace)
    (hval : ∀ (j : Nat) t v, Tryz.f6.params[j]? = some t → args[j]? = some v → Value.okWide Tryz.prog W .any base t v)
    (hW : DataW.Whole enc Tryz.prog Tryz.f6.params.toList Rows.vectorPrimitiveSpec.vars false W args.toList ds gs before) (hL : laidMetH Tryz.prog Rows.vectorPrimitiveRow.laid W) (hsh : W.ShapedOpen Tryz.prog) :
    Calls Tryz.prog 6 args W fun e W' => ∃ v, e = .returned v ∧ Rows.vectorPrimitiveSpec.post enc Tryz.prog Tryz.f6 false true false false W args v W' := by
  have hW' := hW
  obtain ⟨p, q, hA0, hV, rfl, hfz, hnd⟩ := hW
  have hA : DataW.TrodAll enc Tryz.prog W 0 (fun _ => true) true Tryz.f6.params.toList args.toList ds p := hA0
  rw [Tryz.params6] at hA hval
  obtain ⟨v0, vs0, d0, ds0, p0, q0, hargs, rfl, rfl, h0, r0⟩ := trodAll_cons hA
  obtain ⟨v1, vs1, d1, ds1, p1, q1, rfl, rfl, rfl, h1, r1⟩ := trodAll_cons r0
  obtain ⟨v2, vs2, d2, ds2, p2, q2, rfl, rfl, rfl, h2, r2⟩ := trodAll_cons r1
  obtain ⟨rfl, rfl, rfl⟩ := trodAll_nil r2
  obtain rfl : args = #[v0, v1, v2] := by cases args; simp_all
  obtain ⟨rfl, rfl⟩ := trodVars_none hV
  obtain ⟨c0, rfl, z0, o0⟩ := open_cells (ts := [39, 39, 39, 5]) [.i8, .i8, .i8, .u8] (by kernel_rfl) (by kernel_rfl) (by kernel_rfl) (by kernel_rfl) (hval 0 42 v0 rfl rfl)
  obtain ⟨n0_0, y0_0, b0_0⟩ := o0 0 .i8 rfl
  obtain ⟨n0_1, y0_1, b0_1⟩ := o0 1 .i8 rfl
  obtain ⟨n0_2, y0_2, b0_2⟩ := o0 2 .i8 rfl
  obtain ⟨n0_3, y0_3, b0_3⟩ := o0 3 .u8 rfl
  obtain rfl : c0 = #[.int .i8 n0_0, .int .i8 n0_1, .int .i8 n0_2, .int .u8 n0_3] := by
    apply Array.ext_getElem?; intro i
    rcases i with _ | _ | _ | _ | i
    · exact y0_0
    · exact y0_1
    · exact y0_2
    · exact y0_3
    · rw [Array.getElem?_eq_none (by simp at z0; omega), Array.getElem?_eq_none (by simp)]
  obtain ⟨c1, rfl, z1, o1⟩ := open_cells (ts := [39, 39, 39, 5]) [.i8, .i8, .i8, .u8] (by kernel_rfl) (by kernel_rfl) (by kernel_rfl) (by kernel_rfl) (hval 1 42 v1 rfl rfl)
  obtain ⟨n1_0, y1_0, b1_0⟩ := o1 0 .i8 rfl
  obtain ⟨n1_1, y1_1, b1_1⟩ := o1 1 .i8 rfl
  obtain ⟨n1_2, y1_2, b1_2⟩ := o1 2 .i8 rfl
  obtain ⟨n1_3, y1_3, b1_3⟩ := o1 3 .u8 rfl
  obtain rfl : c1 = #[.int .i8 n1_0, .int .i8 n1_1, .int .i8 n1_2, .int .u8 n1_3] := by
    apply Array.ext_getElem?; intro i
    rcases i with _ | _ | _ | _ | i
    · exact y1_0
    · exact y1_1
    · exact y1_2
    · exact y1_3
    · rw [Array.getElem?_eq_none (by simp at z1; omega), Array.getElem?_eq_none (by simp)]
  obtain ⟨c2, rfl, z2, o2⟩ := open_cells (ts := [3, 3, 3]) [.i64, .i64, .i64] (by kernel_rfl) (by kernel_rfl) (by kernel_rfl) (by kernel_rfl) (hval 2 45 v2 rfl rfl)
  obtain ⟨n2_0, y2_0, b2_0⟩ := o2 0 .i64 rfl
  obtain ⟨n2_1, y2_1, b2_1⟩ := o2 1 .i64 rfl
  obtain ⟨n2_2, y2_2, b2_2⟩ := o2 2 .i64 rfl
  obtain rfl : c2 = #[.int .i64 n2_0, .int .i64 n2_1, .int .i64 n2_2] := by
    apply Array.ext_getElem?; intro i
    rcases i with _ | _ | _ | i
    · exact y2_0
    · exact y2_1
    · exact y2_2
    · rw [Array.getElem?_eq_none (by simp at z2; omega), Array.getElem?_eq_none (by simp)]
  refine (vector_primitive n0_0 n0_1 n0_2 n0_3 (has_i8 b0_0) (has_i8 b0_1) (has_i8 b0_2) (has_u8 b0_3) n1_0 n1_1 n1_2 n1_3 (has_i8 b1_0) (has_i8 b1_1) (has_i8 b1_2) (has_u8 b1_3) n2_0 n2_1 n2_2 (has_i64 b2_0) (has_i64 b2_1) (has_i64 b2_2)  W (vectorPrimitive_table hL) (vectorPrimitive_maxlen hsh)).mono fun e W' ⟨he, hg⟩ => ?_
  subst he
  exact ⟨_, rfl, law_post (tb := 4) laidOut (by kernel_rfl) (by kernel_rfl) (by kernel_rfl) rfl hW' rfl hg⟩
noncomputable def vectorPrimitive_world (os : Os) : World := World.laidAll Tryz.prog os Rows.vectorPrimitiveRow.laid
theorem vectorPrimitive_met (os : Os) : laidMet Tryz.prog Rows.vectorPrimitiveRow.laid ((vectorPrimitive_world os).forCall (fun _ _ => 0) ⟨#[], #[.agg #[.int .i8 0, .int .i8 0, .int .i8 0, .int .u8 0], .agg #[.int .i8 0, .int .i8 0, .int .i8 0, .int .u8 0], .agg #[.int .i64 0, .int .i64 0, .int .i64 0]], []⟩).memory :=
  laidMet_laidAll _ (by kernel_rfl) (by kernel_rfl)
theorem vectorPrimitive_reads (os : Os) {H : Type} (enc : TypeId × Value → H) : ∃ places, DataW.whole enc Tryz.prog ((vectorPrimitive_world os).forCall (fun _ _ => 0) ⟨#[], #[.agg #[.int .i8 0, .int .i8 0, .int .i8 0, .int .u8 0], .agg #[.int .i8 0, .int .i8 0, .int .i8 0, .int .u8 0], .agg #[.int .i64 0, .int .i64 0, .int .i64 0]], []⟩).memory Tryz.f6.params.toList Rows.vectorPrimitiveSpec.vars false (#[.agg #[.int .i8 0, .int .i8 0, .int .i8 0, .int .u8 0], .agg #[.int .i8 0, .int .i8 0, .int .i8 0, .int .u8 0], .agg #[.int .i64 0, .int .i64 0, .int .i64 0]] : Array Value).toList 8 = some ([.agg [.agg [.lit (.int .i8 0), .lit (.int .i8 0), .lit (.int .i8 0)], .lit (.int .u8 0)], .agg [.agg [.lit (.int .i8 0), .lit (.int .i8 0), .lit (.int .i8 0)], .lit (.int .u8 0)], .agg [.lit (.int .i64 0), .lit (.int .i64 0), .lit (.int .i64 0)]], [], places) :=
  ⟨[], by kernel_rfl⟩
set_option maxRecDepth 100000 in
theorem vectorPrimitive_lifted (os : Os) (started : os.Started) (H : Type) (enc : TypeId × Value → H) (F : Stop.Interp) :
    ReturnsInHanded {} Tryz.checked os 6 .any ((OpenSpec.ofChange Rows.vectorPrimitiveSpec).preRow enc Tryz.prog Tryz.f6 Rows.vectorPrimitiveRow.domain false Rows.vectorPrimitiveRow.laid) (((OpenSpec.ofChange Rows.vectorPrimitiveSpec).at F).post enc Tryz.prog Tryz.f6 false true false false) := by
  obtain ⟨places, hx⟩ := vectorPrimitive_reads os enc
  refine returnsInHanded_of_row (C := Tryz.checked) (s := OpenSpec.ofChange Rows.vectorPrimitiveSpec) own started (by kernel_rfl) Tryz.func6
    (witness_row_sh (enc := enc) (C := Tryz.checked) false (vectorPrimitive_world os) #[.agg #[.int .i8 0, .int .i8 0, .int .i8 0, .int .u8 0], .agg #[.int .i8 0, .int .i8 0, .int .i8 0, .int .u8 0], .agg #[.int .i64 0, .int .i64 0, .int .i64 0]] (World.laidAll_os _ _ _) (World.shaped_of_ZipB (by kernel_rfl) (by kernel_rfl)) (by kernel_rfl)
      (OpenSpec.preRow_of_cond 8 hx (by kernel_rfl) (fun k hk => by cases hk) (by kernel_rfl) (by rw [MakeChecks.laidMetH_plain _ _ _ (by kernel_rfl)]; exact vectorPrimitive_met os))) ?_
  intro W base args ds gs before hval hW _ _ _ hL hsh _
  exact vectorPrimitive_contract H enc W base args ds gs before hval hW hL hsh
theorem vectorPrimitive_said : Rows.VectorPrimitiveSaid :=
  OpenClaim.holds_of_cond 6 Tryz.f6 rfl rfl rfl rfl rfl rfl rfl ⟨rfl, rfl, rfl, rfl, rfl⟩ rfl rfl rfl rfl rfl (by kernel_rfl) Tryz.func6 (by kernel_rfl)
    (of_decide_eq_true (by kernel_rfl)) (by unfold Func.isWrapper; first | (rw [if_pos (by decide +kernel)]; kernel_rfl) | (rw [if_neg (by decide +kernel)]; exact ⟨rfl, rfl⟩))
    (fun os started H enc _ F => by rw [OpenClaim.pre_eq_preRow]; exact vectorPrimitive_lifted os started H enc F)
theorem vectorPrimitive_plain (f : FuncId) (fn : Func) (hf : Tryz.pinned.checked.prog.funcNamed "dowel/dowellaw03.VectorPrimitive" = some f) (hfn : Tryz.pinned.checked.prog.funcs[f]? = some fn) :
    true = Tryz.pinned.checked.prog.looks [] ∧ ∀ (j : Nat) t, fn.params[j]? = some t → Tryz.pinned.checked.prog.wantsStandIn t = false := by
  obtain rfl : f = 6 := Option.some.inj ((show Tryz.prog.funcNamed "dowel/dowellaw03.VectorPrimitive" = some 6 by kernel_rfl).symm.trans hf) |>.symm
  obtain rfl : fn = Tryz.f6 := (Option.some.inj (Tryz.func6.symm.trans hfn)).symm
  refine ⟨by kernel_rfl, fun j t ht => ?_⟩
  rw [Tryz.params6] at ht
  have hm := Array.mem_of_getElem? ht
  have hall : (#[42, 42, 45] : Array TypeId).toList.all (fun t => !Tryz.prog.wantsStandIn t) = true := by kernel_rfl
  have := List.all_eq_true.1 hall t (Array.mem_toList_iff.2 hm)
  have h3 : Tryz.prog.wantsStandIn t = false := by simpa using this
  exact h3
/-- the card -/
theorem vectorPrimitive_card : Rows.VectorPrimitiveCardSaid :=
  Claim7.holds_tied_plain_at .later [] _ _ _ _ vectorPrimitive_said (fun _ h => by cases h) (by kernel_rfl) (fun _ h => by cases h) vectorPrimitive_row_tie rfl ⟨rfl, rfl⟩ (by kernel_rfl) rfl vectorPrimitive_plain (by kernel_rfl)
end Go.Proofs.YtlcmllfacolkaaaGreatDoor
