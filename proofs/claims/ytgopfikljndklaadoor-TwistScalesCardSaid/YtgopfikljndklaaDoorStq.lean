/- Arrays of texts compared with themselves; an integer among the rationals is small. -/
import Derived.Test.YtgopfikljndklaaDoorArr
import Derived.Test.YtgopfikljndklaaDoorShort
import Derived.Test.YtgopfikljndklaaDoorInt8
import Derived.Test.YtgopfikljndklaaDoorScal
namespace Go.Proofs.YtgopfikljndklaaDoor
open Go.RowKit
section
variable {P : Program} {a : Act} {o : Oper} {w : World} {Q : Exit → Act → World → Prop}
theorem wp_seq_cut {x y : Code} (J : Act → World → Prop) (h1 : ∀ K : Act → World → Prop, (∀ a w, J a w → K a w) → x.wp P (Exit.then K Q) a w) (h2 : ∀ a w, J a w → y.wp P Q a w) : (x.seq y).wp P Q a w :=
  wp_seq_k fun K hK => h1 K (fun a w hj => hK a w (h2 a w hj))
/-- some pieces, one behind the other, and K behind them -/
def wpChain (P : Program) (Q : Exit → Act → World → Prop) (K : Act → World → Prop) : List Code → Act → World → Prop
  | [], a, w => K a w
  | x :: r, a, w => x.wp P (Exit.then (wpChain P Q K r) Q) a w
theorem chain_k {K : Act → World → Prop} {x : Code} {r : List Code} (h : ∀ K' : Act → World → Prop, (∀ a w, wpChain P Q K r a w → K' a w) → x.wp P (Exit.then K' Q) a w) : wpChain P Q K (x :: r) a w :=
  h _ (fun _ _ h => h)
theorem chain_nil {K : Act → World → Prop} (h : K a w) : wpChain P Q K [] a w := h
theorem chain_seq {K : Act → World → Prop} {z : Code} (hz : ∀ a w, K a w → z.wp P Q a w) : ∀ (l : List Code) {a : Act} {w : World}, wpChain P Q K l a w → (l.foldr Code.seq z).wp P Q a w
  | [], _, _, h => hz _ _ h
  | x :: r, _, _, h => wp_seq (wp_mono h fun e a' w' he => by
      cases e with
      | normal => exact chain_seq hz r he
      | exit id => exact he
      | goto l => exact he
      | ret => exact he
      | panic ch => exact he
      | outgrown => exact he)
theorem wp_cut2 {x y z : Code} (J : Act → World → Prop) (h1 : ∀ K : Act → World → Prop, (∀ a w, J a w → K a w) → wpChain P Q K [x, y] a w) (h2 : ∀ a w, J a w → z.wp P Q a w) : (x.seq (y.seq z)).wp P Q a w :=
  chain_seq (K := J) h2 [x, y] (h1 J fun _ _ h => h)
theorem wp_cut3 {x y y2 z : Code} (J : Act → World → Prop) (h1 : ∀ K : Act → World → Prop, (∀ a w, J a w → K a w) → wpChain P Q K [x, y, y2] a w) (h2 : ∀ a w, J a w → z.wp P Q a w) : (x.seq (y.seq (y2.seq z))).wp P Q a w :=
  chain_seq (K := J) h2 [x, y, y2] (h1 J fun _ _ h => h)
theorem wp_cut4 {x y y2 y3 z : Code} (J : Act → World → Prop) (h1 : ∀ K : Act → World → Prop, (∀ a w, J a w → K a w) → wpChain P Q K [x, y, y2, y3] a w) (h2 : ∀ a w, J a w → z.wp P Q a w) : (x.seq (y.seq (y2.seq (y3.seq z)))).wp P Q a w :=
  chain_seq (K := J) h2 [x, y, y2, y3] (h1 J fun _ _ h => h)
theorem rv_rem (t t2 : TypeId) (x y : Operand) (A B : Int) (hop : o.op = .binOp .rem t x y t2) (hx : a.eval x = .int .i64 A) (hy : a.eval y = .int .i64 B) (hA : 0 ≤ A) (hB : 0 < B) : RunV P a o w (.int .i64 (A % B)) := by
  have h0 : ¬ B = 0 := by omega
  have e : Int.tmod A B = A % B := Int.tmod_eq_emod_of_nonneg hA
  unfold RunV execOp
  simp only [hop, hx, hy]
  simp [go_sem, binOp, eqGuard, Op.intDiv, h0, e]
theorem rv_quo (t t2 : TypeId) (x y : Operand) (A B C : Int) (hop : o.op = .binOp .quo t x y t2) (hx : a.eval x = .int .i64 A) (hy : a.eval y = .int .i64 B) (hC : Int.tdiv A B = C) (h1 : -9223372036854775808 ≤ C) (h2 : C ≤ 9223372036854775807) (hB : 0 < B) : RunV P a o w (.int .i64 C) := by
  have h0 : ¬ B = 0 := by omega
  have e2 : IntKind.i64.wrap C = C := by rw [IntKind.wrap_i64]; omega
  unfold RunV execOp
  simp only [hop, hx, hy]
  simp [go_sem, binOp, eqGuard, Op.intDiv, h0, hC, e2]
end

theorem items_str {P : Program} {w : World} {d e : Nat} (he : P.underlying e = some .string) (hp : P.plainKey e = true) (A : Array Value) :
    ∀ (X : List (List UInt8)) (i0 : Nat), (∀ j x, X[j]? = some x → A[i0 + j]? = some (.string ⟨x.toArray⟩)) → (Op.eqItems (d + 1) e 1 A A (List.range' i0 X.length)).run P w = .ok true w
  | [], _, _ => by simp [Op.eqItems]
  | x :: xs, i0, hA => by
    have h1 : A[i0]? = some (.string ⟨x.toArray⟩) := hA 0 x rfl
    have ih := items_str (w := w) (d := d) he hp A xs (i0 + 1) (fun j z hj => by have := hA (j + 1) z hj; rwa [show i0 + (j + 1) = i0 + 1 + j by omega] at this)
    rw [List.length_cons, List.range'_succ]
    simp only [Op.eqItems, Sem.run_bind, Nat.mul_one, run_part_plain w hp h1, Result.andThen_ok, run_equalIn_string w d e _ _ he, beq_self_eq_true]
    simpa using ih
theorem rv_streq {P : Program} {a : Act} {o : Oper} {w : World} (t t2 e : Nat) (x y : Operand) (X : List (List UInt8)) (hop : o.op = .binOp .eql t x y t2) (hx : a.eval x = .agg (X.map fun l => Value.string ⟨l.toArray⟩).toArray) (hy : a.eval y = .agg (X.map fun l => Value.string ⟨l.toArray⟩).toArray)
    (hu : P.underlying t = some (.array X.length e)) (he : (P.underlying e, (P.info? e).isSome, P.cellsOf e, P.plainKey e) = (some .string, true, 1, true)) (hg : P.eqGuardType P.depth t = false) :
    RunV P a o w (.bool true) := by
  simp only [Prod.mk.injEq] at he
  obtain ⟨h1, h2, h3, h4⟩ := he
  obtain ⟨i, hi⟩ := Option.isSome_iff_exists.1 h2
  have h : (Op.equal t (.agg (X.map fun l => Value.string ⟨l.toArray⟩).toArray) (.agg (X.map fun l => Value.string ⟨l.toArray⟩).toArray)).run P w = .ok true w := by
    show (Op.equalIn (9999 + 1) t _ _).run P w = _
    rw [run_equalIn_array w 9999 _ _ hu hi, h3, List.range_eq_range']
    exact items_str (d := 9998) h1 h4 _ X 0 (fun j x hj => by simp [hj])
  unfold RunV execOp
  simp only [hop, hx, hy]
  simp [go_sem, binOp, eqGuard, hg, h]
theorem IsRat.small {w : World} {K : Nat} {c0 c1 c2 c3 : Value} {z : Int} (h : IsRat w K c0 c1 c2 c3 (z : Rat)) (h0 : -9223372036854775808 ≤ z) (h1 : z ≤ 9223372036854775807) : IsRat w 64 c0 c1 c2 c3 (z : Rat) := by
  obtain ⟨hn, ⟨D, hd, hD⟩, _⟩ := h
  have e1 : ((z : Rat)).num = z := Rat.num_intCast z
  have e2 : ((z : Rat)).den = 1 := Rat.den_intCast z
  rw [e1] at hn
  refine ⟨by rw [e1]; exact hn.resz (Sz.i64 h0 h1), ⟨D, hd.resz ?_, hD⟩, Nat.le_refl 64⟩
  unfold Sz
  rw [e2] at hD
  rcases hD with h | ⟨h, _⟩ <;> subst h <;> decide
theorem gcd_stepZ {g n : Int} (hg : 0 ≤ g) (hn : 0 < n) : Int.gcd n (g % n) = Int.gcd g n := by
  obtain ⟨a, rfl⟩ := Int.eq_ofNat_of_zero_le hg
  obtain ⟨b, rfl⟩ := Int.eq_ofNat_of_zero_le (Int.le_of_lt hn)
  rw [← Int.natCast_emod, Int.gcd_natCast_natCast, Int.gcd_natCast_natCast, Nat.gcd_comm b, ← Nat.gcd_rec, Nat.gcd_comm]
theorem gcd_endZ {g n G v m : Int} (h : Int.gcd g n = Int.gcd G v) (hn : (n != (0 : Int)) = false) (hg : 0 ≤ g) (hv : v = m ∨ v = -m) : g = (Int.gcd G m : Int) := by
  have h0 : n = 0 := by simpa using hn
  rw [h0, Int.gcd_zero_right] at h
  have : Int.gcd G v = Int.gcd G m := by
    rcases hv with e | e
    · rw [e]
    · rw [e, Int.gcd_neg]
  omega
theorem quo_eq {n g G : Int} (h : g = G) (hd : G ∣ n) : Int.tdiv n g = n / G := by
  subst h; exact Int.tdiv_eq_ediv_of_dvd hd
theorem quo_small {n g : Int} (hg : 0 < g) (h0 : -128 ≤ n) (h1 : n ≤ 127) : -128 ≤ n / g ∧ n / g ≤ 127 := by
  have a := Int.ediv_le_ediv hg h0
  have b := Int.ediv_le_ediv hg h1
  have c : -128 ≤ -128 / g := by
    rw [Int.le_ediv_iff_mul_le hg]; omega
  have d : 127 / g ≤ 127 := Int.ediv_le_self _ (by omega)
  omega
theorem gcdL_pos {l : List Int} (h : ¬ ∀ z ∈ l, z = 0) : 0 < gcdL 0 l := by
  have h0 := gcdL_nonneg l 0 (Int.le_refl 0)
  have hd := (gcdL_dvd l 0).2
  rcases Int.lt_or_eq_of_le h0 with h1 | h1
  · exact h1
  · exact absurd (fun z hz => Int.zero_dvd.1 (by have := hd z hz; rwa [← h1] at this)) h
theorem zero_over (D : Int) : (((0 : Int) : Rat) / (D : Rat)) = 0 := by
  have : ((0 : Int) : Rat) = 0 := rfl
  rw [this, Rat.div_def, Rat.zero_mul]
theorem over_zero {n D : Int} (hD : 0 < D) (h : ((n : Rat) / (D : Rat)) = 0) : n = 0 := by
  have h1 := intCast_ne (show D ≠ 0 by omega)
  have h2 : (n : Rat) = 0 := by grind
  exact intCast_inj' h2
end Go.Proofs.YtgopfikljndklaaDoor
