/- Arrays of integers compared. -/
import Derived.Test.YtgopfikljndklaaDoorSq
import Derived.ChangeKeysEq
import Derived.Laws.StructEq
namespace Go.Proofs.YtgopfikljndklaaDoor
open Go.RowKit

def allEq : List Int → List Int → Bool
  | x :: xs, y :: ys => x == y && allEq xs ys
  | _, _ => true
/-- the same, from the left on -/
def eqL : Bool → List Int → List Int → Bool
  | b, x :: xs, y :: ys => eqL (b && x == y) xs ys
  | b, _, _ => b
theorem eqL_all : ∀ (X Y : List Int) (b : Bool), eqL b X Y = (b && allEq X Y)
  | [], _, b => by simp [eqL, allEq]
  | _ :: _, [], b => by simp [eqL, allEq]
  | x :: xs, y :: ys, b => by rw [eqL, eqL_all xs ys, allEq, Bool.and_assoc]
def conjL : List Int → List Int → Bool
  | x :: xs, y :: ys => eqL (x == y) xs ys
  | _, _ => true
theorem conjL_all (X Y : List Int) : conjL X Y = allEq X Y := by
  cases X with
  | nil => cases Y <;> rfl
  | cons x xs => cases Y with
    | nil => rfl
    | cons y ys => rw [conjL, eqL_all, allEq]

theorem items_int {P : Program} {w : World} {d e : Nat} {k : IntKind} (he : P.underlying e = some (.int k)) (hp : P.plainKey e = true) (A B : Array Value) :
    ∀ (X Y : List Int) (i0 : Nat), X.length = Y.length → (∀ j x, X[j]? = some x → A[i0 + j]? = some (.int k x)) → (∀ j y, Y[j]? = some y → B[i0 + j]? = some (.int k y)) →
      (Op.eqItems (d + 1) e 1 A B (List.range' i0 X.length)).run P w = .ok (allEq X Y) w
  | [], _, _, _, _, _ => by simp [Op.eqItems, allEq]
  | x :: xs, [], _, h, _, _ => by simp at h
  | x :: xs, y :: ys, i0, h, hA, hB => by
    have h1 : A[i0]? = some (.int k x) := hA 0 x rfl
    have h2 : B[i0]? = some (.int k y) := hB 0 y rfl
    have ih := items_int (w := w) (d := d) he hp A B xs ys (i0 + 1) (by simpa using h) (fun j z hj => by have := hA (j + 1) z hj; rwa [show i0 + (j + 1) = i0 + 1 + j by omega] at this)
      (fun j z hj => by have := hB (j + 1) z hj; rwa [show i0 + (j + 1) = i0 + 1 + j by omega] at this)
    rw [List.length_cons, List.range'_succ]
    simp only [Op.eqItems, Sem.run_bind, Nat.mul_one, run_part_plain w hp h1, run_part_plain w hp h2, Result.andThen_ok, run_equalIn_int w d e k k x y he, allEq]
    cases hxy : (x == y) with
    | true => simpa using ih
    | false => simp

section
variable {P : Program} {a : Act} {o : Oper} {w : World}
theorem arr_equal {t e : Nat} {k : IntKind} (X Y : List Int) (hu : P.underlying t = some (.array X.length e)) (hn : X.length = Y.length)
    (he : (P.underlying e, (P.info? e).isSome, P.cellsOf e, P.plainKey e) = (some (.int k), true, 1, true)) :
    (Op.equal t (.agg (X.map (Value.int k)).toArray) (.agg (Y.map (Value.int k)).toArray)).run P w = .ok (allEq X Y) w := by
  simp only [Prod.mk.injEq] at he
  obtain ⟨h1, h2, h3, h4⟩ := he
  obtain ⟨i, hi⟩ := Option.isSome_iff_exists.1 h2
  show (Op.equalIn (9999 + 1) t _ _).run P w = _
  rw [run_equalIn_array w 9999 _ _ hu hi, h3, List.range_eq_range']
  exact items_int (d := 9998) h1 h4 _ _ X Y 0 hn (fun j x hj => by simp [hj]) (fun j y hj => by simp [hj])
theorem rv_arreq (t t2 e : Nat) {k : IntKind} (x y : Operand) (X Y : List Int) (hop : o.op = .binOp .eql t x y t2) (hx : a.eval x = .agg (X.map (Value.int k)).toArray) (hy : a.eval y = .agg (Y.map (Value.int k)).toArray)
    (hu : (P.underlying t, decide (X.length = Y.length)) = (some (.array X.length e), true)) (he : (P.underlying e, (P.info? e).isSome, P.cellsOf e, P.plainKey e) = (some (.int k), true, 1, true)) (hg : P.eqGuardType P.depth t = false) :
    RunV P a o w (.bool (conjL X Y)) := by
  simp only [Prod.mk.injEq, decide_eq_true_eq] at hu
  have h := arr_equal (w := w) X Y hu.1 hu.2 he
  rw [conjL_all]
  unfold RunV execOp
  simp only [hop, hx, hy]
  simp [go_sem, binOp, eqGuard, hg, h]
theorem rv_arrne (t t2 e : Nat) {k : IntKind} (x y : Operand) (X Y : List Int) (hop : o.op = .binOp .neq t x y t2) (hx : a.eval x = .agg (X.map (Value.int k)).toArray) (hy : a.eval y = .agg (Y.map (Value.int k)).toArray)
    (hu : (P.underlying t, decide (X.length = Y.length)) = (some (.array X.length e), true)) (he : (P.underlying e, (P.info? e).isSome, P.cellsOf e, P.plainKey e) = (some (.int k), true, 1, true)) (hg : P.eqGuardType P.depth t = false) :
    RunV P a o w (.bool (!conjL X Y)) := by
  simp only [Prod.mk.injEq, decide_eq_true_eq] at hu
  have h := arr_equal (w := w) X Y hu.1 hu.2 he
  rw [conjL_all]
  unfold RunV execOp
  simp only [hop, hx, hy]
  simp [go_sem, binOp, eqGuard, hg, h]
end
end Go.Proofs.YtgopfikljndklaaDoor
