/- Joined of: Arr, Vin, Gen70, RowVectorInts. -/
import Derived.Test.YtlcmllfacolkaaaGreatDoorPartA
import Derived.ChangeKeysEq
import Derived.Laws.StructEq
import Derived.Test.YtlcmllfacolkaaaGreatDoorPartF
import Derived.Test.YtlcmllfacolkaaaGreatDoorPartD
import Derived.Test.YtlcmllfacolkaaaGreatDoorCards
import Derived.Test.YtlcmllfacolkaaaGreatDoorTie
/- Arrays of integers compared. -/
namespace Go.Proofs.YtlcmllfacolkaaaGreatDoor
open Go.RowKit

def allEq : List Int → List Int → Bool
  | x :: xs, y :: ys => x == y && allEq xs ys
  | _, _ => true
/-- the same, from the left on -/
def eqL : Bool → List Int → List Int → Bool
  | b, x :: xs, y :: ys => eqL (b && x == y) xs ys
  | b, _, _ => b
theorem eqL_all : ∀ (X Y : List Int) (b : Bool), eqL b X Y = (b && allEq X Y)
  | [], _, b => by simp [eqL, allEq]
  | _ :: _, [], b => by simp [eqL, allEq]
  | x :: xs, y :: ys, b => by rw [eqL, eqL_all xs ys, allEq, Bool.and_assoc]
def conjL : List Int → List Int → Bool
  | x :: xs, y :: ys => eqL (x == y) xs ys
  | _, _ => true
theorem conjL_all (X Y : List Int) : conjL X Y = allEq X Y := by
  cases X with
  | nil => cases Y <;> rfl
  | cons x xs => cases Y with
    | nil => rfl
    | cons y ys => rw [conjL, eqL_all, allEq]

theorem items_int {P : Program} {w : World} {d e : Nat} {k : IntKind} (he : P.underlying e = some (.int k)) (hp : P.plainKey e = true) (A B : Array Value) :
    ∀ (X Y : List Int) (i0 : Nat), X.length = Y.length → (∀ j x, X[j]? = some x → A[i0 + j]? = some (.int k x)) → (∀ j y, Y[j]? = some y → B[i0 + j]? = some (.int k y)) →
      (Op.eqItems (d + 1) e 1 A B (List.range' i0 X.length)).run P w = .ok (allEq X Y) w
  | [], _, _, _, _, _ => by simp [Op.eqItems, allEq]
  | x :: xs, [], _, h, _, _ => by simp at h
  | x :: xs, y :: ys, i0, h, hA, hB => by
    have h1 : A[i0]? = some (.int k x) := hA 0 x rfl
    have h2 : B[i0]? = some (.int k y) := hB 0 y rfl
    have ih := items_int (w := w) (d := d) he hp A B xs ys (i0 + 1) (by simpa using h) (fun j z hj => by have := hA (j + 1) z hj; rwa [show i0 + (j + 1) = i0 + 1 + j by omega] at this)
      (fun j z hj => by have := hB (j + 1) z hj; rwa [show i0 + (j + 1) = i0 + 1 + j by omega] at this)
    rw [List.length_cons, List.range'_succ]
    simp only [Op.eqItems, Sem.run_bind, Nat.mul_one, run_part_plain w hp h1, run_part_plain w hp h2, Result.andThen_ok, run_equalIn_int w d e k k x y he, allEq]
    cases hxy : (x == y) with
    | true => simpa using ih
    | false => simp

section
variable {P : Program} {a : Act} {o : Oper} {w : World}
theorem arr_equal {t e : Nat} {k : IntKind} (X Y : List Int) (hu : P.underlying t = some (.array X.length e)) (hn : X.length = Y.length)
    (he : (P.underlying e, (P.info? e).isSome, P.cellsOf e, P.plainKey e) = (some (.int k), true, 1, true)) :
    (Op.equal t (.agg (X.map (Value.int k)).toArray) (.agg (Y.map (Value.int k)).toArray)).run P w = .ok (allEq X Y) w := by
  simp only [Prod.mk.injEq] at he
  obtain ⟨h1, h2, h3, h4⟩ := he
  obtain ⟨i, hi⟩ := Option.isSome_iff_exists.1 h2
  show (Op.equalIn (9999 + 1) t _ _).run P w = _
  rw [run_equalIn_array w 9999 _ _ hu hi, h3, List.range_eq_range']
  exact items_int (d := 9998) h1 h4 _ _ X Y 0 hn (fun j x hj => by simp [hj]) (fun j y hj => by simp [hj])
theorem rv_arreq (t t2 e : Nat) {k : IntKind} (x y : Operand) (X Y : List Int) (hop : o.op = .binOp .eql t x y t2) (hx : a.eval x = .agg (X.map (Value.int k)).toArray) (hy : a.eval y = .agg (Y.map (Value.int k)).toArray)
    (hu : (P.underlying t, decide (X.length = Y.length)) = (some (.array X.length e), true)) (he : (P.underlying e, (P.info? e).isSome, P.cellsOf e, P.plainKey e) = (some (.int k), true, 1, true)) (hg : P.eqGuardType P.depth t = false) :
    RunV P a o w (.bool (conjL X Y)) := by
  simp only [Prod.mk.injEq, decide_eq_true_eq] at hu
  have h := arr_equal (w := w) X Y hu.1 hu.2 he
  rw [conjL_all]
  unfold RunV execOp
  simp only [hop, hx, hy]
  simp [go_sem, binOp, eqGuard, hg, h]
theorem rv_arrne (t t2 e : Nat) {k : IntKind} (x y : Operand) (X Y : List Int) (hop : o.op = .binOp .neq t x y t2) (hx : a.eval x = .agg (X.map (Value.int k)).toArray) (hy : a.eval y = .agg (Y.map (Value.int k)).toArray)
    (hu : (P.underlying t, decide (X.length = Y.length)) = (some (.array X.length e), true)) (he : (P.underlying e, (P.info? e).isSome, P.cellsOf e, P.plainKey e) = (some (.int k), true, 1, true)) (hg : P.eqGuardType P.depth t = false) :
    RunV P a o w (.bool (!conjL X Y)) := by
  simp only [Prod.mk.injEq, decide_eq_true_eq] at hu
  have h := arr_equal (w := w) X Y hu.1 hu.2 he
  rw [conjL_all]
  unfold RunV execOp
  simp only [hop, hx, hy]
  simp [go_sem, binOp, eqGuard, hg, h]
end
end Go.Proofs.YtlcmllfacolkaaaGreatDoor
/- Whole vectors: rests, and small numbers that are ints. -/
namespace Go.Proofs.YtlcmllfacolkaaaGreatDoor
open Go.RowKit

theorem rv_remt {P : Program} {a : Act} {o : Oper} {w : World} (t t2 : TypeId) (x y : Operand) (A B : Int) (hop : o.op = .binOp .rem t x y t2) (hx : a.eval x = .int .i64 A) (hy : a.eval y = .int .i64 B) (hB : 0 < B) : RunV P a o w (.int .i64 (Int.tmod A B)) := by
  unfold RunV execOp
  simp only [hop, hx, hy]
  have h0 : ¬ B = 0 := by omega
  simp [go_sem, eqGuard, binOp, Op.intDiv, h0]
theorem fits_int {n : Int} (h0 : -9223372036854775808 ≤ n) (h1 : n ≤ 9223372036854775807) : fitsQ ((n : Int) : Rat) = true ∧ valQ ((n : Int) : Rat) = n := by
  have e : fitsQ ((n : Int) : Rat) = true := by
    unfold fitsQ fitsI
    rw [Rat.num_intCast, decide_eq_true (show ((n : Int) : Rat).den = 1 from rfl), decide_eq_true h0, decide_eq_true h1]; rfl
  exact ⟨e, by unfold valQ; rw [e, if_pos rfl, Rat.num_intCast]⟩
theorem fits_eq {a : Rat} (h : fitsQ a = true) : a = ((valQ a : Int) : Rat) ∧ -9223372036854775808 ≤ valQ a ∧ valQ a ≤ 9223372036854775807 := by
  have h2 := h
  simp only [fitsQ, fitsI, Bool.and_eq_true, decide_eq_true_eq] at h2
  unfold valQ
  rw [h, if_pos rfl]
  refine ⟨?_, h2.2⟩
  exact Rat.ext (by rw [Rat.num_intCast]) (by rw [h2.1]; rfl)
/-- a small number is an int where the division leaves no rest -/
theorem fits_small {n D : Int} {a : Rat} (hn : -128 ≤ n ∧ n ≤ 127) (_hD : 0 ≤ D ∧ D ≤ 255) (h : a = (n : Rat) / ((1 + D % 6 : Int) : Rat)) : fitsQ a = (Int.tmod n (1 + D % 6) == (0 : Int)) := by
  obtain ⟨q, hq, hq0, hq1⟩ : ∃ q : Int, q = 1 + D % 6 ∧ 0 < q ∧ q ≤ 6 := ⟨_, rfl, by omega, by omega⟩
  rw [← hq] at h ⊢
  have hqr : ((q : Int) : Rat) ≠ 0 := by
    intro e
    have : q = 0 := by exact_mod_cast e
    omega
  have hm : a * ((q : Int) : Rat) = ((n : Int) : Rat) := by rw [h]; exact Rat.div_mul_cancel hqr
  rw [Bool.eq_iff_iff, beq_iff_eq]
  constructor
  · intro hf
    obtain ⟨e, _, _⟩ := fits_eq hf
    rw [e, ← Rat.intCast_mul] at hm
    have : valQ a * q = n := by exact_mod_cast hm
    rw [← this]
    exact Int.mul_tmod_left _ _
  · intro ht
    obtain ⟨m, hm2⟩ := Int.dvd_of_tmod_eq_zero ht
    have hb1 : -128 ≤ m ∧ m ≤ 127 := by
      subst hm2
      rcases Int.lt_trichotomy m 0 with h0 | h0 | h0
      · have := Int.mul_le_mul_of_nonpos_right (show (1 : Int) ≤ q by omega) (show m ≤ 0 by omega)
        omega
      · omega
      · have := Int.mul_le_mul_of_nonneg_right (show (1 : Int) ≤ q by omega) (show 0 ≤ m by omega)
        omega
    have ea : a = ((m : Int) : Rat) := by
      rw [hm2, Rat.intCast_mul, Rat.mul_comm] at hm
      rw [h, hm2, Rat.intCast_mul, Rat.mul_comm]
      exact Rat.mul_div_cancel hqr
    rw [ea]
    exact (fits_int (by omega) (by omega)).1
theorem sEq_fits {a1 a2 a3 : Rat} (h1 : fitsQ a1 = true) (h2 : fitsQ a2 = true) (h3 : fitsQ a3 = true) : sEq [ratL a1, ratL a2, ratL a3] [ratL ((valQ a1 : Int) : Rat), ratL ((valQ a2 : Int) : Rat), ratL ((valQ a3 : Int) : Rat)] = true :=
  sEq_q (fits_eq h1).1 (fits_eq h2).1 (fits_eq h3).1
end Go.Proofs.YtlcmllfacolkaaaGreatDoor
/- Printed by a program of the prover's: VectorInts. -/
namespace Go.Proofs.YtlcmllfacolkaaaGreatDoor
open Go.RowKit

set_option maxRecDepth 100000 in
set_option maxHeartbeats 1000000 in
theorem vints_0 {k : Nat} {uaa0 uaa1 uaa2 uaa3 uab0 uab1 uab2 uab3 uac0 uac1 uac2 uac3 : Value} {a1 a2 a3 : Rat} (e1 : fitsQ (a1) = false) {w : World} (hua1 : IsRat w k uaa0 uaa1 uaa2 uaa3 a1) (_hua2 : IsRat w k uab0 uab1 uab2 uab3 a2) (_hua3 : IsRat w k uac0 uac1 uac2 uac3 a3) (_hk : k ≤ 25000) :
    Calls Tryz.prog 57 #[(.agg #[uaa0, uaa1, uaa2, uaa3, uab0, uab1, uab2, uab3, uac0, uac1, uac2, uac3])] w fun e w' => e = .returned (.tuple #[.agg #[.int .i64 0, .int .i64 0, .int .i64 0], .int .i64 3]) ∧ Gr w w' := by
 go_enter Tryz.func57, Tryz.ntmps57
 have hB := Gr.refl w
 refine wp_seq_k (fun K1 k1 => ?_)
 refine rg [0, 1, 2] ?_
 refine se ?_
 refine eb 32 #[uaa0, uaa1, uaa2, uaa3, uab0, uab1, uab2, uab3, uac0, uac1, uac2, uac3] 1 hB fun b2 w2 g2 L2 o2 q2 hB => ?_
 simp only [p3, p4]
 refine se ?_
 refine ea 45 #[(.int .i64 0), (.int .i64 0), (.int .i64 0)] 2 hB fun b3 w3 g3 L3 o3 q3 hB => ?_
 simp only [p3, p4]
 refine sv 3 (.int .i64 0) ?_
 simp only [p3, p4]
 refine sq_nil ?_
 refine k1 _ _ ?_
 try clear k1 K1
 refine wp_seq_k (fun K4 k4 => ?_)
 refine rg [0] ?_
 refine se ?_
 refine ea 45 #[(.int .i64 0), (.int .i64 0), (.int .i64 0)] 4 hB fun b5 w5 g5 L5 o5 q5 hB => ?_
 replace L2 := L2.gr g3
 simp only [p3, p4]
 refine sq_nil ?_
 refine k4 _ _ ?_
 try clear k4 K4
 refine wp_seq_k (fun K6 k6 => ?_)
 refine wp_seq_k (fun K7 k7 => ?_)
 refine rg [0, 1] ?_
 replace L2 := L2.gr g5
 refine sw 9 (.agg #[uaa0, uaa1, uaa2, uaa3, uab0, uab1, uab2, uab3, uac0, uac1, uac2, uac3]) rfl (rl 32 0 [uaa0, uaa1, uaa2, uaa3, uab0, uab1, uab2, uab3, uac0, uac1, uac2, uac3] L2) ?_
 simp only [p3, p4]
 refine sv 10 (.int .i64 0) ?_
 simp only [p3, p4]
 refine sq_nil ?_
 refine k7 _ _ ?_
 try clear k7 K7
 refine wp_block ?_
 refine wp_loop_rounds 4 ?_
 show Code.wp _ _ _ _ _
 refine wp_seq_k (fun K8 k8 => ?_)
 refine rg [0] ?_
 refine sv 11 (.bool true) ?_
 simp only [p3, p4]
 refine sq_nil ?_
 refine k8 _ _ ?_
 try clear k8 K8
 refine wp_seq_k (fun K9 k9 => ?_)
 refine wp_cond_true rfl ?_
 refine wp_skip ?_
 refine k9 _ _ ?_
 try clear k9 K9
 refine wp_seq_k (fun K10 k10 => ?_)
 refine wp_block ?_
 refine wp_seq_k (fun K11 k11 => ?_)
 refine rg [0, 1, 2, 3, 4] ?_
 refine sv 12 (.int .i64 0) ?_
 simp only [p3, p4]
 refine sv 13 (.agg #[uaa0, uaa1, uaa2, uaa3]) ?_
 simp only [p3, p4]
 refine se ?_
 refine ea 30 #[(.bool false), (.slice none 0 0), (.bool false), (.slice none 0 0)] 6 hB fun b12 w12 g12 L12 o12 q12 hB => ?_
 replace L3 := L3.gr g5
 have ne3_12 := L3.ne o12
 simp only [p3, p4]
 refine sv 5 (.int .i64 0) ?_
 simp only [p3, p4]
 refine se ?_
 refine es 30 0 (.agg #[uaa0, uaa1, uaa2, uaa3]) [uaa0, uaa1, uaa2, uaa3] #[uaa0, uaa1, uaa2, uaa3] L12 hB q12 ⟨hua1.one0, hua1.one1, hua1.one2, hua1.one3, trivial⟩ fun w13 st13 kp13 L12 hB => ?_
 refine sq_nil ?_
 refine k11 _ _ ?_
 try clear k11 K11
 refine wp_seq_k (fun K14 k14 => ?_)
 refine rg [0, 1, 2, 3, 4, 5, 6] ?_
 refine sw 15 (.agg #[uaa0, uaa1, uaa2, uaa3]) rfl (rl 30 0 [uaa0, uaa1, uaa2, uaa3] L12) ?_
 simp only [p3, p4]
 refine se ?_
 have kq16 := g2.kp.trans (g3.kp.trans (g5.kp.trans (g12.kp.trans kp13)))
 replace hua1 := hua1.kp kq16
 refine ec 16 (rint_r hua1 (by omega)) ?_
 rintro e15 w15 ⟨rfl, g15⟩
 refine ⟨_, rfl, ?_⟩
 replace hB := hB.trans g15
 simp only [p3, p4]
 refine sv 14 (.tuple #[(.int .i64 (valQ (a1))), (.bool (fitsQ (a1)))]) ?_
 simp only [p3, p4]
 refine sv 17 (.int .i64 (valQ (a1))) ?_
 simp only [p3, p4]
 refine sw 18 (.bool false) rfl (RunV.bool (x := fitsQ (a1)) (rvk (by kernel_rfl)) e1) ?_
 simp only [p3, p4]
 refine sv 7 (.int .i64 (valQ (a1))) ?_
 simp only [p3, p4]
 refine sv 8 (.bool false) ?_
 simp only [p3, p4]
 refine sq_nil ?_
 refine k14 _ _ ?_
 try clear k14 K14
 refine wp_seq_k (fun K17 k17 => ?_)
 refine wp_seq_k (fun K18 k18 => ?_)
 refine rg [0, 1] ?_
 refine sv 19 (.bool false) ?_
 simp only [p3, p4]
 refine sv 20 (.bool true) ?_
 simp only [p3, p4]
 refine sq_nil ?_
 refine k18 _ _ ?_
 try clear k18 K18
 refine wp_cond_true rfl ?_
 refine wp_seq_k (fun K19 k19 => ?_)
 refine rg [0, 1, 2] ?_
 refine sv 21 (.agg #[(.int .i64 0), (.int .i64 0), (.int .i64 0)]) ?_
 simp only [p3, p4]
 refine se ?_
 replace L3 := (st13.lc (L3.gr g12) ne3_12).gr g15
 refine es 45 0 (.agg #[(.int .i64 0), (.int .i64 0), (.int .i64 0)]) [(.int .i64 0), (.int .i64 0), (.int .i64 0)] #[(.int .i64 0), (.int .i64 0), (.int .i64 0)] L3 hB q3 ⟨rfl, rfl, rfl, trivial⟩ fun w20 st20 kp20 L3 hB => ?_
 refine sv 3 (.int .i64 3) ?_
 simp only [p3, p4]
 refine sq_nil ?_
 refine k19 _ _ ?_
 try clear k19 K19
 refine wp_ret ?_
 simp only [Exit.then, Exit.inBlock]
 refine bodyPost_ret (v := (.tuple #[(.agg #[(.int .i64 0), (.int .i64 0), (.int .i64 0)]), (.int .i64 3)])) (ret_cell_tmp' _ _ _ rfl rfl L3 (by kernel_rfl) rfl) rfl ⟨?_, hB⟩
 exact rfl

set_option maxRecDepth 100000 in
set_option maxHeartbeats 1000000 in
theorem vints_1 {k : Nat} {uaa0 uaa1 uaa2 uaa3 uab0 uab1 uab2 uab3 uac0 uac1 uac2 uac3 : Value} {a1 a2 a3 : Rat} (e1 : fitsQ (a1) = true) (e2 : fitsQ (a2) = false) {w : World} (hua1 : IsRat w k uaa0 uaa1 uaa2 uaa3 a1) (hua2 : IsRat w k uab0 uab1 uab2 uab3 a2) (_hua3 : IsRat w k uac0 uac1 uac2 uac3 a3) (_hk : k ≤ 25000) :
    Calls Tryz.prog 57 #[(.agg #[uaa0, uaa1, uaa2, uaa3, uab0, uab1, uab2, uab3, uac0, uac1, uac2, uac3])] w fun e w' => e = .returned (.tuple #[.agg #[.int .i64 0, .int .i64 0, .int .i64 0], .int .i64 3]) ∧ Gr w w' := by
 go_enter Tryz.func57, Tryz.ntmps57
 have hB := Gr.refl w
 refine wp_seq_k (fun K1 k1 => ?_)
 refine rg [0, 1, 2] ?_
 refine se ?_
 refine eb 32 #[uaa0, uaa1, uaa2, uaa3, uab0, uab1, uab2, uab3, uac0, uac1, uac2, uac3] 1 hB fun b2 w2 g2 L2 o2 q2 hB => ?_
 simp only [p3, p4]
 refine se ?_
 refine ea 45 #[(.int .i64 0), (.int .i64 0), (.int .i64 0)] 2 hB fun b3 w3 g3 L3 o3 q3 hB => ?_
 simp only [p3, p4]
 refine sv 3 (.int .i64 0) ?_
 simp only [p3, p4]
 refine sq_nil ?_
 refine k1 _ _ ?_
 try clear k1 K1
 refine wp_seq_k (fun K4 k4 => ?_)
 refine rg [0] ?_
 refine se ?_
 refine ea 45 #[(.int .i64 0), (.int .i64 0), (.int .i64 0)] 4 hB fun b5 w5 g5 L5 o5 q5 hB => ?_
 replace L2 := L2.gr g3
 have ne3_5 := L3.ne o5
 simp only [p3, p4]
 refine sq_nil ?_
 refine k4 _ _ ?_
 try clear k4 K4
 refine wp_seq_k (fun K6 k6 => ?_)
 refine wp_seq_k (fun K7 k7 => ?_)
 refine rg [0, 1] ?_
 replace L2 := L2.gr g5
 refine sw 9 (.agg #[uaa0, uaa1, uaa2, uaa3, uab0, uab1, uab2, uab3, uac0, uac1, uac2, uac3]) rfl (rl 32 0 [uaa0, uaa1, uaa2, uaa3, uab0, uab1, uab2, uab3, uac0, uac1, uac2, uac3] L2) ?_
 simp only [p3, p4]
 refine sv 10 (.int .i64 0) ?_
 simp only [p3, p4]
 refine sq_nil ?_
 refine k7 _ _ ?_
 try clear k7 K7
 refine wp_block ?_
 refine wp_loop_rounds 4 ?_
 show Code.wp _ _ _ _ _
 refine wp_seq_k (fun K8 k8 => ?_)
 refine rg [0] ?_
 refine sv 11 (.bool true) ?_
 simp only [p3, p4]
 refine sq_nil ?_
 refine k8 _ _ ?_
 try clear k8 K8
 refine wp_seq_k (fun K9 k9 => ?_)
 refine wp_cond_true rfl ?_
 refine wp_skip ?_
 refine k9 _ _ ?_
 try clear k9 K9
 refine wp_seq_k (fun K10 k10 => ?_)
 refine wp_block ?_
 refine wp_seq_k (fun K11 k11 => ?_)
 refine rg [0, 1, 2, 3, 4] ?_
 refine sv 12 (.int .i64 0) ?_
 simp only [p3, p4]
 refine sv 13 (.agg #[uaa0, uaa1, uaa2, uaa3]) ?_
 simp only [p3, p4]
 refine se ?_
 refine ea 30 #[(.bool false), (.slice none 0 0), (.bool false), (.slice none 0 0)] 6 hB fun b12 w12 g12 L12 o12 q12 hB => ?_
 replace L3 := L3.gr g5
 have ne3_12 := L3.ne o12
 have ne5_12 := L5.ne o12
 simp only [p3, p4]
 refine sv 5 (.int .i64 0) ?_
 simp only [p3, p4]
 refine se ?_
 refine es 30 0 (.agg #[uaa0, uaa1, uaa2, uaa3]) [uaa0, uaa1, uaa2, uaa3] #[uaa0, uaa1, uaa2, uaa3] L12 hB q12 ⟨hua1.one0, hua1.one1, hua1.one2, hua1.one3, trivial⟩ fun w13 st13 kp13 L12 hB => ?_
 refine sq_nil ?_
 refine k11 _ _ ?_
 try clear k11 K11
 refine wp_seq_k (fun K14 k14 => ?_)
 refine rg [0, 1, 2, 3, 4, 5, 6] ?_
 refine sw 15 (.agg #[uaa0, uaa1, uaa2, uaa3]) rfl (rl 30 0 [uaa0, uaa1, uaa2, uaa3] L12) ?_
 simp only [p3, p4]
 refine se ?_
 have kq16 := g2.kp.trans (g3.kp.trans (g5.kp.trans (g12.kp.trans kp13)))
 replace hua1 := hua1.kp kq16
 refine ec 16 (rint_r hua1 (by omega)) ?_
 rintro e15 w15 ⟨rfl, g15⟩
 refine ⟨_, rfl, ?_⟩
 replace hB := hB.trans g15
 simp only [p3, p4]
 refine sv 14 (.tuple #[(.int .i64 (valQ (a1))), (.bool (fitsQ (a1)))]) ?_
 simp only [p3, p4]
 refine sv 17 (.int .i64 (valQ (a1))) ?_
 simp only [p3, p4]
 refine sw 18 (.bool true) rfl (RunV.bool (x := fitsQ (a1)) (rvk (by kernel_rfl)) e1) ?_
 simp only [p3, p4]
 refine sv 7 (.int .i64 (valQ (a1))) ?_
 simp only [p3, p4]
 refine sv 8 (.bool true) ?_
 simp only [p3, p4]
 refine sq_nil ?_
 refine k14 _ _ ?_
 try clear k14 K14
 refine wp_seq_k (fun K17 k17 => ?_)
 refine wp_seq_k (fun K18 k18 => ?_)
 refine rg [0, 1] ?_
 refine sv 19 (.bool true) ?_
 simp only [p3, p4]
 refine sv 20 (.bool false) ?_
 simp only [p3, p4]
 refine sq_nil ?_
 refine k18 _ _ ?_
 try clear k18 K18
 refine wp_cond_false rfl ?_
 refine wp_skip ?_
 refine k17 _ _ ?_
 try clear k17 K17
 refine rg [0, 1, 2, 3] ?_
 refine sv 22 (.int .i64 0) ?_
 simp only [p3, p4]
 refine sv 23 (.int .i64 (valQ (a1))) ?_
 simp only [p3, p4]
 refine sv 24 (.pointer (some ⟨b5, 0, none⟩)) ?_
 simp only [p3, p4]
 refine se ?_
 replace L5 := (st13.lc (L5.gr g12) ne5_12).gr g15
 refine es 3 0 (.int .i64 (valQ (a1))) [(.int .i64 (valQ (a1)))] #[(.int .i64 (valQ (a1))), (.int .i64 0), (.int .i64 0)] L5 hB q5 ⟨rfl, trivial⟩ fun w19 st19 kp19 L5 hB => ?_
 refine sq_nil ?_
 refine k10 _ _ ?_
 try clear k10 K10
 refine rg [0, 1] ?_
 refine sv 25 (.int .i64 1) ?_
 simp only [p3, p4]
 refine sv 10 (.int .i64 1) ?_
 simp only [p3, p4]
 refine sq_nil ?_
 show Code.rounds _ _ _ _ _ _
 show Code.wp _ _ _ _ _
 refine wp_seq_k (fun K20 k20 => ?_)
 refine rg [0] ?_
 refine sv 11 (.bool true) ?_
 simp only [p3, p4]
 refine sq_nil ?_
 refine k20 _ _ ?_
 try clear k20 K20
 refine wp_seq_k (fun K21 k21 => ?_)
 refine wp_cond_true rfl ?_
 refine wp_skip ?_
 refine k21 _ _ ?_
 try clear k21 K21
 refine wp_seq_k (fun K22 k22 => ?_)
 refine wp_block ?_
 refine wp_seq_k (fun K23 k23 => ?_)
 refine rg [0, 1, 2, 3, 4] ?_
 refine sv 12 (.int .i64 1) ?_
 simp only [p3, p4]
 refine sv 13 (.agg #[uab0, uab1, uab2, uab3]) ?_
 simp only [p3, p4]
 refine se ?_
 refine ea 30 #[(.bool false), (.slice none 0 0), (.bool false), (.slice none 0 0)] 6 hB fun b24 w24 g24 L24 o24 q24 hB => ?_
 replace L3 := st19.lc ((st13.lc (L3.gr g12) ne3_12).gr g15) ne3_5
 have ne3_24 := L3.ne o24
 simp only [p3, p4]
 refine sv 5 (.int .i64 1) ?_
 simp only [p3, p4]
 refine se ?_
 refine es 30 0 (.agg #[uab0, uab1, uab2, uab3]) [uab0, uab1, uab2, uab3] #[uab0, uab1, uab2, uab3] L24 hB q24 ⟨hua2.one0, hua2.one1, hua2.one2, hua2.one3, trivial⟩ fun w25 st25 kp25 L24 hB => ?_
 refine sq_nil ?_
 refine k23 _ _ ?_
 try clear k23 K23
 refine wp_seq_k (fun K26 k26 => ?_)
 refine rg [0, 1, 2, 3, 4, 5, 6] ?_
 refine sw 15 (.agg #[uab0, uab1, uab2, uab3]) rfl (rl 30 0 [uab0, uab1, uab2, uab3] L24) ?_
 simp only [p3, p4]
 refine se ?_
 have kq28 := g2.kp.trans (g3.kp.trans (g5.kp.trans (g12.kp.trans (kp13.trans (g15.kp.trans (kp19.trans (g24.kp.trans kp25)))))))
 replace hua2 := hua2.kp kq28
 refine ec 16 (rint_r hua2 (by omega)) ?_
 rintro e27 w27 ⟨rfl, g27⟩
 refine ⟨_, rfl, ?_⟩
 replace hB := hB.trans g27
 simp only [p3, p4]
 refine sv 14 (.tuple #[(.int .i64 (valQ (a2))), (.bool (fitsQ (a2)))]) ?_
 simp only [p3, p4]
 refine sv 17 (.int .i64 (valQ (a2))) ?_
 simp only [p3, p4]
 refine sw 18 (.bool false) rfl (RunV.bool (x := fitsQ (a2)) (rvk (by kernel_rfl)) e2) ?_
 simp only [p3, p4]
 refine sv 7 (.int .i64 (valQ (a2))) ?_
 simp only [p3, p4]
 refine sv 8 (.bool false) ?_
 simp only [p3, p4]
 refine sq_nil ?_
 refine k26 _ _ ?_
 try clear k26 K26
 refine wp_seq_k (fun K29 k29 => ?_)
 refine wp_seq_k (fun K30 k30 => ?_)
 refine rg [0, 1] ?_
 refine sv 19 (.bool false) ?_
 simp only [p3, p4]
 refine sv 20 (.bool true) ?_
 simp only [p3, p4]
 refine sq_nil ?_
 refine k30 _ _ ?_
 try clear k30 K30
 refine wp_cond_true rfl ?_
 refine wp_seq_k (fun K31 k31 => ?_)
 refine rg [0, 1, 2] ?_
 refine sv 21 (.agg #[(.int .i64 0), (.int .i64 0), (.int .i64 0)]) ?_
 simp only [p3, p4]
 refine se ?_
 replace L3 := (st25.lc (L3.gr g24) ne3_24).gr g27
 refine es 45 0 (.agg #[(.int .i64 0), (.int .i64 0), (.int .i64 0)]) [(.int .i64 0), (.int .i64 0), (.int .i64 0)] #[(.int .i64 0), (.int .i64 0), (.int .i64 0)] L3 hB q3 ⟨rfl, rfl, rfl, trivial⟩ fun w32 st32 kp32 L3 hB => ?_
 refine sv 3 (.int .i64 3) ?_
 simp only [p3, p4]
 refine sq_nil ?_
 refine k31 _ _ ?_
 try clear k31 K31
 refine wp_ret ?_
 simp only [Exit.then, Exit.inBlock]
 refine bodyPost_ret (v := (.tuple #[(.agg #[(.int .i64 0), (.int .i64 0), (.int .i64 0)]), (.int .i64 3)])) (ret_cell_tmp' _ _ _ rfl rfl L3 (by kernel_rfl) rfl) rfl ⟨?_, hB⟩
 exact rfl

set_option maxRecDepth 100000 in
set_option maxHeartbeats 1000000 in
theorem vints_2 {k : Nat} {uaa0 uaa1 uaa2 uaa3 uab0 uab1 uab2 uab3 uac0 uac1 uac2 uac3 : Value} {a1 a2 a3 : Rat} (e1 : fitsQ (a1) = true) (e2 : fitsQ (a2) = true) (e3 : fitsQ (a3) = false) {w : World} (hua1 : IsRat w k uaa0 uaa1 uaa2 uaa3 a1) (hua2 : IsRat w k uab0 uab1 uab2 uab3 a2) (hua3 : IsRat w k uac0 uac1 uac2 uac3 a3) (_hk : k ≤ 25000) :
    Calls Tryz.prog 57 #[(.agg #[uaa0, uaa1, uaa2, uaa3, uab0, uab1, uab2, uab3, uac0, uac1, uac2, uac3])] w fun e w' => e = .returned (.tuple #[.agg #[.int .i64 0, .int .i64 0, .int .i64 0], .int .i64 3]) ∧ Gr w w' := by
 go_enter Tryz.func57, Tryz.ntmps57
 have hB := Gr.refl w
 refine wp_seq_k (fun K1 k1 => ?_)
 refine rg [0, 1, 2] ?_
 refine se ?_
 refine eb 32 #[uaa0, uaa1, uaa2, uaa3, uab0, uab1, uab2, uab3, uac0, uac1, uac2, uac3] 1 hB fun b2 w2 g2 L2 o2 q2 hB => ?_
 simp only [p3, p4]
 refine se ?_
 refine ea 45 #[(.int .i64 0), (.int .i64 0), (.int .i64 0)] 2 hB fun b3 w3 g3 L3 o3 q3 hB => ?_
 simp only [p3, p4]
 refine sv 3 (.int .i64 0) ?_
 simp only [p3, p4]
 refine sq_nil ?_
 refine k1 _ _ ?_
 try clear k1 K1
 refine wp_seq_k (fun K4 k4 => ?_)
 refine rg [0] ?_
 refine se ?_
 refine ea 45 #[(.int .i64 0), (.int .i64 0), (.int .i64 0)] 4 hB fun b5 w5 g5 L5 o5 q5 hB => ?_
 replace L2 := L2.gr g3
 have ne3_5 := L3.ne o5
 simp only [p3, p4]
 refine sq_nil ?_
 refine k4 _ _ ?_
 try clear k4 K4
 refine wp_seq_k (fun K6 k6 => ?_)
 refine wp_seq_k (fun K7 k7 => ?_)
 refine rg [0, 1] ?_
 replace L2 := L2.gr g5
 refine sw 9 (.agg #[uaa0, uaa1, uaa2, uaa3, uab0, uab1, uab2, uab3, uac0, uac1, uac2, uac3]) rfl (rl 32 0 [uaa0, uaa1, uaa2, uaa3, uab0, uab1, uab2, uab3, uac0, uac1, uac2, uac3] L2) ?_
 simp only [p3, p4]
 refine sv 10 (.int .i64 0) ?_
 simp only [p3, p4]
 refine sq_nil ?_
 refine k7 _ _ ?_
 try clear k7 K7
 refine wp_block ?_
 refine wp_loop_rounds 4 ?_
 show Code.wp _ _ _ _ _
 refine wp_seq_k (fun K8 k8 => ?_)
 refine rg [0] ?_
 refine sv 11 (.bool true) ?_
 simp only [p3, p4]
 refine sq_nil ?_
 refine k8 _ _ ?_
 try clear k8 K8
 refine wp_seq_k (fun K9 k9 => ?_)
 refine wp_cond_true rfl ?_
 refine wp_skip ?_
 refine k9 _ _ ?_
 try clear k9 K9
 refine wp_seq_k (fun K10 k10 => ?_)
 refine wp_block ?_
 refine wp_seq_k (fun K11 k11 => ?_)
 refine rg [0, 1, 2, 3, 4] ?_
 refine sv 12 (.int .i64 0) ?_
 simp only [p3, p4]
 refine sv 13 (.agg #[uaa0, uaa1, uaa2, uaa3]) ?_
 simp only [p3, p4]
 refine se ?_
 refine ea 30 #[(.bool false), (.slice none 0 0), (.bool false), (.slice none 0 0)] 6 hB fun b12 w12 g12 L12 o12 q12 hB => ?_
 replace L3 := L3.gr g5
 have ne3_12 := L3.ne o12
 have ne5_12 := L5.ne o12
 simp only [p3, p4]
 refine sv 5 (.int .i64 0) ?_
 simp only [p3, p4]
 refine se ?_
 refine es 30 0 (.agg #[uaa0, uaa1, uaa2, uaa3]) [uaa0, uaa1, uaa2, uaa3] #[uaa0, uaa1, uaa2, uaa3] L12 hB q12 ⟨hua1.one0, hua1.one1, hua1.one2, hua1.one3, trivial⟩ fun w13 st13 kp13 L12 hB => ?_
 refine sq_nil ?_
 refine k11 _ _ ?_
 try clear k11 K11
 refine wp_seq_k (fun K14 k14 => ?_)
 refine rg [0, 1, 2, 3, 4, 5, 6] ?_
 refine sw 15 (.agg #[uaa0, uaa1, uaa2, uaa3]) rfl (rl 30 0 [uaa0, uaa1, uaa2, uaa3] L12) ?_
 simp only [p3, p4]
 refine se ?_
 have kq16 := g2.kp.trans (g3.kp.trans (g5.kp.trans (g12.kp.trans kp13)))
 replace hua1 := hua1.kp kq16
 refine ec 16 (rint_r hua1 (by omega)) ?_
 rintro e15 w15 ⟨rfl, g15⟩
 refine ⟨_, rfl, ?_⟩
 replace hB := hB.trans g15
 simp only [p3, p4]
 refine sv 14 (.tuple #[(.int .i64 (valQ (a1))), (.bool (fitsQ (a1)))]) ?_
 simp only [p3, p4]
 refine sv 17 (.int .i64 (valQ (a1))) ?_
 simp only [p3, p4]
 refine sw 18 (.bool true) rfl (RunV.bool (x := fitsQ (a1)) (rvk (by kernel_rfl)) e1) ?_
 simp only [p3, p4]
 refine sv 7 (.int .i64 (valQ (a1))) ?_
 simp only [p3, p4]
 refine sv 8 (.bool true) ?_
 simp only [p3, p4]
 refine sq_nil ?_
 refine k14 _ _ ?_
 try clear k14 K14
 refine wp_seq_k (fun K17 k17 => ?_)
 refine wp_seq_k (fun K18 k18 => ?_)
 refine rg [0, 1] ?_
 refine sv 19 (.bool true) ?_
 simp only [p3, p4]
 refine sv 20 (.bool false) ?_
 simp only [p3, p4]
 refine sq_nil ?_
 refine k18 _ _ ?_
 try clear k18 K18
 refine wp_cond_false rfl ?_
 refine wp_skip ?_
 refine k17 _ _ ?_
 try clear k17 K17
 refine rg [0, 1, 2, 3] ?_
 refine sv 22 (.int .i64 0) ?_
 simp only [p3, p4]
 refine sv 23 (.int .i64 (valQ (a1))) ?_
 simp only [p3, p4]
 refine sv 24 (.pointer (some ⟨b5, 0, none⟩)) ?_
 simp only [p3, p4]
 refine se ?_
 replace L5 := (st13.lc (L5.gr g12) ne5_12).gr g15
 refine es 3 0 (.int .i64 (valQ (a1))) [(.int .i64 (valQ (a1)))] #[(.int .i64 (valQ (a1))), (.int .i64 0), (.int .i64 0)] L5 hB q5 ⟨rfl, trivial⟩ fun w19 st19 kp19 L5 hB => ?_
 refine sq_nil ?_
 refine k10 _ _ ?_
 try clear k10 K10
 refine rg [0, 1] ?_
 refine sv 25 (.int .i64 1) ?_
 simp only [p3, p4]
 refine sv 10 (.int .i64 1) ?_
 simp only [p3, p4]
 refine sq_nil ?_
 show Code.rounds _ _ _ _ _ _
 show Code.wp _ _ _ _ _
 refine wp_seq_k (fun K20 k20 => ?_)
 refine rg [0] ?_
 refine sv 11 (.bool true) ?_
 simp only [p3, p4]
 refine sq_nil ?_
 refine k20 _ _ ?_
 try clear k20 K20
 refine wp_seq_k (fun K21 k21 => ?_)
 refine wp_cond_true rfl ?_
 refine wp_skip ?_
 refine k21 _ _ ?_
 try clear k21 K21
 refine wp_seq_k (fun K22 k22 => ?_)
 refine wp_block ?_
 refine wp_seq_k (fun K23 k23 => ?_)
 refine rg [0, 1, 2, 3, 4] ?_
 refine sv 12 (.int .i64 1) ?_
 simp only [p3, p4]
 refine sv 13 (.agg #[uab0, uab1, uab2, uab3]) ?_
 simp only [p3, p4]
 refine se ?_
 refine ea 30 #[(.bool false), (.slice none 0 0), (.bool false), (.slice none 0 0)] 6 hB fun b24 w24 g24 L24 o24 q24 hB => ?_
 replace L3 := st19.lc ((st13.lc (L3.gr g12) ne3_12).gr g15) ne3_5
 have ne3_24 := L3.ne o24
 have ne5_24 := L5.ne o24
 simp only [p3, p4]
 refine sv 5 (.int .i64 1) ?_
 simp only [p3, p4]
 refine se ?_
 refine es 30 0 (.agg #[uab0, uab1, uab2, uab3]) [uab0, uab1, uab2, uab3] #[uab0, uab1, uab2, uab3] L24 hB q24 ⟨hua2.one0, hua2.one1, hua2.one2, hua2.one3, trivial⟩ fun w25 st25 kp25 L24 hB => ?_
 refine sq_nil ?_
 refine k23 _ _ ?_
 try clear k23 K23
 refine wp_seq_k (fun K26 k26 => ?_)
 refine rg [0, 1, 2, 3, 4, 5, 6] ?_
 refine sw 15 (.agg #[uab0, uab1, uab2, uab3]) rfl (rl 30 0 [uab0, uab1, uab2, uab3] L24) ?_
 simp only [p3, p4]
 refine se ?_
 have kq28 := g2.kp.trans (g3.kp.trans (g5.kp.trans (g12.kp.trans (kp13.trans (g15.kp.trans (kp19.trans (g24.kp.trans kp25)))))))
 replace hua2 := hua2.kp kq28
 refine ec 16 (rint_r hua2 (by omega)) ?_
 rintro e27 w27 ⟨rfl, g27⟩
 refine ⟨_, rfl, ?_⟩
 replace hB := hB.trans g27
 simp only [p3, p4]
 refine sv 14 (.tuple #[(.int .i64 (valQ (a2))), (.bool (fitsQ (a2)))]) ?_
 simp only [p3, p4]
 refine sv 17 (.int .i64 (valQ (a2))) ?_
 simp only [p3, p4]
 refine sw 18 (.bool true) rfl (RunV.bool (x := fitsQ (a2)) (rvk (by kernel_rfl)) e2) ?_
 simp only [p3, p4]
 refine sv 7 (.int .i64 (valQ (a2))) ?_
 simp only [p3, p4]
 refine sv 8 (.bool true) ?_
 simp only [p3, p4]
 refine sq_nil ?_
 refine k26 _ _ ?_
 try clear k26 K26
 refine wp_seq_k (fun K29 k29 => ?_)
 refine wp_seq_k (fun K30 k30 => ?_)
 refine rg [0, 1] ?_
 refine sv 19 (.bool true) ?_
 simp only [p3, p4]
 refine sv 20 (.bool false) ?_
 simp only [p3, p4]
 refine sq_nil ?_
 refine k30 _ _ ?_
 try clear k30 K30
 refine wp_cond_false rfl ?_
 refine wp_skip ?_
 refine k29 _ _ ?_
 try clear k29 K29
 refine rg [0, 1, 2, 3] ?_
 refine sv 22 (.int .i64 1) ?_
 simp only [p3, p4]
 refine sv 23 (.int .i64 (valQ (a2))) ?_
 simp only [p3, p4]
 refine sv 24 (.pointer (some ⟨b5, 1, none⟩)) ?_
 simp only [p3, p4]
 refine se ?_
 replace L5 := (st25.lc (L5.gr g24) ne5_24).gr g27
 refine es 3 1 (.int .i64 (valQ (a2))) [(.int .i64 (valQ (a2)))] #[(.int .i64 (valQ (a1))), (.int .i64 (valQ (a2))), (.int .i64 0)] L5 hB q5 ⟨rfl, trivial⟩ fun w31 st31 kp31 L5 hB => ?_
 refine sq_nil ?_
 refine k22 _ _ ?_
 try clear k22 K22
 refine rg [0, 1] ?_
 refine sv 25 (.int .i64 2) ?_
 simp only [p3, p4]
 refine sv 10 (.int .i64 2) ?_
 simp only [p3, p4]
 refine sq_nil ?_
 show Code.rounds _ _ _ _ _ _
 show Code.wp _ _ _ _ _
 refine wp_seq_k (fun K32 k32 => ?_)
 refine rg [0] ?_
 refine sv 11 (.bool true) ?_
 simp only [p3, p4]
 refine sq_nil ?_
 refine k32 _ _ ?_
 try clear k32 K32
 refine wp_seq_k (fun K33 k33 => ?_)
 refine wp_cond_true rfl ?_
 refine wp_skip ?_
 refine k33 _ _ ?_
 try clear k33 K33
 refine wp_seq_k (fun K34 k34 => ?_)
 refine wp_block ?_
 refine wp_seq_k (fun K35 k35 => ?_)
 refine rg [0, 1, 2, 3, 4] ?_
 refine sv 12 (.int .i64 2) ?_
 simp only [p3, p4]
 refine sv 13 (.agg #[uac0, uac1, uac2, uac3]) ?_
 simp only [p3, p4]
 refine se ?_
 refine ea 30 #[(.bool false), (.slice none 0 0), (.bool false), (.slice none 0 0)] 6 hB fun b36 w36 g36 L36 o36 q36 hB => ?_
 replace L3 := st31.lc ((st25.lc (L3.gr g24) ne3_24).gr g27) ne3_5
 have ne3_36 := L3.ne o36
 simp only [p3, p4]
 refine sv 5 (.int .i64 2) ?_
 simp only [p3, p4]
 refine se ?_
 refine es 30 0 (.agg #[uac0, uac1, uac2, uac3]) [uac0, uac1, uac2, uac3] #[uac0, uac1, uac2, uac3] L36 hB q36 ⟨hua3.one0, hua3.one1, hua3.one2, hua3.one3, trivial⟩ fun w37 st37 kp37 L36 hB => ?_
 refine sq_nil ?_
 refine k35 _ _ ?_
 try clear k35 K35
 refine wp_seq_k (fun K38 k38 => ?_)
 refine rg [0, 1, 2, 3, 4, 5, 6] ?_
 refine sw 15 (.agg #[uac0, uac1, uac2, uac3]) rfl (rl 30 0 [uac0, uac1, uac2, uac3] L36) ?_
 simp only [p3, p4]
 refine se ?_
 have kq40 := g2.kp.trans (g3.kp.trans (g5.kp.trans (g12.kp.trans (kp13.trans (g15.kp.trans (kp19.trans (g24.kp.trans (kp25.trans (g27.kp.trans (kp31.trans (g36.kp.trans kp37)))))))))))
 replace hua3 := hua3.kp kq40
 refine ec 16 (rint_r hua3 (by omega)) ?_
 rintro e39 w39 ⟨rfl, g39⟩
 refine ⟨_, rfl, ?_⟩
 replace hB := hB.trans g39
 simp only [p3, p4]
 refine sv 14 (.tuple #[(.int .i64 (valQ (a3))), (.bool (fitsQ (a3)))]) ?_
 simp only [p3, p4]
 refine sv 17 (.int .i64 (valQ (a3))) ?_
 simp only [p3, p4]
 refine sw 18 (.bool false) rfl (RunV.bool (x := fitsQ (a3)) (rvk (by kernel_rfl)) e3) ?_
 simp only [p3, p4]
 refine sv 7 (.int .i64 (valQ (a3))) ?_
 simp only [p3, p4]
 refine sv 8 (.bool false) ?_
 simp only [p3, p4]
 refine sq_nil ?_
 refine k38 _ _ ?_
 try clear k38 K38
 refine wp_seq_k (fun K41 k41 => ?_)
 refine wp_seq_k (fun K42 k42 => ?_)
 refine rg [0, 1] ?_
 refine sv 19 (.bool false) ?_
 simp only [p3, p4]
 refine sv 20 (.bool true) ?_
 simp only [p3, p4]
 refine sq_nil ?_
 refine k42 _ _ ?_
 try clear k42 K42
 refine wp_cond_true rfl ?_
 refine wp_seq_k (fun K43 k43 => ?_)
 refine rg [0, 1, 2] ?_
 refine sv 21 (.agg #[(.int .i64 0), (.int .i64 0), (.int .i64 0)]) ?_
 simp only [p3, p4]
 refine se ?_
 replace L3 := (st37.lc (L3.gr g36) ne3_36).gr g39
 refine es 45 0 (.agg #[(.int .i64 0), (.int .i64 0), (.int .i64 0)]) [(.int .i64 0), (.int .i64 0), (.int .i64 0)] #[(.int .i64 0), (.int .i64 0), (.int .i64 0)] L3 hB q3 ⟨rfl, rfl, rfl, trivial⟩ fun w44 st44 kp44 L3 hB => ?_
 refine sv 3 (.int .i64 3) ?_
 simp only [p3, p4]
 refine sq_nil ?_
 refine k43 _ _ ?_
 try clear k43 K43
 refine wp_ret ?_
 simp only [Exit.then, Exit.inBlock]
 refine bodyPost_ret (v := (.tuple #[(.agg #[(.int .i64 0), (.int .i64 0), (.int .i64 0)]), (.int .i64 3)])) (ret_cell_tmp' _ _ _ rfl rfl L3 (by kernel_rfl) rfl) rfl ⟨?_, hB⟩
 exact rfl

set_option maxRecDepth 100000 in
set_option maxHeartbeats 1000000 in
theorem vints_3 {k : Nat} {uaa0 uaa1 uaa2 uaa3 uab0 uab1 uab2 uab3 uac0 uac1 uac2 uac3 : Value} {a1 a2 a3 : Rat} (e1 : fitsQ (a1) = true) (e2 : fitsQ (a2) = true) (e3 : fitsQ (a3) = true) {w : World} (hua1 : IsRat w k uaa0 uaa1 uaa2 uaa3 a1) (hua2 : IsRat w k uab0 uab1 uab2 uab3 a2) (hua3 : IsRat w k uac0 uac1 uac2 uac3 a3) (_hk : k ≤ 25000) :
    Calls Tryz.prog 57 #[(.agg #[uaa0, uaa1, uaa2, uaa3, uab0, uab1, uab2, uab3, uac0, uac1, uac2, uac3])] w fun e w' => e = .returned (.tuple #[.agg #[.int .i64 (valQ a1), .int .i64 (valQ a2), .int .i64 (valQ a3)], .int .i64 0]) ∧ Gr w w' := by
 go_enter Tryz.func57, Tryz.ntmps57
 have hB := Gr.refl w
 refine wp_seq_k (fun K1 k1 => ?_)
 refine rg [0, 1, 2] ?_
 refine se ?_
 refine eb 32 #[uaa0, uaa1, uaa2, uaa3, uab0, uab1, uab2, uab3, uac0, uac1, uac2, uac3] 1 hB fun b2 w2 g2 L2 o2 q2 hB => ?_
 simp only [p3, p4]
 refine se ?_
 refine ea 45 #[(.int .i64 0), (.int .i64 0), (.int .i64 0)] 2 hB fun b3 w3 g3 L3 o3 q3 hB => ?_
 simp only [p3, p4]
 refine sv 3 (.int .i64 0) ?_
 simp only [p3, p4]
 refine sq_nil ?_
 refine k1 _ _ ?_
 try clear k1 K1
 refine wp_seq_k (fun K4 k4 => ?_)
 refine rg [0] ?_
 refine se ?_
 refine ea 45 #[(.int .i64 0), (.int .i64 0), (.int .i64 0)] 4 hB fun b5 w5 g5 L5 o5 q5 hB => ?_
 replace L2 := L2.gr g3
 have ne3_5 := L3.ne o5
 simp only [p3, p4]
 refine sq_nil ?_
 refine k4 _ _ ?_
 try clear k4 K4
 refine wp_seq_k (fun K6 k6 => ?_)
 refine wp_seq_k (fun K7 k7 => ?_)
 refine rg [0, 1] ?_
 replace L2 := L2.gr g5
 refine sw 9 (.agg #[uaa0, uaa1, uaa2, uaa3, uab0, uab1, uab2, uab3, uac0, uac1, uac2, uac3]) rfl (rl 32 0 [uaa0, uaa1, uaa2, uaa3, uab0, uab1, uab2, uab3, uac0, uac1, uac2, uac3] L2) ?_
 simp only [p3, p4]
 refine sv 10 (.int .i64 0) ?_
 simp only [p3, p4]
 refine sq_nil ?_
 refine k7 _ _ ?_
 try clear k7 K7
 refine wp_block ?_
 refine wp_loop_rounds 4 ?_
 show Code.wp _ _ _ _ _
 refine wp_seq_k (fun K8 k8 => ?_)
 refine rg [0] ?_
 refine sv 11 (.bool true) ?_
 simp only [p3, p4]
 refine sq_nil ?_
 refine k8 _ _ ?_
 try clear k8 K8
 refine wp_seq_k (fun K9 k9 => ?_)
 refine wp_cond_true rfl ?_
 refine wp_skip ?_
 refine k9 _ _ ?_
 try clear k9 K9
 refine wp_seq_k (fun K10 k10 => ?_)
 refine wp_block ?_
 refine wp_seq_k (fun K11 k11 => ?_)
 refine rg [0, 1, 2, 3, 4] ?_
 refine sv 12 (.int .i64 0) ?_
 simp only [p3, p4]
 refine sv 13 (.agg #[uaa0, uaa1, uaa2, uaa3]) ?_
 simp only [p3, p4]
 refine se ?_
 refine ea 30 #[(.bool false), (.slice none 0 0), (.bool false), (.slice none 0 0)] 6 hB fun b12 w12 g12 L12 o12 q12 hB => ?_
 replace L3 := L3.gr g5
 have ne3_12 := L3.ne o12
 have ne5_12 := L5.ne o12
 simp only [p3, p4]
 refine sv 5 (.int .i64 0) ?_
 simp only [p3, p4]
 refine se ?_
 refine es 30 0 (.agg #[uaa0, uaa1, uaa2, uaa3]) [uaa0, uaa1, uaa2, uaa3] #[uaa0, uaa1, uaa2, uaa3] L12 hB q12 ⟨hua1.one0, hua1.one1, hua1.one2, hua1.one3, trivial⟩ fun w13 st13 kp13 L12 hB => ?_
 refine sq_nil ?_
 refine k11 _ _ ?_
 try clear k11 K11
 refine wp_seq_k (fun K14 k14 => ?_)
 refine rg [0, 1, 2, 3, 4, 5, 6] ?_
 refine sw 15 (.agg #[uaa0, uaa1, uaa2, uaa3]) rfl (rl 30 0 [uaa0, uaa1, uaa2, uaa3] L12) ?_
 simp only [p3, p4]
 refine se ?_
 have kq16 := g2.kp.trans (g3.kp.trans (g5.kp.trans (g12.kp.trans kp13)))
 replace hua1 := hua1.kp kq16
 refine ec 16 (rint_r hua1 (by omega)) ?_
 rintro e15 w15 ⟨rfl, g15⟩
 refine ⟨_, rfl, ?_⟩
 replace hB := hB.trans g15
 simp only [p3, p4]
 refine sv 14 (.tuple #[(.int .i64 (valQ (a1))), (.bool (fitsQ (a1)))]) ?_
 simp only [p3, p4]
 refine sv 17 (.int .i64 (valQ (a1))) ?_
 simp only [p3, p4]
 refine sw 18 (.bool true) rfl (RunV.bool (x := fitsQ (a1)) (rvk (by kernel_rfl)) e1) ?_
 simp only [p3, p4]
 refine sv 7 (.int .i64 (valQ (a1))) ?_
 simp only [p3, p4]
 refine sv 8 (.bool true) ?_
 simp only [p3, p4]
 refine sq_nil ?_
 refine k14 _ _ ?_
 try clear k14 K14
 refine wp_seq_k (fun K17 k17 => ?_)
 refine wp_seq_k (fun K18 k18 => ?_)
 refine rg [0, 1] ?_
 refine sv 19 (.bool true) ?_
 simp only [p3, p4]
 refine sv 20 (.bool false) ?_
 simp only [p3, p4]
 refine sq_nil ?_
 refine k18 _ _ ?_
 try clear k18 K18
 refine wp_cond_false rfl ?_
 refine wp_skip ?_
 refine k17 _ _ ?_
 try clear k17 K17
 refine rg [0, 1, 2, 3] ?_
 refine sv 22 (.int .i64 0) ?_
 simp only [p3, p4]
 refine sv 23 (.int .i64 (valQ (a1))) ?_
 simp only [p3, p4]
 refine sv 24 (.pointer (some ⟨b5, 0, none⟩)) ?_
 simp only [p3, p4]
 refine se ?_
 replace L5 := (st13.lc (L5.gr g12) ne5_12).gr g15
 refine es 3 0 (.int .i64 (valQ (a1))) [(.int .i64 (valQ (a1)))] #[(.int .i64 (valQ (a1))), (.int .i64 0), (.int .i64 0)] L5 hB q5 ⟨rfl, trivial⟩ fun w19 st19 kp19 L5 hB => ?_
 refine sq_nil ?_
 refine k10 _ _ ?_
 try clear k10 K10
 refine rg [0, 1] ?_
 refine sv 25 (.int .i64 1) ?_
 simp only [p3, p4]
 refine sv 10 (.int .i64 1) ?_
 simp only [p3, p4]
 refine sq_nil ?_
 show Code.rounds _ _ _ _ _ _
 show Code.wp _ _ _ _ _
 refine wp_seq_k (fun K20 k20 => ?_)
 refine rg [0] ?_
 refine sv 11 (.bool true) ?_
 simp only [p3, p4]
 refine sq_nil ?_
 refine k20 _ _ ?_
 try clear k20 K20
 refine wp_seq_k (fun K21 k21 => ?_)
 refine wp_cond_true rfl ?_
 refine wp_skip ?_
 refine k21 _ _ ?_
 try clear k21 K21
 refine wp_seq_k (fun K22 k22 => ?_)
 refine wp_block ?_
 refine wp_seq_k (fun K23 k23 => ?_)
 refine rg [0, 1, 2, 3, 4] ?_
 refine sv 12 (.int .i64 1) ?_
 simp only [p3, p4]
 refine sv 13 (.agg #[uab0, uab1, uab2, uab3]) ?_
 simp only [p3, p4]
 refine se ?_
 refine ea 30 #[(.bool false), (.slice none 0 0), (.bool false), (.slice none 0 0)] 6 hB fun b24 w24 g24 L24 o24 q24 hB => ?_
 replace L3 := st19.lc ((st13.lc (L3.gr g12) ne3_12).gr g15) ne3_5
 have ne3_24 := L3.ne o24
 have ne5_24 := L5.ne o24
 simp only [p3, p4]
 refine sv 5 (.int .i64 1) ?_
 simp only [p3, p4]
 refine se ?_
 refine es 30 0 (.agg #[uab0, uab1, uab2, uab3]) [uab0, uab1, uab2, uab3] #[uab0, uab1, uab2, uab3] L24 hB q24 ⟨hua2.one0, hua2.one1, hua2.one2, hua2.one3, trivial⟩ fun w25 st25 kp25 L24 hB => ?_
 refine sq_nil ?_
 refine k23 _ _ ?_
 try clear k23 K23
 refine wp_seq_k (fun K26 k26 => ?_)
 refine rg [0, 1, 2, 3, 4, 5, 6] ?_
 refine sw 15 (.agg #[uab0, uab1, uab2, uab3]) rfl (rl 30 0 [uab0, uab1, uab2, uab3] L24) ?_
 simp only [p3, p4]
 refine se ?_
 have kq28 := g2.kp.trans (g3.kp.trans (g5.kp.trans (g12.kp.trans (kp13.trans (g15.kp.trans (kp19.trans (g24.kp.trans kp25)))))))
 replace hua2 := hua2.kp kq28
 refine ec 16 (rint_r hua2 (by omega)) ?_
 rintro e27 w27 ⟨rfl, g27⟩
 refine ⟨_, rfl, ?_⟩
 replace hB := hB.trans g27
 simp only [p3, p4]
 refine sv 14 (.tuple #[(.int .i64 (valQ (a2))), (.bool (fitsQ (a2)))]) ?_
 simp only [p3, p4]
 refine sv 17 (.int .i64 (valQ (a2))) ?_
 simp only [p3, p4]
 refine sw 18 (.bool true) rfl (RunV.bool (x := fitsQ (a2)) (rvk (by kernel_rfl)) e2) ?_
 simp only [p3, p4]
 refine sv 7 (.int .i64 (valQ (a2))) ?_
 simp only [p3, p4]
 refine sv 8 (.bool true) ?_
 simp only [p3, p4]
 refine sq_nil ?_
 refine k26 _ _ ?_
 try clear k26 K26
 refine wp_seq_k (fun K29 k29 => ?_)
 refine wp_seq_k (fun K30 k30 => ?_)
 refine rg [0, 1] ?_
 refine sv 19 (.bool true) ?_
 simp only [p3, p4]
 refine sv 20 (.bool false) ?_
 simp only [p3, p4]
 refine sq_nil ?_
 refine k30 _ _ ?_
 try clear k30 K30
 refine wp_cond_false rfl ?_
 refine wp_skip ?_
 refine k29 _ _ ?_
 try clear k29 K29
 refine rg [0, 1, 2, 3] ?_
 refine sv 22 (.int .i64 1) ?_
 simp only [p3, p4]
 refine sv 23 (.int .i64 (valQ (a2))) ?_
 simp only [p3, p4]
 refine sv 24 (.pointer (some ⟨b5, 1, none⟩)) ?_
 simp only [p3, p4]
 refine se ?_
 replace L5 := (st25.lc (L5.gr g24) ne5_24).gr g27
 refine es 3 1 (.int .i64 (valQ (a2))) [(.int .i64 (valQ (a2)))] #[(.int .i64 (valQ (a1))), (.int .i64 (valQ (a2))), (.int .i64 0)] L5 hB q5 ⟨rfl, trivial⟩ fun w31 st31 kp31 L5 hB => ?_
 refine sq_nil ?_
 refine k22 _ _ ?_
 try clear k22 K22
 refine rg [0, 1] ?_
 refine sv 25 (.int .i64 2) ?_
 simp only [p3, p4]
 refine sv 10 (.int .i64 2) ?_
 simp only [p3, p4]
 refine sq_nil ?_
 show Code.rounds _ _ _ _ _ _
 show Code.wp _ _ _ _ _
 refine wp_seq_k (fun K32 k32 => ?_)
 refine rg [0] ?_
 refine sv 11 (.bool true) ?_
 simp only [p3, p4]
 refine sq_nil ?_
 refine k32 _ _ ?_
 try clear k32 K32
 refine wp_seq_k (fun K33 k33 => ?_)
 refine wp_cond_true rfl ?_
 refine wp_skip ?_
 refine k33 _ _ ?_
 try clear k33 K33
 refine wp_seq_k (fun K34 k34 => ?_)
 refine wp_block ?_
 refine wp_seq_k (fun K35 k35 => ?_)
 refine rg [0, 1, 2, 3, 4] ?_
 refine sv 12 (.int .i64 2) ?_
 simp only [p3, p4]
 refine sv 13 (.agg #[uac0, uac1, uac2, uac3]) ?_
 simp only [p3, p4]
 refine se ?_
 refine ea 30 #[(.bool false), (.slice none 0 0), (.bool false), (.slice none 0 0)] 6 hB fun b36 w36 g36 L36 o36 q36 hB => ?_
 replace L3 := st31.lc ((st25.lc (L3.gr g24) ne3_24).gr g27) ne3_5
 have ne3_36 := L3.ne o36
 have ne5_36 := L5.ne o36
 simp only [p3, p4]
 refine sv 5 (.int .i64 2) ?_
 simp only [p3, p4]
 refine se ?_
 refine es 30 0 (.agg #[uac0, uac1, uac2, uac3]) [uac0, uac1, uac2, uac3] #[uac0, uac1, uac2, uac3] L36 hB q36 ⟨hua3.one0, hua3.one1, hua3.one2, hua3.one3, trivial⟩ fun w37 st37 kp37 L36 hB => ?_
 refine sq_nil ?_
 refine k35 _ _ ?_
 try clear k35 K35
 refine wp_seq_k (fun K38 k38 => ?_)
 refine rg [0, 1, 2, 3, 4, 5, 6] ?_
 refine sw 15 (.agg #[uac0, uac1, uac2, uac3]) rfl (rl 30 0 [uac0, uac1, uac2, uac3] L36) ?_
 simp only [p3, p4]
 refine se ?_
 have kq40 := g2.kp.trans (g3.kp.trans (g5.kp.trans (g12.kp.trans (kp13.trans (g15.kp.trans (kp19.trans (g24.kp.trans (kp25.trans (g27.kp.trans (kp31.trans (g36.kp.trans kp37)))))))))))
 replace hua3 := hua3.kp kq40
 refine ec 16 (rint_r hua3 (by omega)) ?_
 rintro e39 w39 ⟨rfl, g39⟩
 refine ⟨_, rfl, ?_⟩
 replace hB := hB.trans g39
 simp only [p3, p4]
 refine sv 14 (.tuple #[(.int .i64 (valQ (a3))), (.bool (fitsQ (a3)))]) ?_
 simp only [p3, p4]
 refine sv 17 (.int .i64 (valQ (a3))) ?_
 simp only [p3, p4]
 refine sw 18 (.bool true) rfl (RunV.bool (x := fitsQ (a3)) (rvk (by kernel_rfl)) e3) ?_
 simp only [p3, p4]
 refine sv 7 (.int .i64 (valQ (a3))) ?_
 simp only [p3, p4]
 refine sv 8 (.bool true) ?_
 simp only [p3, p4]
 refine sq_nil ?_
 refine k38 _ _ ?_
 try clear k38 K38
 refine wp_seq_k (fun K41 k41 => ?_)
 refine wp_seq_k (fun K42 k42 => ?_)
 refine rg [0, 1] ?_
 refine sv 19 (.bool true) ?_
 simp only [p3, p4]
 refine sv 20 (.bool false) ?_
 simp only [p3, p4]
 refine sq_nil ?_
 refine k42 _ _ ?_
 try clear k42 K42
 refine wp_cond_false rfl ?_
 refine wp_skip ?_
 refine k41 _ _ ?_
 try clear k41 K41
 refine rg [0, 1, 2, 3] ?_
 refine sv 22 (.int .i64 2) ?_
 simp only [p3, p4]
 refine sv 23 (.int .i64 (valQ (a3))) ?_
 simp only [p3, p4]
 refine sv 24 (.pointer (some ⟨b5, 2, none⟩)) ?_
 simp only [p3, p4]
 refine se ?_
 replace L5 := (st37.lc (L5.gr g36) ne5_36).gr g39
 refine es 3 2 (.int .i64 (valQ (a3))) [(.int .i64 (valQ (a3)))] #[(.int .i64 (valQ (a1))), (.int .i64 (valQ (a2))), (.int .i64 (valQ (a3)))] L5 hB q5 ⟨rfl, trivial⟩ fun w43 st43 kp43 L5 hB => ?_
 refine sq_nil ?_
 refine k34 _ _ ?_
 try clear k34 K34
 refine rg [0, 1] ?_
 refine sv 25 (.int .i64 3) ?_
 simp only [p3, p4]
 refine sv 10 (.int .i64 3) ?_
 simp only [p3, p4]
 refine sq_nil ?_
 show Code.rounds _ _ _ _ _ _
 show Code.wp _ _ _ _ _
 refine wp_seq_k (fun K44 k44 => ?_)
 refine rg [0] ?_
 refine sv 11 (.bool false) ?_
 simp only [p3, p4]
 refine sq_nil ?_
 refine k44 _ _ ?_
 try clear k44 K44
 refine wp_seq_k (fun K45 k45 => ?_)
 refine wp_cond_false rfl ?_
 refine wp_exit ?_
 simp only [Exit.then, Exit.inBlock, ↓reduceIte]
 refine k6 _ _ ?_
 try clear k6 K6
 refine wp_seq_k (fun K46 k46 => ?_)
 refine rg [0, 1, 2] ?_
 refine sw 26 (.agg #[(.int .i64 (valQ (a1))), (.int .i64 (valQ (a2))), (.int .i64 (valQ (a3)))]) rfl (rl 45 0 [(.int .i64 (valQ (a1))), (.int .i64 (valQ (a2))), (.int .i64 (valQ (a3)))] L5) ?_
 simp only [p3, p4]
 refine se ?_
 replace L3 := st43.lc ((st37.lc (L3.gr g36) ne3_36).gr g39) ne3_5
 refine es 45 0 (.agg #[(.int .i64 (valQ (a1))), (.int .i64 (valQ (a2))), (.int .i64 (valQ (a3)))]) [(.int .i64 (valQ (a1))), (.int .i64 (valQ (a2))), (.int .i64 (valQ (a3)))] #[(.int .i64 (valQ (a1))), (.int .i64 (valQ (a2))), (.int .i64 (valQ (a3)))] L3 hB q3 ⟨rfl, rfl, rfl, trivial⟩ fun w47 st47 kp47 L3 hB => ?_
 refine sv 3 (.int .i64 0) ?_
 simp only [p3, p4]
 refine sq_nil ?_
 refine k46 _ _ ?_
 try clear k46 K46
 refine wp_ret ?_
 refine bodyPost_ret (v := (.tuple #[(.agg #[(.int .i64 (valQ (a1))), (.int .i64 (valQ (a2))), (.int .i64 (valQ (a3)))]), (.int .i64 0)])) (ret_cell_tmp' _ _ _ rfl rfl L3 (by kernel_rfl) rfl) rfl ⟨?_, hB⟩
 exact rfl

theorem vints_z {k : Nat} {n1 n2 n3 : Int} (jn1 : -9223372036854775808 ≤ n1 ∧ n1 ≤ 9223372036854775807) (jn2 : -9223372036854775808 ≤ n2 ∧ n2 ≤ 9223372036854775807) (jn3 : -9223372036854775808 ≤ n3 ∧ n3 ≤ 9223372036854775807) {uaa0 uaa1 uaa2 uaa3 uab0 uab1 uab2 uab3 uac0 uac1 uac2 uac3 : Value} {w : World} (g1 : IsRat w k uaa0 uaa1 uaa2 uaa3 ((n1 : Int) : Rat)) (g2 : IsRat w k uab0 uab1 uab2 uab3 ((n2 : Int) : Rat)) (g3 : IsRat w k uac0 uac1 uac2 uac3 ((n3 : Int) : Rat))(hk : k ≤ 25000) :
    Calls Tryz.prog 57 #[(.agg #[uaa0, uaa1, uaa2, uaa3, uab0, uab1, uab2, uab3, uac0, uac1, uac2, uac3])] w fun e w' => e = .returned (.tuple #[.agg #[.int .i64 n1, .int .i64 n2, .int .i64 n3], .int .i64 0]) ∧ Gr w w' := by
  have h := vints_3 (fits_int jn1.1 jn1.2).1 (fits_int jn2.1 jn2.2).1 (fits_int jn3.1 jn3.2).1 g1 g2 g3 (by omega)
  rw [(fits_int jn1.1 jn1.2).2, (fits_int jn2.1 jn2.2).2, (fits_int jn3.1 jn3.2).2] at h
  exact h

theorem lawVi0 (Qn1 Qn2 Qn3 : Rat)  : sEq [ratL Qn1, ratL Qn2, ratL Qn3] [ratL Qn1, ratL Qn2, ratL Qn3] = true := sEq_q rfl rfl rfl
set_option maxRecDepth 100000 in
set_option maxHeartbeats 8000000 in
theorem vinl_0 (n1 n2 n3 : Int) (jn1 : -9223372036854775808 ≤ n1 ∧ n1 ≤ 9223372036854775807) (jn2 : -9223372036854775808 ≤ n2 ∧ n2 ≤ 9223372036854775807) (jn3 : -9223372036854775808 ≤ n3 ∧ n3 ≤ 9223372036854775807) (ia1 ia2 ia3 da : Int) (ja1 : -128 ≤ ia1 ∧ ia1 ≤ 127) (ja2 : -128 ≤ ia2 ∧ ia2 ≤ 127) (ja3 : -128 ≤ ia3 ∧ ia3 ≤ 127) (jda : 0 ≤ da ∧ da ≤ 255) (a1 a2 a3 : Rat) (ea1 : a1 = ((ia1 : Int) : Rat) / ((1 + da % 6 : Int) : Rat)) (ea2 : a2 = ((ia2 : Int) : Rat) / ((1 + da % 6 : Int) : Rat)) (ea3 : a3 = ((ia3 : Int) : Rat) / ((1 + da % 6 : Int) : Rat)) (t1 : (Int.tmod (ia1) (1 + (da % 6)) == (0 : Int)) = false) (w : World) (ht : Tab w) (hm : Mx w) :
    Calls Tryz.prog 11 #[(.agg #[(.int .i64 (n1)), (.int .i64 (n2)), (.int .i64 (n3))]), (.agg #[(.int .i8 (ia1)), (.int .i8 (ia2)), (.int .i8 (ia3)), (.int .u8 (da))])] w fun e w' => e = .returned (.bool true) ∧ Gr w w' := by
 have ha1 : RS 16 a1 := small_rs ja1 jda ea1
 have ha2 : RS 16 a2 := small_rs ja2 jda ea2
 have ha3 : RS 16 a3 := small_rs ja3 jda ea3
 have f1 : fitsQ (a1) = false := by rw [fits_small ja1 jda ea1]; exact t1
 go_enter Tryz.func11, Tryz.ntmps11
 have hB := Gr.refl w
 refine wp_seq_k (fun K1 k1 => ?_)
 refine rg [0, 1, 2] ?_
 refine se ?_
 refine eb 45 #[(.int .i64 (n1)), (.int .i64 (n2)), (.int .i64 (n3))] 2 hB fun b2 w2 g2 L2 o2 q2 hB => ?_
 simp only [p3, p4]
 refine se ?_
 refine eb 42 #[(.int .i8 (ia1)), (.int .i8 (ia2)), (.int .i8 (ia3)), (.int .u8 (da))] 3 hB fun b3 w3 g3 L3 o3 q3 hB => ?_
 simp only [p3, p4]
 refine sv 4 (.bool false) ?_
 simp only [p3, p4]
 refine sq_nil ?_
 refine k1 _ _ ?_
 try clear k1 K1
 refine wp_seq_k (fun K4 k4 => ?_)
 refine wp_seq_k (fun K5 k5 => ?_)
 have gd16 := Gr.drew w3
 replace hB := hB.trans gd16
 replace L2 := L2.gr (g3.trans gd16)
 refine wp_region_ord (fun w' => Lc w' b2 #[(.int .i64 (n1)), (.int .i64 (n2)), (.int .i64 (n3))] 45) [(false, 0), (true, 1), (true, 2), (true, 3), (true, 5), (false, 4), (false, 6), (false, 7), (true, 8), (true, 9)] (by kernel_rfl) (by kernel_rfl) (by kernel_rfl) (by decide) (fun _ _ _ _ _ h => h) L2 ?_
 refine oe ?_
 refine ec 11 (known3 _ (ht.gr hB) (hm.gr hB)) ?_
 rintro e18 w18 ⟨rfl, g18⟩
 refine ⟨_, rfl, ?_⟩
 replace hB := hB.trans g18
 replace L2 := L2.gr g18
 refine ⟨L2, ?_⟩
 simp only [p3, p4]
 refine ov 12 (.bool false) ?_
 simp only [p3, p4]
 refine ov 13 (.bool false) ?_
 simp only [p3, p4]
 refine ow 14 (.agg #[(.int .i64 (n1)), (.int .i64 (n2)), (.int .i64 (n3))]) rfl (fun w' hS => (rl 45 0 [(.int .i64 (n1)), (.int .i64 (n2)), (.int .i64 (n3))] hS)) ?_
 simp only [p3, p4]
 refine ow 16 (.agg #[(.int .i64 (n1)), (.int .i64 (n2)), (.int .i64 (n3))]) rfl (fun w' hS => (rl 45 0 [(.int .i64 (n1)), (.int .i64 (n2)), (.int .i64 (n3))] hS)) ?_
 simp only [p3, p4]
 refine oe ?_
 refine ec 15 (vof_v (n1) (n2) (n3) (by omega) (by omega) (by omega) _) ?_
 rintro e20 w20 ⟨⟨t20_0, t20_1, t20_2, t20_3, t20_4, t20_5, t20_6, t20_7, t20_8, t20_9, t20_10, t20_11, rfl, h20a, h20b, h20c⟩, g20⟩
 refine ⟨_, rfl, ?_⟩
 replace hB := hB.trans g20
 replace L2 := L2.gr g20
 refine ⟨L2, ?_⟩
 simp only [p3, p4]
 refine oe ?_
 refine ec 17 (r3_of (n1) (n2) (n3) (by omega) (by omega) (by omega) _) ?_
 rintro e22 w22 ⟨rfl, g22⟩
 refine ⟨_, rfl, ?_⟩
 replace hB := hB.trans g22
 replace L2 := L2.gr g22
 refine ⟨L2, ?_⟩
 simp only [p3, p4]
 refine oe ?_
 replace h20a := h20a.kp g22.kp
 replace h20b := h20b.kp g22.kp
 replace h20c := h20c.kp g22.kp
 refine ec 18 (is_v (ratL (((n1 : Int) : Rat))) (ratL (((n2 : Int) : Rat))) (ratL (((n3 : Int) : Rat))) h20a h20b h20c (by omega) (ht.gr hB)) ?_
 rintro e24 w24 ⟨rfl, g24⟩
 refine ⟨_, rfl, ?_⟩
 replace hB := hB.trans g24
 replace L2 := L2.gr g24
 refine ⟨L2, ?_⟩
 simp only [p3, p4]
 have hb25 : (sEq [ratL ((((n1 : Int) : Rat))), ratL ((((n2 : Int) : Rat))), ratL ((((n3 : Int) : Rat)))] [ratL (((n1 : Int) : Rat)), ratL (((n2 : Int) : Rat)), ratL (((n3 : Int) : Rat))]) = true := (lawVi0 ((n1 : Int) : Rat) ((n2 : Int) : Rat) ((n3 : Int) : Rat) )
 refine ow 19 (.bool false) rfl (fun w' hS => (RunV.bool (x := !(sEq [ratL ((((n1 : Int) : Rat))), ratL ((((n2 : Int) : Rat))), ratL ((((n3 : Int) : Rat)))] [ratL (((n1 : Int) : Rat)), ratL (((n2 : Int) : Rat)), ratL (((n3 : Int) : Rat))])) (rvk (by kernel_rfl)) (show (!(sEq [ratL ((((n1 : Int) : Rat))), ratL ((((n2 : Int) : Rat))), ratL ((((n3 : Int) : Rat)))] [ratL (((n1 : Int) : Rat)), ratL (((n2 : Int) : Rat)), ratL (((n3 : Int) : Rat))])) = false by rw [hb25]; rfl))) ?_
 simp only [p3, p4]
 refine ov 20 (.bool false) ?_
 simp only [p3, p4]
 refine ord_nil ?_
 refine k5 _ _ ?_
 try clear k5 K5
 refine wp_cond_false rfl ?_
 refine wp_skip ?_
 refine k4 _ _ ?_
 try clear k4 K4
 refine wp_seq_k (fun K26 k26 => ?_)
 refine rg [0, 1, 2, 3, 4, 5, 6, 7, 8] ?_
 refine sw 22 (.agg #[(.int .i64 (n1)), (.int .i64 (n2)), (.int .i64 (n3))]) rfl (rl 45 0 [(.int .i64 (n1)), (.int .i64 (n2)), (.int .i64 (n3))] L2) ?_
 simp only [p3, p4]
 refine se ?_
 refine ec 23 (vof_v (n1) (n2) (n3) (by omega) (by omega) (by omega) _) ?_
 rintro e27 w27 ⟨⟨t27_0, t27_1, t27_2, t27_3, t27_4, t27_5, t27_6, t27_7, t27_8, t27_9, t27_10, t27_11, rfl, h27a, h27b, h27c⟩, g27⟩
 refine ⟨_, rfl, ?_⟩
 replace hB := hB.trans g27
 simp only [p3, p4]
 refine se ?_
 refine ec 24 (vints_z jn1 jn2 jn3 h27a h27b h27c (by omega)) ?_
 rintro e28 w28 ⟨rfl, g28⟩
 refine ⟨_, rfl, ?_⟩
 replace hB := hB.trans g28
 simp only [p3, p4]
 refine sv 21 (.tuple #[(.agg #[(.int .i64 (n1)), (.int .i64 (n2)), (.int .i64 (n3))]), (.int .i64 0)]) ?_
 simp only [p3, p4]
 refine sv 25 (.agg #[(.int .i64 (n1)), (.int .i64 (n2)), (.int .i64 (n3))]) ?_
 simp only [p3, p4]
 refine sv 26 (.int .i64 0) ?_
 simp only [p3, p4]
 refine se ?_
 refine ea 45 #[(.int .i64 0), (.int .i64 0), (.int .i64 0)] 5 hB fun b29 w29 g29 L29 o29 q29 hB => ?_
 replace L2 := L2.gr (g27.trans g28)
 have ne2_29 := L2.ne o29
 replace L3 := L3.gr (gd16.trans (g18.trans (g20.trans (g22.trans (g24.trans (g27.trans g28))))))
 have ne3_29 := L3.ne o29
 simp only [p3, p4]
 refine se ?_
 refine es 45 0 (.agg #[(.int .i64 (n1)), (.int .i64 (n2)), (.int .i64 (n3))]) [(.int .i64 (n1)), (.int .i64 (n2)), (.int .i64 (n3))] #[(.int .i64 (n1)), (.int .i64 (n2)), (.int .i64 (n3))] L29 hB q29 ⟨rfl, rfl, rfl, trivial⟩ fun w30 st30 kp30 L29 hB => ?_
 refine sv 6 (.int .i64 0) ?_
 simp only [p3, p4]
 refine sq_nil ?_
 refine k26 _ _ ?_
 try clear k26 K26
 refine wp_seq_k (fun K31 k31 => ?_)
 refine rg [0, 1, 2, 3, 4, 5, 6, 7, 8] ?_
 replace L3 := st30.lc (L3.gr g29) ne3_29
 refine sw 28 (.agg #[(.int .i8 (ia1)), (.int .i8 (ia2)), (.int .i8 (ia3)), (.int .u8 (da))]) rfl (rl 42 0 [(.int .i8 (ia1)), (.int .i8 (ia2)), (.int .i8 (ia3)), (.int .u8 (da))] L3) ?_
 simp only [p3, p4]
 refine se ?_
 refine ec 29 (made_v ia1 ia2 ia3 da ja1 ja2 ja3 jda a1 a2 a3 ea1 ea2 ea3 _ (hm.gr hB)) ?_
 rintro e32 w32 ⟨⟨t32_0, t32_1, t32_2, t32_3, t32_4, t32_5, t32_6, t32_7, t32_8, t32_9, t32_10, t32_11, rfl, h32a, h32b, h32c⟩, g32⟩
 refine ⟨_, rfl, ?_⟩
 replace hB := hB.trans g32
 simp only [p3, p4]
 refine se ?_
 refine ec 30 (vints_0 f1 h32a h32b h32c (by omega)) ?_
 rintro e33 w33 ⟨rfl, g33⟩
 refine ⟨_, rfl, ?_⟩
 replace hB := hB.trans g33
 simp only [p3, p4]
 refine sv 27 (.tuple #[(.agg #[(.int .i64 0), (.int .i64 0), (.int .i64 0)]), (.int .i64 3)]) ?_
 simp only [p3, p4]
 refine sv 31 (.agg #[(.int .i64 0), (.int .i64 0), (.int .i64 0)]) ?_
 simp only [p3, p4]
 refine sv 32 (.int .i64 3) ?_
 simp only [p3, p4]
 refine se ?_
 refine ea 45 #[(.int .i64 0), (.int .i64 0), (.int .i64 0)] 7 hB fun b34 w34 g34 L34 o34 q34 hB => ?_
 replace L2 := (st30.lc (L2.gr g29) ne2_29).gr (g32.trans g33)
 have ne2_34 := L2.ne o34
 replace L3 := L3.gr (g32.trans g33)
 have ne3_34 := L3.ne o34
 replace L29 := L29.gr (g32.trans g33)
 have ne29_34 := L29.ne o34
 simp only [p3, p4]
 refine se ?_
 refine es 45 0 (.agg #[(.int .i64 0), (.int .i64 0), (.int .i64 0)]) [(.int .i64 0), (.int .i64 0), (.int .i64 0)] #[(.int .i64 0), (.int .i64 0), (.int .i64 0)] L34 hB q34 ⟨rfl, rfl, rfl, trivial⟩ fun w35 st35 kp35 L34 hB => ?_
 refine sv 8 (.int .i64 3) ?_
 simp only [p3, p4]
 refine sq_nil ?_
 refine k31 _ _ ?_
 try clear k31 K31
 refine wp_seq_k (fun K36 k36 => ?_)
 refine rg [0] ?_
 refine sv 9 (.bool true) ?_
 simp only [p3, p4]
 refine sq_nil ?_
 refine k36 _ _ ?_
 try clear k36 K36
 refine wp_seq_k (fun K37 k37 => ?_)
 refine wp_seq_k (fun K38 k38 => ?_)
 refine rg [0] ?_
 refine sv 10 (.int .i64 0) ?_
 simp only [p3, p4]
 refine sq_nil ?_
 refine k38 _ _ ?_
 try clear k38 K38
 refine wp_block ?_
 refine wp_loop_rounds 4 ?_
 show Code.wp _ _ _ _ _
 refine wp_seq_k (fun K39 k39 => ?_)
 refine wp_seq_k (fun K40 k40 => ?_)
 refine rg [0, 1] ?_
 refine sv 33 (.int .i64 0) ?_
 simp only [p3, p4]
 refine sv 34 (.bool true) ?_
 simp only [p3, p4]
 refine sq_nil ?_
 refine k40 _ _ ?_
 try clear k40 K40
 refine wp_cond_true rfl ?_
 refine wp_skip ?_
 refine k39 _ _ ?_
 try clear k39 K39
 refine wp_seq_k (fun K41 k41 => ?_)
 refine wp_block ?_
 have gd43 := Gr.drew w35
 replace hB := hB.trans gd43
 replace L3 := (st35.lc (L3.gr g34) ne3_34).gr gd43
 refine wp_region_ord (fun w' => Lc w' b3 #[(.int .i8 (ia1)), (.int .i8 (ia2)), (.int .i8 (ia3)), (.int .u8 (da))] 42) [(true, 0), (true, 1), (true, 2), (true, 3), (true, 4), (true, 5), (true, 6), (true, 7), (true, 8), (true, 9), (true, 10), (true, 11), (true, 12), (true, 13), (true, 14), (true, 15)] (by kernel_rfl) (by kernel_rfl) (by kernel_rfl) (by decide) (fun _ _ _ _ _ h => h) L3 ?_
 refine ov 37 (.bool true) ?_
 simp only [p3, p4]
 refine ov 38 (.bool true) ?_
 simp only [p3, p4]
 refine ov 39 (.int .i64 0) ?_
 simp only [p3, p4]
 refine ov 40 (.pointer (some ⟨b3, 0, none⟩)) ?_
 simp only [p3, p4]
 refine ov 41 (.pointer (some ⟨b3, 0, none⟩)) ?_
 simp only [p3, p4]
 refine ow 42 (.int .i8 (ia1)) rfl (fun w' hS => (rk 39 0 hS)) ?_
 simp only [p3, p4]
 refine ow 43 (.int .i64 (ia1)) rfl (fun w' hS => (RunV.int (x := IntKind.i64.wrap (ia1)) (y := ia1) (rvk (by kernel_rfl)) (by first | rfl | (rw [IntKind.wrap_i64]; omega)))) ?_
 simp only [p3, p4]
 refine ov 44 (.pointer (some ⟨b3, 3, none⟩)) ?_
 simp only [p3, p4]
 refine ow 45 (.int .u8 (da)) rfl (fun w' hS => (rk 5 3 hS)) ?_
 simp only [p3, p4]
 refine ow 46 (.int .u8 ((da % 6))) rfl (fun w' hS => (RunV.int (x := Int.tmod (da) 6) (y := da % 6) (rvk (by kernel_rfl)) (by rw [Int.tmod_eq_emod_of_nonneg (by first | omega | exact Int.natCast_nonneg _)]))) ?_
 simp only [p3, p4]
 refine ow 47 (.int .i64 ((da % 6))) rfl (fun w' hS => (RunV.int (x := IntKind.i64.wrap ((da % 6))) (y := (da % 6)) (rvk (by kernel_rfl)) (by first | rfl | (rw [IntKind.wrap_i64]; omega)))) ?_
 simp only [p3, p4]
 refine ow 48 (.int .i64 ((1 + (da % 6)))) rfl (fun w' hS => (RunV.int (x := IntKind.i64.wrap ((1 + (da % 6)))) (y := (1 + (da % 6))) (rvk (by kernel_rfl)) (by first | rfl | (rw [IntKind.wrap_i64]; omega)))) ?_
 simp only [p3, p4]
 refine ow 49 (.int .i64 (Int.tmod (ia1) ((1 + (da % 6))))) rfl (fun w' hS => (rv_remt 3 3 _ _ _ _ rfl rfl rfl (by omega))) ?_
 simp only [p3, p4]
 refine ow 50 (.bool false) rfl (fun w' hS => (RunV.bool (x := (Int.tmod (ia1) ((1 + (da % 6))) == (0 : Int))) (rvk (by kernel_rfl)) t1)) ?_
 simp only [p3, p4]
 refine ov 51 (.bool false) ?_
 simp only [p3, p4]
 refine ov 9 (.bool false) ?_
 simp only [p3, p4]
 refine ord_nil ?_
 refine k41 _ _ ?_
 try clear k41 K41
 refine rg [0, 1, 2] ?_
 refine sv 35 (.int .i64 0) ?_
 simp only [p3, p4]
 refine sv 36 (.int .i64 1) ?_
 simp only [p3, p4]
 refine sv 10 (.int .i64 1) ?_
 simp only [p3, p4]
 refine sq_nil ?_
 show Code.rounds _ _ _ _ _ _
 show Code.wp _ _ _ _ _
 refine wp_seq_k (fun K44 k44 => ?_)
 refine wp_seq_k (fun K45 k45 => ?_)
 refine rg [0, 1] ?_
 refine sv 33 (.int .i64 1) ?_
 simp only [p3, p4]
 refine sv 34 (.bool true) ?_
 simp only [p3, p4]
 refine sq_nil ?_
 refine k45 _ _ ?_
 try clear k45 K45
 refine wp_cond_true rfl ?_
 refine wp_skip ?_
 refine k44 _ _ ?_
 try clear k44 K44
 refine wp_seq_k (fun K46 k46 => ?_)
 refine wp_block ?_
 have gd48 := Gr.drew (w35.drew)
 replace hB := hB.trans gd48
 replace L3 := L3.gr gd48
 refine wp_region_ord (fun w' => Lc w' b3 #[(.int .i8 (ia1)), (.int .i8 (ia2)), (.int .i8 (ia3)), (.int .u8 (da))] 42) [(true, 0), (true, 1), (true, 2), (true, 3), (true, 4), (true, 5), (true, 6), (true, 7), (true, 8), (true, 9), (true, 10), (true, 11), (true, 12), (true, 13), (true, 14), (true, 15)] (by kernel_rfl) (by kernel_rfl) (by kernel_rfl) (by decide) (fun _ _ _ _ _ h => h) L3 ?_
 refine ov 37 (.bool false) ?_
 simp only [p3, p4]
 refine ov 38 (.bool false) ?_
 simp only [p3, p4]
 refine os 39 ?_
 simp only [p3, p4]
 refine os 40 ?_
 simp only [p3, p4]
 refine os 41 ?_
 simp only [p3, p4]
 refine os 42 ?_
 simp only [p3, p4]
 refine os 43 ?_
 simp only [p3, p4]
 refine os 44 ?_
 simp only [p3, p4]
 refine os 45 ?_
 simp only [p3, p4]
 refine os 46 ?_
 simp only [p3, p4]
 refine os 47 ?_
 simp only [p3, p4]
 refine os 48 ?_
 simp only [p3, p4]
 refine os 49 ?_
 simp only [p3, p4]
 refine os 50 ?_
 simp only [p3, p4]
 refine ov 51 (.bool false) ?_
 simp only [p3, p4]
 refine ov 9 (.bool false) ?_
 simp only [p3, p4]
 refine ord_nil ?_
 refine k46 _ _ ?_
 try clear k46 K46
 refine rg [0, 1, 2] ?_
 refine sv 35 (.int .i64 1) ?_
 simp only [p3, p4]
 refine sv 36 (.int .i64 2) ?_
 simp only [p3, p4]
 refine sv 10 (.int .i64 2) ?_
 simp only [p3, p4]
 refine sq_nil ?_
 show Code.rounds _ _ _ _ _ _
 show Code.wp _ _ _ _ _
 refine wp_seq_k (fun K49 k49 => ?_)
 refine wp_seq_k (fun K50 k50 => ?_)
 refine rg [0, 1] ?_
 refine sv 33 (.int .i64 2) ?_
 simp only [p3, p4]
 refine sv 34 (.bool true) ?_
 simp only [p3, p4]
 refine sq_nil ?_
 refine k50 _ _ ?_
 try clear k50 K50
 refine wp_cond_true rfl ?_
 refine wp_skip ?_
 refine k49 _ _ ?_
 try clear k49 K49
 refine wp_seq_k (fun K51 k51 => ?_)
 refine wp_block ?_
 have gd53 := Gr.drew ((w35.drew).drew)
 replace hB := hB.trans gd53
 replace L3 := L3.gr gd53
 refine wp_region_ord (fun w' => Lc w' b3 #[(.int .i8 (ia1)), (.int .i8 (ia2)), (.int .i8 (ia3)), (.int .u8 (da))] 42) [(true, 0), (true, 1), (true, 2), (true, 3), (true, 4), (true, 5), (true, 6), (true, 7), (true, 8), (true, 9), (true, 10), (true, 11), (true, 12), (true, 13), (true, 14), (true, 15)] (by kernel_rfl) (by kernel_rfl) (by kernel_rfl) (by decide) (fun _ _ _ _ _ h => h) L3 ?_
 refine ov 37 (.bool false) ?_
 simp only [p3, p4]
 refine ov 38 (.bool false) ?_
 simp only [p3, p4]
 refine os 39 ?_
 simp only [p3, p4]
 refine os 40 ?_
 simp only [p3, p4]
 refine os 41 ?_
 simp only [p3, p4]
 refine os 42 ?_
 simp only [p3, p4]
 refine os 43 ?_
 simp only [p3, p4]
 refine os 44 ?_
 simp only [p3, p4]
 refine os 45 ?_
 simp only [p3, p4]
 refine os 46 ?_
 simp only [p3, p4]
 refine os 47 ?_
 simp only [p3, p4]
 refine os 48 ?_
 simp only [p3, p4]
 refine os 49 ?_
 simp only [p3, p4]
 refine os 50 ?_
 simp only [p3, p4]
 refine ov 51 (.bool false) ?_
 simp only [p3, p4]
 refine ov 9 (.bool false) ?_
 simp only [p3, p4]
 refine ord_nil ?_
 refine k51 _ _ ?_
 try clear k51 K51
 refine rg [0, 1, 2] ?_
 refine sv 35 (.int .i64 2) ?_
 simp only [p3, p4]
 refine sv 36 (.int .i64 3) ?_
 simp only [p3, p4]
 refine sv 10 (.int .i64 3) ?_
 simp only [p3, p4]
 refine sq_nil ?_
 show Code.rounds _ _ _ _ _ _
 show Code.wp _ _ _ _ _
 refine wp_seq_k (fun K54 k54 => ?_)
 refine wp_seq_k (fun K55 k55 => ?_)
 refine rg [0, 1] ?_
 refine sv 33 (.int .i64 3) ?_
 simp only [p3, p4]
 refine sv 34 (.bool false) ?_
 simp only [p3, p4]
 refine sq_nil ?_
 refine k55 _ _ ?_
 try clear k55 K55
 refine wp_cond_false rfl ?_
 refine wp_exit ?_
 simp only [Exit.then, Exit.inBlock, ↓reduceIte]
 refine k37 _ _ ?_
 try clear k37 K37
 refine wp_seq_k (fun K56 k56 => ?_)
 have gd59 := Gr.drew (((w35.drew).drew).drew)
 replace hB := hB.trans gd59
 replace L2 := (st35.lc (L2.gr g34) ne2_34).gr (gd43.trans (gd48.trans (gd53.trans gd59)))
 replace L3 := L3.gr gd59
 replace L29 := (st35.lc (L29.gr g34) ne29_34).gr (gd43.trans (gd48.trans (gd53.trans gd59)))
 replace L34 := L34.gr (gd43.trans (gd48.trans (gd53.trans gd59)))
 refine wp_region_ord (fun w' => Lc w' b2 #[(.int .i64 (n1)), (.int .i64 (n2)), (.int .i64 (n3))] 45 ∧ Lc w' b3 #[(.int .i8 (ia1)), (.int .i8 (ia2)), (.int .i8 (ia3)), (.int .u8 (da))] 42 ∧ Lc w' b29 #[(.int .i64 (n1)), (.int .i64 (n2)), (.int .i64 (n3))] 45 ∧ Lc w' b34 #[(.int .i64 0), (.int .i64 0), (.int .i64 0)] 45) [(true, 0), (true, 1), (true, 2), (true, 3), (true, 4), (true, 5), (true, 6), (true, 7), (true, 8), (true, 9), (true, 10), (true, 11), (true, 12), (true, 13), (true, 14), (true, 15), (true, 16), (true, 18), (false, 17), (false, 19), (false, 20), (true, 21), (true, 22), (true, 23), (true, 24), (true, 25), (true, 26), (true, 27), (true, 28), (true, 29), (true, 30), (true, 31), (true, 32), (true, 33), (true, 34), (true, 35), (true, 36)] (by kernel_rfl) (by kernel_rfl) (by kernel_rfl) (by decide) (fun _ _ _ _ _ h => h) ⟨L2, L3, L29, L34⟩ ?_
 refine ov 52 (.int .i64 0) ?_
 simp only [p3, p4]
 refine ov 53 (.bool true) ?_
 simp only [p3, p4]
 refine ov 54 (.bool true) ?_
 simp only [p3, p4]
 refine ow 55 (.agg #[(.int .i64 (n1)), (.int .i64 (n2)), (.int .i64 (n3))]) rfl (fun w' hS => (rl 45 0 [(.int .i64 (n1)), (.int .i64 (n2)), (.int .i64 (n3))] hS.2.2.1)) ?_
 simp only [p3, p4]
 refine ow 56 (.agg #[(.int .i64 (n1)), (.int .i64 (n2)), (.int .i64 (n3))]) rfl (fun w' hS => (rl 45 0 [(.int .i64 (n1)), (.int .i64 (n2)), (.int .i64 (n3))] hS.1)) ?_
 simp only [p3, p4]
 have hb60 : ((n1 == n1 && n2 == n2 && n3 == n3)) = true := (by simp)
 refine ow 57 (.bool true) rfl (fun w' hS => (RunV.bool (x := (n1 == n1 && n2 == n2 && n3 == n3)) (rv_arreq 45 45 3 (k := .i64) _ _ [n1, n2, n3] [n1, n2, n3] rfl rfl rfl (by kernel_rfl) (by kernel_rfl) (by kernel_rfl)) hb60)) ?_
 simp only [p3, p4]
 refine ov 58 (.bool true) ?_
 simp only [p3, p4]
 refine ov 59 (.bool true) ?_
 simp only [p3, p4]
 refine ov 60 (.int .i64 3) ?_
 simp only [p3, p4]
 refine ov 61 (.bool false) ?_
 simp only [p3, p4]
 refine ov 62 (.bool false) ?_
 simp only [p3, p4]
 refine ov 63 (.bool true) ?_
 simp only [p3, p4]
 refine ov 64 (.bool true) ?_
 simp only [p3, p4]
 refine ov 65 (.bool true) ?_
 simp only [p3, p4]
 refine ov 66 (.bool false) ?_
 simp only [p3, p4]
 refine ov 67 (.bool false) ?_
 simp only [p3, p4]
 refine os 68 ?_
 simp only [p3, p4]
 refine os 70 ?_
 simp only [p3, p4]
 refine oz 69 ⟨L2, L3, L29, L34⟩ ?_
 simp only [p3, p4]
 refine oz 71 ⟨L2, L3, L29, L34⟩ ?_
 simp only [p3, p4]
 refine oz 72 ⟨L2, L3, L29, L34⟩ ?_
 simp only [p3, p4]
 refine ov 73 (.bool false) ?_
 simp only [p3, p4]
 refine ov 74 (.bool false) ?_
 simp only [p3, p4]
 refine ov 75 (.bool false) ?_
 simp only [p3, p4]
 refine ov 76 (.bool true) ?_
 simp only [p3, p4]
 refine ov 77 (.bool true) ?_
 simp only [p3, p4]
 refine ov 78 (.int .i64 3) ?_
 simp only [p3, p4]
 refine ov 79 (.bool true) ?_
 simp only [p3, p4]
 refine ov 80 (.bool true) ?_
 simp only [p3, p4]
 refine ov 81 (.bool true) ?_
 simp only [p3, p4]
 refine ow 82 (.agg #[(.int .i64 0), (.int .i64 0), (.int .i64 0)]) rfl (fun w' hS => (rl 45 0 [(.int .i64 0), (.int .i64 0), (.int .i64 0)] hS.2.2.2)) ?_
 simp only [p3, p4]
 refine ov 83 (.agg #[(.int .i64 0), (.int .i64 0), (.int .i64 0)]) ?_
 simp only [p3, p4]
 refine ov 84 (.bool true) ?_
 simp only [p3, p4]
 refine ov 85 (.bool true) ?_
 simp only [p3, p4]
 refine ov 86 (.bool true) ?_
 simp only [p3, p4]
 refine ov 87 (.bool true) ?_
 simp only [p3, p4]
 refine ov 4 (.bool true) ?_
 simp only [p3, p4]
 refine ord_nil ?_
 refine k56 _ _ ?_
 try clear k56 K56
 refine wp_ret ?_
 refine bodyPost_ret (v := (.bool true)) (ret_tmp rfl rfl) rfl ⟨?_, hB⟩
 exact rfl

set_option maxRecDepth 100000 in
set_option maxHeartbeats 8000000 in
theorem vinl_1 (n1 n2 n3 : Int) (jn1 : -9223372036854775808 ≤ n1 ∧ n1 ≤ 9223372036854775807) (jn2 : -9223372036854775808 ≤ n2 ∧ n2 ≤ 9223372036854775807) (jn3 : -9223372036854775808 ≤ n3 ∧ n3 ≤ 9223372036854775807) (ia1 ia2 ia3 da : Int) (ja1 : -128 ≤ ia1 ∧ ia1 ≤ 127) (ja2 : -128 ≤ ia2 ∧ ia2 ≤ 127) (ja3 : -128 ≤ ia3 ∧ ia3 ≤ 127) (jda : 0 ≤ da ∧ da ≤ 255) (a1 a2 a3 : Rat) (ea1 : a1 = ((ia1 : Int) : Rat) / ((1 + da % 6 : Int) : Rat)) (ea2 : a2 = ((ia2 : Int) : Rat) / ((1 + da % 6 : Int) : Rat)) (ea3 : a3 = ((ia3 : Int) : Rat) / ((1 + da % 6 : Int) : Rat)) (t1 : (Int.tmod (ia1) (1 + (da % 6)) == (0 : Int)) = true) (t2 : (Int.tmod (ia2) (1 + (da % 6)) == (0 : Int)) = false) (w : World) (ht : Tab w) (hm : Mx w) :
    Calls Tryz.prog 11 #[(.agg #[(.int .i64 (n1)), (.int .i64 (n2)), (.int .i64 (n3))]), (.agg #[(.int .i8 (ia1)), (.int .i8 (ia2)), (.int .i8 (ia3)), (.int .u8 (da))])] w fun e w' => e = .returned (.bool true) ∧ Gr w w' := by
 have ha1 : RS 16 a1 := small_rs ja1 jda ea1
 have ha2 : RS 16 a2 := small_rs ja2 jda ea2
 have ha3 : RS 16 a3 := small_rs ja3 jda ea3
 have f1 : fitsQ (a1) = true := by rw [fits_small ja1 jda ea1]; exact t1
 have f2 : fitsQ (a2) = false := by rw [fits_small ja2 jda ea2]; exact t2
 go_enter Tryz.func11, Tryz.ntmps11
 have hB := Gr.refl w
 refine wp_seq_k (fun K1 k1 => ?_)
 refine rg [0, 1, 2] ?_
 refine se ?_
 refine eb 45 #[(.int .i64 (n1)), (.int .i64 (n2)), (.int .i64 (n3))] 2 hB fun b2 w2 g2 L2 o2 q2 hB => ?_
 simp only [p3, p4]
 refine se ?_
 refine eb 42 #[(.int .i8 (ia1)), (.int .i8 (ia2)), (.int .i8 (ia3)), (.int .u8 (da))] 3 hB fun b3 w3 g3 L3 o3 q3 hB => ?_
 simp only [p3, p4]
 refine sv 4 (.bool false) ?_
 simp only [p3, p4]
 refine sq_nil ?_
 refine k1 _ _ ?_
 try clear k1 K1
 refine wp_seq_k (fun K4 k4 => ?_)
 refine wp_seq_k (fun K5 k5 => ?_)
 have gd16 := Gr.drew w3
 replace hB := hB.trans gd16
 replace L2 := L2.gr (g3.trans gd16)
 refine wp_region_ord (fun w' => Lc w' b2 #[(.int .i64 (n1)), (.int .i64 (n2)), (.int .i64 (n3))] 45) [(false, 0), (true, 1), (true, 2), (true, 3), (true, 5), (false, 4), (false, 6), (false, 7), (true, 8), (true, 9)] (by kernel_rfl) (by kernel_rfl) (by kernel_rfl) (by decide) (fun _ _ _ _ _ h => h) L2 ?_
 refine oe ?_
 refine ec 11 (known3 _ (ht.gr hB) (hm.gr hB)) ?_
 rintro e18 w18 ⟨rfl, g18⟩
 refine ⟨_, rfl, ?_⟩
 replace hB := hB.trans g18
 replace L2 := L2.gr g18
 refine ⟨L2, ?_⟩
 simp only [p3, p4]
 refine ov 12 (.bool false) ?_
 simp only [p3, p4]
 refine ov 13 (.bool false) ?_
 simp only [p3, p4]
 refine ow 14 (.agg #[(.int .i64 (n1)), (.int .i64 (n2)), (.int .i64 (n3))]) rfl (fun w' hS => (rl 45 0 [(.int .i64 (n1)), (.int .i64 (n2)), (.int .i64 (n3))] hS)) ?_
 simp only [p3, p4]
 refine ow 16 (.agg #[(.int .i64 (n1)), (.int .i64 (n2)), (.int .i64 (n3))]) rfl (fun w' hS => (rl 45 0 [(.int .i64 (n1)), (.int .i64 (n2)), (.int .i64 (n3))] hS)) ?_
 simp only [p3, p4]
 refine oe ?_
 refine ec 15 (vof_v (n1) (n2) (n3) (by omega) (by omega) (by omega) _) ?_
 rintro e20 w20 ⟨⟨t20_0, t20_1, t20_2, t20_3, t20_4, t20_5, t20_6, t20_7, t20_8, t20_9, t20_10, t20_11, rfl, h20a, h20b, h20c⟩, g20⟩
 refine ⟨_, rfl, ?_⟩
 replace hB := hB.trans g20
 replace L2 := L2.gr g20
 refine ⟨L2, ?_⟩
 simp only [p3, p4]
 refine oe ?_
 refine ec 17 (r3_of (n1) (n2) (n3) (by omega) (by omega) (by omega) _) ?_
 rintro e22 w22 ⟨rfl, g22⟩
 refine ⟨_, rfl, ?_⟩
 replace hB := hB.trans g22
 replace L2 := L2.gr g22
 refine ⟨L2, ?_⟩
 simp only [p3, p4]
 refine oe ?_
 replace h20a := h20a.kp g22.kp
 replace h20b := h20b.kp g22.kp
 replace h20c := h20c.kp g22.kp
 refine ec 18 (is_v (ratL (((n1 : Int) : Rat))) (ratL (((n2 : Int) : Rat))) (ratL (((n3 : Int) : Rat))) h20a h20b h20c (by omega) (ht.gr hB)) ?_
 rintro e24 w24 ⟨rfl, g24⟩
 refine ⟨_, rfl, ?_⟩
 replace hB := hB.trans g24
 replace L2 := L2.gr g24
 refine ⟨L2, ?_⟩
 simp only [p3, p4]
 have hb25 : (sEq [ratL ((((n1 : Int) : Rat))), ratL ((((n2 : Int) : Rat))), ratL ((((n3 : Int) : Rat)))] [ratL (((n1 : Int) : Rat)), ratL (((n2 : Int) : Rat)), ratL (((n3 : Int) : Rat))]) = true := (lawVi0 ((n1 : Int) : Rat) ((n2 : Int) : Rat) ((n3 : Int) : Rat) )
 refine ow 19 (.bool false) rfl (fun w' hS => (RunV.bool (x := !(sEq [ratL ((((n1 : Int) : Rat))), ratL ((((n2 : Int) : Rat))), ratL ((((n3 : Int) : Rat)))] [ratL (((n1 : Int) : Rat)), ratL (((n2 : Int) : Rat)), ratL (((n3 : Int) : Rat))])) (rvk (by kernel_rfl)) (show (!(sEq [ratL ((((n1 : Int) : Rat))), ratL ((((n2 : Int) : Rat))), ratL ((((n3 : Int) : Rat)))] [ratL (((n1 : Int) : Rat)), ratL (((n2 : Int) : Rat)), ratL (((n3 : Int) : Rat))])) = false by rw [hb25]; rfl))) ?_
 simp only [p3, p4]
 refine ov 20 (.bool false) ?_
 simp only [p3, p4]
 refine ord_nil ?_
 refine k5 _ _ ?_
 try clear k5 K5
 refine wp_cond_false rfl ?_
 refine wp_skip ?_
 refine k4 _ _ ?_
 try clear k4 K4
 refine wp_seq_k (fun K26 k26 => ?_)
 refine rg [0, 1, 2, 3, 4, 5, 6, 7, 8] ?_
 refine sw 22 (.agg #[(.int .i64 (n1)), (.int .i64 (n2)), (.int .i64 (n3))]) rfl (rl 45 0 [(.int .i64 (n1)), (.int .i64 (n2)), (.int .i64 (n3))] L2) ?_
 simp only [p3, p4]
 refine se ?_
 refine ec 23 (vof_v (n1) (n2) (n3) (by omega) (by omega) (by omega) _) ?_
 rintro e27 w27 ⟨⟨t27_0, t27_1, t27_2, t27_3, t27_4, t27_5, t27_6, t27_7, t27_8, t27_9, t27_10, t27_11, rfl, h27a, h27b, h27c⟩, g27⟩
 refine ⟨_, rfl, ?_⟩
 replace hB := hB.trans g27
 simp only [p3, p4]
 refine se ?_
 refine ec 24 (vints_z jn1 jn2 jn3 h27a h27b h27c (by omega)) ?_
 rintro e28 w28 ⟨rfl, g28⟩
 refine ⟨_, rfl, ?_⟩
 replace hB := hB.trans g28
 simp only [p3, p4]
 refine sv 21 (.tuple #[(.agg #[(.int .i64 (n1)), (.int .i64 (n2)), (.int .i64 (n3))]), (.int .i64 0)]) ?_
 simp only [p3, p4]
 refine sv 25 (.agg #[(.int .i64 (n1)), (.int .i64 (n2)), (.int .i64 (n3))]) ?_
 simp only [p3, p4]
 refine sv 26 (.int .i64 0) ?_
 simp only [p3, p4]
 refine se ?_
 refine ea 45 #[(.int .i64 0), (.int .i64 0), (.int .i64 0)] 5 hB fun b29 w29 g29 L29 o29 q29 hB => ?_
 replace L2 := L2.gr (g27.trans g28)
 have ne2_29 := L2.ne o29
 replace L3 := L3.gr (gd16.trans (g18.trans (g20.trans (g22.trans (g24.trans (g27.trans g28))))))
 have ne3_29 := L3.ne o29
 simp only [p3, p4]
 refine se ?_
 refine es 45 0 (.agg #[(.int .i64 (n1)), (.int .i64 (n2)), (.int .i64 (n3))]) [(.int .i64 (n1)), (.int .i64 (n2)), (.int .i64 (n3))] #[(.int .i64 (n1)), (.int .i64 (n2)), (.int .i64 (n3))] L29 hB q29 ⟨rfl, rfl, rfl, trivial⟩ fun w30 st30 kp30 L29 hB => ?_
 refine sv 6 (.int .i64 0) ?_
 simp only [p3, p4]
 refine sq_nil ?_
 refine k26 _ _ ?_
 try clear k26 K26
 refine wp_seq_k (fun K31 k31 => ?_)
 refine rg [0, 1, 2, 3, 4, 5, 6, 7, 8] ?_
 replace L3 := st30.lc (L3.gr g29) ne3_29
 refine sw 28 (.agg #[(.int .i8 (ia1)), (.int .i8 (ia2)), (.int .i8 (ia3)), (.int .u8 (da))]) rfl (rl 42 0 [(.int .i8 (ia1)), (.int .i8 (ia2)), (.int .i8 (ia3)), (.int .u8 (da))] L3) ?_
 simp only [p3, p4]
 refine se ?_
 refine ec 29 (made_v ia1 ia2 ia3 da ja1 ja2 ja3 jda a1 a2 a3 ea1 ea2 ea3 _ (hm.gr hB)) ?_
 rintro e32 w32 ⟨⟨t32_0, t32_1, t32_2, t32_3, t32_4, t32_5, t32_6, t32_7, t32_8, t32_9, t32_10, t32_11, rfl, h32a, h32b, h32c⟩, g32⟩
 refine ⟨_, rfl, ?_⟩
 replace hB := hB.trans g32
 simp only [p3, p4]
 refine se ?_
 refine ec 30 (vints_1 f1 f2 h32a h32b h32c (by omega)) ?_
 rintro e33 w33 ⟨rfl, g33⟩
 refine ⟨_, rfl, ?_⟩
 replace hB := hB.trans g33
 simp only [p3, p4]
 refine sv 27 (.tuple #[(.agg #[(.int .i64 0), (.int .i64 0), (.int .i64 0)]), (.int .i64 3)]) ?_
 simp only [p3, p4]
 refine sv 31 (.agg #[(.int .i64 0), (.int .i64 0), (.int .i64 0)]) ?_
 simp only [p3, p4]
 refine sv 32 (.int .i64 3) ?_
 simp only [p3, p4]
 refine se ?_
 refine ea 45 #[(.int .i64 0), (.int .i64 0), (.int .i64 0)] 7 hB fun b34 w34 g34 L34 o34 q34 hB => ?_
 replace L2 := (st30.lc (L2.gr g29) ne2_29).gr (g32.trans g33)
 have ne2_34 := L2.ne o34
 replace L3 := L3.gr (g32.trans g33)
 have ne3_34 := L3.ne o34
 replace L29 := L29.gr (g32.trans g33)
 have ne29_34 := L29.ne o34
 simp only [p3, p4]
 refine se ?_
 refine es 45 0 (.agg #[(.int .i64 0), (.int .i64 0), (.int .i64 0)]) [(.int .i64 0), (.int .i64 0), (.int .i64 0)] #[(.int .i64 0), (.int .i64 0), (.int .i64 0)] L34 hB q34 ⟨rfl, rfl, rfl, trivial⟩ fun w35 st35 kp35 L34 hB => ?_
 refine sv 8 (.int .i64 3) ?_
 simp only [p3, p4]
 refine sq_nil ?_
 refine k31 _ _ ?_
 try clear k31 K31
 refine wp_seq_k (fun K36 k36 => ?_)
 refine rg [0] ?_
 refine sv 9 (.bool true) ?_
 simp only [p3, p4]
 refine sq_nil ?_
 refine k36 _ _ ?_
 try clear k36 K36
 refine wp_seq_k (fun K37 k37 => ?_)
 refine wp_seq_k (fun K38 k38 => ?_)
 refine rg [0] ?_
 refine sv 10 (.int .i64 0) ?_
 simp only [p3, p4]
 refine sq_nil ?_
 refine k38 _ _ ?_
 try clear k38 K38
 refine wp_block ?_
 refine wp_loop_rounds 4 ?_
 show Code.wp _ _ _ _ _
 refine wp_seq_k (fun K39 k39 => ?_)
 refine wp_seq_k (fun K40 k40 => ?_)
 refine rg [0, 1] ?_
 refine sv 33 (.int .i64 0) ?_
 simp only [p3, p4]
 refine sv 34 (.bool true) ?_
 simp only [p3, p4]
 refine sq_nil ?_
 refine k40 _ _ ?_
 try clear k40 K40
 refine wp_cond_true rfl ?_
 refine wp_skip ?_
 refine k39 _ _ ?_
 try clear k39 K39
 refine wp_seq_k (fun K41 k41 => ?_)
 refine wp_block ?_
 have gd43 := Gr.drew w35
 replace hB := hB.trans gd43
 replace L3 := (st35.lc (L3.gr g34) ne3_34).gr gd43
 refine wp_region_ord (fun w' => Lc w' b3 #[(.int .i8 (ia1)), (.int .i8 (ia2)), (.int .i8 (ia3)), (.int .u8 (da))] 42) [(true, 0), (true, 1), (true, 2), (true, 3), (true, 4), (true, 5), (true, 6), (true, 7), (true, 8), (true, 9), (true, 10), (true, 11), (true, 12), (true, 13), (true, 14), (true, 15)] (by kernel_rfl) (by kernel_rfl) (by kernel_rfl) (by decide) (fun _ _ _ _ _ h => h) L3 ?_
 refine ov 37 (.bool true) ?_
 simp only [p3, p4]
 refine ov 38 (.bool true) ?_
 simp only [p3, p4]
 refine ov 39 (.int .i64 0) ?_
 simp only [p3, p4]
 refine ov 40 (.pointer (some ⟨b3, 0, none⟩)) ?_
 simp only [p3, p4]
 refine ov 41 (.pointer (some ⟨b3, 0, none⟩)) ?_
 simp only [p3, p4]
 refine ow 42 (.int .i8 (ia1)) rfl (fun w' hS => (rk 39 0 hS)) ?_
 simp only [p3, p4]
 refine ow 43 (.int .i64 (ia1)) rfl (fun w' hS => (RunV.int (x := IntKind.i64.wrap (ia1)) (y := ia1) (rvk (by kernel_rfl)) (by first | rfl | (rw [IntKind.wrap_i64]; omega)))) ?_
 simp only [p3, p4]
 refine ov 44 (.pointer (some ⟨b3, 3, none⟩)) ?_
 simp only [p3, p4]
 refine ow 45 (.int .u8 (da)) rfl (fun w' hS => (rk 5 3 hS)) ?_
 simp only [p3, p4]
 refine ow 46 (.int .u8 ((da % 6))) rfl (fun w' hS => (RunV.int (x := Int.tmod (da) 6) (y := da % 6) (rvk (by kernel_rfl)) (by rw [Int.tmod_eq_emod_of_nonneg (by first | omega | exact Int.natCast_nonneg _)]))) ?_
 simp only [p3, p4]
 refine ow 47 (.int .i64 ((da % 6))) rfl (fun w' hS => (RunV.int (x := IntKind.i64.wrap ((da % 6))) (y := (da % 6)) (rvk (by kernel_rfl)) (by first | rfl | (rw [IntKind.wrap_i64]; omega)))) ?_
 simp only [p3, p4]
 refine ow 48 (.int .i64 ((1 + (da % 6)))) rfl (fun w' hS => (RunV.int (x := IntKind.i64.wrap ((1 + (da % 6)))) (y := (1 + (da % 6))) (rvk (by kernel_rfl)) (by first | rfl | (rw [IntKind.wrap_i64]; omega)))) ?_
 simp only [p3, p4]
 refine ow 49 (.int .i64 (Int.tmod (ia1) ((1 + (da % 6))))) rfl (fun w' hS => (rv_remt 3 3 _ _ _ _ rfl rfl rfl (by omega))) ?_
 simp only [p3, p4]
 refine ow 50 (.bool true) rfl (fun w' hS => (RunV.bool (x := (Int.tmod (ia1) ((1 + (da % 6))) == (0 : Int))) (rvk (by kernel_rfl)) t1)) ?_
 simp only [p3, p4]
 refine ov 51 (.bool true) ?_
 simp only [p3, p4]
 refine ov 9 (.bool true) ?_
 simp only [p3, p4]
 refine ord_nil ?_
 refine k41 _ _ ?_
 try clear k41 K41
 refine rg [0, 1, 2] ?_
 refine sv 35 (.int .i64 0) ?_
 simp only [p3, p4]
 refine sv 36 (.int .i64 1) ?_
 simp only [p3, p4]
 refine sv 10 (.int .i64 1) ?_
 simp only [p3, p4]
 refine sq_nil ?_
 show Code.rounds _ _ _ _ _ _
 show Code.wp _ _ _ _ _
 refine wp_seq_k (fun K44 k44 => ?_)
 refine wp_seq_k (fun K45 k45 => ?_)
 refine rg [0, 1] ?_
 refine sv 33 (.int .i64 1) ?_
 simp only [p3, p4]
 refine sv 34 (.bool true) ?_
 simp only [p3, p4]
 refine sq_nil ?_
 refine k45 _ _ ?_
 try clear k45 K45
 refine wp_cond_true rfl ?_
 refine wp_skip ?_
 refine k44 _ _ ?_
 try clear k44 K44
 refine wp_seq_k (fun K46 k46 => ?_)
 refine wp_block ?_
 have gd48 := Gr.drew (w35.drew)
 replace hB := hB.trans gd48
 replace L3 := L3.gr gd48
 refine wp_region_ord (fun w' => Lc w' b3 #[(.int .i8 (ia1)), (.int .i8 (ia2)), (.int .i8 (ia3)), (.int .u8 (da))] 42) [(true, 0), (true, 1), (true, 2), (true, 3), (true, 4), (true, 5), (true, 6), (true, 7), (true, 8), (true, 9), (true, 10), (true, 11), (true, 12), (true, 13), (true, 14), (true, 15)] (by kernel_rfl) (by kernel_rfl) (by kernel_rfl) (by decide) (fun _ _ _ _ _ h => h) L3 ?_
 refine ov 37 (.bool true) ?_
 simp only [p3, p4]
 refine ov 38 (.bool true) ?_
 simp only [p3, p4]
 refine ov 39 (.int .i64 1) ?_
 simp only [p3, p4]
 refine ov 40 (.pointer (some ⟨b3, 0, none⟩)) ?_
 simp only [p3, p4]
 refine ov 41 (.pointer (some ⟨b3, 1, none⟩)) ?_
 simp only [p3, p4]
 refine ow 42 (.int .i8 (ia2)) rfl (fun w' hS => (rk 39 1 hS)) ?_
 simp only [p3, p4]
 refine ow 43 (.int .i64 (ia2)) rfl (fun w' hS => (RunV.int (x := IntKind.i64.wrap (ia2)) (y := ia2) (rvk (by kernel_rfl)) (by first | rfl | (rw [IntKind.wrap_i64]; omega)))) ?_
 simp only [p3, p4]
 refine ov 44 (.pointer (some ⟨b3, 3, none⟩)) ?_
 simp only [p3, p4]
 refine ow 45 (.int .u8 (da)) rfl (fun w' hS => (rk 5 3 hS)) ?_
 simp only [p3, p4]
 refine ow 46 (.int .u8 ((da % 6))) rfl (fun w' hS => (RunV.int (x := Int.tmod (da) 6) (y := da % 6) (rvk (by kernel_rfl)) (by rw [Int.tmod_eq_emod_of_nonneg (by first | omega | exact Int.natCast_nonneg _)]))) ?_
 simp only [p3, p4]
 refine ow 47 (.int .i64 ((da % 6))) rfl (fun w' hS => (RunV.int (x := IntKind.i64.wrap ((da % 6))) (y := (da % 6)) (rvk (by kernel_rfl)) (by first | rfl | (rw [IntKind.wrap_i64]; omega)))) ?_
 simp only [p3, p4]
 refine ow 48 (.int .i64 ((1 + (da % 6)))) rfl (fun w' hS => (RunV.int (x := IntKind.i64.wrap ((1 + (da % 6)))) (y := (1 + (da % 6))) (rvk (by kernel_rfl)) (by first | rfl | (rw [IntKind.wrap_i64]; omega)))) ?_
 simp only [p3, p4]
 refine ow 49 (.int .i64 (Int.tmod (ia2) ((1 + (da % 6))))) rfl (fun w' hS => (rv_remt 3 3 _ _ _ _ rfl rfl rfl (by omega))) ?_
 simp only [p3, p4]
 refine ow 50 (.bool false) rfl (fun w' hS => (RunV.bool (x := (Int.tmod (ia2) ((1 + (da % 6))) == (0 : Int))) (rvk (by kernel_rfl)) t2)) ?_
 simp only [p3, p4]
 refine ov 51 (.bool false) ?_
 simp only [p3, p4]
 refine ov 9 (.bool false) ?_
 simp only [p3, p4]
 refine ord_nil ?_
 refine k46 _ _ ?_
 try clear k46 K46
 refine rg [0, 1, 2] ?_
 refine sv 35 (.int .i64 1) ?_
 simp only [p3, p4]
 refine sv 36 (.int .i64 2) ?_
 simp only [p3, p4]
 refine sv 10 (.int .i64 2) ?_
 simp only [p3, p4]
 refine sq_nil ?_
 show Code.rounds _ _ _ _ _ _
 show Code.wp _ _ _ _ _
 refine wp_seq_k (fun K49 k49 => ?_)
 refine wp_seq_k (fun K50 k50 => ?_)
 refine rg [0, 1] ?_
 refine sv 33 (.int .i64 2) ?_
 simp only [p3, p4]
 refine sv 34 (.bool true) ?_
 simp only [p3, p4]
 refine sq_nil ?_
 refine k50 _ _ ?_
 try clear k50 K50
 refine wp_cond_true rfl ?_
 refine wp_skip ?_
 refine k49 _ _ ?_
 try clear k49 K49
 refine wp_seq_k (fun K51 k51 => ?_)
 refine wp_block ?_
 have gd53 := Gr.drew ((w35.drew).drew)
 replace hB := hB.trans gd53
 replace L3 := L3.gr gd53
 refine wp_region_ord (fun w' => Lc w' b3 #[(.int .i8 (ia1)), (.int .i8 (ia2)), (.int .i8 (ia3)), (.int .u8 (da))] 42) [(true, 0), (true, 1), (true, 2), (true, 3), (true, 4), (true, 5), (true, 6), (true, 7), (true, 8), (true, 9), (true, 10), (true, 11), (true, 12), (true, 13), (true, 14), (true, 15)] (by kernel_rfl) (by kernel_rfl) (by kernel_rfl) (by decide) (fun _ _ _ _ _ h => h) L3 ?_
 refine ov 37 (.bool false) ?_
 simp only [p3, p4]
 refine ov 38 (.bool false) ?_
 simp only [p3, p4]
 refine os 39 ?_
 simp only [p3, p4]
 refine os 40 ?_
 simp only [p3, p4]
 refine os 41 ?_
 simp only [p3, p4]
 refine os 42 ?_
 simp only [p3, p4]
 refine os 43 ?_
 simp only [p3, p4]
 refine os 44 ?_
 simp only [p3, p4]
 refine os 45 ?_
 simp only [p3, p4]
 refine os 46 ?_
 simp only [p3, p4]
 refine os 47 ?_
 simp only [p3, p4]
 refine os 48 ?_
 simp only [p3, p4]
 refine os 49 ?_
 simp only [p3, p4]
 refine os 50 ?_
 simp only [p3, p4]
 refine ov 51 (.bool false) ?_
 simp only [p3, p4]
 refine ov 9 (.bool false) ?_
 simp only [p3, p4]
 refine ord_nil ?_
 refine k51 _ _ ?_
 try clear k51 K51
 refine rg [0, 1, 2] ?_
 refine sv 35 (.int .i64 2) ?_
 simp only [p3, p4]
 refine sv 36 (.int .i64 3) ?_
 simp only [p3, p4]
 refine sv 10 (.int .i64 3) ?_
 simp only [p3, p4]
 refine sq_nil ?_
 show Code.rounds _ _ _ _ _ _
 show Code.wp _ _ _ _ _
 refine wp_seq_k (fun K54 k54 => ?_)
 refine wp_seq_k (fun K55 k55 => ?_)
 refine rg [0, 1] ?_
 refine sv 33 (.int .i64 3) ?_
 simp only [p3, p4]
 refine sv 34 (.bool false) ?_
 simp only [p3, p4]
 refine sq_nil ?_
 refine k55 _ _ ?_
 try clear k55 K55
 refine wp_cond_false rfl ?_
 refine wp_exit ?_
 simp only [Exit.then, Exit.inBlock, ↓reduceIte]
 refine k37 _ _ ?_
 try clear k37 K37
 refine wp_seq_k (fun K56 k56 => ?_)
 have gd59 := Gr.drew (((w35.drew).drew).drew)
 replace hB := hB.trans gd59
 replace L2 := (st35.lc (L2.gr g34) ne2_34).gr (gd43.trans (gd48.trans (gd53.trans gd59)))
 replace L3 := L3.gr gd59
 replace L29 := (st35.lc (L29.gr g34) ne29_34).gr (gd43.trans (gd48.trans (gd53.trans gd59)))
 replace L34 := L34.gr (gd43.trans (gd48.trans (gd53.trans gd59)))
 refine wp_region_ord (fun w' => Lc w' b2 #[(.int .i64 (n1)), (.int .i64 (n2)), (.int .i64 (n3))] 45 ∧ Lc w' b3 #[(.int .i8 (ia1)), (.int .i8 (ia2)), (.int .i8 (ia3)), (.int .u8 (da))] 42 ∧ Lc w' b29 #[(.int .i64 (n1)), (.int .i64 (n2)), (.int .i64 (n3))] 45 ∧ Lc w' b34 #[(.int .i64 0), (.int .i64 0), (.int .i64 0)] 45) [(true, 0), (true, 1), (true, 2), (true, 3), (true, 4), (true, 5), (true, 6), (true, 7), (true, 8), (true, 9), (true, 10), (true, 11), (true, 12), (true, 13), (true, 14), (true, 15), (true, 16), (true, 18), (false, 17), (false, 19), (false, 20), (true, 21), (true, 22), (true, 23), (true, 24), (true, 25), (true, 26), (true, 27), (true, 28), (true, 29), (true, 30), (true, 31), (true, 32), (true, 33), (true, 34), (true, 35), (true, 36)] (by kernel_rfl) (by kernel_rfl) (by kernel_rfl) (by decide) (fun _ _ _ _ _ h => h) ⟨L2, L3, L29, L34⟩ ?_
 refine ov 52 (.int .i64 0) ?_
 simp only [p3, p4]
 refine ov 53 (.bool true) ?_
 simp only [p3, p4]
 refine ov 54 (.bool true) ?_
 simp only [p3, p4]
 refine ow 55 (.agg #[(.int .i64 (n1)), (.int .i64 (n2)), (.int .i64 (n3))]) rfl (fun w' hS => (rl 45 0 [(.int .i64 (n1)), (.int .i64 (n2)), (.int .i64 (n3))] hS.2.2.1)) ?_
 simp only [p3, p4]
 refine ow 56 (.agg #[(.int .i64 (n1)), (.int .i64 (n2)), (.int .i64 (n3))]) rfl (fun w' hS => (rl 45 0 [(.int .i64 (n1)), (.int .i64 (n2)), (.int .i64 (n3))] hS.1)) ?_
 simp only [p3, p4]
 have hb60 : ((n1 == n1 && n2 == n2 && n3 == n3)) = true := (by simp)
 refine ow 57 (.bool true) rfl (fun w' hS => (RunV.bool (x := (n1 == n1 && n2 == n2 && n3 == n3)) (rv_arreq 45 45 3 (k := .i64) _ _ [n1, n2, n3] [n1, n2, n3] rfl rfl rfl (by kernel_rfl) (by kernel_rfl) (by kernel_rfl)) hb60)) ?_
 simp only [p3, p4]
 refine ov 58 (.bool true) ?_
 simp only [p3, p4]
 refine ov 59 (.bool true) ?_
 simp only [p3, p4]
 refine ov 60 (.int .i64 3) ?_
 simp only [p3, p4]
 refine ov 61 (.bool false) ?_
 simp only [p3, p4]
 refine ov 62 (.bool false) ?_
 simp only [p3, p4]
 refine ov 63 (.bool true) ?_
 simp only [p3, p4]
 refine ov 64 (.bool true) ?_
 simp only [p3, p4]
 refine ov 65 (.bool true) ?_
 simp only [p3, p4]
 refine ov 66 (.bool false) ?_
 simp only [p3, p4]
 refine ov 67 (.bool false) ?_
 simp only [p3, p4]
 refine os 68 ?_
 simp only [p3, p4]
 refine os 70 ?_
 simp only [p3, p4]
 refine oz 69 ⟨L2, L3, L29, L34⟩ ?_
 simp only [p3, p4]
 refine oz 71 ⟨L2, L3, L29, L34⟩ ?_
 simp only [p3, p4]
 refine oz 72 ⟨L2, L3, L29, L34⟩ ?_
 simp only [p3, p4]
 refine ov 73 (.bool false) ?_
 simp only [p3, p4]
 refine ov 74 (.bool false) ?_
 simp only [p3, p4]
 refine ov 75 (.bool false) ?_
 simp only [p3, p4]
 refine ov 76 (.bool true) ?_
 simp only [p3, p4]
 refine ov 77 (.bool true) ?_
 simp only [p3, p4]
 refine ov 78 (.int .i64 3) ?_
 simp only [p3, p4]
 refine ov 79 (.bool true) ?_
 simp only [p3, p4]
 refine ov 80 (.bool true) ?_
 simp only [p3, p4]
 refine ov 81 (.bool true) ?_
 simp only [p3, p4]
 refine ow 82 (.agg #[(.int .i64 0), (.int .i64 0), (.int .i64 0)]) rfl (fun w' hS => (rl 45 0 [(.int .i64 0), (.int .i64 0), (.int .i64 0)] hS.2.2.2)) ?_
 simp only [p3, p4]
 refine ov 83 (.agg #[(.int .i64 0), (.int .i64 0), (.int .i64 0)]) ?_
 simp only [p3, p4]
 refine ov 84 (.bool true) ?_
 simp only [p3, p4]
 refine ov 85 (.bool true) ?_
 simp only [p3, p4]
 refine ov 86 (.bool true) ?_
 simp only [p3, p4]
 refine ov 87 (.bool true) ?_
 simp only [p3, p4]
 refine ov 4 (.bool true) ?_
 simp only [p3, p4]
 refine ord_nil ?_
 refine k56 _ _ ?_
 try clear k56 K56
 refine wp_ret ?_
 refine bodyPost_ret (v := (.bool true)) (ret_tmp rfl rfl) rfl ⟨?_, hB⟩
 exact rfl

set_option maxRecDepth 100000 in
set_option maxHeartbeats 8000000 in
theorem vinl_2 (n1 n2 n3 : Int) (jn1 : -9223372036854775808 ≤ n1 ∧ n1 ≤ 9223372036854775807) (jn2 : -9223372036854775808 ≤ n2 ∧ n2 ≤ 9223372036854775807) (jn3 : -9223372036854775808 ≤ n3 ∧ n3 ≤ 9223372036854775807) (ia1 ia2 ia3 da : Int) (ja1 : -128 ≤ ia1 ∧ ia1 ≤ 127) (ja2 : -128 ≤ ia2 ∧ ia2 ≤ 127) (ja3 : -128 ≤ ia3 ∧ ia3 ≤ 127) (jda : 0 ≤ da ∧ da ≤ 255) (a1 a2 a3 : Rat) (ea1 : a1 = ((ia1 : Int) : Rat) / ((1 + da % 6 : Int) : Rat)) (ea2 : a2 = ((ia2 : Int) : Rat) / ((1 + da % 6 : Int) : Rat)) (ea3 : a3 = ((ia3 : Int) : Rat) / ((1 + da % 6 : Int) : Rat)) (t1 : (Int.tmod (ia1) (1 + (da % 6)) == (0 : Int)) = true) (t2 : (Int.tmod (ia2) (1 + (da % 6)) == (0 : Int)) = true) (t3 : (Int.tmod (ia3) (1 + (da % 6)) == (0 : Int)) = false) (w : World) (ht : Tab w) (hm : Mx w) :
    Calls Tryz.prog 11 #[(.agg #[(.int .i64 (n1)), (.int .i64 (n2)), (.int .i64 (n3))]), (.agg #[(.int .i8 (ia1)), (.int .i8 (ia2)), (.int .i8 (ia3)), (.int .u8 (da))])] w fun e w' => e = .returned (.bool true) ∧ Gr w w' := by
 have ha1 : RS 16 a1 := small_rs ja1 jda ea1
 have ha2 : RS 16 a2 := small_rs ja2 jda ea2
 have ha3 : RS 16 a3 := small_rs ja3 jda ea3
 have f1 : fitsQ (a1) = true := by rw [fits_small ja1 jda ea1]; exact t1
 have f2 : fitsQ (a2) = true := by rw [fits_small ja2 jda ea2]; exact t2
 have f3 : fitsQ (a3) = false := by rw [fits_small ja3 jda ea3]; exact t3
 go_enter Tryz.func11, Tryz.ntmps11
 have hB := Gr.refl w
 refine wp_seq_k (fun K1 k1 => ?_)
 refine rg [0, 1, 2] ?_
 refine se ?_
 refine eb 45 #[(.int .i64 (n1)), (.int .i64 (n2)), (.int .i64 (n3))] 2 hB fun b2 w2 g2 L2 o2 q2 hB => ?_
 simp only [p3, p4]
 refine se ?_
 refine eb 42 #[(.int .i8 (ia1)), (.int .i8 (ia2)), (.int .i8 (ia3)), (.int .u8 (da))] 3 hB fun b3 w3 g3 L3 o3 q3 hB => ?_
 simp only [p3, p4]
 refine sv 4 (.bool false) ?_
 simp only [p3, p4]
 refine sq_nil ?_
 refine k1 _ _ ?_
 try clear k1 K1
 refine wp_seq_k (fun K4 k4 => ?_)
 refine wp_seq_k (fun K5 k5 => ?_)
 have gd16 := Gr.drew w3
 replace hB := hB.trans gd16
 replace L2 := L2.gr (g3.trans gd16)
 refine wp_region_ord (fun w' => Lc w' b2 #[(.int .i64 (n1)), (.int .i64 (n2)), (.int .i64 (n3))] 45) [(false, 0), (true, 1), (true, 2), (true, 3), (true, 5), (false, 4), (false, 6), (false, 7), (true, 8), (true, 9)] (by kernel_rfl) (by kernel_rfl) (by kernel_rfl) (by decide) (fun _ _ _ _ _ h => h) L2 ?_
 refine oe ?_
 refine ec 11 (known3 _ (ht.gr hB) (hm.gr hB)) ?_
 rintro e18 w18 ⟨rfl, g18⟩
 refine ⟨_, rfl, ?_⟩
 replace hB := hB.trans g18
 replace L2 := L2.gr g18
 refine ⟨L2, ?_⟩
 simp only [p3, p4]
 refine ov 12 (.bool false) ?_
 simp only [p3, p4]
 refine ov 13 (.bool false) ?_
 simp only [p3, p4]
 refine ow 14 (.agg #[(.int .i64 (n1)), (.int .i64 (n2)), (.int .i64 (n3))]) rfl (fun w' hS => (rl 45 0 [(.int .i64 (n1)), (.int .i64 (n2)), (.int .i64 (n3))] hS)) ?_
 simp only [p3, p4]
 refine ow 16 (.agg #[(.int .i64 (n1)), (.int .i64 (n2)), (.int .i64 (n3))]) rfl (fun w' hS => (rl 45 0 [(.int .i64 (n1)), (.int .i64 (n2)), (.int .i64 (n3))] hS)) ?_
 simp only [p3, p4]
 refine oe ?_
 refine ec 15 (vof_v (n1) (n2) (n3) (by omega) (by omega) (by omega) _) ?_
 rintro e20 w20 ⟨⟨t20_0, t20_1, t20_2, t20_3, t20_4, t20_5, t20_6, t20_7, t20_8, t20_9, t20_10, t20_11, rfl, h20a, h20b, h20c⟩, g20⟩
 refine ⟨_, rfl, ?_⟩
 replace hB := hB.trans g20
 replace L2 := L2.gr g20
 refine ⟨L2, ?_⟩
 simp only [p3, p4]
 refine oe ?_
 refine ec 17 (r3_of (n1) (n2) (n3) (by omega) (by omega) (by omega) _) ?_
 rintro e22 w22 ⟨rfl, g22⟩
 refine ⟨_, rfl, ?_⟩
 replace hB := hB.trans g22
 replace L2 := L2.gr g22
 refine ⟨L2, ?_⟩
 simp only [p3, p4]
 refine oe ?_
 replace h20a := h20a.kp g22.kp
 replace h20b := h20b.kp g22.kp
 replace h20c := h20c.kp g22.kp
 refine ec 18 (is_v (ratL (((n1 : Int) : Rat))) (ratL (((n2 : Int) : Rat))) (ratL (((n3 : Int) : Rat))) h20a h20b h20c (by omega) (ht.gr hB)) ?_
 rintro e24 w24 ⟨rfl, g24⟩
 refine ⟨_, rfl, ?_⟩
 replace hB := hB.trans g24
 replace L2 := L2.gr g24
 refine ⟨L2, ?_⟩
 simp only [p3, p4]
 have hb25 : (sEq [ratL ((((n1 : Int) : Rat))), ratL ((((n2 : Int) : Rat))), ratL ((((n3 : Int) : Rat)))] [ratL (((n1 : Int) : Rat)), ratL (((n2 : Int) : Rat)), ratL (((n3 : Int) : Rat))]) = true := (lawVi0 ((n1 : Int) : Rat) ((n2 : Int) : Rat) ((n3 : Int) : Rat) )
 refine ow 19 (.bool false) rfl (fun w' hS => (RunV.bool (x := !(sEq [ratL ((((n1 : Int) : Rat))), ratL ((((n2 : Int) : Rat))), ratL ((((n3 : Int) : Rat)))] [ratL (((n1 : Int) : Rat)), ratL (((n2 : Int) : Rat)), ratL (((n3 : Int) : Rat))])) (rvk (by kernel_rfl)) (show (!(sEq [ratL ((((n1 : Int) : Rat))), ratL ((((n2 : Int) : Rat))), ratL ((((n3 : Int) : Rat)))] [ratL (((n1 : Int) : Rat)), ratL (((n2 : Int) : Rat)), ratL (((n3 : Int) : Rat))])) = false by rw [hb25]; rfl))) ?_
 simp only [p3, p4]
 refine ov 20 (.bool false) ?_
 simp only [p3, p4]
 refine ord_nil ?_
 refine k5 _ _ ?_
 try clear k5 K5
 refine wp_cond_false rfl ?_
 refine wp_skip ?_
 refine k4 _ _ ?_
 try clear k4 K4
 refine wp_seq_k (fun K26 k26 => ?_)
 refine rg [0, 1, 2, 3, 4, 5, 6, 7, 8] ?_
 refine sw 22 (.agg #[(.int .i64 (n1)), (.int .i64 (n2)), (.int .i64 (n3))]) rfl (rl 45 0 [(.int .i64 (n1)), (.int .i64 (n2)), (.int .i64 (n3))] L2) ?_
 simp only [p3, p4]
 refine se ?_
 refine ec 23 (vof_v (n1) (n2) (n3) (by omega) (by omega) (by omega) _) ?_
 rintro e27 w27 ⟨⟨t27_0, t27_1, t27_2, t27_3, t27_4, t27_5, t27_6, t27_7, t27_8, t27_9, t27_10, t27_11, rfl, h27a, h27b, h27c⟩, g27⟩
 refine ⟨_, rfl, ?_⟩
 replace hB := hB.trans g27
 simp only [p3, p4]
 refine se ?_
 refine ec 24 (vints_z jn1 jn2 jn3 h27a h27b h27c (by omega)) ?_
 rintro e28 w28 ⟨rfl, g28⟩
 refine ⟨_, rfl, ?_⟩
 replace hB := hB.trans g28
 simp only [p3, p4]
 refine sv 21 (.tuple #[(.agg #[(.int .i64 (n1)), (.int .i64 (n2)), (.int .i64 (n3))]), (.int .i64 0)]) ?_
 simp only [p3, p4]
 refine sv 25 (.agg #[(.int .i64 (n1)), (.int .i64 (n2)), (.int .i64 (n3))]) ?_
 simp only [p3, p4]
 refine sv 26 (.int .i64 0) ?_
 simp only [p3, p4]
 refine se ?_
 refine ea 45 #[(.int .i64 0), (.int .i64 0), (.int .i64 0)] 5 hB fun b29 w29 g29 L29 o29 q29 hB => ?_
 replace L2 := L2.gr (g27.trans g28)
 have ne2_29 := L2.ne o29
 replace L3 := L3.gr (gd16.trans (g18.trans (g20.trans (g22.trans (g24.trans (g27.trans g28))))))
 have ne3_29 := L3.ne o29
 simp only [p3, p4]
 refine se ?_
 refine es 45 0 (.agg #[(.int .i64 (n1)), (.int .i64 (n2)), (.int .i64 (n3))]) [(.int .i64 (n1)), (.int .i64 (n2)), (.int .i64 (n3))] #[(.int .i64 (n1)), (.int .i64 (n2)), (.int .i64 (n3))] L29 hB q29 ⟨rfl, rfl, rfl, trivial⟩ fun w30 st30 kp30 L29 hB => ?_
 refine sv 6 (.int .i64 0) ?_
 simp only [p3, p4]
 refine sq_nil ?_
 refine k26 _ _ ?_
 try clear k26 K26
 refine wp_seq_k (fun K31 k31 => ?_)
 refine rg [0, 1, 2, 3, 4, 5, 6, 7, 8] ?_
 replace L3 := st30.lc (L3.gr g29) ne3_29
 refine sw 28 (.agg #[(.int .i8 (ia1)), (.int .i8 (ia2)), (.int .i8 (ia3)), (.int .u8 (da))]) rfl (rl 42 0 [(.int .i8 (ia1)), (.int .i8 (ia2)), (.int .i8 (ia3)), (.int .u8 (da))] L3) ?_
 simp only [p3, p4]
 refine se ?_
 refine ec 29 (made_v ia1 ia2 ia3 da ja1 ja2 ja3 jda a1 a2 a3 ea1 ea2 ea3 _ (hm.gr hB)) ?_
 rintro e32 w32 ⟨⟨t32_0, t32_1, t32_2, t32_3, t32_4, t32_5, t32_6, t32_7, t32_8, t32_9, t32_10, t32_11, rfl, h32a, h32b, h32c⟩, g32⟩
 refine ⟨_, rfl, ?_⟩
 replace hB := hB.trans g32
 simp only [p3, p4]
 refine se ?_
 refine ec 30 (vints_2 f1 f2 f3 h32a h32b h32c (by omega)) ?_
 rintro e33 w33 ⟨rfl, g33⟩
 refine ⟨_, rfl, ?_⟩
 replace hB := hB.trans g33
 simp only [p3, p4]
 refine sv 27 (.tuple #[(.agg #[(.int .i64 0), (.int .i64 0), (.int .i64 0)]), (.int .i64 3)]) ?_
 simp only [p3, p4]
 refine sv 31 (.agg #[(.int .i64 0), (.int .i64 0), (.int .i64 0)]) ?_
 simp only [p3, p4]
 refine sv 32 (.int .i64 3) ?_
 simp only [p3, p4]
 refine se ?_
 refine ea 45 #[(.int .i64 0), (.int .i64 0), (.int .i64 0)] 7 hB fun b34 w34 g34 L34 o34 q34 hB => ?_
 replace L2 := (st30.lc (L2.gr g29) ne2_29).gr (g32.trans g33)
 have ne2_34 := L2.ne o34
 replace L3 := L3.gr (g32.trans g33)
 have ne3_34 := L3.ne o34
 replace L29 := L29.gr (g32.trans g33)
 have ne29_34 := L29.ne o34
 simp only [p3, p4]
 refine se ?_
 refine es 45 0 (.agg #[(.int .i64 0), (.int .i64 0), (.int .i64 0)]) [(.int .i64 0), (.int .i64 0), (.int .i64 0)] #[(.int .i64 0), (.int .i64 0), (.int .i64 0)] L34 hB q34 ⟨rfl, rfl, rfl, trivial⟩ fun w35 st35 kp35 L34 hB => ?_
 refine sv 8 (.int .i64 3) ?_
 simp only [p3, p4]
 refine sq_nil ?_
 refine k31 _ _ ?_
 try clear k31 K31
 refine wp_seq_k (fun K36 k36 => ?_)
 refine rg [0] ?_
 refine sv 9 (.bool true) ?_
 simp only [p3, p4]
 refine sq_nil ?_
 refine k36 _ _ ?_
 try clear k36 K36
 refine wp_seq_k (fun K37 k37 => ?_)
 refine wp_seq_k (fun K38 k38 => ?_)
 refine rg [0] ?_
 refine sv 10 (.int .i64 0) ?_
 simp only [p3, p4]
 refine sq_nil ?_
 refine k38 _ _ ?_
 try clear k38 K38
 refine wp_block ?_
 refine wp_loop_rounds 4 ?_
 show Code.wp _ _ _ _ _
 refine wp_seq_k (fun K39 k39 => ?_)
 refine wp_seq_k (fun K40 k40 => ?_)
 refine rg [0, 1] ?_
 refine sv 33 (.int .i64 0) ?_
 simp only [p3, p4]
 refine sv 34 (.bool true) ?_
 simp only [p3, p4]
 refine sq_nil ?_
 refine k40 _ _ ?_
 try clear k40 K40
 refine wp_cond_true rfl ?_
 refine wp_skip ?_
 refine k39 _ _ ?_
 try clear k39 K39
 refine wp_seq_k (fun K41 k41 => ?_)
 refine wp_block ?_
 have gd43 := Gr.drew w35
 replace hB := hB.trans gd43
 replace L3 := (st35.lc (L3.gr g34) ne3_34).gr gd43
 refine wp_region_ord (fun w' => Lc w' b3 #[(.int .i8 (ia1)), (.int .i8 (ia2)), (.int .i8 (ia3)), (.int .u8 (da))] 42) [(true, 0), (true, 1), (true, 2), (true, 3), (true, 4), (true, 5), (true, 6), (true, 7), (true, 8), (true, 9), (true, 10), (true, 11), (true, 12), (true, 13), (true, 14), (true, 15)] (by kernel_rfl) (by kernel_rfl) (by kernel_rfl) (by decide) (fun _ _ _ _ _ h => h) L3 ?_
 refine ov 37 (.bool true) ?_
 simp only [p3, p4]
 refine ov 38 (.bool true) ?_
 simp only [p3, p4]
 refine ov 39 (.int .i64 0) ?_
 simp only [p3, p4]
 refine ov 40 (.pointer (some ⟨b3, 0, none⟩)) ?_
 simp only [p3, p4]
 refine ov 41 (.pointer (some ⟨b3, 0, none⟩)) ?_
 simp only [p3, p4]
 refine ow 42 (.int .i8 (ia1)) rfl (fun w' hS => (rk 39 0 hS)) ?_
 simp only [p3, p4]
 refine ow 43 (.int .i64 (ia1)) rfl (fun w' hS => (RunV.int (x := IntKind.i64.wrap (ia1)) (y := ia1) (rvk (by kernel_rfl)) (by first | rfl | (rw [IntKind.wrap_i64]; omega)))) ?_
 simp only [p3, p4]
 refine ov 44 (.pointer (some ⟨b3, 3, none⟩)) ?_
 simp only [p3, p4]
 refine ow 45 (.int .u8 (da)) rfl (fun w' hS => (rk 5 3 hS)) ?_
 simp only [p3, p4]
 refine ow 46 (.int .u8 ((da % 6))) rfl (fun w' hS => (RunV.int (x := Int.tmod (da) 6) (y := da % 6) (rvk (by kernel_rfl)) (by rw [Int.tmod_eq_emod_of_nonneg (by first | omega | exact Int.natCast_nonneg _)]))) ?_
 simp only [p3, p4]
 refine ow 47 (.int .i64 ((da % 6))) rfl (fun w' hS => (RunV.int (x := IntKind.i64.wrap ((da % 6))) (y := (da % 6)) (rvk (by kernel_rfl)) (by first | rfl | (rw [IntKind.wrap_i64]; omega)))) ?_
 simp only [p3, p4]
 refine ow 48 (.int .i64 ((1 + (da % 6)))) rfl (fun w' hS => (RunV.int (x := IntKind.i64.wrap ((1 + (da % 6)))) (y := (1 + (da % 6))) (rvk (by kernel_rfl)) (by first | rfl | (rw [IntKind.wrap_i64]; omega)))) ?_
 simp only [p3, p4]
 refine ow 49 (.int .i64 (Int.tmod (ia1) ((1 + (da % 6))))) rfl (fun w' hS => (rv_remt 3 3 _ _ _ _ rfl rfl rfl (by omega))) ?_
 simp only [p3, p4]
 refine ow 50 (.bool true) rfl (fun w' hS => (RunV.bool (x := (Int.tmod (ia1) ((1 + (da % 6))) == (0 : Int))) (rvk (by kernel_rfl)) t1)) ?_
 simp only [p3, p4]
 refine ov 51 (.bool true) ?_
 simp only [p3, p4]
 refine ov 9 (.bool true) ?_
 simp only [p3, p4]
 refine ord_nil ?_
 refine k41 _ _ ?_
 try clear k41 K41
 refine rg [0, 1, 2] ?_
 refine sv 35 (.int .i64 0) ?_
 simp only [p3, p4]
 refine sv 36 (.int .i64 1) ?_
 simp only [p3, p4]
 refine sv 10 (.int .i64 1) ?_
 simp only [p3, p4]
 refine sq_nil ?_
 show Code.rounds _ _ _ _ _ _
 show Code.wp _ _ _ _ _
 refine wp_seq_k (fun K44 k44 => ?_)
 refine wp_seq_k (fun K45 k45 => ?_)
 refine rg [0, 1] ?_
 refine sv 33 (.int .i64 1) ?_
 simp only [p3, p4]
 refine sv 34 (.bool true) ?_
 simp only [p3, p4]
 refine sq_nil ?_
 refine k45 _ _ ?_
 try clear k45 K45
 refine wp_cond_true rfl ?_
 refine wp_skip ?_
 refine k44 _ _ ?_
 try clear k44 K44
 refine wp_seq_k (fun K46 k46 => ?_)
 refine wp_block ?_
 have gd48 := Gr.drew (w35.drew)
 replace hB := hB.trans gd48
 replace L3 := L3.gr gd48
 refine wp_region_ord (fun w' => Lc w' b3 #[(.int .i8 (ia1)), (.int .i8 (ia2)), (.int .i8 (ia3)), (.int .u8 (da))] 42) [(true, 0), (true, 1), (true, 2), (true, 3), (true, 4), (true, 5), (true, 6), (true, 7), (true, 8), (true, 9), (true, 10), (true, 11), (true, 12), (true, 13), (true, 14), (true, 15)] (by kernel_rfl) (by kernel_rfl) (by kernel_rfl) (by decide) (fun _ _ _ _ _ h => h) L3 ?_
 refine ov 37 (.bool true) ?_
 simp only [p3, p4]
 refine ov 38 (.bool true) ?_
 simp only [p3, p4]
 refine ov 39 (.int .i64 1) ?_
 simp only [p3, p4]
 refine ov 40 (.pointer (some ⟨b3, 0, none⟩)) ?_
 simp only [p3, p4]
 refine ov 41 (.pointer (some ⟨b3, 1, none⟩)) ?_
 simp only [p3, p4]
 refine ow 42 (.int .i8 (ia2)) rfl (fun w' hS => (rk 39 1 hS)) ?_
 simp only [p3, p4]
 refine ow 43 (.int .i64 (ia2)) rfl (fun w' hS => (RunV.int (x := IntKind.i64.wrap (ia2)) (y := ia2) (rvk (by kernel_rfl)) (by first | rfl | (rw [IntKind.wrap_i64]; omega)))) ?_
 simp only [p3, p4]
 refine ov 44 (.pointer (some ⟨b3, 3, none⟩)) ?_
 simp only [p3, p4]
 refine ow 45 (.int .u8 (da)) rfl (fun w' hS => (rk 5 3 hS)) ?_
 simp only [p3, p4]
 refine ow 46 (.int .u8 ((da % 6))) rfl (fun w' hS => (RunV.int (x := Int.tmod (da) 6) (y := da % 6) (rvk (by kernel_rfl)) (by rw [Int.tmod_eq_emod_of_nonneg (by first | omega | exact Int.natCast_nonneg _)]))) ?_
 simp only [p3, p4]
 refine ow 47 (.int .i64 ((da % 6))) rfl (fun w' hS => (RunV.int (x := IntKind.i64.wrap ((da % 6))) (y := (da % 6)) (rvk (by kernel_rfl)) (by first | rfl | (rw [IntKind.wrap_i64]; omega)))) ?_
 simp only [p3, p4]
 refine ow 48 (.int .i64 ((1 + (da % 6)))) rfl (fun w' hS => (RunV.int (x := IntKind.i64.wrap ((1 + (da % 6)))) (y := (1 + (da % 6))) (rvk (by kernel_rfl)) (by first | rfl | (rw [IntKind.wrap_i64]; omega)))) ?_
 simp only [p3, p4]
 refine ow 49 (.int .i64 (Int.tmod (ia2) ((1 + (da % 6))))) rfl (fun w' hS => (rv_remt 3 3 _ _ _ _ rfl rfl rfl (by omega))) ?_
 simp only [p3, p4]
 refine ow 50 (.bool true) rfl (fun w' hS => (RunV.bool (x := (Int.tmod (ia2) ((1 + (da % 6))) == (0 : Int))) (rvk (by kernel_rfl)) t2)) ?_
 simp only [p3, p4]
 refine ov 51 (.bool true) ?_
 simp only [p3, p4]
 refine ov 9 (.bool true) ?_
 simp only [p3, p4]
 refine ord_nil ?_
 refine k46 _ _ ?_
 try clear k46 K46
 refine rg [0, 1, 2] ?_
 refine sv 35 (.int .i64 1) ?_
 simp only [p3, p4]
 refine sv 36 (.int .i64 2) ?_
 simp only [p3, p4]
 refine sv 10 (.int .i64 2) ?_
 simp only [p3, p4]
 refine sq_nil ?_
 show Code.rounds _ _ _ _ _ _
 show Code.wp _ _ _ _ _
 refine wp_seq_k (fun K49 k49 => ?_)
 refine wp_seq_k (fun K50 k50 => ?_)
 refine rg [0, 1] ?_
 refine sv 33 (.int .i64 2) ?_
 simp only [p3, p4]
 refine sv 34 (.bool true) ?_
 simp only [p3, p4]
 refine sq_nil ?_
 refine k50 _ _ ?_
 try clear k50 K50
 refine wp_cond_true rfl ?_
 refine wp_skip ?_
 refine k49 _ _ ?_
 try clear k49 K49
 refine wp_seq_k (fun K51 k51 => ?_)
 refine wp_block ?_
 have gd53 := Gr.drew ((w35.drew).drew)
 replace hB := hB.trans gd53
 replace L3 := L3.gr gd53
 refine wp_region_ord (fun w' => Lc w' b3 #[(.int .i8 (ia1)), (.int .i8 (ia2)), (.int .i8 (ia3)), (.int .u8 (da))] 42) [(true, 0), (true, 1), (true, 2), (true, 3), (true, 4), (true, 5), (true, 6), (true, 7), (true, 8), (true, 9), (true, 10), (true, 11), (true, 12), (true, 13), (true, 14), (true, 15)] (by kernel_rfl) (by kernel_rfl) (by kernel_rfl) (by decide) (fun _ _ _ _ _ h => h) L3 ?_
 refine ov 37 (.bool true) ?_
 simp only [p3, p4]
 refine ov 38 (.bool true) ?_
 simp only [p3, p4]
 refine ov 39 (.int .i64 2) ?_
 simp only [p3, p4]
 refine ov 40 (.pointer (some ⟨b3, 0, none⟩)) ?_
 simp only [p3, p4]
 refine ov 41 (.pointer (some ⟨b3, 2, none⟩)) ?_
 simp only [p3, p4]
 refine ow 42 (.int .i8 (ia3)) rfl (fun w' hS => (rk 39 2 hS)) ?_
 simp only [p3, p4]
 refine ow 43 (.int .i64 (ia3)) rfl (fun w' hS => (RunV.int (x := IntKind.i64.wrap (ia3)) (y := ia3) (rvk (by kernel_rfl)) (by first | rfl | (rw [IntKind.wrap_i64]; omega)))) ?_
 simp only [p3, p4]
 refine ov 44 (.pointer (some ⟨b3, 3, none⟩)) ?_
 simp only [p3, p4]
 refine ow 45 (.int .u8 (da)) rfl (fun w' hS => (rk 5 3 hS)) ?_
 simp only [p3, p4]
 refine ow 46 (.int .u8 ((da % 6))) rfl (fun w' hS => (RunV.int (x := Int.tmod (da) 6) (y := da % 6) (rvk (by kernel_rfl)) (by rw [Int.tmod_eq_emod_of_nonneg (by first | omega | exact Int.natCast_nonneg _)]))) ?_
 simp only [p3, p4]
 refine ow 47 (.int .i64 ((da % 6))) rfl (fun w' hS => (RunV.int (x := IntKind.i64.wrap ((da % 6))) (y := (da % 6)) (rvk (by kernel_rfl)) (by first | rfl | (rw [IntKind.wrap_i64]; omega)))) ?_
 simp only [p3, p4]
 refine ow 48 (.int .i64 ((1 + (da % 6)))) rfl (fun w' hS => (RunV.int (x := IntKind.i64.wrap ((1 + (da % 6)))) (y := (1 + (da % 6))) (rvk (by kernel_rfl)) (by first | rfl | (rw [IntKind.wrap_i64]; omega)))) ?_
 simp only [p3, p4]
 refine ow 49 (.int .i64 (Int.tmod (ia3) ((1 + (da % 6))))) rfl (fun w' hS => (rv_remt 3 3 _ _ _ _ rfl rfl rfl (by omega))) ?_
 simp only [p3, p4]
 refine ow 50 (.bool false) rfl (fun w' hS => (RunV.bool (x := (Int.tmod (ia3) ((1 + (da % 6))) == (0 : Int))) (rvk (by kernel_rfl)) t3)) ?_
 simp only [p3, p4]
 refine ov 51 (.bool false) ?_
 simp only [p3, p4]
 refine ov 9 (.bool false) ?_
 simp only [p3, p4]
 refine ord_nil ?_
 refine k51 _ _ ?_
 try clear k51 K51
 refine rg [0, 1, 2] ?_
 refine sv 35 (.int .i64 2) ?_
 simp only [p3, p4]
 refine sv 36 (.int .i64 3) ?_
 simp only [p3, p4]
 refine sv 10 (.int .i64 3) ?_
 simp only [p3, p4]
 refine sq_nil ?_
 show Code.rounds _ _ _ _ _ _
 show Code.wp _ _ _ _ _
 refine wp_seq_k (fun K54 k54 => ?_)
 refine wp_seq_k (fun K55 k55 => ?_)
 refine rg [0, 1] ?_
 refine sv 33 (.int .i64 3) ?_
 simp only [p3, p4]
 refine sv 34 (.bool false) ?_
 simp only [p3, p4]
 refine sq_nil ?_
 refine k55 _ _ ?_
 try clear k55 K55
 refine wp_cond_false rfl ?_
 refine wp_exit ?_
 simp only [Exit.then, Exit.inBlock, ↓reduceIte]
 refine k37 _ _ ?_
 try clear k37 K37
 refine wp_seq_k (fun K56 k56 => ?_)
 have gd59 := Gr.drew (((w35.drew).drew).drew)
 replace hB := hB.trans gd59
 replace L2 := (st35.lc (L2.gr g34) ne2_34).gr (gd43.trans (gd48.trans (gd53.trans gd59)))
 replace L3 := L3.gr gd59
 replace L29 := (st35.lc (L29.gr g34) ne29_34).gr (gd43.trans (gd48.trans (gd53.trans gd59)))
 replace L34 := L34.gr (gd43.trans (gd48.trans (gd53.trans gd59)))
 refine wp_region_ord (fun w' => Lc w' b2 #[(.int .i64 (n1)), (.int .i64 (n2)), (.int .i64 (n3))] 45 ∧ Lc w' b3 #[(.int .i8 (ia1)), (.int .i8 (ia2)), (.int .i8 (ia3)), (.int .u8 (da))] 42 ∧ Lc w' b29 #[(.int .i64 (n1)), (.int .i64 (n2)), (.int .i64 (n3))] 45 ∧ Lc w' b34 #[(.int .i64 0), (.int .i64 0), (.int .i64 0)] 45) [(true, 0), (true, 1), (true, 2), (true, 3), (true, 4), (true, 5), (true, 6), (true, 7), (true, 8), (true, 9), (true, 10), (true, 11), (true, 12), (true, 13), (true, 14), (true, 15), (true, 16), (true, 18), (false, 17), (false, 19), (false, 20), (true, 21), (true, 22), (true, 23), (true, 24), (true, 25), (true, 26), (true, 27), (true, 28), (true, 29), (true, 30), (true, 31), (true, 32), (true, 33), (true, 34), (true, 35), (true, 36)] (by kernel_rfl) (by kernel_rfl) (by kernel_rfl) (by decide) (fun _ _ _ _ _ h => h) ⟨L2, L3, L29, L34⟩ ?_
 refine ov 52 (.int .i64 0) ?_
 simp only [p3, p4]
 refine ov 53 (.bool true) ?_
 simp only [p3, p4]
 refine ov 54 (.bool true) ?_
 simp only [p3, p4]
 refine ow 55 (.agg #[(.int .i64 (n1)), (.int .i64 (n2)), (.int .i64 (n3))]) rfl (fun w' hS => (rl 45 0 [(.int .i64 (n1)), (.int .i64 (n2)), (.int .i64 (n3))] hS.2.2.1)) ?_
 simp only [p3, p4]
 refine ow 56 (.agg #[(.int .i64 (n1)), (.int .i64 (n2)), (.int .i64 (n3))]) rfl (fun w' hS => (rl 45 0 [(.int .i64 (n1)), (.int .i64 (n2)), (.int .i64 (n3))] hS.1)) ?_
 simp only [p3, p4]
 have hb60 : ((n1 == n1 && n2 == n2 && n3 == n3)) = true := (by simp)
 refine ow 57 (.bool true) rfl (fun w' hS => (RunV.bool (x := (n1 == n1 && n2 == n2 && n3 == n3)) (rv_arreq 45 45 3 (k := .i64) _ _ [n1, n2, n3] [n1, n2, n3] rfl rfl rfl (by kernel_rfl) (by kernel_rfl) (by kernel_rfl)) hb60)) ?_
 simp only [p3, p4]
 refine ov 58 (.bool true) ?_
 simp only [p3, p4]
 refine ov 59 (.bool true) ?_
 simp only [p3, p4]
 refine ov 60 (.int .i64 3) ?_
 simp only [p3, p4]
 refine ov 61 (.bool false) ?_
 simp only [p3, p4]
 refine ov 62 (.bool false) ?_
 simp only [p3, p4]
 refine ov 63 (.bool true) ?_
 simp only [p3, p4]
 refine ov 64 (.bool true) ?_
 simp only [p3, p4]
 refine ov 65 (.bool true) ?_
 simp only [p3, p4]
 refine ov 66 (.bool false) ?_
 simp only [p3, p4]
 refine ov 67 (.bool false) ?_
 simp only [p3, p4]
 refine os 68 ?_
 simp only [p3, p4]
 refine os 70 ?_
 simp only [p3, p4]
 refine oz 69 ⟨L2, L3, L29, L34⟩ ?_
 simp only [p3, p4]
 refine oz 71 ⟨L2, L3, L29, L34⟩ ?_
 simp only [p3, p4]
 refine oz 72 ⟨L2, L3, L29, L34⟩ ?_
 simp only [p3, p4]
 refine ov 73 (.bool false) ?_
 simp only [p3, p4]
 refine ov 74 (.bool false) ?_
 simp only [p3, p4]
 refine ov 75 (.bool false) ?_
 simp only [p3, p4]
 refine ov 76 (.bool true) ?_
 simp only [p3, p4]
 refine ov 77 (.bool true) ?_
 simp only [p3, p4]
 refine ov 78 (.int .i64 3) ?_
 simp only [p3, p4]
 refine ov 79 (.bool true) ?_
 simp only [p3, p4]
 refine ov 80 (.bool true) ?_
 simp only [p3, p4]
 refine ov 81 (.bool true) ?_
 simp only [p3, p4]
 refine ow 82 (.agg #[(.int .i64 0), (.int .i64 0), (.int .i64 0)]) rfl (fun w' hS => (rl 45 0 [(.int .i64 0), (.int .i64 0), (.int .i64 0)] hS.2.2.2)) ?_
 simp only [p3, p4]
 refine ov 83 (.agg #[(.int .i64 0), (.int .i64 0), (.int .i64 0)]) ?_
 simp only [p3, p4]
 refine ov 84 (.bool true) ?_
 simp only [p3, p4]
 refine ov 85 (.bool true) ?_
 simp only [p3, p4]
 refine ov 86 (.bool true) ?_
 simp only [p3, p4]
 refine ov 87 (.bool true) ?_
 simp only [p3, p4]
 refine ov 4 (.bool true) ?_
 simp only [p3, p4]
 refine ord_nil ?_
 refine k56 _ _ ?_
 try clear k56 K56
 refine wp_ret ?_
 refine bodyPost_ret (v := (.bool true)) (ret_tmp rfl rfl) rfl ⟨?_, hB⟩
 exact rfl

set_option maxRecDepth 100000 in
set_option maxHeartbeats 8000000 in
theorem vinl_3 (n1 n2 n3 : Int) (jn1 : -9223372036854775808 ≤ n1 ∧ n1 ≤ 9223372036854775807) (jn2 : -9223372036854775808 ≤ n2 ∧ n2 ≤ 9223372036854775807) (jn3 : -9223372036854775808 ≤ n3 ∧ n3 ≤ 9223372036854775807) (ia1 ia2 ia3 da : Int) (ja1 : -128 ≤ ia1 ∧ ia1 ≤ 127) (ja2 : -128 ≤ ia2 ∧ ia2 ≤ 127) (ja3 : -128 ≤ ia3 ∧ ia3 ≤ 127) (jda : 0 ≤ da ∧ da ≤ 255) (a1 a2 a3 : Rat) (ea1 : a1 = ((ia1 : Int) : Rat) / ((1 + da % 6 : Int) : Rat)) (ea2 : a2 = ((ia2 : Int) : Rat) / ((1 + da % 6 : Int) : Rat)) (ea3 : a3 = ((ia3 : Int) : Rat) / ((1 + da % 6 : Int) : Rat)) (t1 : (Int.tmod (ia1) (1 + (da % 6)) == (0 : Int)) = true) (t2 : (Int.tmod (ia2) (1 + (da % 6)) == (0 : Int)) = true) (t3 : (Int.tmod (ia3) (1 + (da % 6)) == (0 : Int)) = true) (w : World) (ht : Tab w) (hm : Mx w) :
    Calls Tryz.prog 11 #[(.agg #[(.int .i64 (n1)), (.int .i64 (n2)), (.int .i64 (n3))]), (.agg #[(.int .i8 (ia1)), (.int .i8 (ia2)), (.int .i8 (ia3)), (.int .u8 (da))])] w fun e w' => e = .returned (.bool true) ∧ Gr w w' := by
 have ha1 : RS 16 a1 := small_rs ja1 jda ea1
 have ha2 : RS 16 a2 := small_rs ja2 jda ea2
 have ha3 : RS 16 a3 := small_rs ja3 jda ea3
 have f1 : fitsQ (a1) = true := by rw [fits_small ja1 jda ea1]; exact t1
 have f2 : fitsQ (a2) = true := by rw [fits_small ja2 jda ea2]; exact t2
 have f3 : fitsQ (a3) = true := by rw [fits_small ja3 jda ea3]; exact t3
 go_enter Tryz.func11, Tryz.ntmps11
 have hB := Gr.refl w
 refine wp_seq_k (fun K1 k1 => ?_)
 refine rg [0, 1, 2] ?_
 refine se ?_
 refine eb 45 #[(.int .i64 (n1)), (.int .i64 (n2)), (.int .i64 (n3))] 2 hB fun b2 w2 g2 L2 o2 q2 hB => ?_
 simp only [p3, p4]
 refine se ?_
 refine eb 42 #[(.int .i8 (ia1)), (.int .i8 (ia2)), (.int .i8 (ia3)), (.int .u8 (da))] 3 hB fun b3 w3 g3 L3 o3 q3 hB => ?_
 simp only [p3, p4]
 refine sv 4 (.bool false) ?_
 simp only [p3, p4]
 refine sq_nil ?_
 refine k1 _ _ ?_
 try clear k1 K1
 refine wp_seq_k (fun K4 k4 => ?_)
 refine wp_seq_k (fun K5 k5 => ?_)
 have gd16 := Gr.drew w3
 replace hB := hB.trans gd16
 replace L2 := L2.gr (g3.trans gd16)
 refine wp_region_ord (fun w' => Lc w' b2 #[(.int .i64 (n1)), (.int .i64 (n2)), (.int .i64 (n3))] 45) [(false, 0), (true, 1), (true, 2), (true, 3), (true, 5), (false, 4), (false, 6), (false, 7), (true, 8), (true, 9)] (by kernel_rfl) (by kernel_rfl) (by kernel_rfl) (by decide) (fun _ _ _ _ _ h => h) L2 ?_
 refine oe ?_
 refine ec 11 (known3 _ (ht.gr hB) (hm.gr hB)) ?_
 rintro e18 w18 ⟨rfl, g18⟩
 refine ⟨_, rfl, ?_⟩
 replace hB := hB.trans g18
 replace L2 := L2.gr g18
 refine ⟨L2, ?_⟩
 simp only [p3, p4]
 refine ov 12 (.bool false) ?_
 simp only [p3, p4]
 refine ov 13 (.bool false) ?_
 simp only [p3, p4]
 refine ow 14 (.agg #[(.int .i64 (n1)), (.int .i64 (n2)), (.int .i64 (n3))]) rfl (fun w' hS => (rl 45 0 [(.int .i64 (n1)), (.int .i64 (n2)), (.int .i64 (n3))] hS)) ?_
 simp only [p3, p4]
 refine ow 16 (.agg #[(.int .i64 (n1)), (.int .i64 (n2)), (.int .i64 (n3))]) rfl (fun w' hS => (rl 45 0 [(.int .i64 (n1)), (.int .i64 (n2)), (.int .i64 (n3))] hS)) ?_
 simp only [p3, p4]
 refine oe ?_
 refine ec 15 (vof_v (n1) (n2) (n3) (by omega) (by omega) (by omega) _) ?_
 rintro e20 w20 ⟨⟨t20_0, t20_1, t20_2, t20_3, t20_4, t20_5, t20_6, t20_7, t20_8, t20_9, t20_10, t20_11, rfl, h20a, h20b, h20c⟩, g20⟩
 refine ⟨_, rfl, ?_⟩
 replace hB := hB.trans g20
 replace L2 := L2.gr g20
 refine ⟨L2, ?_⟩
 simp only [p3, p4]
 refine oe ?_
 refine ec 17 (r3_of (n1) (n2) (n3) (by omega) (by omega) (by omega) _) ?_
 rintro e22 w22 ⟨rfl, g22⟩
 refine ⟨_, rfl, ?_⟩
 replace hB := hB.trans g22
 replace L2 := L2.gr g22
 refine ⟨L2, ?_⟩
 simp only [p3, p4]
 refine oe ?_
 replace h20a := h20a.kp g22.kp
 replace h20b := h20b.kp g22.kp
 replace h20c := h20c.kp g22.kp
 refine ec 18 (is_v (ratL (((n1 : Int) : Rat))) (ratL (((n2 : Int) : Rat))) (ratL (((n3 : Int) : Rat))) h20a h20b h20c (by omega) (ht.gr hB)) ?_
 rintro e24 w24 ⟨rfl, g24⟩
 refine ⟨_, rfl, ?_⟩
 replace hB := hB.trans g24
 replace L2 := L2.gr g24
 refine ⟨L2, ?_⟩
 simp only [p3, p4]
 have hb25 : (sEq [ratL ((((n1 : Int) : Rat))), ratL ((((n2 : Int) : Rat))), ratL ((((n3 : Int) : Rat)))] [ratL (((n1 : Int) : Rat)), ratL (((n2 : Int) : Rat)), ratL (((n3 : Int) : Rat))]) = true := (lawVi0 ((n1 : Int) : Rat) ((n2 : Int) : Rat) ((n3 : Int) : Rat) )
 refine ow 19 (.bool false) rfl (fun w' hS => (RunV.bool (x := !(sEq [ratL ((((n1 : Int) : Rat))), ratL ((((n2 : Int) : Rat))), ratL ((((n3 : Int) : Rat)))] [ratL (((n1 : Int) : Rat)), ratL (((n2 : Int) : Rat)), ratL (((n3 : Int) : Rat))])) (rvk (by kernel_rfl)) (show (!(sEq [ratL ((((n1 : Int) : Rat))), ratL ((((n2 : Int) : Rat))), ratL ((((n3 : Int) : Rat)))] [ratL (((n1 : Int) : Rat)), ratL (((n2 : Int) : Rat)), ratL (((n3 : Int) : Rat))])) = false by rw [hb25]; rfl))) ?_
 simp only [p3, p4]
 refine ov 20 (.bool false) ?_
 simp only [p3, p4]
 refine ord_nil ?_
 refine k5 _ _ ?_
 try clear k5 K5
 refine wp_cond_false rfl ?_
 refine wp_skip ?_
 refine k4 _ _ ?_
 try clear k4 K4
 refine wp_seq_k (fun K26 k26 => ?_)
 refine rg [0, 1, 2, 3, 4, 5, 6, 7, 8] ?_
 refine sw 22 (.agg #[(.int .i64 (n1)), (.int .i64 (n2)), (.int .i64 (n3))]) rfl (rl 45 0 [(.int .i64 (n1)), (.int .i64 (n2)), (.int .i64 (n3))] L2) ?_
 simp only [p3, p4]
 refine se ?_
 refine ec 23 (vof_v (n1) (n2) (n3) (by omega) (by omega) (by omega) _) ?_
 rintro e27 w27 ⟨⟨t27_0, t27_1, t27_2, t27_3, t27_4, t27_5, t27_6, t27_7, t27_8, t27_9, t27_10, t27_11, rfl, h27a, h27b, h27c⟩, g27⟩
 refine ⟨_, rfl, ?_⟩
 replace hB := hB.trans g27
 simp only [p3, p4]
 refine se ?_
 refine ec 24 (vints_z jn1 jn2 jn3 h27a h27b h27c (by omega)) ?_
 rintro e28 w28 ⟨rfl, g28⟩
 refine ⟨_, rfl, ?_⟩
 replace hB := hB.trans g28
 simp only [p3, p4]
 refine sv 21 (.tuple #[(.agg #[(.int .i64 (n1)), (.int .i64 (n2)), (.int .i64 (n3))]), (.int .i64 0)]) ?_
 simp only [p3, p4]
 refine sv 25 (.agg #[(.int .i64 (n1)), (.int .i64 (n2)), (.int .i64 (n3))]) ?_
 simp only [p3, p4]
 refine sv 26 (.int .i64 0) ?_
 simp only [p3, p4]
 refine se ?_
 refine ea 45 #[(.int .i64 0), (.int .i64 0), (.int .i64 0)] 5 hB fun b29 w29 g29 L29 o29 q29 hB => ?_
 replace L2 := L2.gr (g27.trans g28)
 have ne2_29 := L2.ne o29
 replace L3 := L3.gr (gd16.trans (g18.trans (g20.trans (g22.trans (g24.trans (g27.trans g28))))))
 have ne3_29 := L3.ne o29
 simp only [p3, p4]
 refine se ?_
 refine es 45 0 (.agg #[(.int .i64 (n1)), (.int .i64 (n2)), (.int .i64 (n3))]) [(.int .i64 (n1)), (.int .i64 (n2)), (.int .i64 (n3))] #[(.int .i64 (n1)), (.int .i64 (n2)), (.int .i64 (n3))] L29 hB q29 ⟨rfl, rfl, rfl, trivial⟩ fun w30 st30 kp30 L29 hB => ?_
 refine sv 6 (.int .i64 0) ?_
 simp only [p3, p4]
 refine sq_nil ?_
 refine k26 _ _ ?_
 try clear k26 K26
 refine wp_seq_k (fun K31 k31 => ?_)
 refine rg [0, 1, 2, 3, 4, 5, 6, 7, 8] ?_
 replace L3 := st30.lc (L3.gr g29) ne3_29
 refine sw 28 (.agg #[(.int .i8 (ia1)), (.int .i8 (ia2)), (.int .i8 (ia3)), (.int .u8 (da))]) rfl (rl 42 0 [(.int .i8 (ia1)), (.int .i8 (ia2)), (.int .i8 (ia3)), (.int .u8 (da))] L3) ?_
 simp only [p3, p4]
 refine se ?_
 refine ec 29 (made_v ia1 ia2 ia3 da ja1 ja2 ja3 jda a1 a2 a3 ea1 ea2 ea3 _ (hm.gr hB)) ?_
 rintro e32 w32 ⟨⟨t32_0, t32_1, t32_2, t32_3, t32_4, t32_5, t32_6, t32_7, t32_8, t32_9, t32_10, t32_11, rfl, h32a, h32b, h32c⟩, g32⟩
 refine ⟨_, rfl, ?_⟩
 replace hB := hB.trans g32
 simp only [p3, p4]
 refine se ?_
 refine ec 30 (vints_3 f1 f2 f3 h32a h32b h32c (by omega)) ?_
 rintro e33 w33 ⟨rfl, g33⟩
 refine ⟨_, rfl, ?_⟩
 replace hB := hB.trans g33
 simp only [p3, p4]
 refine sv 27 (.tuple #[(.agg #[(.int .i64 (valQ (a1))), (.int .i64 (valQ (a2))), (.int .i64 (valQ (a3)))]), (.int .i64 0)]) ?_
 simp only [p3, p4]
 refine sv 31 (.agg #[(.int .i64 (valQ (a1))), (.int .i64 (valQ (a2))), (.int .i64 (valQ (a3)))]) ?_
 simp only [p3, p4]
 refine sv 32 (.int .i64 0) ?_
 simp only [p3, p4]
 refine se ?_
 refine ea 45 #[(.int .i64 0), (.int .i64 0), (.int .i64 0)] 7 hB fun b34 w34 g34 L34 o34 q34 hB => ?_
 replace L2 := (st30.lc (L2.gr g29) ne2_29).gr (g32.trans g33)
 have ne2_34 := L2.ne o34
 replace L3 := L3.gr (g32.trans g33)
 have ne3_34 := L3.ne o34
 replace L29 := L29.gr (g32.trans g33)
 have ne29_34 := L29.ne o34
 simp only [p3, p4]
 refine se ?_
 refine es 45 0 (.agg #[(.int .i64 (valQ (a1))), (.int .i64 (valQ (a2))), (.int .i64 (valQ (a3)))]) [(.int .i64 (valQ (a1))), (.int .i64 (valQ (a2))), (.int .i64 (valQ (a3)))] #[(.int .i64 (valQ (a1))), (.int .i64 (valQ (a2))), (.int .i64 (valQ (a3)))] L34 hB q34 ⟨rfl, rfl, rfl, trivial⟩ fun w35 st35 kp35 L34 hB => ?_
 refine sv 8 (.int .i64 0) ?_
 simp only [p3, p4]
 refine sq_nil ?_
 refine k31 _ _ ?_
 try clear k31 K31
 refine wp_seq_k (fun K36 k36 => ?_)
 refine rg [0] ?_
 refine sv 9 (.bool true) ?_
 simp only [p3, p4]
 refine sq_nil ?_
 refine k36 _ _ ?_
 try clear k36 K36
 refine wp_seq_k (fun K37 k37 => ?_)
 refine wp_seq_k (fun K38 k38 => ?_)
 refine rg [0] ?_
 refine sv 10 (.int .i64 0) ?_
 simp only [p3, p4]
 refine sq_nil ?_
 refine k38 _ _ ?_
 try clear k38 K38
 refine wp_block ?_
 refine wp_loop_rounds 4 ?_
 show Code.wp _ _ _ _ _
 refine wp_seq_k (fun K39 k39 => ?_)
 refine wp_seq_k (fun K40 k40 => ?_)
 refine rg [0, 1] ?_
 refine sv 33 (.int .i64 0) ?_
 simp only [p3, p4]
 refine sv 34 (.bool true) ?_
 simp only [p3, p4]
 refine sq_nil ?_
 refine k40 _ _ ?_
 try clear k40 K40
 refine wp_cond_true rfl ?_
 refine wp_skip ?_
 refine k39 _ _ ?_
 try clear k39 K39
 refine wp_seq_k (fun K41 k41 => ?_)
 refine wp_block ?_
 have gd43 := Gr.drew w35
 replace hB := hB.trans gd43
 replace L3 := (st35.lc (L3.gr g34) ne3_34).gr gd43
 refine wp_region_ord (fun w' => Lc w' b3 #[(.int .i8 (ia1)), (.int .i8 (ia2)), (.int .i8 (ia3)), (.int .u8 (da))] 42) [(true, 0), (true, 1), (true, 2), (true, 3), (true, 4), (true, 5), (true, 6), (true, 7), (true, 8), (true, 9), (true, 10), (true, 11), (true, 12), (true, 13), (true, 14), (true, 15)] (by kernel_rfl) (by kernel_rfl) (by kernel_rfl) (by decide) (fun _ _ _ _ _ h => h) L3 ?_
 refine ov 37 (.bool true) ?_
 simp only [p3, p4]
 refine ov 38 (.bool true) ?_
 simp only [p3, p4]
 refine ov 39 (.int .i64 0) ?_
 simp only [p3, p4]
 refine ov 40 (.pointer (some ⟨b3, 0, none⟩)) ?_
 simp only [p3, p4]
 refine ov 41 (.pointer (some ⟨b3, 0, none⟩)) ?_
 simp only [p3, p4]
 refine ow 42 (.int .i8 (ia1)) rfl (fun w' hS => (rk 39 0 hS)) ?_
 simp only [p3, p4]
 refine ow 43 (.int .i64 (ia1)) rfl (fun w' hS => (RunV.int (x := IntKind.i64.wrap (ia1)) (y := ia1) (rvk (by kernel_rfl)) (by first | rfl | (rw [IntKind.wrap_i64]; omega)))) ?_
 simp only [p3, p4]
 refine ov 44 (.pointer (some ⟨b3, 3, none⟩)) ?_
 simp only [p3, p4]
 refine ow 45 (.int .u8 (da)) rfl (fun w' hS => (rk 5 3 hS)) ?_
 simp only [p3, p4]
 refine ow 46 (.int .u8 ((da % 6))) rfl (fun w' hS => (RunV.int (x := Int.tmod (da) 6) (y := da % 6) (rvk (by kernel_rfl)) (by rw [Int.tmod_eq_emod_of_nonneg (by first | omega | exact Int.natCast_nonneg _)]))) ?_
 simp only [p3, p4]
 refine ow 47 (.int .i64 ((da % 6))) rfl (fun w' hS => (RunV.int (x := IntKind.i64.wrap ((da % 6))) (y := (da % 6)) (rvk (by kernel_rfl)) (by first | rfl | (rw [IntKind.wrap_i64]; omega)))) ?_
 simp only [p3, p4]
 refine ow 48 (.int .i64 ((1 + (da % 6)))) rfl (fun w' hS => (RunV.int (x := IntKind.i64.wrap ((1 + (da % 6)))) (y := (1 + (da % 6))) (rvk (by kernel_rfl)) (by first | rfl | (rw [IntKind.wrap_i64]; omega)))) ?_
 simp only [p3, p4]
 refine ow 49 (.int .i64 (Int.tmod (ia1) ((1 + (da % 6))))) rfl (fun w' hS => (rv_remt 3 3 _ _ _ _ rfl rfl rfl (by omega))) ?_
 simp only [p3, p4]
 refine ow 50 (.bool true) rfl (fun w' hS => (RunV.bool (x := (Int.tmod (ia1) ((1 + (da % 6))) == (0 : Int))) (rvk (by kernel_rfl)) t1)) ?_
 simp only [p3, p4]
 refine ov 51 (.bool true) ?_
 simp only [p3, p4]
 refine ov 9 (.bool true) ?_
 simp only [p3, p4]
 refine ord_nil ?_
 refine k41 _ _ ?_
 try clear k41 K41
 refine rg [0, 1, 2] ?_
 refine sv 35 (.int .i64 0) ?_
 simp only [p3, p4]
 refine sv 36 (.int .i64 1) ?_
 simp only [p3, p4]
 refine sv 10 (.int .i64 1) ?_
 simp only [p3, p4]
 refine sq_nil ?_
 show Code.rounds _ _ _ _ _ _
 show Code.wp _ _ _ _ _
 refine wp_seq_k (fun K44 k44 => ?_)
 refine wp_seq_k (fun K45 k45 => ?_)
 refine rg [0, 1] ?_
 refine sv 33 (.int .i64 1) ?_
 simp only [p3, p4]
 refine sv 34 (.bool true) ?_
 simp only [p3, p4]
 refine sq_nil ?_
 refine k45 _ _ ?_
 try clear k45 K45
 refine wp_cond_true rfl ?_
 refine wp_skip ?_
 refine k44 _ _ ?_
 try clear k44 K44
 refine wp_seq_k (fun K46 k46 => ?_)
 refine wp_block ?_
 have gd48 := Gr.drew (w35.drew)
 replace hB := hB.trans gd48
 replace L3 := L3.gr gd48
 refine wp_region_ord (fun w' => Lc w' b3 #[(.int .i8 (ia1)), (.int .i8 (ia2)), (.int .i8 (ia3)), (.int .u8 (da))] 42) [(true, 0), (true, 1), (true, 2), (true, 3), (true, 4), (true, 5), (true, 6), (true, 7), (true, 8), (true, 9), (true, 10), (true, 11), (true, 12), (true, 13), (true, 14), (true, 15)] (by kernel_rfl) (by kernel_rfl) (by kernel_rfl) (by decide) (fun _ _ _ _ _ h => h) L3 ?_
 refine ov 37 (.bool true) ?_
 simp only [p3, p4]
 refine ov 38 (.bool true) ?_
 simp only [p3, p4]
 refine ov 39 (.int .i64 1) ?_
 simp only [p3, p4]
 refine ov 40 (.pointer (some ⟨b3, 0, none⟩)) ?_
 simp only [p3, p4]
 refine ov 41 (.pointer (some ⟨b3, 1, none⟩)) ?_
 simp only [p3, p4]
 refine ow 42 (.int .i8 (ia2)) rfl (fun w' hS => (rk 39 1 hS)) ?_
 simp only [p3, p4]
 refine ow 43 (.int .i64 (ia2)) rfl (fun w' hS => (RunV.int (x := IntKind.i64.wrap (ia2)) (y := ia2) (rvk (by kernel_rfl)) (by first | rfl | (rw [IntKind.wrap_i64]; omega)))) ?_
 simp only [p3, p4]
 refine ov 44 (.pointer (some ⟨b3, 3, none⟩)) ?_
 simp only [p3, p4]
 refine ow 45 (.int .u8 (da)) rfl (fun w' hS => (rk 5 3 hS)) ?_
 simp only [p3, p4]
 refine ow 46 (.int .u8 ((da % 6))) rfl (fun w' hS => (RunV.int (x := Int.tmod (da) 6) (y := da % 6) (rvk (by kernel_rfl)) (by rw [Int.tmod_eq_emod_of_nonneg (by first | omega | exact Int.natCast_nonneg _)]))) ?_
 simp only [p3, p4]
 refine ow 47 (.int .i64 ((da % 6))) rfl (fun w' hS => (RunV.int (x := IntKind.i64.wrap ((da % 6))) (y := (da % 6)) (rvk (by kernel_rfl)) (by first | rfl | (rw [IntKind.wrap_i64]; omega)))) ?_
 simp only [p3, p4]
 refine ow 48 (.int .i64 ((1 + (da % 6)))) rfl (fun w' hS => (RunV.int (x := IntKind.i64.wrap ((1 + (da % 6)))) (y := (1 + (da % 6))) (rvk (by kernel_rfl)) (by first | rfl | (rw [IntKind.wrap_i64]; omega)))) ?_
 simp only [p3, p4]
 refine ow 49 (.int .i64 (Int.tmod (ia2) ((1 + (da % 6))))) rfl (fun w' hS => (rv_remt 3 3 _ _ _ _ rfl rfl rfl (by omega))) ?_
 simp only [p3, p4]
 refine ow 50 (.bool true) rfl (fun w' hS => (RunV.bool (x := (Int.tmod (ia2) ((1 + (da % 6))) == (0 : Int))) (rvk (by kernel_rfl)) t2)) ?_
 simp only [p3, p4]
 refine ov 51 (.bool true) ?_
 simp only [p3, p4]
 refine ov 9 (.bool true) ?_
 simp only [p3, p4]
 refine ord_nil ?_
 refine k46 _ _ ?_
 try clear k46 K46
 refine rg [0, 1, 2] ?_
 refine sv 35 (.int .i64 1) ?_
 simp only [p3, p4]
 refine sv 36 (.int .i64 2) ?_
 simp only [p3, p4]
 refine sv 10 (.int .i64 2) ?_
 simp only [p3, p4]
 refine sq_nil ?_
 show Code.rounds _ _ _ _ _ _
 show Code.wp _ _ _ _ _
 refine wp_seq_k (fun K49 k49 => ?_)
 refine wp_seq_k (fun K50 k50 => ?_)
 refine rg [0, 1] ?_
 refine sv 33 (.int .i64 2) ?_
 simp only [p3, p4]
 refine sv 34 (.bool true) ?_
 simp only [p3, p4]
 refine sq_nil ?_
 refine k50 _ _ ?_
 try clear k50 K50
 refine wp_cond_true rfl ?_
 refine wp_skip ?_
 refine k49 _ _ ?_
 try clear k49 K49
 refine wp_seq_k (fun K51 k51 => ?_)
 refine wp_block ?_
 have gd53 := Gr.drew ((w35.drew).drew)
 replace hB := hB.trans gd53
 replace L3 := L3.gr gd53
 refine wp_region_ord (fun w' => Lc w' b3 #[(.int .i8 (ia1)), (.int .i8 (ia2)), (.int .i8 (ia3)), (.int .u8 (da))] 42) [(true, 0), (true, 1), (true, 2), (true, 3), (true, 4), (true, 5), (true, 6), (true, 7), (true, 8), (true, 9), (true, 10), (true, 11), (true, 12), (true, 13), (true, 14), (true, 15)] (by kernel_rfl) (by kernel_rfl) (by kernel_rfl) (by decide) (fun _ _ _ _ _ h => h) L3 ?_
 refine ov 37 (.bool true) ?_
 simp only [p3, p4]
 refine ov 38 (.bool true) ?_
 simp only [p3, p4]
 refine ov 39 (.int .i64 2) ?_
 simp only [p3, p4]
 refine ov 40 (.pointer (some ⟨b3, 0, none⟩)) ?_
 simp only [p3, p4]
 refine ov 41 (.pointer (some ⟨b3, 2, none⟩)) ?_
 simp only [p3, p4]
 refine ow 42 (.int .i8 (ia3)) rfl (fun w' hS => (rk 39 2 hS)) ?_
 simp only [p3, p4]
 refine ow 43 (.int .i64 (ia3)) rfl (fun w' hS => (RunV.int (x := IntKind.i64.wrap (ia3)) (y := ia3) (rvk (by kernel_rfl)) (by first | rfl | (rw [IntKind.wrap_i64]; omega)))) ?_
 simp only [p3, p4]
 refine ov 44 (.pointer (some ⟨b3, 3, none⟩)) ?_
 simp only [p3, p4]
 refine ow 45 (.int .u8 (da)) rfl (fun w' hS => (rk 5 3 hS)) ?_
 simp only [p3, p4]
 refine ow 46 (.int .u8 ((da % 6))) rfl (fun w' hS => (RunV.int (x := Int.tmod (da) 6) (y := da % 6) (rvk (by kernel_rfl)) (by rw [Int.tmod_eq_emod_of_nonneg (by first | omega | exact Int.natCast_nonneg _)]))) ?_
 simp only [p3, p4]
 refine ow 47 (.int .i64 ((da % 6))) rfl (fun w' hS => (RunV.int (x := IntKind.i64.wrap ((da % 6))) (y := (da % 6)) (rvk (by kernel_rfl)) (by first | rfl | (rw [IntKind.wrap_i64]; omega)))) ?_
 simp only [p3, p4]
 refine ow 48 (.int .i64 ((1 + (da % 6)))) rfl (fun w' hS => (RunV.int (x := IntKind.i64.wrap ((1 + (da % 6)))) (y := (1 + (da % 6))) (rvk (by kernel_rfl)) (by first | rfl | (rw [IntKind.wrap_i64]; omega)))) ?_
 simp only [p3, p4]
 refine ow 49 (.int .i64 (Int.tmod (ia3) ((1 + (da % 6))))) rfl (fun w' hS => (rv_remt 3 3 _ _ _ _ rfl rfl rfl (by omega))) ?_
 simp only [p3, p4]
 refine ow 50 (.bool true) rfl (fun w' hS => (RunV.bool (x := (Int.tmod (ia3) ((1 + (da % 6))) == (0 : Int))) (rvk (by kernel_rfl)) t3)) ?_
 simp only [p3, p4]
 refine ov 51 (.bool true) ?_
 simp only [p3, p4]
 refine ov 9 (.bool true) ?_
 simp only [p3, p4]
 refine ord_nil ?_
 refine k51 _ _ ?_
 try clear k51 K51
 refine rg [0, 1, 2] ?_
 refine sv 35 (.int .i64 2) ?_
 simp only [p3, p4]
 refine sv 36 (.int .i64 3) ?_
 simp only [p3, p4]
 refine sv 10 (.int .i64 3) ?_
 simp only [p3, p4]
 refine sq_nil ?_
 show Code.rounds _ _ _ _ _ _
 show Code.wp _ _ _ _ _
 refine wp_seq_k (fun K54 k54 => ?_)
 refine wp_seq_k (fun K55 k55 => ?_)
 refine rg [0, 1] ?_
 refine sv 33 (.int .i64 3) ?_
 simp only [p3, p4]
 refine sv 34 (.bool false) ?_
 simp only [p3, p4]
 refine sq_nil ?_
 refine k55 _ _ ?_
 try clear k55 K55
 refine wp_cond_false rfl ?_
 refine wp_exit ?_
 simp only [Exit.then, Exit.inBlock, ↓reduceIte]
 refine k37 _ _ ?_
 try clear k37 K37
 refine wp_seq_k (fun K56 k56 => ?_)
 have gd66 := Gr.drew (((w35.drew).drew).drew)
 replace hB := hB.trans gd66
 replace L2 := (st35.lc (L2.gr g34) ne2_34).gr (gd43.trans (gd48.trans (gd53.trans gd66)))
 replace L3 := L3.gr gd66
 replace L29 := (st35.lc (L29.gr g34) ne29_34).gr (gd43.trans (gd48.trans (gd53.trans gd66)))
 replace L34 := L34.gr (gd43.trans (gd48.trans (gd53.trans gd66)))
 refine wp_region_ord (fun w' => Lc w' b2 #[(.int .i64 (n1)), (.int .i64 (n2)), (.int .i64 (n3))] 45 ∧ Lc w' b3 #[(.int .i8 (ia1)), (.int .i8 (ia2)), (.int .i8 (ia3)), (.int .u8 (da))] 42 ∧ Lc w' b29 #[(.int .i64 (n1)), (.int .i64 (n2)), (.int .i64 (n3))] 45 ∧ Lc w' b34 #[(.int .i64 (valQ (a1))), (.int .i64 (valQ (a2))), (.int .i64 (valQ (a3)))] 45) [(true, 0), (true, 1), (true, 2), (true, 3), (true, 4), (true, 5), (true, 6), (true, 7), (true, 8), (true, 9), (true, 10), (true, 11), (true, 12), (true, 13), (true, 14), (true, 15), (true, 16), (true, 18), (false, 17), (false, 19), (false, 20), (true, 21), (true, 22), (true, 23), (true, 24), (true, 25), (true, 26), (true, 27), (true, 28), (true, 29), (true, 30), (true, 31), (true, 32), (true, 33), (true, 34), (true, 35), (true, 36)] (by kernel_rfl) (by kernel_rfl) (by kernel_rfl) (by decide) (fun _ _ _ _ _ h => h) ⟨L2, L3, L29, L34⟩ ?_
 refine ov 52 (.int .i64 0) ?_
 simp only [p3, p4]
 refine ov 53 (.bool true) ?_
 simp only [p3, p4]
 refine ov 54 (.bool true) ?_
 simp only [p3, p4]
 refine ow 55 (.agg #[(.int .i64 (n1)), (.int .i64 (n2)), (.int .i64 (n3))]) rfl (fun w' hS => (rl 45 0 [(.int .i64 (n1)), (.int .i64 (n2)), (.int .i64 (n3))] hS.2.2.1)) ?_
 simp only [p3, p4]
 refine ow 56 (.agg #[(.int .i64 (n1)), (.int .i64 (n2)), (.int .i64 (n3))]) rfl (fun w' hS => (rl 45 0 [(.int .i64 (n1)), (.int .i64 (n2)), (.int .i64 (n3))] hS.1)) ?_
 simp only [p3, p4]
 have hb67 : ((n1 == n1 && n2 == n2 && n3 == n3)) = true := (by simp)
 refine ow 57 (.bool true) rfl (fun w' hS => (RunV.bool (x := (n1 == n1 && n2 == n2 && n3 == n3)) (rv_arreq 45 45 3 (k := .i64) _ _ [n1, n2, n3] [n1, n2, n3] rfl rfl rfl (by kernel_rfl) (by kernel_rfl) (by kernel_rfl)) hb67)) ?_
 simp only [p3, p4]
 refine ov 58 (.bool true) ?_
 simp only [p3, p4]
 refine ov 59 (.bool true) ?_
 simp only [p3, p4]
 refine ov 60 (.int .i64 0) ?_
 simp only [p3, p4]
 refine ov 61 (.bool true) ?_
 simp only [p3, p4]
 refine ov 62 (.bool true) ?_
 simp only [p3, p4]
 refine ov 63 (.bool true) ?_
 simp only [p3, p4]
 refine ov 64 (.bool true) ?_
 simp only [p3, p4]
 refine ov 65 (.bool true) ?_
 simp only [p3, p4]
 refine ov 66 (.bool true) ?_
 simp only [p3, p4]
 refine ov 67 (.bool true) ?_
 simp only [p3, p4]
 refine ow 68 (.agg #[(.int .i8 (ia1)), (.int .i8 (ia2)), (.int .i8 (ia3)), (.int .u8 (da))]) rfl (fun w' hS => (rl 42 0 [(.int .i8 (ia1)), (.int .i8 (ia2)), (.int .i8 (ia3)), (.int .u8 (da))] hS.2.1)) ?_
 simp only [p3, p4]
 refine ow 70 (.agg #[(.int .i64 (valQ (a1))), (.int .i64 (valQ (a2))), (.int .i64 (valQ (a3)))]) rfl (fun w' hS => (rl 45 0 [(.int .i64 (valQ (a1))), (.int .i64 (valQ (a2))), (.int .i64 (valQ (a3)))] hS.2.2.2)) ?_
 simp only [p3, p4]
 refine oe ?_
 refine ec 69 (made_v ia1 ia2 ia3 da ja1 ja2 ja3 jda a1 a2 a3 ea1 ea2 ea3 _ (hm.gr hB)) ?_
 rintro e69 w69 ⟨⟨t69_0, t69_1, t69_2, t69_3, t69_4, t69_5, t69_6, t69_7, t69_8, t69_9, t69_10, t69_11, rfl, h69a, h69b, h69c⟩, g69⟩
 refine ⟨_, rfl, ?_⟩
 replace hB := hB.trans g69
 replace L2 := L2.gr g69
 replace L3 := L3.gr g69
 replace L29 := L29.gr g69
 replace L34 := L34.gr g69
 refine ⟨⟨L2, L3, L29, L34⟩, ?_⟩
 simp only [p3, p4]
 refine oe ?_
 refine ec 71 (r3_of (valQ (a1)) (valQ (a2)) (valQ (a3)) (fits_eq f1).2 (fits_eq f2).2 (fits_eq f3).2 _) ?_
 rintro e71 w71 ⟨rfl, g71⟩
 refine ⟨_, rfl, ?_⟩
 replace hB := hB.trans g71
 replace L2 := L2.gr g71
 replace L3 := L3.gr g71
 replace L29 := L29.gr g71
 replace L34 := L34.gr g71
 refine ⟨⟨L2, L3, L29, L34⟩, ?_⟩
 simp only [p3, p4]
 refine oe ?_
 replace h69a := h69a.kp g71.kp
 replace h69b := h69b.kp g71.kp
 replace h69c := h69c.kp g71.kp
 refine ec 72 (is_v (ratL (((valQ (a1) : Int) : Rat))) (ratL (((valQ (a2) : Int) : Rat))) (ratL (((valQ (a3) : Int) : Rat))) h69a h69b h69c (by omega) (ht.gr hB)) ?_
 rintro e73 w73 ⟨rfl, g73⟩
 refine ⟨_, rfl, ?_⟩
 replace hB := hB.trans g73
 replace L2 := L2.gr g73
 replace L3 := L3.gr g73
 replace L29 := L29.gr g73
 replace L34 := L34.gr g73
 refine ⟨⟨L2, L3, L29, L34⟩, ?_⟩
 simp only [p3, p4]
 have hb74 : (sEq [ratL (a1), ratL (a2), ratL (a3)] [ratL (((valQ (a1) : Int) : Rat)), ratL (((valQ (a2) : Int) : Rat)), ratL (((valQ (a3) : Int) : Rat))]) = true := (sEq_fits f1 f2 f3)
 refine ow 73 (.bool true) rfl (fun w' hS => (RunV.bool (x := sEq [ratL (a1), ratL (a2), ratL (a3)] [ratL (((valQ (a1) : Int) : Rat)), ratL (((valQ (a2) : Int) : Rat)), ratL (((valQ (a3) : Int) : Rat))]) (rvk (by kernel_rfl)) hb74)) ?_
 simp only [p3, p4]
 refine ov 74 (.bool true) ?_
 simp only [p3, p4]
 refine os 75 ?_
 simp only [p3, p4]
 refine os 76 ?_
 simp only [p3, p4]
 refine os 77 ?_
 simp only [p3, p4]
 refine os 78 ?_
 simp only [p3, p4]
 refine os 79 ?_
 simp only [p3, p4]
 refine os 80 ?_
 simp only [p3, p4]
 refine os 81 ?_
 simp only [p3, p4]
 refine os 82 ?_
 simp only [p3, p4]
 refine os 83 ?_
 simp only [p3, p4]
 refine os 84 ?_
 simp only [p3, p4]
 refine os 85 ?_
 simp only [p3, p4]
 refine ov 86 (.bool true) ?_
 simp only [p3, p4]
 refine ov 87 (.bool true) ?_
 simp only [p3, p4]
 refine ov 4 (.bool true) ?_
 simp only [p3, p4]
 refine ord_nil ?_
 refine k56 _ _ ?_
 try clear k56 K56
 refine wp_ret ?_
 refine bodyPost_ret (v := (.bool true)) (ret_tmp rfl rfl) rfl ⟨?_, hB⟩
 exact rfl

theorem vector_ints (n1 n2 n3 : Int) (jn1 : -9223372036854775808 ≤ n1 ∧ n1 ≤ 9223372036854775807) (jn2 : -9223372036854775808 ≤ n2 ∧ n2 ≤ 9223372036854775807) (jn3 : -9223372036854775808 ≤ n3 ∧ n3 ≤ 9223372036854775807) (ia1 ia2 ia3 da : Int) (ja1 : -128 ≤ ia1 ∧ ia1 ≤ 127) (ja2 : -128 ≤ ia2 ∧ ia2 ≤ 127) (ja3 : -128 ≤ ia3 ∧ ia3 ≤ 127) (jda : 0 ≤ da ∧ da ≤ 255) (w : World) (ht : Tab w) (hm : Mx w) :
    Calls Tryz.prog 11 #[(.agg #[(.int .i64 (n1)), (.int .i64 (n2)), (.int .i64 (n3))]), (.agg #[(.int .i8 (ia1)), (.int .i8 (ia2)), (.int .i8 (ia3)), (.int .u8 (da))])] w fun e w' => e = .returned (.bool true) ∧ Gr w w' := by
  obtain ⟨a1, ea1⟩ : ∃ r : Rat, r = ((ia1 : Int) : Rat) / ((1 + da % 6 : Int) : Rat) := ⟨_, rfl⟩
  obtain ⟨a2, ea2⟩ : ∃ r : Rat, r = ((ia2 : Int) : Rat) / ((1 + da % 6 : Int) : Rat) := ⟨_, rfl⟩
  obtain ⟨a3, ea3⟩ : ∃ r : Rat, r = ((ia3 : Int) : Rat) / ((1 + da % 6 : Int) : Rat) := ⟨_, rfl⟩
  rcases Bool.eq_false_or_eq_true (Int.tmod (ia1) (1 + (da % 6)) == (0 : Int)) with t1 | t1
  rotate_left
  · exact vinl_0 n1 n2 n3 jn1 jn2 jn3 ia1 ia2 ia3 da ja1 ja2 ja3 jda a1 a2 a3 ea1 ea2 ea3 t1 w ht hm
  rcases Bool.eq_false_or_eq_true (Int.tmod (ia2) (1 + (da % 6)) == (0 : Int)) with t2 | t2
  rotate_left
  · exact vinl_1 n1 n2 n3 jn1 jn2 jn3 ia1 ia2 ia3 da ja1 ja2 ja3 jda a1 a2 a3 ea1 ea2 ea3 t1 t2 w ht hm
  rcases Bool.eq_false_or_eq_true (Int.tmod (ia3) (1 + (da % 6)) == (0 : Int)) with t3 | t3
  rotate_left
  · exact vinl_2 n1 n2 n3 jn1 jn2 jn3 ia1 ia2 ia3 da ja1 ja2 ja3 jda a1 a2 a3 ea1 ea2 ea3 t1 t2 t3 w ht hm
  exact vinl_3 n1 n2 n3 jn1 jn2 jn3 ia1 ia2 ia3 da ja1 ja2 ja3 jda a1 a2 a3 ea1 ea2 ea3 t1 t2 t3 w ht hm

end Go.Proofs.YtlcmllfacolkaaaGreatDoor
/- The law VectorInts holds of every input: its row, and its card tied to the program's text. Printed by a program of the prover's. -/
namespace Go.Proofs.YtlcmllfacolkaaaGreatDoor
open Go.ChangeShapes Go.WideShapes Go.ChangeAt Go.RowKit

theorem vectorInts_table {W : World} (h : laidMetH Tryz.prog Rows.vectorIntsRow.laid W) : Tab W :=
  Lib.tabIs_of_head (rest := _) (g := 1) (t := 208) (e := 132) (n := 20) (by kernel_rfl) (by kernel_rfl) (by kernel_rfl) (by kernel_rfl) (by kernel_rfl) (by kernel_rfl) ((show laidMet Tryz.prog Rows.vectorIntsRow.laid W from (MakeChecks.laidMetH_plain _ _ _ (by kernel_rfl)) ▸ h).tail.tail)
theorem vectorInts_maxlen {W : World} (h : W.ShapedOpen Tryz.prog) : Mx W :=
  Go.Proofs.cell_of_shapedOpen_int (zero := #[.int .i64 0]) (g := 0) (t := 3) h (of_decide_eq_true (by kernel_rfl)) (by kernel_rfl) rfl (by kernel_rfl) (by kernel_rfl) Tryz.underlying3
set_option maxRecDepth 100000 in
theorem vectorInts_contract (H : Type) (enc : TypeId × Value → H) (W : World) (base : Nat) (args : Array Value) (ds gs : List (DataW H)) (before : List MemPlace)
    (hval : ∀ (j : Nat) t v, Tryz.f11.params[j]? = some t → args[j]? = some v → Value.okWide Tryz.prog W .any base t v)
    (hW : DataW.Whole enc Tryz.prog Tryz.f11.params.toList Rows.vectorIntsSpec.vars false W args.toList ds gs before) (hL : laidMetH Tryz.prog Rows.vectorIntsRow.laid W) (hsh : W.ShapedOpen Tryz.prog) :
    Calls Tryz.prog 11 args W fun e W' => ∃ v, e = .returned v ∧ Rows.vectorIntsSpec.post enc Tryz.prog Tryz.f11 false true false false W args v W' := by
  have hW' := hW
  obtain ⟨p, q, hA0, hV, rfl, hfz, hnd⟩ := hW
  have hA : DataW.TrodAll enc Tryz.prog W 0 (fun _ => true) true Tryz.f11.params.toList args.toList ds p := hA0
  rw [Tryz.params11] at hA hval
  obtain ⟨v0, vs0, d0, ds0, p0, q0, hargs, rfl, rfl, h0, r0⟩ := trodAll_cons hA
  obtain ⟨v1, vs1, d1, ds1, p1, q1, rfl, rfl, rfl, h1, r1⟩ := trodAll_cons r0
  obtain ⟨rfl, rfl, rfl⟩ := trodAll_nil r1
  obtain rfl : args = #[v0, v1] := by cases args; simp_all
  obtain ⟨rfl, rfl⟩ := trodVars_none hV
  obtain ⟨c0, rfl, z0, o0⟩ := open_cells (ts := [3, 3, 3]) [.i64, .i64, .i64] (by kernel_rfl) (by kernel_rfl) (by kernel_rfl) (by kernel_rfl) (hval 0 45 v0 rfl rfl)
  obtain ⟨n0_0, y0_0, b0_0⟩ := o0 0 .i64 rfl
  obtain ⟨n0_1, y0_1, b0_1⟩ := o0 1 .i64 rfl
  obtain ⟨n0_2, y0_2, b0_2⟩ := o0 2 .i64 rfl
  obtain rfl : c0 = #[.int .i64 n0_0, .int .i64 n0_1, .int .i64 n0_2] := by
    apply Array.ext_getElem?; intro i
    rcases i with _ | _ | _ | i
    · exact y0_0
    · exact y0_1
    · exact y0_2
    · rw [Array.getElem?_eq_none (by simp at z0; omega), Array.getElem?_eq_none (by simp)]
  obtain ⟨c1, rfl, z1, o1⟩ := open_cells (ts := [39, 39, 39, 5]) [.i8, .i8, .i8, .u8] (by kernel_rfl) (by kernel_rfl) (by kernel_rfl) (by kernel_rfl) (hval 1 42 v1 rfl rfl)
  obtain ⟨n1_0, y1_0, b1_0⟩ := o1 0 .i8 rfl
  obtain ⟨n1_1, y1_1, b1_1⟩ := o1 1 .i8 rfl
  obtain ⟨n1_2, y1_2, b1_2⟩ := o1 2 .i8 rfl
  obtain ⟨n1_3, y1_3, b1_3⟩ := o1 3 .u8 rfl
  obtain rfl : c1 = #[.int .i8 n1_0, .int .i8 n1_1, .int .i8 n1_2, .int .u8 n1_3] := by
    apply Array.ext_getElem?; intro i
    rcases i with _ | _ | _ | _ | i
    · exact y1_0
    · exact y1_1
    · exact y1_2
    · exact y1_3
    · rw [Array.getElem?_eq_none (by simp at z1; omega), Array.getElem?_eq_none (by simp)]
  refine (vector_ints n0_0 n0_1 n0_2 (has_i64 b0_0) (has_i64 b0_1) (has_i64 b0_2)  n1_0 n1_1 n1_2 n1_3 (has_i8 b1_0) (has_i8 b1_1) (has_i8 b1_2) (has_u8 b1_3) W (vectorInts_table hL) (vectorInts_maxlen hsh)).mono fun e W' ⟨he, hg⟩ => ?_
  subst he
  exact ⟨_, rfl, law_post (tb := 4) laidOut (by kernel_rfl) (by kernel_rfl) (by kernel_rfl) rfl hW' rfl hg⟩
noncomputable def vectorInts_world (os : Os) : World := World.laidAll Tryz.prog os Rows.vectorIntsRow.laid
theorem vectorInts_met (os : Os) : laidMet Tryz.prog Rows.vectorIntsRow.laid ((vectorInts_world os).forCall (fun _ _ => 0) ⟨#[], #[.agg #[.int .i64 0, .int .i64 0, .int .i64 0], .agg #[.int .i8 0, .int .i8 0, .int .i8 0, .int .u8 0]], []⟩).memory :=
  laidMet_laidAll _ (by kernel_rfl) (by kernel_rfl)
theorem vectorInts_reads (os : Os) {H : Type} (enc : TypeId × Value → H) : ∃ places, DataW.whole enc Tryz.prog ((vectorInts_world os).forCall (fun _ _ => 0) ⟨#[], #[.agg #[.int .i64 0, .int .i64 0, .int .i64 0], .agg #[.int .i8 0, .int .i8 0, .int .i8 0, .int .u8 0]], []⟩).memory Tryz.f11.params.toList Rows.vectorIntsSpec.vars false (#[.agg #[.int .i64 0, .int .i64 0, .int .i64 0], .agg #[.int .i8 0, .int .i8 0, .int .i8 0, .int .u8 0]] : Array Value).toList 8 = some ([.agg [.lit (.int .i64 0), .lit (.int .i64 0), .lit (.int .i64 0)], .agg [.agg [.lit (.int .i8 0), .lit (.int .i8 0), .lit (.int .i8 0)], .lit (.int .u8 0)]], [], places) :=
  ⟨[], by kernel_rfl⟩
set_option maxRecDepth 100000 in
theorem vectorInts_lifted (os : Os) (started : os.Started) (H : Type) (enc : TypeId × Value → H) (F : Stop.Interp) :
    ReturnsInHanded {} Tryz.checked os 11 .any ((OpenSpec.ofChange Rows.vectorIntsSpec).preRow enc Tryz.prog Tryz.f11 Rows.vectorIntsRow.domain false Rows.vectorIntsRow.laid) (((OpenSpec.ofChange Rows.vectorIntsSpec).at F).post enc Tryz.prog Tryz.f11 false true false false) := by
  obtain ⟨places, hx⟩ := vectorInts_reads os enc
  refine returnsInHanded_of_row (C := Tryz.checked) (s := OpenSpec.ofChange Rows.vectorIntsSpec) own started (by kernel_rfl) Tryz.func11
    (witness_row_sh (enc := enc) (C := Tryz.checked) false (vectorInts_world os) #[.agg #[.int .i64 0, .int .i64 0, .int .i64 0], .agg #[.int .i8 0, .int .i8 0, .int .i8 0, .int .u8 0]] (World.laidAll_os _ _ _) (World.shaped_of_ZipB (by kernel_rfl) (by kernel_rfl)) (by kernel_rfl)
      (OpenSpec.preRow_of_cond 8 hx (by kernel_rfl) (fun k hk => by cases hk) (by kernel_rfl) (by rw [MakeChecks.laidMetH_plain _ _ _ (by kernel_rfl)]; exact vectorInts_met os))) ?_
  intro W base args ds gs before hval hW _ _ _ hL hsh _
  exact vectorInts_contract H enc W base args ds gs before hval hW hL hsh
theorem vectorInts_said : Rows.VectorIntsSaid :=
  OpenClaim.holds_of_cond 11 Tryz.f11 rfl rfl rfl rfl rfl rfl rfl ⟨rfl, rfl, rfl, rfl, rfl⟩ rfl rfl rfl rfl rfl (by kernel_rfl) Tryz.func11 (by kernel_rfl)
    (of_decide_eq_true (by kernel_rfl)) (by unfold Func.isWrapper; first | (rw [if_pos (by decide +kernel)]; kernel_rfl) | (rw [if_neg (by decide +kernel)]; exact ⟨rfl, rfl⟩))
    (fun os started H enc _ F => by rw [OpenClaim.pre_eq_preRow]; exact vectorInts_lifted os started H enc F)
theorem vectorInts_plain (f : FuncId) (fn : Func) (hf : Tryz.pinned.checked.prog.funcNamed "dowel/dowellaw03.VectorInts" = some f) (hfn : Tryz.pinned.checked.prog.funcs[f]? = some fn) :
    true = Tryz.pinned.checked.prog.looks [] ∧ ∀ (j : Nat) t, fn.params[j]? = some t → Tryz.pinned.checked.prog.wantsStandIn t = false := by
  obtain rfl : f = 11 := Option.some.inj ((show Tryz.prog.funcNamed "dowel/dowellaw03.VectorInts" = some 11 by kernel_rfl).symm.trans hf) |>.symm
  obtain rfl : fn = Tryz.f11 := (Option.some.inj (Tryz.func11.symm.trans hfn)).symm
  refine ⟨by kernel_rfl, fun j t ht => ?_⟩
  rw [Tryz.params11] at ht
  have hm := Array.mem_of_getElem? ht
  have hall : (#[45, 42] : Array TypeId).toList.all (fun t => !Tryz.prog.wantsStandIn t) = true := by kernel_rfl
  have := List.all_eq_true.1 hall t (Array.mem_toList_iff.2 hm)
  have h3 : Tryz.prog.wantsStandIn t = false := by simpa using this
  exact h3
/-- the card -/
theorem vectorInts_card : Rows.VectorIntsCardSaid :=
  Claim7.holds_tied_plain_at .later [] _ _ _ _ vectorInts_said (fun _ h => by cases h) (by kernel_rfl) (fun _ h => by cases h) vectorInts_row_tie rfl ⟨rfl, rfl⟩ (by kernel_rfl) rfl vectorInts_plain (by kernel_rfl)
end Go.Proofs.YtlcmllfacolkaaaGreatDoor
