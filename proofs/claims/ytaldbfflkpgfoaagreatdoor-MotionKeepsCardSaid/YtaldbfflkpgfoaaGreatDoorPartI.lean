/- Joined of: Gen130, Kpd, Gen133, RowMotionKeeps. -/
import Derived.Test.YtaldbfflkpgfoaaGreatDoorPartH
import Derived.Test.YtaldbfflkpgfoaaGreatDoorPartF
import Derived.Test.YtaldbfflkpgfoaaGreatDoorCards
import Derived.Test.YtaldbfflkpgfoaaGreatDoorTie
/- Printed by a program of the prover's: MotionApplies. -/
namespace Go.Proofs.YtaldbfflkpgfoaaGreatDoor
open Go.RowKit

/-- how the regions that draw their order are run -/
noncomputable def tabMa : List (Nat × List (Nat × Ent)) := [(8, [(3, .flo [(true, 0), (true, 2), (false, 1), (false, 3), (false, 4)] [(5, 5, 41), (6, 6, 50)] [(false, 7), (false, 8)] []), (5, .ord [(true, 0), (true, 1), (true, 4), (true, 5), (false, 2), (false, 3), (false, 6), (false, 7), (true, 8), (true, 9), (true, 10), (true, 11), (true, 14), (true, 15), (false, 12), (false, 13), (false, 16), (false, 17), (true, 18), (true, 19), (true, 20), (true, 21), (true, 23), (false, 22), (false, 24), (false, 25), (true, 26), (true, 27)] []), (7, .ord [(true, 1), (true, 3), (false, 0), (false, 2), (false, 4), (true, 5), (true, 7), (false, 6), (false, 8), (true, 9), (false, 10), (false, 11), (true, 12), (true, 13)] [])]),
 (17, [(4, .ord [(true, 0), (true, 1), (true, 2), (true, 3), (true, 5), (true, 6), (true, 7), (true, 8), (false, 4), (false, 9), (true, 10)] []), (6, .ord [(true, 0), (true, 1), (true, 3), (true, 4), (false, 2), (false, 5), (true, 6), (true, 7)] [])]),
 (18, [(1, .ord [(true, 0), (true, 1), (true, 3), (true, 4), (false, 2), (false, 5), (true, 6), (false, 7)] [2])]),
 (19, [(5, .ord [(true, 0), (true, 1), (true, 3), (true, 4), (false, 2), (true, 5), (false, 6)] [1])]),
 (20, []),
 (23, []),
 (28, [(3, .ord [(true, 0), (true, 1), (false, 2), (false, 3), (false, 4)] [2, 3])]),
 (29, []),
 (36, []),
 (38, []),
 (40, []),
 (43, [(1, .ord [(true, 0), (true, 1), (true, 3), (true, 4), (false, 2), (false, 5), (false, 6)] [4])]),
 (44, []),
 (45, []),
 (46, [(1, .ord [(true, 0), (true, 1), (true, 3), (true, 4), (false, 2), (false, 5), (false, 6)] [4])]),
 (47, [(1, .ord [(true, 0), (true, 1), (true, 2), (true, 3), (true, 5), (true, 6), (true, 7), (true, 8), (true, 10), (true, 11), (true, 12), (true, 13), (false, 4), (false, 9), (false, 14), (true, 15), (false, 16)] [4])]),
 (48, []),
 (49, []),
 (62, [(1, .ord [(true, 0), (true, 1), (true, 2), (true, 3), (true, 4), (true, 5), (true, 6), (true, 7), (true, 8), (true, 9), (true, 10), (true, 11)] []), (11, .ord [(true, 0), (true, 1), (true, 2), (true, 3), (true, 4), (true, 5), (true, 6), (true, 8), (true, 10), (false, 7), (false, 9), (true, 11), (false, 12)] [9])]),
 (63, []),
 (69, [(8, .ord [(true, 0), (true, 1), (true, 2), (true, 3), (true, 4), (false, 5)] [3])]),
 (70, [(8, .ord [(true, 0), (true, 1), (true, 2), (true, 3), (true, 4), (true, 5), (true, 6), (true, 7), (true, 8), (false, 9)] [3])]),
 (71, [(1, .ord [(true, 0), (true, 1), (true, 2), (true, 3), (true, 5), (true, 6), (true, 7), (true, 8), (true, 11), (true, 12), (true, 13), (true, 14), (false, 4), (false, 9), (false, 10), (false, 15), (false, 16), (true, 17)] [])]),
 (73, []),
 (74, [(5, .ord [(true, 0), (true, 1), (true, 2), (true, 3), (true, 4), (true, 5), (true, 6), (true, 7), (false, 8), (true, 9), (false, 10)] [7])]),
 (83, []),
 (84, [(4, .ord [(true, 0), (true, 1), (true, 2), (true, 3), (true, 4), (true, 5), (false, 6), (true, 7)] [])]),
 (86, []),
 (88, [(1, .ord [(true, 0), (true, 1), (true, 2), (true, 3), (true, 5), (true, 6), (true, 7), (true, 8), (true, 10), (true, 11), (true, 12), (true, 13), (false, 4), (false, 9), (false, 14), (true, 15), (false, 16)] [4])]),
 (89, [(1, .ord [(true, 0), (true, 1), (true, 3), (true, 4), (true, 6), (true, 7), (false, 2), (false, 5), (false, 8), (true, 9), (false, 10)] [2])]),
 (93, [])]
noncomputable def conMa : List (Nat × ConT) := [(103, conRR 100000 (fun k m => k + m + 1) (fun a b => a + b)),
 (75, conRR 100000 (fun k m => k + m + 1) (fun a b => a - b)),
 (82, conRR 100000 (fun k m => k + m) (fun a b => a * b)),
 (108, cNeg),
 (59, cFrom),
 (37, cComp),
 (76, cSign),
 (87, cNumb),
 (130, cNum),
 (81, cDen),
 (58, cDiv),
 (96, cZFrom),
 (80, cZMul),
 (122, cZGcd),
 (123, cZDiv),
 (68, cZInt),
 (105, cTT (fun k m => k + m + 1) fun a b => a + b),
 (132, cTT (fun k m => k + m + 1) fun a b => a - b),
 (106, cTT (fun k m => k + m) fun a b => a * b),
 (64, cTDiv),
 (115, cTNeg),
 (65, cTFrom),
 (94, cPars 400),
 (107, cPars 65536),
 (15, cChk),
 (66, cPrim),
 (14, cOf),
 (16, cMEq),
 (67, cTurn),
 (21, cPlc),
 (11, cKnown)]
noncomputable def sysMa : Sys := ⟨Tryz.prog, 2, 199, tabMa, conMa, fun w => Tab w ∧ Mx w⟩
theorem sysMa_ok : sysMa.OK where
  mixed := by kernel_rfl
  calls := fun f h0 h1 => by
    have : (List.range 199).all (fun f => Nat.blt f 2 || okCall Tryz.prog f) = true := by kernel_rfl
    have := List.all_eq_true.1 this f (List.mem_range.2 h1)
    simp only [Bool.or_eq_true] at this
    exact this.resolve_left (fun e => by have := blt_of e; exact absurd h0 (by show ¬ 2 ≤ f; omega))
  tab := by
    have : tabMa.all (okTab Tryz.prog) = true := by kernel_rfl
    exact fun x hx => List.all_eq_true.1 this x hx
  con := fun x hx => by
    simp only [sysMa, conMa, List.mem_cons, List.not_mem_nil, or_false] at hx
    rcases hx with rfl | rfl | rfl | rfl | rfl | rfl | rfl | rfl | rfl | rfl | rfl | rfl | rfl | rfl | rfl | rfl | rfl | rfl | rfl | rfl | rfl | rfl | rfl | rfl | rfl | rfl | rfl | rfl | rfl | rfl | rfl
    · exact conRR_ok fun h1 h2 h3 => add_r h1 h2 h3
    · exact conRR_ok fun h1 h2 h3 => sub_r h1 h2 h3
    · exact conRR_ok fun h1 h2 h3 => mul_r h1 h2 h3
    · exact cNeg_ok
    · exact cFrom_ok
    · exact cComp_ok
    · exact cSign_ok
    · exact cNumb_ok fun w h => h.1
    · exact cNum_ok
    · exact cDen_ok
    · exact cDiv_ok
    · exact cZFrom_ok
    · exact cZMul_ok
    · exact cZGcd_ok
    · exact cZDiv_ok
    · exact cZInt_ok
    · exact cTAdd_ok
    · exact cTSub_ok
    · exact cTMul_ok
    · exact cTDiv_ok
    · exact cTNeg_ok
    · exact cTFrom_ok
    · exact cPars_ok fun w h => h.2
    · exact cRead_ok fun w h => h.2
    · exact cChk_ok fun w h => h.2
    · exact cPrim_ok
    · exact cOf_ok fun w h => h
    · exact cMEq_ok
    · exact cTurn_ok
    · exact cPlc_ok fun w h => h
    · exact cKnown_ok fun w h => h
  inv := fun w w' h g => ⟨h.1.gr g, h.2.gr g⟩
def asN : Nat → Rat → Lf → Lf
  | 0, _, l => l
  | n + 1, x, l => .as (decide (x ≠ 0)) true (asN n x l)
theorem asN_ok {P : SV → Prop} {x : Rat} {l : Lf} {n : Nat} (h : x ≠ 0) (hl : LOK P l) : LOK P (asN n x l) := by
  induction n with
  | zero => exact hl
  | succ n ih => exact ⟨decide_eq_true h, ih⟩
def l3 (a b c : Rat) : List (List UInt8) := [ratL a, ratL b, ratL c]
theorem eE3 {a b c x y z : Rat} (h1 : a = x) (h2 : b = y) (h3 : c = z) : sEq (l3 a b c) (l3 x y z) = true := by subst h1 h2 h3; exact sEq_same _
theorem nE3 {a b c x y z : Rat} (h1 : a = x) (h2 : b = y) (h3 : c = z) : (!sEq (l3 a b c) (l3 x y z)) = false := by rw [eE3 h1 h2 h3]; rfl
theorem rc0 {a b : Rat} (h : a = b) : (rcmp a b != 0) = false := by rw [rcmp_zero.2 h]; rfl
def isT (v : SV) : Prop := ∀ X, v.den X = .bool true
theorem isT_of {t : Bool} {d : Option Bool} (h : t = true) : isT (.so (.vc (.cb t d))) := fun _ => by rw [h]; rfl
def treeMa (q0 q1 q2 q3 : Int) (v1 v2 v3 s1 s2 s3 : Rat) : Lf := .as (decide (chk q0 q1 q2 q3 0 = 0)) true (asN 9 (nN q0 q1 q2 q3) (
  .as (!sEq (l3 (0 + roE q0 q1 q2 q3 0 * v1 + roE q0 q1 q2 q3 1 * v2 + roE q0 q1 q2 q3 2 * v3 + s1) (0 + roE q0 q1 q2 q3 3 * v1 + roE q0 q1 q2 q3 4 * v2 + roE q0 q1 q2 q3 5 * v3 + s2) (0 + roE q0 q1 q2 q3 6 * v1 + roE q0 q1 q2 q3 7 * v2 + roE q0 q1 q2 q3 8 * v3 + s3)) (l3 (roE q0 q1 q2 q3 0 * v1 + roE q0 q1 q2 q3 1 * v2 + roE q0 q1 q2 q3 2 * v3 + s1) (roE q0 q1 q2 q3 3 * v1 + roE q0 q1 q2 q3 4 * v2 + roE q0 q1 q2 q3 5 * v3 + s2) (roE q0 q1 q2 q3 6 * v1 + roE q0 q1 q2 q3 7 * v2 + roE q0 q1 q2 q3 8 * v3 + s3))) false (
  .as (!sEq (l3 (0 + roE q0 q1 q2 q3 0 * v1 + roE q0 q1 q2 q3 1 * v2 + roE q0 q1 q2 q3 2 * v3) (0 + roE q0 q1 q2 q3 3 * v1 + roE q0 q1 q2 q3 4 * v2 + roE q0 q1 q2 q3 5 * v3) (0 + roE q0 q1 q2 q3 6 * v1 + roE q0 q1 q2 q3 7 * v2 + roE q0 q1 q2 q3 8 * v3)) (l3 (roE q0 q1 q2 q3 0 * v1 + roE q0 q1 q2 q3 1 * v2 + roE q0 q1 q2 q3 2 * v3) (roE q0 q1 q2 q3 3 * v1 + roE q0 q1 q2 q3 4 * v2 + roE q0 q1 q2 q3 5 * v3) (roE q0 q1 q2 q3 6 * v1 + roE q0 q1 q2 q3 7 * v2 + roE q0 q1 q2 q3 8 * v3))) false (
  .as (!sEq (l3 (roE q0 q1 q2 q3 0) (roE q0 q1 q2 q3 3) (roE q0 q1 q2 q3 6)) (l3 (roE q0 q1 q2 q3 0) (roE q0 q1 q2 q3 3) (roE q0 q1 q2 q3 6))) false (
  .as (!sEq (l3 (roE q0 q1 q2 q3 1) (roE q0 q1 q2 q3 4) (roE q0 q1 q2 q3 7)) (l3 (roE q0 q1 q2 q3 1) (roE q0 q1 q2 q3 4) (roE q0 q1 q2 q3 7))) false (
  .as (!sEq (l3 (roE q0 q1 q2 q3 2) (roE q0 q1 q2 q3 5) (roE q0 q1 q2 q3 8)) (l3 (roE q0 q1 q2 q3 2) (roE q0 q1 q2 q3 5) (roE q0 q1 q2 q3 8))) false (
  .as (sEq (l3 (0 - (0 + roE q0 q1 q2 q3 0 * s1 + roE q0 q1 q2 q3 3 * s2 + roE q0 q1 q2 q3 6 * s3)) (0 - (0 + roE q0 q1 q2 q3 1 * s1 + roE q0 q1 q2 q3 4 * s2 + roE q0 q1 q2 q3 7 * s3)) (0 - (0 + roE q0 q1 q2 q3 2 * s1 + roE q0 q1 q2 q3 5 * s2 + roE q0 q1 q2 q3 8 * s3))) (l3 (-(roE q0 q1 q2 q3 0 * s1 + roE q0 q1 q2 q3 3 * s2 + roE q0 q1 q2 q3 6 * s3)) (-(roE q0 q1 q2 q3 1 * s1 + roE q0 q1 q2 q3 4 * s2 + roE q0 q1 q2 q3 7 * s3)) (-(roE q0 q1 q2 q3 2 * s1 + roE q0 q1 q2 q3 5 * s2 + roE q0 q1 q2 q3 8 * s3)))) true (
  .as (rcmp (0 + ((1 : Int) : Rat) * v1 + 0 * v2 + 0 * v3 + 0) v1 != 0) false (
  .as (rcmp (0 + 0 * v1 + ((1 : Int) : Rat) * v2 + 0 * v3 + 0) v2 != 0) false (
  .as (rcmp (0 + 0 * v1 + 0 * v2 + ((1 : Int) : Rat) * v3 + 0) v3 != 0) false (
  asN 9 (nN 1 0 0 0) (
  .as (!sEq (l3 (((1 : Int) : Rat)) (0) (0)) (l3 (roE 1 0 0 0 0) (roE 1 0 0 0 1) (roE 1 0 0 0 2))) false (
  .as (!sEq (l3 (0) (((1 : Int) : Rat)) (0)) (l3 (roE 1 0 0 0 3) (roE 1 0 0 0 4) (roE 1 0 0 0 5))) false (
  .as (!sEq (l3 (0) (0) (((1 : Int) : Rat))) (l3 (roE 1 0 0 0 6) (roE 1 0 0 0 7) (roE 1 0 0 0 8))) false (
  .as (sEq (l3 0 0 0) [[48], [48], [48]]) true (
  .ret (.so (.vc (.cb (sEq (l3 0 0 0) [[48], [48], [48]]) (some true))))))))))))))))))))
theorem treeMa_ok {q0 q1 q2 q3 : Int} (hv : VT q0 q1 q2 q3) (v1 v2 v3 s1 s2 s3 : Rat) : LOK isT (treeMa q0 q1 q2 q3 v1 v2 v3 s1 s2 s3) := ⟨decide_eq_true (hv.chk 0), asN_ok (nn_ne hv) (⟨nE3 (by grind) (by grind) (by grind), ⟨nE3 (by grind) (by grind) (by grind), ⟨nE3 rfl rfl rfl, ⟨nE3 rfl rfl rfl, ⟨nE3 rfl rfl rfl, ⟨eE3 (by grind) (by grind) (by grind), ⟨rc0 (by grind), ⟨rc0 (by grind), ⟨rc0 (by grind), asN_ok (by decide +kernel) (⟨nE3 (by decide +kernel) (by decide +kernel) (by decide +kernel), ⟨nE3 (by decide +kernel) (by decide +kernel) (by decide +kernel), ⟨nE3 (by decide +kernel) (by decide +kernel) (by decide +kernel), ⟨(by rw [← ratL0]; exact sEq_same _), isT_of (by rw [← ratL0]; exact sEq_same _)⟩⟩⟩⟩)⟩⟩⟩⟩⟩⟩⟩⟩⟩)⟩
theorem runMa (t0 t1 t2 t3 i1 i2 i3 d i1b i2b i3b db : Int) : runF sysMa 8 [.so (.vg [.ci .i8 t0 (-128) 127, .ci .i8 t1 (-128) 127, .ci .i8 t2 (-128) 127, .ci .i8 t3 (-128) 127, .ci .i8 i1 (-128) 127, .ci .i8 i2 (-128) 127, .ci .i8 i3 (-128) 127, .ci .u8 d 0 255]), .so (.vg [.ci .i8 i1b (-128) 127, .ci .i8 i2b (-128) 127, .ci .i8 i3b (-128) 127, .ci .u8 db 0 255])] 0 0 (.f (.f (.f (.f (.f (.t (.f (.f (.f (.f (.f (.f (.t .e))))))))))))) = some (treeMa (qd t0 t1 t2 t3 0) (qd t0 t1 t2 t3 1) (qd t0 t1 t2 t3 2) (qd t0 t1 t2 t3 3) (sq i1b db) (sq i2b db) (sq i3b db) (sq i1 d) (sq i2 d) (sq i3 d)) := by kernel_rfl
theorem motion_applies (t0 t1 t2 t3 : Int) (jt0 : -128 ≤ t0 ∧ t0 ≤ 127) (jt1 : -128 ≤ t1 ∧ t1 ≤ 127) (jt2 : -128 ≤ t2 ∧ t2 ≤ 127) (jt3 : -128 ≤ t3 ∧ t3 ≤ 127) (i1 i2 i3 d : Int) (ji1 : -128 ≤ i1 ∧ i1 ≤ 127) (ji2 : -128 ≤ i2 ∧ i2 ≤ 127) (ji3 : -128 ≤ i3 ∧ i3 ≤ 127) (jd : 0 ≤ d ∧ d ≤ 255) (i1b i2b i3b db : Int) (ji1b : -128 ≤ i1b ∧ i1b ≤ 127) (ji2b : -128 ≤ i2b ∧ i2b ≤ 127) (ji3b : -128 ≤ i3b ∧ i3b ≤ 127) (jdb : 0 ≤ db ∧ db ≤ 255) (w : World) (ht : Tab w) (hm : Mx w) :
    Calls Tryz.prog 8 #[.agg #[.int .i8 t0, .int .i8 t1, .int .i8 t2, .int .i8 t3, .int .i8 i1, .int .i8 i2, .int .i8 i3, .int .u8 d], .agg #[.int .i8 i1b, .int .i8 i2b, .int .i8 i3b, .int .u8 db]] w fun e w' => e = .returned (.bool true) ∧ Gr w w' := by
  refine (run_calls sysMa sysMa_ok (runMa t0 t1 t2 t3 i1 i2 i3 d i1b i2b i3b db) (X := envR []) ⟨ht, hm⟩ (okF2 (okA_ok ⟨⟨rfl, jt0⟩, ⟨rfl, jt1⟩, ⟨rfl, jt2⟩, ⟨rfl, jt3⟩, ⟨rfl, ji1⟩, ⟨rfl, ji2⟩, ⟨rfl, ji3⟩, ⟨rfl, jd⟩, trivial⟩) (okA_ok ⟨⟨rfl, ji1b⟩, ⟨rfl, ji2b⟩, ⟨rfl, ji3b⟩, ⟨rfl, jdb⟩, trivial⟩)) (Post := isT) (treeMa_ok (qd_vt t0 t1 t2 t3) (sq i1b db) (sq i2b db) (sq i3b db) (sq i1 d) (sq i2 d) (sq i3 d))).mono fun e w' he => ?_
  obtain ⟨v, X', n, rfl, g, _, _, hp⟩ := he
  exact ⟨by rw [hp], g⟩
end Go.Proofs.YtaldbfflkpgfoaaGreatDoor
/- Scalar products, cofactors and determinants under a rotation. -/
namespace Go.Proofs.YtaldbfflkpgfoaaGreatDoor
open Go.RowKit

theorem rot_cols {ra11 ra12 ra13 ra21 ra22 ra23 ra31 ra32 ra33 w x y z : Rat} (h0 : ¬(w = 0 ∧ x = 0 ∧ y = 0 ∧ z = 0)) (h : RotQ ra11 ra12 ra13 ra21 ra22 ra23 ra31 ra32 ra33 w x y z) : ra11 * ra11 + ra21 * ra21 + ra31 * ra31 = 1 ∧ ra11 * ra12 + ra21 * ra22 + ra31 * ra32 = 0 ∧ ra11 * ra13 + ra21 * ra23 + ra31 * ra33 = 0 ∧ ra12 * ra12 + ra22 * ra22 + ra32 * ra32 = 1 ∧ ra12 * ra13 + ra22 * ra23 + ra32 * ra33 = 0 ∧ ra13 * ra13 + ra23 * ra23 + ra33 * ra33 = 1 ∧ ra22 * ra33 - ra23 * ra32 = ra11 ∧ ra23 * ra31 - ra21 * ra33 = ra12 ∧ ra21 * ra32 - ra22 * ra31 = ra13 ∧ ra13 * ra32 - ra12 * ra33 = ra21 ∧ ra11 * ra33 - ra13 * ra31 = ra22 ∧ ra12 * ra31 - ra11 * ra32 = ra23 ∧ ra12 * ra23 - ra13 * ra22 = ra31 ∧ ra13 * ra21 - ra11 * ra23 = ra32 ∧ ra11 * ra22 - ra12 * ra21 = ra33 ∧ ra11 * (ra22 * ra33 - ra23 * ra32) + ra12 * (ra23 * ra31 - ra21 * ra33) + ra13 * (ra21 * ra32 - ra22 * ra31) = 1 := by
  obtain ⟨o11, o12, o13, o21, o22, o23, o31, o32, o33⟩ := rotq_orth h0 h
  obtain ⟨c11, c12, c13, c21, c22, c23, c31, c32, c33⟩ := rotq_orth (by rintro ⟨a, b, c, d⟩; exact h0 ⟨a, by grind, by grind, by grind⟩) (rotq_tr h)
  have hd := rotq_det h0 h
  have hN := nq_ne h0
  obtain ⟨h11, h12, h13, h21, h22, h23, h31, h32, h33⟩ := h
  have cof : ∀ p q r s P Q R S t T : Rat, p * (w * w + x * x + y * y + z * z) = P → q * (w * w + x * x + y * y + z * z) = Q → r * (w * w + x * x + y * y + z * z) = R → s * (w * w + x * x + y * y + z * z) = S → t * (w * w + x * x + y * y + z * z) = T → P * Q - R * S = T * (w * w + x * x + y * y + z * z) → p * q - r * s = t := by
    intro p q r s P Q R S t T h1 h2 h3 h4 h5 h6
    generalize w * w + x * x + y * y + z * z = N at *
    apply cancelN hN; apply cancelN hN
    subst h1 h2 h3 h4 h5
    grind
  refine ⟨by grind, by grind, by grind, by grind, by grind, by grind, cof _ _ _ _ _ _ _ _ _ _ h22 h33 h23 h32 h11 (by grind), cof _ _ _ _ _ _ _ _ _ _ h23 h31 h21 h33 h12 (by grind), cof _ _ _ _ _ _ _ _ _ _ h21 h32 h22 h31 h13 (by grind), cof _ _ _ _ _ _ _ _ _ _ h13 h32 h12 h33 h21 (by grind), cof _ _ _ _ _ _ _ _ _ _ h11 h33 h13 h31 h22 (by grind), cof _ _ _ _ _ _ _ _ _ _ h12 h31 h11 h32 h23 (by grind), cof _ _ _ _ _ _ _ _ _ _ h12 h23 h13 h22 h31 (by grind), cof _ _ _ _ _ _ _ _ _ _ h13 h21 h11 h23 h32 (by grind), cof _ _ _ _ _ _ _ _ _ _ h11 h22 h12 h21 h33 (by grind), hd⟩
section
variable {ra11 ra12 ra13 ra21 ra22 ra23 ra31 ra32 ra33 : Rat} (k11_ : ra11 * ra11 + ra21 * ra21 + ra31 * ra31 = 1) (k12_ : ra11 * ra12 + ra21 * ra22 + ra31 * ra32 = 0) (k13_ : ra11 * ra13 + ra21 * ra23 + ra31 * ra33 = 0) (k22_ : ra12 * ra12 + ra22 * ra22 + ra32 * ra32 = 1) (k23_ : ra12 * ra13 + ra22 * ra23 + ra32 * ra33 = 0) (k33_ : ra13 * ra13 + ra23 * ra23 + ra33 * ra33 = 1)
include k11_ k12_ k13_ k22_ k23_ k33_
theorem keep_dot (u1 u2 u3 v1 v2 v3 : Rat) : 0 + (0 + ra11 * u1 + ra12 * u2 + ra13 * u3) * (0 + ra11 * v1 + ra12 * v2 + ra13 * v3) + (0 + ra21 * u1 + ra22 * u2 + ra23 * u3) * (0 + ra21 * v1 + ra22 * v2 + ra23 * v3) + (0 + ra31 * u1 + ra32 * u2 + ra33 * u3) * (0 + ra31 * v1 + ra32 * v2 + ra33 * v3) = 0 + u1 * v1 + u2 * v2 + u3 * v3 := by
  have e : 0 + (0 + ra11 * u1 + ra12 * u2 + ra13 * u3) * (0 + ra11 * v1 + ra12 * v2 + ra13 * v3) + (0 + ra21 * u1 + ra22 * u2 + ra23 * u3) * (0 + ra21 * v1 + ra22 * v2 + ra23 * v3) + (0 + ra31 * u1 + ra32 * u2 + ra33 * u3) * (0 + ra31 * v1 + ra32 * v2 + ra33 * v3) = (ra11 * ra11 + ra21 * ra21 + ra31 * ra31) * (u1 * v1) + (ra11 * ra12 + ra21 * ra22 + ra31 * ra32) * (u1 * v2 + u2 * v1) + (ra11 * ra13 + ra21 * ra23 + ra31 * ra33) * (u1 * v3 + u3 * v1) + (ra12 * ra12 + ra22 * ra22 + ra32 * ra32) * (u2 * v2) + (ra12 * ra13 + ra22 * ra23 + ra32 * ra33) * (u2 * v3 + u3 * v2) + (ra13 * ra13 + ra23 * ra23 + ra33 * ra33) * (u3 * v3) := by grind
  rw [e, k11_, k12_, k13_, k22_, k23_, k33_]
  grind
end
theorem keep_det {ra11 ra12 ra13 ra21 ra22 ra23 ra31 ra32 ra33 : Rat} (kd_ : ra11 * (ra22 * ra33 - ra23 * ra32) + ra12 * (ra23 * ra31 - ra21 * ra33) + ra13 * (ra21 * ra32 - ra22 * ra31) = 1) (u1 u2 u3 v1 v2 v3 t1 t2 t3 : Rat) : (0 + (0 + ra11 * u1 + ra12 * u2 + ra13 * u3) * ((0 + ra21 * v1 + ra22 * v2 + ra23 * v3) * (0 + ra31 * t1 + ra32 * t2 + ra33 * t3) - (0 + ra31 * v1 + ra32 * v2 + ra33 * v3) * (0 + ra21 * t1 + ra22 * t2 + ra23 * t3)) + (0 + ra21 * u1 + ra22 * u2 + ra23 * u3) * ((0 + ra31 * v1 + ra32 * v2 + ra33 * v3) * (0 + ra11 * t1 + ra12 * t2 + ra13 * t3) - (0 + ra11 * v1 + ra12 * v2 + ra13 * v3) * (0 + ra31 * t1 + ra32 * t2 + ra33 * t3)) + (0 + ra31 * u1 + ra32 * u2 + ra33 * u3) * ((0 + ra11 * v1 + ra12 * v2 + ra13 * v3) * (0 + ra21 * t1 + ra22 * t2 + ra23 * t3) - (0 + ra21 * v1 + ra22 * v2 + ra23 * v3) * (0 + ra11 * t1 + ra12 * t2 + ra13 * t3))) = (0 + u1 * (v2 * t3 - v3 * t2) + u2 * (v3 * t1 - v1 * t3) + u3 * (v1 * t2 - v2 * t1)) := by
  have e : (0 + (0 + ra11 * u1 + ra12 * u2 + ra13 * u3) * ((0 + ra21 * v1 + ra22 * v2 + ra23 * v3) * (0 + ra31 * t1 + ra32 * t2 + ra33 * t3) - (0 + ra31 * v1 + ra32 * v2 + ra33 * v3) * (0 + ra21 * t1 + ra22 * t2 + ra23 * t3)) + (0 + ra21 * u1 + ra22 * u2 + ra23 * u3) * ((0 + ra31 * v1 + ra32 * v2 + ra33 * v3) * (0 + ra11 * t1 + ra12 * t2 + ra13 * t3) - (0 + ra11 * v1 + ra12 * v2 + ra13 * v3) * (0 + ra31 * t1 + ra32 * t2 + ra33 * t3)) + (0 + ra31 * u1 + ra32 * u2 + ra33 * u3) * ((0 + ra11 * v1 + ra12 * v2 + ra13 * v3) * (0 + ra21 * t1 + ra22 * t2 + ra23 * t3) - (0 + ra21 * v1 + ra22 * v2 + ra23 * v3) * (0 + ra11 * t1 + ra12 * t2 + ra13 * t3))) = (ra11 * (ra22 * ra33 - ra23 * ra32) + ra12 * (ra23 * ra31 - ra21 * ra33) + ra13 * (ra21 * ra32 - ra22 * ra31)) * (0 + u1 * (v2 * t3 - v3 * t2) + u2 * (v3 * t1 - v1 * t3) + u3 * (v1 * t2 - v2 * t1)) := by grind
  rw [e, kd_]
  grind
end Go.Proofs.YtaldbfflkpgfoaaGreatDoor
/- Printed by a program of the prover's: MotionKeeps. -/
namespace Go.Proofs.YtaldbfflkpgfoaaGreatDoor
open Go.RowKit

/-- how the regions that draw their order are run -/
noncomputable def tabMk : List (Nat × List (Nat × Ent)) := [(7, [(8, .flo [(true, 0), (true, 1), (true, 3), (true, 4), (true, 6), (true, 7), (false, 2), (false, 5), (false, 8)] [(9, 14, 38), (10, 15, 38), (11, 16, 38)] [(false, 12), (false, 13), (false, 14)] []), (9, .ord [(true, 0), (true, 1), (true, 3), (true, 4), (false, 2), (false, 5), (false, 6), (true, 7), (true, 8), (true, 9), (true, 10), (true, 11), (true, 13), (true, 14), (true, 15), (false, 12), (false, 16), (false, 17), (true, 18), (true, 19), (true, 20), (true, 21), (true, 22), (true, 24), (true, 25), (true, 26), (false, 23), (false, 27), (false, 28), (false, 29), (true, 30), (true, 31)] []), (11, .ord [(true, 0), (false, 1), (true, 2), (true, 3), (true, 4), (true, 6), (true, 7), (true, 9), (true, 10), (true, 12), (true, 13), (true, 16), (true, 17), (true, 18), (true, 19), (false, 5), (false, 8), (false, 11), (false, 14), (false, 15), (false, 20), (true, 21), (true, 22), (true, 23)] [])]),
 (19, [(5, .ord [(true, 0), (true, 1), (true, 3), (true, 4), (false, 2), (true, 5), (false, 6)] [1])]),
 (23, []),
 (24, [(9, .ord [(true, 0), (true, 1), (true, 2), (true, 3), (true, 5), (true, 6), (false, 4), (true, 7), (false, 8)] [5])]),
 (28, [(3, .ord [(true, 0), (true, 1), (false, 2), (false, 3), (false, 4)] [2, 3])]),
 (30, [(1, .flo [(true, 0), (true, 1), (true, 2), (true, 3), (false, 4), (true, 5), (false, 6)] [(7, 3, 41)] [(false, 8)] []), (2, .ord [(true, 0), (false, 1), (false, 2), (true, 3), (true, 4), (true, 5), (true, 6), (true, 7), (true, 8), (true, 9), (true, 10), (true, 11), (true, 12), (false, 13), (false, 14), (true, 15), (true, 16), (true, 17)] [])]),
 (36, []),
 (38, []),
 (39, [(1, .ord [(true, 0), (true, 1), (true, 2), (false, 3), (false, 4), (false, 5)] [6])]),
 (40, []),
 (41, [(6, .ord [(true, 0), (true, 1), (true, 2), (true, 3), (true, 4), (true, 5), (true, 6), (true, 8), (true, 9), (true, 10), (true, 11), (true, 12), (true, 13), (false, 7), (false, 14), (false, 15), (true, 16), (false, 17)] [5])]),
 (42, [(1, .ord [(true, 0), (true, 1), (true, 3), (true, 4), (true, 6), (true, 7), (false, 2), (false, 5), (false, 8), (false, 9), (false, 10), (true, 11)] [])]),
 (43, [(1, .ord [(true, 0), (true, 1), (true, 3), (true, 4), (false, 2), (false, 5), (false, 6)] [4])]),
 (63, []),
 (69, [(8, .ord [(true, 0), (true, 1), (true, 2), (true, 3), (true, 4), (false, 5)] [3])]),
 (73, []),
 (74, [(5, .ord [(true, 0), (true, 1), (true, 2), (true, 3), (true, 4), (true, 5), (true, 6), (true, 7), (false, 8), (true, 9), (false, 10)] [7])]),
 (83, []),
 (84, [(4, .ord [(true, 0), (true, 1), (true, 2), (true, 3), (true, 4), (true, 5), (false, 6), (true, 7)] [])]),
 (85, []),
 (86, []),
 (93, [])]
noncomputable def conMk : List (Nat × ConT) := [(103, conRR 100000 (fun k m => k + m + 1) (fun a b => a + b)),
 (75, conRR 100000 (fun k m => k + m + 1) (fun a b => a - b)),
 (82, conRR 100000 (fun k m => k + m) (fun a b => a * b)),
 (108, cNeg),
 (59, cFrom),
 (37, cComp),
 (76, cSign),
 (87, cNumb),
 (130, cNum),
 (81, cDen),
 (58, cDiv),
 (96, cZFrom),
 (80, cZMul),
 (122, cZGcd),
 (123, cZDiv),
 (68, cZInt),
 (105, cTT (fun k m => k + m + 1) fun a b => a + b),
 (132, cTT (fun k m => k + m + 1) fun a b => a - b),
 (106, cTT (fun k m => k + m) fun a b => a * b),
 (64, cTDiv),
 (115, cTNeg),
 (65, cTFrom),
 (94, cPars 400),
 (107, cPars 65536),
 (15, cChk),
 (66, cPrim),
 (14, cOf),
 (16, cMEq),
 (67, cTurn),
 (21, cPlc),
 (11, cKnown)]
noncomputable def sysMk : Sys := ⟨Tryz.prog, 2, 199, tabMk, conMk, fun w => Tab w ∧ Mx w⟩
theorem sysMk_ok : sysMk.OK where
  mixed := by kernel_rfl
  calls := fun f h0 h1 => by
    have : (List.range 199).all (fun f => Nat.blt f 2 || okCall Tryz.prog f) = true := by kernel_rfl
    have := List.all_eq_true.1 this f (List.mem_range.2 h1)
    simp only [Bool.or_eq_true] at this
    exact this.resolve_left (fun e => by have := blt_of e; exact absurd h0 (by show ¬ 2 ≤ f; omega))
  tab := by
    have : tabMk.all (okTab Tryz.prog) = true := by kernel_rfl
    exact fun x hx => List.all_eq_true.1 this x hx
  con := fun x hx => by
    simp only [sysMk, conMk, List.mem_cons, List.not_mem_nil, or_false] at hx
    rcases hx with rfl | rfl | rfl | rfl | rfl | rfl | rfl | rfl | rfl | rfl | rfl | rfl | rfl | rfl | rfl | rfl | rfl | rfl | rfl | rfl | rfl | rfl | rfl | rfl | rfl | rfl | rfl | rfl | rfl | rfl | rfl
    · exact conRR_ok fun h1 h2 h3 => add_r h1 h2 h3
    · exact conRR_ok fun h1 h2 h3 => sub_r h1 h2 h3
    · exact conRR_ok fun h1 h2 h3 => mul_r h1 h2 h3
    · exact cNeg_ok
    · exact cFrom_ok
    · exact cComp_ok
    · exact cSign_ok
    · exact cNumb_ok fun w h => h.1
    · exact cNum_ok
    · exact cDen_ok
    · exact cDiv_ok
    · exact cZFrom_ok
    · exact cZMul_ok
    · exact cZGcd_ok
    · exact cZDiv_ok
    · exact cZInt_ok
    · exact cTAdd_ok
    · exact cTSub_ok
    · exact cTMul_ok
    · exact cTDiv_ok
    · exact cTNeg_ok
    · exact cTFrom_ok
    · exact cPars_ok fun w h => h.2
    · exact cRead_ok fun w h => h.2
    · exact cChk_ok fun w h => h.2
    · exact cPrim_ok
    · exact cOf_ok fun w h => h
    · exact cMEq_ok
    · exact cTurn_ok
    · exact cPlc_ok fun w h => h
    · exact cKnown_ok fun w h => h
  inv := fun w w' h g => ⟨h.1.gr g, h.2.gr g⟩
theorem rigid2 {a b c d e f g h i x y z t : Rat} (h0 : ¬(x = 0 ∧ y = 0 ∧ z = 0 ∧ t = 0)) (k : RotQ a b c d e f g h i x y z t) : decide ([0 + a * a + b * b + c * c, 0 + a * d + b * e + c * f, 0 + a * g + b * h + c * i, 0 + d * a + e * b + f * c, 0 + d * d + e * e + f * f, 0 + d * g + e * h + f * i, 0 + g * a + h * b + i * c, 0 + g * d + h * e + i * f, 0 + g * g + h * h + i * i, 0 + a * 0 + b * 0 + c * 0 + 0, 0 + d * 0 + e * 0 + f * 0 + 0, 0 + g * 0 + h * 0 + i * 0 + 0] = [((1 : Int) : Rat), 0, 0, 0, ((1 : Int) : Rat), 0, 0, 0, ((1 : Int) : Rat), 0, 0, 0]) = true ∧ decide (0 < sgn (0 + a * (e * i - f * h) + b * (f * g - d * i) + c * (d * h - e * g) : Rat).num) = true := by
  have := rigid_rot h0 k
  unfold rigidB at this
  rw [Bool.and_eq_true] at this
  exact this
theorem sg0 {a b : Rat} (h : a = b) : (sgn a.num == sgn b.num) = true := by rw [h, beq_self_eq_true]
def treeMk (q0 q1 q2 q3 : Int) (r : Nat → Rat) (b1 b2 b3 c1 c2 c3 e1 e2 e3 f1 f2 f3 s1 s2 s3 : Rat) : Lf := .as (decide (chk q0 q1 q2 q3 0 = 0)) true (
  .as (rcmp (0 + (0 + r 0 * b1 + r 1 * b2 + r 2 * b3) * (0 + r 0 * c1 + r 1 * c2 + r 2 * c3) + (0 + r 3 * b1 + r 4 * b2 + r 5 * b3) * (0 + r 3 * c1 + r 4 * c2 + r 5 * c3) + (0 + r 6 * b1 + r 7 * b2 + r 8 * b3) * (0 + r 6 * c1 + r 7 * c2 + r 8 * c3)) (0 + b1 * c1 + b2 * c2 + b3 * c3) != 0) false (
  .as (rcmp (0 + (0 + r 0 * b1 + r 1 * b2 + r 2 * b3) * ((0 + r 3 * c1 + r 4 * c2 + r 5 * c3) * (0 + r 6 * e1 + r 7 * e2 + r 8 * e3) - (0 + r 6 * c1 + r 7 * c2 + r 8 * c3) * (0 + r 3 * e1 + r 4 * e2 + r 5 * e3)) + (0 + r 3 * b1 + r 4 * b2 + r 5 * b3) * ((0 + r 6 * c1 + r 7 * c2 + r 8 * c3) * (0 + r 0 * e1 + r 1 * e2 + r 2 * e3) - (0 + r 0 * c1 + r 1 * c2 + r 2 * c3) * (0 + r 6 * e1 + r 7 * e2 + r 8 * e3)) + (0 + r 6 * b1 + r 7 * b2 + r 8 * b3) * ((0 + r 0 * c1 + r 1 * c2 + r 2 * c3) * (0 + r 3 * e1 + r 4 * e2 + r 5 * e3) - (0 + r 3 * c1 + r 4 * c2 + r 5 * c3) * (0 + r 0 * e1 + r 1 * e2 + r 2 * e3))) (0 + b1 * (c2 * e3 - c3 * e2) + b2 * (c3 * e1 - c1 * e3) + b3 * (c1 * e2 - c2 * e1)) != 0) false (
  .as (rcmp ((0 + r 3 * b1 + r 4 * b2 + r 5 * b3) * (0 + r 6 * c1 + r 7 * c2 + r 8 * c3) - (0 + r 6 * b1 + r 7 * b2 + r 8 * b3) * (0 + r 3 * c1 + r 4 * c2 + r 5 * c3)) (0 + r 0 * (b2 * c3 - b3 * c2) + r 1 * (b3 * c1 - b1 * c3) + r 2 * (b1 * c2 - b2 * c1)) != 0) false (
  .as (rcmp ((0 + r 6 * b1 + r 7 * b2 + r 8 * b3) * (0 + r 0 * c1 + r 1 * c2 + r 2 * c3) - (0 + r 0 * b1 + r 1 * b2 + r 2 * b3) * (0 + r 6 * c1 + r 7 * c2 + r 8 * c3)) (0 + r 3 * (b2 * c3 - b3 * c2) + r 4 * (b3 * c1 - b1 * c3) + r 5 * (b1 * c2 - b2 * c1)) != 0) false (
  .as (rcmp ((0 + r 0 * b1 + r 1 * b2 + r 2 * b3) * (0 + r 3 * c1 + r 4 * c2 + r 5 * c3) - (0 + r 3 * b1 + r 4 * b2 + r 5 * b3) * (0 + r 0 * c1 + r 1 * c2 + r 2 * c3)) (0 + r 6 * (b2 * c3 - b3 * c2) + r 7 * (b3 * c1 - b1 * c3) + r 8 * (b1 * c2 - b2 * c1)) != 0) false (
  .as (decide ([0 + r 0 * r 0 + r 1 * r 1 + r 2 * r 2, 0 + r 0 * r 3 + r 1 * r 4 + r 2 * r 5, 0 + r 0 * r 6 + r 1 * r 7 + r 2 * r 8, 0 + r 3 * r 0 + r 4 * r 1 + r 5 * r 2, 0 + r 3 * r 3 + r 4 * r 4 + r 5 * r 5, 0 + r 3 * r 6 + r 4 * r 7 + r 5 * r 8, 0 + r 6 * r 0 + r 7 * r 1 + r 8 * r 2, 0 + r 6 * r 3 + r 7 * r 4 + r 8 * r 5, 0 + r 6 * r 6 + r 7 * r 7 + r 8 * r 8, 0 + r 0 * 0 + r 1 * 0 + r 2 * 0 + 0, 0 + r 3 * 0 + r 4 * 0 + r 5 * 0 + 0, 0 + r 6 * 0 + r 7 * 0 + r 8 * 0 + 0] = [((1 : Int) : Rat), 0, 0, 0, ((1 : Int) : Rat), 0, 0, 0, ((1 : Int) : Rat), 0, 0, 0])) true (
  .as (decide (0 < sgn (0 + r 0 * (r 4 * r 8 - r 5 * r 7) + r 1 * (r 5 * r 6 - r 3 * r 8) + r 2 * (r 3 * r 7 - r 4 * r 6) : Rat).num)) true (
  .as (sgn (0 + (((0 + r 0 * c1 + r 1 * c2 + r 2 * c3) + s1) - ((0 + r 0 * b1 + r 1 * b2 + r 2 * b3) + s1)) * ((((0 + r 3 * e1 + r 4 * e2 + r 5 * e3) + s2) - ((0 + r 3 * b1 + r 4 * b2 + r 5 * b3) + s2)) * (((0 + r 6 * f1 + r 7 * f2 + r 8 * f3) + s3) - ((0 + r 6 * b1 + r 7 * b2 + r 8 * b3) + s3)) - (((0 + r 6 * e1 + r 7 * e2 + r 8 * e3) + s3) - ((0 + r 6 * b1 + r 7 * b2 + r 8 * b3) + s3)) * (((0 + r 3 * f1 + r 4 * f2 + r 5 * f3) + s2) - ((0 + r 3 * b1 + r 4 * b2 + r 5 * b3) + s2))) + (((0 + r 3 * c1 + r 4 * c2 + r 5 * c3) + s2) - ((0 + r 3 * b1 + r 4 * b2 + r 5 * b3) + s2)) * ((((0 + r 6 * e1 + r 7 * e2 + r 8 * e3) + s3) - ((0 + r 6 * b1 + r 7 * b2 + r 8 * b3) + s3)) * (((0 + r 0 * f1 + r 1 * f2 + r 2 * f3) + s1) - ((0 + r 0 * b1 + r 1 * b2 + r 2 * b3) + s1)) - (((0 + r 0 * e1 + r 1 * e2 + r 2 * e3) + s1) - ((0 + r 0 * b1 + r 1 * b2 + r 2 * b3) + s1)) * (((0 + r 6 * f1 + r 7 * f2 + r 8 * f3) + s3) - ((0 + r 6 * b1 + r 7 * b2 + r 8 * b3) + s3))) + (((0 + r 6 * c1 + r 7 * c2 + r 8 * c3) + s3) - ((0 + r 6 * b1 + r 7 * b2 + r 8 * b3) + s3)) * ((((0 + r 0 * e1 + r 1 * e2 + r 2 * e3) + s1) - ((0 + r 0 * b1 + r 1 * b2 + r 2 * b3) + s1)) * (((0 + r 3 * f1 + r 4 * f2 + r 5 * f3) + s2) - ((0 + r 3 * b1 + r 4 * b2 + r 5 * b3) + s2)) - (((0 + r 3 * e1 + r 4 * e2 + r 5 * e3) + s2) - ((0 + r 3 * b1 + r 4 * b2 + r 5 * b3) + s2)) * (((0 + r 0 * f1 + r 1 * f2 + r 2 * f3) + s1) - ((0 + r 0 * b1 + r 1 * b2 + r 2 * b3) + s1))) : Rat).num == sgn (0 + (c1 - b1) * ((e2 - b2) * (f3 - b3) - (e3 - b3) * (f2 - b2)) + (c2 - b2) * ((e3 - b3) * (f1 - b1) - (e1 - b1) * (f3 - b3)) + (c3 - b3) * ((e1 - b1) * (f2 - b2) - (e2 - b2) * (f1 - b1)) : Rat).num) true (
  .ret (.so (.vc (.cb (sgn (0 + (((0 + r 0 * c1 + r 1 * c2 + r 2 * c3) + s1) - ((0 + r 0 * b1 + r 1 * b2 + r 2 * b3) + s1)) * ((((0 + r 3 * e1 + r 4 * e2 + r 5 * e3) + s2) - ((0 + r 3 * b1 + r 4 * b2 + r 5 * b3) + s2)) * (((0 + r 6 * f1 + r 7 * f2 + r 8 * f3) + s3) - ((0 + r 6 * b1 + r 7 * b2 + r 8 * b3) + s3)) - (((0 + r 6 * e1 + r 7 * e2 + r 8 * e3) + s3) - ((0 + r 6 * b1 + r 7 * b2 + r 8 * b3) + s3)) * (((0 + r 3 * f1 + r 4 * f2 + r 5 * f3) + s2) - ((0 + r 3 * b1 + r 4 * b2 + r 5 * b3) + s2))) + (((0 + r 3 * c1 + r 4 * c2 + r 5 * c3) + s2) - ((0 + r 3 * b1 + r 4 * b2 + r 5 * b3) + s2)) * ((((0 + r 6 * e1 + r 7 * e2 + r 8 * e3) + s3) - ((0 + r 6 * b1 + r 7 * b2 + r 8 * b3) + s3)) * (((0 + r 0 * f1 + r 1 * f2 + r 2 * f3) + s1) - ((0 + r 0 * b1 + r 1 * b2 + r 2 * b3) + s1)) - (((0 + r 0 * e1 + r 1 * e2 + r 2 * e3) + s1) - ((0 + r 0 * b1 + r 1 * b2 + r 2 * b3) + s1)) * (((0 + r 6 * f1 + r 7 * f2 + r 8 * f3) + s3) - ((0 + r 6 * b1 + r 7 * b2 + r 8 * b3) + s3))) + (((0 + r 6 * c1 + r 7 * c2 + r 8 * c3) + s3) - ((0 + r 6 * b1 + r 7 * b2 + r 8 * b3) + s3)) * ((((0 + r 0 * e1 + r 1 * e2 + r 2 * e3) + s1) - ((0 + r 0 * b1 + r 1 * b2 + r 2 * b3) + s1)) * (((0 + r 3 * f1 + r 4 * f2 + r 5 * f3) + s2) - ((0 + r 3 * b1 + r 4 * b2 + r 5 * b3) + s2)) - (((0 + r 3 * e1 + r 4 * e2 + r 5 * e3) + s2) - ((0 + r 3 * b1 + r 4 * b2 + r 5 * b3) + s2)) * (((0 + r 0 * f1 + r 1 * f2 + r 2 * f3) + s1) - ((0 + r 0 * b1 + r 1 * b2 + r 2 * b3) + s1))) : Rat).num == sgn (0 + (c1 - b1) * ((e2 - b2) * (f3 - b3) - (e3 - b3) * (f2 - b2)) + (c2 - b2) * ((e3 - b3) * (f1 - b1) - (e1 - b1) * (f3 - b3)) + (c3 - b3) * ((e1 - b1) * (f2 - b2) - (e2 - b2) * (f1 - b1)) : Rat).num) (some true)))))))))))))
theorem keep_cr0 {r : Nat → Rat} (m1 : (r 4 * r 8 - r 5 * r 7) = r 0) (m2 : (r 5 * r 6 - r 3 * r 8) = r 1) (m3 : (r 3 * r 7 - r 4 * r 6) = r 2) (b1 b2 b3 c1 c2 c3 : Rat) : ((0 + r 3 * b1 + r 4 * b2 + r 5 * b3) * (0 + r 6 * c1 + r 7 * c2 + r 8 * c3) - (0 + r 6 * b1 + r 7 * b2 + r 8 * b3) * (0 + r 3 * c1 + r 4 * c2 + r 5 * c3)) = (0 + r 0 * (b2 * c3 - b3 * c2) + r 1 * (b3 * c1 - b1 * c3) + r 2 * (b1 * c2 - b2 * c1)) := by grind
theorem keep_cr1 {r : Nat → Rat} (m1 : (r 7 * r 2 - r 8 * r 1) = r 3) (m2 : (r 8 * r 0 - r 6 * r 2) = r 4) (m3 : (r 6 * r 1 - r 7 * r 0) = r 5) (b1 b2 b3 c1 c2 c3 : Rat) : ((0 + r 6 * b1 + r 7 * b2 + r 8 * b3) * (0 + r 0 * c1 + r 1 * c2 + r 2 * c3) - (0 + r 0 * b1 + r 1 * b2 + r 2 * b3) * (0 + r 6 * c1 + r 7 * c2 + r 8 * c3)) = (0 + r 3 * (b2 * c3 - b3 * c2) + r 4 * (b3 * c1 - b1 * c3) + r 5 * (b1 * c2 - b2 * c1)) := by grind
theorem keep_cr2 {r : Nat → Rat} (m1 : (r 1 * r 5 - r 2 * r 4) = r 6) (m2 : (r 2 * r 3 - r 0 * r 5) = r 7) (m3 : (r 0 * r 4 - r 1 * r 3) = r 8) (b1 b2 b3 c1 c2 c3 : Rat) : ((0 + r 0 * b1 + r 1 * b2 + r 2 * b3) * (0 + r 3 * c1 + r 4 * c2 + r 5 * c3) - (0 + r 3 * b1 + r 4 * b2 + r 5 * b3) * (0 + r 0 * c1 + r 1 * c2 + r 2 * c3)) = (0 + r 6 * (b2 * c3 - b3 * c2) + r 7 * (b3 * c1 - b1 * c3) + r 8 * (b1 * c2 - b2 * c1)) := by grind
theorem treeMk_ok {q0 q1 q2 q3 : Int} (hv : VT q0 q1 q2 q3) (b1 b2 b3 c1 c2 c3 e1 e2 e3 f1 f2 f3 s1 s2 s3 : Rat) : LOK isT (treeMk q0 q1 q2 q3 (roE q0 q1 q2 q3) b1 b2 b3 c1 c2 c3 e1 e2 e3 f1 f2 f3 s1 s2 s3) := by
  have hn := nq_int hv.ne
  have rg := rigid2 hn (roE_rot hv)
  obtain ⟨c1_, c2_, c3_, c4_, c5_, c6_, f11, f12, f13, f21, f22, f23, f31, f32, f33, kd⟩ := rot_cols hn (roE_rot hv)
  unfold treeMk
  generalize roE q0 q1 q2 q3 = r at *
  have or_ : (sgn (0 + (((0 + r 0 * c1 + r 1 * c2 + r 2 * c3) + s1) - ((0 + r 0 * b1 + r 1 * b2 + r 2 * b3) + s1)) * ((((0 + r 3 * e1 + r 4 * e2 + r 5 * e3) + s2) - ((0 + r 3 * b1 + r 4 * b2 + r 5 * b3) + s2)) * (((0 + r 6 * f1 + r 7 * f2 + r 8 * f3) + s3) - ((0 + r 6 * b1 + r 7 * b2 + r 8 * b3) + s3)) - (((0 + r 6 * e1 + r 7 * e2 + r 8 * e3) + s3) - ((0 + r 6 * b1 + r 7 * b2 + r 8 * b3) + s3)) * (((0 + r 3 * f1 + r 4 * f2 + r 5 * f3) + s2) - ((0 + r 3 * b1 + r 4 * b2 + r 5 * b3) + s2))) + (((0 + r 3 * c1 + r 4 * c2 + r 5 * c3) + s2) - ((0 + r 3 * b1 + r 4 * b2 + r 5 * b3) + s2)) * ((((0 + r 6 * e1 + r 7 * e2 + r 8 * e3) + s3) - ((0 + r 6 * b1 + r 7 * b2 + r 8 * b3) + s3)) * (((0 + r 0 * f1 + r 1 * f2 + r 2 * f3) + s1) - ((0 + r 0 * b1 + r 1 * b2 + r 2 * b3) + s1)) - (((0 + r 0 * e1 + r 1 * e2 + r 2 * e3) + s1) - ((0 + r 0 * b1 + r 1 * b2 + r 2 * b3) + s1)) * (((0 + r 6 * f1 + r 7 * f2 + r 8 * f3) + s3) - ((0 + r 6 * b1 + r 7 * b2 + r 8 * b3) + s3))) + (((0 + r 6 * c1 + r 7 * c2 + r 8 * c3) + s3) - ((0 + r 6 * b1 + r 7 * b2 + r 8 * b3) + s3)) * ((((0 + r 0 * e1 + r 1 * e2 + r 2 * e3) + s1) - ((0 + r 0 * b1 + r 1 * b2 + r 2 * b3) + s1)) * (((0 + r 3 * f1 + r 4 * f2 + r 5 * f3) + s2) - ((0 + r 3 * b1 + r 4 * b2 + r 5 * b3) + s2)) - (((0 + r 3 * e1 + r 4 * e2 + r 5 * e3) + s2) - ((0 + r 3 * b1 + r 4 * b2 + r 5 * b3) + s2)) * (((0 + r 0 * f1 + r 1 * f2 + r 2 * f3) + s1) - ((0 + r 0 * b1 + r 1 * b2 + r 2 * b3) + s1))) : Rat).num == sgn (0 + (c1 - b1) * ((e2 - b2) * (f3 - b3) - (e3 - b3) * (f2 - b2)) + (c2 - b2) * ((e3 - b3) * (f1 - b1) - (e1 - b1) * (f3 - b3)) + (c3 - b3) * ((e1 - b1) * (f2 - b2) - (e2 - b2) * (f1 - b1)) : Rat).num) = true := sg0 (by
    rw [← keep_det kd (c1 - b1) (c2 - b2) (c3 - b3) (e1 - b1) (e2 - b2) (e3 - b3) (f1 - b1) (f2 - b2) (f3 - b3)]
    have z : ∀ i j k l u v w x y s : Rat, (0 + i * u + j * v + k * w + s) - (0 + i * l + j * x + k * y + s) = 0 + i * (u - l) + j * (v - x) + k * (w - y) := fun i j k l u v w x y s => by grind
    simp only [z])
  exact ⟨decide_eq_true (hv.chk 0), ⟨rc0 (keep_dot c1_ c2_ c3_ c4_ c5_ c6_ b1 b2 b3 c1 c2 c3), ⟨rc0 (keep_det kd b1 b2 b3 c1 c2 c3 e1 e2 e3), ⟨rc0 (keep_cr0 (by grind) (by grind) (by grind) b1 b2 b3 c1 c2 c3), ⟨rc0 (keep_cr1 (by grind) (by grind) (by grind) b1 b2 b3 c1 c2 c3), ⟨rc0 (keep_cr2 (by grind) (by grind) (by grind) b1 b2 b3 c1 c2 c3), ⟨rg.1, ⟨rg.2, ⟨or_, isT_of or_⟩⟩⟩⟩⟩⟩⟩⟩⟩
theorem runMk (t0 t1 t2 t3 i1 i2 i3 d i1b i2b i3b db i1c i2c i3c dc i1e i2e i3e de i1f i2f i3f df : Int) : runF sysMk 7 [.so (.vg [.ci .i8 t0 (-128) 127, .ci .i8 t1 (-128) 127, .ci .i8 t2 (-128) 127, .ci .i8 t3 (-128) 127, .ci .i8 i1 (-128) 127, .ci .i8 i2 (-128) 127, .ci .i8 i3 (-128) 127, .ci .u8 d 0 255]), .so (.vg [.ci .i8 i1b (-128) 127, .ci .i8 i2b (-128) 127, .ci .i8 i3b (-128) 127, .ci .u8 db 0 255, .ci .i8 i1c (-128) 127, .ci .i8 i2c (-128) 127, .ci .i8 i3c (-128) 127, .ci .u8 dc 0 255, .ci .i8 i1e (-128) 127, .ci .i8 i2e (-128) 127, .ci .i8 i3e (-128) 127, .ci .u8 de 0 255, .ci .i8 i1f (-128) 127, .ci .i8 i2f (-128) 127, .ci .i8 i3f (-128) 127, .ci .u8 df 0 255])] 0 0 (.f (.f (.f (.f (.f (.t (.t (.t .e)))))))) = some (treeMk (qd t0 t1 t2 t3 0) (qd t0 t1 t2 t3 1) (qd t0 t1 t2 t3 2) (qd t0 t1 t2 t3 3) (roE (qd t0 t1 t2 t3 0) (qd t0 t1 t2 t3 1) (qd t0 t1 t2 t3 2) (qd t0 t1 t2 t3 3)) (sq i1b db) (sq i2b db) (sq i3b db) (sq i1c dc) (sq i2c dc) (sq i3c dc) (sq i1e de) (sq i2e de) (sq i3e de) (sq i1f df) (sq i2f df) (sq i3f df) (sq i1 d) (sq i2 d) (sq i3 d)) := by kernel_rfl
theorem motion_keeps (t0 t1 t2 t3 : Int) (jt0 : -128 ≤ t0 ∧ t0 ≤ 127) (jt1 : -128 ≤ t1 ∧ t1 ≤ 127) (jt2 : -128 ≤ t2 ∧ t2 ≤ 127) (jt3 : -128 ≤ t3 ∧ t3 ≤ 127) (i1 i2 i3 d : Int) (ji1 : -128 ≤ i1 ∧ i1 ≤ 127) (ji2 : -128 ≤ i2 ∧ i2 ≤ 127) (ji3 : -128 ≤ i3 ∧ i3 ≤ 127) (jd : 0 ≤ d ∧ d ≤ 255) (i1b i2b i3b db : Int) (ji1b : -128 ≤ i1b ∧ i1b ≤ 127) (ji2b : -128 ≤ i2b ∧ i2b ≤ 127) (ji3b : -128 ≤ i3b ∧ i3b ≤ 127) (jdb : 0 ≤ db ∧ db ≤ 255) (i1c i2c i3c dc : Int) (ji1c : -128 ≤ i1c ∧ i1c ≤ 127) (ji2c : -128 ≤ i2c ∧ i2c ≤ 127) (ji3c : -128 ≤ i3c ∧ i3c ≤ 127) (jdc : 0 ≤ dc ∧ dc ≤ 255) (i1e i2e i3e de : Int) (ji1e : -128 ≤ i1e ∧ i1e ≤ 127) (ji2e : -128 ≤ i2e ∧ i2e ≤ 127) (ji3e : -128 ≤ i3e ∧ i3e ≤ 127) (jde : 0 ≤ de ∧ de ≤ 255) (i1f i2f i3f df : Int) (ji1f : -128 ≤ i1f ∧ i1f ≤ 127) (ji2f : -128 ≤ i2f ∧ i2f ≤ 127) (ji3f : -128 ≤ i3f ∧ i3f ≤ 127) (jdf : 0 ≤ df ∧ df ≤ 255) (w : World) (ht : Tab w) (hm : Mx w) :
    Calls Tryz.prog 7 #[.agg #[.int .i8 t0, .int .i8 t1, .int .i8 t2, .int .i8 t3, .int .i8 i1, .int .i8 i2, .int .i8 i3, .int .u8 d], .agg #[.int .i8 i1b, .int .i8 i2b, .int .i8 i3b, .int .u8 db, .int .i8 i1c, .int .i8 i2c, .int .i8 i3c, .int .u8 dc, .int .i8 i1e, .int .i8 i2e, .int .i8 i3e, .int .u8 de, .int .i8 i1f, .int .i8 i2f, .int .i8 i3f, .int .u8 df]] w fun e w' => e = .returned (.bool true) ∧ Gr w w' := by
  refine (run_calls sysMk sysMk_ok (runMk t0 t1 t2 t3 i1 i2 i3 d i1b i2b i3b db i1c i2c i3c dc i1e i2e i3e de i1f i2f i3f df) (X := envR []) ⟨ht, hm⟩ (okF2 (okA_ok ⟨⟨rfl, jt0⟩, ⟨rfl, jt1⟩, ⟨rfl, jt2⟩, ⟨rfl, jt3⟩, ⟨rfl, ji1⟩, ⟨rfl, ji2⟩, ⟨rfl, ji3⟩, ⟨rfl, jd⟩, trivial⟩) (okA_ok ⟨⟨rfl, ji1b⟩, ⟨rfl, ji2b⟩, ⟨rfl, ji3b⟩, ⟨rfl, jdb⟩, ⟨rfl, ji1c⟩, ⟨rfl, ji2c⟩, ⟨rfl, ji3c⟩, ⟨rfl, jdc⟩, ⟨rfl, ji1e⟩, ⟨rfl, ji2e⟩, ⟨rfl, ji3e⟩, ⟨rfl, jde⟩, ⟨rfl, ji1f⟩, ⟨rfl, ji2f⟩, ⟨rfl, ji3f⟩, ⟨rfl, jdf⟩, trivial⟩)) (Post := isT) (treeMk_ok (qd_vt t0 t1 t2 t3) (sq i1b db) (sq i2b db) (sq i3b db) (sq i1c dc) (sq i2c dc) (sq i3c dc) (sq i1e de) (sq i2e de) (sq i3e de) (sq i1f df) (sq i2f df) (sq i3f df) (sq i1 d) (sq i2 d) (sq i3 d))).mono fun e w' he => ?_
  obtain ⟨v, X', n, rfl, g, _, _, hp⟩ := he
  exact ⟨by rw [hp], g⟩
end Go.Proofs.YtaldbfflkpgfoaaGreatDoor
/- The law MotionKeeps holds of every input: its row, and its card tied to the program's text. Printed by a program of the prover's. -/
namespace Go.Proofs.YtaldbfflkpgfoaaGreatDoor
open Go.ChangeShapes Go.WideShapes Go.ChangeAt Go.RowKit

theorem motionKeeps_table {W : World} (h : laidMetH Tryz.prog Rows.motionKeepsRow.laid W) : Tab W :=
  Lib.tabIs_of_head (rest := _) (g := 1) (t := 254) (e := 160) (n := 20) (by kernel_rfl) (by kernel_rfl) (by kernel_rfl) (by kernel_rfl) (by kernel_rfl) (by kernel_rfl) ((show laidMet Tryz.prog Rows.motionKeepsRow.laid W from (MakeChecks.laidMetH_plain _ _ _ (by kernel_rfl)) ▸ h).tail.tail)
theorem motionKeeps_maxlen {W : World} (h : W.ShapedOpen Tryz.prog) : Mx W :=
  Go.Proofs.cell_of_shapedOpen_int (zero := #[.int .i64 0]) (g := 0) (t := 3) h (of_decide_eq_true (by kernel_rfl)) (by kernel_rfl) rfl (by kernel_rfl) (by kernel_rfl) Tryz.underlying3
set_option maxRecDepth 100000 in
theorem motionKeeps_contract (H : Type) (enc : TypeId × Value → H) (W : World) (base : Nat) (args : Array Value) (ds gs : List (DataW H)) (before : List MemPlace)
    (hval : ∀ (j : Nat) t v, Tryz.f7.params[j]? = some t → args[j]? = some v → Value.okWide Tryz.prog W .any base t v)
    (hW : DataW.Whole enc Tryz.prog Tryz.f7.params.toList Rows.motionKeepsSpec.vars false W args.toList ds gs before) (hL : laidMetH Tryz.prog Rows.motionKeepsRow.laid W) (hsh : W.ShapedOpen Tryz.prog) :
    Calls Tryz.prog 7 args W fun e W' => ∃ v, e = .returned v ∧ Rows.motionKeepsSpec.post enc Tryz.prog Tryz.f7 false true false false W args v W' := by
  have hW' := hW
  obtain ⟨p, q, hA0, hV, rfl, hfz, hnd⟩ := hW
  have hA : DataW.TrodAll enc Tryz.prog W 0 (fun _ => true) true Tryz.f7.params.toList args.toList ds p := hA0
  rw [Tryz.params7] at hA hval
  obtain ⟨v0, vs0, d0, ds0, p0, q0, hargs, rfl, rfl, h0, r0⟩ := trodAll_cons hA
  obtain ⟨v1, vs1, d1, ds1, p1, q1, rfl, rfl, rfl, h1, r1⟩ := trodAll_cons r0
  obtain ⟨rfl, rfl, rfl⟩ := trodAll_nil r1
  obtain rfl : args = #[v0, v1] := by cases args; simp_all
  obtain ⟨rfl, rfl⟩ := trodVars_none hV
  obtain ⟨c0, rfl, z0, o0⟩ := open_cells (ts := [56, 56, 56, 56, 56, 56, 56, 5]) [.i8, .i8, .i8, .i8, .i8, .i8, .i8, .u8] (by kernel_rfl) (by kernel_rfl) (by kernel_rfl) (by kernel_rfl) (hval 0 62 v0 rfl rfl)
  obtain ⟨n0_0, y0_0, b0_0⟩ := o0 0 .i8 rfl
  obtain ⟨n0_1, y0_1, b0_1⟩ := o0 1 .i8 rfl
  obtain ⟨n0_2, y0_2, b0_2⟩ := o0 2 .i8 rfl
  obtain ⟨n0_3, y0_3, b0_3⟩ := o0 3 .i8 rfl
  obtain ⟨n0_4, y0_4, b0_4⟩ := o0 4 .i8 rfl
  obtain ⟨n0_5, y0_5, b0_5⟩ := o0 5 .i8 rfl
  obtain ⟨n0_6, y0_6, b0_6⟩ := o0 6 .i8 rfl
  obtain ⟨n0_7, y0_7, b0_7⟩ := o0 7 .u8 rfl
  obtain rfl : c0 = #[.int .i8 n0_0, .int .i8 n0_1, .int .i8 n0_2, .int .i8 n0_3, .int .i8 n0_4, .int .i8 n0_5, .int .i8 n0_6, .int .u8 n0_7] := by
    apply Array.ext_getElem?; intro i
    rcases i with _ | _ | _ | _ | _ | _ | _ | _ | i
    · exact y0_0
    · exact y0_1
    · exact y0_2
    · exact y0_3
    · exact y0_4
    · exact y0_5
    · exact y0_6
    · exact y0_7
    · rw [Array.getElem?_eq_none (by simp at z0; omega), Array.getElem?_eq_none (by simp)]
  obtain ⟨c1, rfl, z1, o1⟩ := open_cells (ts := [56, 56, 56, 5, 56, 56, 56, 5, 56, 56, 56, 5, 56, 56, 56, 5]) [.i8, .i8, .i8, .u8, .i8, .i8, .i8, .u8, .i8, .i8, .i8, .u8, .i8, .i8, .i8, .u8] (by kernel_rfl) (by kernel_rfl) (by kernel_rfl) (by kernel_rfl) (hval 1 81 v1 rfl rfl)
  obtain ⟨n1_0, y1_0, b1_0⟩ := o1 0 .i8 rfl
  obtain ⟨n1_1, y1_1, b1_1⟩ := o1 1 .i8 rfl
  obtain ⟨n1_2, y1_2, b1_2⟩ := o1 2 .i8 rfl
  obtain ⟨n1_3, y1_3, b1_3⟩ := o1 3 .u8 rfl
  obtain ⟨n1_4, y1_4, b1_4⟩ := o1 4 .i8 rfl
  obtain ⟨n1_5, y1_5, b1_5⟩ := o1 5 .i8 rfl
  obtain ⟨n1_6, y1_6, b1_6⟩ := o1 6 .i8 rfl
  obtain ⟨n1_7, y1_7, b1_7⟩ := o1 7 .u8 rfl
  obtain ⟨n1_8, y1_8, b1_8⟩ := o1 8 .i8 rfl
  obtain ⟨n1_9, y1_9, b1_9⟩ := o1 9 .i8 rfl
  obtain ⟨n1_10, y1_10, b1_10⟩ := o1 10 .i8 rfl
  obtain ⟨n1_11, y1_11, b1_11⟩ := o1 11 .u8 rfl
  obtain ⟨n1_12, y1_12, b1_12⟩ := o1 12 .i8 rfl
  obtain ⟨n1_13, y1_13, b1_13⟩ := o1 13 .i8 rfl
  obtain ⟨n1_14, y1_14, b1_14⟩ := o1 14 .i8 rfl
  obtain ⟨n1_15, y1_15, b1_15⟩ := o1 15 .u8 rfl
  obtain rfl : c1 = #[.int .i8 n1_0, .int .i8 n1_1, .int .i8 n1_2, .int .u8 n1_3, .int .i8 n1_4, .int .i8 n1_5, .int .i8 n1_6, .int .u8 n1_7, .int .i8 n1_8, .int .i8 n1_9, .int .i8 n1_10, .int .u8 n1_11, .int .i8 n1_12, .int .i8 n1_13, .int .i8 n1_14, .int .u8 n1_15] := by
    apply Array.ext_getElem?; intro i
    rcases i with _ | _ | _ | _ | _ | _ | _ | _ | _ | _ | _ | _ | _ | _ | _ | _ | i
    · exact y1_0
    · exact y1_1
    · exact y1_2
    · exact y1_3
    · exact y1_4
    · exact y1_5
    · exact y1_6
    · exact y1_7
    · exact y1_8
    · exact y1_9
    · exact y1_10
    · exact y1_11
    · exact y1_12
    · exact y1_13
    · exact y1_14
    · exact y1_15
    · rw [Array.getElem?_eq_none (by simp at z1; omega), Array.getElem?_eq_none (by simp)]
  refine (motion_keeps n0_0 n0_1 n0_2 n0_3 (has_i8 b0_0) (has_i8 b0_1) (has_i8 b0_2) (has_i8 b0_3) n0_4 n0_5 n0_6 n0_7 (has_i8 b0_4) (has_i8 b0_5) (has_i8 b0_6) (has_u8 b0_7)  n1_0 n1_1 n1_2 n1_3 (has_i8 b1_0) (has_i8 b1_1) (has_i8 b1_2) (has_u8 b1_3)  n1_4 n1_5 n1_6 n1_7 (has_i8 b1_4) (has_i8 b1_5) (has_i8 b1_6) (has_u8 b1_7)  n1_8 n1_9 n1_10 n1_11 (has_i8 b1_8) (has_i8 b1_9) (has_i8 b1_10) (has_u8 b1_11)  n1_12 n1_13 n1_14 n1_15 (has_i8 b1_12) (has_i8 b1_13) (has_i8 b1_14) (has_u8 b1_15)   W (motionKeeps_table hL) (motionKeeps_maxlen hsh)).mono fun e W' ⟨he, hg⟩ => ?_
  subst he
  exact ⟨_, rfl, law_post (tb := 4) laidOut (by kernel_rfl) (by kernel_rfl) (by kernel_rfl) rfl hW' rfl hg⟩
noncomputable def motionKeeps_world (os : Os) : World := World.laidAll Tryz.prog os Rows.motionKeepsRow.laid
theorem motionKeeps_met (os : Os) : laidMet Tryz.prog Rows.motionKeepsRow.laid ((motionKeeps_world os).forCall (fun _ _ => 0) ⟨#[], #[.agg #[.int .i8 0, .int .i8 0, .int .i8 0, .int .i8 0, .int .i8 0, .int .i8 0, .int .i8 0, .int .u8 0], .agg #[.int .i8 0, .int .i8 0, .int .i8 0, .int .u8 0, .int .i8 0, .int .i8 0, .int .i8 0, .int .u8 0, .int .i8 0, .int .i8 0, .int .i8 0, .int .u8 0, .int .i8 0, .int .i8 0, .int .i8 0, .int .u8 0]], []⟩).memory :=
  laidMet_laidAll _ (by kernel_rfl) (by kernel_rfl)
theorem motionKeeps_reads (os : Os) {H : Type} (enc : TypeId × Value → H) : ∃ places, DataW.whole enc Tryz.prog ((motionKeeps_world os).forCall (fun _ _ => 0) ⟨#[], #[.agg #[.int .i8 0, .int .i8 0, .int .i8 0, .int .i8 0, .int .i8 0, .int .i8 0, .int .i8 0, .int .u8 0], .agg #[.int .i8 0, .int .i8 0, .int .i8 0, .int .u8 0, .int .i8 0, .int .i8 0, .int .i8 0, .int .u8 0, .int .i8 0, .int .i8 0, .int .i8 0, .int .u8 0, .int .i8 0, .int .i8 0, .int .i8 0, .int .u8 0]], []⟩).memory Tryz.f7.params.toList Rows.motionKeepsSpec.vars false (#[.agg #[.int .i8 0, .int .i8 0, .int .i8 0, .int .i8 0, .int .i8 0, .int .i8 0, .int .i8 0, .int .u8 0], .agg #[.int .i8 0, .int .i8 0, .int .i8 0, .int .u8 0, .int .i8 0, .int .i8 0, .int .i8 0, .int .u8 0, .int .i8 0, .int .i8 0, .int .i8 0, .int .u8 0, .int .i8 0, .int .i8 0, .int .i8 0, .int .u8 0]] : Array Value).toList 8 = some ([.agg [.agg [.lit (.int .i8 0), .lit (.int .i8 0), .lit (.int .i8 0), .lit (.int .i8 0)], .agg [.agg [.lit (.int .i8 0), .lit (.int .i8 0), .lit (.int .i8 0)], .lit (.int .u8 0)]], .agg [.agg [.agg [.lit (.int .i8 0), .lit (.int .i8 0), .lit (.int .i8 0)], .lit (.int .u8 0)], .agg [.agg [.lit (.int .i8 0), .lit (.int .i8 0), .lit (.int .i8 0)], .lit (.int .u8 0)], .agg [.agg [.lit (.int .i8 0), .lit (.int .i8 0), .lit (.int .i8 0)], .lit (.int .u8 0)], .agg [.agg [.lit (.int .i8 0), .lit (.int .i8 0), .lit (.int .i8 0)], .lit (.int .u8 0)]]], [], places) :=
  ⟨[], by kernel_rfl⟩
set_option maxRecDepth 100000 in
theorem motionKeeps_lifted (os : Os) (started : os.Started) (H : Type) (enc : TypeId × Value → H) (F : Stop.Interp) :
    ReturnsInHanded {} Tryz.checked os 7 .any ((OpenSpec.ofChange Rows.motionKeepsSpec).preRow enc Tryz.prog Tryz.f7 Rows.motionKeepsRow.domain false Rows.motionKeepsRow.laid) (((OpenSpec.ofChange Rows.motionKeepsSpec).at F).post enc Tryz.prog Tryz.f7 false true false false) := by
  obtain ⟨places, hx⟩ := motionKeeps_reads os enc
  refine returnsInHanded_of_row (C := Tryz.checked) (s := OpenSpec.ofChange Rows.motionKeepsSpec) own started (by kernel_rfl) Tryz.func7
    (witness_row_sh (enc := enc) (C := Tryz.checked) false (motionKeeps_world os) #[.agg #[.int .i8 0, .int .i8 0, .int .i8 0, .int .i8 0, .int .i8 0, .int .i8 0, .int .i8 0, .int .u8 0], .agg #[.int .i8 0, .int .i8 0, .int .i8 0, .int .u8 0, .int .i8 0, .int .i8 0, .int .i8 0, .int .u8 0, .int .i8 0, .int .i8 0, .int .i8 0, .int .u8 0, .int .i8 0, .int .i8 0, .int .i8 0, .int .u8 0]] (World.laidAll_os _ _ _) (World.shaped_of_ZipB (by kernel_rfl) (by kernel_rfl)) (by kernel_rfl)
      (OpenSpec.preRow_of_cond 8 hx (by kernel_rfl) (fun k hk => by cases hk) (by kernel_rfl) (by rw [MakeChecks.laidMetH_plain _ _ _ (by kernel_rfl)]; exact motionKeeps_met os))) ?_
  intro W base args ds gs before hval hW _ _ _ hL hsh _
  exact motionKeeps_contract H enc W base args ds gs before hval hW hL hsh
theorem motionKeeps_said : Rows.MotionKeepsSaid :=
  OpenClaim.holds_of_cond 7 Tryz.f7 rfl rfl rfl rfl rfl rfl rfl ⟨rfl, rfl, rfl, rfl, rfl⟩ rfl rfl rfl rfl rfl (by kernel_rfl) Tryz.func7 (by kernel_rfl)
    (of_decide_eq_true (by kernel_rfl)) (by unfold Func.isWrapper; first | (rw [if_pos (by decide +kernel)]; kernel_rfl) | (rw [if_neg (by decide +kernel)]; exact ⟨rfl, rfl⟩))
    (fun os started H enc _ F => by rw [OpenClaim.pre_eq_preRow]; exact motionKeeps_lifted os started H enc F)
theorem motionKeeps_plain (f : FuncId) (fn : Func) (hf : Tryz.pinned.checked.prog.funcNamed "dowel/dowellaw07.MotionKeeps" = some f) (hfn : Tryz.pinned.checked.prog.funcs[f]? = some fn) :
    true = Tryz.pinned.checked.prog.looks [] ∧ ∀ (j : Nat) t, fn.params[j]? = some t → Tryz.pinned.checked.prog.wantsStandIn t = false := by
  obtain rfl : f = 7 := Option.some.inj ((show Tryz.prog.funcNamed "dowel/dowellaw07.MotionKeeps" = some 7 by kernel_rfl).symm.trans hf) |>.symm
  obtain rfl : fn = Tryz.f7 := (Option.some.inj (Tryz.func7.symm.trans hfn)).symm
  refine ⟨by kernel_rfl, fun j t ht => ?_⟩
  rw [Tryz.params7] at ht
  have hm := Array.mem_of_getElem? ht
  have hall : (#[62, 81] : Array TypeId).toList.all (fun t => !Tryz.prog.wantsStandIn t) = true := by kernel_rfl
  have := List.all_eq_true.1 hall t (Array.mem_toList_iff.2 hm)
  have h3 : Tryz.prog.wantsStandIn t = false := by simpa using this
  exact h3
/-- the card -/
theorem motionKeeps_card : Rows.MotionKeepsCardSaid :=
  Claim7.holds_tied_plain_at .later [] _ _ _ _ motionKeeps_said (fun _ h => by cases h) (by kernel_rfl) (fun _ h => by cases h) motionKeeps_row_tie rfl ⟨rfl, rfl⟩ (by kernel_rfl) rfl motionKeeps_plain (by kernel_rfl)
end Go.Proofs.YtaldbfflkpgfoaaGreatDoor
