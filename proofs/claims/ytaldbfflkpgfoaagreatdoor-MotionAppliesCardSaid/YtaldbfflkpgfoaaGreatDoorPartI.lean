/- Joined of: Gen130, RowMotionApplies. -/
import Derived.Test.YtaldbfflkpgfoaaGreatDoorPartH
import Derived.Test.YtaldbfflkpgfoaaGreatDoorCards
import Derived.Test.YtaldbfflkpgfoaaGreatDoorTie
/- Printed by a program of the prover's: MotionApplies. -/
namespace Go.Proofs.YtaldbfflkpgfoaaGreatDoor
open Go.RowKit

/-- how the regions that draw their order are run -/
noncomputable def tabMa : List (Nat × List (Nat × Ent)) := [(8, [(3, .flo [(true, 0), (true, 2), (false, 1), (false, 3), (false, 4)] [(5, 5, 41), (6, 6, 50)] [(false, 7), (false, 8)] []), (5, .ord [(true, 0), (true, 1), (true, 4), (true, 5), (false, 2), (false, 3), (false, 6), (false, 7), (true, 8), (true, 9), (true, 10), (true, 11), (true, 14), (true, 15), (false, 12), (false, 13), (false, 16), (false, 17), (true, 18), (true, 19), (true, 20), (true, 21), (true, 23), (false, 22), (false, 24), (false, 25), (true, 26), (true, 27)] []), (7, .ord [(true, 1), (true, 3), (false, 0), (false, 2), (false, 4), (true, 5), (true, 7), (false, 6), (false, 8), (true, 9), (false, 10), (false, 11), (true, 12), (true, 13)] [])]),
 (17, [(4, .ord [(true, 0), (true, 1), (true, 2), (true, 3), (true, 5), (true, 6), (true, 7), (true, 8), (false, 4), (false, 9), (true, 10)] []), (6, .ord [(true, 0), (true, 1), (true, 3), (true, 4), (false, 2), (false, 5), (true, 6), (true, 7)] [])]),
 (18, [(1, .ord [(true, 0), (true, 1), (true, 3), (true, 4), (false, 2), (false, 5), (true, 6), (false, 7)] [2])]),
 (19, [(5, .ord [(true, 0), (true, 1), (true, 3), (true, 4), (false, 2), (true, 5), (false, 6)] [1])]),
 (20, []),
 (23, []),
 (28, [(3, .ord [(true, 0), (true, 1), (false, 2), (false, 3), (false, 4)] [2, 3])]),
 (29, []),
 (36, []),
 (38, []),
 (40, []),
 (43, [(1, .ord [(true, 0), (true, 1), (true, 3), (true, 4), (false, 2), (false, 5), (false, 6)] [4])]),
 (44, []),
 (45, []),
 (46, [(1, .ord [(true, 0), (true, 1), (true, 3), (true, 4), (false, 2), (false, 5), (false, 6)] [4])]),
 (47, [(1, .ord [(true, 0), (true, 1), (true, 2), (true, 3), (true, 5), (true, 6), (true, 7), (true, 8), (true, 10), (true, 11), (true, 12), (true, 13), (false, 4), (false, 9), (false, 14), (true, 15), (false, 16)] [4])]),
 (48, []),
 (49, []),
 (62, [(1, .ord [(true, 0), (true, 1), (true, 2), (true, 3), (true, 4), (true, 5), (true, 6), (true, 7), (true, 8), (true, 9), (true, 10), (true, 11)] []), (11, .ord [(true, 0), (true, 1), (true, 2), (true, 3), (true, 4), (true, 5), (true, 6), (true, 8), (true, 10), (false, 7), (false, 9), (true, 11), (false, 12)] [9])]),
 (63, []),
 (69, [(8, .ord [(true, 0), (true, 1), (true, 2), (true, 3), (true, 4), (false, 5)] [3])]),
 (70, [(8, .ord [(true, 0), (true, 1), (true, 2), (true, 3), (true, 4), (true, 5), (true, 6), (true, 7), (true, 8), (false, 9)] [3])]),
 (71, [(1, .ord [(true, 0), (true, 1), (true, 2), (true, 3), (true, 5), (true, 6), (true, 7), (true, 8), (true, 11), (true, 12), (true, 13), (true, 14), (false, 4), (false, 9), (false, 10), (false, 15), (false, 16), (true, 17)] [])]),
 (73, []),
 (74, [(5, .ord [(true, 0), (true, 1), (true, 2), (true, 3), (true, 4), (true, 5), (true, 6), (true, 7), (false, 8), (true, 9), (false, 10)] [7])]),
 (83, []),
 (84, [(4, .ord [(true, 0), (true, 1), (true, 2), (true, 3), (true, 4), (true, 5), (false, 6), (true, 7)] [])]),
 (86, []),
 (88, [(1, .ord [(true, 0), (true, 1), (true, 2), (true, 3), (true, 5), (true, 6), (true, 7), (true, 8), (true, 10), (true, 11), (true, 12), (true, 13), (false, 4), (false, 9), (false, 14), (true, 15), (false, 16)] [4])]),
 (89, [(1, .ord [(true, 0), (true, 1), (true, 3), (true, 4), (true, 6), (true, 7), (false, 2), (false, 5), (false, 8), (true, 9), (false, 10)] [2])]),
 (93, [])]
noncomputable def conMa : List (Nat × ConT) := [(103, conRR 100000 (fun k m => k + m + 1) (fun a b => a + b)),
 (75, conRR 100000 (fun k m => k + m + 1) (fun a b => a - b)),
 (82, conRR 100000 (fun k m => k + m) (fun a b => a * b)),
 (108, cNeg),
 (59, cFrom),
 (37, cComp),
 (76, cSign),
 (87, cNumb),
 (130, cNum),
 (81, cDen),
 (58, cDiv),
 (96, cZFrom),
 (80, cZMul),
 (122, cZGcd),
 (123, cZDiv),
 (68, cZInt),
 (105, cTT (fun k m => k + m + 1) fun a b => a + b),
 (132, cTT (fun k m => k + m + 1) fun a b => a - b),
 (106, cTT (fun k m => k + m) fun a b => a * b),
 (64, cTDiv),
 (115, cTNeg),
 (65, cTFrom),
 (94, cPars 400),
 (107, cPars 65536),
 (15, cChk),
 (66, cPrim),
 (14, cOf),
 (16, cMEq),
 (67, cTurn),
 (21, cPlc),
 (11, cKnown)]
noncomputable def sysMa : Sys := ⟨Tryz.prog, 2, 199, tabMa, conMa, fun w => Tab w ∧ Mx w⟩
theorem sysMa_ok : sysMa.OK where
  mixed := by kernel_rfl
  calls := fun f h0 h1 => by
    have : (List.range 199).all (fun f => Nat.blt f 2 || okCall Tryz.prog f) = true := by kernel_rfl
    have := List.all_eq_true.1 this f (List.mem_range.2 h1)
    simp only [Bool.or_eq_true] at this
    exact this.resolve_left (fun e => by have := blt_of e; exact absurd h0 (by show ¬ 2 ≤ f; omega))
  tab := by
    have : tabMa.all (okTab Tryz.prog) = true := by kernel_rfl
    exact fun x hx => List.all_eq_true.1 this x hx
  con := fun x hx => by
    simp only [sysMa, conMa, List.mem_cons, List.not_mem_nil, or_false] at hx
    rcases hx with rfl | rfl | rfl | rfl | rfl | rfl | rfl | rfl | rfl | rfl | rfl | rfl | rfl | rfl | rfl | rfl | rfl | rfl | rfl | rfl | rfl | rfl | rfl | rfl | rfl | rfl | rfl | rfl | rfl | rfl | rfl
    · exact conRR_ok fun h1 h2 h3 => add_r h1 h2 h3
    · exact conRR_ok fun h1 h2 h3 => sub_r h1 h2 h3
    · exact conRR_ok fun h1 h2 h3 => mul_r h1 h2 h3
    · exact cNeg_ok
    · exact cFrom_ok
    · exact cComp_ok
    · exact cSign_ok
    · exact cNumb_ok fun w h => h.1
    · exact cNum_ok
    · exact cDen_ok
    · exact cDiv_ok
    · exact cZFrom_ok
    · exact cZMul_ok
    · exact cZGcd_ok
    · exact cZDiv_ok
    · exact cZInt_ok
    · exact cTAdd_ok
    · exact cTSub_ok
    · exact cTMul_ok
    · exact cTDiv_ok
    · exact cTNeg_ok
    · exact cTFrom_ok
    · exact cPars_ok fun w h => h.2
    · exact cRead_ok fun w h => h.2
    · exact cChk_ok fun w h => h.2
    · exact cPrim_ok
    · exact cOf_ok fun w h => h
    · exact cMEq_ok
    · exact cTurn_ok
    · exact cPlc_ok fun w h => h
    · exact cKnown_ok fun w h => h
  inv := fun w w' h g => ⟨h.1.gr g, h.2.gr g⟩
def asN : Nat → Rat → Lf → Lf
  | 0, _, l => l
  | n + 1, x, l => .as (decide (x ≠ 0)) true (asN n x l)
theorem asN_ok {P : SV → Prop} {x : Rat} {l : Lf} {n : Nat} (h : x ≠ 0) (hl : LOK P l) : LOK P (asN n x l) := by
  induction n with
  | zero => exact hl
  | succ n ih => exact ⟨decide_eq_true h, ih⟩
def l3 (a b c : Rat) : List (List UInt8) := [ratL a, ratL b, ratL c]
theorem eE3 {a b c x y z : Rat} (h1 : a = x) (h2 : b = y) (h3 : c = z) : sEq (l3 a b c) (l3 x y z) = true := by subst h1 h2 h3; exact sEq_same _
theorem nE3 {a b c x y z : Rat} (h1 : a = x) (h2 : b = y) (h3 : c = z) : (!sEq (l3 a b c) (l3 x y z)) = false := by rw [eE3 h1 h2 h3]; rfl
theorem rc0 {a b : Rat} (h : a = b) : (rcmp a b != 0) = false := by rw [rcmp_zero.2 h]; rfl
def isT (v : SV) : Prop := ∀ X, v.den X = .bool true
theorem isT_of {t : Bool} {d : Option Bool} (h : t = true) : isT (.so (.vc (.cb t d))) := fun _ => by rw [h]; rfl
def treeMa (q0 q1 q2 q3 : Int) (v1 v2 v3 s1 s2 s3 : Rat) : Lf := .as (decide (chk q0 q1 q2 q3 0 = 0)) true (asN 9 (nN q0 q1 q2 q3) (
  .as (!sEq (l3 (0 + roE q0 q1 q2 q3 0 * v1 + roE q0 q1 q2 q3 1 * v2 + roE q0 q1 q2 q3 2 * v3 + s1) (0 + roE q0 q1 q2 q3 3 * v1 + roE q0 q1 q2 q3 4 * v2 + roE q0 q1 q2 q3 5 * v3 + s2) (0 + roE q0 q1 q2 q3 6 * v1 + roE q0 q1 q2 q3 7 * v2 + roE q0 q1 q2 q3 8 * v3 + s3)) (l3 (roE q0 q1 q2 q3 0 * v1 + roE q0 q1 q2 q3 1 * v2 + roE q0 q1 q2 q3 2 * v3 + s1) (roE q0 q1 q2 q3 3 * v1 + roE q0 q1 q2 q3 4 * v2 + roE q0 q1 q2 q3 5 * v3 + s2) (roE q0 q1 q2 q3 6 * v1 + roE q0 q1 q2 q3 7 * v2 + roE q0 q1 q2 q3 8 * v3 + s3))) false (
  .as (!sEq (l3 (0 + roE q0 q1 q2 q3 0 * v1 + roE q0 q1 q2 q3 1 * v2 + roE q0 q1 q2 q3 2 * v3) (0 + roE q0 q1 q2 q3 3 * v1 + roE q0 q1 q2 q3 4 * v2 + roE q0 q1 q2 q3 5 * v3) (0 + roE q0 q1 q2 q3 6 * v1 + roE q0 q1 q2 q3 7 * v2 + roE q0 q1 q2 q3 8 * v3)) (l3 (roE q0 q1 q2 q3 0 * v1 + roE q0 q1 q2 q3 1 * v2 + roE q0 q1 q2 q3 2 * v3) (roE q0 q1 q2 q3 3 * v1 + roE q0 q1 q2 q3 4 * v2 + roE q0 q1 q2 q3 5 * v3) (roE q0 q1 q2 q3 6 * v1 + roE q0 q1 q2 q3 7 * v2 + roE q0 q1 q2 q3 8 * v3))) false (
  .as (!sEq (l3 (roE q0 q1 q2 q3 0) (roE q0 q1 q2 q3 3) (roE q0 q1 q2 q3 6)) (l3 (roE q0 q1 q2 q3 0) (roE q0 q1 q2 q3 3) (roE q0 q1 q2 q3 6))) false (
  .as (!sEq (l3 (roE q0 q1 q2 q3 1) (roE q0 q1 q2 q3 4) (roE q0 q1 q2 q3 7)) (l3 (roE q0 q1 q2 q3 1) (roE q0 q1 q2 q3 4) (roE q0 q1 q2 q3 7))) false (
  .as (!sEq (l3 (roE q0 q1 q2 q3 2) (roE q0 q1 q2 q3 5) (roE q0 q1 q2 q3 8)) (l3 (roE q0 q1 q2 q3 2) (roE q0 q1 q2 q3 5) (roE q0 q1 q2 q3 8))) false (
  .as (sEq (l3 (0 - (0 + roE q0 q1 q2 q3 0 * s1 + roE q0 q1 q2 q3 3 * s2 + roE q0 q1 q2 q3 6 * s3)) (0 - (0 + roE q0 q1 q2 q3 1 * s1 + roE q0 q1 q2 q3 4 * s2 + roE q0 q1 q2 q3 7 * s3)) (0 - (0 + roE q0 q1 q2 q3 2 * s1 + roE q0 q1 q2 q3 5 * s2 + roE q0 q1 q2 q3 8 * s3))) (l3 (-(roE q0 q1 q2 q3 0 * s1 + roE q0 q1 q2 q3 3 * s2 + roE q0 q1 q2 q3 6 * s3)) (-(roE q0 q1 q2 q3 1 * s1 + roE q0 q1 q2 q3 4 * s2 + roE q0 q1 q2 q3 7 * s3)) (-(roE q0 q1 q2 q3 2 * s1 + roE q0 q1 q2 q3 5 * s2 + roE q0 q1 q2 q3 8 * s3)))) true (
  .as (rcmp (0 + ((1 : Int) : Rat) * v1 + 0 * v2 + 0 * v3 + 0) v1 != 0) false (
  .as (rcmp (0 + 0 * v1 + ((1 : Int) : Rat) * v2 + 0 * v3 + 0) v2 != 0) false (
  .as (rcmp (0 + 0 * v1 + 0 * v2 + ((1 : Int) : Rat) * v3 + 0) v3 != 0) false (
  asN 9 (nN 1 0 0 0) (
  .as (!sEq (l3 (((1 : Int) : Rat)) (0) (0)) (l3 (roE 1 0 0 0 0) (roE 1 0 0 0 1) (roE 1 0 0 0 2))) false (
  .as (!sEq (l3 (0) (((1 : Int) : Rat)) (0)) (l3 (roE 1 0 0 0 3) (roE 1 0 0 0 4) (roE 1 0 0 0 5))) false (
  .as (!sEq (l3 (0) (0) (((1 : Int) : Rat))) (l3 (roE 1 0 0 0 6) (roE 1 0 0 0 7) (roE 1 0 0 0 8))) false (
  .as (sEq (l3 0 0 0) [[48], [48], [48]]) true (
  .ret (.so (.vc (.cb (sEq (l3 0 0 0) [[48], [48], [48]]) (some true))))))))))))))))))))
theorem treeMa_ok {q0 q1 q2 q3 : Int} (hv : VT q0 q1 q2 q3) (v1 v2 v3 s1 s2 s3 : Rat) : LOK isT (treeMa q0 q1 q2 q3 v1 v2 v3 s1 s2 s3) := ⟨decide_eq_true (hv.chk 0), asN_ok (nn_ne hv) (⟨nE3 (by grind) (by grind) (by grind), ⟨nE3 (by grind) (by grind) (by grind), ⟨nE3 rfl rfl rfl, ⟨nE3 rfl rfl rfl, ⟨nE3 rfl rfl rfl, ⟨eE3 (by grind) (by grind) (by grind), ⟨rc0 (by grind), ⟨rc0 (by grind), ⟨rc0 (by grind), asN_ok (by decide +kernel) (⟨nE3 (by decide +kernel) (by decide +kernel) (by decide +kernel), ⟨nE3 (by decide +kernel) (by decide +kernel) (by decide +kernel), ⟨nE3 (by decide +kernel) (by decide +kernel) (by decide +kernel), ⟨(by rw [← ratL0]; exact sEq_same _), isT_of (by rw [← ratL0]; exact sEq_same _)⟩⟩⟩⟩)⟩⟩⟩⟩⟩⟩⟩⟩⟩)⟩
theorem runMa (t0 t1 t2 t3 i1 i2 i3 d i1b i2b i3b db : Int) : runF sysMa 8 [.so (.vg [.ci .i8 t0 (-128) 127, .ci .i8 t1 (-128) 127, .ci .i8 t2 (-128) 127, .ci .i8 t3 (-128) 127, .ci .i8 i1 (-128) 127, .ci .i8 i2 (-128) 127, .ci .i8 i3 (-128) 127, .ci .u8 d 0 255]), .so (.vg [.ci .i8 i1b (-128) 127, .ci .i8 i2b (-128) 127, .ci .i8 i3b (-128) 127, .ci .u8 db 0 255])] 0 0 (.f (.f (.f (.f (.f (.t (.f (.f (.f (.f (.f (.f (.t .e))))))))))))) = some (treeMa (qd t0 t1 t2 t3 0) (qd t0 t1 t2 t3 1) (qd t0 t1 t2 t3 2) (qd t0 t1 t2 t3 3) (sq i1b db) (sq i2b db) (sq i3b db) (sq i1 d) (sq i2 d) (sq i3 d)) := by kernel_rfl
theorem motion_applies (t0 t1 t2 t3 : Int) (jt0 : -128 ≤ t0 ∧ t0 ≤ 127) (jt1 : -128 ≤ t1 ∧ t1 ≤ 127) (jt2 : -128 ≤ t2 ∧ t2 ≤ 127) (jt3 : -128 ≤ t3 ∧ t3 ≤ 127) (i1 i2 i3 d : Int) (ji1 : -128 ≤ i1 ∧ i1 ≤ 127) (ji2 : -128 ≤ i2 ∧ i2 ≤ 127) (ji3 : -128 ≤ i3 ∧ i3 ≤ 127) (jd : 0 ≤ d ∧ d ≤ 255) (i1b i2b i3b db : Int) (ji1b : -128 ≤ i1b ∧ i1b ≤ 127) (ji2b : -128 ≤ i2b ∧ i2b ≤ 127) (ji3b : -128 ≤ i3b ∧ i3b ≤ 127) (jdb : 0 ≤ db ∧ db ≤ 255) (w : World) (ht : Tab w) (hm : Mx w) :
    Calls Tryz.prog 8 #[.agg #[.int .i8 t0, .int .i8 t1, .int .i8 t2, .int .i8 t3, .int .i8 i1, .int .i8 i2, .int .i8 i3, .int .u8 d], .agg #[.int .i8 i1b, .int .i8 i2b, .int .i8 i3b, .int .u8 db]] w fun e w' => e = .returned (.bool true) ∧ Gr w w' := by
  refine (run_calls sysMa sysMa_ok (runMa t0 t1 t2 t3 i1 i2 i3 d i1b i2b i3b db) (X := envR []) ⟨ht, hm⟩ (okF2 (okA_ok ⟨⟨rfl, jt0⟩, ⟨rfl, jt1⟩, ⟨rfl, jt2⟩, ⟨rfl, jt3⟩, ⟨rfl, ji1⟩, ⟨rfl, ji2⟩, ⟨rfl, ji3⟩, ⟨rfl, jd⟩, trivial⟩) (okA_ok ⟨⟨rfl, ji1b⟩, ⟨rfl, ji2b⟩, ⟨rfl, ji3b⟩, ⟨rfl, jdb⟩, trivial⟩)) (Post := isT) (treeMa_ok (qd_vt t0 t1 t2 t3) (sq i1b db) (sq i2b db) (sq i3b db) (sq i1 d) (sq i2 d) (sq i3 d))).mono fun e w' he => ?_
  obtain ⟨v, X', n, rfl, g, _, _, hp⟩ := he
  exact ⟨by rw [hp], g⟩
end Go.Proofs.YtaldbfflkpgfoaaGreatDoor
/- The law MotionApplies holds of every input: its row, and its card tied to the program's text. Printed by a program of the prover's. -/
namespace Go.Proofs.YtaldbfflkpgfoaaGreatDoor
open Go.ChangeShapes Go.WideShapes Go.ChangeAt Go.RowKit

theorem motionApplies_table {W : World} (h : laidMetH Tryz.prog Rows.motionAppliesRow.laid W) : Tab W :=
  Lib.tabIs_of_head (rest := _) (g := 1) (t := 254) (e := 160) (n := 20) (by kernel_rfl) (by kernel_rfl) (by kernel_rfl) (by kernel_rfl) (by kernel_rfl) (by kernel_rfl) ((show laidMet Tryz.prog Rows.motionAppliesRow.laid W from (MakeChecks.laidMetH_plain _ _ _ (by kernel_rfl)) ▸ h).tail.tail)
theorem motionApplies_maxlen {W : World} (h : W.ShapedOpen Tryz.prog) : Mx W :=
  Go.Proofs.cell_of_shapedOpen_int (zero := #[.int .i64 0]) (g := 0) (t := 3) h (of_decide_eq_true (by kernel_rfl)) (by kernel_rfl) rfl (by kernel_rfl) (by kernel_rfl) Tryz.underlying3
set_option maxRecDepth 100000 in
theorem motionApplies_contract (H : Type) (enc : TypeId × Value → H) (W : World) (base : Nat) (args : Array Value) (ds gs : List (DataW H)) (before : List MemPlace)
    (hval : ∀ (j : Nat) t v, Tryz.f8.params[j]? = some t → args[j]? = some v → Value.okWide Tryz.prog W .any base t v)
    (hW : DataW.Whole enc Tryz.prog Tryz.f8.params.toList Rows.motionAppliesSpec.vars false W args.toList ds gs before) (hL : laidMetH Tryz.prog Rows.motionAppliesRow.laid W) (hsh : W.ShapedOpen Tryz.prog) :
    Calls Tryz.prog 8 args W fun e W' => ∃ v, e = .returned v ∧ Rows.motionAppliesSpec.post enc Tryz.prog Tryz.f8 false true false false W args v W' := by
  have hW' := hW
  obtain ⟨p, q, hA0, hV, rfl, hfz, hnd⟩ := hW
  have hA : DataW.TrodAll enc Tryz.prog W 0 (fun _ => true) true Tryz.f8.params.toList args.toList ds p := hA0
  rw [Tryz.params8] at hA hval
  obtain ⟨v0, vs0, d0, ds0, p0, q0, hargs, rfl, rfl, h0, r0⟩ := trodAll_cons hA
  obtain ⟨v1, vs1, d1, ds1, p1, q1, rfl, rfl, rfl, h1, r1⟩ := trodAll_cons r0
  obtain ⟨rfl, rfl, rfl⟩ := trodAll_nil r1
  obtain rfl : args = #[v0, v1] := by cases args; simp_all
  obtain ⟨rfl, rfl⟩ := trodVars_none hV
  obtain ⟨c0, rfl, z0, o0⟩ := open_cells (ts := [56, 56, 56, 56, 56, 56, 56, 5]) [.i8, .i8, .i8, .i8, .i8, .i8, .i8, .u8] (by kernel_rfl) (by kernel_rfl) (by kernel_rfl) (by kernel_rfl) (hval 0 62 v0 rfl rfl)
  obtain ⟨n0_0, y0_0, b0_0⟩ := o0 0 .i8 rfl
  obtain ⟨n0_1, y0_1, b0_1⟩ := o0 1 .i8 rfl
  obtain ⟨n0_2, y0_2, b0_2⟩ := o0 2 .i8 rfl
  obtain ⟨n0_3, y0_3, b0_3⟩ := o0 3 .i8 rfl
  obtain ⟨n0_4, y0_4, b0_4⟩ := o0 4 .i8 rfl
  obtain ⟨n0_5, y0_5, b0_5⟩ := o0 5 .i8 rfl
  obtain ⟨n0_6, y0_6, b0_6⟩ := o0 6 .i8 rfl
  obtain ⟨n0_7, y0_7, b0_7⟩ := o0 7 .u8 rfl
  obtain rfl : c0 = #[.int .i8 n0_0, .int .i8 n0_1, .int .i8 n0_2, .int .i8 n0_3, .int .i8 n0_4, .int .i8 n0_5, .int .i8 n0_6, .int .u8 n0_7] := by
    apply Array.ext_getElem?; intro i
    rcases i with _ | _ | _ | _ | _ | _ | _ | _ | i
    · exact y0_0
    · exact y0_1
    · exact y0_2
    · exact y0_3
    · exact y0_4
    · exact y0_5
    · exact y0_6
    · exact y0_7
    · rw [Array.getElem?_eq_none (by simp at z0; omega), Array.getElem?_eq_none (by simp)]
  obtain ⟨c1, rfl, z1, o1⟩ := open_cells (ts := [56, 56, 56, 5]) [.i8, .i8, .i8, .u8] (by kernel_rfl) (by kernel_rfl) (by kernel_rfl) (by kernel_rfl) (hval 1 60 v1 rfl rfl)
  obtain ⟨n1_0, y1_0, b1_0⟩ := o1 0 .i8 rfl
  obtain ⟨n1_1, y1_1, b1_1⟩ := o1 1 .i8 rfl
  obtain ⟨n1_2, y1_2, b1_2⟩ := o1 2 .i8 rfl
  obtain ⟨n1_3, y1_3, b1_3⟩ := o1 3 .u8 rfl
  obtain rfl : c1 = #[.int .i8 n1_0, .int .i8 n1_1, .int .i8 n1_2, .int .u8 n1_3] := by
    apply Array.ext_getElem?; intro i
    rcases i with _ | _ | _ | _ | i
    · exact y1_0
    · exact y1_1
    · exact y1_2
    · exact y1_3
    · rw [Array.getElem?_eq_none (by simp at z1; omega), Array.getElem?_eq_none (by simp)]
  refine (motion_applies n0_0 n0_1 n0_2 n0_3 (has_i8 b0_0) (has_i8 b0_1) (has_i8 b0_2) (has_i8 b0_3) n0_4 n0_5 n0_6 n0_7 (has_i8 b0_4) (has_i8 b0_5) (has_i8 b0_6) (has_u8 b0_7)  n1_0 n1_1 n1_2 n1_3 (has_i8 b1_0) (has_i8 b1_1) (has_i8 b1_2) (has_u8 b1_3)   W (motionApplies_table hL) (motionApplies_maxlen hsh)).mono fun e W' ⟨he, hg⟩ => ?_
  subst he
  exact ⟨_, rfl, law_post (tb := 4) laidOut (by kernel_rfl) (by kernel_rfl) (by kernel_rfl) rfl hW' rfl hg⟩
noncomputable def motionApplies_world (os : Os) : World := World.laidAll Tryz.prog os Rows.motionAppliesRow.laid
theorem motionApplies_met (os : Os) : laidMet Tryz.prog Rows.motionAppliesRow.laid ((motionApplies_world os).forCall (fun _ _ => 0) ⟨#[], #[.agg #[.int .i8 0, .int .i8 0, .int .i8 0, .int .i8 0, .int .i8 0, .int .i8 0, .int .i8 0, .int .u8 0], .agg #[.int .i8 0, .int .i8 0, .int .i8 0, .int .u8 0]], []⟩).memory :=
  laidMet_laidAll _ (by kernel_rfl) (by kernel_rfl)
theorem motionApplies_reads (os : Os) {H : Type} (enc : TypeId × Value → H) : ∃ places, DataW.whole enc Tryz.prog ((motionApplies_world os).forCall (fun _ _ => 0) ⟨#[], #[.agg #[.int .i8 0, .int .i8 0, .int .i8 0, .int .i8 0, .int .i8 0, .int .i8 0, .int .i8 0, .int .u8 0], .agg #[.int .i8 0, .int .i8 0, .int .i8 0, .int .u8 0]], []⟩).memory Tryz.f8.params.toList Rows.motionAppliesSpec.vars false (#[.agg #[.int .i8 0, .int .i8 0, .int .i8 0, .int .i8 0, .int .i8 0, .int .i8 0, .int .i8 0, .int .u8 0], .agg #[.int .i8 0, .int .i8 0, .int .i8 0, .int .u8 0]] : Array Value).toList 8 = some ([.agg [.agg [.lit (.int .i8 0), .lit (.int .i8 0), .lit (.int .i8 0), .lit (.int .i8 0)], .agg [.agg [.lit (.int .i8 0), .lit (.int .i8 0), .lit (.int .i8 0)], .lit (.int .u8 0)]], .agg [.agg [.lit (.int .i8 0), .lit (.int .i8 0), .lit (.int .i8 0)], .lit (.int .u8 0)]], [], places) :=
  ⟨[], by kernel_rfl⟩
set_option maxRecDepth 100000 in
theorem motionApplies_lifted (os : Os) (started : os.Started) (H : Type) (enc : TypeId × Value → H) (F : Stop.Interp) :
    ReturnsInHanded {} Tryz.checked os 8 .any ((OpenSpec.ofChange Rows.motionAppliesSpec).preRow enc Tryz.prog Tryz.f8 Rows.motionAppliesRow.domain false Rows.motionAppliesRow.laid) (((OpenSpec.ofChange Rows.motionAppliesSpec).at F).post enc Tryz.prog Tryz.f8 false true false false) := by
  obtain ⟨places, hx⟩ := motionApplies_reads os enc
  refine returnsInHanded_of_row (C := Tryz.checked) (s := OpenSpec.ofChange Rows.motionAppliesSpec) own started (by kernel_rfl) Tryz.func8
    (witness_row_sh (enc := enc) (C := Tryz.checked) false (motionApplies_world os) #[.agg #[.int .i8 0, .int .i8 0, .int .i8 0, .int .i8 0, .int .i8 0, .int .i8 0, .int .i8 0, .int .u8 0], .agg #[.int .i8 0, .int .i8 0, .int .i8 0, .int .u8 0]] (World.laidAll_os _ _ _) (World.shaped_of_ZipB (by kernel_rfl) (by kernel_rfl)) (by kernel_rfl)
      (OpenSpec.preRow_of_cond 8 hx (by kernel_rfl) (fun k hk => by cases hk) (by kernel_rfl) (by rw [MakeChecks.laidMetH_plain _ _ _ (by kernel_rfl)]; exact motionApplies_met os))) ?_
  intro W base args ds gs before hval hW _ _ _ hL hsh _
  exact motionApplies_contract H enc W base args ds gs before hval hW hL hsh
theorem motionApplies_said : Rows.MotionAppliesSaid :=
  OpenClaim.holds_of_cond 8 Tryz.f8 rfl rfl rfl rfl rfl rfl rfl ⟨rfl, rfl, rfl, rfl, rfl⟩ rfl rfl rfl rfl rfl (by kernel_rfl) Tryz.func8 (by kernel_rfl)
    (of_decide_eq_true (by kernel_rfl)) (by unfold Func.isWrapper; first | (rw [if_pos (by decide +kernel)]; kernel_rfl) | (rw [if_neg (by decide +kernel)]; exact ⟨rfl, rfl⟩))
    (fun os started H enc _ F => by rw [OpenClaim.pre_eq_preRow]; exact motionApplies_lifted os started H enc F)
theorem motionApplies_plain (f : FuncId) (fn : Func) (hf : Tryz.pinned.checked.prog.funcNamed "dowel/dowellaw07.MotionApplies" = some f) (hfn : Tryz.pinned.checked.prog.funcs[f]? = some fn) :
    true = Tryz.pinned.checked.prog.looks [] ∧ ∀ (j : Nat) t, fn.params[j]? = some t → Tryz.pinned.checked.prog.wantsStandIn t = false := by
  obtain rfl : f = 8 := Option.some.inj ((show Tryz.prog.funcNamed "dowel/dowellaw07.MotionApplies" = some 8 by kernel_rfl).symm.trans hf) |>.symm
  obtain rfl : fn = Tryz.f8 := (Option.some.inj (Tryz.func8.symm.trans hfn)).symm
  refine ⟨by kernel_rfl, fun j t ht => ?_⟩
  rw [Tryz.params8] at ht
  have hm := Array.mem_of_getElem? ht
  have hall : (#[62, 60] : Array TypeId).toList.all (fun t => !Tryz.prog.wantsStandIn t) = true := by kernel_rfl
  have := List.all_eq_true.1 hall t (Array.mem_toList_iff.2 hm)
  have h3 : Tryz.prog.wantsStandIn t = false := by simpa using this
  exact h3
/-- the card -/
theorem motionApplies_card : Rows.MotionAppliesCardSaid :=
  Claim7.holds_tied_plain_at .later [] _ _ _ _ motionApplies_said (fun _ h => by cases h) (by kernel_rfl) (fun _ h => by cases h) motionApplies_row_tie rfl ⟨rfl, rfl⟩ (by kernel_rfl) rfl motionApplies_plain (by kernel_rfl)
end Go.Proofs.YtaldbfflkpgfoaaGreatDoor
