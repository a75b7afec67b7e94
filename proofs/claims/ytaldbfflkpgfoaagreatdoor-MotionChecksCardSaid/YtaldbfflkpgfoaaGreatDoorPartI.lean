/- Joined of: Gen139, RowMotionChecks. -/
import Derived.Test.YtaldbfflkpgfoaaGreatDoorPartH
import Derived.Test.YtaldbfflkpgfoaaGreatDoorCards
import Derived.Test.YtaldbfflkpgfoaaGreatDoorTie
/- Printed by a program of the prover's: MotionChecks. -/
namespace Go.Proofs.YtaldbfflkpgfoaaGreatDoor
open Go.RowKit

/-- how the regions that draw their order are run -/
noncomputable def tabMh : List (Nat × List (Nat × Ent)) := [(3, [(9, .ord [(true, 0), (true, 1), (false, 2), (false, 3), (true, 4)] [])]),
 (14, [(5, .ord [(true, 0), (true, 1), (true, 2), (true, 3), (true, 4), (true, 5), (true, 6), (true, 7), (true, 8), (true, 9), (true, 10), (true, 11), (true, 12), (true, 13), (true, 14), (true, 15)] []), (12, .ord [(true, 0), (true, 1), (true, 3), (true, 5), (false, 2), (false, 4), (true, 6), (false, 7)] [14])]),
 (17, [(4, .ord [(true, 0), (true, 1), (true, 2), (true, 3), (true, 5), (true, 6), (true, 7), (true, 8), (false, 4), (false, 9), (true, 10)] []), (6, .ord [(true, 0), (true, 1), (true, 3), (true, 4), (false, 2), (false, 5), (true, 6), (true, 7)] [])]),
 (18, [(1, .ord [(true, 0), (true, 1), (true, 3), (true, 4), (false, 2), (false, 5), (true, 6), (false, 7)] [2])]),
 (44, []),
 (45, []),
 (53, []),
 (60, []),
 (62, [(1, .ord [(true, 0), (true, 1), (true, 2), (true, 3), (true, 4), (true, 5), (true, 6), (true, 7), (true, 8), (true, 9), (true, 10), (true, 11)] []), (11, .ord [(true, 0), (true, 1), (true, 2), (true, 3), (true, 4), (true, 5), (true, 6), (true, 8), (true, 10), (false, 7), (false, 9), (true, 11), (false, 12)] [9])]),
 (63, []),
 (74, [(5, .ord [(true, 0), (true, 1), (true, 2), (true, 3), (true, 4), (true, 5), (true, 6), (true, 7), (false, 8), (true, 9), (false, 10)] [7])]),
 (97, [])]
noncomputable def conMh : List (Nat × ConT) := [(103, conRR 100000 (fun k m => k + m + 1) (fun a b => a + b)),
 (75, conRR 100000 (fun k m => k + m + 1) (fun a b => a - b)),
 (82, conRR 100000 (fun k m => k + m) (fun a b => a * b)),
 (108, cNeg),
 (59, cFrom),
 (37, cComp),
 (76, cSign),
 (87, cNumb),
 (130, cNum),
 (81, cDen),
 (58, cDiv),
 (96, cZFrom),
 (80, cZMul),
 (122, cZGcd),
 (123, cZDiv),
 (68, cZInt),
 (105, cTT (fun k m => k + m + 1) fun a b => a + b),
 (132, cTT (fun k m => k + m + 1) fun a b => a - b),
 (106, cTT (fun k m => k + m) fun a b => a * b),
 (64, cTDiv),
 (115, cTNeg),
 (65, cTFrom),
 (94, cPars 400),
 (107, cPars 65536),
 (66, cPrim),
 (16, cMEq),
 (67, cTurn),
 (21, cPlc),
 (11, cKnown),
 (15, cChA),
 (13, cChA),
 (57, cVPa),
 (12, cPln)]
noncomputable def sysMh : Sys := ⟨Tryz.prog, 2, 199, tabMh, conMh, fun w => Tab w ∧ Mx w⟩
theorem sysMh_ok : sysMh.OK where
  mixed := by kernel_rfl
  calls := fun f h0 h1 => by
    have : (List.range 199).all (fun f => Nat.blt f 2 || okCall Tryz.prog f) = true := by kernel_rfl
    have := List.all_eq_true.1 this f (List.mem_range.2 h1)
    simp only [Bool.or_eq_true] at this
    exact this.resolve_left (fun e => by have := blt_of e; exact absurd h0 (by show ¬ 2 ≤ f; omega))
  tab := by
    have : tabMh.all (okTab Tryz.prog) = true := by kernel_rfl
    exact fun x hx => List.all_eq_true.1 this x hx
  lps := lps_no (by kernel_rfl)
  con := fun x hx => by
    simp only [sysMh, conMh, List.mem_cons, List.not_mem_nil, or_false] at hx
    rcases hx with rfl | rfl | rfl | rfl | rfl | rfl | rfl | rfl | rfl | rfl | rfl | rfl | rfl | rfl | rfl | rfl | rfl | rfl | rfl | rfl | rfl | rfl | rfl | rfl | rfl | rfl | rfl | rfl | rfl | rfl | rfl | rfl | rfl
    · exact conRR_ok fun h1 h2 h3 => add_r h1 h2 h3
    · exact conRR_ok fun h1 h2 h3 => sub_r h1 h2 h3
    · exact conRR_ok fun h1 h2 h3 => mul_r h1 h2 h3
    · exact cNeg_ok
    · exact cFrom_ok
    · exact cComp_ok
    · exact cSign_ok
    · exact cNumb_ok fun w h => h.1
    · exact cNum_ok
    · exact cDen_ok
    · exact cDiv_ok
    · exact cZFrom_ok
    · exact cZMul_ok
    · exact cZGcd_ok
    · exact cZDiv_ok
    · exact cZInt_ok
    · exact cTAdd_ok
    · exact cTSub_ok
    · exact cTMul_ok
    · exact cTDiv_ok
    · exact cTNeg_ok
    · exact cTFrom_ok
    · exact cPars_ok fun w h => h.2
    · exact cRead_ok fun w h => h.2
    · exact cPrim_ok
    · exact cMEq_ok
    · exact cTurn_ok
    · exact cPlc_ok fun w h => h
    · exact cKnown_ok fun w h => h
    · exact cChA_ok fun w h => h.2
    · exact cRCh_ok fun w h => h.2
    · exact cVPa_ok fun w h => h.2
    · exact cPln_ok
  inv := fun w w' h g => ⟨h.1.gr g, h.2.gr g⟩
def l64 (X Y Z : List UInt8) : Bool := decide ((X.length : Int) ≤ 9223372036854775807 ∧ (Y.length : Int) ≤ 9223372036854775807 ∧ (Z.length : Int) ≤ 9223372036854775807)
def ci5 (q0 q1 q2 q3 : Int) (X Y Z : List UInt8) : Bool := decide (((-9223372036854775808 ≤ q0 ∧ q0 ≤ 9223372036854775807) ∧ (-9223372036854775808 ≤ q1 ∧ q1 ≤ 9223372036854775807) ∧ (-9223372036854775808 ≤ q2 ∧ q2 ≤ 9223372036854775807) ∧ (-9223372036854775808 ≤ q3 ∧ q3 ≤ 9223372036854775807)) ∧ X.length ≤ 500 ∧ Y.length ≤ 500 ∧ Z.length ≤ 500)
def yes : Lf := .ret (.so (.vc (.cb true (some true))))
def treeHa (q0 q1 q2 q3 : Int) (X Y Z : List UInt8) : Lf := .as (l64 X Y Z) true (.br (pl3 X Y Z) (.as (ci5 q0 q1 q2 q3 X Y Z) true (.as (ci5 q0 q1 q2 q3 X Y Z) true (.as ((chk q0 q1 q2 q3 (fe X Y Z)) != 0) true (.as (ci5 q0 q1 q2 q3 X Y Z) true (.as ((chk q0 q1 q2 q3 (fe X Y Z)) != (chk q0 q1 q2 q3 (fe X Y Z))) false (.as ((chk q0 q1 q2 q3 (fe X Y Z)) != (chk q0 q1 q2 q3 (fe X Y Z))) false (.as ((chk q0 q1 q2 q3 (fe X Y Z)) != 0) true
  (.as (decide (([0, 0, 0, 0, 0, 0, 0, 0, 0, 0, 0, 0] : List Rat) = ([0, 0, 0, 0, 0, 0, 0, 0, 0, 0, 0, 0] : List Rat))) true (.ret (.so (.vc (.cb (decide (([0, 0, 0, 0, 0, 0, 0, 0, 0, 0, 0, 0] : List Rat) = ([0, 0, 0, 0, 0, 0, 0, 0, 0, 0, 0, 0] : List Rat))) (some true))))))))))))) yes)
theorem runHa (q0 q1 q2 q3 : Int) (X Y Z : List UInt8) : runF sysMh 3 [.so (.vg [.ci .i64 q0 (-9223372036854775808) 9223372036854775807, .ci .i64 q1 (-9223372036854775808) 9223372036854775807, .ci .i64 q2 (-9223372036854775808) 9223372036854775807, .ci .i64 q3 (-9223372036854775808) 9223372036854775807, .cw X none, .cw Y none, .cw Z none])] 0 0 (.s (.t (.f (.f (.t (.t (.t .e)))))) .e) = some (treeHa q0 q1 q2 q3 X Y Z) := by kernel_rfl
theorem yes_ok : LOK isT yes := isT_of rfl
theorem ne_self (n : Int) : (n != n) = false := by simp
theorem treeHa_ok {q0 q1 q2 q3 : Int} {X Y Z : List UInt8} (hl : l64 X Y Z = true) (hc : pl3 X Y Z = true → ci5 q0 q1 q2 q3 X Y Z = true ∧ ((chk q0 q1 q2 q3 (fe X Y Z)) != 0) = true) : LOK isT (treeHa q0 q1 q2 q3 X Y Z) :=
  ⟨hl, fun h => ⟨(hc h).1, (hc h).1, (hc h).2, (hc h).1, ne_self _, ne_self _, (hc h).2, decide_eq_true rfl, isT_of (decide_eq_true rfl)⟩, fun _ => yes_ok⟩
def rowH (q0 q1 q2 q3 : Int) (k : Nat) (l : Lf) : Lf := .as (!sEq (l3 (mOf q0 q1 q2 q3 k) (mOf q0 q1 q2 q3 (k + 1)) (mOf q0 q1 q2 q3 (k + 2))) (l3 (roE q0 q1 q2 q3 k) (roE q0 q1 q2 q3 (k + 1)) (roE q0 q1 q2 q3 (k + 2)))) false l
noncomputable def treeHb (q0 q1 q2 q3 : Int) (X Y Z : List UInt8) : Lf := .as (l64 X Y Z) true (.br (pl3 X Y Z) (.as (ci5 q0 q1 q2 q3 X Y Z) true (.as (ci5 q0 q1 q2 q3 X Y Z) true (.as ((chk q0 q1 q2 q3 (fe X Y Z)) != 0) false (.as (decide (X.length ≤ 500 ∧ Y.length ≤ 500 ∧ Z.length ≤ 500)) true (.as (decide (nN q0 q1 q2 q3 = 0)) false (.as (ci5 q0 q1 q2 q3 X Y Z) true (.as ((chk q0 q1 q2 q3 (fe X Y Z)) != (chk q0 q1 q2 q3 (fe X Y Z))) false (.as (0 != (chk q0 q1 q2 q3 (fe X Y Z))) false (.as ((chk q0 q1 q2 q3 (fe X Y Z)) != 0) false (asN 9 (nN q0 q1 q2 q3) (rowH q0 q1 q2 q3 0 (rowH q0 q1 q2 q3 3 (rowH q0 q1 q2 q3 6 (.as (sEq (l3 (pq (fe X Y Z) X) (pq (fe X Y Z) Y) (pq (fe X Y Z) Z)) [X, Y, Z]) true (.ret (.so (.vc (.cb (sEq (l3 (pq (fe X Y Z) X) (pq (fe X Y Z) Y) (pq (fe X Y Z) Z)) [X, Y, Z]) (some true))))))))))))))))))) yes)
theorem runHb (q0 q1 q2 q3 : Int) (x1 x2 x3 : Rat) : runF sysMh 3 [.so (.vg [.ci .i64 q0 (-12) 12, .ci .i64 q1 (-12) 12, .ci .i64 q2 (-12) 12, .ci .i64 q3 (-12) 12, .cw (ratL x1) none, .cw (ratL x2) none, .cw (ratL x3) none])] 0 0 (.s (.f (.f (.f (.f (.f (.f (.f (.f (.t .e))))))))) .e) = some (treeHb q0 q1 q2 q3 (ratL x1) (ratL x2) (ratL x3)) := by kernel_rfl
theorem rowH_ok {P : SV → Prop} {q0 q1 q2 q3 : Int} {k : Nat} {l : Lf} (h : LOK P l) : LOK P (rowH q0 q1 q2 q3 k l) := ⟨nE3 one_div one_div one_div, h⟩
theorem treeHb_ok {q0 q1 q2 q3 : Int} {x1 x2 x3 : Rat} (hv : VT q0 q1 q2 q3) (hf : fe (ratL x1) (ratL x2) (ratL x3) = 0) (hl : l64 (ratL x1) (ratL x2) (ratL x3) = true) (hc : ci5 q0 q1 q2 q3 (ratL x1) (ratL x2) (ratL x3) = true) : LOK isT (treeHb q0 q1 q2 q3 (ratL x1) (ratL x2) (ratL x3)) := by
  have c0 : chk q0 q1 q2 q3 (fe (ratL x1) (ratL x2) (ratL x3)) = 0 := by rw [hf, hv.chk]
  have e : sEq (l3 (pq (fe (ratL x1) (ratL x2) (ratL x3)) (ratL x1)) (pq (fe (ratL x1) (ratL x2) (ratL x3)) (ratL x2)) (pq (fe (ratL x1) (ratL x2) (ratL x3)) (ratL x3))) [ratL x1, ratL x2, ratL x3] = true := by
    rw [hf, pq_ratL, pq_ratL, pq_ratL]; exact sEq_same _
  have len := (of_decide_eq_true hc).2
  have n1 : (chk q0 q1 q2 q3 (fe (ratL x1) (ratL x2) (ratL x3)) != 0) = false := by rw [c0]; rfl
  have n2 : ((0 : Int) != chk q0 q1 q2 q3 (fe (ratL x1) (ratL x2) (ratL x3))) = false := by rw [c0]; rfl
  exact ⟨hl, fun _ => ⟨hc, hc, n1, decide_eq_true len, decide_eq_false (nn_ne hv), hc, ne_self _, n2, n1, asN_ok (nn_ne hv) (rowH_ok (rowH_ok (rowH_ok ⟨e, isT_of e⟩)))⟩, fun _ => yes_ok⟩
theorem motion_checks (q0 q1 q2 q3 : Int) (j0 : -9223372036854775808 ≤ q0 ∧ q0 ≤ 9223372036854775807) (j1 : -9223372036854775808 ≤ q1 ∧ q1 ≤ 9223372036854775807) (j2 : -9223372036854775808 ≤ q2 ∧ q2 ≤ 9223372036854775807) (j3 : -9223372036854775808 ≤ q3 ∧ q3 ≤ 9223372036854775807) (X Y Z : List UInt8) (rX : (X.length : Int) ≤ 9223372036854775807) (rY : (Y.length : Int) ≤ 9223372036854775807) (rZ : (Z.length : Int) ≤ 9223372036854775807) (w : World) (ht : Tab w) (hm : Mx w) :
    Calls Tryz.prog 3 #[.agg #[.int .i64 q0, .int .i64 q1, .int .i64 q2, .int .i64 q3, .string ⟨X.toArray⟩, .string ⟨Y.toArray⟩, .string ⟨Z.toArray⟩]] w fun e w' => e = .returned (.bool true) ∧ Gr w w' := by
  have hl : l64 X Y Z = true := decide_eq_true ⟨rX, rY, rZ⟩
  have tx : ∀ {X : List UInt8}, (Cl.cw X none).ok ⟨0, 0, 0⟩ (envR []) w := ⟨rfl, fun k q e => by cases e⟩
  have hp : pl3 X Y Z = true → ci5 q0 q1 q2 q3 X Y Z = true := fun h => by
    unfold pl3 at h
    simp only [Bool.and_eq_true] at h
    have lx := plain1_len h.1; have ly := plain1_len h.2.1; have lz := plain1_len h.2.2
    exact decide_eq_true ⟨⟨j0, j1, j2, j3⟩, by omega, by omega, by omega⟩
  by_cases hc : pl3 X Y Z = true ∧ chk q0 q1 q2 q3 (fe X Y Z) = 0
  · obtain ⟨h1, h2⟩ := hc
    obtain ⟨hv, h3⟩ := chk_ok h2
    obtain ⟨k1, k2, k3⟩ := first3_zero h3
    obtain ⟨⟨x1, rfl⟩, _⟩ := ck2_ratL k1
    obtain ⟨⟨x2, rfl⟩, _⟩ := ck2_ratL k2
    obtain ⟨⟨x3, rfl⟩, _⟩ := ck2_ratL k3
    refine (run_calls sysMh sysMh_ok (runHb q0 q1 q2 q3 x1 x2 x3) (X := envR []) ⟨ht, hm⟩ (okF1 (okA_ok ⟨⟨rfl, hv.b0⟩, ⟨rfl, hv.b1⟩, ⟨rfl, hv.b2⟩, ⟨rfl, hv.b3⟩, tx, tx, tx, trivial⟩)) (Post := isT) (treeHb_ok hv h3 hl (hp h1))).mono fun e w' he => ?_
    obtain ⟨v, X', n, rfl, g, _, _, hp⟩ := he
    exact ⟨by rw [hp], g⟩
  · refine (run_calls sysMh sysMh_ok (runHa q0 q1 q2 q3 X Y Z) (X := envR []) ⟨ht, hm⟩ (okF1 (okA_ok ⟨⟨rfl, j0⟩, ⟨rfl, j1⟩, ⟨rfl, j2⟩, ⟨rfl, j3⟩, tx, tx, tx, trivial⟩)) (Post := isT) (treeHa_ok hl fun h => ⟨hp h, by simpa using fun e => hc ⟨h, e⟩⟩)).mono fun e w' he => ?_
    obtain ⟨v, X', n, rfl, g, _, _, hp⟩ := he
    exact ⟨by rw [hp], g⟩
end Go.Proofs.YtaldbfflkpgfoaaGreatDoor
/- The law MotionChecks holds of every input: its row, and its card tied to the program's text. Printed by a program of the prover's. -/
namespace Go.Proofs.YtaldbfflkpgfoaaGreatDoor
open Go.ChangeShapes Go.WideShapes Go.ChangeAt Go.RowKit

theorem motionChecks_table {W : World} (h : laidMetH Tryz.prog Rows.motionChecksRow.laid W) : Tab W :=
  Lib.tabIs_of_head (rest := _) (g := 1) (t := 254) (e := 160) (n := 20) (by kernel_rfl) (by kernel_rfl) (by kernel_rfl) (by kernel_rfl) (by kernel_rfl) (by kernel_rfl) ((show laidMet Tryz.prog Rows.motionChecksRow.laid W from (MakeChecks.laidMetH_plain _ _ _ (by kernel_rfl)) ▸ h).tail.tail)
theorem motionChecks_maxlen {W : World} (h : W.ShapedOpen Tryz.prog) : Mx W :=
  Go.Proofs.cell_of_shapedOpen_int (zero := #[.int .i64 0]) (g := 0) (t := 3) h (of_decide_eq_true (by kernel_rfl)) (by kernel_rfl) rfl (by kernel_rfl) (by kernel_rfl) Tryz.underlying3
set_option maxRecDepth 100000 in
theorem motionChecks_contract (H : Type) (enc : TypeId × Value → H) (W : World) (base : Nat) (args : Array Value) (ds gs : List (DataW H)) (before : List MemPlace)
    (hval : ∀ (j : Nat) t v, Tryz.f3.params[j]? = some t → args[j]? = some v → Value.okWide Tryz.prog W .any base t v)
    (hW : DataW.Whole enc Tryz.prog Tryz.f3.params.toList Rows.motionChecksSpec.vars false W args.toList ds gs before) (hL : laidMetH Tryz.prog Rows.motionChecksRow.laid W) (hsh : W.ShapedOpen Tryz.prog) :
    Calls Tryz.prog 3 args W fun e W' => ∃ v, e = .returned v ∧ Rows.motionChecksSpec.post enc Tryz.prog Tryz.f3 false true false false W args v W' := by
  have hW' := hW
  obtain ⟨p, q, hA0, hV, rfl, hfz, hnd⟩ := hW
  have hA : DataW.TrodAll enc Tryz.prog W 0 (fun _ => true) true Tryz.f3.params.toList args.toList ds p := hA0
  rw [Tryz.params3] at hA hval
  obtain ⟨v0, vs0, d0, ds0, p0, q0, hargs, rfl, rfl, h0, r0⟩ := trodAll_cons hA
  obtain ⟨rfl, rfl, rfl⟩ := trodAll_nil r0
  obtain rfl : args = #[v0] := by cases args; simp_all
  obtain ⟨rfl, rfl⟩ := trodVars_none hV
  obtain ⟨c0, rfl, z0, o0⟩ := open_mixed (ts := [3, 3, 3, 3, 23, 23, 23]) [some .i64, some .i64, some .i64, some .i64, none, none, none] (by kernel_rfl) (by kernel_rfl) (by kernel_rfl) (by kernel_rfl) (hval 0 27 v0 rfl rfl)
  obtain ⟨n0_0, y0_0, b0_0⟩ := o0 0 (some .i64) rfl
  obtain ⟨n0_1, y0_1, b0_1⟩ := o0 1 (some .i64) rfl
  obtain ⟨n0_2, y0_2, b0_2⟩ := o0 2 (some .i64) rfl
  obtain ⟨n0_3, y0_3, b0_3⟩ := o0 3 (some .i64) rfl
  obtain ⟨n0_4, y0_4, l0_4⟩ := o0 4 none rfl
  obtain ⟨n0_5, y0_5, l0_5⟩ := o0 5 none rfl
  obtain ⟨n0_6, y0_6, l0_6⟩ := o0 6 none rfl
  obtain rfl : c0 = #[.int .i64 n0_0, .int .i64 n0_1, .int .i64 n0_2, .int .i64 n0_3, .string ⟨n0_4.toArray⟩, .string ⟨n0_5.toArray⟩, .string ⟨n0_6.toArray⟩] := by
    apply Array.ext_getElem?; intro i
    rcases i with _ | _ | _ | _ | _ | _ | _ | i
    · exact y0_0
    · exact y0_1
    · exact y0_2
    · exact y0_3
    · exact y0_4
    · exact y0_5
    · exact y0_6
    · rw [Array.getElem?_eq_none (by simp at z0; omega), Array.getElem?_eq_none (by simp)]
  refine (motion_checks n0_0 n0_1 n0_2 n0_3 (has_i64 b0_0) (has_i64 b0_1) (has_i64 b0_2) (has_i64 b0_3) n0_4 n0_5 n0_6 l0_4 l0_5 l0_6  W (motionChecks_table hL) (motionChecks_maxlen hsh)).mono fun e W' ⟨he, hg⟩ => ?_
  subst he
  exact ⟨_, rfl, law_post (tb := 4) laidOut (by kernel_rfl) (by kernel_rfl) (by kernel_rfl) rfl hW' rfl hg⟩
noncomputable def motionChecks_world (os : Os) : World := World.laidAll Tryz.prog os Rows.motionChecksRow.laid
theorem motionChecks_met (os : Os) : laidMet Tryz.prog Rows.motionChecksRow.laid ((motionChecks_world os).forCall (fun _ _ => 0) ⟨#[], #[.agg #[.int .i64 0, .int .i64 0, .int .i64 0, .int .i64 0, .string ⟨#[]⟩, .string ⟨#[]⟩, .string ⟨#[]⟩]], []⟩).memory :=
  laidMet_laidAll _ (by kernel_rfl) (by kernel_rfl)
theorem motionChecks_reads (os : Os) {H : Type} (enc : TypeId × Value → H) : ∃ places, DataW.whole enc Tryz.prog ((motionChecks_world os).forCall (fun _ _ => 0) ⟨#[], #[.agg #[.int .i64 0, .int .i64 0, .int .i64 0, .int .i64 0, .string ⟨#[]⟩, .string ⟨#[]⟩, .string ⟨#[]⟩]], []⟩).memory Tryz.f3.params.toList Rows.motionChecksSpec.vars false (#[.agg #[.int .i64 0, .int .i64 0, .int .i64 0, .int .i64 0, .string ⟨#[]⟩, .string ⟨#[]⟩, .string ⟨#[]⟩]] : Array Value).toList 8 = some ([.agg [.agg [.lit (.int .i64 0), .lit (.int .i64 0), .lit (.int .i64 0), .lit (.int .i64 0)], .agg [.lit (.string []), .lit (.string []), .lit (.string [])]]], [], places) :=
  ⟨[], by kernel_rfl⟩
set_option maxRecDepth 100000 in
theorem motionChecks_lifted (os : Os) (started : os.Started) (H : Type) (enc : TypeId × Value → H) (F : Stop.Interp) :
    ReturnsInHanded {} Tryz.checked os 3 .any ((OpenSpec.ofChange Rows.motionChecksSpec).preRow enc Tryz.prog Tryz.f3 Rows.motionChecksRow.domain false Rows.motionChecksRow.laid) (((OpenSpec.ofChange Rows.motionChecksSpec).at F).post enc Tryz.prog Tryz.f3 false true false false) := by
  obtain ⟨places, hx⟩ := motionChecks_reads os enc
  refine returnsInHanded_of_row (C := Tryz.checked) (s := OpenSpec.ofChange Rows.motionChecksSpec) own started (by kernel_rfl) Tryz.func3
    (witness_row_sh (enc := enc) (C := Tryz.checked) false (motionChecks_world os) #[.agg #[.int .i64 0, .int .i64 0, .int .i64 0, .int .i64 0, .string ⟨#[]⟩, .string ⟨#[]⟩, .string ⟨#[]⟩]] (World.laidAll_os _ _ _) (World.shaped_of_ZipB (by kernel_rfl) (by kernel_rfl)) (by kernel_rfl)
      (OpenSpec.preRow_of_cond 8 hx (by kernel_rfl) (fun k hk => by cases hk) (by kernel_rfl) (by rw [MakeChecks.laidMetH_plain _ _ _ (by kernel_rfl)]; exact motionChecks_met os))) ?_
  intro W base args ds gs before hval hW _ _ _ hL hsh _
  exact motionChecks_contract H enc W base args ds gs before hval hW hL hsh
theorem motionChecks_said : Rows.MotionChecksSaid :=
  OpenClaim.holds_of_cond 3 Tryz.f3 rfl rfl rfl rfl rfl rfl rfl ⟨rfl, rfl, rfl, rfl, rfl⟩ rfl rfl rfl rfl rfl (by kernel_rfl) Tryz.func3 (by kernel_rfl)
    (of_decide_eq_true (by kernel_rfl)) (by unfold Func.isWrapper; first | (rw [if_pos (by decide +kernel)]; kernel_rfl) | (rw [if_neg (by decide +kernel)]; exact ⟨rfl, rfl⟩))
    (fun os started H enc _ F => by rw [OpenClaim.pre_eq_preRow]; exact motionChecks_lifted os started H enc F)
theorem motionChecks_plain (f : FuncId) (fn : Func) (hf : Tryz.pinned.checked.prog.funcNamed "dowel/dowellaw07.MotionChecks" = some f) (hfn : Tryz.pinned.checked.prog.funcs[f]? = some fn) :
    true = Tryz.pinned.checked.prog.looks [] ∧ ∀ (j : Nat) t, fn.params[j]? = some t → Tryz.pinned.checked.prog.wantsStandIn t = false := by
  obtain rfl : f = 3 := Option.some.inj ((show Tryz.prog.funcNamed "dowel/dowellaw07.MotionChecks" = some 3 by kernel_rfl).symm.trans hf) |>.symm
  obtain rfl : fn = Tryz.f3 := (Option.some.inj (Tryz.func3.symm.trans hfn)).symm
  refine ⟨by kernel_rfl, fun j t ht => ?_⟩
  rw [Tryz.params3] at ht
  have hm := Array.mem_of_getElem? ht
  have hall : (#[27] : Array TypeId).toList.all (fun t => !Tryz.prog.wantsStandIn t) = true := by kernel_rfl
  have := List.all_eq_true.1 hall t (Array.mem_toList_iff.2 hm)
  have h3 : Tryz.prog.wantsStandIn t = false := by simpa using this
  exact h3
/-- the card -/
theorem motionChecks_card : Rows.MotionChecksCardSaid :=
  Claim7.holds_tied_plain_at .later [] _ _ _ _ motionChecks_said (fun _ h => by cases h) (by kernel_rfl) (fun _ h => by cases h) motionChecks_row_tie rfl ⟨rfl, rfl⟩ (by kernel_rfl) rfl motionChecks_plain (by kernel_rfl)
end Go.Proofs.YtaldbfflkpgfoaaGreatDoor
