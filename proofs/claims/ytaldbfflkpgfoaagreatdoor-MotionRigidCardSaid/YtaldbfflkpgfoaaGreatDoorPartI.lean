/- Joined of: Gen136, RowMotionRigid. -/
import Derived.Test.YtaldbfflkpgfoaaGreatDoorPartH
import Derived.Test.YtaldbfflkpgfoaaGreatDoorCards
import Derived.Test.YtaldbfflkpgfoaaGreatDoorTie
import Derived.Test.YtaldbfflkpgfoaaGreatDoorPartG
/- Printed by a program of the prover's: MotionRigid. -/
namespace Go.Proofs.YtaldbfflkpgfoaaGreatDoor
open Go.RowKit

/-- how the regions that draw their order are run -/
noncomputable def tabMg : List (Nat × List (Nat × Ent)) := [(5, [(15, .ort [(true, 0), (true, 1), (true, 2), (true, 3), (true, 4), (true, 5), (true, 6), (true, 7), (true, 8), (true, 9), (true, 10), (true, 11), (true, 13), (false, 12), (true, 14), (false, 15)] [10] [([12, 15], 10)]), (18, .ord [(true, 0), (true, 2), (false, 1), (false, 3), (true, 4), (true, 5), (true, 6), (true, 7), (true, 8), (false, 9), (true, 10), (true, 11)] [])]),
 (23, []),
 (28, [(3, .ord [(true, 0), (true, 1), (false, 2), (false, 3), (false, 4)] [2, 3])]),
 (29, []),
 (63, []),
 (73, []),
 (74, [(5, .ord [(true, 0), (true, 1), (true, 2), (true, 3), (true, 4), (true, 5), (true, 6), (true, 7), (false, 8), (true, 9), (false, 10)] [7])]),
 (93, [])]
noncomputable def conMg : List (Nat × ConT) := [(103, conRR 100000 (fun k m => k + m + 1) (fun a b => a + b)),
 (75, conRR 100000 (fun k m => k + m + 1) (fun a b => a - b)),
 (82, conRR 100000 (fun k m => k + m) (fun a b => a * b)),
 (108, cNeg),
 (59, cFrom),
 (37, cComp),
 (76, cSign),
 (87, cNumb),
 (130, cNum),
 (81, cDen),
 (58, cDiv),
 (96, cZFrom),
 (80, cZMul),
 (122, cZGcd),
 (123, cZDiv),
 (68, cZInt),
 (105, cTT (fun k m => k + m + 1) fun a b => a + b),
 (132, cTT (fun k m => k + m + 1) fun a b => a - b),
 (106, cTT (fun k m => k + m) fun a b => a * b),
 (64, cTDiv),
 (115, cTNeg),
 (65, cTFrom),
 (94, cPars 400),
 (107, cPars 65536),
 (15, cChk),
 (66, cPrim),
 (14, cOf),
 (16, cMEq),
 (67, cTurn),
 (21, cPlc),
 (11, cKnown),
 (22, cPlace),
 (30, cRig),
 (31, cRRig)]
noncomputable def sysMg : Sys := ⟨Tryz.prog, 2, 199, tabMg, conMg, fun w => Tab w ∧ Mx w⟩
theorem sysMg_ok : sysMg.OK where
  mixed := by kernel_rfl
  calls := fun f h0 h1 => by
    have : (List.range 199).all (fun f => Nat.blt f 2 || okCall Tryz.prog f) = true := by kernel_rfl
    have := List.all_eq_true.1 this f (List.mem_range.2 h1)
    simp only [Bool.or_eq_true] at this
    exact this.resolve_left (fun e => by have := blt_of e; exact absurd h0 (by show ¬ 2 ≤ f; omega))
  tab := by
    have : tabMg.all (okTab Tryz.prog) = true := by kernel_rfl
    exact fun x hx => List.all_eq_true.1 this x hx
  lps := lps_no (by kernel_rfl)
  con := fun x hx => by
    simp only [sysMg, conMg, List.mem_cons, List.not_mem_nil, or_false] at hx
    rcases hx with rfl | rfl | rfl | rfl | rfl | rfl | rfl | rfl | rfl | rfl | rfl | rfl | rfl | rfl | rfl | rfl | rfl | rfl | rfl | rfl | rfl | rfl | rfl | rfl | rfl | rfl | rfl | rfl | rfl | rfl | rfl | rfl | rfl | rfl
    · exact conRR_ok fun h1 h2 h3 => add_r h1 h2 h3
    · exact conRR_ok fun h1 h2 h3 => sub_r h1 h2 h3
    · exact conRR_ok fun h1 h2 h3 => mul_r h1 h2 h3
    · exact cNeg_ok
    · exact cFrom_ok
    · exact cComp_ok
    · exact cSign_ok
    · exact cNumb_ok fun w h => h.1
    · exact cNum_ok
    · exact cDen_ok
    · exact cDiv_ok
    · exact cZFrom_ok
    · exact cZMul_ok
    · exact cZGcd_ok
    · exact cZDiv_ok
    · exact cZInt_ok
    · exact cTAdd_ok
    · exact cTSub_ok
    · exact cTMul_ok
    · exact cTDiv_ok
    · exact cTNeg_ok
    · exact cTFrom_ok
    · exact cPars_ok fun w h => h.2
    · exact cRead_ok fun w h => h.2
    · exact cChk_ok fun w h => h.2
    · exact cPrim_ok
    · exact cOf_ok fun w h => h
    · exact cMEq_ok
    · exact cTurn_ok
    · exact cPlc_ok fun w h => h
    · exact cKnown_ok fun w h => h
    · exact cPlace_ok fun w h => h
    · exact cRig_ok fun w h => h
    · exact cRRig_ok fun w h => h
  inv := fun w w' h g => ⟨h.1.gr g, h.2.gr g⟩
theorem okFn_nil {n : Nn} {X : Env} {W : World} : okF n X W [] := fun _ h => by cases h
theorem okFn_cons {n : Nn} {X : Env} {W : World} {v : SV} {l : List SV} (h : v.ok n X W) (hl : okF n X W l) : okF n X W (v :: l) := fun x hx => by
  rcases List.mem_cons.1 hx with rfl | hx
  · exact h
  · exact hl x hx
def treeMg (qa0 qa1 qa2 qa3 ch u v : Int) (A N : Mo) : Lf := .as (decide (chk qa0 qa1 qa2 qa3 0 = 0)) true (.as (decide (ch % 3 = u)) true (.as (decide (ch % 2 = v)) true (.as (!(rigM A == rigM A)) false (.as ((ePl A == 3) == rigM A) false (.as (rigM N) false (.as (ePl N == 3) true (.ret (.so (.vc (.cb (ePl N == 3) (some true))))))))))) 
theorem treeMg_ok {qa0 qa1 qa2 qa3 ch u v : Int} (va : VT qa0 qa1 qa2 qa3) (hu : ch % 3 = u) (hv : ch % 2 = v) (A : Mo) {N : Mo} (h : rigM N = false) : LOK isT (treeMg qa0 qa1 qa2 qa3 ch u v A N) := by
  have e : (ePl N == 3) = true := by
    have := perr_eq3 (rigM N) (zwM N 0) (zwM N 1) (zwM N 2) (zwM N 3) (ratL (N 9)) (ratL (N 10)) (ratL (N 11))
    show (perr .. == 3) = true
    rw [h] at this ⊢
    simpa using this
  exact ⟨decide_eq_true (va.chk 0), decide_eq_true hu, decide_eq_true hv, by simp, perr_eq3 .., h, e, isT_of e⟩
theorem not_rig {A N : Mo} {w x y z : Int} (h0 : ¬(w = 0 ∧ x = 0 ∧ y = 0 ∧ z = 0)) (h : RotM A w x y z)
    (e : N 0 * (N 4 * N 8 - N 5 * N 7) + N 1 * (N 5 * N 6 - N 3 * N 8) + N 2 * (N 3 * N 7 - N 4 * N 6) = -(A 0 * (A 4 * A 8 - A 5 * A 7) + A 1 * (A 5 * A 6 - A 3 * A 8) + A 2 * (A 3 * A 7 - A 4 * A 6))) : rigM N = false := by
  rw [rigM_B]
  cases e2 : rigidB (N 0) (N 1) (N 2) (N 3) (N 4) (N 5) (N 6) (N 7) (N 8) with
  | false => rfl
  | true =>
    have d := (rigid_iff.1 e2).2
    rw [d, rotq_det (nq_int h0) h] at e
    exact absurd e (by decide)
def nv00 (A : Mo) (x y z : Rat) : Mo := mo12 (0 - A 0) (0 - A 1) (0 - A 2) (A 3) (A 4) (A 5) (A 6) (A 7) (A 8) x y z
theorem nv00_no {A : Mo} {w x y z : Int} (h0 : ¬(w = 0 ∧ x = 0 ∧ y = 0 ∧ z = 0)) (h : RotM A w x y z) (s1 s2 s3 : Rat) : rigM (nv00 A s1 s2 s3) = false := not_rig h0 h (by simp only [nv00, mo12]; grind)
theorem runMg00 (i1b i2b i3b db i1c i2c i3c dc i1e i2e i3e de t0 t1 t2 t3 i1 i2 i3 d ch : Int) : runF sysMg 5 [.so (.vg [.ci .i8 i1b (-128) 127, .ci .i8 i2b (-128) 127, .ci .i8 i3b (-128) 127, .ci .u8 db 0 255, .ci .i8 i1c (-128) 127, .ci .i8 i2c (-128) 127, .ci .i8 i3c (-128) 127, .ci .u8 dc 0 255, .ci .i8 i1e (-128) 127, .ci .i8 i2e (-128) 127, .ci .i8 i3e (-128) 127, .ci .u8 de 0 255]), .so (.vg [.ci .i8 t0 (-128) 127, .ci .i8 t1 (-128) 127, .ci .i8 t2 (-128) 127, .ci .i8 t3 (-128) 127, .ci .i8 i1 (-128) 127, .ci .i8 i2 (-128) 127, .ci .i8 i3 (-128) 127, .ci .u8 d 0 255]), .so (.vc (.ci .u8 ch 0 255))] 0 0 (.i (0) (2) (0) (.i (0) (1) (0) (.o (.o (.f (.o (.o (.f (.f (.t (.t (.t .e)))))))))))) = some (treeMg (qd t0 t1 t2 t3 0) (qd t0 t1 t2 t3 1) (qd t0 t1 t2 t3 2) (qd t0 t1 t2 t3 3) ch 0 0 (mo12 (sq i1b db) (sq i2b db) (sq i3b db) (sq i1c dc) (sq i2c dc) (sq i3c dc) (sq i1e de) (sq i2e de) (sq i3e de) 0 0 0) (nv00 (roE (qd t0 t1 t2 t3 0) (qd t0 t1 t2 t3 1) (qd t0 t1 t2 t3 2) (qd t0 t1 t2 t3 3)) (sq i1 d) (sq i2 d) (sq i3 d))) := by kernel_rfl
theorem motion_rigid00 (i1b i2b i3b db : Int) (ji1b : -128 ≤ i1b ∧ i1b ≤ 127) (ji2b : -128 ≤ i2b ∧ i2b ≤ 127) (ji3b : -128 ≤ i3b ∧ i3b ≤ 127) (jdb : 0 ≤ db ∧ db ≤ 255) (i1c i2c i3c dc : Int) (ji1c : -128 ≤ i1c ∧ i1c ≤ 127) (ji2c : -128 ≤ i2c ∧ i2c ≤ 127) (ji3c : -128 ≤ i3c ∧ i3c ≤ 127) (jdc : 0 ≤ dc ∧ dc ≤ 255) (i1e i2e i3e de : Int) (ji1e : -128 ≤ i1e ∧ i1e ≤ 127) (ji2e : -128 ≤ i2e ∧ i2e ≤ 127) (ji3e : -128 ≤ i3e ∧ i3e ≤ 127) (jde : 0 ≤ de ∧ de ≤ 255) (t0 t1 t2 t3 : Int) (jt0 : -128 ≤ t0 ∧ t0 ≤ 127) (jt1 : -128 ≤ t1 ∧ t1 ≤ 127) (jt2 : -128 ≤ t2 ∧ t2 ≤ 127) (jt3 : -128 ≤ t3 ∧ t3 ≤ 127) (i1 i2 i3 d : Int) (ji1 : -128 ≤ i1 ∧ i1 ≤ 127) (ji2 : -128 ≤ i2 ∧ i2 ≤ 127) (ji3 : -128 ≤ i3 ∧ i3 ≤ 127) (jd : 0 ≤ d ∧ d ≤ 255) (ch : Int) (jch : 0 ≤ ch ∧ ch ≤ 255) (hu : ch % 3 = 0) (hv : ch % 2 = 0) (w : World) (ht : Tab w) (hm : Mx w) :
    Calls Tryz.prog 5 #[.agg #[.int .i8 i1b, .int .i8 i2b, .int .i8 i3b, .int .u8 db, .int .i8 i1c, .int .i8 i2c, .int .i8 i3c, .int .u8 dc, .int .i8 i1e, .int .i8 i2e, .int .i8 i3e, .int .u8 de], .agg #[.int .i8 t0, .int .i8 t1, .int .i8 t2, .int .i8 t3, .int .i8 i1, .int .i8 i2, .int .i8 i3, .int .u8 d], .int .u8 ch] w fun e w' => e = .returned (.bool true) ∧ Gr w w' := by
  refine (run_calls sysMg sysMg_ok (runMg00 i1b i2b i3b db i1c i2c i3c dc i1e i2e i3e de t0 t1 t2 t3 i1 i2 i3 d ch) (X := envR []) ⟨ht, hm⟩ (okFn_cons (okA_ok ⟨⟨rfl, ji1b⟩, ⟨rfl, ji2b⟩, ⟨rfl, ji3b⟩, ⟨rfl, jdb⟩, ⟨rfl, ji1c⟩, ⟨rfl, ji2c⟩, ⟨rfl, ji3c⟩, ⟨rfl, jdc⟩, ⟨rfl, ji1e⟩, ⟨rfl, ji2e⟩, ⟨rfl, ji3e⟩, ⟨rfl, jde⟩, trivial⟩) (okFn_cons (okA_ok ⟨⟨rfl, jt0⟩, ⟨rfl, jt1⟩, ⟨rfl, jt2⟩, ⟨rfl, jt3⟩, ⟨rfl, ji1⟩, ⟨rfl, ji2⟩, ⟨rfl, ji3⟩, ⟨rfl, jd⟩, trivial⟩) (okFn_cons (⟨rfl, jch⟩) (okFn_nil)))) (Post := isT) (treeMg_ok (qd_vt t0 t1 t2 t3) hu hv _ (nv00_no (qd_vt t0 t1 t2 t3).ne (roE_rot (qd_vt t0 t1 t2 t3)) ..))).mono fun e w' he => ?_
  obtain ⟨v, X', n, rfl, g, _, _, hp⟩ := he
  exact ⟨by rw [hp], g⟩
def nv10 (A : Mo) (x y z : Rat) : Mo := mo12 (A 0) (A 1) (A 2) (0 - A 3) (0 - A 4) (0 - A 5) (A 6) (A 7) (A 8) x y z
theorem nv10_no {A : Mo} {w x y z : Int} (h0 : ¬(w = 0 ∧ x = 0 ∧ y = 0 ∧ z = 0)) (h : RotM A w x y z) (s1 s2 s3 : Rat) : rigM (nv10 A s1 s2 s3) = false := not_rig h0 h (by simp only [nv10, mo12]; grind)
theorem runMg10 (i1b i2b i3b db i1c i2c i3c dc i1e i2e i3e de t0 t1 t2 t3 i1 i2 i3 d ch : Int) : runF sysMg 5 [.so (.vg [.ci .i8 i1b (-128) 127, .ci .i8 i2b (-128) 127, .ci .i8 i3b (-128) 127, .ci .u8 db 0 255, .ci .i8 i1c (-128) 127, .ci .i8 i2c (-128) 127, .ci .i8 i3c (-128) 127, .ci .u8 dc 0 255, .ci .i8 i1e (-128) 127, .ci .i8 i2e (-128) 127, .ci .i8 i3e (-128) 127, .ci .u8 de 0 255]), .so (.vg [.ci .i8 t0 (-128) 127, .ci .i8 t1 (-128) 127, .ci .i8 t2 (-128) 127, .ci .i8 t3 (-128) 127, .ci .i8 i1 (-128) 127, .ci .i8 i2 (-128) 127, .ci .i8 i3 (-128) 127, .ci .u8 d 0 255]), .so (.vc (.ci .u8 ch 0 255))] 0 0 (.i (0) (2) (1) (.i (0) (1) (0) (.o (.o (.f (.o (.o (.f (.f (.t (.t (.t .e)))))))))))) = some (treeMg (qd t0 t1 t2 t3 0) (qd t0 t1 t2 t3 1) (qd t0 t1 t2 t3 2) (qd t0 t1 t2 t3 3) ch 1 0 (mo12 (sq i1b db) (sq i2b db) (sq i3b db) (sq i1c dc) (sq i2c dc) (sq i3c dc) (sq i1e de) (sq i2e de) (sq i3e de) 0 0 0) (nv10 (roE (qd t0 t1 t2 t3 0) (qd t0 t1 t2 t3 1) (qd t0 t1 t2 t3 2) (qd t0 t1 t2 t3 3)) (sq i1 d) (sq i2 d) (sq i3 d))) := by kernel_rfl
theorem motion_rigid10 (i1b i2b i3b db : Int) (ji1b : -128 ≤ i1b ∧ i1b ≤ 127) (ji2b : -128 ≤ i2b ∧ i2b ≤ 127) (ji3b : -128 ≤ i3b ∧ i3b ≤ 127) (jdb : 0 ≤ db ∧ db ≤ 255) (i1c i2c i3c dc : Int) (ji1c : -128 ≤ i1c ∧ i1c ≤ 127) (ji2c : -128 ≤ i2c ∧ i2c ≤ 127) (ji3c : -128 ≤ i3c ∧ i3c ≤ 127) (jdc : 0 ≤ dc ∧ dc ≤ 255) (i1e i2e i3e de : Int) (ji1e : -128 ≤ i1e ∧ i1e ≤ 127) (ji2e : -128 ≤ i2e ∧ i2e ≤ 127) (ji3e : -128 ≤ i3e ∧ i3e ≤ 127) (jde : 0 ≤ de ∧ de ≤ 255) (t0 t1 t2 t3 : Int) (jt0 : -128 ≤ t0 ∧ t0 ≤ 127) (jt1 : -128 ≤ t1 ∧ t1 ≤ 127) (jt2 : -128 ≤ t2 ∧ t2 ≤ 127) (jt3 : -128 ≤ t3 ∧ t3 ≤ 127) (i1 i2 i3 d : Int) (ji1 : -128 ≤ i1 ∧ i1 ≤ 127) (ji2 : -128 ≤ i2 ∧ i2 ≤ 127) (ji3 : -128 ≤ i3 ∧ i3 ≤ 127) (jd : 0 ≤ d ∧ d ≤ 255) (ch : Int) (jch : 0 ≤ ch ∧ ch ≤ 255) (hu : ch % 3 = 1) (hv : ch % 2 = 0) (w : World) (ht : Tab w) (hm : Mx w) :
    Calls Tryz.prog 5 #[.agg #[.int .i8 i1b, .int .i8 i2b, .int .i8 i3b, .int .u8 db, .int .i8 i1c, .int .i8 i2c, .int .i8 i3c, .int .u8 dc, .int .i8 i1e, .int .i8 i2e, .int .i8 i3e, .int .u8 de], .agg #[.int .i8 t0, .int .i8 t1, .int .i8 t2, .int .i8 t3, .int .i8 i1, .int .i8 i2, .int .i8 i3, .int .u8 d], .int .u8 ch] w fun e w' => e = .returned (.bool true) ∧ Gr w w' := by
  refine (run_calls sysMg sysMg_ok (runMg10 i1b i2b i3b db i1c i2c i3c dc i1e i2e i3e de t0 t1 t2 t3 i1 i2 i3 d ch) (X := envR []) ⟨ht, hm⟩ (okFn_cons (okA_ok ⟨⟨rfl, ji1b⟩, ⟨rfl, ji2b⟩, ⟨rfl, ji3b⟩, ⟨rfl, jdb⟩, ⟨rfl, ji1c⟩, ⟨rfl, ji2c⟩, ⟨rfl, ji3c⟩, ⟨rfl, jdc⟩, ⟨rfl, ji1e⟩, ⟨rfl, ji2e⟩, ⟨rfl, ji3e⟩, ⟨rfl, jde⟩, trivial⟩) (okFn_cons (okA_ok ⟨⟨rfl, jt0⟩, ⟨rfl, jt1⟩, ⟨rfl, jt2⟩, ⟨rfl, jt3⟩, ⟨rfl, ji1⟩, ⟨rfl, ji2⟩, ⟨rfl, ji3⟩, ⟨rfl, jd⟩, trivial⟩) (okFn_cons (⟨rfl, jch⟩) (okFn_nil)))) (Post := isT) (treeMg_ok (qd_vt t0 t1 t2 t3) hu hv _ (nv10_no (qd_vt t0 t1 t2 t3).ne (roE_rot (qd_vt t0 t1 t2 t3)) ..))).mono fun e w' he => ?_
  obtain ⟨v, X', n, rfl, g, _, _, hp⟩ := he
  exact ⟨by rw [hp], g⟩
def nv20 (A : Mo) (x y z : Rat) : Mo := mo12 (A 0) (A 1) (A 2) (A 3) (A 4) (A 5) (0 - A 6) (0 - A 7) (0 - A 8) x y z
theorem nv20_no {A : Mo} {w x y z : Int} (h0 : ¬(w = 0 ∧ x = 0 ∧ y = 0 ∧ z = 0)) (h : RotM A w x y z) (s1 s2 s3 : Rat) : rigM (nv20 A s1 s2 s3) = false := not_rig h0 h (by simp only [nv20, mo12]; grind)
theorem runMg20 (i1b i2b i3b db i1c i2c i3c dc i1e i2e i3e de t0 t1 t2 t3 i1 i2 i3 d ch : Int) : runF sysMg 5 [.so (.vg [.ci .i8 i1b (-128) 127, .ci .i8 i2b (-128) 127, .ci .i8 i3b (-128) 127, .ci .u8 db 0 255, .ci .i8 i1c (-128) 127, .ci .i8 i2c (-128) 127, .ci .i8 i3c (-128) 127, .ci .u8 dc 0 255, .ci .i8 i1e (-128) 127, .ci .i8 i2e (-128) 127, .ci .i8 i3e (-128) 127, .ci .u8 de 0 255]), .so (.vg [.ci .i8 t0 (-128) 127, .ci .i8 t1 (-128) 127, .ci .i8 t2 (-128) 127, .ci .i8 t3 (-128) 127, .ci .i8 i1 (-128) 127, .ci .i8 i2 (-128) 127, .ci .i8 i3 (-128) 127, .ci .u8 d 0 255]), .so (.vc (.ci .u8 ch 0 255))] 0 0 (.i (0) (2) (2) (.i (0) (1) (0) (.o (.o (.f (.o (.o (.f (.f (.t (.t (.t .e)))))))))))) = some (treeMg (qd t0 t1 t2 t3 0) (qd t0 t1 t2 t3 1) (qd t0 t1 t2 t3 2) (qd t0 t1 t2 t3 3) ch 2 0 (mo12 (sq i1b db) (sq i2b db) (sq i3b db) (sq i1c dc) (sq i2c dc) (sq i3c dc) (sq i1e de) (sq i2e de) (sq i3e de) 0 0 0) (nv20 (roE (qd t0 t1 t2 t3 0) (qd t0 t1 t2 t3 1) (qd t0 t1 t2 t3 2) (qd t0 t1 t2 t3 3)) (sq i1 d) (sq i2 d) (sq i3 d))) := by kernel_rfl
theorem motion_rigid20 (i1b i2b i3b db : Int) (ji1b : -128 ≤ i1b ∧ i1b ≤ 127) (ji2b : -128 ≤ i2b ∧ i2b ≤ 127) (ji3b : -128 ≤ i3b ∧ i3b ≤ 127) (jdb : 0 ≤ db ∧ db ≤ 255) (i1c i2c i3c dc : Int) (ji1c : -128 ≤ i1c ∧ i1c ≤ 127) (ji2c : -128 ≤ i2c ∧ i2c ≤ 127) (ji3c : -128 ≤ i3c ∧ i3c ≤ 127) (jdc : 0 ≤ dc ∧ dc ≤ 255) (i1e i2e i3e de : Int) (ji1e : -128 ≤ i1e ∧ i1e ≤ 127) (ji2e : -128 ≤ i2e ∧ i2e ≤ 127) (ji3e : -128 ≤ i3e ∧ i3e ≤ 127) (jde : 0 ≤ de ∧ de ≤ 255) (t0 t1 t2 t3 : Int) (jt0 : -128 ≤ t0 ∧ t0 ≤ 127) (jt1 : -128 ≤ t1 ∧ t1 ≤ 127) (jt2 : -128 ≤ t2 ∧ t2 ≤ 127) (jt3 : -128 ≤ t3 ∧ t3 ≤ 127) (i1 i2 i3 d : Int) (ji1 : -128 ≤ i1 ∧ i1 ≤ 127) (ji2 : -128 ≤ i2 ∧ i2 ≤ 127) (ji3 : -128 ≤ i3 ∧ i3 ≤ 127) (jd : 0 ≤ d ∧ d ≤ 255) (ch : Int) (jch : 0 ≤ ch ∧ ch ≤ 255) (hu : ch % 3 = 2) (hv : ch % 2 = 0) (w : World) (ht : Tab w) (hm : Mx w) :
    Calls Tryz.prog 5 #[.agg #[.int .i8 i1b, .int .i8 i2b, .int .i8 i3b, .int .u8 db, .int .i8 i1c, .int .i8 i2c, .int .i8 i3c, .int .u8 dc, .int .i8 i1e, .int .i8 i2e, .int .i8 i3e, .int .u8 de], .agg #[.int .i8 t0, .int .i8 t1, .int .i8 t2, .int .i8 t3, .int .i8 i1, .int .i8 i2, .int .i8 i3, .int .u8 d], .int .u8 ch] w fun e w' => e = .returned (.bool true) ∧ Gr w w' := by
  refine (run_calls sysMg sysMg_ok (runMg20 i1b i2b i3b db i1c i2c i3c dc i1e i2e i3e de t0 t1 t2 t3 i1 i2 i3 d ch) (X := envR []) ⟨ht, hm⟩ (okFn_cons (okA_ok ⟨⟨rfl, ji1b⟩, ⟨rfl, ji2b⟩, ⟨rfl, ji3b⟩, ⟨rfl, jdb⟩, ⟨rfl, ji1c⟩, ⟨rfl, ji2c⟩, ⟨rfl, ji3c⟩, ⟨rfl, jdc⟩, ⟨rfl, ji1e⟩, ⟨rfl, ji2e⟩, ⟨rfl, ji3e⟩, ⟨rfl, jde⟩, trivial⟩) (okFn_cons (okA_ok ⟨⟨rfl, jt0⟩, ⟨rfl, jt1⟩, ⟨rfl, jt2⟩, ⟨rfl, jt3⟩, ⟨rfl, ji1⟩, ⟨rfl, ji2⟩, ⟨rfl, ji3⟩, ⟨rfl, jd⟩, trivial⟩) (okFn_cons (⟨rfl, jch⟩) (okFn_nil)))) (Post := isT) (treeMg_ok (qd_vt t0 t1 t2 t3) hu hv _ (nv20_no (qd_vt t0 t1 t2 t3).ne (roE_rot (qd_vt t0 t1 t2 t3)) ..))).mono fun e w' he => ?_
  obtain ⟨v, X', n, rfl, g, _, _, hp⟩ := he
  exact ⟨by rw [hp], g⟩
def nv01 (A : Mo) (x y z : Rat) : Mo := mo12 (A 3) (A 4) (A 5) (A 0) (A 1) (A 2) (A 6) (A 7) (A 8) x y z
theorem nv01_no {A : Mo} {w x y z : Int} (h0 : ¬(w = 0 ∧ x = 0 ∧ y = 0 ∧ z = 0)) (h : RotM A w x y z) (s1 s2 s3 : Rat) : rigM (nv01 A s1 s2 s3) = false := not_rig h0 h (by simp only [nv01, mo12]; grind)
theorem runMg01 (i1b i2b i3b db i1c i2c i3c dc i1e i2e i3e de t0 t1 t2 t3 i1 i2 i3 d ch : Int) : runF sysMg 5 [.so (.vg [.ci .i8 i1b (-128) 127, .ci .i8 i2b (-128) 127, .ci .i8 i3b (-128) 127, .ci .u8 db 0 255, .ci .i8 i1c (-128) 127, .ci .i8 i2c (-128) 127, .ci .i8 i3c (-128) 127, .ci .u8 dc 0 255, .ci .i8 i1e (-128) 127, .ci .i8 i2e (-128) 127, .ci .i8 i3e (-128) 127, .ci .u8 de 0 255]), .so (.vg [.ci .i8 t0 (-128) 127, .ci .i8 t1 (-128) 127, .ci .i8 t2 (-128) 127, .ci .i8 t3 (-128) 127, .ci .i8 i1 (-128) 127, .ci .i8 i2 (-128) 127, .ci .i8 i3 (-128) 127, .ci .u8 d 0 255]), .so (.vc (.ci .u8 ch 0 255))] 0 0 (.i (0) (2) (0) (.i (0) (1) (1) (.o (.o (.f (.o (.o (.f (.f (.t (.t (.t .e)))))))))))) = some (treeMg (qd t0 t1 t2 t3 0) (qd t0 t1 t2 t3 1) (qd t0 t1 t2 t3 2) (qd t0 t1 t2 t3 3) ch 0 1 (mo12 (sq i1b db) (sq i2b db) (sq i3b db) (sq i1c dc) (sq i2c dc) (sq i3c dc) (sq i1e de) (sq i2e de) (sq i3e de) 0 0 0) (nv01 (roE (qd t0 t1 t2 t3 0) (qd t0 t1 t2 t3 1) (qd t0 t1 t2 t3 2) (qd t0 t1 t2 t3 3)) (sq i1 d) (sq i2 d) (sq i3 d))) := by kernel_rfl
theorem motion_rigid01 (i1b i2b i3b db : Int) (ji1b : -128 ≤ i1b ∧ i1b ≤ 127) (ji2b : -128 ≤ i2b ∧ i2b ≤ 127) (ji3b : -128 ≤ i3b ∧ i3b ≤ 127) (jdb : 0 ≤ db ∧ db ≤ 255) (i1c i2c i3c dc : Int) (ji1c : -128 ≤ i1c ∧ i1c ≤ 127) (ji2c : -128 ≤ i2c ∧ i2c ≤ 127) (ji3c : -128 ≤ i3c ∧ i3c ≤ 127) (jdc : 0 ≤ dc ∧ dc ≤ 255) (i1e i2e i3e de : Int) (ji1e : -128 ≤ i1e ∧ i1e ≤ 127) (ji2e : -128 ≤ i2e ∧ i2e ≤ 127) (ji3e : -128 ≤ i3e ∧ i3e ≤ 127) (jde : 0 ≤ de ∧ de ≤ 255) (t0 t1 t2 t3 : Int) (jt0 : -128 ≤ t0 ∧ t0 ≤ 127) (jt1 : -128 ≤ t1 ∧ t1 ≤ 127) (jt2 : -128 ≤ t2 ∧ t2 ≤ 127) (jt3 : -128 ≤ t3 ∧ t3 ≤ 127) (i1 i2 i3 d : Int) (ji1 : -128 ≤ i1 ∧ i1 ≤ 127) (ji2 : -128 ≤ i2 ∧ i2 ≤ 127) (ji3 : -128 ≤ i3 ∧ i3 ≤ 127) (jd : 0 ≤ d ∧ d ≤ 255) (ch : Int) (jch : 0 ≤ ch ∧ ch ≤ 255) (hu : ch % 3 = 0) (hv : ch % 2 = 1) (w : World) (ht : Tab w) (hm : Mx w) :
    Calls Tryz.prog 5 #[.agg #[.int .i8 i1b, .int .i8 i2b, .int .i8 i3b, .int .u8 db, .int .i8 i1c, .int .i8 i2c, .int .i8 i3c, .int .u8 dc, .int .i8 i1e, .int .i8 i2e, .int .i8 i3e, .int .u8 de], .agg #[.int .i8 t0, .int .i8 t1, .int .i8 t2, .int .i8 t3, .int .i8 i1, .int .i8 i2, .int .i8 i3, .int .u8 d], .int .u8 ch] w fun e w' => e = .returned (.bool true) ∧ Gr w w' := by
  refine (run_calls sysMg sysMg_ok (runMg01 i1b i2b i3b db i1c i2c i3c dc i1e i2e i3e de t0 t1 t2 t3 i1 i2 i3 d ch) (X := envR []) ⟨ht, hm⟩ (okFn_cons (okA_ok ⟨⟨rfl, ji1b⟩, ⟨rfl, ji2b⟩, ⟨rfl, ji3b⟩, ⟨rfl, jdb⟩, ⟨rfl, ji1c⟩, ⟨rfl, ji2c⟩, ⟨rfl, ji3c⟩, ⟨rfl, jdc⟩, ⟨rfl, ji1e⟩, ⟨rfl, ji2e⟩, ⟨rfl, ji3e⟩, ⟨rfl, jde⟩, trivial⟩) (okFn_cons (okA_ok ⟨⟨rfl, jt0⟩, ⟨rfl, jt1⟩, ⟨rfl, jt2⟩, ⟨rfl, jt3⟩, ⟨rfl, ji1⟩, ⟨rfl, ji2⟩, ⟨rfl, ji3⟩, ⟨rfl, jd⟩, trivial⟩) (okFn_cons (⟨rfl, jch⟩) (okFn_nil)))) (Post := isT) (treeMg_ok (qd_vt t0 t1 t2 t3) hu hv _ (nv01_no (qd_vt t0 t1 t2 t3).ne (roE_rot (qd_vt t0 t1 t2 t3)) ..))).mono fun e w' he => ?_
  obtain ⟨v, X', n, rfl, g, _, _, hp⟩ := he
  exact ⟨by rw [hp], g⟩
def nv11 (A : Mo) (x y z : Rat) : Mo := mo12 (A 0) (A 1) (A 2) (A 6) (A 7) (A 8) (A 3) (A 4) (A 5) x y z
theorem nv11_no {A : Mo} {w x y z : Int} (h0 : ¬(w = 0 ∧ x = 0 ∧ y = 0 ∧ z = 0)) (h : RotM A w x y z) (s1 s2 s3 : Rat) : rigM (nv11 A s1 s2 s3) = false := not_rig h0 h (by simp only [nv11, mo12]; grind)
theorem runMg11 (i1b i2b i3b db i1c i2c i3c dc i1e i2e i3e de t0 t1 t2 t3 i1 i2 i3 d ch : Int) : runF sysMg 5 [.so (.vg [.ci .i8 i1b (-128) 127, .ci .i8 i2b (-128) 127, .ci .i8 i3b (-128) 127, .ci .u8 db 0 255, .ci .i8 i1c (-128) 127, .ci .i8 i2c (-128) 127, .ci .i8 i3c (-128) 127, .ci .u8 dc 0 255, .ci .i8 i1e (-128) 127, .ci .i8 i2e (-128) 127, .ci .i8 i3e (-128) 127, .ci .u8 de 0 255]), .so (.vg [.ci .i8 t0 (-128) 127, .ci .i8 t1 (-128) 127, .ci .i8 t2 (-128) 127, .ci .i8 t3 (-128) 127, .ci .i8 i1 (-128) 127, .ci .i8 i2 (-128) 127, .ci .i8 i3 (-128) 127, .ci .u8 d 0 255]), .so (.vc (.ci .u8 ch 0 255))] 0 0 (.i (0) (2) (1) (.i (0) (1) (1) (.o (.o (.f (.o (.o (.f (.f (.t (.t (.t .e)))))))))))) = some (treeMg (qd t0 t1 t2 t3 0) (qd t0 t1 t2 t3 1) (qd t0 t1 t2 t3 2) (qd t0 t1 t2 t3 3) ch 1 1 (mo12 (sq i1b db) (sq i2b db) (sq i3b db) (sq i1c dc) (sq i2c dc) (sq i3c dc) (sq i1e de) (sq i2e de) (sq i3e de) 0 0 0) (nv11 (roE (qd t0 t1 t2 t3 0) (qd t0 t1 t2 t3 1) (qd t0 t1 t2 t3 2) (qd t0 t1 t2 t3 3)) (sq i1 d) (sq i2 d) (sq i3 d))) := by kernel_rfl
theorem motion_rigid11 (i1b i2b i3b db : Int) (ji1b : -128 ≤ i1b ∧ i1b ≤ 127) (ji2b : -128 ≤ i2b ∧ i2b ≤ 127) (ji3b : -128 ≤ i3b ∧ i3b ≤ 127) (jdb : 0 ≤ db ∧ db ≤ 255) (i1c i2c i3c dc : Int) (ji1c : -128 ≤ i1c ∧ i1c ≤ 127) (ji2c : -128 ≤ i2c ∧ i2c ≤ 127) (ji3c : -128 ≤ i3c ∧ i3c ≤ 127) (jdc : 0 ≤ dc ∧ dc ≤ 255) (i1e i2e i3e de : Int) (ji1e : -128 ≤ i1e ∧ i1e ≤ 127) (ji2e : -128 ≤ i2e ∧ i2e ≤ 127) (ji3e : -128 ≤ i3e ∧ i3e ≤ 127) (jde : 0 ≤ de ∧ de ≤ 255) (t0 t1 t2 t3 : Int) (jt0 : -128 ≤ t0 ∧ t0 ≤ 127) (jt1 : -128 ≤ t1 ∧ t1 ≤ 127) (jt2 : -128 ≤ t2 ∧ t2 ≤ 127) (jt3 : -128 ≤ t3 ∧ t3 ≤ 127) (i1 i2 i3 d : Int) (ji1 : -128 ≤ i1 ∧ i1 ≤ 127) (ji2 : -128 ≤ i2 ∧ i2 ≤ 127) (ji3 : -128 ≤ i3 ∧ i3 ≤ 127) (jd : 0 ≤ d ∧ d ≤ 255) (ch : Int) (jch : 0 ≤ ch ∧ ch ≤ 255) (hu : ch % 3 = 1) (hv : ch % 2 = 1) (w : World) (ht : Tab w) (hm : Mx w) :
    Calls Tryz.prog 5 #[.agg #[.int .i8 i1b, .int .i8 i2b, .int .i8 i3b, .int .u8 db, .int .i8 i1c, .int .i8 i2c, .int .i8 i3c, .int .u8 dc, .int .i8 i1e, .int .i8 i2e, .int .i8 i3e, .int .u8 de], .agg #[.int .i8 t0, .int .i8 t1, .int .i8 t2, .int .i8 t3, .int .i8 i1, .int .i8 i2, .int .i8 i3, .int .u8 d], .int .u8 ch] w fun e w' => e = .returned (.bool true) ∧ Gr w w' := by
  refine (run_calls sysMg sysMg_ok (runMg11 i1b i2b i3b db i1c i2c i3c dc i1e i2e i3e de t0 t1 t2 t3 i1 i2 i3 d ch) (X := envR []) ⟨ht, hm⟩ (okFn_cons (okA_ok ⟨⟨rfl, ji1b⟩, ⟨rfl, ji2b⟩, ⟨rfl, ji3b⟩, ⟨rfl, jdb⟩, ⟨rfl, ji1c⟩, ⟨rfl, ji2c⟩, ⟨rfl, ji3c⟩, ⟨rfl, jdc⟩, ⟨rfl, ji1e⟩, ⟨rfl, ji2e⟩, ⟨rfl, ji3e⟩, ⟨rfl, jde⟩, trivial⟩) (okFn_cons (okA_ok ⟨⟨rfl, jt0⟩, ⟨rfl, jt1⟩, ⟨rfl, jt2⟩, ⟨rfl, jt3⟩, ⟨rfl, ji1⟩, ⟨rfl, ji2⟩, ⟨rfl, ji3⟩, ⟨rfl, jd⟩, trivial⟩) (okFn_cons (⟨rfl, jch⟩) (okFn_nil)))) (Post := isT) (treeMg_ok (qd_vt t0 t1 t2 t3) hu hv _ (nv11_no (qd_vt t0 t1 t2 t3).ne (roE_rot (qd_vt t0 t1 t2 t3)) ..))).mono fun e w' he => ?_
  obtain ⟨v, X', n, rfl, g, _, _, hp⟩ := he
  exact ⟨by rw [hp], g⟩
def nv21 (A : Mo) (x y z : Rat) : Mo := mo12 (A 6) (A 7) (A 8) (A 3) (A 4) (A 5) (A 0) (A 1) (A 2) x y z
theorem nv21_no {A : Mo} {w x y z : Int} (h0 : ¬(w = 0 ∧ x = 0 ∧ y = 0 ∧ z = 0)) (h : RotM A w x y z) (s1 s2 s3 : Rat) : rigM (nv21 A s1 s2 s3) = false := not_rig h0 h (by simp only [nv21, mo12]; grind)
theorem runMg21 (i1b i2b i3b db i1c i2c i3c dc i1e i2e i3e de t0 t1 t2 t3 i1 i2 i3 d ch : Int) : runF sysMg 5 [.so (.vg [.ci .i8 i1b (-128) 127, .ci .i8 i2b (-128) 127, .ci .i8 i3b (-128) 127, .ci .u8 db 0 255, .ci .i8 i1c (-128) 127, .ci .i8 i2c (-128) 127, .ci .i8 i3c (-128) 127, .ci .u8 dc 0 255, .ci .i8 i1e (-128) 127, .ci .i8 i2e (-128) 127, .ci .i8 i3e (-128) 127, .ci .u8 de 0 255]), .so (.vg [.ci .i8 t0 (-128) 127, .ci .i8 t1 (-128) 127, .ci .i8 t2 (-128) 127, .ci .i8 t3 (-128) 127, .ci .i8 i1 (-128) 127, .ci .i8 i2 (-128) 127, .ci .i8 i3 (-128) 127, .ci .u8 d 0 255]), .so (.vc (.ci .u8 ch 0 255))] 0 0 (.i (0) (2) (2) (.i (0) (1) (1) (.o (.o (.f (.o (.o (.f (.f (.t (.t (.t .e)))))))))))) = some (treeMg (qd t0 t1 t2 t3 0) (qd t0 t1 t2 t3 1) (qd t0 t1 t2 t3 2) (qd t0 t1 t2 t3 3) ch 2 1 (mo12 (sq i1b db) (sq i2b db) (sq i3b db) (sq i1c dc) (sq i2c dc) (sq i3c dc) (sq i1e de) (sq i2e de) (sq i3e de) 0 0 0) (nv21 (roE (qd t0 t1 t2 t3 0) (qd t0 t1 t2 t3 1) (qd t0 t1 t2 t3 2) (qd t0 t1 t2 t3 3)) (sq i1 d) (sq i2 d) (sq i3 d))) := by kernel_rfl
theorem motion_rigid21 (i1b i2b i3b db : Int) (ji1b : -128 ≤ i1b ∧ i1b ≤ 127) (ji2b : -128 ≤ i2b ∧ i2b ≤ 127) (ji3b : -128 ≤ i3b ∧ i3b ≤ 127) (jdb : 0 ≤ db ∧ db ≤ 255) (i1c i2c i3c dc : Int) (ji1c : -128 ≤ i1c ∧ i1c ≤ 127) (ji2c : -128 ≤ i2c ∧ i2c ≤ 127) (ji3c : -128 ≤ i3c ∧ i3c ≤ 127) (jdc : 0 ≤ dc ∧ dc ≤ 255) (i1e i2e i3e de : Int) (ji1e : -128 ≤ i1e ∧ i1e ≤ 127) (ji2e : -128 ≤ i2e ∧ i2e ≤ 127) (ji3e : -128 ≤ i3e ∧ i3e ≤ 127) (jde : 0 ≤ de ∧ de ≤ 255) (t0 t1 t2 t3 : Int) (jt0 : -128 ≤ t0 ∧ t0 ≤ 127) (jt1 : -128 ≤ t1 ∧ t1 ≤ 127) (jt2 : -128 ≤ t2 ∧ t2 ≤ 127) (jt3 : -128 ≤ t3 ∧ t3 ≤ 127) (i1 i2 i3 d : Int) (ji1 : -128 ≤ i1 ∧ i1 ≤ 127) (ji2 : -128 ≤ i2 ∧ i2 ≤ 127) (ji3 : -128 ≤ i3 ∧ i3 ≤ 127) (jd : 0 ≤ d ∧ d ≤ 255) (ch : Int) (jch : 0 ≤ ch ∧ ch ≤ 255) (hu : ch % 3 = 2) (hv : ch % 2 = 1) (w : World) (ht : Tab w) (hm : Mx w) :
    Calls Tryz.prog 5 #[.agg #[.int .i8 i1b, .int .i8 i2b, .int .i8 i3b, .int .u8 db, .int .i8 i1c, .int .i8 i2c, .int .i8 i3c, .int .u8 dc, .int .i8 i1e, .int .i8 i2e, .int .i8 i3e, .int .u8 de], .agg #[.int .i8 t0, .int .i8 t1, .int .i8 t2, .int .i8 t3, .int .i8 i1, .int .i8 i2, .int .i8 i3, .int .u8 d], .int .u8 ch] w fun e w' => e = .returned (.bool true) ∧ Gr w w' := by
  refine (run_calls sysMg sysMg_ok (runMg21 i1b i2b i3b db i1c i2c i3c dc i1e i2e i3e de t0 t1 t2 t3 i1 i2 i3 d ch) (X := envR []) ⟨ht, hm⟩ (okFn_cons (okA_ok ⟨⟨rfl, ji1b⟩, ⟨rfl, ji2b⟩, ⟨rfl, ji3b⟩, ⟨rfl, jdb⟩, ⟨rfl, ji1c⟩, ⟨rfl, ji2c⟩, ⟨rfl, ji3c⟩, ⟨rfl, jdc⟩, ⟨rfl, ji1e⟩, ⟨rfl, ji2e⟩, ⟨rfl, ji3e⟩, ⟨rfl, jde⟩, trivial⟩) (okFn_cons (okA_ok ⟨⟨rfl, jt0⟩, ⟨rfl, jt1⟩, ⟨rfl, jt2⟩, ⟨rfl, jt3⟩, ⟨rfl, ji1⟩, ⟨rfl, ji2⟩, ⟨rfl, ji3⟩, ⟨rfl, jd⟩, trivial⟩) (okFn_cons (⟨rfl, jch⟩) (okFn_nil)))) (Post := isT) (treeMg_ok (qd_vt t0 t1 t2 t3) hu hv _ (nv21_no (qd_vt t0 t1 t2 t3).ne (roE_rot (qd_vt t0 t1 t2 t3)) ..))).mono fun e w' he => ?_
  obtain ⟨v, X', n, rfl, g, _, _, hp⟩ := he
  exact ⟨by rw [hp], g⟩
theorem motion_rigid (i1b i2b i3b db : Int) (ji1b : -128 ≤ i1b ∧ i1b ≤ 127) (ji2b : -128 ≤ i2b ∧ i2b ≤ 127) (ji3b : -128 ≤ i3b ∧ i3b ≤ 127) (jdb : 0 ≤ db ∧ db ≤ 255) (i1c i2c i3c dc : Int) (ji1c : -128 ≤ i1c ∧ i1c ≤ 127) (ji2c : -128 ≤ i2c ∧ i2c ≤ 127) (ji3c : -128 ≤ i3c ∧ i3c ≤ 127) (jdc : 0 ≤ dc ∧ dc ≤ 255) (i1e i2e i3e de : Int) (ji1e : -128 ≤ i1e ∧ i1e ≤ 127) (ji2e : -128 ≤ i2e ∧ i2e ≤ 127) (ji3e : -128 ≤ i3e ∧ i3e ≤ 127) (jde : 0 ≤ de ∧ de ≤ 255) (t0 t1 t2 t3 : Int) (jt0 : -128 ≤ t0 ∧ t0 ≤ 127) (jt1 : -128 ≤ t1 ∧ t1 ≤ 127) (jt2 : -128 ≤ t2 ∧ t2 ≤ 127) (jt3 : -128 ≤ t3 ∧ t3 ≤ 127) (i1 i2 i3 d : Int) (ji1 : -128 ≤ i1 ∧ i1 ≤ 127) (ji2 : -128 ≤ i2 ∧ i2 ≤ 127) (ji3 : -128 ≤ i3 ∧ i3 ≤ 127) (jd : 0 ≤ d ∧ d ≤ 255) (ch : Int) (jch : 0 ≤ ch ∧ ch ≤ 255) (w : World) (ht : Tab w) (hm : Mx w) :
    Calls Tryz.prog 5 #[.agg #[.int .i8 i1b, .int .i8 i2b, .int .i8 i3b, .int .u8 db, .int .i8 i1c, .int .i8 i2c, .int .i8 i3c, .int .u8 dc, .int .i8 i1e, .int .i8 i2e, .int .i8 i3e, .int .u8 de], .agg #[.int .i8 t0, .int .i8 t1, .int .i8 t2, .int .i8 t3, .int .i8 i1, .int .i8 i2, .int .i8 i3, .int .u8 d], .int .u8 ch] w fun e w' => e = .returned (.bool true) ∧ Gr w w' := by
  have xa_ := Int.emod_nonneg ch (show (3 : Int) ≠ 0 by decide)
  have xb_ := Int.emod_lt_of_pos ch (show (0 : Int) < 3 by decide)
  have xc_ := Int.emod_nonneg ch (show (2 : Int) ≠ 0 by decide)
  have xd_ := Int.emod_lt_of_pos ch (show (0 : Int) < 2 by decide)
  rcases (show ch % 2 = 0 ∨ ch % 2 = 1 by omega) with hv | hv <;> rcases (show ch % 3 = 0 ∨ ch % 3 = 1 ∨ ch % 3 = 2 by omega) with hu | hu | hu
  · exact motion_rigid00 i1b i2b i3b db ji1b ji2b ji3b jdb i1c i2c i3c dc ji1c ji2c ji3c jdc i1e i2e i3e de ji1e ji2e ji3e jde t0 t1 t2 t3 jt0 jt1 jt2 jt3 i1 i2 i3 d ji1 ji2 ji3 jd ch jch hu hv w ht hm
  · exact motion_rigid10 i1b i2b i3b db ji1b ji2b ji3b jdb i1c i2c i3c dc ji1c ji2c ji3c jdc i1e i2e i3e de ji1e ji2e ji3e jde t0 t1 t2 t3 jt0 jt1 jt2 jt3 i1 i2 i3 d ji1 ji2 ji3 jd ch jch hu hv w ht hm
  · exact motion_rigid20 i1b i2b i3b db ji1b ji2b ji3b jdb i1c i2c i3c dc ji1c ji2c ji3c jdc i1e i2e i3e de ji1e ji2e ji3e jde t0 t1 t2 t3 jt0 jt1 jt2 jt3 i1 i2 i3 d ji1 ji2 ji3 jd ch jch hu hv w ht hm
  · exact motion_rigid01 i1b i2b i3b db ji1b ji2b ji3b jdb i1c i2c i3c dc ji1c ji2c ji3c jdc i1e i2e i3e de ji1e ji2e ji3e jde t0 t1 t2 t3 jt0 jt1 jt2 jt3 i1 i2 i3 d ji1 ji2 ji3 jd ch jch hu hv w ht hm
  · exact motion_rigid11 i1b i2b i3b db ji1b ji2b ji3b jdb i1c i2c i3c dc ji1c ji2c ji3c jdc i1e i2e i3e de ji1e ji2e ji3e jde t0 t1 t2 t3 jt0 jt1 jt2 jt3 i1 i2 i3 d ji1 ji2 ji3 jd ch jch hu hv w ht hm
  · exact motion_rigid21 i1b i2b i3b db ji1b ji2b ji3b jdb i1c i2c i3c dc ji1c ji2c ji3c jdc i1e i2e i3e de ji1e ji2e ji3e jde t0 t1 t2 t3 jt0 jt1 jt2 jt3 i1 i2 i3 d ji1 ji2 ji3 jd ch jch hu hv w ht hm
end Go.Proofs.YtaldbfflkpgfoaaGreatDoor
/- The law MotionRigid holds of every input: its row, and its card tied to the program's text. Printed by a program of the prover's. -/
namespace Go.Proofs.YtaldbfflkpgfoaaGreatDoor
open Go.ChangeShapes Go.WideShapes Go.ChangeAt Go.RowKit

theorem motionRigid_table {W : World} (h : laidMetH Tryz.prog Rows.motionRigidRow.laid W) : Tab W :=
  Lib.tabIs_of_head (rest := _) (g := 1) (t := 254) (e := 160) (n := 20) (by kernel_rfl) (by kernel_rfl) (by kernel_rfl) (by kernel_rfl) (by kernel_rfl) (by kernel_rfl) ((show laidMet Tryz.prog Rows.motionRigidRow.laid W from (MakeChecks.laidMetH_plain _ _ _ (by kernel_rfl)) ▸ h).tail.tail)
theorem motionRigid_maxlen {W : World} (h : W.ShapedOpen Tryz.prog) : Mx W :=
  Go.Proofs.cell_of_shapedOpen_int (zero := #[.int .i64 0]) (g := 0) (t := 3) h (of_decide_eq_true (by kernel_rfl)) (by kernel_rfl) rfl (by kernel_rfl) (by kernel_rfl) Tryz.underlying3
set_option maxRecDepth 100000 in
theorem motionRigid_contract (H : Type) (enc : TypeId × Value → H) (W : World) (base : Nat) (args : Array Value) (ds gs : List (DataW H)) (before : List MemPlace)
    (hval : ∀ (j : Nat) t v, Tryz.f5.params[j]? = some t → args[j]? = some v → Value.okWide Tryz.prog W .any base t v)
    (hW : DataW.Whole enc Tryz.prog Tryz.f5.params.toList Rows.motionRigidSpec.vars false W args.toList ds gs before) (hL : laidMetH Tryz.prog Rows.motionRigidRow.laid W) (hsh : W.ShapedOpen Tryz.prog) :
    Calls Tryz.prog 5 args W fun e W' => ∃ v, e = .returned v ∧ Rows.motionRigidSpec.post enc Tryz.prog Tryz.f5 false true false false W args v W' := by
  have hW' := hW
  obtain ⟨p, q, hA0, hV, rfl, hfz, hnd⟩ := hW
  have hA : DataW.TrodAll enc Tryz.prog W 0 (fun _ => true) true Tryz.f5.params.toList args.toList ds p := hA0
  rw [Tryz.params5] at hA hval
  obtain ⟨v0, vs0, d0, ds0, p0, q0, hargs, rfl, rfl, h0, r0⟩ := trodAll_cons hA
  obtain ⟨v1, vs1, d1, ds1, p1, q1, rfl, rfl, rfl, h1, r1⟩ := trodAll_cons r0
  obtain ⟨v2, vs2, d2, ds2, p2, q2, rfl, rfl, rfl, h2, r2⟩ := trodAll_cons r1
  obtain ⟨rfl, rfl, rfl⟩ := trodAll_nil r2
  obtain rfl : args = #[v0, v1, v2] := by cases args; simp_all
  obtain ⟨rfl, rfl⟩ := trodVars_none hV
  obtain ⟨c0, rfl, z0, o0⟩ := open_cells (ts := [56, 56, 56, 5, 56, 56, 56, 5, 56, 56, 56, 5]) [.i8, .i8, .i8, .u8, .i8, .i8, .i8, .u8, .i8, .i8, .i8, .u8] (by kernel_rfl) (by kernel_rfl) (by kernel_rfl) (by kernel_rfl) (hval 0 71 v0 rfl rfl)
  obtain ⟨n0_0, y0_0, b0_0⟩ := o0 0 .i8 rfl
  obtain ⟨n0_1, y0_1, b0_1⟩ := o0 1 .i8 rfl
  obtain ⟨n0_2, y0_2, b0_2⟩ := o0 2 .i8 rfl
  obtain ⟨n0_3, y0_3, b0_3⟩ := o0 3 .u8 rfl
  obtain ⟨n0_4, y0_4, b0_4⟩ := o0 4 .i8 rfl
  obtain ⟨n0_5, y0_5, b0_5⟩ := o0 5 .i8 rfl
  obtain ⟨n0_6, y0_6, b0_6⟩ := o0 6 .i8 rfl
  obtain ⟨n0_7, y0_7, b0_7⟩ := o0 7 .u8 rfl
  obtain ⟨n0_8, y0_8, b0_8⟩ := o0 8 .i8 rfl
  obtain ⟨n0_9, y0_9, b0_9⟩ := o0 9 .i8 rfl
  obtain ⟨n0_10, y0_10, b0_10⟩ := o0 10 .i8 rfl
  obtain ⟨n0_11, y0_11, b0_11⟩ := o0 11 .u8 rfl
  obtain rfl : c0 = #[.int .i8 n0_0, .int .i8 n0_1, .int .i8 n0_2, .int .u8 n0_3, .int .i8 n0_4, .int .i8 n0_5, .int .i8 n0_6, .int .u8 n0_7, .int .i8 n0_8, .int .i8 n0_9, .int .i8 n0_10, .int .u8 n0_11] := by
    apply Array.ext_getElem?; intro i
    rcases i with _ | _ | _ | _ | _ | _ | _ | _ | _ | _ | _ | _ | i
    · exact y0_0
    · exact y0_1
    · exact y0_2
    · exact y0_3
    · exact y0_4
    · exact y0_5
    · exact y0_6
    · exact y0_7
    · exact y0_8
    · exact y0_9
    · exact y0_10
    · exact y0_11
    · rw [Array.getElem?_eq_none (by simp at z0; omega), Array.getElem?_eq_none (by simp)]
  obtain ⟨c1, rfl, z1, o1⟩ := open_cells (ts := [56, 56, 56, 56, 56, 56, 56, 5]) [.i8, .i8, .i8, .i8, .i8, .i8, .i8, .u8] (by kernel_rfl) (by kernel_rfl) (by kernel_rfl) (by kernel_rfl) (hval 1 62 v1 rfl rfl)
  obtain ⟨n1_0, y1_0, b1_0⟩ := o1 0 .i8 rfl
  obtain ⟨n1_1, y1_1, b1_1⟩ := o1 1 .i8 rfl
  obtain ⟨n1_2, y1_2, b1_2⟩ := o1 2 .i8 rfl
  obtain ⟨n1_3, y1_3, b1_3⟩ := o1 3 .i8 rfl
  obtain ⟨n1_4, y1_4, b1_4⟩ := o1 4 .i8 rfl
  obtain ⟨n1_5, y1_5, b1_5⟩ := o1 5 .i8 rfl
  obtain ⟨n1_6, y1_6, b1_6⟩ := o1 6 .i8 rfl
  obtain ⟨n1_7, y1_7, b1_7⟩ := o1 7 .u8 rfl
  obtain rfl : c1 = #[.int .i8 n1_0, .int .i8 n1_1, .int .i8 n1_2, .int .i8 n1_3, .int .i8 n1_4, .int .i8 n1_5, .int .i8 n1_6, .int .u8 n1_7] := by
    apply Array.ext_getElem?; intro i
    rcases i with _ | _ | _ | _ | _ | _ | _ | _ | i
    · exact y1_0
    · exact y1_1
    · exact y1_2
    · exact y1_3
    · exact y1_4
    · exact y1_5
    · exact y1_6
    · exact y1_7
    · rw [Array.getElem?_eq_none (by simp at z1; omega), Array.getElem?_eq_none (by simp)]
  obtain ⟨n2_0, rfl, b2_0⟩ := open_cell (k := .u8) (by kernel_rfl) (hval 2 5 v2 rfl rfl)
  refine (motion_rigid n0_0 n0_1 n0_2 n0_3 (has_i8 b0_0) (has_i8 b0_1) (has_i8 b0_2) (has_u8 b0_3)  n0_4 n0_5 n0_6 n0_7 (has_i8 b0_4) (has_i8 b0_5) (has_i8 b0_6) (has_u8 b0_7)  n0_8 n0_9 n0_10 n0_11 (has_i8 b0_8) (has_i8 b0_9) (has_i8 b0_10) (has_u8 b0_11)  n1_0 n1_1 n1_2 n1_3 (has_i8 b1_0) (has_i8 b1_1) (has_i8 b1_2) (has_i8 b1_3) n1_4 n1_5 n1_6 n1_7 (has_i8 b1_4) (has_i8 b1_5) (has_i8 b1_6) (has_u8 b1_7)  n2_0 (has_u8 b2_0)   W (motionRigid_table hL) (motionRigid_maxlen hsh)).mono fun e W' ⟨he, hg⟩ => ?_
  subst he
  exact ⟨_, rfl, law_post (tb := 4) laidOut (by kernel_rfl) (by kernel_rfl) (by kernel_rfl) rfl hW' rfl hg⟩
noncomputable def motionRigid_world (os : Os) : World := World.laidAll Tryz.prog os Rows.motionRigidRow.laid
theorem motionRigid_met (os : Os) : laidMet Tryz.prog Rows.motionRigidRow.laid ((motionRigid_world os).forCall (fun _ _ => 0) ⟨#[], #[.agg #[.int .i8 0, .int .i8 0, .int .i8 0, .int .u8 0, .int .i8 0, .int .i8 0, .int .i8 0, .int .u8 0, .int .i8 0, .int .i8 0, .int .i8 0, .int .u8 0], .agg #[.int .i8 0, .int .i8 0, .int .i8 0, .int .i8 0, .int .i8 0, .int .i8 0, .int .i8 0, .int .u8 0], .int .u8 0], []⟩).memory :=
  laidMet_laidAll _ (by kernel_rfl) (by kernel_rfl)
theorem motionRigid_reads (os : Os) {H : Type} (enc : TypeId × Value → H) : ∃ places, DataW.whole enc Tryz.prog ((motionRigid_world os).forCall (fun _ _ => 0) ⟨#[], #[.agg #[.int .i8 0, .int .i8 0, .int .i8 0, .int .u8 0, .int .i8 0, .int .i8 0, .int .i8 0, .int .u8 0, .int .i8 0, .int .i8 0, .int .i8 0, .int .u8 0], .agg #[.int .i8 0, .int .i8 0, .int .i8 0, .int .i8 0, .int .i8 0, .int .i8 0, .int .i8 0, .int .u8 0], .int .u8 0], []⟩).memory Tryz.f5.params.toList Rows.motionRigidSpec.vars false (#[.agg #[.int .i8 0, .int .i8 0, .int .i8 0, .int .u8 0, .int .i8 0, .int .i8 0, .int .i8 0, .int .u8 0, .int .i8 0, .int .i8 0, .int .i8 0, .int .u8 0], .agg #[.int .i8 0, .int .i8 0, .int .i8 0, .int .i8 0, .int .i8 0, .int .i8 0, .int .i8 0, .int .u8 0], .int .u8 0] : Array Value).toList 8 = some ([.agg [.agg [.agg [.lit (.int .i8 0), .lit (.int .i8 0), .lit (.int .i8 0)], .lit (.int .u8 0)], .agg [.agg [.lit (.int .i8 0), .lit (.int .i8 0), .lit (.int .i8 0)], .lit (.int .u8 0)], .agg [.agg [.lit (.int .i8 0), .lit (.int .i8 0), .lit (.int .i8 0)], .lit (.int .u8 0)]], .agg [.agg [.lit (.int .i8 0), .lit (.int .i8 0), .lit (.int .i8 0), .lit (.int .i8 0)], .agg [.agg [.lit (.int .i8 0), .lit (.int .i8 0), .lit (.int .i8 0)], .lit (.int .u8 0)]], .lit (.int .u8 0)], [], places) :=
  ⟨[], by kernel_rfl⟩
set_option maxRecDepth 100000 in
theorem motionRigid_lifted (os : Os) (started : os.Started) (H : Type) (enc : TypeId × Value → H) (F : Stop.Interp) :
    ReturnsInHanded {} Tryz.checked os 5 .any ((OpenSpec.ofChange Rows.motionRigidSpec).preRow enc Tryz.prog Tryz.f5 Rows.motionRigidRow.domain false Rows.motionRigidRow.laid) (((OpenSpec.ofChange Rows.motionRigidSpec).at F).post enc Tryz.prog Tryz.f5 false true false false) := by
  obtain ⟨places, hx⟩ := motionRigid_reads os enc
  refine returnsInHanded_of_row (C := Tryz.checked) (s := OpenSpec.ofChange Rows.motionRigidSpec) own started (by kernel_rfl) Tryz.func5
    (witness_row_sh (enc := enc) (C := Tryz.checked) false (motionRigid_world os) #[.agg #[.int .i8 0, .int .i8 0, .int .i8 0, .int .u8 0, .int .i8 0, .int .i8 0, .int .i8 0, .int .u8 0, .int .i8 0, .int .i8 0, .int .i8 0, .int .u8 0], .agg #[.int .i8 0, .int .i8 0, .int .i8 0, .int .i8 0, .int .i8 0, .int .i8 0, .int .i8 0, .int .u8 0], .int .u8 0] (World.laidAll_os _ _ _) (World.shaped_of_ZipB (by kernel_rfl) (by kernel_rfl)) (by kernel_rfl)
      (OpenSpec.preRow_of_cond 8 hx (by kernel_rfl) (fun k hk => by cases hk) (by kernel_rfl) (by rw [MakeChecks.laidMetH_plain _ _ _ (by kernel_rfl)]; exact motionRigid_met os))) ?_
  intro W base args ds gs before hval hW _ _ _ hL hsh _
  exact motionRigid_contract H enc W base args ds gs before hval hW hL hsh
theorem motionRigid_said : Rows.MotionRigidSaid :=
  OpenClaim.holds_of_cond 5 Tryz.f5 rfl rfl rfl rfl rfl rfl rfl ⟨rfl, rfl, rfl, rfl, rfl⟩ rfl rfl rfl rfl rfl (by kernel_rfl) Tryz.func5 (by kernel_rfl)
    (of_decide_eq_true (by kernel_rfl)) (by unfold Func.isWrapper; first | (rw [if_pos (by decide +kernel)]; kernel_rfl) | (rw [if_neg (by decide +kernel)]; exact ⟨rfl, rfl⟩))
    (fun os started H enc _ F => by rw [OpenClaim.pre_eq_preRow]; exact motionRigid_lifted os started H enc F)
theorem motionRigid_plain (f : FuncId) (fn : Func) (hf : Tryz.pinned.checked.prog.funcNamed "dowel/dowellaw07.MotionRigid" = some f) (hfn : Tryz.pinned.checked.prog.funcs[f]? = some fn) :
    true = Tryz.pinned.checked.prog.looks [] ∧ ∀ (j : Nat) t, fn.params[j]? = some t → Tryz.pinned.checked.prog.wantsStandIn t = false := by
  obtain rfl : f = 5 := Option.some.inj ((show Tryz.prog.funcNamed "dowel/dowellaw07.MotionRigid" = some 5 by kernel_rfl).symm.trans hf) |>.symm
  obtain rfl : fn = Tryz.f5 := (Option.some.inj (Tryz.func5.symm.trans hfn)).symm
  refine ⟨by kernel_rfl, fun j t ht => ?_⟩
  rw [Tryz.params5] at ht
  have hm := Array.mem_of_getElem? ht
  have hall : (#[71, 62, 5] : Array TypeId).toList.all (fun t => !Tryz.prog.wantsStandIn t) = true := by kernel_rfl
  have := List.all_eq_true.1 hall t (Array.mem_toList_iff.2 hm)
  have h3 : Tryz.prog.wantsStandIn t = false := by simpa using this
  exact h3
/-- the card -/
theorem motionRigid_card : Rows.MotionRigidCardSaid :=
  Claim7.holds_tied_plain_at .later [] _ _ _ _ motionRigid_said (fun _ h => by cases h) (by kernel_rfl) (fun _ h => by cases h) motionRigid_row_tie rfl ⟨rfl, rfl⟩ (by kernel_rfl) rfl motionRigid_plain (by kernel_rfl)
end Go.Proofs.YtaldbfflkpgfoaaGreatDoor
