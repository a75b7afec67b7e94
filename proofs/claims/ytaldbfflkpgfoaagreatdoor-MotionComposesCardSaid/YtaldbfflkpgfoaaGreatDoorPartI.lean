/- Joined of: Gen134, RowMotionComposes. -/
import Derived.Test.YtaldbfflkpgfoaaGreatDoorPartG
import Derived.Test.YtaldbfflkpgfoaaGreatDoorCards
import Derived.Test.YtaldbfflkpgfoaaGreatDoorTie
/- Printed by a program of the prover's: MotionComposes. -/
namespace Go.Proofs.YtaldbfflkpgfoaaGreatDoor
open Go.RowKit

/-- how the regions that draw their order are run -/
noncomputable def tabMc : List (Nat × List (Nat × Ent)) := [(9, [(3, .flo [(true, 0), (true, 1), (true, 3), (true, 4), (true, 6), (true, 7), (false, 2), (false, 5), (false, 8)] [(9, 5, 41), (10, 6, 41), (11, 7, 41)] [(false, 12), (false, 13), (false, 14)] []), (6, .ord [(true, 0), (true, 1), (true, 2), (true, 5), (true, 6), (false, 3), (false, 4), (false, 7), (false, 8), (false, 9), (false, 10), (true, 11), (true, 12), (true, 13), (true, 14), (true, 16), (true, 17), (true, 18), (false, 15), (false, 19), (false, 20), (false, 21), (true, 22), (true, 23), (true, 24), (true, 25), (false, 26), (true, 27), (true, 28)] []), (8, .ord [(true, 0), (true, 1), (true, 3), (true, 4), (true, 5), (false, 2), (false, 6), (false, 7), (false, 8), (true, 9)] []), (10, .ord [(true, 0), (true, 1), (false, 2), (false, 3), (false, 4), (false, 5), (true, 6), (true, 7), (true, 9), (false, 8), (false, 10), (false, 11), (false, 12), (true, 13), (true, 14), (true, 15), (true, 16), (true, 18), (true, 19), (true, 21), (true, 22), (false, 17), (false, 20), (false, 23), (true, 24), (true, 25), (true, 26), (true, 27)] [])]),
 (17, [(4, .ord [(true, 0), (true, 1), (true, 2), (true, 3), (true, 5), (true, 6), (true, 7), (true, 8), (false, 4), (false, 9), (true, 10)] []), (6, .ord [(true, 0), (true, 1), (true, 3), (true, 4), (false, 2), (false, 5), (true, 6), (true, 7)] [])]),
 (18, [(1, .ord [(true, 0), (true, 1), (true, 3), (true, 4), (false, 2), (false, 5), (true, 6), (false, 7)] [2])]),
 (19, [(5, .ord [(true, 0), (true, 1), (true, 3), (true, 4), (false, 2), (true, 5), (false, 6)] [1])]),
 (23, []),
 (24, [(9, .ord [(true, 0), (true, 1), (true, 2), (true, 3), (true, 5), (true, 6), (false, 4), (true, 7), (false, 8)] [5])]),
 (26, [(9, .ord [(true, 0), (true, 1), (true, 2), (true, 3), (true, 4), (true, 5), (true, 6), (true, 7), (true, 8), (true, 10), (true, 11), (false, 9), (true, 12), (false, 13)] [6])]),
 (28, [(3, .ord [(true, 0), (true, 1), (false, 2), (false, 3), (false, 4)] [2, 3])]),
 (29, []),
 (30, [(1, .flo [(true, 0), (true, 1), (true, 2), (true, 3), (false, 4), (true, 5), (false, 6)] [(7, 3, 41)] [(false, 8)] []), (2, .ord [(true, 0), (false, 1), (false, 2), (true, 3), (true, 4), (true, 5), (true, 6), (true, 7), (true, 8), (true, 9), (true, 10), (true, 11), (true, 12), (false, 13), (false, 14), (true, 15), (true, 16), (true, 17)] [])]),
 (36, []),
 (38, []),
 (39, [(1, .ord [(true, 0), (true, 1), (true, 2), (false, 3), (false, 4), (false, 5)] [6])]),
 (40, []),
 (41, [(6, .ord [(true, 0), (true, 1), (true, 2), (true, 3), (true, 4), (true, 5), (true, 6), (true, 8), (true, 9), (true, 10), (true, 11), (true, 12), (true, 13), (false, 7), (false, 14), (false, 15), (true, 16), (false, 17)] [5])]),
 (43, [(1, .ord [(true, 0), (true, 1), (true, 3), (true, 4), (false, 2), (false, 5), (false, 6)] [4])]),
 (44, []),
 (45, []),
 (46, [(1, .ord [(true, 0), (true, 1), (true, 3), (true, 4), (false, 2), (false, 5), (false, 6)] [4])]),
 (47, [(1, .ord [(true, 0), (true, 1), (true, 2), (true, 3), (true, 5), (true, 6), (true, 7), (true, 8), (true, 10), (true, 11), (true, 12), (true, 13), (false, 4), (false, 9), (false, 14), (true, 15), (false, 16)] [4])]),
 (48, []),
 (62, [(1, .ord [(true, 0), (true, 1), (true, 2), (true, 3), (true, 4), (true, 5), (true, 6), (true, 7), (true, 8), (true, 9), (true, 10), (true, 11)] []), (11, .ord [(true, 0), (true, 1), (true, 2), (true, 3), (true, 4), (true, 5), (true, 6), (true, 8), (true, 10), (false, 7), (false, 9), (true, 11), (false, 12)] [9])]),
 (63, []),
 (69, [(8, .ord [(true, 0), (true, 1), (true, 2), (true, 3), (true, 4), (false, 5)] [3])]),
 (70, [(8, .ord [(true, 0), (true, 1), (true, 2), (true, 3), (true, 4), (true, 5), (true, 6), (true, 7), (true, 8), (false, 9)] [3])]),
 (71, [(1, .ord [(true, 0), (true, 1), (true, 2), (true, 3), (true, 5), (true, 6), (true, 7), (true, 8), (true, 11), (true, 12), (true, 13), (true, 14), (false, 4), (false, 9), (false, 10), (false, 15), (false, 16), (true, 17)] [])]),
 (73, []),
 (74, [(5, .ord [(true, 0), (true, 1), (true, 2), (true, 3), (true, 4), (true, 5), (true, 6), (true, 7), (false, 8), (true, 9), (false, 10)] [7])]),
 (83, []),
 (84, [(4, .ord [(true, 0), (true, 1), (true, 2), (true, 3), (true, 4), (true, 5), (false, 6), (true, 7)] [])]),
 (86, []),
 (88, [(1, .ord [(true, 0), (true, 1), (true, 2), (true, 3), (true, 5), (true, 6), (true, 7), (true, 8), (true, 10), (true, 11), (true, 12), (true, 13), (false, 4), (false, 9), (false, 14), (true, 15), (false, 16)] [4])]),
 (93, [])]
noncomputable def conMc : List (Nat × ConT) := [(103, conRR 100000 (fun k m => k + m + 1) (fun a b => a + b)),
 (75, conRR 100000 (fun k m => k + m + 1) (fun a b => a - b)),
 (82, conRR 100000 (fun k m => k + m) (fun a b => a * b)),
 (108, cNeg),
 (59, cFrom),
 (37, cComp),
 (76, cSign),
 (87, cNumb),
 (130, cNum),
 (81, cDen),
 (58, cDiv),
 (96, cZFrom),
 (80, cZMul),
 (122, cZGcd),
 (123, cZDiv),
 (68, cZInt),
 (105, cTT (fun k m => k + m + 1) fun a b => a + b),
 (132, cTT (fun k m => k + m + 1) fun a b => a - b),
 (106, cTT (fun k m => k + m) fun a b => a * b),
 (64, cTDiv),
 (115, cTNeg),
 (65, cTFrom),
 (94, cPars 400),
 (107, cPars 65536),
 (15, cChk),
 (66, cPrim),
 (14, cOf),
 (16, cMEq),
 (67, cTurn),
 (21, cPlc),
 (11, cKnown)]
noncomputable def sysMc : Sys := ⟨Tryz.prog, 2, 199, tabMc, conMc, fun w => Tab w ∧ Mx w⟩
theorem sysMc_ok : sysMc.OK where
  mixed := by kernel_rfl
  calls := fun f h0 h1 => by
    have : (List.range 199).all (fun f => Nat.blt f 2 || okCall Tryz.prog f) = true := by kernel_rfl
    have := List.all_eq_true.1 this f (List.mem_range.2 h1)
    simp only [Bool.or_eq_true] at this
    exact this.resolve_left (fun e => by have := blt_of e; exact absurd h0 (by show ¬ 2 ≤ f; omega))
  tab := by
    have : tabMc.all (okTab Tryz.prog) = true := by kernel_rfl
    exact fun x hx => List.all_eq_true.1 this x hx
  lps := lps_no (by kernel_rfl)
  con := fun x hx => by
    simp only [sysMc, conMc, List.mem_cons, List.not_mem_nil, or_false] at hx
    rcases hx with rfl | rfl | rfl | rfl | rfl | rfl | rfl | rfl | rfl | rfl | rfl | rfl | rfl | rfl | rfl | rfl | rfl | rfl | rfl | rfl | rfl | rfl | rfl | rfl | rfl | rfl | rfl | rfl | rfl | rfl | rfl
    · exact conRR_ok fun h1 h2 h3 => add_r h1 h2 h3
    · exact conRR_ok fun h1 h2 h3 => sub_r h1 h2 h3
    · exact conRR_ok fun h1 h2 h3 => mul_r h1 h2 h3
    · exact cNeg_ok
    · exact cFrom_ok
    · exact cComp_ok
    · exact cSign_ok
    · exact cNumb_ok fun w h => h.1
    · exact cNum_ok
    · exact cDen_ok
    · exact cDiv_ok
    · exact cZFrom_ok
    · exact cZMul_ok
    · exact cZGcd_ok
    · exact cZDiv_ok
    · exact cZInt_ok
    · exact cTAdd_ok
    · exact cTSub_ok
    · exact cTMul_ok
    · exact cTDiv_ok
    · exact cTNeg_ok
    · exact cTFrom_ok
    · exact cPars_ok fun w h => h.2
    · exact cRead_ok fun w h => h.2
    · exact cChk_ok fun w h => h.2
    · exact cPrim_ok
    · exact cOf_ok fun w h => h
    · exact cMEq_ok
    · exact cTurn_ok
    · exact cPlc_ok fun w h => h
    · exact cKnown_ok fun w h => h
  inv := fun w w' h g => ⟨h.1.gr g, h.2.gr g⟩
def treeMc (qa0 qa1 qa2 qa3 qb0 qb1 qb2 qb3 qc0 qc1 qc2 qc3 : Int) (AM BM CM : Mo) (e1 e2 e3 : Rat) : Lf := .as (decide (chk qa0 qa1 qa2 qa3 0 = 0)) true (.as (decide (chk qb0 qb1 qb2 qb3 0 = 0)) true (.as (decide (chk qc0 qc1 qc2 qc3 0 = 0)) true (asN 9 (nN qa0 qa1 qa2 qa3) (asN 9 (nN qb0 qb1 qb2 qb3) (
  .as (!sEq (l3 (mc AM BM 0) (mc AM BM 1) (mc AM BM 2)) (l3 (mf AM BM 0) (mf AM BM 1) (mf AM BM 2))) false (
  .as (!sEq (l3 (mc AM BM 3) (mc AM BM 4) (mc AM BM 5)) (l3 (mf AM BM 3) (mf AM BM 4) (mf AM BM 5))) false (
  .as (!sEq (l3 (mc AM BM 6) (mc AM BM 7) (mc AM BM 8)) (l3 (mf AM BM 6) (mf AM BM 7) (mf AM BM 8))) false (
  .as (sEq (l3 (mc AM BM 9) (mc AM BM 10) (mc AM BM 11)) (l3 (mf AM BM 9) (mf AM BM 10) (mf AM BM 11))) true (
  .as (rcmp (ap (mc AM BM) e1 e2 e3 0) (ap AM (ap BM e1 e2 e3 0) (ap BM e1 e2 e3 1) (ap BM e1 e2 e3 2) 0) != 0) false (
  .as (rcmp (ap (mc AM BM) e1 e2 e3 1) (ap AM (ap BM e1 e2 e3 0) (ap BM e1 e2 e3 1) (ap BM e1 e2 e3 2) 1) != 0) false (
  .as (rcmp (ap (mc AM BM) e1 e2 e3 2) (ap AM (ap BM e1 e2 e3 0) (ap BM e1 e2 e3 1) (ap BM e1 e2 e3 2) 2) != 0) false (
  .as (decide (l12 (mc (mz (mc AM BM)) (mt (mc AM BM))) = l12 idm)) true (
  .as (decide (0 < sgn (detm (mc AM BM)).num)) true (
  .as (decide (l12 (mc (mc AM BM) CM) = l12 (mc AM (mc BM CM)))) true (
  .as (decide (l12 (mc AM (mi AM)) = l12 idm)) true (
  .as (decide (l12 (mc (mi AM) AM) = l12 idm)) true (
  .as (decide (l12 AM = l12 BM) == (allEq [qa0, qa1, qa2, qa3] [qb0, qb1, qb2, qb3] && sEq (l3 (AM 9) (AM 10) (AM 11)) (l3 (BM 9) (BM 10) (BM 11)))) true (
  .ret (.so (.vc (.cb (decide (l12 AM = l12 BM) == (allEq [qa0, qa1, qa2, qa3] [qb0, qb1, qb2, qb3] && sEq (l3 (AM 9) (AM 10) (AM 11)) (l3 (BM 9) (BM 10) (BM 11)))) (some true))))))))))))))))))))))
theorem treeMc_ok {qa0 qa1 qa2 qa3 qb0 qb1 qb2 qb3 qc0 qc1 qc2 qc3 : Int} (va : VT qa0 qa1 qa2 qa3) (vb : VT qb0 qb1 qb2 qb3) (vc : VT qc0 qc1 qc2 qc3) {AM BM CM : Mo} (ra : RotM AM qa0 qa1 qa2 qa3) (rb : RotM BM qb0 qb1 qb2 qb3) (e1 e2 e3 : Rat) : LOK isT (treeMc qa0 qa1 qa2 qa3 qb0 qb1 qb2 qb3 qc0 qc1 qc2 qc3 AM BM CM e1 e2 e3) := by
  have hn := qmul_ne va.ne vb.ne rfl rfl rfl rfl
  have rg := rig_mat hn (mc_rot ra rb rfl rfl rfl rfl)
  have sm : (decide (l12 AM = l12 BM) == (allEq [qa0, qa1, qa2, qa3] [qb0, qb1, qb2, qb3] && sEq (l3 (AM 9) (AM 10) (AM 11)) (l3 (BM 9) (BM 10) (BM 11)))) = true := same_motion va vb ra rb
  exact ⟨decide_eq_true (va.chk 0), decide_eq_true (vb.chk 0), decide_eq_true (vc.chk 0), asN_ok (nn_ne va) (asN_ok (nn_ne vb) ⟨nE3 (mc_mf ..) (mc_mf ..) (mc_mf ..), ⟨nE3 (mc_mf ..) (mc_mf ..) (mc_mf ..), ⟨nE3 (mc_mf ..) (mc_mf ..) (mc_mf ..), ⟨eE3 (mc_mf ..) (mc_mf ..) (mc_mf ..), ⟨rc0 (ap_comp ..), ⟨rc0 (ap_comp ..), ⟨rc0 (ap_comp ..), ⟨rg.1, ⟨rg.2, ⟨decide_eq_true (mc_assoc ..), ⟨decide_eq_true (mc_inv va.ne ra), ⟨decide_eq_true (mc_inv2 va.ne ra), ⟨sm, isT_of sm⟩⟩⟩⟩⟩⟩⟩⟩⟩⟩⟩⟩⟩)⟩
theorem runMc (t0a t1a t2a t3a i1a i2a i3a da t0b t1b t2b t3b i1b i2b i3b db t0c t1c t2c t3c i1c i2c i3c dc i1e i2e i3e de : Int) : runF sysMc 9 [.so (.vg [.ci .i8 t0a (-128) 127, .ci .i8 t1a (-128) 127, .ci .i8 t2a (-128) 127, .ci .i8 t3a (-128) 127, .ci .i8 i1a (-128) 127, .ci .i8 i2a (-128) 127, .ci .i8 i3a (-128) 127, .ci .u8 da 0 255, .ci .i8 t0b (-128) 127, .ci .i8 t1b (-128) 127, .ci .i8 t2b (-128) 127, .ci .i8 t3b (-128) 127, .ci .i8 i1b (-128) 127, .ci .i8 i2b (-128) 127, .ci .i8 i3b (-128) 127, .ci .u8 db 0 255, .ci .i8 t0c (-128) 127, .ci .i8 t1c (-128) 127, .ci .i8 t2c (-128) 127, .ci .i8 t3c (-128) 127, .ci .i8 i1c (-128) 127, .ci .i8 i2c (-128) 127, .ci .i8 i3c (-128) 127, .ci .u8 dc 0 255]), .so (.vg [.ci .i8 i1e (-128) 127, .ci .i8 i2e (-128) 127, .ci .i8 i3e (-128) 127, .ci .u8 de 0 255])] 0 0 (.f (.f (.f (.t (.f (.f (.f (.t (.t (.t (.t (.t (.o (.o (.t .e))))))))))))))) = some (treeMc (qd t0a t1a t2a t3a 0) (qd t0a t1a t2a t3a 1) (qd t0a t1a t2a t3a 2) (qd t0a t1a t2a t3a 3) (qd t0b t1b t2b t3b 0) (qd t0b t1b t2b t3b 1) (qd t0b t1b t2b t3b 2) (qd t0b t1b t2b t3b 3) (qd t0c t1c t2c t3c 0) (qd t0c t1c t2c t3c 1) (qd t0c t1c t2c t3c 2) (qd t0c t1c t2c t3c 3) (pm (roE (qd t0a t1a t2a t3a 0) (qd t0a t1a t2a t3a 1) (qd t0a t1a t2a t3a 2) (qd t0a t1a t2a t3a 3)) (sq i1a da) (sq i2a da) (sq i3a da)) (pm (roE (qd t0b t1b t2b t3b 0) (qd t0b t1b t2b t3b 1) (qd t0b t1b t2b t3b 2) (qd t0b t1b t2b t3b 3)) (sq i1b db) (sq i2b db) (sq i3b db)) (pm (roE (qd t0c t1c t2c t3c 0) (qd t0c t1c t2c t3c 1) (qd t0c t1c t2c t3c 2) (qd t0c t1c t2c t3c 3)) (sq i1c dc) (sq i2c dc) (sq i3c dc)) (sq i1e de) (sq i2e de) (sq i3e de)) := by kernel_rfl
theorem motion_composes (t0a t1a t2a t3a : Int) (jt0a : -128 ≤ t0a ∧ t0a ≤ 127) (jt1a : -128 ≤ t1a ∧ t1a ≤ 127) (jt2a : -128 ≤ t2a ∧ t2a ≤ 127) (jt3a : -128 ≤ t3a ∧ t3a ≤ 127) (i1a i2a i3a da : Int) (ji1a : -128 ≤ i1a ∧ i1a ≤ 127) (ji2a : -128 ≤ i2a ∧ i2a ≤ 127) (ji3a : -128 ≤ i3a ∧ i3a ≤ 127) (jda : 0 ≤ da ∧ da ≤ 255) (t0b t1b t2b t3b : Int) (jt0b : -128 ≤ t0b ∧ t0b ≤ 127) (jt1b : -128 ≤ t1b ∧ t1b ≤ 127) (jt2b : -128 ≤ t2b ∧ t2b ≤ 127) (jt3b : -128 ≤ t3b ∧ t3b ≤ 127) (i1b i2b i3b db : Int) (ji1b : -128 ≤ i1b ∧ i1b ≤ 127) (ji2b : -128 ≤ i2b ∧ i2b ≤ 127) (ji3b : -128 ≤ i3b ∧ i3b ≤ 127) (jdb : 0 ≤ db ∧ db ≤ 255) (t0c t1c t2c t3c : Int) (jt0c : -128 ≤ t0c ∧ t0c ≤ 127) (jt1c : -128 ≤ t1c ∧ t1c ≤ 127) (jt2c : -128 ≤ t2c ∧ t2c ≤ 127) (jt3c : -128 ≤ t3c ∧ t3c ≤ 127) (i1c i2c i3c dc : Int) (ji1c : -128 ≤ i1c ∧ i1c ≤ 127) (ji2c : -128 ≤ i2c ∧ i2c ≤ 127) (ji3c : -128 ≤ i3c ∧ i3c ≤ 127) (jdc : 0 ≤ dc ∧ dc ≤ 255) (i1e i2e i3e de : Int) (ji1e : -128 ≤ i1e ∧ i1e ≤ 127) (ji2e : -128 ≤ i2e ∧ i2e ≤ 127) (ji3e : -128 ≤ i3e ∧ i3e ≤ 127) (jde : 0 ≤ de ∧ de ≤ 255) (w : World) (ht : Tab w) (hm : Mx w) :
    Calls Tryz.prog 9 #[.agg #[.int .i8 t0a, .int .i8 t1a, .int .i8 t2a, .int .i8 t3a, .int .i8 i1a, .int .i8 i2a, .int .i8 i3a, .int .u8 da, .int .i8 t0b, .int .i8 t1b, .int .i8 t2b, .int .i8 t3b, .int .i8 i1b, .int .i8 i2b, .int .i8 i3b, .int .u8 db, .int .i8 t0c, .int .i8 t1c, .int .i8 t2c, .int .i8 t3c, .int .i8 i1c, .int .i8 i2c, .int .i8 i3c, .int .u8 dc], .agg #[.int .i8 i1e, .int .i8 i2e, .int .i8 i3e, .int .u8 de]] w fun e w' => e = .returned (.bool true) ∧ Gr w w' := by
  refine (run_calls sysMc sysMc_ok (runMc t0a t1a t2a t3a i1a i2a i3a da t0b t1b t2b t3b i1b i2b i3b db t0c t1c t2c t3c i1c i2c i3c dc i1e i2e i3e de) (X := envR []) ⟨ht, hm⟩ (okF2 (okA_ok ⟨⟨rfl, jt0a⟩, ⟨rfl, jt1a⟩, ⟨rfl, jt2a⟩, ⟨rfl, jt3a⟩, ⟨rfl, ji1a⟩, ⟨rfl, ji2a⟩, ⟨rfl, ji3a⟩, ⟨rfl, jda⟩, ⟨rfl, jt0b⟩, ⟨rfl, jt1b⟩, ⟨rfl, jt2b⟩, ⟨rfl, jt3b⟩, ⟨rfl, ji1b⟩, ⟨rfl, ji2b⟩, ⟨rfl, ji3b⟩, ⟨rfl, jdb⟩, ⟨rfl, jt0c⟩, ⟨rfl, jt1c⟩, ⟨rfl, jt2c⟩, ⟨rfl, jt3c⟩, ⟨rfl, ji1c⟩, ⟨rfl, ji2c⟩, ⟨rfl, ji3c⟩, ⟨rfl, jdc⟩, trivial⟩) (okA_ok ⟨⟨rfl, ji1e⟩, ⟨rfl, ji2e⟩, ⟨rfl, ji3e⟩, ⟨rfl, jde⟩, trivial⟩)) (Post := isT) (treeMc_ok (qd_vt t0a t1a t2a t3a) (qd_vt t0b t1b t2b t3b) (qd_vt t0c t1c t2c t3c) (pm_rot (qd_vt t0a t1a t2a t3a) ..) (pm_rot (qd_vt t0b t1b t2b t3b) ..) ..)).mono fun e w' he => ?_
  obtain ⟨v, X', n, rfl, g, _, _, hp⟩ := he
  exact ⟨by rw [hp], g⟩
end Go.Proofs.YtaldbfflkpgfoaaGreatDoor
/- The law MotionComposes holds of every input: its row, and its card tied to the program's text. Printed by a program of the prover's. -/
namespace Go.Proofs.YtaldbfflkpgfoaaGreatDoor
open Go.ChangeShapes Go.WideShapes Go.ChangeAt Go.RowKit

theorem motionComposes_table {W : World} (h : laidMetH Tryz.prog Rows.motionComposesRow.laid W) : Tab W :=
  Lib.tabIs_of_head (rest := _) (g := 1) (t := 254) (e := 160) (n := 20) (by kernel_rfl) (by kernel_rfl) (by kernel_rfl) (by kernel_rfl) (by kernel_rfl) (by kernel_rfl) ((show laidMet Tryz.prog Rows.motionComposesRow.laid W from (MakeChecks.laidMetH_plain _ _ _ (by kernel_rfl)) ▸ h).tail.tail)
theorem motionComposes_maxlen {W : World} (h : W.ShapedOpen Tryz.prog) : Mx W :=
  Go.Proofs.cell_of_shapedOpen_int (zero := #[.int .i64 0]) (g := 0) (t := 3) h (of_decide_eq_true (by kernel_rfl)) (by kernel_rfl) rfl (by kernel_rfl) (by kernel_rfl) Tryz.underlying3
set_option maxRecDepth 100000 in
theorem motionComposes_contract (H : Type) (enc : TypeId × Value → H) (W : World) (base : Nat) (args : Array Value) (ds gs : List (DataW H)) (before : List MemPlace)
    (hval : ∀ (j : Nat) t v, Tryz.f9.params[j]? = some t → args[j]? = some v → Value.okWide Tryz.prog W .any base t v)
    (hW : DataW.Whole enc Tryz.prog Tryz.f9.params.toList Rows.motionComposesSpec.vars false W args.toList ds gs before) (hL : laidMetH Tryz.prog Rows.motionComposesRow.laid W) (hsh : W.ShapedOpen Tryz.prog) :
    Calls Tryz.prog 9 args W fun e W' => ∃ v, e = .returned v ∧ Rows.motionComposesSpec.post enc Tryz.prog Tryz.f9 false true false false W args v W' := by
  have hW' := hW
  obtain ⟨p, q, hA0, hV, rfl, hfz, hnd⟩ := hW
  have hA : DataW.TrodAll enc Tryz.prog W 0 (fun _ => true) true Tryz.f9.params.toList args.toList ds p := hA0
  rw [Tryz.params9] at hA hval
  obtain ⟨v0, vs0, d0, ds0, p0, q0, hargs, rfl, rfl, h0, r0⟩ := trodAll_cons hA
  obtain ⟨v1, vs1, d1, ds1, p1, q1, rfl, rfl, rfl, h1, r1⟩ := trodAll_cons r0
  obtain ⟨rfl, rfl, rfl⟩ := trodAll_nil r1
  obtain rfl : args = #[v0, v1] := by cases args; simp_all
  obtain ⟨rfl, rfl⟩ := trodVars_none hV
  obtain ⟨c0, rfl, z0, o0⟩ := open_cells (ts := [56, 56, 56, 56, 56, 56, 56, 5, 56, 56, 56, 56, 56, 56, 56, 5, 56, 56, 56, 56, 56, 56, 56, 5]) [.i8, .i8, .i8, .i8, .i8, .i8, .i8, .u8, .i8, .i8, .i8, .i8, .i8, .i8, .i8, .u8, .i8, .i8, .i8, .i8, .i8, .i8, .i8, .u8] (by kernel_rfl) (by kernel_rfl) (by kernel_rfl) (by kernel_rfl) (hval 0 95 v0 rfl rfl)
  obtain ⟨n0_0, y0_0, b0_0⟩ := o0 0 .i8 rfl
  obtain ⟨n0_1, y0_1, b0_1⟩ := o0 1 .i8 rfl
  obtain ⟨n0_2, y0_2, b0_2⟩ := o0 2 .i8 rfl
  obtain ⟨n0_3, y0_3, b0_3⟩ := o0 3 .i8 rfl
  obtain ⟨n0_4, y0_4, b0_4⟩ := o0 4 .i8 rfl
  obtain ⟨n0_5, y0_5, b0_5⟩ := o0 5 .i8 rfl
  obtain ⟨n0_6, y0_6, b0_6⟩ := o0 6 .i8 rfl
  obtain ⟨n0_7, y0_7, b0_7⟩ := o0 7 .u8 rfl
  obtain ⟨n0_8, y0_8, b0_8⟩ := o0 8 .i8 rfl
  obtain ⟨n0_9, y0_9, b0_9⟩ := o0 9 .i8 rfl
  obtain ⟨n0_10, y0_10, b0_10⟩ := o0 10 .i8 rfl
  obtain ⟨n0_11, y0_11, b0_11⟩ := o0 11 .i8 rfl
  obtain ⟨n0_12, y0_12, b0_12⟩ := o0 12 .i8 rfl
  obtain ⟨n0_13, y0_13, b0_13⟩ := o0 13 .i8 rfl
  obtain ⟨n0_14, y0_14, b0_14⟩ := o0 14 .i8 rfl
  obtain ⟨n0_15, y0_15, b0_15⟩ := o0 15 .u8 rfl
  obtain ⟨n0_16, y0_16, b0_16⟩ := o0 16 .i8 rfl
  obtain ⟨n0_17, y0_17, b0_17⟩ := o0 17 .i8 rfl
  obtain ⟨n0_18, y0_18, b0_18⟩ := o0 18 .i8 rfl
  obtain ⟨n0_19, y0_19, b0_19⟩ := o0 19 .i8 rfl
  obtain ⟨n0_20, y0_20, b0_20⟩ := o0 20 .i8 rfl
  obtain ⟨n0_21, y0_21, b0_21⟩ := o0 21 .i8 rfl
  obtain ⟨n0_22, y0_22, b0_22⟩ := o0 22 .i8 rfl
  obtain ⟨n0_23, y0_23, b0_23⟩ := o0 23 .u8 rfl
  obtain rfl : c0 = #[.int .i8 n0_0, .int .i8 n0_1, .int .i8 n0_2, .int .i8 n0_3, .int .i8 n0_4, .int .i8 n0_5, .int .i8 n0_6, .int .u8 n0_7, .int .i8 n0_8, .int .i8 n0_9, .int .i8 n0_10, .int .i8 n0_11, .int .i8 n0_12, .int .i8 n0_13, .int .i8 n0_14, .int .u8 n0_15, .int .i8 n0_16, .int .i8 n0_17, .int .i8 n0_18, .int .i8 n0_19, .int .i8 n0_20, .int .i8 n0_21, .int .i8 n0_22, .int .u8 n0_23] := by
    apply Array.ext_getElem?; intro i
    rcases i with _ | _ | _ | _ | _ | _ | _ | _ | _ | _ | _ | _ | _ | _ | _ | _ | _ | _ | _ | _ | _ | _ | _ | _ | i
    · exact y0_0
    · exact y0_1
    · exact y0_2
    · exact y0_3
    · exact y0_4
    · exact y0_5
    · exact y0_6
    · exact y0_7
    · exact y0_8
    · exact y0_9
    · exact y0_10
    · exact y0_11
    · exact y0_12
    · exact y0_13
    · exact y0_14
    · exact y0_15
    · exact y0_16
    · exact y0_17
    · exact y0_18
    · exact y0_19
    · exact y0_20
    · exact y0_21
    · exact y0_22
    · exact y0_23
    · rw [Array.getElem?_eq_none (by simp at z0; omega), Array.getElem?_eq_none (by simp)]
  obtain ⟨c1, rfl, z1, o1⟩ := open_cells (ts := [56, 56, 56, 5]) [.i8, .i8, .i8, .u8] (by kernel_rfl) (by kernel_rfl) (by kernel_rfl) (by kernel_rfl) (hval 1 60 v1 rfl rfl)
  obtain ⟨n1_0, y1_0, b1_0⟩ := o1 0 .i8 rfl
  obtain ⟨n1_1, y1_1, b1_1⟩ := o1 1 .i8 rfl
  obtain ⟨n1_2, y1_2, b1_2⟩ := o1 2 .i8 rfl
  obtain ⟨n1_3, y1_3, b1_3⟩ := o1 3 .u8 rfl
  obtain rfl : c1 = #[.int .i8 n1_0, .int .i8 n1_1, .int .i8 n1_2, .int .u8 n1_3] := by
    apply Array.ext_getElem?; intro i
    rcases i with _ | _ | _ | _ | i
    · exact y1_0
    · exact y1_1
    · exact y1_2
    · exact y1_3
    · rw [Array.getElem?_eq_none (by simp at z1; omega), Array.getElem?_eq_none (by simp)]
  refine (motion_composes n0_0 n0_1 n0_2 n0_3 (has_i8 b0_0) (has_i8 b0_1) (has_i8 b0_2) (has_i8 b0_3) n0_4 n0_5 n0_6 n0_7 (has_i8 b0_4) (has_i8 b0_5) (has_i8 b0_6) (has_u8 b0_7)  n0_8 n0_9 n0_10 n0_11 (has_i8 b0_8) (has_i8 b0_9) (has_i8 b0_10) (has_i8 b0_11) n0_12 n0_13 n0_14 n0_15 (has_i8 b0_12) (has_i8 b0_13) (has_i8 b0_14) (has_u8 b0_15)  n0_16 n0_17 n0_18 n0_19 (has_i8 b0_16) (has_i8 b0_17) (has_i8 b0_18) (has_i8 b0_19) n0_20 n0_21 n0_22 n0_23 (has_i8 b0_20) (has_i8 b0_21) (has_i8 b0_22) (has_u8 b0_23)  n1_0 n1_1 n1_2 n1_3 (has_i8 b1_0) (has_i8 b1_1) (has_i8 b1_2) (has_u8 b1_3)   W (motionComposes_table hL) (motionComposes_maxlen hsh)).mono fun e W' ⟨he, hg⟩ => ?_
  subst he
  exact ⟨_, rfl, law_post (tb := 4) laidOut (by kernel_rfl) (by kernel_rfl) (by kernel_rfl) rfl hW' rfl hg⟩
noncomputable def motionComposes_world (os : Os) : World := World.laidAll Tryz.prog os Rows.motionComposesRow.laid
theorem motionComposes_met (os : Os) : laidMet Tryz.prog Rows.motionComposesRow.laid ((motionComposes_world os).forCall (fun _ _ => 0) ⟨#[], #[.agg #[.int .i8 0, .int .i8 0, .int .i8 0, .int .i8 0, .int .i8 0, .int .i8 0, .int .i8 0, .int .u8 0, .int .i8 0, .int .i8 0, .int .i8 0, .int .i8 0, .int .i8 0, .int .i8 0, .int .i8 0, .int .u8 0, .int .i8 0, .int .i8 0, .int .i8 0, .int .i8 0, .int .i8 0, .int .i8 0, .int .i8 0, .int .u8 0], .agg #[.int .i8 0, .int .i8 0, .int .i8 0, .int .u8 0]], []⟩).memory :=
  laidMet_laidAll _ (by kernel_rfl) (by kernel_rfl)
theorem motionComposes_reads (os : Os) {H : Type} (enc : TypeId × Value → H) : ∃ places, DataW.whole enc Tryz.prog ((motionComposes_world os).forCall (fun _ _ => 0) ⟨#[], #[.agg #[.int .i8 0, .int .i8 0, .int .i8 0, .int .i8 0, .int .i8 0, .int .i8 0, .int .i8 0, .int .u8 0, .int .i8 0, .int .i8 0, .int .i8 0, .int .i8 0, .int .i8 0, .int .i8 0, .int .i8 0, .int .u8 0, .int .i8 0, .int .i8 0, .int .i8 0, .int .i8 0, .int .i8 0, .int .i8 0, .int .i8 0, .int .u8 0], .agg #[.int .i8 0, .int .i8 0, .int .i8 0, .int .u8 0]], []⟩).memory Tryz.f9.params.toList Rows.motionComposesSpec.vars false (#[.agg #[.int .i8 0, .int .i8 0, .int .i8 0, .int .i8 0, .int .i8 0, .int .i8 0, .int .i8 0, .int .u8 0, .int .i8 0, .int .i8 0, .int .i8 0, .int .i8 0, .int .i8 0, .int .i8 0, .int .i8 0, .int .u8 0, .int .i8 0, .int .i8 0, .int .i8 0, .int .i8 0, .int .i8 0, .int .i8 0, .int .i8 0, .int .u8 0], .agg #[.int .i8 0, .int .i8 0, .int .i8 0, .int .u8 0]] : Array Value).toList 8 = some ([.agg [.agg [.agg [.lit (.int .i8 0), .lit (.int .i8 0), .lit (.int .i8 0), .lit (.int .i8 0)], .agg [.agg [.lit (.int .i8 0), .lit (.int .i8 0), .lit (.int .i8 0)], .lit (.int .u8 0)]], .agg [.agg [.lit (.int .i8 0), .lit (.int .i8 0), .lit (.int .i8 0), .lit (.int .i8 0)], .agg [.agg [.lit (.int .i8 0), .lit (.int .i8 0), .lit (.int .i8 0)], .lit (.int .u8 0)]], .agg [.agg [.lit (.int .i8 0), .lit (.int .i8 0), .lit (.int .i8 0), .lit (.int .i8 0)], .agg [.agg [.lit (.int .i8 0), .lit (.int .i8 0), .lit (.int .i8 0)], .lit (.int .u8 0)]]], .agg [.agg [.lit (.int .i8 0), .lit (.int .i8 0), .lit (.int .i8 0)], .lit (.int .u8 0)]], [], places) :=
  ⟨[], by kernel_rfl⟩
set_option maxRecDepth 100000 in
theorem motionComposes_lifted (os : Os) (started : os.Started) (H : Type) (enc : TypeId × Value → H) (F : Stop.Interp) :
    ReturnsInHanded {} Tryz.checked os 9 .any ((OpenSpec.ofChange Rows.motionComposesSpec).preRow enc Tryz.prog Tryz.f9 Rows.motionComposesRow.domain false Rows.motionComposesRow.laid) (((OpenSpec.ofChange Rows.motionComposesSpec).at F).post enc Tryz.prog Tryz.f9 false true false false) := by
  obtain ⟨places, hx⟩ := motionComposes_reads os enc
  refine returnsInHanded_of_row (C := Tryz.checked) (s := OpenSpec.ofChange Rows.motionComposesSpec) own started (by kernel_rfl) Tryz.func9
    (witness_row_sh (enc := enc) (C := Tryz.checked) false (motionComposes_world os) #[.agg #[.int .i8 0, .int .i8 0, .int .i8 0, .int .i8 0, .int .i8 0, .int .i8 0, .int .i8 0, .int .u8 0, .int .i8 0, .int .i8 0, .int .i8 0, .int .i8 0, .int .i8 0, .int .i8 0, .int .i8 0, .int .u8 0, .int .i8 0, .int .i8 0, .int .i8 0, .int .i8 0, .int .i8 0, .int .i8 0, .int .i8 0, .int .u8 0], .agg #[.int .i8 0, .int .i8 0, .int .i8 0, .int .u8 0]] (World.laidAll_os _ _ _) (World.shaped_of_ZipB (by kernel_rfl) (by kernel_rfl)) (by kernel_rfl)
      (OpenSpec.preRow_of_cond 8 hx (by kernel_rfl) (fun k hk => by cases hk) (by kernel_rfl) (by rw [MakeChecks.laidMetH_plain _ _ _ (by kernel_rfl)]; exact motionComposes_met os))) ?_
  intro W base args ds gs before hval hW _ _ _ hL hsh _
  exact motionComposes_contract H enc W base args ds gs before hval hW hL hsh
theorem motionComposes_said : Rows.MotionComposesSaid :=
  OpenClaim.holds_of_cond 9 Tryz.f9 rfl rfl rfl rfl rfl rfl rfl ⟨rfl, rfl, rfl, rfl, rfl⟩ rfl rfl rfl rfl rfl (by kernel_rfl) Tryz.func9 (by kernel_rfl)
    (of_decide_eq_true (by kernel_rfl)) (by unfold Func.isWrapper; first | (rw [if_pos (by decide +kernel)]; kernel_rfl) | (rw [if_neg (by decide +kernel)]; exact ⟨rfl, rfl⟩))
    (fun os started H enc _ F => by rw [OpenClaim.pre_eq_preRow]; exact motionComposes_lifted os started H enc F)
theorem motionComposes_plain (f : FuncId) (fn : Func) (hf : Tryz.pinned.checked.prog.funcNamed "dowel/dowellaw07.MotionComposes" = some f) (hfn : Tryz.pinned.checked.prog.funcs[f]? = some fn) :
    true = Tryz.pinned.checked.prog.looks [] ∧ ∀ (j : Nat) t, fn.params[j]? = some t → Tryz.pinned.checked.prog.wantsStandIn t = false := by
  obtain rfl : f = 9 := Option.some.inj ((show Tryz.prog.funcNamed "dowel/dowellaw07.MotionComposes" = some 9 by kernel_rfl).symm.trans hf) |>.symm
  obtain rfl : fn = Tryz.f9 := (Option.some.inj (Tryz.func9.symm.trans hfn)).symm
  refine ⟨by kernel_rfl, fun j t ht => ?_⟩
  rw [Tryz.params9] at ht
  have hm := Array.mem_of_getElem? ht
  have hall : (#[95, 60] : Array TypeId).toList.all (fun t => !Tryz.prog.wantsStandIn t) = true := by kernel_rfl
  have := List.all_eq_true.1 hall t (Array.mem_toList_iff.2 hm)
  have h3 : Tryz.prog.wantsStandIn t = false := by simpa using this
  exact h3
/-- the card -/
theorem motionComposes_card : Rows.MotionComposesCardSaid :=
  Claim7.holds_tied_plain_at .later [] _ _ _ _ motionComposes_said (fun _ h => by cases h) (by kernel_rfl) (fun _ h => by cases h) motionComposes_row_tie rfl ⟨rfl, rfl⟩ (by kernel_rfl) rfl motionComposes_plain (by kernel_rfl)
end Go.Proofs.YtaldbfflkpgfoaaGreatDoor
