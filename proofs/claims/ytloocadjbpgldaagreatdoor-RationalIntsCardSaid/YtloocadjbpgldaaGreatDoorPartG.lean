/- Joined of: Inti, Gen52, Gen53, RowRationalInts. -/
import Derived.Test.YtloocadjbpgldaaGreatDoorPartB
import Derived.Test.YtloocadjbpgldaaGreatDoorPartC
import Derived.Test.YtloocadjbpgldaaGreatDoorPartF
import Derived.Test.YtloocadjbpgldaaGreatDoorPartD
import Derived.Test.YtloocadjbpgldaaGreatDoorCards
import Derived.Test.YtloocadjbpgldaaGreatDoorTie
/- The walk through (integer.Int).Int: an integer as an int, if it is one. -/
namespace Go.Proofs.YtloocadjbpgldaaGreatDoor
open Go.RowKit

/-- is it an int? (sign and magnitude) -/
def intb (s : Bool) (a : Int) : Bool := if s then decide (a ≤ 9223372036854775808) else decide (a < 9223372036854775808)
def intv (s : Bool) (a : Int) : Int := if intb s a then (if s then -a else a) else 0
theorem low_or {a : Int} {k : Nat} (hk : k < 2) : bits BinOp.or IntKind.u64 (low a k) (dg a k * 2 ^ (32 * k) % 18446744073709551616) = low a (k + 1) := by
  have x0 := dg_nonneg a k
  have x1 := dg_lt a k
  rw [low_succ]
  rcases (by omega : k = 0 ∨ k = 1) with rfl | rfl
  · rw [low_zero]
    have := or64 0 (dg a 0) (by omega) (by omega) x0 x1
    simp only [Int.zero_mul, Int.zero_add] at this
    rw [show dg a 0 * 2 ^ (32 * 0) % 18446744073709551616 = dg a 0 by simp; omega, this]
    simp
  · have e : low a 1 = dg a 0 := by rw [low_succ, low_zero]; simp
    have y0 := dg_nonneg a 0
    have y1 := dg_lt a 0
    have h := or64 (dg a 1) (dg a 0) x0 x1 y0 y1
    have e2 : dg a 1 * 2 ^ (32 * 1) % 18446744073709551616 = dg a 1 * 4294967296 := by
      rw [show (2 : Int) ^ (32 * 1) = 4294967296 by decide]; omega
    rw [e, e2]
    have hc : bits BinOp.or IntKind.u64 (dg a 0) (dg a 1 * 4294967296) = bits BinOp.or IntKind.u64 (dg a 1 * 4294967296) (dg a 0) := by
      obtain ⟨u, hu⟩ := Int.eq_ofNat_of_zero_le y0
      obtain ⟨v, hv⟩ := Int.eq_ofNat_of_zero_le (show 0 ≤ dg a 1 * 4294967296 by omega)
      rw [hu, hv, u64_or_nat _ _ (by omega) (by omega), u64_or_nat _ _ (by omega) (by omega), Nat.or_comm]
    rw [hc, h]
    omega
theorem dg_top2 {a : Int} {la : Nat} (h : NL a la) (hl : 2 < la) : 18446744073709551616 ≤ a := by
  have h1 := h.full (by omega)
  have h2 : hi a 2 ≠ 0 := fun e => h1 (hi_ge e (by omega))
  have h3 := hi_nonneg h.nonneg 2
  have e : hi a 2 = a / 4294967296 / 4294967296 := rfl
  omega
theorem int_f0 {a : Int} (h : 9223372036854775808 ≤ a) : intv false a = 0 ∧ intb false a = false := by
  have e : intb false a = false := by simp [intb]; omega
  exact ⟨by rw [intv, e]; rfl, e⟩
theorem int_t1 {a : Int} (h0 : 0 ≤ a) (h : a ≤ 9223372036854775808) : intv true a = wrap64 (IntKind.u64.wrap (-a)) ∧ intb true a = true := by
  have e : intb true a = true := by simp [intb]; omega
  refine ⟨?_, e⟩
  rw [intv, e, if_pos rfl, if_pos rfl, IntKind.wrap_u64]
  unfold wrap64
  omega
theorem int_t0 {a : Int} (h : 9223372036854775808 < a) : intv true a = 0 ∧ intb true a = false := by
  have e : intb true a = false := by simp [intb]; omega
  exact ⟨by rw [intv, e]; rfl, e⟩
set_option maxRecDepth 100000 in
set_option maxHeartbeats 1000000 in
theorem int_c (s : Bool) (ao : Option Addr) (la ca : Nat) (a : Int) (w : World) (ha : Mag w ao la ca a) :
    Calls Tryz.prog 104 #[.agg #[.bool s, .slice ao la ca]] w fun e w' => e = .returned (.tuple #[.int .i64 (intv s a), .bool (intb s a)]) ∧ Gr w w' := by
  have f0 := heap_alloc_new w (.cells #[.bool s, .slice ao la ca] 27)
  have c0 := cells_of f0 0
  have c1 := cells_of f0 1
  have hG : Gr w (w.alloc (.cells #[.bool s, .slice ao la ca] 27)) := Gr.alloc w _
  clear f0
  have hn := ha.nl.nonneg
  go_enter Tryz.func104, Tryz.ntmps104
  by_cases h2 : (2 : Int) < (la : Int)
  · have hb : intb s a = false := by
      have := dg_top2 ha.nl (by omega)
      unfold intb
      cases s <;> simp <;> omega
    have HB := Lib.hid hb
    clear hb
    go_wp2
    go_ret2
    refine ⟨?_, hG⟩
    rw [intv, HB.out]; rfl
  · go_wp2
    go_loopw [4, 14] (fun u i wr => ∃ (k : Nat), k ≤ la ∧ i = .int .i64 k ∧ u = .int .u64 (low a k) ∧ wr = w.alloc (.cells #[.bool s, .slice ao la ca] 27)) (fun _ i _ => la - (intOf i).toNat)
    case atStart => exact ⟨0, Nat.zero_le _, rfl, by rw [low_zero], rfl⟩
    case round =>
      obtain ⟨k, hk, rfl, rfl, rfl⟩ := hrel
      by_cases hlt : k < la
      · obtain ⟨b1, off1, rfl, hcs⟩ := (ha.gr hG).row.at_ (by omega)
        have hcell := hcs k hlt
        have x0 := dg_nonneg a k
        have x1 := dg_lt a k
        have hor := low_or (a := a) (k := k) (by omega)
        clear hcs
        go_wp2
        go_roundw
        case rel => exact ⟨k + 1, by omega, by go_num, by rw [IntKind.wrap_u64, hor], by first | rfl | trivial⟩
        case measure => simp [intOf]; omega
      · obtain rfl : k = la := by omega
        have htop := low_top ha.nl.top
        rw [htop]
        clear htop
        cases s
        · by_cases hb : a < 9223372036854775808
          · go_wp2
            go_ret2
            refine ⟨?_, hG⟩
            simp [intv, intb, hb]
          · have HB := Lib.hid (int_f0 (Int.not_lt.1 hb))
            go_wp2
            go_ret2
            refine ⟨?_, hG⟩
            rw [HB.out.1, HB.out.2]; rfl
        · by_cases hb : a ≤ 9223372036854775808
          · have HB := Lib.hid (int_t1 hn hb)
            go_wp2
            go_ret2
            refine ⟨?_, hG⟩
            rw [HB.out.1, HB.out.2]; rfl
          · have HB := Lib.hid (int_t0 (Int.not_le.1 hb))
            go_wp2
            go_ret2
            refine ⟨?_, hG⟩
            rw [HB.out.1, HB.out.2]; rfl
/-- is an integer an int? -/
def fitsI (z : Int) : Bool := decide (-9223372036854775808 ≤ z) && decide (z ≤ 9223372036854775807)
def valI (z : Int) : Int := if fitsI z then z else 0
theorem int_i {k : Nat} {x y : Value} {z : Int} {w : World} (h : IsInt w k x y z) :
    Calls Tryz.prog 104 #[.agg #[x, y]] w fun e w' => e = .returned (.tuple #[.int .i64 (valI z), .bool (fitsI z)]) ∧ Gr w w' := by
  obtain ⟨ao, la, ca, rfl, rfl, ha, _⟩ := h
  refine (int_c _ ao la ca _ w ha).mono ?_
  rintro e w1 ⟨he, g⟩
  refine ⟨?_, g⟩
  have e1 : intb (decide (z < 0)) (z.natAbs : Int) = fitsI z := by
    unfold intb fitsI
    by_cases hz : z < 0
    · rw [decide_eq_true hz, if_pos rfl, Bool.eq_iff_iff]; simp; omega
    · rw [decide_eq_false hz, if_neg (by decide), Bool.eq_iff_iff]; simp; omega
  rw [he, intv, valI, e1]
  by_cases hz : z < 0
  · rw [decide_eq_true hz, if_pos (rfl : true = true), show -(z.natAbs : Int) = z by omega]
  · rw [decide_eq_false hz, if_neg (Bool.false_ne_true : ¬ false = true), show (z.natAbs : Int) = z by omega]
end Go.Proofs.YtloocadjbpgldaaGreatDoor
/- Printed by a program of the prover's: a rational as an int. -/
namespace Go.Proofs.YtloocadjbpgldaaGreatDoor
open Go.RowKit

set_option maxRecDepth 100000 in
set_option maxHeartbeats 1000000 in
theorem rint_t {k : Nat} {u0 u1 u2 u3 : Value} {a : Rat} {w : World} (ha : IsRat w k u0 u1 u2 u3 a) (_hk : k ≤ 1000000) (wa : a.den = 1) :
    Calls Tryz.prog 55 #[(.agg #[u0, u1, u2, u3])] w fun e w' => e = .returned (.tuple #[.int .i64 (valI a.num), .bool (fitsI a.num)]) ∧ Gr w w' := by
 go_enter Tryz.func55, Tryz.ntmps55
 have hB := Gr.refl w
 refine wp_seq_k (fun K1 k1 => ?_)
 refine rg [0, 1, 2] ?_
 refine se ?_
 refine eb 31 #[u0, u1, u2, u3] 1 hB fun b2 w2 g2 L2 o2 q2 hB => ?_
 simp only [p3, p4]
 refine sv 2 (.int .i64 0) ?_
 simp only [p3, p4]
 refine sv 3 (.bool false) ?_
 simp only [p3, p4]
 refine sq_nil ?_
 refine k1 _ _ ?_
 try clear k1 K1
 refine wp_seq_k (fun K3 k3 => ?_)
 refine wp_seq_k (fun K4 k4 => ?_)
 refine rg [0, 1, 2] ?_
 refine sw 4 (.agg #[u0, u1, u2, u3]) rfl (rl 31 0 [u0, u1, u2, u3] L2) ?_
 simp only [p3, p4]
 refine se ?_
 replace ha := ha.kp g2.kp
 refine ec 5 (whole_t ha (by omega) wa) ?_
 rintro e5 w5 ⟨rfl, g5⟩
 refine ⟨_, rfl, ?_⟩
 replace hB := hB.trans g5
 simp only [p3, p4]
 refine sv 6 (.bool false) ?_
 simp only [p3, p4]
 refine sq_nil ?_
 refine k4 _ _ ?_
 try clear k4 K4
 refine wp_cond_false rfl ?_
 refine wp_skip ?_
 refine k3 _ _ ?_
 try clear k3 K3
 refine wp_seq_k (fun K6 k6 => ?_)
 refine rg [0, 1, 2, 3, 4, 5, 6] ?_
 refine sv 7 (.pointer (some ⟨b2, 0, none⟩)) ?_
 simp only [p3, p4]
 replace L2 := L2.gr g5
 refine sw 8 (.agg #[u0, u1]) rfl (rl 27 0 [u0, u1] L2) ?_
 simp only [p3, p4]
 refine se ?_
 replace ha := ha.kp g5.kp
 refine ec 9 (int_i ha.num) ?_
 rintro e7 w7 ⟨rfl, g7⟩
 refine ⟨_, rfl, ?_⟩
 replace hB := hB.trans g7
 simp only [p3, p4]
 refine sv 10 (.int .i64 (valI (a.num))) ?_
 simp only [p3, p4]
 refine sv 11 (.bool (fitsI (a.num))) ?_
 simp only [p3, p4]
 refine sv 2 (.int .i64 (valI (a.num))) ?_
 simp only [p3, p4]
 refine sv 3 (.bool (fitsI (a.num))) ?_
 simp only [p3, p4]
 refine sq_nil ?_
 refine k6 _ _ ?_
 try clear k6 K6
 refine wp_ret ?_
 refine bodyPost_ret (v := (.tuple #[(.int .i64 (valI (a.num))), (.bool (fitsI (a.num)))])) (ret_tmp2 rfl rfl rfl) rfl ⟨?_, hB⟩
 exact rfl

set_option maxRecDepth 100000 in
set_option maxHeartbeats 1000000 in
theorem rint_f {k : Nat} {u0 u1 u2 u3 : Value} {a : Rat} {w : World} (ha : IsRat w k u0 u1 u2 u3 a) (_hk : k ≤ 1000000) (wa : a.den ≠ 1) :
    Calls Tryz.prog 55 #[(.agg #[u0, u1, u2, u3])] w fun e w' => e = .returned (.tuple #[.int .i64 0, .bool false]) ∧ Gr w w' := by
 go_enter Tryz.func55, Tryz.ntmps55
 have hB := Gr.refl w
 refine wp_seq_k (fun K1 k1 => ?_)
 refine rg [0, 1, 2] ?_
 refine se ?_
 refine eb 31 #[u0, u1, u2, u3] 1 hB fun b2 w2 g2 L2 o2 q2 hB => ?_
 simp only [p3, p4]
 refine sv 2 (.int .i64 0) ?_
 simp only [p3, p4]
 refine sv 3 (.bool false) ?_
 simp only [p3, p4]
 refine sq_nil ?_
 refine k1 _ _ ?_
 try clear k1 K1
 refine wp_seq_k (fun K3 k3 => ?_)
 refine wp_seq_k (fun K4 k4 => ?_)
 refine rg [0, 1, 2] ?_
 refine sw 4 (.agg #[u0, u1, u2, u3]) rfl (rl 31 0 [u0, u1, u2, u3] L2) ?_
 simp only [p3, p4]
 refine se ?_
 replace ha := ha.kp g2.kp
 refine ec 5 (whole_f ha (by omega) wa) ?_
 rintro e5 w5 ⟨rfl, g5⟩
 refine ⟨_, rfl, ?_⟩
 replace hB := hB.trans g5
 simp only [p3, p4]
 refine sv 6 (.bool true) ?_
 simp only [p3, p4]
 refine sq_nil ?_
 refine k4 _ _ ?_
 try clear k4 K4
 refine wp_cond_true rfl ?_
 refine wp_seq_k (fun K6 k6 => ?_)
 refine rg [0, 1] ?_
 refine sv 2 (.int .i64 0) ?_
 simp only [p3, p4]
 refine sv 3 (.bool false) ?_
 simp only [p3, p4]
 refine sq_nil ?_
 refine k6 _ _ ?_
 try clear k6 K6
 refine wp_ret ?_
 simp only [Exit.then]
 refine bodyPost_ret (v := (.tuple #[(.int .i64 0), (.bool false)])) (ret_tmp2 rfl rfl rfl) rfl ⟨?_, hB⟩
 exact rfl

/-- the int that a rational is -/
def fitsQ (a : Rat) : Bool := decide (a.den = 1) && fitsI a.num
def valQ (a : Rat) : Int := if fitsQ a then a.num else 0
theorem rint_r {k : Nat} {u0 u1 u2 u3 : Value} {a : Rat} {w : World} (ha : IsRat w k u0 u1 u2 u3 a) (hk : k ≤ 1000000) :
    Calls Tryz.prog 55 #[(.agg #[u0, u1, u2, u3])] w fun e w' => e = .returned (.tuple #[.int .i64 (valQ a), .bool (fitsQ a)]) ∧ Gr w w' := by
  by_cases wa : a.den = 1
  · have := rint_t ha hk wa
    have e : fitsQ a = fitsI a.num := by unfold fitsQ; rw [decide_eq_true wa, Bool.true_and]
    rw [valQ, e]; exact this
  · have e : fitsQ a = false := by unfold fitsQ; rw [decide_eq_false wa, Bool.false_and]
    rw [valQ, e]; exact rint_f ha hk wa

end Go.Proofs.YtloocadjbpgldaaGreatDoor
/- Printed by a program of the prover's: RationalInts. -/
namespace Go.Proofs.YtloocadjbpgldaaGreatDoor
open Go.RowKit


set_option maxRecDepth 100000 in
set_option maxHeartbeats 1000000 in
theorem r2_fromz (z : Int) (_h0 : -9223372036854775808 ≤ z) (_h1 : z ≤ 9223372036854775807) (w : World) :
    Calls Tryz.prog 56 #[(.int .i64 (z))] w fun e w' => e = .returned (.string ⟨(Lib.itoa z).toArray⟩) ∧ Gr w w' := by
 go_enter Tryz.func56, Tryz.ntmps56
 have hB := Gr.refl w
 refine wp_seq_k (fun K1 k1 => ?_)
 refine rg [0] ?_
 refine sv 2 (.string ⟨([] : List UInt8).toArray⟩) ?_
 simp only [p3, p4]
 refine sq_nil ?_
 refine k1 _ _ ?_
 try clear k1 K1
 refine wp_seq_k (fun K2 k2 => ?_)
 refine rg [0, 1, 2] ?_
 refine sv 3 (.int .i64 (z)) ?_
 simp only [p3, p4]
 refine se ?_
 refine ec 4 (r1_from (z) (by omega) (by omega) _) ?_
 rintro e3 w3 ⟨rfl, g3⟩
 refine ⟨_, rfl, ?_⟩
 replace hB := hB.trans g3
 simp only [p3, p4]
 refine sv 2 (.string ⟨(Lib.itoa ((z)) : List UInt8).toArray⟩) ?_
 simp only [p3, p4]
 refine sq_nil ?_
 refine k2 _ _ ?_
 try clear k2 K2
 refine wp_ret ?_
 refine bodyPost_ret (v := (.string ⟨(Lib.itoa ((z)) : List UInt8).toArray⟩)) (ret_tmp rfl rfl) rfl ⟨?_, hB⟩
 exact rfl

theorem valQ_lo (a : Rat) : -9223372036854775808 ≤ valQ a := by
  unfold valQ fitsQ fitsI
  split
  · next h => simp at h; omega
  · omega
theorem valQ_hi (a : Rat) : valQ a ≤ 9223372036854775807 := by
  unfold valQ fitsQ fitsI
  split
  · next h => simp at h; omega
  · omega
theorem rint_z {k : Nat} {u0 u1 u2 u3 : Value} {nn : Int} {w : World} (ha : IsRat w k u0 u1 u2 u3 ((nn : Int) : Rat)) (hk : k ≤ 1000000) (hn : -9223372036854775808 ≤ nn ∧ nn ≤ 9223372036854775807) :
    Calls Tryz.prog 55 #[.agg #[u0, u1, u2, u3]] w fun e w' => e = .returned (.tuple #[.int .i64 nn, .bool true]) ∧ Gr w w' := by
  have h := rint_r ha hk
  have e : fitsQ ((nn : Int) : Rat) = true := by
    unfold fitsQ fitsI
    rw [Rat.num_intCast, decide_eq_true (show ((nn : Int) : Rat).den = 1 from rfl), decide_eq_true hn.1, decide_eq_true hn.2]; rfl
  rw [valQ, e, if_pos rfl, Rat.num_intCast] at h
  exact h
theorem fits_no {a : Rat} (h : fitsQ a = false) : (valQ a == (0 : Int)) = true := by unfold valQ; rw [h]; rfl
theorem fits_yes {a : Rat} (h : fitsQ a = true) : a.den = 1 ∧ -9223372036854775808 ≤ a.num ∧ a.num ≤ 9223372036854775807 ∧ valQ a = a.num := by
  have h2 := h
  simp only [fitsQ, fitsI, Bool.and_eq_true, decide_eq_true_eq] at h2
  exact ⟨h2.1, h2.2.1, h2.2.2, by unfold valQ; rw [h]; rfl⟩
theorem den_one {a : Rat} (h : a.den = 1) : ((Lib.itoa (a.den : Int)) != ([49] : List UInt8)) = false := by
  rw [h, show ((1 : Nat) : Int) = 1 from rfl, itoa_one]; rfl
theorem den_none {a : Rat} (h : ((Lib.itoa (a.den : Int)) != ([49] : List UInt8)) = false) : a.den = 1 := by
  rw [bne_eq_false_iff_eq, ← itoa_one] at h
  have := itoa_inj h; omega
theorem no_fit {a : Rat} (h1 : ((Lib.itoa (a.den : Int)) != ([49] : List UInt8)) = false) (h2 : decide (sgn (a.num - (-9223372036854775808)) < (0 : Int)) = false) (h3 : decide ((0 : Int) < sgn (a.num - 9223372036854775807)) = false) : fitsQ a = true := by
  rw [decide_eq_false_iff_not, sgn_lt0] at h2
  rw [decide_eq_false_iff_not, sgn_pos0] at h3
  simp only [fitsQ, fitsI, Bool.and_eq_true, decide_eq_true_eq]
  exact ⟨den_none h1, by omega, by omega⟩

theorem lawIn0  : (ratL (0) == ([48] : List UInt8)) = true := ratL_litw (by kernel_rfl) (itoa_litp 0 (by kernel_rfl) (by decide))
set_option maxRecDepth 100000 in
set_option maxHeartbeats 4000000 in
theorem ints_y (nn : Int) (hn : -9223372036854775808 ≤ nn ∧ nn ≤ 9223372036854775807) (a : Rat) (ha : Sz 160 a.num ∧ Sz 160 (a.den : Int)) (la : okT (ratL (a)) = true) (hf : fitsQ a = true) (w : World) (ht : Tab w) (hm : Mx w) :
    Calls Tryz.prog 10 #[(.int .i64 (nn)), (.string ⟨(ratL (a) : List UInt8).toArray⟩)] w fun e w' => e = .returned (.bool true) ∧ Gr w w' := by
 have lok : (okT (ratL (a))) = true := la
 have hd : ((Lib.itoa ((a.den : Int))) != ([49] : List UInt8)) = false := den_one (fits_yes hf).1
 have hlo : decide (sgn (a.num - (-9223372036854775808)) < (0 : Int)) = false := by rw [decide_eq_false_iff_not, sgn_lt0]; have := fits_yes hf; omega
 have hhi : decide ((0 : Int) < sgn (a.num - (9223372036854775807))) = false := by rw [decide_eq_false_iff_not, sgn_pos0]; have := fits_yes hf; omega
 go_enter Tryz.func10, Tryz.ntmps10
 have hB := Gr.refl w
 refine wp_seq_k (fun K1 k1 => ?_)
 refine rg [0] ?_
 refine sv 4 (.bool false) ?_
 simp only [p3, p4]
 refine sq_nil ?_
 refine k1 _ _ ?_
 try clear k1 K1
 refine wp_seq_k (fun K2 k2 => ?_)
 refine wp_seq_k (fun K3 k3 => ?_)
 refine rg [0, 1, 2, 3, 4, 5, 6, 7] ?_
 refine se ?_
 refine ec 14 (known2 _ (ht.gr hB)) ?_
 rintro e4 w4 ⟨rfl, g4⟩
 refine ⟨_, rfl, ?_⟩
 replace hB := hB.trans g4
 simp only [p3, p4]
 refine sv 15 (.bool false) ?_
 simp only [p3, p4]
 refine sv 16 (.bool false) ?_
 simp only [p3, p4]
 refine sv 17 (.string ⟨(ratL (a) : List UInt8).toArray⟩) ?_
 simp only [p3, p4]
 refine se ?_
 refine eff_bs 9 1 #[(.string ⟨(ratL (a) : List UInt8).toArray⟩)] (some 18) rfl (fun _ => by kernel_rfl) (fun b5 w5 g5 L5 q5 => ?_)
 replace hB := hB.trans g5
 simp only [putl, p3, p4]
 refine se ?_
 refine ec 19 (right1 (ratL (a)) L5) ?_
 rintro e6 w6 ⟨rfl, g6⟩
 refine ⟨_, rfl, ?_⟩
 replace hB := hB.trans g6
 simp only [p3, p4]
 refine sw 20 (.bool false) rfl (RunV.bool (x := !((okT (ratL (a))))) (rvk (by kernel_rfl)) (show (!((okT (ratL (a))))) = false by rw [lok]; rfl)) ?_
 simp only [p3, p4]
 refine sv 21 (.bool false) ?_
 simp only [p3, p4]
 refine sq_nil ?_
 refine k3 _ _ ?_
 try clear k3 K3
 refine wp_cond_false rfl ?_
 refine wp_skip ?_
 refine k2 _ _ ?_
 try clear k2 K2
 refine wp_seq_k (fun K7 k7 => ?_)
 refine rg [0] ?_
 refine se ?_
 refine ea 31 #[(.bool false), (.slice none 0 0), (.bool false), (.slice none 0 0)] 5 hB fun b8 w8 g8 L8 o8 q8 hB => ?_
 simp only [p3, p4]
 refine sq_nil ?_
 refine k7 _ _ ?_
 try clear k7 K7
 refine wp_seq_k (fun K9 k9 => ?_)
 refine rg [0, 1, 2, 3, 4, 5, 6, 7] ?_
 refine sv 23 (.int .i64 (nn)) ?_
 simp only [p3, p4]
 refine se ?_
 refine ec 24 (from_r (nn) (by omega) (by omega) _) ?_
 rintro e10 w10 ⟨⟨p10, q10, r10, s10, rfl, h10⟩, g10⟩
 refine ⟨_, rfl, ?_⟩
 replace hB := hB.trans g10
 simp only [p3, p4]
 refine sv 25 (.string ⟨(ratL (a) : List UInt8).toArray⟩) ?_
 simp only [p3, p4]
 refine se ?_
 refine ec 26 (lread_q a ha la _ (hm.gr hB)) ?_
 rintro e11 w11 ⟨⟨p11, q11, r11, s11, rfl, h11⟩, g11⟩
 refine ⟨_, rfl, ?_⟩
 replace hB := hB.trans g11
 simp only [p3, p4]
 refine se ?_
 refine ea 31 #[(.bool false), (.slice none 0 0), (.bool false), (.slice none 0 0)] 6 hB fun b12 w12 g12 L12 o12 q12 hB => ?_
 replace L8 := L8.gr (g10.trans g11)
 have ne8_12 := L8.ne o12
 simp only [p3, p4]
 refine se ?_
 refine ea 31 #[(.bool false), (.slice none 0 0), (.bool false), (.slice none 0 0)] 7 hB fun b13 w13 g13 L13 o13 q13 hB => ?_
 replace L8 := L8.gr g12
 have ne8_13 := L8.ne o13
 have ne12_13 := L12.ne o13
 simp only [p3, p4]
 refine se ?_
 replace L12 := L12.gr g13
 refine es 31 0 (.agg #[p10, q10, r10, s10]) [p10, q10, r10, s10] #[p10, q10, r10, s10] L12 hB q12 ⟨h10.one0, h10.one1, h10.one2, h10.one3, trivial⟩ fun w14 st14 kp14 L12 hB => ?_
 refine se ?_
 replace L13 := st14.lc L13 (Ne.symm ne12_13)
 refine es 31 0 (.agg #[p11, q11, r11, s11]) [p11, q11, r11, s11] #[p11, q11, r11, s11] L13 hB q13 ⟨h11.one0, h11.one1, h11.one2, h11.one3, trivial⟩ fun w15 st15 kp15 L13 hB => ?_
 refine sq_nil ?_
 refine k9 _ _ ?_
 try clear k9 K9
 refine wp_seq_k (fun K16 k16 => ?_)
 refine rg [0, 1, 2, 3, 4, 5, 6] ?_
 replace L12 := st15.lc L12 ne12_13
 refine sw 28 (.agg #[p10, q10, r10, s10]) rfl (rl 31 0 [p10, q10, r10, s10] L12) ?_
 simp only [p3, p4]
 refine se ?_
 have kq18 := g11.kp.trans (g12.kp.trans (g13.kp.trans (kp14.trans kp15)))
 replace h10 := h10.kp kq18
 refine ec 29 (rint_z h10 (by omega) hn) ?_
 rintro e17 w17 ⟨rfl, g17⟩
 refine ⟨_, rfl, ?_⟩
 replace hB := hB.trans g17
 simp only [p3, p4]
 refine sv 27 (.tuple #[(.int .i64 (nn)), (.bool true)]) ?_
 simp only [p3, p4]
 refine sv 30 (.int .i64 (nn)) ?_
 simp only [p3, p4]
 refine sv 31 (.bool true) ?_
 simp only [p3, p4]
 refine sv 8 (.int .i64 (nn)) ?_
 simp only [p3, p4]
 refine sv 9 (.bool true) ?_
 simp only [p3, p4]
 refine sq_nil ?_
 refine k16 _ _ ?_
 try clear k16 K16
 refine wp_seq_k (fun K19 k19 => ?_)
 refine rg [0, 1, 2, 3, 4, 5, 6] ?_
 replace L13 := L13.gr g17
 refine sw 33 (.agg #[p11, q11, r11, s11]) rfl (rl 31 0 [p11, q11, r11, s11] L13) ?_
 simp only [p3, p4]
 refine se ?_
 have kq21 := g12.kp.trans (g13.kp.trans (kp14.trans (kp15.trans g17.kp)))
 replace h11 := h11.kp kq21
 refine ec 34 (rint_r h11 (by omega)) ?_
 rintro e20 w20 ⟨rfl, g20⟩
 refine ⟨_, rfl, ?_⟩
 replace hB := hB.trans g20
 simp only [p3, p4]
 refine sv 32 (.tuple #[(.int .i64 (valQ a)), (.bool (fitsQ a))]) ?_
 simp only [p3, p4]
 refine sv 35 (.int .i64 (valQ a)) ?_
 simp only [p3, p4]
 refine sw 36 (.bool true) rfl (RunV.bool (x := fitsQ a) (rvk (by kernel_rfl)) hf) ?_
 simp only [p3, p4]
 refine sv 10 (.int .i64 (valQ a)) ?_
 simp only [p3, p4]
 refine sv 11 (.bool true) ?_
 simp only [p3, p4]
 refine sq_nil ?_
 refine k19 _ _ ?_
 try clear k19 K19
 refine wp_seq_k (fun K22 k22 => ?_)
 refine wp_seq_k (fun K23 k23 => ?_)
 have gd49 := Gr.drew w20
 replace hB := hB.trans gd49
 replace L8 := (st15.lc (st14.lc (L8.gr g13) ne8_12) ne8_13).gr (g17.trans (g20.trans gd49))
 replace L12 := L12.gr (g17.trans (g20.trans gd49))
 replace L13 := L13.gr (g20.trans gd49)
 refine wp_region_ord (fun w' => Lc w' b8 #[(.bool false), (.slice none 0 0), (.bool false), (.slice none 0 0)] 31 ∧ Lc w' b12 #[p10, q10, r10, s10] 31 ∧ Lc w' b13 #[p11, q11, r11, s11] 31) [(true, 0), (true, 1), (false, 2), (false, 3), (true, 4), (true, 5), (true, 6), (true, 7), (true, 8), (true, 9), (true, 10), (true, 11), (true, 12), (true, 13), (true, 14), (true, 15), (false, 16), (true, 17), (true, 18), (true, 19), (true, 20), (false, 21), (true, 22), (true, 23), (true, 24), (true, 25), (false, 26), (false, 27), (true, 28), (true, 29), (true, 30), (true, 31), (true, 33), (false, 32), (false, 34), (true, 35), (true, 36)] (by kernel_rfl) (by kernel_rfl) (by kernel_rfl) (by decide) (fun _ _ _ _ _ h => h) ⟨L8, L12, L13⟩ ?_
 refine ow 37 (.agg #[p10, q10, r10, s10]) rfl (fun w' hS => (rl 31 0 [p10, q10, r10, s10] hS.2.1)) ?_
 simp only [p3, p4]
 refine ov 38 (.int .i64 (nn)) ?_
 simp only [p3, p4]
 refine oe ?_
 refine ec 39 (r2_fromz (nn) (by omega) (by omega) _) ?_
 rintro e51 w51 ⟨rfl, g51⟩
 refine ⟨_, rfl, ?_⟩
 replace hB := hB.trans g51
 replace L8 := L8.gr g51
 replace L12 := L12.gr g51
 replace L13 := L13.gr g51
 refine ⟨⟨L8, L12, L13⟩, ?_⟩
 simp only [p3, p4]
 refine oe ?_
 have kq54 := g17.kp.trans (g20.kp.trans (gd49.kp.trans g51.kp))
 replace h10 := h10.kp kq54
 refine ec 40 (is_q (Lib.itoa ((nn))) h10 (by omega) (ht.gr hB)) ?_
 rintro e53 w53 ⟨rfl, g53⟩
 refine ⟨_, rfl, ?_⟩
 replace hB := hB.trans g53
 replace L8 := L8.gr g53
 replace L12 := L12.gr g53
 replace L13 := L13.gr g53
 refine ⟨⟨L8, L12, L13⟩, ?_⟩
 simp only [p3, p4]
 have hb55 : ((ratL (((nn : Int) : Rat))) == (Lib.itoa ((nn)))) = true := (text_lit (ratL_iz nn))
 refine ow 41 (.bool false) rfl (fun w' hS => (RunV.bool (x := !((ratL (((nn : Int) : Rat))) == (Lib.itoa ((nn))))) (rvk (by kernel_rfl)) (show (!((ratL (((nn : Int) : Rat))) == (Lib.itoa ((nn))))) = false by rw [hb55]; rfl))) ?_
 simp only [p3, p4]
 refine ov 42 (.bool false) ?_
 simp only [p3, p4]
 refine ov 43 (.int .i64 (nn)) ?_
 simp only [p3, p4]
 refine ov 44 (.int .i64 (nn)) ?_
 simp only [p3, p4]
 have hb56 : ((nn != nn)) = false := (by simp)
 refine ow 45 (.bool false) rfl (fun w' hS => (RunV.bool (x := (nn != nn)) (rvk (by kernel_rfl)) hb56)) ?_
 simp only [p3, p4]
 refine ov 46 (.bool false) ?_
 simp only [p3, p4]
 refine ov 47 (.bool false) ?_
 simp only [p3, p4]
 refine ov 48 (.bool true) ?_
 simp only [p3, p4]
 refine ov 49 (.bool false) ?_
 simp only [p3, p4]
 refine ov 50 (.bool false) ?_
 simp only [p3, p4]
 refine ov 51 (.bool false) ?_
 simp only [p3, p4]
 refine ow 52 (.agg #[(.bool false), (.slice none 0 0), (.bool false), (.slice none 0 0)]) rfl (fun w' hS => (rl 31 0 [(.bool false), (.slice none 0 0), (.bool false), (.slice none 0 0)] hS.1)) ?_
 simp only [p3, p4]
 refine oe ?_
 refine ec 53 (is_q ([48]) (IsRat.zero _ (k := 64) (Nat.le_refl _)) (by omega) (ht.gr hB)) ?_
 rintro e58 w58 ⟨rfl, g58⟩
 refine ⟨_, rfl, ?_⟩
 replace hB := hB.trans g58
 replace L8 := L8.gr g58
 replace L12 := L12.gr g58
 replace L13 := L13.gr g58
 refine ⟨⟨L8, L12, L13⟩, ?_⟩
 simp only [p3, p4]
 have hb59 : ((ratL (0)) == (([48] : List UInt8))) = true := (lawIn0  )
 refine ow 54 (.bool false) rfl (fun w' hS => (RunV.bool (x := !((ratL (0)) == (([48] : List UInt8)))) (rvk (by kernel_rfl)) (show (!((ratL (0)) == (([48] : List UInt8)))) = false by rw [hb59]; rfl))) ?_
 simp only [p3, p4]
 refine ov 55 (.bool false) ?_
 simp only [p3, p4]
 refine ov 56 (.bool false) ?_
 simp only [p3, p4]
 refine ow 57 (.agg #[(.bool false), (.slice none 0 0), (.bool false), (.slice none 0 0)]) rfl (fun w' hS => (rl 31 0 [(.bool false), (.slice none 0 0), (.bool false), (.slice none 0 0)] hS.1)) ?_
 simp only [p3, p4]
 refine oe ?_
 refine ec 58 (sign_r (IsRat.zero _ (k := 64) (Nat.le_refl _))) ?_
 rintro e61 w61 ⟨rfl, g61⟩
 refine ⟨_, rfl, ?_⟩
 replace hB := hB.trans g61
 replace L8 := L8.gr g61
 replace L12 := L12.gr g61
 replace L13 := L13.gr g61
 refine ⟨⟨L8, L12, L13⟩, ?_⟩
 simp only [p3, p4]
 have hb62 : ((sgn ((0 : Rat)).num != (0 : Int))) = false := (by decide +kernel)
 refine ow 59 (.bool false) rfl (fun w' hS => (RunV.bool (x := (sgn ((0 : Rat)).num != (0 : Int))) (rvk (by kernel_rfl)) hb62)) ?_
 simp only [p3, p4]
 refine ov 60 (.bool false) ?_
 simp only [p3, p4]
 refine ov 61 (.bool false) ?_
 simp only [p3, p4]
 refine ow 62 (.agg #[(.bool false), (.slice none 0 0), (.bool false), (.slice none 0 0)]) rfl (fun w' hS => (rl 31 0 [(.bool false), (.slice none 0 0), (.bool false), (.slice none 0 0)] hS.1)) ?_
 simp only [p3, p4]
 refine oe ?_
 refine ec 63 (den_i (IsRat.zero _ (k := 64) (Nat.le_refl _))) ?_
 rintro e64 w64 ⟨⟨x64, y64, rfl, h64⟩, g64⟩
 refine ⟨_, rfl, ?_⟩
 replace hB := hB.trans g64
 replace L8 := L8.gr g64
 replace L12 := L12.gr g64
 replace L13 := L13.gr g64
 refine ⟨⟨L8, L12, L13⟩, ?_⟩
 simp only [p3, p4]
 refine oe ?_
 refine ec 64 (text_i h64 (by omega) (ht.gr hB)) ?_
 rintro e66 w66 ⟨rfl, g66⟩
 refine ⟨_, rfl, ?_⟩
 replace hB := hB.trans g66
 replace L8 := L8.gr g66
 replace L12 := L12.gr g66
 replace L13 := L13.gr g66
 refine ⟨⟨L8, L12, L13⟩, ?_⟩
 simp only [p3, p4]
 have hb67 : (((Lib.itoa (1)) != ([49] : List UInt8))) = false := (by rw [itoa_one]; rfl)
 refine ow 65 (.bool false) rfl (fun w' hS => (RunV.bool (x := ((Lib.itoa (1)) != ([49] : List UInt8))) (rv_sne 9 9 _ _ (Lib.itoa (1)) ([49]) rfl rfl rfl) hb67)) ?_
 simp only [p3, p4]
 refine ov 66 (.bool false) ?_
 simp only [p3, p4]
 refine ov 67 (.bool false) ?_
 simp only [p3, p4]
 refine ow 68 (.agg #[p11, q11, r11, s11]) rfl (fun w' hS => (rl 31 0 [p11, q11, r11, s11] hS.2.2)) ?_
 simp only [p3, p4]
 refine ov 70 (.string ⟨(ratL (a) : List UInt8).toArray⟩) ?_
 simp only [p3, p4]
 refine oe ?_
 have kq70 := g20.kp.trans (gd49.kp.trans (g51.kp.trans (g53.kp.trans (g58.kp.trans (g61.kp.trans (g64.kp.trans g66.kp))))))
 replace h11 := h11.kp kq70
 refine ec 69 (sign_r h11) ?_
 rintro e69 w69 ⟨rfl, g69⟩
 refine ⟨_, rfl, ?_⟩
 replace hB := hB.trans g69
 replace L8 := L8.gr g69
 replace L12 := L12.gr g69
 replace L13 := L13.gr g69
 refine ⟨⟨L8, L12, L13⟩, ?_⟩
 simp only [p3, p4]
 refine oe ?_
 refine ec 71 (r2_sign (a) ha (by omega) _) ?_
 rintro e72 w72 ⟨rfl, g72⟩
 refine ⟨_, rfl, ?_⟩
 replace hB := hB.trans g72
 replace L8 := L8.gr g72
 replace L12 := L12.gr g72
 replace L13 := L13.gr g72
 refine ⟨⟨L8, L12, L13⟩, ?_⟩
 simp only [p3, p4]
 have hb73 : ((sgn (a).num != sgn (a).num)) = false := (by simp)
 refine ow 72 (.bool false) rfl (fun w' hS => (RunV.bool (x := (sgn (a).num != sgn (a).num)) (rvk (by kernel_rfl)) hb73)) ?_
 simp only [p3, p4]
 refine ov 73 (.bool false) ?_
 simp only [p3, p4]
 refine ord_nil ?_
 refine k23 _ _ ?_
 try clear k23 K23
 refine wp_cond_false rfl ?_
 refine wp_skip ?_
 refine k22 _ _ ?_
 try clear k22 K22
 refine wp_seq_k (fun K74 k74 => ?_)
 refine rg [0, 1, 2, 3, 4, 5, 6] ?_
 refine sv 75 (.string ⟨(ratL (a) : List UInt8).toArray⟩) ?_
 simp only [p3, p4]
 refine se ?_
 refine ec 76 (r2_parts_q a ha.1 ha.2 (by omega) _) ?_
 rintro e75 w75 ⟨rfl, g75⟩
 refine ⟨_, rfl, ?_⟩
 replace hB := hB.trans g75
 simp only [p3, p4]
 refine sv 74 (.tuple #[(.string ⟨(Lib.itoa (a.num) : List UInt8).toArray⟩), (.string ⟨(Lib.itoa ((a.den : Int)) : List UInt8).toArray⟩)]) ?_
 simp only [p3, p4]
 refine sv 77 (.string ⟨(Lib.itoa (a.num) : List UInt8).toArray⟩) ?_
 simp only [p3, p4]
 refine sv 78 (.string ⟨(Lib.itoa ((a.den : Int)) : List UInt8).toArray⟩) ?_
 simp only [p3, p4]
 refine sv 12 (.string ⟨(Lib.itoa (a.num) : List UInt8).toArray⟩) ?_
 simp only [p3, p4]
 refine sv 13 (.string ⟨(Lib.itoa ((a.den : Int)) : List UInt8).toArray⟩) ?_
 simp only [p3, p4]
 refine sq_nil ?_
 refine k74 _ _ ?_
 try clear k74 K74
 refine wp_seq_k (fun K76 k76 => ?_)
 refine wp_seq_k (fun K77 k77 => ?_)
 refine rg [0, 1, 2, 3, 4, 5, 6, 7, 8, 9, 10, 11, 12, 13] ?_
 refine sv 79 (.string ⟨(Lib.itoa ((a.den : Int)) : List UInt8).toArray⟩) ?_
 simp only [p3, p4]
 refine sw 80 (.bool false) rfl (RunV.bool (x := ((Lib.itoa ((a.den : Int))) != ([49] : List UInt8))) (rv_sne 9 9 _ _ (Lib.itoa ((a.den : Int))) ([49]) rfl rfl rfl) hd) ?_
 simp only [p3, p4]
 refine sv 81 (.bool false) ?_
 simp only [p3, p4]
 refine sv 82 (.string ⟨(Lib.itoa (a.num) : List UInt8).toArray⟩) ?_
 simp only [p3, p4]
 refine se ?_
 refine ec 83 (r1_from (-9223372036854775808) (by omega) (by omega) _) ?_
 rintro e78 w78 ⟨rfl, g78⟩
 refine ⟨_, rfl, ?_⟩
 replace hB := hB.trans g78
 simp only [p3, p4]
 refine se ?_
 refine ec 84 (r1_compare (a.num) ((-9223372036854775808)) ha.1 (Sz.i64 (by omega) (by omega)) (by omega) _) ?_
 rintro e79 w79 ⟨rfl, g79⟩
 refine ⟨_, rfl, ?_⟩
 replace hB := hB.trans g79
 simp only [p3, p4]
 refine sw 85 (.bool false) rfl (RunV.bool (x := decide (sgn (a.num - (-9223372036854775808)) < (0 : Int))) (rvk (by kernel_rfl)) hlo) ?_
 simp only [p3, p4]
 refine sv 86 (.bool false) ?_
 simp only [p3, p4]
 refine sv 87 (.bool false) ?_
 simp only [p3, p4]
 refine sv 88 (.string ⟨(Lib.itoa (a.num) : List UInt8).toArray⟩) ?_
 simp only [p3, p4]
 refine se ?_
 refine ec 89 (r1_from (9223372036854775807) (by omega) (by omega) _) ?_
 rintro e80 w80 ⟨rfl, g80⟩
 refine ⟨_, rfl, ?_⟩
 replace hB := hB.trans g80
 simp only [p3, p4]
 refine se ?_
 refine ec 90 (r1_compare (a.num) ((9223372036854775807)) ha.1 (Sz.i64 (by omega) (by omega)) (by omega) _) ?_
 rintro e81 w81 ⟨rfl, g81⟩
 refine ⟨_, rfl, ?_⟩
 replace hB := hB.trans g81
 simp only [p3, p4]
 refine sw 91 (.bool false) rfl (RunV.bool (x := decide ((0 : Int) < sgn (a.num - (9223372036854775807)))) (rvk (by kernel_rfl)) hhi) ?_
 simp only [p3, p4]
 refine sv 92 (.bool false) ?_
 simp only [p3, p4]
 refine sq_nil ?_
 refine k77 _ _ ?_
 try clear k77 K77
 refine wp_cond_false rfl ?_
 refine wp_skip ?_
 refine k76 _ _ ?_
 try clear k76 K76
 refine wp_seq_k (fun K82 k82 => ?_)
 refine rg [0, 1, 2, 3, 4, 5, 6, 7] ?_
 refine sv 99 (.bool true) ?_
 simp only [p3, p4]
 refine sv 100 (.bool true) ?_
 simp only [p3, p4]
 refine sv 101 (.int .i64 (valQ a)) ?_
 simp only [p3, p4]
 refine se ?_
 refine ec 102 (r1_from (valQ a) (valQ_lo a) (valQ_hi a) _) ?_
 rintro e83 w83 ⟨rfl, g83⟩
 refine ⟨_, rfl, ?_⟩
 replace hB := hB.trans g83
 simp only [p3, p4]
 refine sv 103 (.string ⟨(Lib.itoa (a.num) : List UInt8).toArray⟩) ?_
 simp only [p3, p4]
 have hb84 : (((Lib.itoa ((valQ a))) == (Lib.itoa (a.num)))) = true := (text_lit (by rw [(fits_yes hf).2.2.2]))
 refine sw 104 (.bool true) rfl (RunV.bool (x := ((Lib.itoa ((valQ a))) == (Lib.itoa (a.num)))) (rv_seq 9 9 _ _ (Lib.itoa ((valQ a))) (Lib.itoa (a.num)) rfl rfl rfl) hb84) ?_
 simp only [p3, p4]
 refine sv 105 (.bool true) ?_
 simp only [p3, p4]
 refine sv 4 (.bool true) ?_
 simp only [p3, p4]
 refine sq_nil ?_
 refine k82 _ _ ?_
 try clear k82 K82
 refine wp_ret ?_
 refine bodyPost_ret (v := (.bool true)) (ret_tmp rfl rfl) rfl ⟨?_, hB⟩
 exact rfl

set_option maxRecDepth 100000 in
set_option maxHeartbeats 4000000 in
theorem ints_n (nn : Int) (hn : -9223372036854775808 ≤ nn ∧ nn ≤ 9223372036854775807) (a : Rat) (ha : Sz 160 a.num ∧ Sz 160 (a.den : Int)) (la : okT (ratL (a)) = true) (hf : fitsQ a = false) (w : World) (ht : Tab w) (hm : Mx w) :
    Calls Tryz.prog 10 #[(.int .i64 (nn)), (.string ⟨(ratL (a) : List UInt8).toArray⟩)] w fun e w' => e = .returned (.bool true) ∧ Gr w w' := by
 have lok : (okT (ratL (a))) = true := la
 go_enter Tryz.func10, Tryz.ntmps10
 have hB := Gr.refl w
 refine wp_seq_k (fun K1 k1 => ?_)
 refine rg [0] ?_
 refine sv 4 (.bool false) ?_
 simp only [p3, p4]
 refine sq_nil ?_
 refine k1 _ _ ?_
 try clear k1 K1
 refine wp_seq_k (fun K2 k2 => ?_)
 refine wp_seq_k (fun K3 k3 => ?_)
 refine rg [0, 1, 2, 3, 4, 5, 6, 7] ?_
 refine se ?_
 refine ec 14 (known2 _ (ht.gr hB)) ?_
 rintro e4 w4 ⟨rfl, g4⟩
 refine ⟨_, rfl, ?_⟩
 replace hB := hB.trans g4
 simp only [p3, p4]
 refine sv 15 (.bool false) ?_
 simp only [p3, p4]
 refine sv 16 (.bool false) ?_
 simp only [p3, p4]
 refine sv 17 (.string ⟨(ratL (a) : List UInt8).toArray⟩) ?_
 simp only [p3, p4]
 refine se ?_
 refine eff_bs 9 1 #[(.string ⟨(ratL (a) : List UInt8).toArray⟩)] (some 18) rfl (fun _ => by kernel_rfl) (fun b5 w5 g5 L5 q5 => ?_)
 replace hB := hB.trans g5
 simp only [putl, p3, p4]
 refine se ?_
 refine ec 19 (right1 (ratL (a)) L5) ?_
 rintro e6 w6 ⟨rfl, g6⟩
 refine ⟨_, rfl, ?_⟩
 replace hB := hB.trans g6
 simp only [p3, p4]
 refine sw 20 (.bool false) rfl (RunV.bool (x := !((okT (ratL (a))))) (rvk (by kernel_rfl)) (show (!((okT (ratL (a))))) = false by rw [lok]; rfl)) ?_
 simp only [p3, p4]
 refine sv 21 (.bool false) ?_
 simp only [p3, p4]
 refine sq_nil ?_
 refine k3 _ _ ?_
 try clear k3 K3
 refine wp_cond_false rfl ?_
 refine wp_skip ?_
 refine k2 _ _ ?_
 try clear k2 K2
 refine wp_seq_k (fun K7 k7 => ?_)
 refine rg [0] ?_
 refine se ?_
 refine ea 31 #[(.bool false), (.slice none 0 0), (.bool false), (.slice none 0 0)] 5 hB fun b8 w8 g8 L8 o8 q8 hB => ?_
 simp only [p3, p4]
 refine sq_nil ?_
 refine k7 _ _ ?_
 try clear k7 K7
 refine wp_seq_k (fun K9 k9 => ?_)
 refine rg [0, 1, 2, 3, 4, 5, 6, 7] ?_
 refine sv 23 (.int .i64 (nn)) ?_
 simp only [p3, p4]
 refine se ?_
 refine ec 24 (from_r (nn) (by omega) (by omega) _) ?_
 rintro e10 w10 ⟨⟨p10, q10, r10, s10, rfl, h10⟩, g10⟩
 refine ⟨_, rfl, ?_⟩
 replace hB := hB.trans g10
 simp only [p3, p4]
 refine sv 25 (.string ⟨(ratL (a) : List UInt8).toArray⟩) ?_
 simp only [p3, p4]
 refine se ?_
 refine ec 26 (lread_q a ha la _ (hm.gr hB)) ?_
 rintro e11 w11 ⟨⟨p11, q11, r11, s11, rfl, h11⟩, g11⟩
 refine ⟨_, rfl, ?_⟩
 replace hB := hB.trans g11
 simp only [p3, p4]
 refine se ?_
 refine ea 31 #[(.bool false), (.slice none 0 0), (.bool false), (.slice none 0 0)] 6 hB fun b12 w12 g12 L12 o12 q12 hB => ?_
 replace L8 := L8.gr (g10.trans g11)
 have ne8_12 := L8.ne o12
 simp only [p3, p4]
 refine se ?_
 refine ea 31 #[(.bool false), (.slice none 0 0), (.bool false), (.slice none 0 0)] 7 hB fun b13 w13 g13 L13 o13 q13 hB => ?_
 replace L8 := L8.gr g12
 have ne8_13 := L8.ne o13
 have ne12_13 := L12.ne o13
 simp only [p3, p4]
 refine se ?_
 replace L12 := L12.gr g13
 refine es 31 0 (.agg #[p10, q10, r10, s10]) [p10, q10, r10, s10] #[p10, q10, r10, s10] L12 hB q12 ⟨h10.one0, h10.one1, h10.one2, h10.one3, trivial⟩ fun w14 st14 kp14 L12 hB => ?_
 refine se ?_
 replace L13 := st14.lc L13 (Ne.symm ne12_13)
 refine es 31 0 (.agg #[p11, q11, r11, s11]) [p11, q11, r11, s11] #[p11, q11, r11, s11] L13 hB q13 ⟨h11.one0, h11.one1, h11.one2, h11.one3, trivial⟩ fun w15 st15 kp15 L13 hB => ?_
 refine sq_nil ?_
 refine k9 _ _ ?_
 try clear k9 K9
 refine wp_seq_k (fun K16 k16 => ?_)
 refine rg [0, 1, 2, 3, 4, 5, 6] ?_
 replace L12 := st15.lc L12 ne12_13
 refine sw 28 (.agg #[p10, q10, r10, s10]) rfl (rl 31 0 [p10, q10, r10, s10] L12) ?_
 simp only [p3, p4]
 refine se ?_
 have kq18 := g11.kp.trans (g12.kp.trans (g13.kp.trans (kp14.trans kp15)))
 replace h10 := h10.kp kq18
 refine ec 29 (rint_z h10 (by omega) hn) ?_
 rintro e17 w17 ⟨rfl, g17⟩
 refine ⟨_, rfl, ?_⟩
 replace hB := hB.trans g17
 simp only [p3, p4]
 refine sv 27 (.tuple #[(.int .i64 (nn)), (.bool true)]) ?_
 simp only [p3, p4]
 refine sv 30 (.int .i64 (nn)) ?_
 simp only [p3, p4]
 refine sv 31 (.bool true) ?_
 simp only [p3, p4]
 refine sv 8 (.int .i64 (nn)) ?_
 simp only [p3, p4]
 refine sv 9 (.bool true) ?_
 simp only [p3, p4]
 refine sq_nil ?_
 refine k16 _ _ ?_
 try clear k16 K16
 refine wp_seq_k (fun K19 k19 => ?_)
 refine rg [0, 1, 2, 3, 4, 5, 6] ?_
 replace L13 := L13.gr g17
 refine sw 33 (.agg #[p11, q11, r11, s11]) rfl (rl 31 0 [p11, q11, r11, s11] L13) ?_
 simp only [p3, p4]
 refine se ?_
 have kq21 := g12.kp.trans (g13.kp.trans (kp14.trans (kp15.trans g17.kp)))
 replace h11 := h11.kp kq21
 refine ec 34 (rint_r h11 (by omega)) ?_
 rintro e20 w20 ⟨rfl, g20⟩
 refine ⟨_, rfl, ?_⟩
 replace hB := hB.trans g20
 simp only [p3, p4]
 refine sv 32 (.tuple #[(.int .i64 (valQ a)), (.bool (fitsQ a))]) ?_
 simp only [p3, p4]
 refine sv 35 (.int .i64 (valQ a)) ?_
 simp only [p3, p4]
 refine sw 36 (.bool false) rfl (RunV.bool (x := fitsQ a) (rvk (by kernel_rfl)) hf) ?_
 simp only [p3, p4]
 refine sv 10 (.int .i64 (valQ a)) ?_
 simp only [p3, p4]
 refine sv 11 (.bool false) ?_
 simp only [p3, p4]
 refine sq_nil ?_
 refine k19 _ _ ?_
 try clear k19 K19
 refine wp_seq_k (fun K22 k22 => ?_)
 refine wp_seq_k (fun K23 k23 => ?_)
 have gd49 := Gr.drew w20
 replace hB := hB.trans gd49
 replace L8 := (st15.lc (st14.lc (L8.gr g13) ne8_12) ne8_13).gr (g17.trans (g20.trans gd49))
 replace L12 := L12.gr (g17.trans (g20.trans gd49))
 replace L13 := L13.gr (g20.trans gd49)
 refine wp_region_ord (fun w' => Lc w' b8 #[(.bool false), (.slice none 0 0), (.bool false), (.slice none 0 0)] 31 ∧ Lc w' b12 #[p10, q10, r10, s10] 31 ∧ Lc w' b13 #[p11, q11, r11, s11] 31) [(true, 0), (true, 1), (false, 2), (false, 3), (true, 4), (true, 5), (true, 6), (true, 7), (true, 8), (true, 9), (true, 10), (true, 11), (true, 12), (true, 13), (true, 14), (true, 15), (false, 16), (true, 17), (true, 18), (true, 19), (true, 20), (false, 21), (true, 22), (true, 23), (true, 24), (true, 25), (false, 26), (false, 27), (true, 28), (true, 29), (true, 30), (true, 31), (true, 33), (false, 32), (false, 34), (true, 35), (true, 36)] (by kernel_rfl) (by kernel_rfl) (by kernel_rfl) (by decide) (fun _ _ _ _ _ h => h) ⟨L8, L12, L13⟩ ?_
 refine ow 37 (.agg #[p10, q10, r10, s10]) rfl (fun w' hS => (rl 31 0 [p10, q10, r10, s10] hS.2.1)) ?_
 simp only [p3, p4]
 refine ov 38 (.int .i64 (nn)) ?_
 simp only [p3, p4]
 refine oe ?_
 refine ec 39 (r2_fromz (nn) (by omega) (by omega) _) ?_
 rintro e51 w51 ⟨rfl, g51⟩
 refine ⟨_, rfl, ?_⟩
 replace hB := hB.trans g51
 replace L8 := L8.gr g51
 replace L12 := L12.gr g51
 replace L13 := L13.gr g51
 refine ⟨⟨L8, L12, L13⟩, ?_⟩
 simp only [p3, p4]
 refine oe ?_
 have kq54 := g17.kp.trans (g20.kp.trans (gd49.kp.trans g51.kp))
 replace h10 := h10.kp kq54
 refine ec 40 (is_q (Lib.itoa ((nn))) h10 (by omega) (ht.gr hB)) ?_
 rintro e53 w53 ⟨rfl, g53⟩
 refine ⟨_, rfl, ?_⟩
 replace hB := hB.trans g53
 replace L8 := L8.gr g53
 replace L12 := L12.gr g53
 replace L13 := L13.gr g53
 refine ⟨⟨L8, L12, L13⟩, ?_⟩
 simp only [p3, p4]
 have hb55 : ((ratL (((nn : Int) : Rat))) == (Lib.itoa ((nn)))) = true := (text_lit (ratL_iz nn))
 refine ow 41 (.bool false) rfl (fun w' hS => (RunV.bool (x := !((ratL (((nn : Int) : Rat))) == (Lib.itoa ((nn))))) (rvk (by kernel_rfl)) (show (!((ratL (((nn : Int) : Rat))) == (Lib.itoa ((nn))))) = false by rw [hb55]; rfl))) ?_
 simp only [p3, p4]
 refine ov 42 (.bool false) ?_
 simp only [p3, p4]
 refine ov 43 (.int .i64 (nn)) ?_
 simp only [p3, p4]
 refine ov 44 (.int .i64 (nn)) ?_
 simp only [p3, p4]
 have hb56 : ((nn != nn)) = false := (by simp)
 refine ow 45 (.bool false) rfl (fun w' hS => (RunV.bool (x := (nn != nn)) (rvk (by kernel_rfl)) hb56)) ?_
 simp only [p3, p4]
 refine ov 46 (.bool false) ?_
 simp only [p3, p4]
 refine ov 47 (.bool false) ?_
 simp only [p3, p4]
 refine ov 48 (.bool true) ?_
 simp only [p3, p4]
 refine ov 49 (.bool false) ?_
 simp only [p3, p4]
 refine ov 50 (.bool false) ?_
 simp only [p3, p4]
 refine ov 51 (.bool false) ?_
 simp only [p3, p4]
 refine ow 52 (.agg #[(.bool false), (.slice none 0 0), (.bool false), (.slice none 0 0)]) rfl (fun w' hS => (rl 31 0 [(.bool false), (.slice none 0 0), (.bool false), (.slice none 0 0)] hS.1)) ?_
 simp only [p3, p4]
 refine oe ?_
 refine ec 53 (is_q ([48]) (IsRat.zero _ (k := 64) (Nat.le_refl _)) (by omega) (ht.gr hB)) ?_
 rintro e58 w58 ⟨rfl, g58⟩
 refine ⟨_, rfl, ?_⟩
 replace hB := hB.trans g58
 replace L8 := L8.gr g58
 replace L12 := L12.gr g58
 replace L13 := L13.gr g58
 refine ⟨⟨L8, L12, L13⟩, ?_⟩
 simp only [p3, p4]
 have hb59 : ((ratL (0)) == (([48] : List UInt8))) = true := (lawIn0  )
 refine ow 54 (.bool false) rfl (fun w' hS => (RunV.bool (x := !((ratL (0)) == (([48] : List UInt8)))) (rvk (by kernel_rfl)) (show (!((ratL (0)) == (([48] : List UInt8)))) = false by rw [hb59]; rfl))) ?_
 simp only [p3, p4]
 refine ov 55 (.bool false) ?_
 simp only [p3, p4]
 refine ov 56 (.bool false) ?_
 simp only [p3, p4]
 refine ow 57 (.agg #[(.bool false), (.slice none 0 0), (.bool false), (.slice none 0 0)]) rfl (fun w' hS => (rl 31 0 [(.bool false), (.slice none 0 0), (.bool false), (.slice none 0 0)] hS.1)) ?_
 simp only [p3, p4]
 refine oe ?_
 refine ec 58 (sign_r (IsRat.zero _ (k := 64) (Nat.le_refl _))) ?_
 rintro e61 w61 ⟨rfl, g61⟩
 refine ⟨_, rfl, ?_⟩
 replace hB := hB.trans g61
 replace L8 := L8.gr g61
 replace L12 := L12.gr g61
 replace L13 := L13.gr g61
 refine ⟨⟨L8, L12, L13⟩, ?_⟩
 simp only [p3, p4]
 have hb62 : ((sgn ((0 : Rat)).num != (0 : Int))) = false := (by decide +kernel)
 refine ow 59 (.bool false) rfl (fun w' hS => (RunV.bool (x := (sgn ((0 : Rat)).num != (0 : Int))) (rvk (by kernel_rfl)) hb62)) ?_
 simp only [p3, p4]
 refine ov 60 (.bool false) ?_
 simp only [p3, p4]
 refine ov 61 (.bool false) ?_
 simp only [p3, p4]
 refine ow 62 (.agg #[(.bool false), (.slice none 0 0), (.bool false), (.slice none 0 0)]) rfl (fun w' hS => (rl 31 0 [(.bool false), (.slice none 0 0), (.bool false), (.slice none 0 0)] hS.1)) ?_
 simp only [p3, p4]
 refine oe ?_
 refine ec 63 (den_i (IsRat.zero _ (k := 64) (Nat.le_refl _))) ?_
 rintro e64 w64 ⟨⟨x64, y64, rfl, h64⟩, g64⟩
 refine ⟨_, rfl, ?_⟩
 replace hB := hB.trans g64
 replace L8 := L8.gr g64
 replace L12 := L12.gr g64
 replace L13 := L13.gr g64
 refine ⟨⟨L8, L12, L13⟩, ?_⟩
 simp only [p3, p4]
 refine oe ?_
 refine ec 64 (text_i h64 (by omega) (ht.gr hB)) ?_
 rintro e66 w66 ⟨rfl, g66⟩
 refine ⟨_, rfl, ?_⟩
 replace hB := hB.trans g66
 replace L8 := L8.gr g66
 replace L12 := L12.gr g66
 replace L13 := L13.gr g66
 refine ⟨⟨L8, L12, L13⟩, ?_⟩
 simp only [p3, p4]
 have hb67 : (((Lib.itoa (1)) != ([49] : List UInt8))) = false := (by rw [itoa_one]; rfl)
 refine ow 65 (.bool false) rfl (fun w' hS => (RunV.bool (x := ((Lib.itoa (1)) != ([49] : List UInt8))) (rv_sne 9 9 _ _ (Lib.itoa (1)) ([49]) rfl rfl rfl) hb67)) ?_
 simp only [p3, p4]
 refine ov 66 (.bool false) ?_
 simp only [p3, p4]
 refine ov 67 (.bool false) ?_
 simp only [p3, p4]
 refine ow 68 (.agg #[p11, q11, r11, s11]) rfl (fun w' hS => (rl 31 0 [p11, q11, r11, s11] hS.2.2)) ?_
 simp only [p3, p4]
 refine ov 70 (.string ⟨(ratL (a) : List UInt8).toArray⟩) ?_
 simp only [p3, p4]
 refine oe ?_
 have kq70 := g20.kp.trans (gd49.kp.trans (g51.kp.trans (g53.kp.trans (g58.kp.trans (g61.kp.trans (g64.kp.trans g66.kp))))))
 replace h11 := h11.kp kq70
 refine ec 69 (sign_r h11) ?_
 rintro e69 w69 ⟨rfl, g69⟩
 refine ⟨_, rfl, ?_⟩
 replace hB := hB.trans g69
 replace L8 := L8.gr g69
 replace L12 := L12.gr g69
 replace L13 := L13.gr g69
 refine ⟨⟨L8, L12, L13⟩, ?_⟩
 simp only [p3, p4]
 refine oe ?_
 refine ec 71 (r2_sign (a) ha (by omega) _) ?_
 rintro e72 w72 ⟨rfl, g72⟩
 refine ⟨_, rfl, ?_⟩
 replace hB := hB.trans g72
 replace L8 := L8.gr g72
 replace L12 := L12.gr g72
 replace L13 := L13.gr g72
 refine ⟨⟨L8, L12, L13⟩, ?_⟩
 simp only [p3, p4]
 have hb73 : ((sgn (a).num != sgn (a).num)) = false := (by simp)
 refine ow 72 (.bool false) rfl (fun w' hS => (RunV.bool (x := (sgn (a).num != sgn (a).num)) (rvk (by kernel_rfl)) hb73)) ?_
 simp only [p3, p4]
 refine ov 73 (.bool false) ?_
 simp only [p3, p4]
 refine ord_nil ?_
 refine k23 _ _ ?_
 try clear k23 K23
 refine wp_cond_false rfl ?_
 refine wp_skip ?_
 refine k22 _ _ ?_
 try clear k22 K22
 refine wp_seq_k (fun K74 k74 => ?_)
 refine rg [0, 1, 2, 3, 4, 5, 6] ?_
 refine sv 75 (.string ⟨(ratL (a) : List UInt8).toArray⟩) ?_
 simp only [p3, p4]
 refine se ?_
 refine ec 76 (r2_parts_q a ha.1 ha.2 (by omega) _) ?_
 rintro e75 w75 ⟨rfl, g75⟩
 refine ⟨_, rfl, ?_⟩
 replace hB := hB.trans g75
 simp only [p3, p4]
 refine sv 74 (.tuple #[(.string ⟨(Lib.itoa (a.num) : List UInt8).toArray⟩), (.string ⟨(Lib.itoa ((a.den : Int)) : List UInt8).toArray⟩)]) ?_
 simp only [p3, p4]
 refine sv 77 (.string ⟨(Lib.itoa (a.num) : List UInt8).toArray⟩) ?_
 simp only [p3, p4]
 refine sv 78 (.string ⟨(Lib.itoa ((a.den : Int)) : List UInt8).toArray⟩) ?_
 simp only [p3, p4]
 refine sv 12 (.string ⟨(Lib.itoa (a.num) : List UInt8).toArray⟩) ?_
 simp only [p3, p4]
 refine sv 13 (.string ⟨(Lib.itoa ((a.den : Int)) : List UInt8).toArray⟩) ?_
 simp only [p3, p4]
 refine sq_nil ?_
 refine k74 _ _ ?_
 try clear k74 K74
 refine wp_seq_k (fun K76 k76 => ?_)
 refine wp_seq_k (fun K77 k77 => ?_)
 refine rg [0, 1, 2, 3, 4, 5, 6, 7, 8, 9, 10, 11, 12, 13] ?_
 refine sv 79 (.string ⟨(Lib.itoa ((a.den : Int)) : List UInt8).toArray⟩) ?_
 simp only [p3, p4]
 refine sw 80 (.bool (((Lib.itoa ((a.den : Int))) != ([49] : List UInt8)))) rfl (rv_sne 9 9 _ _ (Lib.itoa ((a.den : Int))) ([49]) rfl rfl rfl) ?_
 simp only [p3, p4]
 rcases Bool.eq_false_or_eq_true (((Lib.itoa ((a.den : Int))) != ([49] : List UInt8))) with hb78 | hb78
 ·refine sw 81 (.bool true) rfl (RunV.bool (x := ((Lib.itoa ((a.den : Int))) != ([49] : List UInt8))) (rvk (by kernel_rfl)) hb78) ?_
  simp only [p3, p4]
  refine ss 82 ?_
  simp only [p3, p4]
  refine ss 83 ?_
  simp only [p3, p4]
  refine ss 84 ?_
  simp only [p3, p4]
  refine ss 85 ?_
  simp only [p3, p4]
  refine sv 86 (.bool true) ?_
  simp only [p3, p4]
  refine sv 87 (.bool true) ?_
  simp only [p3, p4]
  refine ss 88 ?_
  simp only [p3, p4]
  refine ss 89 ?_
  simp only [p3, p4]
  refine ss 90 ?_
  simp only [p3, p4]
  refine ss 91 ?_
  simp only [p3, p4]
  refine sv 92 (.bool true) ?_
  simp only [p3, p4]
  refine sq_nil ?_
  refine k77 _ _ ?_
  try clear k77 K77
  refine wp_cond_true rfl ?_
  refine wp_seq_k (fun K79 k79 => ?_)
  refine rg [0, 1, 2, 3, 4, 5, 6] ?_
  refine sv 93 (.int .i64 (valQ a)) ?_
  simp only [p3, p4]
  have hb80 : ((valQ a == (0 : Int))) = true := (fits_no hf)
  refine sw 94 (.bool true) rfl (RunV.bool (x := (valQ a == (0 : Int))) (rvk (by kernel_rfl)) hb80) ?_
  simp only [p3, p4]
  refine sv 95 (.bool true) ?_
  simp only [p3, p4]
  refine sv 96 (.bool false) ?_
  simp only [p3, p4]
  refine sv 97 (.bool true) ?_
  simp only [p3, p4]
  refine sv 98 (.bool true) ?_
  simp only [p3, p4]
  refine sv 4 (.bool true) ?_
  simp only [p3, p4]
  refine sq_nil ?_
  refine k79 _ _ ?_
  try clear k79 K79
  refine wp_ret ?_
  simp only [Exit.then]
  refine bodyPost_ret (v := (.bool true)) (ret_tmp rfl rfl) rfl ⟨?_, hB⟩
  exact rfl
 ·refine sw 81 (.bool false) rfl (RunV.bool (x := ((Lib.itoa ((a.den : Int))) != ([49] : List UInt8))) (rvk (by kernel_rfl)) hb78) ?_
  simp only [p3, p4]
  refine sv 82 (.string ⟨(Lib.itoa (a.num) : List UInt8).toArray⟩) ?_
  simp only [p3, p4]
  refine se ?_
  refine ec 83 (r1_from (-9223372036854775808) (by omega) (by omega) _) ?_
  rintro e81 w81 ⟨rfl, g81⟩
  refine ⟨_, rfl, ?_⟩
  replace hB := hB.trans g81
  simp only [p3, p4]
  refine se ?_
  refine ec 84 (r1_compare (a.num) ((-9223372036854775808)) ha.1 (Sz.i64 (by omega) (by omega)) (by omega) _) ?_
  rintro e82 w82 ⟨rfl, g82⟩
  refine ⟨_, rfl, ?_⟩
  replace hB := hB.trans g82
  simp only [p3, p4]
  refine sv 85 (.bool (decide (sgn (a.num - (-9223372036854775808)) < (0 : Int)))) ?_
  simp only [p3, p4]
  refine sv 86 (.bool (decide (sgn (a.num - (-9223372036854775808)) < (0 : Int)))) ?_
  simp only [p3, p4]
  rcases Bool.eq_false_or_eq_true (decide (sgn (a.num - (-9223372036854775808)) < (0 : Int))) with hb83 | hb83
  ·refine sw 87 (.bool true) rfl (RunV.bool (x := decide (sgn (a.num - (-9223372036854775808)) < (0 : Int))) (rvk (by kernel_rfl)) hb83) ?_
   simp only [p3, p4]
   refine ss 88 ?_
   simp only [p3, p4]
   refine ss 89 ?_
   simp only [p3, p4]
   refine ss 90 ?_
   simp only [p3, p4]
   refine ss 91 ?_
   simp only [p3, p4]
   refine sv 92 (.bool true) ?_
   simp only [p3, p4]
   refine sq_nil ?_
   refine k77 _ _ ?_
   try clear k77 K77
   refine wp_cond_true rfl ?_
   refine wp_seq_k (fun K84 k84 => ?_)
   refine rg [0, 1, 2, 3, 4, 5, 6] ?_
   refine sv 93 (.int .i64 (valQ a)) ?_
   simp only [p3, p4]
   have hb85 : ((valQ a == (0 : Int))) = true := (fits_no hf)
   refine sw 94 (.bool true) rfl (RunV.bool (x := (valQ a == (0 : Int))) (rvk (by kernel_rfl)) hb85) ?_
   simp only [p3, p4]
   refine sv 95 (.bool true) ?_
   simp only [p3, p4]
   refine sv 96 (.bool false) ?_
   simp only [p3, p4]
   refine sv 97 (.bool true) ?_
   simp only [p3, p4]
   refine sv 98 (.bool true) ?_
   simp only [p3, p4]
   refine sv 4 (.bool true) ?_
   simp only [p3, p4]
   refine sq_nil ?_
   refine k84 _ _ ?_
   try clear k84 K84
   refine wp_ret ?_
   simp only [Exit.then]
   refine bodyPost_ret (v := (.bool true)) (ret_tmp rfl rfl) rfl ⟨?_, hB⟩
   exact rfl
  ·refine sw 87 (.bool false) rfl (RunV.bool (x := decide (sgn (a.num - (-9223372036854775808)) < (0 : Int))) (rvk (by kernel_rfl)) hb83) ?_
   simp only [p3, p4]
   refine sv 88 (.string ⟨(Lib.itoa (a.num) : List UInt8).toArray⟩) ?_
   simp only [p3, p4]
   refine se ?_
   refine ec 89 (r1_from (9223372036854775807) (by omega) (by omega) _) ?_
   rintro e86 w86 ⟨rfl, g86⟩
   refine ⟨_, rfl, ?_⟩
   replace hB := hB.trans g86
   simp only [p3, p4]
   refine se ?_
   refine ec 90 (r1_compare (a.num) ((9223372036854775807)) ha.1 (Sz.i64 (by omega) (by omega)) (by omega) _) ?_
   rintro e87 w87 ⟨rfl, g87⟩
   refine ⟨_, rfl, ?_⟩
   replace hB := hB.trans g87
   simp only [p3, p4]
   have hb88 : (decide ((0 : Int) < sgn (a.num - (9223372036854775807)))) = true := (by rcases Bool.eq_false_or_eq_true (decide ((0 : Int) < sgn (a.num - (9223372036854775807)))) with e | e; exact e; exact absurd (no_fit hb78 hb83 e) (by rw [hf]; decide))
   refine sw 91 (.bool true) rfl (RunV.bool (x := decide ((0 : Int) < sgn (a.num - (9223372036854775807)))) (rvk (by kernel_rfl)) hb88) ?_
   simp only [p3, p4]
   refine sv 92 (.bool true) ?_
   simp only [p3, p4]
   refine sq_nil ?_
   refine k77 _ _ ?_
   try clear k77 K77
   refine wp_cond_true rfl ?_
   refine wp_seq_k (fun K89 k89 => ?_)
   refine rg [0, 1, 2, 3, 4, 5, 6] ?_
   refine sv 93 (.int .i64 (valQ a)) ?_
   simp only [p3, p4]
   have hb90 : ((valQ a == (0 : Int))) = true := (fits_no hf)
   refine sw 94 (.bool true) rfl (RunV.bool (x := (valQ a == (0 : Int))) (rvk (by kernel_rfl)) hb90) ?_
   simp only [p3, p4]
   refine sv 95 (.bool true) ?_
   simp only [p3, p4]
   refine sv 96 (.bool false) ?_
   simp only [p3, p4]
   refine sv 97 (.bool true) ?_
   simp only [p3, p4]
   refine sv 98 (.bool true) ?_
   simp only [p3, p4]
   refine sv 4 (.bool true) ?_
   simp only [p3, p4]
   refine sq_nil ?_
   refine k89 _ _ ?_
   try clear k89 K89
   refine wp_ret ?_
   simp only [Exit.then]
   refine bodyPost_ret (v := (.bool true)) (ret_tmp rfl rfl) rfl ⟨?_, hB⟩
   exact rfl

set_option maxRecDepth 100000 in
set_option maxHeartbeats 1000000 in
theorem ints_b (nn : Int) (_hn : -9223372036854775808 ≤ nn ∧ nn ≤ 9223372036854775807) (X : List UInt8) (hok : (okT (X)) = false) (w : World) (ht : Tab w) (_hm : Mx w) :
    Calls Tryz.prog 10 #[(.int .i64 (nn)), (.string ⟨(X : List UInt8).toArray⟩)] w fun e w' => e = .returned (.bool true) ∧ Gr w w' := by
 go_enter Tryz.func10, Tryz.ntmps10
 have hB := Gr.refl w
 refine wp_seq_k (fun K1 k1 => ?_)
 refine rg [0] ?_
 refine sv 4 (.bool false) ?_
 simp only [p3, p4]
 refine sq_nil ?_
 refine k1 _ _ ?_
 try clear k1 K1
 refine wp_seq_k (fun K2 k2 => ?_)
 refine wp_seq_k (fun K3 k3 => ?_)
 refine rg [0, 1, 2, 3, 4, 5, 6, 7] ?_
 refine se ?_
 refine ec 14 (known2 _ (ht.gr hB)) ?_
 rintro e4 w4 ⟨rfl, g4⟩
 refine ⟨_, rfl, ?_⟩
 replace hB := hB.trans g4
 simp only [p3, p4]
 refine sv 15 (.bool false) ?_
 simp only [p3, p4]
 refine sv 16 (.bool false) ?_
 simp only [p3, p4]
 refine sv 17 (.string ⟨(X : List UInt8).toArray⟩) ?_
 simp only [p3, p4]
 refine se ?_
 refine eff_bs 9 1 #[(.string ⟨(X : List UInt8).toArray⟩)] (some 18) rfl (fun _ => by kernel_rfl) (fun b5 w5 g5 L5 q5 => ?_)
 replace hB := hB.trans g5
 simp only [putl, p3, p4]
 refine se ?_
 refine ec 19 (right1 (X) L5) ?_
 rintro e6 w6 ⟨rfl, g6⟩
 refine ⟨_, rfl, ?_⟩
 replace hB := hB.trans g6
 simp only [p3, p4]
 refine sw 20 (.bool true) rfl (RunV.bool (x := !((okT (X)))) (rvk (by kernel_rfl)) (show (!((okT (X)))) = true by rw [hok]; rfl)) ?_
 simp only [p3, p4]
 refine sv 21 (.bool true) ?_
 simp only [p3, p4]
 refine sq_nil ?_
 refine k3 _ _ ?_
 try clear k3 K3
 refine wp_cond_true rfl ?_
 refine wp_seq_k (fun K7 k7 => ?_)
 refine rg [0, 1] ?_
 refine se ?_
 refine ec 22 (known2 _ (ht.gr hB)) ?_
 rintro e8 w8 ⟨rfl, g8⟩
 refine ⟨_, rfl, ?_⟩
 replace hB := hB.trans g8
 simp only [p3, p4]
 refine sv 4 (.bool true) ?_
 simp only [p3, p4]
 refine sq_nil ?_
 refine k7 _ _ ?_
 try clear k7 K7
 refine wp_ret ?_
 simp only [Exit.then]
 refine bodyPost_ret (v := (.bool true)) (ret_tmp rfl rfl) rfl ⟨?_, hB⟩
 exact rfl

theorem rational_ints (nn : Int) (hn : -9223372036854775808 ≤ nn ∧ nn ≤ 9223372036854775807) (X : List UInt8) (w : World) (ht : Tab w) (hm : Mx w) :
    Calls Tryz.prog 10 #[.int .i64 nn, (.string ⟨(X : List UInt8).toArray⟩)] w fun e w' => e = .returned (.bool true) ∧ Gr w w' := by
  rcases Bool.eq_false_or_eq_true (okT X) with hok | hok
  · obtain ⟨a, rfl, ha, la⟩ := okT_rat hok
    rcases Bool.eq_false_or_eq_true (fitsQ a) with hf | hf
    · exact ints_y nn hn a ha la hf w ht hm
    · exact ints_n nn hn a ha la hf w ht hm
  · exact ints_b nn hn X hok w ht hm

end Go.Proofs.YtloocadjbpgldaaGreatDoor
/- The law RationalInts holds of every input: its row, and its card tied to the program's text. Printed by a program of the prover's. -/
namespace Go.Proofs.YtloocadjbpgldaaGreatDoor
open Go.ChangeShapes Go.WideShapes Go.ChangeAt Go.RowKit

theorem rationalInts_table {W : World} (h : laidMetH Tryz.prog Rows.rationalIntsRow.laid W) : Tab W :=
  Lib.tabIs_of_head (rest := _) (g := 2) (t := 171) (e := 84) (n := 20) (by kernel_rfl) (by kernel_rfl) (by kernel_rfl) (by kernel_rfl) (by kernel_rfl) (by kernel_rfl) ((show laidMet Tryz.prog Rows.rationalIntsRow.laid W from (MakeChecks.laidMetH_plain _ _ _ (by kernel_rfl)) ▸ h).tail.tail)
theorem rationalInts_maxlen {W : World} (h : W.ShapedOpen Tryz.prog) : Mx W :=
  Go.Proofs.cell_of_shapedOpen_int (zero := #[.int .i64 0]) (g := 3) (t := 3) h (of_decide_eq_true (by kernel_rfl)) (by kernel_rfl) rfl (by kernel_rfl) (by kernel_rfl) Tryz.underlying3
set_option maxRecDepth 100000 in
theorem rationalInts_contract (H : Type) (enc : TypeId × Value → H) (W : World) (base : Nat) (args : Array Value) (ds gs : List (DataW H)) (before : List MemPlace)
    (hval : ∀ (j : Nat) t v, Tryz.f10.params[j]? = some t → args[j]? = some v → Value.okWide Tryz.prog W .any base t v)
    (hW : DataW.Whole enc Tryz.prog Tryz.f10.params.toList Rows.rationalIntsSpec.vars false W args.toList ds gs before) (hL : laidMetH Tryz.prog Rows.rationalIntsRow.laid W) (hsh : W.ShapedOpen Tryz.prog) :
    Calls Tryz.prog 10 args W fun e W' => ∃ v, e = .returned v ∧ Rows.rationalIntsSpec.post enc Tryz.prog Tryz.f10 false true false false W args v W' := by
  have hW' := hW
  obtain ⟨p, q, hA0, hV, rfl, hfz, hnd⟩ := hW
  have hA : DataW.TrodAll enc Tryz.prog W 0 (fun _ => true) true Tryz.f10.params.toList args.toList ds p := hA0
  rw [Tryz.params10] at hA hval
  obtain ⟨v0, vs0, d0, ds0, p0, q0, hargs, rfl, rfl, h0, r0⟩ := trodAll_cons hA
  obtain ⟨v1, vs1, d1, ds1, p1, q1, rfl, rfl, rfl, h1, r1⟩ := trodAll_cons r0
  obtain ⟨rfl, rfl, rfl⟩ := trodAll_nil r1
  obtain rfl : args = #[v0, v1] := by cases args; simp_all
  obtain ⟨rfl, rfl⟩ := trodVars_none hV
  obtain ⟨n0_0, rfl, b0_0⟩ := open_cell (k := .i64) (by kernel_rfl) (hval 0 3 v0 rfl rfl)
  obtain ⟨n1_0, rfl⟩ := open_text (by kernel_rfl) (hval 1 9 v1 rfl rfl)
  refine (rational_ints n0_0 (has_i64 b0_0) n1_0 W (rationalInts_table hL) (rationalInts_maxlen hsh)).mono fun e W' ⟨he, hg⟩ => ?_
  subst he
  exact ⟨_, rfl, law_post (tb := 4) laidOut (by kernel_rfl) (by kernel_rfl) (by kernel_rfl) rfl hW' rfl hg⟩
noncomputable def rationalInts_world (os : Os) : World := World.laidAll Tryz.prog os Rows.rationalIntsRow.laid
theorem rationalInts_met (os : Os) : laidMet Tryz.prog Rows.rationalIntsRow.laid ((rationalInts_world os).forCall (fun _ _ => 0) ⟨#[], #[.int .i64 0, .string ⟨#[]⟩], []⟩).memory :=
  laidMet_laidAll _ (by kernel_rfl) (by kernel_rfl)
theorem rationalInts_reads (os : Os) {H : Type} (enc : TypeId × Value → H) : ∃ places, DataW.whole enc Tryz.prog ((rationalInts_world os).forCall (fun _ _ => 0) ⟨#[], #[.int .i64 0, .string ⟨#[]⟩], []⟩).memory Tryz.f10.params.toList Rows.rationalIntsSpec.vars false (#[.int .i64 0, .string ⟨#[]⟩] : Array Value).toList 8 = some ([.lit (.int .i64 0), .lit (.string [])], [], places) :=
  ⟨[], by kernel_rfl⟩
set_option maxRecDepth 100000 in
theorem rationalInts_lifted (os : Os) (started : os.Started) (H : Type) (enc : TypeId × Value → H) (F : Stop.Interp) :
    ReturnsInHanded {} Tryz.checked os 10 .any ((OpenSpec.ofChange Rows.rationalIntsSpec).preRow enc Tryz.prog Tryz.f10 Rows.rationalIntsRow.domain false Rows.rationalIntsRow.laid) (((OpenSpec.ofChange Rows.rationalIntsSpec).at F).post enc Tryz.prog Tryz.f10 false true false false) := by
  obtain ⟨places, hx⟩ := rationalInts_reads os enc
  refine returnsInHanded_of_row (C := Tryz.checked) (s := OpenSpec.ofChange Rows.rationalIntsSpec) own started (by kernel_rfl) Tryz.func10
    (witness_row_sh (enc := enc) (C := Tryz.checked) false (rationalInts_world os) #[.int .i64 0, .string ⟨#[]⟩] (World.laidAll_os _ _ _) (World.shaped_of_ZipB (by kernel_rfl) (by kernel_rfl)) (by kernel_rfl)
      (OpenSpec.preRow_of_cond 8 hx (by kernel_rfl) (fun k hk => by cases hk) (by kernel_rfl) (by rw [MakeChecks.laidMetH_plain _ _ _ (by kernel_rfl)]; exact rationalInts_met os))) ?_
  intro W base args ds gs before hval hW _ _ _ hL hsh _
  exact rationalInts_contract H enc W base args ds gs before hval hW hL hsh
theorem rationalInts_said : Rows.RationalIntsSaid :=
  OpenClaim.holds_of_cond 10 Tryz.f10 rfl rfl rfl rfl rfl rfl rfl ⟨rfl, rfl, rfl, rfl, rfl⟩ rfl rfl rfl rfl rfl (by kernel_rfl) Tryz.func10 (by kernel_rfl)
    (of_decide_eq_true (by kernel_rfl)) (by unfold Func.isWrapper; first | (rw [if_pos (by decide +kernel)]; kernel_rfl) | (rw [if_neg (by decide +kernel)]; exact ⟨rfl, rfl⟩))
    (fun os started H enc _ F => by rw [OpenClaim.pre_eq_preRow]; exact rationalInts_lifted os started H enc F)
theorem rationalInts_plain (f : FuncId) (fn : Func) (hf : Tryz.pinned.checked.prog.funcNamed "dowel/dowellaw02.RationalInts" = some f) (hfn : Tryz.pinned.checked.prog.funcs[f]? = some fn) :
    true = Tryz.pinned.checked.prog.looks [] ∧ ∀ (j : Nat) t, fn.params[j]? = some t → Tryz.pinned.checked.prog.wantsStandIn t = false := by
  obtain rfl : f = 10 := Option.some.inj ((show Tryz.prog.funcNamed "dowel/dowellaw02.RationalInts" = some 10 by kernel_rfl).symm.trans hf) |>.symm
  obtain rfl : fn = Tryz.f10 := (Option.some.inj (Tryz.func10.symm.trans hfn)).symm
  refine ⟨by kernel_rfl, fun j t ht => ?_⟩
  rw [Tryz.params10] at ht
  have hm := Array.mem_of_getElem? ht
  have hall : (#[3, 9] : Array TypeId).toList.all (fun t => !Tryz.prog.wantsStandIn t) = true := by kernel_rfl
  have := List.all_eq_true.1 hall t (Array.mem_toList_iff.2 hm)
  have h3 : Tryz.prog.wantsStandIn t = false := by simpa using this
  exact h3
/-- the card -/
theorem rationalInts_card : Rows.RationalIntsCardSaid :=
  Claim7.holds_tied_plain_at .later [] _ _ _ _ rationalInts_said (fun _ h => by cases h) (by kernel_rfl) (fun _ h => by cases h) rationalInts_row_tie rfl ⟨rfl, rfl⟩ (by kernel_rfl) rfl rationalInts_plain (by kernel_rfl)
end Go.Proofs.YtloocadjbpgldaaGreatDoor
