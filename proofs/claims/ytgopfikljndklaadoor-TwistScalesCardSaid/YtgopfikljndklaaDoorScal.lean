/- The primitive multiple of six small numbers: plain facts. -/
import Init.Data.Rat.Lemmas
namespace Go.Proofs.YtgopfikljndklaaDoor
/-- the greatest common divisor of a list, as the code takes it -/
def gcdL : Int → List Int → Int
  | d, [] => d
  | d, z :: zs => gcdL (Int.gcd d z : Int) zs
theorem gcdL_dvd : ∀ (zs : List Int) (d : Int), gcdL d zs ∣ d ∧ ∀ z ∈ zs, gcdL d zs ∣ z
  | [], d => ⟨Int.dvd_refl d, fun z h => by cases h⟩
  | z :: zs, d => by
    obtain ⟨h1, h2⟩ := gcdL_dvd zs (Int.gcd d z : Int)
    refine ⟨Int.dvd_trans h1 (Int.gcd_dvd_left ..), fun y hy => ?_⟩
    rcases List.mem_cons.1 hy with rfl | hy
    · exact Int.dvd_trans h1 (Int.gcd_dvd_right ..)
    · exact h2 y hy
theorem dvd_gcdL : ∀ (zs : List Int) (d m : Int), m ∣ d → (∀ z ∈ zs, m ∣ z) → m ∣ gcdL d zs
  | [], d, m, h, _ => h
  | z :: zs, d, m, h, hz => dvd_gcdL zs _ m (Int.dvd_coe_gcd h (hz z (by simp))) (fun y hy => hz y (by simp [hy]))
theorem gcdL_nonneg : ∀ (zs : List Int) (d : Int), 0 ≤ d → 0 ≤ gcdL d zs
  | [], _, h => h
  | _ :: zs, _, _ => gcdL_nonneg zs _ (Int.natCast_nonneg _)
/-- a list of integers without a common divisor -/
def Prim1 (zs : List Int) : Prop := gcdL 0 zs = 1
theorem prim1_unit {zs : List Int} (h : Prim1 zs) {m : Int} (hm : ∀ z ∈ zs, m ∣ z) : m ∣ 1 := by
  have := dvd_gcdL zs 0 m (Int.dvd_zero m) hm
  rw [h] at this; exact this
/-- divided by its greatest common divisor, a list is primitive -/
theorem prim1_div {zs : List Int} (h : 0 < gcdL 0 zs) : Prim1 (zs.map (· / gcdL 0 zs)) := by
  have hd := gcdL_dvd zs 0
  generalize hg : gcdL 0 zs = g at *
  have h1 := gcdL_dvd (zs.map (· / g)) 0
  have h0 : 0 ≤ gcdL 0 (zs.map (· / g)) := gcdL_nonneg _ 0 (Int.le_refl 0)
  unfold Prim1
  generalize he : gcdL 0 (zs.map (· / g)) = e at *
  have hge : g * e ∣ g := by
    have := dvd_gcdL zs 0 (g * e) (Int.dvd_zero _) (fun z hz => by
      obtain ⟨c, hc⟩ := h1.2 (z / g) (List.mem_map.2 ⟨z, hz, rfl⟩)
      obtain ⟨b, hb⟩ := hd.2 z hz
      have : z / g = b := by rw [hb]; exact Int.mul_ediv_cancel_left b (by omega)
      rw [this] at hc
      exact ⟨c, by rw [hb, hc, Int.mul_assoc]⟩)
    rw [hg] at this; exact this
  obtain ⟨c, hc⟩ := hge
  have h2 : e * c = 1 := by
    have : g * (e * c) = g * 1 := by rw [← Int.mul_assoc, ← hc, Int.mul_one]
    exact Int.eq_of_mul_eq_mul_left (by omega) this
  have h3 : e ∣ 1 := ⟨c, h2.symm⟩
  have h4 := Int.le_of_dvd (by omega) h3
  have h5 : e ≠ 0 := fun e0 => by rw [e0, Int.zero_mul] at h2; omega
  omega
theorem dvd_of_coprime {k m n : Int} (h : k ∣ m * n) (hc : Int.gcd k m = 1) : k ∣ n := by
  rw [← Int.natAbs_dvd_natAbs] at h ⊢
  rw [Int.natAbs_mul] at h
  exact Nat.Coprime.dvd_of_dvd_mul_left (show Nat.gcd k.natAbs m.natAbs = 1 from hc) h
/-- two primitive lists, one a positive multiple of the other: they are the same -/
theorem prim1_same {n : Nat} {Y Z : Nat → Int} (hY : Prim1 ((List.range n).map Y)) (hZ : Prim1 ((List.range n).map Z)) {p q : Int} (hp : 0 < p) (hq : 0 < q) (h : ∀ i, i < n → q * Z i = p * Y i) : ∀ i, i < n → Z i = Y i := by
  -- p and q without a common divisor
  have key : ∀ {p q : Int}, 0 < p → 0 < q → Int.gcd p q = 1 → (∀ i, i < n → q * Z i = p * Y i) → p = 1 ∧ q = 1 := by
    intro p q hp hq hc h
    have hq1 : q ∣ 1 := prim1_unit hY (fun z hz => by
      obtain ⟨i, hi, rfl⟩ := List.mem_map.1 hz
      exact dvd_of_coprime (m := p) ⟨Z i, (h i (List.mem_range.1 hi)).symm⟩ (by rw [Int.gcd_comm]; exact hc))
    have hp1 : p ∣ 1 := prim1_unit hZ (fun z hz => by
      obtain ⟨i, hi, rfl⟩ := List.mem_map.1 hz
      exact dvd_of_coprime (m := q) ⟨Y i, h i (List.mem_range.1 hi)⟩ hc)
    have := Int.le_of_dvd (by omega) hp1
    have := Int.le_of_dvd (by omega) hq1
    omega
  have hg : 0 < (Int.gcd p q : Int) := by
    have : Int.gcd p q ≠ 0 := by rw [Ne, Int.gcd_eq_zero_iff]; omega
    omega
  obtain ⟨p', hp'⟩ := Int.gcd_dvd_left (a := p) (b := q)
  obtain ⟨q', hq'⟩ := Int.gcd_dvd_right (a := p) (b := q)
  generalize hgg : (Int.gcd p q : Int) = g at *
  have hp0 : 0 < p' := by
    rcases Int.lt_or_le 0 p' with h1 | h1
    · exact h1
    · have := Int.mul_nonpos_of_nonneg_of_nonpos (Int.le_of_lt hg) h1; omega
  have hq0 : 0 < q' := by
    rcases Int.lt_or_le 0 q' with h1 | h1
    · exact h1
    · have := Int.mul_nonpos_of_nonneg_of_nonpos (Int.le_of_lt hg) h1; omega
  have hc : Int.gcd p' q' = 1 := by
    have h1 : (Int.gcd (g * p') (g * q') : Int) = g * (Int.gcd p' q' : Int) := by
      rw [Int.gcd_mul_left]
      have : (g.natAbs : Int) = g := by omega
      rw [Int.natCast_mul, this]
    rw [← hp', ← hq', hgg] at h1
    have : g * (Int.gcd p' q' : Int) = g * 1 := by omega
    have := Int.eq_of_mul_eq_mul_left (by omega) this
    omega
  have hh : ∀ i, i < n → q' * Z i = p' * Y i := fun i hi => by
    have := h i hi
    rw [hp', hq', Int.mul_assoc, Int.mul_assoc] at this
    exact Int.eq_of_mul_eq_mul_left (by omega) this
  obtain ⟨e1, e2⟩ := key hp0 hq0 hc hh
  intro i hi
  have := hh i hi
  rw [e1, e2, Int.one_mul, Int.one_mul] at this
  exact this

def lcmT (M d : Int) : Int := M * (d / (Int.gcd M d : Int))
theorem lcmT_facts {M : Int} (q : Rat) (h : 0 < M) : 0 < lcmT M (q.den : Int) ∧ M ∣ lcmT M (q.den : Int) ∧ (q.den : Int) ∣ lcmT M (q.den : Int) := by
  have hd := q.den_pos
  have hg : 0 < (Int.gcd M (q.den : Int) : Int) := by
    have : Int.gcd M (q.den : Int) ≠ 0 := by rw [Ne, Int.gcd_eq_zero_iff]; omega
    omega
  obtain ⟨m', hm⟩ := Int.gcd_dvd_left (a := M) (b := (q.den : Int))
  obtain ⟨d', hd'⟩ := Int.gcd_dvd_right (a := M) (b := (q.den : Int))
  unfold lcmT
  generalize (Int.gcd M (q.den : Int) : Int) = g at *
  have e : (q.den : Int) / g = d' := by rw [hd']; exact Int.mul_ediv_cancel_left d' (by omega)
  have hp : 0 < d' := by
    rcases Int.lt_or_le 0 d' with h1 | h1
    · exact h1
    · have := Int.mul_nonpos_of_nonneg_of_nonpos (Int.le_of_lt hg) h1; omega
  rw [e]
  refine ⟨Int.mul_pos h hp, ⟨d', rfl⟩, ⟨m', ?_⟩⟩
  rw [hd', hm, Int.mul_assoc, Int.mul_assoc, Int.mul_comm m' d']
def tden (a1 a2 a3 a4 a5 a6 : Rat) : Int :=
  lcmT (lcmT (lcmT (lcmT (lcmT (lcmT 1 (a1.den : Int)) (a2.den : Int)) (a3.den : Int)) (a4.den : Int)) (a5.den : Int)) (a6.den : Int)
theorem tden_facts (a1 a2 a3 a4 a5 a6 : Rat) : 0 < tden a1 a2 a3 a4 a5 a6 ∧ (a1.den : Int) ∣ tden a1 a2 a3 a4 a5 a6 ∧ (a2.den : Int) ∣ tden a1 a2 a3 a4 a5 a6 ∧ (a3.den : Int) ∣ tden a1 a2 a3 a4 a5 a6 ∧
    (a4.den : Int) ∣ tden a1 a2 a3 a4 a5 a6 ∧ (a5.den : Int) ∣ tden a1 a2 a3 a4 a5 a6 ∧ (a6.den : Int) ∣ tden a1 a2 a3 a4 a5 a6 := by
  unfold tden
  obtain ⟨p1, l1, r1⟩ := lcmT_facts a1 (show (0 : Int) < 1 by omega)
  obtain ⟨p2, l2, r2⟩ := lcmT_facts a2 p1
  obtain ⟨p3, l3, r3⟩ := lcmT_facts a3 p2
  obtain ⟨p4, l4, r4⟩ := lcmT_facts a4 p3
  obtain ⟨p5, l5, r5⟩ := lcmT_facts a5 p4
  obtain ⟨p6, l6, r6⟩ := lcmT_facts a6 p5
  have t5 := l6
  have t4 := Int.dvd_trans l5 t5
  have t3 := Int.dvd_trans l4 t4
  have t2 := Int.dvd_trans l3 t3
  have t1 := Int.dvd_trans l2 t2
  exact ⟨p6, Int.dvd_trans r1 t1, Int.dvd_trans r2 t2, Int.dvd_trans r3 t3, Int.dvd_trans r4 t4, Int.dvd_trans r5 t5, r6⟩
def tz (M : Int) (a : Rat) : Int := a.num * (M / (a.den : Int))
theorem tz_eq {M : Int} {a : Rat} (h : (a.den : Int) ∣ M) : (M : Rat) * a = (tz M a : Rat) := by
  have hd := a.den_pos
  obtain ⟨c, hc⟩ := h
  have e : M / (a.den : Int) = c := by rw [hc]; exact Int.mul_ediv_cancel_left c (by omega)
  have e2 : ((a.den : Int) : Rat) * a = (a.num : Rat) := by
    have h1 := Rat.num_divInt_den a
    have h2 : (a.num : Rat) / ((a.den : Int) : Rat) = a := by rw [← Rat.divInt_eq_div]; exact h1
    have h3 : ((a.den : Int) : Rat) ≠ 0 := by
      intro h4
      have := congrArg Rat.num h4
      simp at this
      omega
    grind
  unfold tz
  rw [e, hc, Rat.intCast_mul, Rat.intCast_mul]
  grind
def tgcd (a1 a2 a3 a4 a5 a6 : Rat) : Int :=
  gcdL 0 [tz (tden a1 a2 a3 a4 a5 a6) a1, tz (tden a1 a2 a3 a4 a5 a6) a2, tz (tden a1 a2 a3 a4 a5 a6) a3, tz (tden a1 a2 a3 a4 a5 a6) a4, tz (tden a1 a2 a3 a4 a5 a6) a5, tz (tden a1 a2 a3 a4 a5 a6) a6]
theorem intCast_ne {d : Int} (h : d ≠ 0) : (d : Rat) ≠ 0 := by
  intro h4
  have := congrArg Rat.num h4
  simp at this
  exact h this
theorem intCast_inj' {a b : Int} (h : (a : Rat) = (b : Rat)) : a = b := by
  have := congrArg Rat.num h
  simpa using this
/-- the primitive multiple of ns / D, out of any common multiple M of the denominators -/
theorem scal_list {ns : List Int} {qs : List Rat} {D M : Int} (hD : 0 < D) (hM : 0 < M) (hlen : qs.length = ns.length) (hs : ∀ (i : Nat) (h : i < ns.length), qs[i] = (ns[i] : Rat) / (D : Rat))
    (hden : ∀ a ∈ qs, (a.den : Int) ∣ M) (hg : 0 < gcdL 0 ns) : 0 < gcdL 0 (qs.map (tz M)) ∧
      ∀ (i : Nat) (h : i < ns.length), Rat.divInt M (gcdL 0 (qs.map (tz M))) * qs[i] = ((ns[i] / gcdL 0 ns : Int) : Rat) := by
  have hz : ∀ (i : Nat) (h : i < ns.length), D * tz M (qs[i]'(by omega)) = M * ns[i] := fun i h => by
    apply intCast_inj'
    rw [Rat.intCast_mul, Rat.intCast_mul, ← tz_eq (hden _ (List.getElem_mem (by omega))), hs i h]
    have := intCast_ne (show D ≠ 0 by omega)
    grind
  have hG0 := gcdL_nonneg (qs.map (tz M)) 0 (Int.le_refl 0)
  have hGd := gcdL_dvd (qs.map (tz M)) 0
  have hgd := gcdL_dvd ns 0
  have hG : 0 < gcdL 0 (qs.map (tz M)) := by
    rcases Int.lt_or_eq_of_le hG0 with h | h
    · exact h
    · exfalso
      have h0 : (0 : Int) ∣ gcdL 0 ns := dvd_gcdL ns 0 0 (Int.dvd_refl 0) (fun z hz' => by
        obtain ⟨i, hi, rfl⟩ := List.mem_iff_getElem.1 hz'
        have h1 := hGd.2 (tz M (qs[i]'(by omega))) (List.mem_map.2 ⟨_, List.getElem_mem (by omega), rfl⟩)
        rw [← h] at h1
        have h2 : tz M (qs[i]'(by omega)) = 0 := Int.zero_dvd.1 h1
        have h3 := hz i hi
        rw [h2, Int.mul_zero] at h3
        rcases Int.mul_eq_zero.1 h3.symm with h4 | h4
        · omega
        · rw [h4]; exact Int.dvd_refl 0)
      have := Int.zero_dvd.1 h0
      omega
  refine ⟨hG, ?_⟩
  have hY := prim1_div hg
  have hZ := prim1_div hG
  generalize hgg : gcdL 0 ns = g at *
  generalize hGG : gcdL 0 (qs.map (tz M)) = G at *
  have eY : (List.range ns.length).map (fun i => (ns.map (· / g)).getD i 0) = ns.map (· / g) := by
    apply List.ext_getElem
    · simp
    · intro i h1 h2; simp at h2; simp [h2]
  have eZ : (List.range ns.length).map (fun i => ((qs.map (tz M)).map (· / G)).getD i 0) = (qs.map (tz M)).map (· / G) := by
    apply List.ext_getElem
    · simp [hlen]
    · intro i h1 h2; simp at h2; simp [h2]
  have key := prim1_same (n := ns.length) (Y := fun i => (ns.map (· / g)).getD i 0) (Z := fun i => ((qs.map (tz M)).map (· / G)).getD i 0) (by rw [eY]; exact hY) (by rw [eZ]; exact hZ)
    (p := M * g) (q := D * G) (Int.mul_pos hM hg) (Int.mul_pos hD hG) (fun i hi => by
      have h1 := hz i hi
      have hi' : i < qs.length := by omega
      obtain ⟨c, hc⟩ := hgd.2 ns[i] (List.getElem_mem hi)
      obtain ⟨e, he⟩ := hGd.2 (tz M qs[i]) (List.mem_map.2 ⟨_, List.getElem_mem hi', rfl⟩)
      have e1 : ns[i] / g = c := by rw [hc]; exact Int.mul_ediv_cancel_left c (by omega)
      have e2 : tz M qs[i] / G = e := by rw [he]; exact Int.mul_ediv_cancel_left e (by omega)
      simp only [List.getD_eq_getElem?_getD, List.getElem?_map, List.getElem?_eq_getElem hi, List.getElem?_eq_getElem hi', Option.map_some, Option.getD_some, e1, e2]
      rw [he, hc] at h1
      rw [Int.mul_assoc, Int.mul_assoc]; exact h1)
  intro i hi
  have hi' : i < qs.length := by omega
  have h1 := key i hi
  simp only [List.getD_eq_getElem?_getD, List.getElem?_map, List.getElem?_eq_getElem hi, List.getElem?_eq_getElem hi', Option.map_some, Option.getD_some] at h1
  obtain ⟨e, he⟩ := hGd.2 (tz M qs[i]) (List.mem_map.2 ⟨_, List.getElem_mem hi', rfl⟩)
  have e2 : tz M qs[i] / G = e := by rw [he]; exact Int.mul_ediv_cancel_left e (by omega)
  rw [← h1, e2, Rat.divInt_eq_div]
  have h2 := tz_eq (hden _ (List.getElem_mem hi'))
  rw [he, Rat.intCast_mul] at h2
  have := intCast_ne (show G ≠ 0 by omega)
  grind
end Go.Proofs.YtgopfikljndklaaDoor
