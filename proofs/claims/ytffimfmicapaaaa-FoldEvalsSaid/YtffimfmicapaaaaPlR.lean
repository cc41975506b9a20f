/- Plain: the references' arithmetic is that of whole numbers. -/
import Derived.Test.YtffimfmicapaaaaR01b
import Derived.Test.YtffimfmicapaaaaPlE
namespace Go.Proofs.Ytffimfmicapaaaa.Pl
open Go.Proofs.Ytffimfmicapaaaa
set_option linter.unusedVariables false
set_option linter.unusedSimpArgs false
set_option maxRecDepth 100000
/-- A pair of words and a sign, as a whole number. -/
structure Rep (b : Bg) (z : Int) : Prop where
  hi : 0 ≤ b.hi ∧ b.hi < 18446744073709551616
  lo : 0 ≤ b.lo ∧ b.lo < 18446744073709551616
  pos : b.below = false → z = b.hi * 18446744073709551616 + b.lo
  neg : b.below = true → z = -(b.hi * 18446744073709551616 + b.lo) ∧ z < 0
theorem Rep.unique {a b : Bg} {z : Int} (ha : Rep a z) (hb : Rep b z) : a = b := by
  obtain ⟨h1, l1, s1⟩ := a
  obtain ⟨h2, l2, s2⟩ := b
  have := ha.hi; have := ha.lo; have := hb.hi; have := hb.lo
  have p1 := ha.pos; have n1 := ha.neg; have p2 := hb.pos; have n2 := hb.neg
  cases s1 <;> cases s2 <;> simp only [Bg.mk.injEq, true_implies, Bool.true_eq_false, Bool.false_eq_true, false_implies, reduceCtorEq, and_true, and_false] at * <;> omega
theorem Rep.same {a : Bg} {x y : Int} (hx : Rep a x) (hy : Rep a y) : x = y := by
  cases hb : a.below
  · rw [hx.pos hb, hy.pos hb]
  · rw [(hx.neg hb).1, (hy.neg hb).1]
theorem sgn_of_mod' (n : Nat) (z : Int) : sgn n (z % 2 ^ n) = sgn n z := by
  unfold sgn
  have h := Int.emod_bmod (x := z) (n := 2 ^ n)
  rwa [show (((2 ^ n : Nat) : Int)) = 2 ^ n by norm_cast] at h
theorem cut_eq {n : Nat} {v : Int} (h : n ≤ 64) (hv : 0 ≤ v) (hv' : v < 18446744073709551616) : d_latheref01_Cut n v = v % 2 ^ n := by
  unfold d_latheref01_Cut
  rw [Bool.cond_eq_ite]
  split
  · rename_i c
    have : n = 64 := by simp at c; omega
    subst this
    exact (Int.emod_eq_of_lt hv (by simpa using hv')).symm
  · rename_i c
    have hn : n < 64 := by simp at c; omega
    have e : min (Int.toNat (n : Int)) (IntKind.bits .u64) = n := by simp only [IntKind.bits]; omega
    have h3 : (2 : Int) ^ n ≤ 2 ^ 63 := by
      have := Nat.pow_le_pow_right (n := 2) (by omega) (show n ≤ 63 by omega)
      exact_mod_cast this
    have h4 : (0 : Int) < 2 ^ n := Int.pow_pos (by decide)
    have h5 : (2 : Int) ^ 63 = 9223372036854775808 := by decide
    have e2 : IntKind.u64.wrap (1 * 2 ^ n) = 2 ^ n := by rw [Int.one_mul, IntKind.wrap_u64]; omega
    rw [e, e2, Int.tmod_eq_emod_of_nonneg hv]
theorem half_eq {n : Nat} (h1 : 1 ≤ n) (h : n ≤ 64) : d_latheref01_half n = 2 ^ (n - 1) := by
  unfold d_latheref01_half
  have e0 : IntKind.i64.wrap ((n : Int) - 1) = ((n - 1 : Nat) : Int) := by rw [IntKind.wrap_i64]; omega
  have e : min (Int.toNat ((n - 1 : Nat) : Int)) (IntKind.bits .u64) = n - 1 := by simp only [IntKind.bits]; omega
  have h3 : (2 : Int) ^ (n - 1) ≤ 2 ^ 63 := by
    have := Nat.pow_le_pow_right (n := 2) (by omega) (show n - 1 ≤ 63 by omega)
    exact_mod_cast this
  have h4 : (0 : Int) < 2 ^ (n - 1) := Int.pow_pos (by decide)
  have h5 : (2 : Int) ^ 63 = 9223372036854775808 := by decide
  rw [e0, e, Int.one_mul, IntKind.wrap_u64]; omega
theorem plain_rep {n : Nat} {v : Int} (h : n ≤ 64) (hv : 0 ≤ v) (hv' : v < 18446744073709551616) : Rep (d_latheref01_Plain n v) (v % 2 ^ n) := by
  unfold d_latheref01_Plain
  rw [cut_eq h hv hv']
  have h1 := mod_range n v
  have h2 := pow_le_int h
  exact ⟨⟨by simp, by simp⟩, ⟨h1.1, by simp only; omega⟩, fun _ => by simp, fun h => by cases h⟩
theorem with_rep {n : Nat} {v : Int} (h1 : 1 ≤ n) (h : n ≤ 64) (hv : 0 ≤ v) (hv' : v < 18446744073709551616) : Rep (d_latheref01_With n v) (sgn n v) := by
  unfold d_latheref01_With
  rw [cut_eq h hv hv', half_eq h1 h]
  have hr := mod_range n v
  have hle := pow_le_int h
  obtain ⟨M, e1, e2, e3, e4, e5, e6, _, _⟩ := dbl h1 h
  rw [← sgn_of_mod' n v]
  generalize v % 2 ^ n = u at *
  have hneg : IntKind.u64.wrap (0 - u) % 2 ^ n = (-u) % 2 ^ n := by
    rw [IntKind.wrap_u64, emod_pow h]; congr 1; omega
  have hw := mod64 (0 - u)
  rw [cut_eq h (by rw [IntKind.wrap_u64]; exact hw.1) (by rw [IntKind.wrap_u64]; exact hw.2), hneg, e3]
  rcases Int.lt_or_le u M with q | q
  · rw [show decide (u < (M : Int)) = true by simpa using q, cond_true, sgn_mid e1 e5 (by omega) q]
    exact ⟨⟨by simp, by simp⟩, ⟨hr.1, by simp only; omega⟩, fun _ => by simp, fun h => by cases h⟩
  · rw [show decide (u < (M : Int)) = false by simpa using q, cond_false, sgn_up e1 e5 q (by omega)]
    have e : (-u) % 2 ^ n = 2 * M - u := by
      rw [e4, show -u = (2 * (M : Int) - u) + (2 * M) * (-1) by omega, Int.add_mul_emod_self_left]
      exact Int.emod_eq_of_lt (by omega) (by omega)
    rw [e]
    exact ⟨⟨by simp, by simp⟩, ⟨by simp only; omega, by simp only; omega⟩, fun h => by (cases h), fun _ => by simp only; omega⟩
theorem less_iff {a b : Bg} {x y : Int} (ha : Rep a x) (hb : Rep b y) : (d_latheref01_less a b = true) ↔ x.natAbs < y.natAbs := by
  unfold d_latheref01_less
  obtain ⟨h1, l1, s1⟩ := a
  obtain ⟨h2, l2, s2⟩ := b
  have := ha.hi; have := ha.lo; have := hb.hi; have := hb.lo
  have p1 := ha.pos; have n1 := ha.neg; have p2 := hb.pos; have n2 := hb.neg
  simp only [Bool.or_eq_true, Bool.and_eq_true, decide_eq_true_eq, beq_iff_eq]
  cases s1 <;> cases s2 <;> simp only [true_implies, Bool.true_eq_false, Bool.false_eq_true, false_implies, reduceCtorEq] at * <;> omega
theorem fixed_rep {h l : Int} {s : Bool} {z : Int} (hh : 0 ≤ h ∧ h < 18446744073709551616) (hl : 0 ≤ l ∧ l < 18446744073709551616) (hz : z = bif s then -(h * 18446744073709551616 + l) else h * 18446744073709551616 + l) : Rep (d_latheref01_fixed ⟨h, l, s⟩) z := by
  unfold d_latheref01_fixed
  rw [Bool.cond_eq_ite]
  cases s
  · simp only [cond_false] at hz
    split
    · exact ⟨hh, hl, fun _ => hz, fun q => by cases q⟩
    · exact ⟨hh, hl, fun _ => hz, fun q => by cases q⟩
  · simp only [cond_true] at hz
    split
    · rename_i c
      simp at c
      exact ⟨hh, hl, fun _ => by simp only; omega, fun q => by cases q⟩
    · rename_i c
      simp at c
      refine ⟨hh, hl, fun q => (by cases q), fun _ => ⟨hz, ?_⟩⟩
      rcases Classical.em (h = 0) with q | q
      · have := c q; omega
      · omega
theorem plus_rep {a b : Bg} {x y : Int} (ha : Rep a x) (hb : Rep b y) (h1 : -340282366920938463463374607431768211456 < x + y) (h2 : x + y < 340282366920938463463374607431768211456) : Rep (d_latheref01_Plus a b) (x + y) := by
  have hless := less_iff ha hb
  unfold d_latheref01_Plus
  obtain ⟨h1, l1, s1⟩ := a
  obtain ⟨h2, l2, s2⟩ := b
  have := ha.hi; have := ha.lo; have := hb.hi; have := hb.lo
  have p1 := ha.pos; have n1 := ha.neg; have p2 := hb.pos; have n2 := hb.neg
  simp only [IntKind.wrap_u64, Bool.cond_eq_ite]
  cases s1 <;> cases s2 <;> simp only [true_implies, Bool.true_eq_false, Bool.false_eq_true, false_implies, reduceCtorEq, beq_self_eq_true, if_true, show (true == false) = false from rfl, show (false == true) = false from rfl, if_false] at *
  · split <;> rename_i c <;> simp only [decide_eq_true_eq] at c
    · exact ⟨by simp only; omega, by simp only; omega, fun _ => by simp only; omega, fun h => by cases h⟩
    · exact ⟨by simp only; omega, by simp only; omega, fun _ => by simp only; omega, fun h => by cases h⟩
  · split <;> rename_i c
    · rw [hless] at c
      split <;> rename_i c2 <;> simp only [decide_eq_true_eq] at c2
      · exact fixed_rep (by omega) (by omega) (by simp only [cond_true]; omega)
      · exact fixed_rep (by omega) (by omega) (by simp only [cond_true]; omega)
    · rw [hless] at c
      split <;> rename_i c2 <;> simp only [decide_eq_true_eq] at c2
      · exact fixed_rep (by omega) (by omega) (by simp only [cond_false]; omega)
      · exact fixed_rep (by omega) (by omega) (by simp only [cond_false]; omega)
  · split <;> rename_i c
    · rw [hless] at c
      split <;> rename_i c2 <;> simp only [decide_eq_true_eq] at c2
      · exact fixed_rep (by omega) (by omega) (by simp only [cond_false]; omega)
      · exact fixed_rep (by omega) (by omega) (by simp only [cond_false]; omega)
    · rw [hless] at c
      split <;> rename_i c2 <;> simp only [decide_eq_true_eq] at c2
      · exact fixed_rep (by omega) (by omega) (by simp only [cond_true]; omega)
      · exact fixed_rep (by omega) (by omega) (by simp only [cond_true]; omega)
  · split <;> rename_i c <;> simp only [decide_eq_true_eq] at c
    · exact ⟨by simp only; omega, by simp only; omega, fun h => (by cases h), fun _ => by simp only; omega⟩
    · exact ⟨by simp only; omega, by simp only; omega, fun h => (by cases h), fun _ => by simp only; omega⟩
theorem minus_rep {a : Bg} {x : Int} (ha : Rep a x) : Rep (d_latheref01_Minus a) (-x) := by
  unfold d_latheref01_Minus
  obtain ⟨h, l, s⟩ := a
  have p := ha.pos; have n := ha.neg
  refine fixed_rep ha.hi ha.lo ?_
  cases s
  · have := p rfl; simp only [Bool.not_false, cond_true]; simp only at this; omega
  · have := n rfl; simp only [Bool.not_true, cond_false]; simp only at this; omega
theorem word_rep {l : Int} (h : 0 ≤ l ∧ l < 18446744073709551616) : Rep ⟨0, l, false⟩ l := ⟨by simp, h, fun _ => by simp, fun h => by cases h⟩
theorem mul_bd {a b : Int} (ha : 0 ≤ a ∧ a ≤ 4294967295) (hb : 0 ≤ b ∧ b ≤ 4294967295) : 0 ≤ a * b ∧ a * b ≤ 18446744065119617025 := by
  refine ⟨Int.mul_nonneg ha.1 hb.1, ?_⟩
  have := Int.mul_le_mul ha.2 hb.2 hb.1 (by omega)
  omega
theorem times_rep {a b : Bg} {x y : Int} (ha : Rep a x) (hb : Rep b y) (hx : a.hi = 0) (hy : b.hi = 0) : Rep (d_latheref01_Times a b) (x * y) := by
  obtain ⟨h1, l1, s1⟩ := a
  obtain ⟨h2, l2, s2⟩ := b
  simp only at hx hy
  subst hx hy
  have b1 := ha.lo; have b2 := hb.lo
  simp only at b1 b2
  have q1 := ha.pos; have n1 := ha.neg; have q2 := hb.pos; have n2 := hb.neg
  unfold d_latheref01_Times
  have e1 : Int.tmod l1 4294967296 = l1 % 4294967296 := Int.tmod_eq_emod_of_nonneg b1.1
  have e2 : Int.tmod l2 4294967296 = l2 % 4294967296 := Int.tmod_eq_emod_of_nonneg b2.1
  have e3 : IntKind.u64.wrap (Int.tdiv l1 4294967296) = l1 / 4294967296 := by rw [Int.tdiv_eq_ediv_of_nonneg b1.1, IntKind.wrap_u64]; omega
  have e4 : IntKind.u64.wrap (Int.tdiv l2 4294967296) = l2 / 4294967296 := by rw [Int.tdiv_eq_ediv_of_nonneg b2.1, IntKind.wrap_u64]; omega
  simp only [e1, e2, e3, e4]
  obtain ⟨p, hp⟩ : ∃ p, p = l1 / 4294967296 := ⟨_, rfl⟩
  obtain ⟨q, hq⟩ : ∃ q, q = l1 % 4294967296 := ⟨_, rfl⟩
  obtain ⟨r, hr⟩ : ∃ r, r = l2 / 4294967296 := ⟨_, rfl⟩
  obtain ⟨u, hu⟩ : ∃ u, u = l2 % 4294967296 := ⟨_, rfl⟩
  simp only [← hp, ← hq, ← hr, ← hu]
  have hpb : 0 ≤ p ∧ p ≤ 4294967295 := by omega
  have hqb : 0 ≤ q ∧ q ≤ 4294967295 := by omega
  have hrb : 0 ≤ r ∧ r ≤ 4294967295 := by omega
  have hub : 0 ≤ u ∧ u ≤ 4294967295 := by omega
  have hl1 : l1 = p * 4294967296 + q := by omega
  have hl2 : l2 = r * 4294967296 + u := by omega
  have hprod : l1 * l2 = p * r * 18446744073709551616 + (p * u + q * r) * 4294967296 + q * u := by
    have f1 : p * (r * 4294967296 + u) = p * r * 4294967296 + p * u := by rw [Int.mul_add, ← Int.mul_assoc]
    have f2 : q * (r * 4294967296 + u) = q * r * 4294967296 + q * u := by rw [Int.mul_add, ← Int.mul_assoc]
    have f3 : (p * 4294967296 + q) * (r * 4294967296 + u) = p * (r * 4294967296 + u) * 4294967296 + q * (r * 4294967296 + u) := by rw [Int.add_mul, Int.mul_right_comm]
    rw [hl1, hl2, f3, f1, f2]
    omega
  have hA := mul_bd hpb hub; have hB := mul_bd hqb hrb; have hC := mul_bd hpb hrb; have hD := mul_bd hqb hub
  obtain ⟨A, eA⟩ : ∃ A, A = p * u := ⟨_, rfl⟩
  obtain ⟨B, eB⟩ : ∃ B, B = q * r := ⟨_, rfl⟩
  obtain ⟨C, eC⟩ : ∃ C, C = p * r := ⟨_, rfl⟩
  obtain ⟨D, eD⟩ : ∃ D, D = q * u := ⟨_, rfl⟩
  simp only [← eA, ← eB, ← eC, ← eD] at *
  have wA : IntKind.u64.wrap A = A := by rw [IntKind.wrap_u64]; omega
  have wB : IntKind.u64.wrap B = B := by rw [IntKind.wrap_u64]; omega
  have wC : IntKind.u64.wrap C = C := by rw [IntKind.wrap_u64]; omega
  have wD : IntKind.u64.wrap D = D := by rw [IntKind.wrap_u64]; omega
  rw [wA, wB, wC, wD]
  have hm := plus_rep (word_rep (l := A) (by omega)) (word_rep (l := B) (by omega)) (by omega) (by omega)
  generalize d_latheref01_Plus ⟨0, A, false⟩ ⟨0, B, false⟩ = mid at *
  obtain ⟨mh, ml, ms⟩ := mid
  have m1 := hm.hi; have m2 := hm.lo; have m3 := hm.pos; have m4 := hm.neg
  simp only at m1 m2 m3 m4
  have hms : ms = false := by
    cases ms
    · rfl
    · have := m4 rfl; omega
  subst hms
  have m3 := m3 rfl
  have hup : Rep ⟨IntKind.u64.wrap (IntKind.u64.wrap (mh * 4294967296) + IntKind.u64.wrap (Int.tdiv ml 4294967296)), IntKind.u64.wrap (Int.tmod ml 4294967296 * 4294967296), false⟩ ((A + B) * 4294967296) := by
    rw [Int.tdiv_eq_ediv_of_nonneg m2.1, Int.tmod_eq_emod_of_nonneg m2.1]
    simp only [IntKind.wrap_u64]
    exact ⟨by simp only; omega, by simp only; omega, fun _ => by simp only; omega, fun h => by cases h⟩
  have hlow := plus_rep (word_rep (l := D) (by omega)) hup (by omega) (by omega)
  have hhigh : Rep ⟨C, 0, false⟩ (C * 18446744073709551616) := ⟨by simp only; omega, by simp, fun _ => by simp, fun h => by cases h⟩
  have hsum := plus_rep hlow hhigh (by omega) (by omega)
  generalize d_latheref01_Plus (d_latheref01_Plus ⟨0, D, false⟩ _) ⟨C, 0, false⟩ = t at *
  obtain ⟨th, tl, ts⟩ := t
  have t1 := hsum.hi; have t2 := hsum.lo; have t3 := hsum.pos; have t4 := hsum.neg
  simp only at t1 t2 t3 t4
  have hts : ts = false := by
    cases ts
    · rfl
    · have := t4 rfl; omega
  subst hts
  have t3 := t3 rfl
  refine fixed_rep t1 t2 ?_
  cases s1 <;> cases s2
  · have e1 := q1 rfl; have e2 := q2 rfl
    simp only [Int.zero_mul, Int.zero_add] at e1 e2
    rw [e1, e2, hprod]; show _ = th * 18446744073709551616 + tl; omega
  · have e1 := q1 rfl; have e2 := (n2 rfl).1
    simp only [Int.zero_mul, Int.zero_add] at e1 e2
    rw [e1, e2, Int.mul_neg, hprod]; show _ = -(th * 18446744073709551616 + tl); omega
  · have e1 := (n1 rfl).1; have e2 := q2 rfl
    simp only [Int.zero_mul, Int.zero_add] at e1 e2
    rw [e1, e2, Int.neg_mul, hprod]; show _ = -(th * 18446744073709551616 + tl); omega
  · have e1 := (n1 rfl).1; have e2 := (n2 rfl).1
    simp only [Int.zero_mul, Int.zero_add] at e1 e2
    rw [e1, e2, Int.neg_mul_neg, hprod]; show _ = th * 18446744073709551616 + tl; omega
theorem wrapped_eq {n : Nat} {a : Bg} {x : Int} (h : n ≤ 64) (ha : Rep a x) : d_latheref01_Wrapped n a = x % 2 ^ n := by
  obtain ⟨ah, al, sa⟩ := a
  have p := ha.pos; have ng := ha.neg; have hl := ha.lo
  simp only at p ng hl
  have hk : ∀ z : Int, (ah * 18446744073709551616 + z) % 2 ^ n = z % 2 ^ n := fun z => by
    rw [← emod_pow h, Int.add_comm, Int.add_mul_emod_self_right, emod_pow h]
  unfold d_latheref01_Wrapped
  cases sa
  · simp only [cond_false]
    rw [cut_eq h hl.1 hl.2, p rfl, hk]
  · simp only [cond_true]
    have hw := mod64 (0 - al)
    rw [cut_eq h (by rw [IntKind.wrap_u64]; exact hw.1) (by rw [IntKind.wrap_u64]; exact hw.2), (ng rfl).1, IntKind.wrap_u64, emod_pow h]
    have e : -(ah * 18446744073709551616 + al) = (0 - al) + 18446744073709551616 * (-ah) := by omega
    rw [e, ← emod_pow h ((0 - al) + 18446744073709551616 * (-ah)), Int.add_mul_emod_self_left, emod_pow h]
theorem fits_eq {n : Nat} {a : Bg} {x : Int} (s : Bool) (h1 : 1 ≤ n) (h : n ≤ 64) (ha : Rep a x) : d_latheref01_fits n a s = bif s then fitsS n x else fitsU n x := by
  have hw := wrapped_eq h ha
  have hr := mod_range n x
  have hle := pow_le_int h
  unfold d_latheref01_fits
  rw [hw]
  cases s
  · simp only [cond_false]
    have hp := plain_rep (v := x % 2 ^ n) h hr.1 (by omega)
    rw [Int.emod_emod_of_dvd _ (Int.dvd_refl _)] at hp
    unfold fitsU
    rw [decide_eq_decide]
    constructor
    · intro e
      rw [e] at hp
      have hx := ha.same hp
      omega
    · intro e
      rw [Int.emod_eq_of_lt e.1 e.2] at hp ⊢
      exact hp.unique ha
  · simp only [cond_true]
    have hp := with_rep (v := x % 2 ^ n) h1 h hr.1 (by omega)
    rw [sgn_of_mod'] at hp
    obtain ⟨M, e1, e2, e3, e4, e5, e6, _, _⟩ := dbl h1 h
    have hsr := sgn_range e1 e5 x
    unfold fitsS
    rw [decide_eq_decide, e3]
    constructor
    · intro e
      rw [e] at hp
      have hx := ha.same hp
      omega
    · intro e
      rw [sgn_mid e1 e5 e.1 e.2] at hp
      exact hp.unique ha
theorem power_step (p : Int) (k : Nat) (y x : Int) : d_latheref01_power_R3 p (k + 1) y x = bif decide (x < p) then d_latheref01_power_R3 p k (IntKind.u64.wrap (y * 2)) (x + 1) else (y, x) := rfl
theorem power_loop (p : Int) : ∀ (m k : Nat) (y x : Int), x + m = p → m < k → 0 ≤ y → y * 2 ^ m < 18446744073709551616 → d_latheref01_power_R3 p k y x = (y * 2 ^ m, p)
  | 0, k + 1, y, x, hx, _, _, _ => by
    rw [power_step, decide_eq_false (by omega), cond_false, Int.pow_zero, Int.mul_one, show x = p by omega]
  | m + 1, k + 1, y, x, hx, hk, hy, hb => by
    rw [power_step, decide_eq_true (by omega), cond_true]
    have e : y * 2 ^ (m + 1) = y * 2 * 2 ^ m := by rw [Int.pow_succ, Int.mul_assoc, Int.mul_comm (2 ^ m) 2]
    have hp : (1 : Int) ≤ 2 ^ m := by
      have : (0 : Int) < 2 ^ m := Int.pow_pos (by decide)
      omega
    have hle : y * 2 ≤ y * 2 * 2 ^ m := by
      have := Int.mul_le_mul_of_nonneg_left hp (show 0 ≤ y * 2 by omega)
      rwa [Int.mul_one] at this
    have hw : IntKind.u64.wrap (y * 2) = y * 2 := by rw [IntKind.wrap_u64]; rw [e] at hb; omega
    rw [hw, power_loop p m k (y * 2) (x + 1) (by omega) (by omega) (by omega) (by rw [← e]; exact hb), e]
  | m, 0, _, _, _, h, _, _ => by omega
theorem power_eq {n : Nat} (h : n < 64) : d_latheref01_power n = ⟨0, 2 ^ n, false⟩ := by
  unfold d_latheref01_power letV
  have hp : (2 : Int) ^ n < 18446744073709551616 := by
    have h2 := pow_le_int (n := n + 1) (by omega)
    rw [Int.pow_succ] at h2
    have h3 : (0 : Int) < 2 ^ n := Int.pow_pos (by decide)
    omega
  rw [power_loop n n _ 1 0 (by omega) (by omega) (by omega) (by rw [Int.one_mul]; exact hp), Int.one_mul]
theorem power_rep {n : Nat} (h : n < 64) : Rep (d_latheref01_power n) (2 ^ n) := by
  rw [power_eq h]
  have hp : (0 : Int) < 2 ^ n := Int.pow_pos (by decide)
  have hq : (2 : Int) ^ n < 18446744073709551616 := by
    have h2 := pow_le_int (n := n + 1) (by omega)
    rw [Int.pow_succ] at h2
    have h3 : (0 : Int) < 2 ^ n := Int.pow_pos (by decide)
    omega
  exact word_rep ⟨by omega, hq⟩
/-! ## Bit by bit -/
def nop (op : Int) (a b : Nat) : Nat := if op = 8 then a &&& b else if op = 9 then a ||| b else a ^^^ b
theorem nop_step (op : Int) (m a b : Nat) : nop op (a % 2 ^ (m + 1)) (b % 2 ^ (m + 1)) = nop op (a % 2) (b % 2) + 2 * nop op (a / 2 % 2 ^ m) (b / 2 % 2 ^ m) := by
  have e : ∀ c : Nat, c % 2 ^ (m + 1) / 2 = c / 2 % 2 ^ m := fun c => by rw [Nat.pow_succ, Nat.mul_comm, Nat.mod_mul_right_div_self]
  have e2 : ∀ c : Nat, c % 2 ^ (m + 1) % 2 = c % 2 := fun c => Nat.mod_mod_of_dvd _ ⟨2 ^ m, by rw [Nat.pow_succ, Nat.mul_comm]⟩
  have h1 : ∀ x y : Nat, nop op x y / 2 = nop op (x / 2) (y / 2) := fun x y => by
    unfold nop
    split
    · exact Nat.and_div_two
    · split
      · exact Nat.or_div_two
      · exact Nat.xor_div_two
  have h2 : ∀ x y : Nat, nop op x y % 2 = nop op (x % 2) (y % 2) := fun x y => by
    unfold nop
    split
    · have := Nat.and_mod_two_pow (a := x) (b := y) (n := 1); simpa using this
    · split
      · have := Nat.or_mod_two_pow (a := x) (b := y) (n := 1); simpa using this
      · have := Nat.xor_mod_two_pow (a := x) (b := y) (n := 1); simpa using this
  have := Nat.div_add_mod (nop op (a % 2 ^ (m + 1)) (b % 2 ^ (m + 1))) 2
  rw [h1, h2, e, e, e2, e2] at this
  omega
theorem bit_nop {op : Int} (ho : op = 8 ∨ op = 9 ∨ op = 10) {x y : Nat} (hx : x < 2) (hy : y < 2) : d_latheref01_bit op x y = (nop op x y : Nat) ∧ nop op x y < 2 := by
  have hx' : x = 0 ∨ x = 1 := by omega
  have hy' : y = 0 ∨ y = 1 := by omega
  rcases ho with rfl | rfl | rfl <;> rcases hx' with rfl | rfl <;> rcases hy' with rfl | rfl <;> decide
theorem bitwise_loop (op w : Int) (ho : op = 8 ∨ op = 9 ∨ op = 10) : ∀ (m k : Nat) (i u : Int) (U V a b : Nat), i + m = w → m < k → (m ≠ 0 → u = U) → V + U * 2 ^ m ≤ 18446744073709551615 + U → a < 18446744073709551616 → b < 18446744073709551616 →
    (d_latheref01_bitwise_R4 op w k i u V a b).2.2.1 = ((V + U * nop op (a % 2 ^ m) (b % 2 ^ m) : Nat) : Int)
  | 0, k + 1, i, u, U, V, a, b, hi, _, _, _, _, _ => by
    unfold d_latheref01_bitwise_R4
    rw [decide_eq_false (by omega), cond_false]
    have : nop op (a % 2 ^ 0) (b % 2 ^ 0) = 0 := by
      rw [Nat.pow_zero, Nat.mod_one, Nat.mod_one]; unfold nop; simp
    rw [this]; simp
  | m + 1, k + 1, i, u, U, V, a, b, hi, hk, hu, hb, ha64, hb64 => by
    unfold d_latheref01_bitwise_R4
    rw [decide_eq_true (by omega), cond_true]
    have hu' : u = U := hu (by omega)
    subst hu'
    obtain ⟨hb1, hb2⟩ := bit_nop ho (Nat.mod_lt a (by omega : 2 > 0)) (Nat.mod_lt b (by omega : 2 > 0))
    have ea : Int.tmod (a : Int) 2 = ((a % 2 : Nat) : Int) := by rw [Int.tmod_eq_emod_of_nonneg (by omega)]; omega
    have eb : Int.tmod (b : Int) 2 = ((b % 2 : Nat) : Int) := by rw [Int.tmod_eq_emod_of_nonneg (by omega)]; omega
    have hp : 1 ≤ 2 ^ m := Nat.pow_pos (by omega)
    have hpow : U * 2 ^ (m + 1) = U * 2 ^ m + U * 2 ^ m := by rw [Nat.pow_succ, ← Nat.mul_assoc]; omega
    have hUm : U ≤ U * 2 ^ m := Nat.le_mul_of_pos_right U hp
    have hUm2 : m ≠ 0 → 2 * U ≤ U * 2 ^ m := fun hm => by
      have : 2 ≤ 2 ^ m := Nat.le_self_pow hm 2
      have := Nat.mul_le_mul_left U this
      omega
    obtain ⟨β, hβ⟩ : ∃ β, β = nop op (a % 2) (b % 2) := ⟨_, rfl⟩
    rw [ea, eb, hb1, nop_step, ← hβ]
    rw [← hβ] at hb2
    have hUβ : U * β ≤ U := by
      have := Nat.mul_le_mul_left U (show β ≤ 1 by omega)
      omega
    have e0 : IntKind.u64.wrap ((U : Int) * (β : Int)) = ((U * β : Nat) : Int) := by
      rw [IntKind.wrap_u64, ← Int.natCast_mul]; omega
    have e1 : IntKind.u64.wrap ((V : Int) + ((U * β : Nat) : Int)) = ((V + U * β : Nat) : Int) := by
      rw [IntKind.wrap_u64, ← Int.natCast_add]; omega
    have e2 : ∀ c : Nat, c < 18446744073709551616 → IntKind.u64.wrap (Int.tdiv (c : Int) 2) = ((c / 2 : Nat) : Int) := fun c hc => by
      rw [Int.tdiv_eq_ediv_of_nonneg (by omega), IntKind.wrap_u64]; omega
    rw [e0, e1, e2 a ha64, e2 b hb64]
    have IH := bitwise_loop op w ho m k (i + 1) (IntKind.u64.wrap ((U : Int) * 2)) (2 * U) (V + U * β) (a / 2) (b / 2) (by omega) (by omega) (fun hm => by
      have := hUm2 hm
      rw [IntKind.wrap_u64]; omega) (by rw [Nat.mul_assoc]; omega) (by omega) (by omega)
    rw [IH]
    congr 1
    rw [Nat.mul_add, Nat.mul_comm 2 U, Nat.mul_assoc]; omega
  | m, 0, _, _, _, _, _, _, _, h, _, _, _, _ => by omega
theorem bitwise_eq {op : Int} {n : Nat} {a b : Int} (ho : op = 8 ∨ op = 9 ∨ op = 10) (h : n ≤ 64) (ha : 0 ≤ a ∧ a < 18446744073709551616) (hb : 0 ≤ b ∧ b < 18446744073709551616) : d_latheref01_bitwise op n a b = bitw op (a % 2 ^ n) (b % 2 ^ n) := by
  obtain ⟨x, rfl⟩ := Int.eq_ofNat_of_zero_le ha.1
  obtain ⟨y, rfl⟩ := Int.eq_ofNat_of_zero_le hb.1
  have hp := pow_le h
  have hL := bitwise_loop op n ho n (((n : Int) - 0).toNat + 1) 0 1 1 0 x y (by omega) (by omega) (fun _ => rfl) (by omega) (by omega) (by omega)
  show (d_latheref01_bitwise_R4 op n (((n : Int) - 0).toNat + 1) 0 1 0 x y).2.2.1 = _
  rw [show (0 : Int) = ((0 : Nat) : Int) from rfl] at hL ⊢
  rw [hL]
  have hx : x % 2 ^ n < 18446744073709551616 := Nat.lt_of_le_of_lt (Nat.mod_le _ _) (by omega)
  have hy : y % 2 ^ n < 18446744073709551616 := Nat.lt_of_le_of_lt (Nat.mod_le _ _) (by omega)
  have ex : ∀ z : Nat, (z : Int) % 2 ^ n = ((z % 2 ^ n : Nat) : Int) := fun z => by rw [Int.natCast_emod, Int.natCast_pow]; rfl
  rw [ex x, ex y, Nat.zero_add, Nat.one_mul]
  unfold bitw nop
  rw [u64_and_nat _ _ hx hy, u64_or_nat _ _ hx hy, u64_xor_nat _ _ hx hy]
  split
  · rfl
  · split <;> rfl
end Go.Proofs.Ytffimfmicapaaaa.Pl
