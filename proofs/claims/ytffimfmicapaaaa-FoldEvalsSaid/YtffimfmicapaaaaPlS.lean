/- Plain: the reference of Apply is what Apply is. -/
import Derived.Test.YtffimfmicapaaaaR01d
namespace Go.Proofs.Ytffimfmicapaaaa.Pl
open Go.Proofs.Ytffimfmicapaaaa
set_option linter.unusedVariables false
set_option linter.unusedSimpArgs false
set_option maxRecDepth 100000
theorem plain_hi (w v : Int) : (d_latheref01_Plain w v).hi = 0 := rfl
theorem with_hi (w v : Int) : (d_latheref01_With w v).hi = 0 := by unfold d_latheref01_With; rw [Bool.cond_eq_ite]; split <;> rfl
theorem quotient_rep {a b : Bg} {x y : Int} (ha : Rep a x) (hb : Rep b y) (h1 : a.hi = 0) (h2 : b.hi = 0) (hy : y ≠ 0) : Rep (d_latheref01_quotient a b).1 (x.tdiv y) ∧ Rep (d_latheref01_quotient a b).2 (x.tmod y) ∧ (d_latheref01_quotient a b).2.hi = 0 := by
  obtain ⟨ah, al, sa⟩ := a
  obtain ⟨bh, bl, sb⟩ := b
  simp only at h1 h2
  subst h1 h2
  have la := ha.lo; have lb := hb.lo
  have pa := ha.pos; have na := ha.neg; have pb := hb.pos; have nb := hb.neg
  simp only [Int.zero_mul, Int.zero_add] at la lb pa na pb nb
  have hbl : 0 < bl := by
    cases sb
    · have := pb rfl; omega
    · have := nb rfl; omega
  have e1 : Int.tdiv al bl = al / bl := Int.tdiv_eq_ediv_of_nonneg la.1
  have e2 : Int.tmod al bl = al % bl := Int.tmod_eq_emod_of_nonneg la.1
  have r1 : 0 ≤ al / bl := Int.ediv_nonneg la.1 (by omega)
  have r2 : al / bl ≤ al := Int.ediv_le_self _ la.1
  have r3 := Int.emod_nonneg al (show bl ≠ 0 by omega)
  have r4 := Int.emod_lt_of_pos al hbl
  have ew : IntKind.u64.wrap (al / bl) = al / bl := by rw [IntKind.wrap_u64]; omega
  unfold d_latheref01_quotient
  simp only [e1, e2, ew]
  have hq : x.tdiv y = bif (sa != sb) then -(0 * 18446744073709551616 + al / bl) else 0 * 18446744073709551616 + al / bl := by
    cases sa <;> cases sb
    · rw [pa rfl, pb rfl, e1]; simp
    · rw [pa rfl, (nb rfl).1, Int.tdiv_neg, e1]; simp
    · rw [(na rfl).1, pb rfl, Int.neg_tdiv, e1]; simp
    · rw [(na rfl).1, (nb rfl).1, Int.neg_tdiv, Int.tdiv_neg, e1]; simp
  have hr : x.tmod y = bif sa then -(0 * 18446744073709551616 + al % bl) else 0 * 18446744073709551616 + al % bl := by
    cases sa <;> cases sb
    · rw [pa rfl, pb rfl, e2]; simp
    · rw [pa rfl, (nb rfl).1, Int.tmod_neg, e2]; simp
    · rw [(na rfl).1, pb rfl, Int.neg_tmod, e2]; simp
    · rw [(na rfl).1, (nb rfl).1, Int.neg_tmod, Int.tmod_neg, e2]; simp
  refine ⟨fixed_rep ⟨by omega, by omega⟩ ⟨by omega, by omega⟩ hq, fixed_rep ⟨by omega, by omega⟩ ⟨by omega, by omega⟩ hr, ?_⟩
  unfold d_latheref01_fixed
  rw [Bool.cond_eq_ite]; split <;> rfl
theorem flags_eq (op : Int) : d_latheref01_Flags op = flags op := by
  unfold d_latheref01_Flags flags
  simp only [Bool.cond_eq_ite, Bool.or_eq_true, beq_iff_eq, or_assoc]
theorem opI_11 {x y : Int} : opI 11 x y = x * y := by unfold opI; rw [if_neg (by omega), if_neg (by omega)]
/-- The exact number. -/
theorem exact_rep {op : Int} {n : Nat} {a b : Int} (s : Bool) (h1 : 1 ≤ n) (h : n ≤ 64) (ha : 0 ≤ a ∧ a < 18446744073709551616) (hb : 0 ≤ b ∧ b < 18446744073709551616) :
    (op = 1 ∨ op = 2 ∨ op = 3 → Rep (d_latheref01_exact op n a b s) (opI op (bif s then sgn n a else a % 2 ^ n) (bif s then sgn n b else b % 2 ^ n))) ∧
    (op = 11 → b % 2 ^ n < n → Rep (d_latheref01_exact op n a b s) ((bif s then sgn n a else a % 2 ^ n) * 2 ^ (b % 2 ^ n).toNat)) := by
  have pa := plain_rep (v := a) h ha.1 ha.2
  have pb := plain_rep (v := b) h hb.1 hb.2
  have wa := with_rep (v := a) h1 h ha.1 ha.2
  have wb := with_rep (v := b) h1 h hb.1 hb.2
  have ra := mod_range n a
  have rb := mod_range n b
  have hle := pow_le_int h
  obtain ⟨M, e1, e2, e3, e4, e5, e6, _, _⟩ := dbl h1 h
  have sa := sgn_range e1 e5 a
  have sb := sgn_range e1 e5 b
  have o1 : ∀ x y, opI 1 x y = x + y := fun x y => rfl
  have o2 : ∀ x y, opI 2 x y = x + -y := fun x y => rfl
  have o3 : ∀ x y, opI 3 x y = x * y := fun x y => rfl
  constructor
  · rintro (rfl | rfl | rfl)
    · rw [o1]
      cases s
      · exact plus_rep pa pb (by omega) (by omega)
      · exact plus_rep wa wb (by simp only [cond_true]; omega) (by simp only [cond_true]; omega)
    · rw [o2]
      cases s
      · exact plus_rep pa (minus_rep pb) (by simp only [cond_false]; omega) (by simp only [cond_false]; omega)
      · exact plus_rep wa (minus_rep wb) (by simp only [cond_true]; omega) (by simp only [cond_true]; omega)
    · rw [o3]
      cases s
      · exact times_rep pa pb (plain_hi _ _) (plain_hi _ _)
      · exact times_rep wa wb (with_hi _ _) (with_hi _ _)
  · rintro rfl hlt
    obtain ⟨k, hk⟩ := Int.eq_ofNat_of_zero_le rb.1
    have hl : (d_latheref01_Plain n b).lo = k := by rw [← hk]; exact cut_eq h hb.1 hb.2
    have hp := power_rep (n := k) (by omega)
    rw [← hl] at hp
    rw [hk, Int.toNat_natCast]
    have hph : (d_latheref01_power (d_latheref01_Plain n b).lo).hi = 0 := by rw [hl, power_eq (by omega)]
    cases s
    · exact times_rep pa hp (plain_hi _ _) hph
    · exact times_rep wa hp (with_hi _ _) hph
theorem flagged_ring {op : Int} {n : Nat} {f a b : Int} (ho : op = 1 ∨ op = 2 ∨ op = 3) (h1 : 1 ≤ n) (h : n ≤ 64) (ha : 0 ≤ a ∧ a < 18446744073709551616) (hb : 0 ≤ b ∧ b < 18446744073709551616) (hf : f = 0 ∨ f = 1 ∨ f = 2 ∨ f = 3) :
    d_latheref01_flagged op n f a b = cutR n (core op n f (a % 2 ^ n) (b % 2 ^ n)) := by
  have hn : (op == 11) = false := by simp; omega
  have e0 := (exact_rep (op := op) (n := n) (a := a) (b := b) false h1 h ha hb).1 ho
  have e1 := (exact_rep (op := op) (n := n) (a := a) (b := b) true h1 h ha hb).1 ho
  simp only [cond_false, cond_true] at e0 e1
  unfold d_latheref01_flagged
  rw [hn, Bool.false_and, cond_false, fits_eq false h1 h e0, fits_eq true h1 h e1, wrapped_eq h e0, nuw_eq hf, nsw_eq hf, core_ring (by omega)]
  simp only [cond_false, cond_true]
  unfold ring over
  rw [sgn_of_mod', sgn_of_mod']
  cases (nuw f && !fitsU n (opI op (a % 2 ^ n) (b % 2 ^ n)) || nsw f && !fitsS n (opI op (sgn n a) (sgn n b)))
  · simp only [cond_false]
    rw [cutR_f rfl]
    simp only
    rw [emod_pow h]
  · rfl
theorem wr_n {n : Nat} (h : n ≤ 64) : IntKind.u64.wrap (n : Int) = n := by rw [IntKind.wrap_u64]; omega
theorem flagged_shift {n : Nat} {f a b : Int} (h1 : 1 ≤ n) (h : n ≤ 64) (ha : 0 ≤ a ∧ a < 18446744073709551616) (hb : 0 ≤ b ∧ b < 18446744073709551616) (hf : f = 0 ∨ f = 1 ∨ f = 2 ∨ f = 3) :
    d_latheref01_flagged 11 n f a b = cutR n (core 11 n f (a % 2 ^ n) (b % 2 ^ n)) := by
  have hcut := cut_eq (v := b) h hb.1 hb.2
  have hle := pow_le_int h
  unfold d_latheref01_flagged
  rw [hcut, wr_n h, core_shift (by omega) (by omega)]
  unfold shift
  rcases Int.lt_or_le (b % 2 ^ n) n with hlt | hge
  · have e0 := (exact_rep (op := 11) (n := n) (a := a) (b := b) false h1 h ha hb).2 rfl hlt
    have e1 := (exact_rep (op := 11) (n := n) (a := a) (b := b) true h1 h ha hb).2 rfl hlt
    simp only [cond_false, cond_true] at e0 e1
    rw [decide_eq_false (by omega), Bool.and_false, cond_false, fits_eq false h1 h e0, fits_eq true h1 h e1, wrapped_eq h e0, nuw_eq hf, nsw_eq hf, if_neg (by omega), if_pos rfl]
    simp only [cond_false, cond_true]
    unfold over
    rw [sgn_of_mod']
    cases (nuw f && !fitsU n (a % 2 ^ n * 2 ^ (b % 2 ^ n).toNat) || nsw f && !fitsS n (sgn n a * 2 ^ (b % 2 ^ n).toNat))
    · simp only [cond_false]
      rw [cutR_f rfl]
      simp only
      rw [Int.emod_emod_of_dvd _ (Int.dvd_refl _)]
    · rfl
  · rw [decide_eq_true hge, if_pos hge]; rfl
theorem lo_zero {a : Bg} {x : Int} (ha : Rep a x) (h : a.hi = 0) : (a.lo != 0) = (x != 0) := by
  cases hb : a.below
  · have := ha.pos hb
    rw [h, Int.zero_mul, Int.zero_add] at this
    rw [this]
  · have := ha.neg hb
    rw [h, Int.zero_mul, Int.zero_add] at this
    rw [show x = -a.lo from this.1, Bool.eq_iff_iff]; simp
theorem below_neg {a : Bg} {x : Int} (ha : Rep a x) : a.below = decide (x < 0) := by
  have := ha.lo; have := ha.hi
  cases hb : a.below
  · have := ha.pos hb; rw [decide_eq_false (by omega)]
  · have := ha.neg hb; rw [decide_eq_true (by omega)]
theorem divR_cut {op : Int} {n : Nat} {f q r : Int} (h : n ≤ 64) : cutR n (divR op f q r) = if op = 6 ∨ op = 7 then (r % 2 ^ n, 0) else if f = 4 ∧ r ≠ 0 then (0, 1) else (q % 2 ^ n, 0) := by
  unfold divR
  split
  · rw [cutR_f rfl]; simp only; rw [emod_pow h]
  · split
    · rfl
    · rw [cutR_f rfl]; simp only; rw [emod_pow h]
theorem sgn_zero {n : Nat} {v : Int} (h : v % 2 ^ n ≠ 0) : sgn n v ≠ 0 := by
  intro hz
  have hs := sgn_dvd n v
  rw [hz, Int.zero_sub] at hs
  exact h (Int.emod_eq_zero_of_dvd ((Int.dvd_neg).1 hs))
theorem fits_quot {n : Nat} {x y : Int} (h1 : 1 ≤ n) (h : n ≤ 64) (M : Nat) (hM : (2 : Int) ^ (n - 1) = M) (hx : -(M : Int) ≤ x ∧ x < M) (hy : -(M : Int) ≤ y ∧ y < M) (hy0 : y ≠ 0) : fitsS n (x.tdiv y) = !(decide (y = -1 ∧ x = -(M : Int))) := by
  unfold fitsS
  rw [hM]
  have hab : (x.tdiv y).natAbs ≤ x.natAbs := by rw [Int.natAbs_tdiv]; exact Nat.div_le_self _ _
  rcases Classical.em (y = -1) with rfl | hy1
  · have e : x.tdiv (-1) = -x := by rw [Int.tdiv_neg, Int.tdiv_one]
    rw [e, Bool.eq_iff_iff]; simp; omega
  · rw [show decide (y = -1 ∧ x = -(M : Int)) = false by simp; intro q; exact absurd q hy1]
    simp only [Bool.not_false, decide_eq_true_eq]
    rcases Classical.em (x = -(M : Int)) with rfl | hx1
    · rcases Classical.em (y = 1) with rfl | hy2
      · rw [Int.tdiv_one]; omega
      · have : ((-(M : Int)).tdiv y).natAbs ≤ M / 2 := by
          rw [Int.natAbs_tdiv, Int.natAbs_neg, Int.natAbs_natCast]
          exact Nat.div_le_div_left (by omega) (by omega)
        have hMp : 0 < M := by omega
        omega
    · omega
theorem divided_eq {op : Int} {n : Nat} {f a b : Int} (ho : op = 4 ∨ op = 5 ∨ op = 6 ∨ op = 7) (h1 : 1 ≤ n) (h : n ≤ 64) (ha : 0 ≤ a ∧ a < 18446744073709551616) (hb : 0 ≤ b ∧ b < 18446744073709551616) :
    d_latheref01_divided op n f a b = cutR n (core op n f (a % 2 ^ n) (b % 2 ^ n)) := by
  have hcut := cut_eq (v := b) h hb.1 hb.2
  have ra := mod_range n a
  have rb := mod_range n b
  obtain ⟨M, e1, e2, e3, e4, e5, e6, _, _⟩ := dbl h1 h
  have pa := plain_rep (v := a) h ha.1 ha.2
  have pb := plain_rep (v := b) h hb.1 hb.2
  have wa := with_rep (v := a) h1 h ha.1 ha.2
  have wb := with_rep (v := b) h1 h hb.1 hb.2
  have sa := sgn_range e1 e5 a
  have sb := sgn_range e1 e5 b
  unfold d_latheref01_divided
  rw [hcut, core_div (by omega) (by omega)]
  unfold div
  rcases Classical.em (b % 2 ^ n = 0) with hz | hz
  · rw [if_pos hz, hz]; rfl
  · rw [if_neg hz, show (b % 2 ^ n == 0) = false by simpa using hz, cond_false]
    rcases Classical.em (op = 5 ∨ op = 7) with hs | hs
    · have c1 : (op == 5 || op == 7) = true := by simpa using hs
      have c2 : (op == 6 || op == 7) = decide (op = 6 ∨ op = 7) := by rw [Bool.eq_iff_iff]; simp
      obtain ⟨q1, q2, q3⟩ := quotient_rep wa wb (with_hi _ _) (with_hi _ _) (sgn_zero hz)
      rw [c1, cond_true, fits_eq true h1 h q1, cond_true, fits_quot h1 h M e3 sa sb (sgn_zero hz), Bool.not_not, wrapped_eq h q1, wrapped_eq h q2, lo_zero q2 q3, if_neg (by omega), sgn_of_mod', sgn_of_mod']
      have hleast : (sgn n b = -1 ∧ sgn n a = -(M : Int)) ↔ (sgn n b = -1 ∧ a % 2 ^ n = 2 ^ (n - 1)) := by
        rw [e3]
        constructor
        · rintro ⟨g1, g2⟩
          refine ⟨g1, ?_⟩
          rw [← sgn_of_mod' n a] at g2
          rcases Int.lt_or_le (a % 2 ^ n) M with q | q
          · rw [sgn_mid e1 e5 (by omega) q] at g2; omega
          · rw [sgn_up e1 e5 q (by omega)] at g2; omega
        · rintro ⟨g1, g2⟩
          refine ⟨g1, ?_⟩
          rw [← sgn_of_mod' n a, g2, sgn_up e1 e5 (by omega) (by omega)]; omega
      rcases Classical.em (sgn n b = -1 ∧ sgn n a = -(M : Int)) with g | g
      · rw [decide_eq_true g, if_pos (hleast.1 g)]; rfl
      · rw [decide_eq_false g, if_neg (fun q => g (hleast.2 q)), divR_cut h, cond_false, c2]
        simp only [Bool.cond_eq_ite, Bool.and_eq_true, beq_iff_eq, bne_iff_ne, decide_eq_true_eq]
    · have c1 : (op == 5 || op == 7) = false := by simp; omega
      have c2 : (op == 6 || op == 7) = decide (op = 6 ∨ op = 7) := by rw [Bool.eq_iff_iff]; simp
      obtain ⟨q1, q2, q3⟩ := quotient_rep pa pb (plain_hi _ _) (plain_hi _ _) hz
      have t1 : (a % 2 ^ n).tdiv (b % 2 ^ n) = a % 2 ^ n / (b % 2 ^ n) := Int.tdiv_eq_ediv_of_nonneg ra.1
      have t2 : (a % 2 ^ n).tmod (b % 2 ^ n) = a % 2 ^ n % (b % 2 ^ n) := Int.tmod_eq_emod_of_nonneg ra.1
      have r1 : 0 ≤ a % 2 ^ n / (b % 2 ^ n) := Int.ediv_nonneg ra.1 rb.1
      have r2 : a % 2 ^ n / (b % 2 ^ n) ≤ a % 2 ^ n := Int.ediv_le_self _ ra.1
      have hf : fitsU n ((a % 2 ^ n).tdiv (b % 2 ^ n)) = true := by unfold fitsU; rw [t1]; simp only [decide_eq_true_eq]; omega
      rw [c1, cond_false, fits_eq false h1 h q1, cond_false, hf, Bool.not_true, cond_false, wrapped_eq h q1, wrapped_eq h q2, lo_zero q2 q3, t1, t2, if_pos (by omega), divR_cut h, c2]
      simp only [Bool.cond_eq_ite, Bool.and_eq_true, beq_iff_eq, bne_iff_ne, decide_eq_true_eq]
theorem floor_eq {x p : Int} (hp : 0 < p) : x / p = bif decide (x.tmod p < 0) then x.tdiv p + -1 else x.tdiv p := by
  have h1 := Int.mul_tdiv_add_tmod x p
  have h2 := Int.tmod_lt_of_pos x hp
  rcases Int.lt_or_le x 0 with hx | hx
  · have h3 : x.tmod p ≤ 0 := by
      have := Int.tmod_nonneg p (show 0 ≤ -x by omega)
      rw [Int.neg_tmod] at this; omega
    have h4 : -p < x.tmod p := by
      have := Int.tmod_lt_of_pos (-x) hp
      rw [Int.neg_tmod] at this; omega
    rcases Int.lt_or_le (x.tmod p) 0 with q | q
    · rw [decide_eq_true q, cond_true]
      have e : x = p * (x.tdiv p + -1) + (x.tmod p + p) := by rw [Int.mul_add]; omega
      have := (Int.ediv_emod_unique hp).2 ⟨show (x.tmod p + p) + p * (x.tdiv p + -1) = x by omega, by omega, by omega⟩
      exact this.1
    · rw [decide_eq_false (by omega), cond_false]
      have := (Int.ediv_emod_unique hp).2 ⟨show x.tmod p + p * x.tdiv p = x by omega, by omega, by omega⟩
      exact this.1
  · have h3 := Int.tmod_nonneg p hx
    rw [decide_eq_false (by omega), cond_false, Int.tdiv_eq_ediv_of_nonneg hx]
theorem tmod_zero {x p : Int} : (x.tmod p != 0) = (x % p != 0) := by
  have h : x.tmod p = 0 ↔ x % p = 0 := (Int.dvd_iff_tmod_eq_zero.symm).trans Int.dvd_iff_emod_eq_zero
  rw [Bool.eq_iff_iff]; simp only [bne_iff_ne, ne_eq, h]
theorem right_eq {op : Int} {n : Nat} {f a b : Int} (ho : op = 12 ∨ op = 13) (h1 : 1 ≤ n) (h : n ≤ 64) (ha : 0 ≤ a ∧ a < 18446744073709551616) (hb : 0 ≤ b ∧ b < 18446744073709551616) :
    d_latheref01_right op n f a b = cutR n (core op n f (a % 2 ^ n) (b % 2 ^ n)) := by
  have hcut := cut_eq (v := b) h hb.1 hb.2
  have ra := mod_range n a
  have rb := mod_range n b
  have hle := pow_le_int h
  obtain ⟨M, e1, e2, e3, e4, e5, e6, _, _⟩ := dbl h1 h
  have pa := plain_rep (v := a) h ha.1 ha.2
  have wa := with_rep (v := a) h1 h ha.1 ha.2
  have sa := sgn_range e1 e5 a
  unfold d_latheref01_right
  rw [hcut, wr_n h, core_shift (by omega) (by omega)]
  unfold shift
  rcases Int.lt_or_le (b % 2 ^ n) n with hlt | hge
  · obtain ⟨k, hk⟩ := Int.eq_ofNat_of_zero_le rb.1
    rw [hk] at hlt ⊢
    have hp := power_rep (n := k) (by omega)
    have hpp : (0 : Int) < 2 ^ k := Int.pow_pos (by decide)
    have hph : (d_latheref01_power k).hi = 0 := by rw [power_eq (by omega)]
    rw [decide_eq_false (by omega), cond_false, if_neg (by omega), if_neg (by omega), Int.toNat_natCast]
    have neg1 : Rep ⟨0, 1, true⟩ (-1) := ⟨by simp, by simp, fun h => (by cases h), fun _ => by simp⟩
    rcases ho with rfl | rfl
    · obtain ⟨q1, q2, q3⟩ := quotient_rep pa hp (plain_hi _ _) hph (by omega)
      have t1 : (a % 2 ^ n).tdiv (2 ^ k) = a % 2 ^ n / 2 ^ k := Int.tdiv_eq_ediv_of_nonneg ra.1
      have t2 : (a % 2 ^ n).tmod (2 ^ k) = a % 2 ^ n % 2 ^ k := Int.tmod_eq_emod_of_nonneg ra.1
      have t3 := Int.emod_nonneg (a % 2 ^ n) (show (2 : Int) ^ k ≠ 0 by omega)
      rw [show ((12 : Int) == 13) = false from rfl, cond_false, lo_zero q2 q3, below_neg q2, wrapped_eq h q1, t1, t2, decide_eq_false (by omega), cond_false, if_pos rfl]
      cases (f == 4 && a % 2 ^ n % 2 ^ k != 0)
      · simp only [cond_false]; rw [cutR_f rfl]
      · rfl
    · obtain ⟨q1, q2, q3⟩ := quotient_rep wa hp (with_hi _ _) hph (by omega)
      have hfl := floor_eq (x := sgn n a) hpp
      have hmod : sgn n a % 2 ^ k = a % 2 ^ n % 2 ^ k := by
        obtain ⟨c, hc⟩ := sgn_dvd n (a % 2 ^ n)
        rw [sgn_of_mod'] at hc
        have e : sgn n a = a % 2 ^ n + 2 ^ k * (2 ^ (n - k) * c) := by
          rw [← Int.mul_assoc, ← Int.pow_add, show k + (n - k) = n by omega, ← hc]; omega
        rw [e, Int.add_mul_emod_self_left]
      rw [show ((13 : Int) == 13) = true from rfl, cond_true, lo_zero q2 q3, below_neg q2, wrapped_eq h q1, tmod_zero, hmod, if_neg (by omega), sgn_of_mod', hfl]
      have hsum := plus_rep q1 neg1 (by
        have : ((sgn n a).tdiv (2 ^ k)).natAbs ≤ (sgn n a).natAbs := by rw [Int.natAbs_tdiv]; exact Nat.div_le_self _ _
        omega) (by
        have : ((sgn n a).tdiv (2 ^ k)).natAbs ≤ (sgn n a).natAbs := by rw [Int.natAbs_tdiv]; exact Nat.div_le_self _ _
        omega)
      rw [wrapped_eq h hsum]
      cases (f == 4 && a % 2 ^ n % 2 ^ k != 0)
      · simp only [cond_false]
        rw [cutR_f rfl]
        cases decide ((sgn n a).tmod (2 ^ k) < 0)
        · simp only [cond_false]; rw [emod_pow h]
        · simp only [cond_true]; rw [emod_pow h]
      · rfl
  · rw [decide_eq_true hge, if_pos hge]; rfl
theorem compared_eq {op : Int} {n : Nat} {a b : Int} (ho : 14 ≤ op ∧ op ≤ 19) (h1 : 1 ≤ n) (h : n ≤ 64) (ha : 0 ≤ a ∧ a < 18446744073709551616) (hb : 0 ≤ b ∧ b < 18446744073709551616) :
    d_latheref01_compared op n a b = cmp op n (a % 2 ^ n) (b % 2 ^ n) := by
  have pa := plain_rep (v := a) h ha.1 ha.2
  have pb := plain_rep (v := b) h hb.1 hb.2
  have wa := with_rep (v := a) h1 h ha.1 ha.2
  have wb := with_rep (v := b) h1 h hb.1 hb.2
  have ra := mod_range n a
  have rb := mod_range n b
  have hle := pow_le_int h
  obtain ⟨M, e1, e2, e3, e4, e5, e6, _, _⟩ := dbl h1 h
  have sa := sgn_range e1 e5 a
  have sb := sgn_range e1 e5 b
  have zero : Rep ⟨0, 0, false⟩ 0 := ⟨by simp, by simp, fun _ => by simp, fun h => by cases h⟩
  have dp := plus_rep pa (minus_rep pb) (by omega) (by omega)
  have dw := plus_rep wa (minus_rep wb) (by omega) (by omega)
  have isz : ∀ {d : Bg} {x : Int}, Rep d x → decide (d = ⟨0, 0, false⟩) = decide (x = 0) := fun {d x} hd => by
    rw [decide_eq_decide]
    constructor
    · intro e; rw [e] at hd; exact hd.same zero
    · intro e; rw [e] at hd; exact hd.unique zero
  unfold d_latheref01_compared cmp
  rw [isz dp, isz dw, below_neg dp, below_neg dw, sgn_of_mod', sgn_of_mod']
  have : op = 14 ∨ op = 15 ∨ op = 16 ∨ op = 17 ∨ op = 18 ∨ op = 19 := by omega
  rcases this with rfl | rfl | rfl | rfl | rfl | rfl
  · show decide _ = _; rw [if_pos rfl, Bool.eq_iff_iff]; simp; omega
  · show (!decide _) = _; rw [if_neg (by omega), if_pos rfl, Bool.eq_iff_iff]; simp; omega
  · show decide _ = _; rw [if_neg (by omega), if_neg (by omega), if_pos rfl, decide_eq_decide]; omega
  · show (decide _ || decide _) = _; rw [if_neg (by omega), if_neg (by omega), if_neg (by omega), if_pos rfl, Bool.eq_iff_iff]; simp; omega
  · show decide _ = _; rw [if_neg (by omega), if_neg (by omega), if_neg (by omega), if_neg (by omega), if_pos rfl, decide_eq_decide]; omega
  · show (decide _ || decide _) = _; rw [if_neg (by omega), if_neg (by omega), if_neg (by omega), if_neg (by omega), if_neg (by omega), Bool.eq_iff_iff]; simp; omega
theorem bitw_mod {op : Int} {n : Nat} {a b : Int} (ho : op = 8 ∨ op = 9 ∨ op = 10) (h : n ≤ 64) : bitw op (a % 2 ^ n) (b % 2 ^ n) % 2 ^ n = bitw op (a % 2 ^ n) (b % 2 ^ n) := by
  have ra := mod_range n a
  have rb := mod_range n b
  have hle := pow_le_int h
  have hp := pow_le h
  obtain ⟨x, hx⟩ := Int.eq_ofNat_of_zero_le ra.1
  obtain ⟨y, hy⟩ := Int.eq_ofNat_of_zero_le rb.1
  have hc : ((2 ^ n : Nat) : Int) = 2 ^ n := pow_cast n
  have hx' : x < 2 ^ n := by omega
  have hy' : y < 2 ^ n := by omega
  rw [hx, hy]
  unfold bitw
  rw [u64_and_nat _ _ (by omega) (by omega), u64_or_nat _ _ (by omega) (by omega), u64_xor_nat _ _ (by omega) (by omega), ← hc]
  have b1 := Nat.and_lt_two_pow x hy'
  have b2 := Nat.or_lt_two_pow hx' hy'
  have b3 := Nat.xor_lt_two_pow hx' hy'
  split
  · exact Int.emod_eq_of_lt (by omega) (by omega)
  · split
    · exact Int.emod_eq_of_lt (by omega) (by omega)
    · exact Int.emod_eq_of_lt (by omega) (by omega)
theorem apply_ref {op w f a b : Int} (hf : -9223372036854775808 ≤ f ∧ f ≤ 9223372036854775807) (ha : 0 ≤ a ∧ a < 18446744073709551616) (hb : 0 ≤ b ∧ b < 18446744073709551616) : d_latheref01_Apply op w f a b = apply op w f a b := by
  unfold d_latheref01_Apply
  rw [flags_eq]
  cases hbad : badA op w f
  · obtain ⟨⟨n, rfl, h1, h2⟩, o1, o2, hfl⟩ := goodA hbad
    have hc : (((!(d_latheref01_width n)) || decide (op < 1)) || decide (19 < op) || (bits .andNot .i64 f (flags op)) != 0) = false := by
      rw [hfl]; unfold d_latheref01_width; simp; omega
    rw [hc, cond_false, apply_ok hbad]
    have : op = 1 ∨ op = 2 ∨ op = 3 ∨ op = 4 ∨ op = 5 ∨ op = 6 ∨ op = 7 ∨ op = 8 ∨ op = 9 ∨ op = 10 ∨ op = 11 ∨ op = 12 ∨ op = 13 ∨ 14 ≤ op := by omega
    have f3 : flags op = 3 → f = 0 ∨ f = 1 ∨ f = 2 ∨ f = 3 := fun h => flags3 hf.1 hf.2 (h ▸ hfl)
    rcases this with rfl | rfl | rfl | rfl | rfl | rfl | rfl | rfl | rfl | rfl | rfl | rfl | rfl | h14
    · exact flagged_ring (.inl rfl) h1 h2 ha hb (f3 rfl)
    · exact flagged_ring (.inr (.inl rfl)) h1 h2 ha hb (f3 rfl)
    · exact flagged_ring (.inr (.inr rfl)) h1 h2 ha hb (f3 rfl)
    · exact divided_eq (by omega) h1 h2 ha hb
    · exact divided_eq (by omega) h1 h2 ha hb
    · exact divided_eq (by omega) h1 h2 ha hb
    · exact divided_eq (by omega) h1 h2 ha hb
    · show (d_latheref01_bitwise 8 n a b, (0 : Int)) = _
      rw [bitwise_eq (by omega) h2 ha hb, core_bit (by omega) (by omega), cutR_f rfl]; simp only; rw [bitw_mod (by omega) h2]
    · show (d_latheref01_bitwise 9 n a b, (0 : Int)) = _
      rw [bitwise_eq (by omega) h2 ha hb, core_bit (by omega) (by omega), cutR_f rfl]; simp only; rw [bitw_mod (by omega) h2]
    · show (d_latheref01_bitwise 10 n a b, (0 : Int)) = _
      rw [bitwise_eq (by omega) h2 ha hb, core_bit (by omega) (by omega), cutR_f rfl]; simp only; rw [bitw_mod (by omega) h2]
    · exact flagged_shift h1 h2 ha hb (f3 rfl)
    · exact right_eq (by omega) h1 h2 ha hb
    · exact right_eq (by omega) h1 h2 ha hb
    · have hno : ∀ k : Int, k < 14 → (op == k) = false := fun k hk => by simp; omega
      rw [hno 1 (by omega), hno 2 (by omega), hno 3 (by omega), hno 4 (by omega), hno 5 (by omega), hno 6 (by omega), hno 7 (by omega), hno 8 (by omega), hno 9 (by omega), hno 10 (by omega), hno 11 (by omega), hno 12 (by omega), hno 13 (by omega)]
      simp only [cond_false]
      rw [compared_eq ⟨h14, o2⟩ h1 h2 ha hb, core_cmp h14, cutR_f rfl]
      have h2n : (2 : Int) ≤ 2 ^ n := by
        obtain ⟨M, e1, e2, e3, e4, e5, _⟩ := dbl h1 h2
        omega
      cases cmp op n (a % 2 ^ n) (b % 2 ^ n)
      · simp only [cond_false]; rw [Int.emod_eq_of_lt (by omega) (by omega)]
      · simp only [cond_true]; rw [Int.emod_eq_of_lt (by omega) (by omega)]
  · rw [apply_bad hbad]
    have hc : (((!(d_latheref01_width w)) || decide (op < 1)) || decide (19 < op) || (bits .andNot .i64 f (flags op)) != 0) = true := by
      unfold badA at hbad
      rw [← hbad]
      congr 3
      unfold d_latheref01_width
      rw [Bool.eq_iff_iff]; simp only [Bool.not_eq_true', Bool.and_eq_false_iff, decide_eq_false_iff_not, beq_iff_eq, mask_zero]; omega
    rw [hc]; rfl
end Go.Proofs.Ytffimfmicapaaaa.Pl
