/- The engine and the contracts of the functions that the statement reaches, part 4. -/
import Derived.Test.YtjfdbmfcnhjfoaaMc
import Derived.WalkKit
import Derived.Below
import Derived.Laws.Bits64b
import Derived.Laws.BitsAllLaws
set_option linter.unusedVariables false
set_option linter.unusedSimpArgs false
set_option maxRecDepth 100000
set_option maxHeartbeats 8000000
namespace Go.Proofs.Ytjfdbmfcnhjfoaa
open Go.RowKit
end Go.Proofs.Ytjfdbmfcnhjfoaa
namespace Go.Proofs.Ytjfdbmfcnhjfoaa.Pl
open Go.RowKit
set_option linter.unusedVariables false
def flags (op : Int) : Int := if op = 1 ∨ op = 2 ∨ op = 3 ∨ op = 11 then 3 else if op = 4 ∨ op = 5 ∨ op = 12 ∨ op = 13 then 4 else 0
def sgn (n : Nat) (v : Int) : Int := Int.bmod v (2 ^ n)
def mask (t : Int) : Int := if 1 ≤ t ∧ t ≤ 64 then ((2 ^ t.toNat - 1 : Nat) : Int) else 0
def signed (t v : Int) : Int := if 1 ≤ t ∧ t ≤ 64 then sgn t.toNat v else 0
theorem mask_out {t : Int} (h : ¬ (1 ≤ t ∧ t ≤ 64)) : mask t = 0 := if_neg h
theorem signed_out {t v : Int} (h : ¬ (1 ≤ t ∧ t ≤ 64)) : signed t v = 0 := if_neg h
theorem mask_in {n : Nat} (h : 1 ≤ n) (h' : n ≤ 64) : mask n = ((2 ^ n - 1 : Nat) : Int) := if_pos (by omega)
theorem signed_in {n : Nat} {v : Int} (h : 1 ≤ n) (h' : n ≤ 64) : signed n v = sgn n v := if_pos (by omega)
def fitsU (n : Nat) (z : Int) : Bool := decide (0 ≤ z ∧ z < 2 ^ n)
def fitsS (n : Nat) (z : Int) : Bool := decide (-2 ^ (n - 1) ≤ z ∧ z < 2 ^ (n - 1))
theorem pow_le {n : Nat} (h : n ≤ 64) : 2 ^ n ≤ 18446744073709551616 := by
  have := Nat.pow_le_pow_right (n := 2) (by omega) h
  simpa using this
theorem pow_split {n : Nat} (h : n ≤ 64) : 2 ^ (64 - n) * 2 ^ n = 18446744073709551616 := by
  rw [← Nat.pow_add, show 64 - n + n = 64 from by omega]
theorem pow_pos (n : Nat) : 0 < 2 ^ n := Nat.pow_pos (by omega)
theorem pow_half {n : Nat} (h : 1 ≤ n) : 2 ^ n = 2 * 2 ^ (n - 1) := by
  conv => lhs; rw [show n = (n - 1) + 1 from by omega, Nat.pow_succ]
  omega
theorem mask_nat {n : Nat} (h' : n ≤ 64) : 18446744073709551615 / 2 ^ (64 - n) = 2 ^ n - 1 := by
  have hp := pow_split h'
  have h0 := pow_pos n
  have h1 := pow_pos (64 - n)
  generalize 2 ^ (64 - n) = a at *
  generalize 2 ^ n = b at *
  obtain ⟨c, rfl⟩ : ∃ c, b = c + 1 := ⟨b - 1, by omega⟩
  rw [Nat.mul_add, Nat.mul_one] at hp
  have e : 18446744073709551615 = a * c + (a - 1) := by omega
  rw [e, Nat.mul_add_div h1, Nat.div_eq_of_lt (by omega)]
  rfl
theorem mask_eq {n : Nat} (h' : n ≤ 64) : (18446744073709551615 : Int) / 2 ^ ((64 : Int) - (n : Int)).toNat = ((2 ^ n - 1 : Nat) : Int) := by
  have e : ((64 : Int) - (n : Int)).toNat = 64 - n := by omega
  rw [e, ← mask_nat h', Int.natCast_ediv, Int.natCast_pow]
  rfl
theorem signed_eq {n : Nat} (h : 1 ≤ n) (h' : n ≤ 64) (v : Int) :
    wrap64 (IntKind.u64.wrap (v * 2 ^ ((64 : Int) - (n : Int)).toNat)) / 2 ^ ((64 : Int) - (n : Int)).toNat = sgn n v := by
  have e : ((64 : Int) - (n : Int)).toNat = 64 - n := by omega
  have w : ∀ x : Int, wrap64 (IntKind.u64.wrap x) = Int.bmod x 18446744073709551616 := by
    intro x; rw [IntKind.wrap_u64]; unfold wrap64; simp only [Int.bmod]; omega
  rw [e, w]
  have hp := pow_split h'
  have h1 := pow_pos (64 - n)
  have hh := pow_half h
  have hb := pow_pos (n - 1)
  unfold sgn
  rw [show (18446744073709551616 : Nat) = 2 ^ n * 2 ^ (64 - n) from by rw [Nat.mul_comm]; exact hp.symm]
  have : (v * 2 ^ (64 - n)).bmod (2 ^ n * 2 ^ (64 - n)) = v.bmod (2 ^ n) * ((2 ^ (64 - n) : Nat) : Int) := by
    rw [show ((2 : Int) ^ (64 - n)) = ((2 ^ (64 - n) : Nat) : Int) from by norm_cast]
    generalize 2 ^ (64 - n) = a at *
    rw [hh]
    generalize 2 ^ (n - 1) = b at *
    have l0 := Int.le_bmod (x := v) (m := 2 * b) (by omega)
    have l1 := Int.bmod_lt (x := v) (m := 2 * b) (by omega)
    have l2 : ((2 * b : Nat) : Int) ∣ v.bmod (2 * b) - v := ((Int.bmod_eq_iff (a := v) (b := 2 * b) (c := v.bmod (2 * b)) (by omega)).1 rfl).2.2
    generalize v.bmod (2 * b) = r at *
    have l3 : -(b : Int) ≤ r := by omega
    have l4 : r < b := by omega
    have ha : (0 : Int) < a := by omega
    have m1 := Int.mul_le_mul_of_nonneg_right l3 (Int.le_of_lt ha)
    have m2 := Int.mul_lt_mul_of_pos_right l4 ha
    have m3 : ((2 * b * a : Nat) : Int) = 2 * ((b : Int) * a) := by simp [Int.mul_assoc]
    rw [Int.neg_mul] at m1
    have m4 : 0 < 2 * b * a := Nat.mul_pos (by omega) h1
    refine (Int.bmod_eq_iff m4).2 ⟨?_, ?_, ?_⟩
    · rw [m3]; omega
    · rw [m3]; omega
    · rw [← Int.sub_mul, Int.natCast_mul]; exact Int.mul_dvd_mul_right _ l2
  rw [this, show ((2 : Int) ^ (64 - n)) = ((2 ^ (64 - n) : Nat) : Int) from by norm_cast]
  exact Int.mul_ediv_cancel _ (by omega)
theorem mul_same {x y : Int} (h : (decide (x < 0) == decide (y < 0)) = true) : x * y = (x.natAbs : Int) * y.natAbs := by
  rw [← Int.natCast_mul, ← Int.natAbs_mul, Int.natAbs_of_nonneg]
  by_cases hx : x < 0 <;> by_cases hy : y < 0
  · have := Int.mul_nonneg (a := -x) (b := -y) (by omega) (by omega); rwa [Int.neg_mul_neg] at this
  · simp [hx, hy] at h
  · simp [hx, hy] at h
  · exact Int.mul_nonneg (by omega) (by omega)
theorem mul_apart {x y : Int} (h : (decide (x < 0) == decide (y < 0)) = false) : x * y = -((x.natAbs : Int) * y.natAbs) := by
  by_cases hx : x < 0 <;> by_cases hy : y < 0
  · simp [hx, hy] at h
  · have := mul_same (x := -x) (y := y) (by simp [hy]; omega)
    rw [Int.natAbs_neg] at this; rw [← this, Int.neg_mul, Int.neg_neg]
  · have := mul_same (x := x) (y := -y) (by simp [hx]; omega)
    rw [Int.natAbs_neg] at this; rw [← this, Int.mul_neg, Int.neg_neg]
  · simp [hx, hy] at h
theorem half_le {n : Nat} (h : n ≤ 64) (h1 : 1 ≤ n) : ((2 : Int) ^ (n - 1)) ≤ 9223372036854775808 ∧ 0 < (2 : Int) ^ (n - 1) := by
  have h2 := pow_le h
  have h3 := pow_half h1
  have h4 := pow_pos (n - 1)
  have e : (2 : Int) ^ (n - 1) = ((2 ^ (n - 1) : Nat) : Int) := by norm_cast
  rw [e]; omega
def nsw (f : Int) : Bool := f == 1 || f == 3
def nuw (f : Int) : Bool := f == 2 || f == 3
def over (n : Nat) (f E S : Int) : Bool := nuw f && !fitsU n E || nsw f && !fitsS n S
def opI (op x y : Int) : Int := if op = 1 then x + y else if op = 2 then x - y else x * y
def ring (op : Int) (n : Nat) (f a b : Int) : Int × Int :=
  bif over n f (opI op a b) (opI op (sgn n a) (sgn n b)) then (0, 1) else (opI op a b % 18446744073709551616, 0)
theorem bmod_dbl {M : Nat} {z r : Int} (hM : 0 < M) (k : Int) (h : z = r + 2 * M * k) (h0 : -M ≤ r) (h1 : r < M) : z.bmod (2 * M) = r := by
  refine (Int.bmod_eq_iff (by omega)).2 ⟨by omega, by omega, ⟨-k, ?_⟩⟩
  rw [h, Int.natCast_mul, Int.mul_neg]; simp only [Int.cast_ofNat_Int]; omega
theorem dbl {n : Nat} (h : 1 ≤ n) (h' : n ≤ 64) : ∃ M : Nat, 2 ^ n = 2 * M ∧ 2 ^ (n - 1) = M ∧ (2 : Int) ^ (n - 1) = M ∧ (2 : Int) ^ n = 2 * M ∧ 0 < M ∧ M ≤ 9223372036854775808 ∧ (n = 64 → M = 9223372036854775808) ∧ (n ≠ 64 → M ≤ 4611686018427387904) := by
  refine ⟨2 ^ (n - 1), pow_half h, rfl, by norm_cast, ?_, pow_pos _, ?_, ?_, ?_⟩
  · have := pow_half h
    rw [show ((2 : Int) ^ n) = ((2 ^ n : Nat) : Int) from by norm_cast, this]; simp
  · have := pow_le h'; have := pow_half h; omega
  · rintro rfl; rfl
  · intro hn
    have := Nat.pow_le_pow_right (n := 2) (by omega) (show n - 1 ≤ 62 by omega)
    simpa using this
theorem sgn_range {n M : Nat} (h : 2 ^ n = 2 * M) (hM : 0 < M) (v : Int) : -(M : Int) ≤ sgn n v ∧ sgn n v < M := by
  unfold sgn; rw [h]
  have l0 := Int.le_bmod (x := v) (m := 2 * M) (by omega)
  have l1 := Int.bmod_lt (x := v) (m := 2 * M) (by omega)
  omega
theorem sgn_wrap {n : Nat} (h' : n ≤ 64) (z : Int) : sgn n (IntKind.u64.wrap z) = sgn n z := by
  unfold sgn
  rw [IntKind.wrap_u64]
  have hd : (2 ^ n : Nat) ∣ 18446744073709551616 := ⟨2 ^ (64 - n), by rw [Nat.mul_comm]; exact (pow_split h').symm⟩
  obtain ⟨c, hc⟩ := hd
  rw [show (18446744073709551616 : Int) = ((2 ^ n : Nat) : Int) * (c : Int) from by rw [← Int.natCast_mul, ← hc]; rfl]
  rw [← Int.emod_bmod, Int.emod_emod_of_dvd _ (Int.dvd_mul_right _ _), Int.emod_bmod]
theorem sgn_wrap64 {n : Nat} (h' : n ≤ 64) (z : Int) : sgn n (IntKind.i64.wrap z) = sgn n z := by
  rw [← sgn_wrap h' (IntKind.i64.wrap z), ← sgn_wrap h' z]
  congr 1
  rw [IntKind.wrap_u64, IntKind.wrap_u64, IntKind.wrap_i64]; omega
theorem sgn_mid {n M : Nat} {z : Int} (h : 2 ^ n = 2 * M) (hM : 0 < M) (h0 : -(M : Int) ≤ z) (h1 : z < M) : sgn n z = z := by
  unfold sgn; rw [h]; exact bmod_dbl hM 0 (by omega) h0 h1
theorem sgn_up {n M : Nat} {z : Int} (h : 2 ^ n = 2 * M) (hM : 0 < M) (h0 : (M : Int) ≤ z) (h1 : z < 3 * M) : sgn n z = z - 2 * M := by
  unfold sgn; rw [h]; exact bmod_dbl hM 1 (by omega) (by omega) (by omega)
theorem sgn_down {n M : Nat} {z : Int} (h : 2 ^ n = 2 * M) (hM : 0 < M) (h0 : -3 * (M : Int) ≤ z) (h1 : z < -M) : sgn n z = z + 2 * M := by
  unfold sgn; rw [h]; exact bmod_dbl hM (-1) (by omega) (by omega) (by omega)
theorem wraps_add {n : Nat} (h : 1 ≤ n) (h' : n ≤ 64) (a b : Int) :
    (decide (0 < signed n a) && decide (0 < signed n b) && decide (IntKind.i64.wrap (signed n a + signed n b) ≤ 0) ||
      decide (signed n a < 0) && decide (signed n b < 0) && decide (0 ≤ IntKind.i64.wrap (signed n a + signed n b)) ||
      IntKind.i64.wrap (signed n a + signed n b) != signed n (IntKind.u64.wrap (IntKind.i64.wrap (signed n a + signed n b)))) = !fitsS n (sgn n a + sgn n b) := by
  obtain ⟨M, h1, _, h2, _, hM, hle, _, _⟩ := dbl h h'
  have r1 := sgn_range h1 hM a
  have r2 := sgn_range h1 hM b
  rw [signed_in h h', signed_in h h', signed_in h h', sgn_wrap h', sgn_wrap64 h']
  unfold fitsS; rw [h2]
  generalize sgn n a = x at *
  generalize sgn n b = y at *
  have hb : sgn n (x + y) = x + y ∧ -(M : Int) ≤ x + y ∧ x + y < M ∨ sgn n (x + y) = x + y - 2 * M ∧ M ≤ x + y ∨ sgn n (x + y) = x + y + 2 * M ∧ x + y < -M := by
    by_cases c1 : x + y < -M
    · exact .inr (.inr ⟨sgn_down h1 hM (by omega) c1, c1⟩)
    · by_cases c2 : (M : Int) ≤ x + y
      · exact .inr (.inl ⟨sgn_up h1 hM c2 (by omega), c2⟩)
      · exact .inl ⟨sgn_mid h1 hM (by omega) (by omega), by omega, by omega⟩
  generalize sgn n (x + y) = s at *
  rw [Bool.eq_iff_iff]
  simp only [IntKind.wrap_i64, Bool.or_eq_true, Bool.and_eq_true, decide_eq_true_eq, bne_iff_ne, ne_eq, Bool.not_eq_true', decide_eq_false_iff_not]
  omega
theorem wraps_sub {n : Nat} (h : 1 ≤ n) (h' : n ≤ 64) (a b : Int) :
    (decide (0 ≤ signed n a) && decide (signed n b < 0) && decide (IntKind.i64.wrap (signed n a - signed n b) < 0) ||
      decide (signed n a < 0) && decide (0 < signed n b) && decide (0 ≤ IntKind.i64.wrap (signed n a - signed n b)) ||
      IntKind.i64.wrap (signed n a - signed n b) != signed n (IntKind.u64.wrap (IntKind.i64.wrap (signed n a - signed n b)))) = !fitsS n (sgn n a - sgn n b) := by
  obtain ⟨M, h1, _, h2, _, hM, hle, _, _⟩ := dbl h h'
  have r1 := sgn_range h1 hM a
  have r2 := sgn_range h1 hM b
  rw [signed_in h h', signed_in h h', signed_in h h', sgn_wrap h', sgn_wrap64 h']
  unfold fitsS; rw [h2]
  generalize sgn n a = x at *
  generalize sgn n b = y at *
  have hb : sgn n (x - y) = x - y ∧ -(M : Int) ≤ x - y ∧ x - y < M ∨ sgn n (x - y) = x - y - 2 * M ∧ M ≤ x - y ∨ sgn n (x - y) = x - y + 2 * M ∧ x - y < -M := by
    by_cases c1 : x - y < -M
    · exact .inr (.inr ⟨sgn_down h1 hM (by omega) c1, c1⟩)
    · by_cases c2 : (M : Int) ≤ x - y
      · exact .inr (.inl ⟨sgn_up h1 hM c2 (by omega), c2⟩)
      · exact .inl ⟨sgn_mid h1 hM (by omega) (by omega), by omega, by omega⟩
  generalize sgn n (x - y) = s at *
  rw [Bool.eq_iff_iff]
  simp only [IntKind.wrap_i64, Bool.or_eq_true, Bool.and_eq_true, decide_eq_true_eq, bne_iff_ne, ne_eq, Bool.not_eq_true', decide_eq_false_iff_not]
  omega
theorem above_add {n : Nat} (h : 1 ≤ n) (h' : n ≤ 64) {a b : Int} (ha : 0 ≤ a) (hb : 0 ≤ b) (ha' : a < 18446744073709551616) (hb' : b < 18446744073709551616) :
    ((a + b) / 18446744073709551616 == 1 || decide (mask n < (a + b) % 18446744073709551616)) = !fitsU n (a + b) := by
  obtain ⟨M, h1, _, _, h2, hM, hle, _, _⟩ := dbl h h'
  rw [mask_in h h', h1]; unfold fitsU; rw [h2]
  rw [Bool.eq_iff_iff]
  simp only [Bool.or_eq_true, decide_eq_true_eq, beq_iff_eq, Bool.not_eq_true', decide_eq_false_iff_not]
  omega
theorem nuw_eq {f : Int} (h : f = 0 ∨ f = 1 ∨ f = 2 ∨ f = 3) : (bits .and .i64 f 2 != 0) = nuw f := by rcases h with rfl | rfl | rfl | rfl <;> rfl
theorem nsw_eq {f : Int} (h : f = 0 ∨ f = 1 ∨ f = 2 ∨ f = 3) : (bits .and .i64 f 1 != 0) = nsw f := by rcases h with rfl | rfl | rfl | rfl <;> rfl
theorem below_sub {n : Nat} (h : 1 ≤ n) (h' : n ≤ 64) {a b : Int} (hb : 0 ≤ b) (ha' : a < 2 ^ n) : decide (a < b) = !fitsU n (a - b) := by
  unfold fitsU
  rw [Bool.eq_iff_iff]
  simp only [decide_eq_true_eq, Bool.not_eq_true', decide_eq_false_iff_not]
  omega
theorem above_mul {n : Nat} (h : 1 ≤ n) (h' : n ≤ 64) {p : Int} (hp : 0 ≤ p) :
    (p / 18446744073709551616 != 0 || decide (mask n < p % 18446744073709551616)) = !fitsU n p := by
  obtain ⟨M, h1, _, _, h2, hM, hle, _, _⟩ := dbl h h'
  rw [mask_in h h', h1]; unfold fitsU; rw [h2]
  rw [Bool.eq_iff_iff]
  simp only [Bool.or_eq_true, decide_eq_true_eq, bne_iff_ne, ne_eq, Bool.not_eq_true', decide_eq_false_iff_not]
  omega
theorem ring_t {op : Int} {n : Nat} {f a b E S : Int} (hE : opI op a b = E) (hS : opI op (sgn n a) (sgn n b) = S) (h : over n f E S = true) : ring op n f a b = (0, 1) := by
  unfold ring; rw [hE, hS, h]; rfl
theorem ring_f {op : Int} {n : Nat} {f a b E S : Int} (hE : opI op a b = E) (hS : opI op (sgn n a) (sgn n b) = S) (h : over n f E S = false) : ring op n f a b = (E % 18446744073709551616, 0) := by
  unfold ring; rw [hE, hS, h]; rfl
theorem sgn_i64 {n : Nat} (h : 1 ≤ n) (h' : n ≤ 64) (v : Int) : -9223372036854775808 ≤ sgn n v ∧ sgn n v ≤ 9223372036854775807 := by
  obtain ⟨M, h1, _, _, _, hM, hle, _, _⟩ := dbl h h'
  have := sgn_range h1 hM v
  omega
def divR (op f q r : Int) : Int × Int := if op = 6 ∨ op = 7 then (r % 18446744073709551616, 0) else if f = 4 ∧ r ≠ 0 then (0, 1) else (q % 18446744073709551616, 0)
def div (op : Int) (n : Nat) (f a b : Int) : Int × Int :=
  if b = 0 then (0, 2) else if op = 4 ∨ op = 6 then divR op f (a / b) (a % b)
  else if sgn n b = -1 ∧ a = 2 ^ (n - 1) then (0, 2) else divR op f ((sgn n a).tdiv (sgn n b)) ((sgn n a).tmod (sgn n b))
theorem exact_eq {f : Int} (h : f = 0 ∨ f = 4) : (bits .and .i64 f 4 != 0) = (f == 4) := by rcases h with rfl | rfl <;> rfl
theorem div_zero (op : Int) (n : Nat) (f a : Int) : div op n f a 0 = (0, 2) := if_pos rfl
theorem div_u {op : Int} {n : Nat} {f a b : Int} (ho : op = 4 ∨ op = 6) (hb : 0 < b) : div op n f a b = divR op f (a / b) (a % b) := by
  unfold div; rw [if_neg (by omega), if_pos ho]
theorem divR_r {op f q r : Int} (c : (op == 6 || op == 7) = true) : divR op f q r = (r % 18446744073709551616, 0) := by
  unfold divR; rw [if_pos (by simpa using c)]
theorem mod_small {z : Int} (h : 0 ≤ z) (h' : z < 18446744073709551616) : z % 18446744073709551616 = z := Int.emod_eq_of_lt h h'
theorem wrapQ {z : Int} : IntKind.u64.wrap (IntKind.i64.wrap z) = z % 18446744073709551616 := by rw [IntKind.wrap_u64, IntKind.wrap_i64]; omega
theorem tmod_small {x y : Int} (hx : -9223372036854775808 ≤ x) (hx' : x ≤ 9223372036854775807) : (IntKind.u64.wrap (x.tmod y) != 0) = (x.tmod y != 0) := by
  have h : (x.tmod y).natAbs ≤ x.natAbs := by rw [Int.natAbs_tmod]; exact Nat.mod_le _ _
  rw [Bool.eq_iff_iff]; simp only [bne_iff_ne, ne_eq, IntKind.wrap_u64]; omega
theorem pow_cast (n : Nat) : ((2 ^ n : Nat) : Int) = (2 : Int) ^ n := by norm_cast
theorem pow_split_int {n : Nat} (h : n ≤ 64) : (2 : Int) ^ n * 2 ^ (64 - n) = 18446744073709551616 := by
  rw [← Int.pow_add, show n + (64 - n) = 64 by omega]; rfl
theorem pow_le_int {n : Nat} (h : n ≤ 64) : (2 : Int) ^ n ≤ 18446744073709551616 := by
  have := pow_le h
  rw [← pow_cast]; omega
def shift (op : Int) (n : Nat) (f a b : Int) : Int × Int :=
  if (n : Int) ≤ b then (0, 1)
  else if op = 11 then (bif over n f (a * 2 ^ b.toNat) (sgn n a * 2 ^ b.toNat) then (0, 1) else (a * 2 ^ b.toNat % 2 ^ n, 0))
  else bif f == 4 && a % 2 ^ b.toNat != 0 then (0, 1)
  else if op = 12 then (a / 2 ^ b.toNat, 0) else (sgn n a / 2 ^ b.toNat % 18446744073709551616, 0)
theorem min_u {n k : Nat} (h : k < n) (h' : n ≤ 64) : min ((k : Int)).toNat IntKind.u64.bits = k := by simp only [IntKind.bits]; omega
theorem min_i {n k : Nat} (h : k < n) (h' : n ≤ 64) : min ((k : Int)).toNat IntKind.i64.bits = k := by simp only [IntKind.bits]; omega
theorem and_mask {n : Nat} {z : Int} (h : 1 ≤ n) (h' : n ≤ 64) (hz : 0 ≤ z) (hz' : z < 18446744073709551616) : bits .and .u64 z (mask n) = z % 2 ^ n := by
  obtain ⟨a, rfl⟩ := Int.eq_ofNat_of_zero_le hz
  have := pow_le h'
  rw [mask_in h h', u64_and_nat a (2 ^ n - 1) (by omega) (by omega), Nat.and_two_pow_sub_one_eq_mod, Int.natCast_emod, pow_cast]
theorem emod_pow {n : Nat} (h' : n ≤ 64) (z : Int) : z % 18446744073709551616 % 2 ^ n = z % 2 ^ n := by
  exact Int.emod_emod_of_dvd _ ⟨2 ^ (64 - n), (pow_split_int h').symm⟩
theorem and_mask_wrap {n : Nat} (h : 1 ≤ n) (h' : n ≤ 64) (z : Int) : bits .and .u64 (IntKind.u64.wrap z) (mask n) = z % 2 ^ n := by
  rw [IntKind.wrap_u64, and_mask h h' (by omega) (by omega), emod_pow h']
theorem pow_parts {n k : Nat} (h : k < n) : ∃ p q : Int, (2 : Int) ^ k = p ∧ (2 : Int) ^ n = p * q ∧ 0 < p ∧ 2 ≤ q ∧ (2 : Nat) ^ n = (p * q).toNat := by
  refine ⟨2 ^ k, 2 ^ (n - k), rfl, ?_, Int.pow_pos (by decide), ?_, ?_⟩
  · rw [← Int.pow_add, show k + (n - k) = n by omega]
  · have := Nat.pow_le_pow_right (n := 2) (by omega) (show 1 ≤ n - k by omega)
    exact_mod_cast this
  · rw [← Int.pow_add, show k + (n - k) = n by omega]; norm_cast
theorem shl_u {n k : Nat} {a : Int} (h : k < n) (ha : 0 ≤ a) : (a * 2 ^ k % 2 ^ n / 2 ^ k != a) = !fitsU n (a * 2 ^ k) := by
  obtain ⟨p, q, e1, e2, hp, hq, _⟩ := pow_parts h
  unfold fitsU
  rw [e1, e2]
  have hz : a * p % (p * q) = a % q * p := by rw [Int.mul_comm a p, Int.mul_emod_mul_of_pos _ _ hp, Int.mul_comm]
  rw [hz, Int.mul_ediv_cancel _ (by omega)]
  have hap : 0 ≤ a * p := Int.mul_nonneg ha (by omega)
  have hlt : a * p < p * q ↔ a < q := by rw [Int.mul_comm p q]; exact Int.mul_lt_mul_right hp
  have hm := Int.emod_nonneg a (show q ≠ 0 by omega)
  have hm' := Int.emod_lt_of_pos a (show 0 < q by omega)
  rw [Bool.eq_iff_iff]
  simp only [bne_iff_ne, ne_eq, Bool.not_eq_true', decide_eq_false_iff_not, hlt]
  by_cases c : a < q
  · rw [Int.emod_eq_of_lt ha c]; simp [c, hap]
  · simp [c]; omega
theorem sgn_cong {n : Nat} {y z : Int} (h : (2 : Int) ^ n ∣ y - z) : sgn n y = sgn n z := by
  unfold sgn
  obtain ⟨c, hc⟩ := h
  have e : y = z + ((2 ^ n : Nat) : Int) * c := by rw [pow_cast]; omega
  rw [e, ← Int.emod_bmod, Int.add_mul_emod_self_left, Int.emod_bmod]
theorem sgn_dvd (n : Nat) (z : Int) : (2 : Int) ^ n ∣ sgn n z - z := by
  have := ((Int.bmod_eq_iff (a := z) (b := 2 ^ n) (c := sgn n z) (pow_pos n)).1 rfl).2.2
  exact_mod_cast this
theorem emod_dvd (z m : Int) : m ∣ z % m - z := ⟨-(z / m), by have := Int.emod_add_mul_ediv z m; rw [Int.mul_neg]; omega⟩
theorem shl_s {n k : Nat} {a : Int} (h1 : 1 ≤ n) (h' : n ≤ 64) (h : k < n) : (sgn n (a * 2 ^ k % 2 ^ n) / 2 ^ k != sgn n a) = !fitsS n (sgn n a * 2 ^ k) := by
  have hc : sgn n (a * 2 ^ k % 2 ^ n) = sgn n (sgn n a * 2 ^ k) := by
    refine sgn_cong ?_
    have d1 := emod_dvd (a * 2 ^ k) (2 ^ n)
    have d2 := Int.mul_dvd_mul_right (2 ^ k) (sgn_dvd n a)
    have d3 : (2 : Int) ^ n ∣ (sgn n a - a) * 2 ^ k := Int.dvd_trans (Int.dvd_mul_right _ _) d2
    have := Int.dvd_sub d1 d3
    rwa [Int.sub_mul, show a * 2 ^ k % 2 ^ n - a * 2 ^ k - (sgn n a * 2 ^ k - a * 2 ^ k) = a * 2 ^ k % 2 ^ n - sgn n a * 2 ^ k by omega] at this
  rw [hc]
  obtain ⟨M, g1, _, g2, g3, hM, hle, _, _⟩ := dbl h1 h'
  obtain ⟨p, q, e1, e2, hp, hq, _⟩ := pow_parts h
  have hx := sgn_range g1 hM a
  unfold fitsS
  generalize sgn n a = x at *
  have hr := sgn_range g1 hM (x * 2 ^ k)
  have hd := sgn_dvd n (x * 2 ^ k)
  rw [e1] at *
  rw [g2]
  by_cases c : -(M : Int) ≤ x * p ∧ x * p < M
  · rw [sgn_mid g1 hM c.1 c.2, Int.mul_ediv_cancel _ (by omega)]; simp [c]
  · have : sgn n (x * p) / p ≠ x := by
      intro he
      have h2 := Int.emod_add_mul_ediv (sgn n (x * p)) p
      have h3 := Int.emod_nonneg (sgn n (x * p)) (show p ≠ 0 by omega)
      have h4 := Int.emod_lt_of_pos (sgn n (x * p)) hp
      rw [he, Int.mul_comm p x] at h2
      rw [e2] at hd
      obtain ⟨t, ht⟩ := hd
      have h5 : sgn n (x * p) % p = p * (q * t) := by rw [← Int.mul_assoc, ← ht]; omega
      have h6 : q * t = 0 := by
        rw [h5] at h3 h4
        have l1 : 0 ≤ q * t := by
          rcases Int.lt_or_le (q * t) 0 with hneg | hpos
          · have := Int.mul_neg_of_pos_of_neg hp hneg; omega
          · exact hpos
        have l2 : q * t < 1 := by
          rcases Int.lt_or_le (q * t) 1 with hl | hg
          · exact hl
          · have := Int.mul_le_mul_of_nonneg_left hg (Int.le_of_lt hp); omega
        omega
      rw [h5, h6] at h2
      have : sgn n (x * p) = x * p := by omega
      omega
    simp [this, c]
theorem lshr_x {n k : Nat} {a : Int} (h' : n ≤ 64) (h : k < n) (ha : 0 ≤ a) (ha' : a < 2 ^ n) : (IntKind.u64.wrap (a / 2 ^ k * 2 ^ k) != a) = (a % 2 ^ k != 0) := by
  obtain ⟨p, q, e1, e2, hp, hq, _⟩ := pow_parts h
  rw [e1]
  have h2 := Int.emod_add_mul_ediv a p
  rw [Int.mul_comm] at h2
  have h3 := Int.emod_nonneg a (show p ≠ 0 by omega)
  have h4 := Int.mul_nonneg (Int.ediv_nonneg ha (Int.le_of_lt hp)) (Int.le_of_lt hp)
  have h5 := pow_le_int h'
  rw [IntKind.wrap_u64, Int.emod_eq_of_lt h4 (by omega), Bool.eq_iff_iff]
  simp only [bne_iff_ne, ne_eq]; omega
theorem ashr_x {n k : Nat} {a : Int} (h' : n ≤ 64) (h : k < n) (ha : 0 ≤ a) (ha' : a < 2 ^ n) : (IntKind.u64.wrap (sgn n a / 2 ^ k) * 2 ^ k % 2 ^ n != a) = (a % 2 ^ k != 0) := by
  have hs := sgn_dvd n a
  obtain ⟨p, q, e1, e2, hp, hq, _⟩ := pow_parts h
  have hw : (2 : Int) ^ n ∣ IntKind.u64.wrap (sgn n a / 2 ^ k) * 2 ^ k - sgn n a / 2 ^ k * 2 ^ k := by
    rw [← Int.sub_mul, IntKind.wrap_u64]
    have d := emod_dvd (sgn n a / 2 ^ k) 18446744073709551616
    have d' : (2 : Int) ^ n ∣ 18446744073709551616 := ⟨2 ^ (64 - n), (pow_split_int h').symm⟩
    exact Int.dvd_trans (Int.dvd_trans d' d) (Int.dvd_mul_right _ _)
  generalize IntKind.u64.wrap (sgn n a / 2 ^ k) = v at *
  generalize sgn n a = x at *
  have ha2 : a < p * q := by rw [← e2]; exact ha'
  clear ha'
  rw [e1, e2] at *
  have h2 := Int.emod_add_mul_ediv x p
  rw [Int.mul_comm] at h2
  have h3 := Int.emod_nonneg x (show p ≠ 0 by omega)
  have h4 := Int.emod_lt_of_pos x hp
  have hpq : p ∣ p * q := Int.dvd_mul_right _ _
  have hmod : x % p = a % p := by
    have := Int.dvd_trans hpq hs
    exact (Int.emod_emod_of_dvd x (Int.dvd_refl p)).symm.trans (Int.emod_emod_of_dvd x (Int.dvd_refl p)) |>.trans (Int.emod_eq_emod_iff_emod_sub_eq_zero.2 (Int.emod_eq_zero_of_dvd this))
  have hfin : p * q ∣ v * p - a + x % p := by
    have := Int.dvd_add hw hs
    have e : v * p - x / p * p + (x - a) = v * p - a + x % p := by omega
    rwa [e] at this
  rw [← hmod]
  generalize x % p = r at *
  have hpq' : p * 2 ≤ p * q := Int.mul_le_mul_of_nonneg_left hq (Int.le_of_lt hp)
  obtain ⟨t, ht⟩ := hfin
  have hv : v * p % (p * q) = (a - r) % (p * q) := by
    rw [show v * p = (a - r) + p * q * t by omega, Int.add_mul_emod_self_left]
  rw [hv, Bool.eq_iff_iff]
  simp only [bne_iff_ne, ne_eq]
  rcases Int.lt_or_le a r with c | c
  · have : r ≠ 0 := by omega
    refine ⟨fun _ => this, fun _ => ?_⟩
    rw [show a - r = (a - r + p * q) + p * q * (-1) by omega, Int.add_mul_emod_self_left, Int.emod_eq_of_lt (by omega) (by omega)]
    omega
  · rw [Int.emod_eq_of_lt (by omega) (by omega)]; omega
theorem shift_l1 {n k : Nat} {f a : Int} (hk : k < n) (c : (nuw f && !fitsU n (a * 2 ^ k) || nsw f && !fitsS n (sgn n a * 2 ^ k)) = true) : shift 11 n f a k = (0, 1) := by
  unfold shift over; rw [if_neg (by omega), if_pos rfl, Int.toNat_natCast, c]; rfl
theorem shift_l0 {n k : Nat} {f a : Int} (hk : k < n) (c : (nuw f && !fitsU n (a * 2 ^ k) || nsw f && !fitsS n (sgn n a * 2 ^ k)) = false) : shift 11 n f a k = (a * 2 ^ k % 2 ^ n, 0) := by
  unfold shift over; rw [if_neg (by omega), if_pos rfl, Int.toNat_natCast, c]; rfl
theorem shift_r1 {op : Int} {n k : Nat} {f a : Int} (hk : k < n) (ho : op ≠ 11) (c : (f == 4 && a % 2 ^ k != 0) = true) : shift op n f a k = (0, 1) := by
  unfold shift; rw [if_neg (by omega), if_neg ho, Int.toNat_natCast, c]; rfl
theorem shift_r0 {op : Int} {n k : Nat} {f a : Int} (hk : k < n) (ho : op ≠ 11) (c : (f == 4 && a % 2 ^ k != 0) = false) : shift op n f a k = if op = 12 then (a / 2 ^ k, 0) else (sgn n a / 2 ^ k % 18446744073709551616, 0) := by
  unfold shift; rw [if_neg (by omega), if_neg ho, Int.toNat_natCast, c]; rfl
theorem andNot_self {f c : Int} (h : bits .andNot .i64 f c = 0) : (BitVec.ofInt 64 f).toNat = (BitVec.ofInt 64 f).toNat &&& (BitVec.ofInt 64 c).toNat := by
  have h0 : BitVec.ofInt 64 f &&& ~~~ BitVec.ofInt 64 c = 0#64 := by
    have h : IntKind.i64.wrap ((BitVec.ofInt 64 f &&& ~~~ BitVec.ofInt 64 c).toNat : Int) = 0 := h
    rw [IntKind.wrap_i64] at h
    have hlt := (BitVec.ofInt 64 f &&& ~~~ BitVec.ofInt 64 c).isLt
    apply BitVec.eq_of_toNat_eq
    simp only [BitVec.toNat_ofNat]
    omega
  rw [← BitVec.toNat_and]
  congr 1
  apply BitVec.eq_of_getLsbD_eq
  intro j hj
  have := congrArg (fun v => v.getLsbD j) h0
  simp only [BitVec.getLsbD_and, BitVec.getLsbD_not, BitVec.getLsbD_zero, hj, decide_true, Bool.true_and] at this ⊢
  cases h1 : (BitVec.ofInt 64 f).getLsbD j <;> cases h2 : (BitVec.ofInt 64 c).getLsbD j <;> simp_all
theorem ofInt_nat {f : Int} (h : -9223372036854775808 ≤ f) (h' : f ≤ 9223372036854775807) {m : Nat} (hm : m < 9223372036854775808) (he : (BitVec.ofInt 64 f).toNat = m) : f = m := by
  rw [BitVec.toNat_ofInt] at he
  have : ((2 : Nat) ^ 64 : Nat) = 18446744073709551616 := rfl
  omega
theorem flags3 {f : Int} (h : -9223372036854775808 ≤ f) (h' : f ≤ 9223372036854775807) (hf : bits .andNot .i64 f 3 = 0) : f = 0 ∨ f = 1 ∨ f = 2 ∨ f = 3 := by
  have h1 := andNot_self hf
  rw [show (BitVec.ofInt 64 3).toNat = 3 from rfl, nat_mask2] at h1
  have := ofInt_nat h h' (m := (BitVec.ofInt 64 f).toNat) (by omega) rfl
  omega
theorem flags4 {f : Int} (h : -9223372036854775808 ≤ f) (h' : f ≤ 9223372036854775807) (hf : bits .andNot .i64 f 4 = 0) : f = 0 ∨ f = 4 := by
  have h1 := andNot_self hf
  rw [show (BitVec.ofInt 64 4).toNat = 2 ^ 2 from rfl, nat_bit] at h1
  have := ofInt_nat h h' (m := (BitVec.ofInt 64 f).toNat) (by omega) rfl
  omega
theorem flags0 {f : Int} (h : -9223372036854775808 ≤ f) (h' : f ≤ 9223372036854775807) (hf : bits .andNot .i64 f 0 = 0) : f = 0 := by
  have h1 := andNot_self hf
  rw [show (BitVec.ofInt 64 0).toNat = 0 from rfl, Nat.and_zero] at h1
  have := ofInt_nat h h' (m := 0) (by omega) h1
  simpa using this
def bitw (op a b : Int) : Int := if op = 8 then bits .and .u64 a b else if op = 9 then bits .or .u64 a b else bits .xor .u64 a b
def cmp (op : Int) (n : Nat) (a b : Int) : Bool :=
  if op = 14 then a == b else if op = 15 then a != b else if op = 16 then decide (a < b) else if op = 17 then decide (a ≤ b) else if op = 18 then decide (sgn n a < sgn n b) else decide (sgn n a ≤ sgn n b)
def core (op : Int) (n : Nat) (f a b : Int) : Int × Int :=
  if op ≤ 3 then ring op n f a b else if op ≤ 7 then div op n f a b else if op ≤ 10 then (bitw op a b, 0) else if op ≤ 13 then shift op n f a b else (bif cmp op n a b then 1 else 0, 0)
def cutR (n : Nat) (p : Int × Int) : Int × Int := bif p.2 != 0 then (0, p.2) else (p.1 % 2 ^ n, 0)
def badA (op w f : Int) : Bool := mask w == 0 || decide (op < 1) || decide (19 < op) || bits .andNot .i64 f (flags op) != 0
def apply (op w f a b : Int) : Int × Int :=
  bif badA op w f then (0, 3) else cutR w.toNat (core op w.toNat f (a % 2 ^ w.toNat) (b % 2 ^ w.toNat))
theorem goodA {op w f : Int} (h : badA op w f = false) : (∃ n : Nat, w = n ∧ 1 ≤ n ∧ n ≤ 64) ∧ 1 ≤ op ∧ op ≤ 19 ∧ bits .andNot .i64 f (flags op) = 0 := by
  unfold badA at h
  simp only [Bool.or_eq_false_iff, decide_eq_false_iff_not, bne_eq_false_iff_eq, beq_eq_false_iff_ne, ne_eq] at h
  obtain ⟨⟨⟨h1, h2⟩, h3⟩, h4⟩ := h
  refine ⟨?_, by omega, by omega, h4⟩
  by_cases hw : 1 ≤ w ∧ w ≤ 64
  · obtain ⟨n, rfl⟩ := Int.eq_ofNat_of_zero_le (show 0 ≤ w by omega)
    exact ⟨n, rfl, by omega, by omega⟩
  · exact absurd (mask_out hw) h1
theorem apply_bad {op w f a b : Int} (h : badA op w f = true) : apply op w f a b = (0, 3) := by unfold apply; rw [h]; rfl
theorem apply_ok {op f a b : Int} {n : Nat} (h : badA op n f = false) : apply op n f a b = cutR n (core op n f (a % 2 ^ n) (b % 2 ^ n)) := by unfold apply; rw [h]; rfl
theorem cutR_t {n : Nat} {p : Int × Int} (h : (p.2 != 0) = true) : cutR n p = (0, p.2) := by unfold cutR; rw [h]; rfl
theorem cutR_f {n : Nat} {p : Int × Int} (h : (p.2 != 0) = false) : cutR n p = (p.1 % 2 ^ n, 0) := by unfold cutR; rw [h]; rfl
theorem core_ring {op : Int} {n : Nat} {f a b : Int} (h : op ≤ 3) : core op n f a b = ring op n f a b := if_pos h
theorem core_div {op : Int} {n : Nat} {f a b : Int} (h : 4 ≤ op) (h' : op ≤ 7) : core op n f a b = div op n f a b := by unfold core; rw [if_neg (by omega), if_pos h']
theorem core_bit {op : Int} {n : Nat} {f a b : Int} (h : 8 ≤ op) (h' : op ≤ 10) : core op n f a b = (bitw op a b, 0) := by unfold core; rw [if_neg (by omega), if_neg (by omega), if_pos h']
theorem core_shift {op : Int} {n : Nat} {f a b : Int} (h : 11 ≤ op) (h' : op ≤ 13) : core op n f a b = shift op n f a b := by unfold core; rw [if_neg (by omega), if_neg (by omega), if_neg (by omega), if_pos h']
theorem core_cmp {op : Int} {n : Nat} {f a b : Int} (h : 14 ≤ op) : core op n f a b = (bif cmp op n a b then 1 else 0, 0) := by unfold core; rw [if_neg (by omega), if_neg (by omega), if_neg (by omega), if_neg (by omega)]
theorem mod_range (n : Nat) (a : Int) : 0 ≤ a % 2 ^ n ∧ a % 2 ^ n < 2 ^ n := by
  have p := Int.pow_pos (n := 2) (m := n) (by decide)
  exact ⟨Int.emod_nonneg a (by omega), Int.emod_lt_of_pos a p⟩
theorem mod64 (z : Int) : 0 ≤ z % 18446744073709551616 ∧ z % 18446744073709551616 < 18446744073709551616 := by omega
theorem ring_range (op : Int) (n : Nat) (f a b : Int) : 0 ≤ (ring op n f a b).1 ∧ (ring op n f a b).1 < 18446744073709551616 := by
  unfold ring; cases over n f (opI op a b) (opI op (sgn n a) (sgn n b)) <;> simp only [cond_true, cond_false] <;> omega
theorem div_range (op : Int) (n : Nat) (f a b : Int) : 0 ≤ (div op n f a b).1 ∧ (div op n f a b).1 < 18446744073709551616 := by
  have hr : ∀ q r, 0 ≤ (divR op f q r).1 ∧ (divR op f q r).1 < 18446744073709551616 := fun q r => by
    unfold divR; split
    · exact mod64 r
    · split
      · decide
      · exact mod64 q
  unfold div
  split
  · decide
  · split
    · exact hr _ _
    · split
      · decide
      · exact hr _ _
theorem shift_range (op : Int) {n : Nat} (f : Int) {a : Int} (b : Int) (h' : n ≤ 64) (ha : 0 ≤ a) (ha' : a < 18446744073709551616) : 0 ≤ (shift op n f a b).1 ∧ (shift op n f a b).1 < 18446744073709551616 := by
  have hp := pow_le_int h'
  have h1 := mod_range n (a * 2 ^ b.toNat)
  have h2 := Int.ediv_nonneg ha (Int.le_of_lt (Int.pow_pos (n := 2) (m := b.toNat) (by decide)))
  have h3 : a / 2 ^ b.toNat ≤ a := Int.ediv_le_self _ ha
  unfold shift
  split
  · decide
  · split
    · cases over n f (a * 2 ^ b.toNat) (sgn n a * 2 ^ b.toNat) <;> simp only [cond_true, cond_false] <;> omega
    · cases (f == 4 && a % 2 ^ b.toNat != 0) <;> simp only [cond_true, cond_false]
      · split
        · exact ⟨h2, by omega⟩
        · exact mod64 _
      · decide
theorem bit_range {op a b : Int} (ha : 0 ≤ a) (ha' : a < 18446744073709551616) (hb : 0 ≤ b) (hb' : b < 18446744073709551616) : 0 ≤ bitw op a b ∧ bitw op a b < 18446744073709551616 := by
  obtain ⟨x, rfl⟩ := Int.eq_ofNat_of_zero_le ha
  obtain ⟨y, rfl⟩ := Int.eq_ofNat_of_zero_le hb
  have hx : x < 2 ^ 64 := by have : (2 : Nat) ^ 64 = 18446744073709551616 := rfl
                             omega
  have hy : y < 2 ^ 64 := by have : (2 : Nat) ^ 64 = 18446744073709551616 := rfl
                             omega
  have h1 := Nat.and_lt_two_pow x hy
  have h2 := Nat.or_lt_two_pow hx hy
  have h3 := Nat.xor_lt_two_pow hx hy
  have e : (2 : Nat) ^ 64 = 18446744073709551616 := rfl
  unfold bitw
  rw [u64_and_nat x y (by omega) (by omega), u64_or_nat x y (by omega) (by omega), u64_xor_nat x y (by omega) (by omega)]
  split
  · omega
  · split <;> omega
def conv (op p q v : Int) : Int × Bool :=
  if mask p = 0 ∨ mask q = 0 then (0, false)
  else if op = 20 ∧ p < q then (v % 2 ^ p.toNat, true) else if op = 21 ∧ p < q then (sgn p.toNat v % 2 ^ q.toNat, true) else if op = 22 ∧ q < p then (v % 2 ^ q.toNat, true) else (0, false)
theorem mask_zero {t : Int} : mask t = 0 ↔ ¬ (1 ≤ t ∧ t ≤ 64) := by
  constructor
  · intro h hc
    obtain ⟨n, rfl⟩ := Int.eq_ofNat_of_zero_le (show 0 ≤ t by omega)
    rw [mask_in (by omega) (by omega)] at h
    have := pow_half (n := n) (by omega)
    have := pow_pos (n - 1)
    omega
  · exact mask_out
theorem and_maskI {t z : Int} (h : ¬ mask t = 0) (hz : 0 ≤ z) (hz' : z < 18446744073709551616) : bits .and .u64 z (mask t) = z % 2 ^ t.toNat := by
  have h' : 1 ≤ t ∧ t ≤ 64 := by
    by_cases c : 1 ≤ t ∧ t ≤ 64
    · exact c
    · exact absurd (mask_out c) h
  obtain ⟨n, rfl⟩ := Int.eq_ofNat_of_zero_le (show 0 ≤ t by omega)
  rw [Int.toNat_natCast]
  exact and_mask (by omega) (by omega) hz hz'
theorem and_maskW {t z : Int} (h : ¬ mask t = 0) : bits .and .u64 (IntKind.u64.wrap z) (mask t) = z % 2 ^ t.toNat := by
  have h' : 1 ≤ t ∧ t ≤ 64 := by
    by_cases c : 1 ≤ t ∧ t ≤ 64
    · exact c
    · exact absurd (mask_out c) h
  obtain ⟨n, rfl⟩ := Int.eq_ofNat_of_zero_le (show 0 ≤ t by omega)
  rw [Int.toNat_natCast]
  exact and_mask_wrap (by omega) (by omega) z
theorem signedI {t z : Int} (h : ¬ mask t = 0) : signed t z = sgn t.toNat z := by
  have h' : 1 ≤ t ∧ t ≤ 64 := by
    by_cases c : 1 ≤ t ∧ t ≤ 64
    · exact c
    · exact absurd (mask_out c) h
  exact if_pos h'
structure Vl where
  k : Int
  b : Int
  bl : Int
  off : Int
  deriving DecidableEq
def Vl.cells (v : Vl) : List Value := [.int .i64 v.k, .int .u64 v.b, .int .i64 v.bl, .int .i64 v.off]
def Vl.val (v : Vl) : Value := .agg v.cells.toArray
def Vl.zero : Vl := ⟨0, 0, 0, 0⟩
def count (t : Int) : Int := if t = 65 then 8 else if 1 ≤ t ∧ t ≤ 64 then (t + 7) / 8 else 0
def norm (t : Int) (v : Vl) : Vl :=
  if v.k = 1 ∧ ¬ mask t = 0 then ⟨1, v.b % 2 ^ t.toNat, 0, 0⟩ else if v.k = 2 ∧ t = 65 then ⟨2, 0, v.bl, v.off⟩ else if v.k = 3 ∧ 0 < count t then ⟨3, 0, 0, 0⟩ else Vl.zero
theorem nz {z : Int} (h : (z == 0) = false) : ¬ z = 0 := by simpa using h
theorem nz' {k : Int} {z : Int} (h : (k == 1 && z != 0) = true) : ¬ z = 0 := by simp at h; exact h.2
def kinds (op t n f : Int) : Option (List Int) :=
  bif bits .andNot .i64 f (flags op) != 0 then none
  else bif decide (op < 1) || decide (29 < op) then none
  else bif op == 14 || op == 15 then (bif decide (1 ≤ t) && decide (t ≤ 64) || t == 65 then some [t, t] else none)
  else bif decide (op ≤ 19) then (bif decide (1 ≤ t) && decide (t ≤ 64) then some [t, t] else none)
  else bif decide (op ≤ 22) then (bif (conv op n t 0).2 then some [n] else none)
  else bif op == 23 then (bif decide (1 ≤ t) && decide (t ≤ 64) || t == 65 then some [1, t, t] else none)
  else bif op == 24 then (bif decide (1 ≤ t) && decide (t ≤ 64) || t == 65 then some [t] else none)
  else bif op == 29 then (bif t == 65 then some [65, 64] else none)
  else none
def divisor (op t : Int) (a b : Vl) : Int :=
  bif b.k == 0 || b.k == 1 && b.b == 0 then 2
  else bif (op == 5 || op == 7) && b.b == mask t && b.k == 1 && a.k == 0 then 2
  else bif b.k == 3 then 4
  else bif (op == 5 || op == 7) && b.b == mask t && b.k == 1 && a.k == 3 then 4
  else 0
def any : Vl := ⟨3, 0, 0, 0⟩
def chosen (a b c : Vl) : Vl :=
  bif a.k == 0 then Vl.zero else bif a.k == 1 && a.b == 1 then b else bif a.k == 1 then c else bif decide (b = c) then b else bif b.k == 0 || c.k == 0 then Vl.zero else any
end Go.Proofs.Ytjfdbmfcnhjfoaa.Pl

namespace Go.Proofs.Ytjfdbmfcnhjfoaa
open Go.RowKit
end Go.Proofs.Ytjfdbmfcnhjfoaa
