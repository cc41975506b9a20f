/- The engine and the contracts of the functions that the statement reaches, part 4. -/
import Derived.Test.YtjfdbmfcnhjfoaaGreatMc
import Derived.WalkKit
import Derived.Below
import Derived.Laws.Bits64b
import Derived.Laws.BitsAllLaws
set_option linter.unusedVariables false
set_option linter.unusedSimpArgs false
set_option maxRecDepth 100000
set_option maxHeartbeats 8000000
namespace Go.Proofs.YtjfdbmfcnhjfoaaGreat
open Go.RowKit
end Go.Proofs.YtjfdbmfcnhjfoaaGreat
namespace Go.Proofs.YtjfdbmfcnhjfoaaGreat.Pl
open Go.RowKit
set_option linter.unusedVariables false
def flags (op : Int) : Int := if op = 1 \/ op = 2 \/ op = 3 \/ op = 11 then 3 else if op = 4 \/ op = 5 \/ op = 12 \/ op = 13 then 4 else 0
def sgn (n : Nat) (v : Int) : Int := Int.bmod v (2 ^ n)
def mask (t : Int) : Int := if 1 <= t /\ t <= 64 then ((2 ^ t.toNat - 1 : Nat) : Int) else 0
def signed (t v : Int) : Int := if 1 <= t /\ t <= 64 then sgn t.toNat v else 0
theorem mask_out {t : Int} (h : ¬ (1 <= t /\ t <= 64)) : mask t = 0 := if_neg h
theorem signed_out {t v : Int} (h : ¬ (1 <= t /\ t <= 64)) : signed t v = 0 := if_neg h
theorem mask_in {n : Nat} (h : 1 <= n) (h' : n <= 64) : mask n = ((2 ^ n - 1 : Nat) : Int) := if_pos (by omega)
theorem signed_in {n : Nat} {v : Int} (h : 1 <= n) (h' : n <= 64) : signed n v = sgn n v := if_pos (by omega)
def fitsU (n : Nat) (z : Int) : Bool := decide (0 <= z /\ z < 2 ^ n)
def fitsS (n : Nat) (z : Int) : Bool := decide (-2 ^ (n - 1) <= z /\ z < 2 ^ (n - 1))
theorem pow_le {n : Nat} (h : n <= 64) : 2 ^ n <= 18446744073709551616 := by
 have := Nat.pow_le_pow_right (n := 2) (by omega) h
 simpa using this
theorem pow_split {n : Nat} (h : n <= 64) : 2 ^ (64 - n) * 2 ^ n = 18446744073709551616 := by
 rw [<- Nat.pow_add,show 64 - n + n = 64 from by omega]
theorem pow_pos (n : Nat) : 0 < 2 ^ n := Nat.pow_pos (by omega)
theorem pow_half {n : Nat} (h : 1 <= n) : 2 ^ n = 2 * 2 ^ (n - 1) := by
 conv=>lhs; rw [show n = (n - 1) + 1 from by omega,Nat.pow_succ]
 omega
theorem mask_nat {n : Nat} (h' : n <= 64) : 18446744073709551615 / 2 ^ (64 - n) = 2 ^ n - 1 := by
 have hp := pow_split h'
 have h0 := pow_pos n
 have h1 := pow_pos (64 - n)
 generalize 2 ^ (64 - n) = a at *
 generalize 2 ^ n = b at *
 obtain ⟨c,rfl⟩ : ∃ c,b = c + 1 := ⟨b - 1,by omega⟩
 rw [Nat.mul_add,Nat.mul_one] at hp
 have e : 18446744073709551615 = a * c + (a - 1) := by omega
 rw [e,Nat.mul_add_div h1,Nat.div_eq_of_lt (by omega)]
 rfl
theorem mask_eq {n : Nat} (h' : n <= 64) : (18446744073709551615 : Int) / 2 ^ ((64 : Int) - (n : Int)).toNat = ((2 ^ n - 1 : Nat) : Int) := by
 have e : ((64 : Int) - (n : Int)).toNat = 64 - n := by omega
 rw [e,<- mask_nat h',Int.natCast_ediv,Int.natCast_pow]
 rfl
theorem signed_eq {n : Nat} (h : 1 <= n) (h' : n <= 64) (v : Int) :
  wrap64 (IntKind.u64.wrap (v * 2 ^ ((64 : Int) - (n : Int)).toNat)) / 2 ^ ((64 : Int) - (n : Int)).toNat = sgn n v := by
 have e : ((64 : Int) - (n : Int)).toNat = 64 - n := by omega
 have w : ∀ x : Int,wrap64 (IntKind.u64.wrap x) = Int.bmod x 18446744073709551616 := by
  intro x; rw [IntKind.wrap_u64]; unfold wrap64; simp only [Int.bmod]; omega
 rw [e,w]
 have hp := pow_split h'
 have h1 := pow_pos (64 - n)
 have hh := pow_half h
 have hb := pow_pos (n - 1)
 unfold sgn
 rw [show (18446744073709551616 : Nat) = 2 ^ n * 2 ^ (64 - n) from by rw [Nat.mul_comm]; exact hp.symm]
 have : (v * 2 ^ (64 - n)).bmod (2 ^ n * 2 ^ (64 - n)) = v.bmod (2 ^ n) * ((2 ^ (64 - n) : Nat) : Int) := by
  rw [show ((2 : Int) ^ (64 - n)) = ((2 ^ (64 - n) : Nat) : Int) from by norm_cast]
  generalize 2 ^ (64 - n) = a at *
  rw [hh]
  generalize 2 ^ (n - 1) = b at *
  have l0 := Int.le_bmod (x := v) (m := 2 * b) (by omega)
  have l1 := Int.bmod_lt (x := v) (m := 2 * b) (by omega)
  have l2 : ((2 * b : Nat) : Int) ∣ v.bmod (2 * b) - v := ((Int.bmod_eq_iff (a := v) (b := 2 * b) (c := v.bmod (2 * b)) (by omega)).1 rfl).2.2
  generalize v.bmod (2 * b) = r at *
  have l3 : -(b : Int) <= r := by omega
  have l4 : r < b := by omega
  have ha : (0 : Int) < a := by omega
  have m1 := Int.mul_le_mul_of_nonneg_right l3 (Int.le_of_lt ha)
  have m2 := Int.mul_lt_mul_of_pos_right l4 ha
  have m3 : ((2 * b * a : Nat) : Int) = 2 * ((b : Int) * a) := by simp [Int.mul_assoc]
  rw [Int.neg_mul] at m1
  have m4 : 0 < 2 * b * a := Nat.mul_pos (by omega) h1
  refine (Int.bmod_eq_iff m4).2 ⟨?_,?_,?_⟩
  ·rw [m3]; omega
  ·rw [m3]; omega
  ·rw [<- Int.sub_mul,Int.natCast_mul]; exact Int.mul_dvd_mul_right _ l2
 rw [this,show ((2 : Int) ^ (64 - n)) = ((2 ^ (64 - n) : Nat) : Int) from by norm_cast]
 exact Int.mul_ediv_cancel _ (by omega)
theorem mul_same {x y : Int} (h : (decide (x < 0) == decide (y < 0)) = true) : x * y = (x.natAbs : Int) * y.natAbs := by
 rw [<- Int.natCast_mul,<- Int.natAbs_mul,Int.natAbs_of_nonneg]
 by_cases hx : x < 0 <;> by_cases hy : y < 0
 ·have := Int.mul_nonneg (a := -x) (b := -y) (by omega) (by omega); rwa [Int.neg_mul_neg] at this
 ·simp [hx,hy] at h
 ·simp [hx,hy] at h
 ·exact Int.mul_nonneg (by omega) (by omega)
theorem mul_apart {x y : Int} (h : (decide (x < 0) == decide (y < 0)) = false) : x * y = -((x.natAbs : Int) * y.natAbs) := by
 by_cases hx : x < 0 <;> by_cases hy : y < 0
 ·simp [hx,hy] at h
 ·have := mul_same (x := -x) (y := y) (by simp [hy]; omega)
  rw [Int.natAbs_neg] at this; rw [<- this,Int.neg_mul,Int.neg_neg]
 ·have := mul_same (x := x) (y := -y) (by simp [hx]; omega)
  rw [Int.natAbs_neg] at this; rw [<- this,Int.mul_neg,Int.neg_neg]
 ·simp [hx,hy] at h
theorem half_le {n : Nat} (h : n <= 64) (h1 : 1 <= n) : ((2 : Int) ^ (n - 1)) <= 9223372036854775808 /\ 0 < (2 : Int) ^ (n - 1) := by
 have h2 := pow_le h
 have h3 := pow_half h1
 have h4 := pow_pos (n - 1)
 have e : (2 : Int) ^ (n - 1) = ((2 ^ (n - 1) : Nat) : Int) := by norm_cast
 rw [e]; omega
def nsw (f : Int) : Bool := f == 1 || f == 3
def nuw (f : Int) : Bool := f == 2 || f == 3
def over (n : Nat) (f E S : Int) : Bool := nuw f && !fitsU n E || nsw f && !fitsS n S
def opI (op x y : Int) : Int := if op = 1 then x + y else if op = 2 then x - y else x * y
def ring (op : Int) (n : Nat) (f a b : Int) : Int × Int :=
 bif over n f (opI op a b) (opI op (sgn n a) (sgn n b)) then (0,1) else (opI op a b % 18446744073709551616,0)
theorem bmod_dbl {M : Nat} {z r : Int} (hM : 0 < M) (k : Int) (h : z = r + 2 * M * k) (h0 : -M <= r) (h1 : r < M) : z.bmod (2 * M) = r := by
 refine (Int.bmod_eq_iff (by omega)).2 ⟨by omega,by omega,⟨-k,?_⟩⟩
 rw [h,Int.natCast_mul,Int.mul_neg]; simp only [Int.cast_ofNat_Int]; omega
theorem dbl {n : Nat} (h : 1 <= n) (h' : n <= 64) : ∃ M : Nat,2 ^ n = 2 * M /\ 2 ^ (n - 1) = M /\ (2 : Int) ^ (n - 1) = M /\ (2 : Int) ^ n = 2 * M /\ 0 < M /\ M <= 9223372036854775808 /\ (n = 64 -> M = 9223372036854775808) /\ (n ≠ 64 -> M <= 4611686018427387904) := by
 refine ⟨2 ^ (n - 1),pow_half h,rfl,by norm_cast,?_,pow_pos _,?_,?_,?_⟩
 ·have := pow_half h
  rw [show ((2 : Int) ^ n) = ((2 ^ n : Nat) : Int) from by norm_cast,this]; simp
 ·have := pow_le h'; have := pow_half h; omega
 ·rintro rfl; rfl
 ·intro hn
  have := Nat.pow_le_pow_right (n := 2) (by omega) (show n - 1 <= 62 by omega)
  simpa using this
theorem sgn_range {n M : Nat} (h : 2 ^ n = 2 * M) (hM : 0 < M) (v : Int) : -(M : Int) <= sgn n v /\ sgn n v < M := by
 unfold sgn; rw [h]
 have l0 := Int.le_bmod (x := v) (m := 2 * M) (by omega)
 have l1 := Int.bmod_lt (x := v) (m := 2 * M) (by omega)
 omega
theorem sgn_wrap {n : Nat} (h' : n <= 64) (z : Int) : sgn n (IntKind.u64.wrap z) = sgn n z := by
 unfold sgn
 rw [IntKind.wrap_u64]
 have hd : (2 ^ n : Nat) ∣ 18446744073709551616 := ⟨2 ^ (64 - n),by rw [Nat.mul_comm]; exact (pow_split h').symm⟩
 obtain ⟨c,hc⟩ := hd
 rw [show (18446744073709551616 : Int) = ((2 ^ n : Nat) : Int) * (c : Int) from by rw [<- Int.natCast_mul,<- hc]; rfl]
 rw [<- Int.emod_bmod,Int.emod_emod_of_dvd _ (Int.dvd_mul_right _ _),Int.emod_bmod]
theorem sgn_wrap64 {n : Nat} (h' : n <= 64) (z : Int) : sgn n (IntKind.i64.wrap z) = sgn n z := by
 rw [<- sgn_wrap h' (IntKind.i64.wrap z),<- sgn_wrap h' z]
 congr 1
 rw [IntKind.wrap_u64,IntKind.wrap_u64,IntKind.wrap_i64]; omega
theorem sgn_mid {n M : Nat} {z : Int} (h : 2 ^ n = 2 * M) (hM : 0 < M) (h0 : -(M : Int) <= z) (h1 : z < M) : sgn n z = z := by
 unfold sgn; rw [h]; exact bmod_dbl hM 0 (by omega) h0 h1
theorem sgn_up {n M : Nat} {z : Int} (h : 2 ^ n = 2 * M) (hM : 0 < M) (h0 : (M : Int) <= z) (h1 : z < 3 * M) : sgn n z = z - 2 * M := by
 unfold sgn; rw [h]; exact bmod_dbl hM 1 (by omega) (by omega) (by omega)
theorem sgn_down {n M : Nat} {z : Int} (h : 2 ^ n = 2 * M) (hM : 0 < M) (h0 : -3 * (M : Int) <= z) (h1 : z < -M) : sgn n z = z + 2 * M := by
 unfold sgn; rw [h]; exact bmod_dbl hM (-1) (by omega) (by omega) (by omega)
theorem wraps_add {n : Nat} (h : 1 <= n) (h' : n <= 64) (a b : Int) :
  (decide (0 < signed n a) && decide (0 < signed n b) && decide (IntKind.i64.wrap (signed n a + signed n b) <= 0) ||
   decide (signed n a < 0) && decide (signed n b < 0) && decide (0 <= IntKind.i64.wrap (signed n a + signed n b)) ||
   IntKind.i64.wrap (signed n a + signed n b) != signed n (IntKind.u64.wrap (IntKind.i64.wrap (signed n a + signed n b)))) = !fitsS n (sgn n a + sgn n b) := by
 obtain ⟨M,h1,_,h2,_,hM,hle,_,_⟩ := dbl h h'
 have r1 := sgn_range h1 hM a
 have r2 := sgn_range h1 hM b
 rw [signed_in h h',signed_in h h',signed_in h h',sgn_wrap h',sgn_wrap64 h']
 unfold fitsS; rw [h2]
 generalize sgn n a = x at *
 generalize sgn n b = y at *
 have hb : sgn n (x + y) = x + y /\ -(M : Int) <= x + y /\ x + y < M \/ sgn n (x + y) = x + y - 2 * M /\ M <= x + y \/ sgn n (x + y) = x + y + 2 * M /\ x + y < -M := by
  by_cases c1 : x + y < -M
  ·exact .inr (.inr ⟨sgn_down h1 hM (by omega) c1,c1⟩)
  ·by_cases c2 : (M : Int) <= x + y
   ·exact .inr (.inl ⟨sgn_up h1 hM c2 (by omega),c2⟩)
   ·exact .inl ⟨sgn_mid h1 hM (by omega) (by omega),by omega,by omega⟩
 generalize sgn n (x + y) = s at *
 rw [Bool.eq_iff_iff]
 simp only [IntKind.wrap_i64,Bool.or_eq_true,Bool.and_eq_true,decide_eq_true_eq,bne_iff_ne,ne_eq,Bool.not_eq_true',decide_eq_false_iff_not]
 omega
theorem wraps_sub {n : Nat} (h : 1 <= n) (h' : n <= 64) (a b : Int) :
  (decide (0 <= signed n a) && decide (signed n b < 0) && decide (IntKind.i64.wrap (signed n a - signed n b) < 0) ||
   decide (signed n a < 0) && decide (0 < signed n b) && decide (0 <= IntKind.i64.wrap (signed n a - signed n b)) ||
   IntKind.i64.wrap (signed n a - signed n b) != signed n (IntKind.u64.wrap (IntKind.i64.wrap (signed n a - signed n b)))) = !fitsS n (sgn n a - sgn n b) := by
 obtain ⟨M,h1,_,h2,_,hM,hle,_,_⟩ := dbl h h'
 have r1 := sgn_range h1 hM a
 have r2 := sgn_range h1 hM b
 rw [signed_in h h',signed_in h h',signed_in h h',sgn_wrap h',sgn_wrap64 h']
 unfold fitsS; rw [h2]
 generalize sgn n a = x at *
 generalize sgn n b = y at *
 have hb : sgn n (x - y) = x - y /\ -(M : Int) <= x - y /\ x - y < M \/ sgn n (x - y) = x - y - 2 * M /\ M <= x - y \/ sgn n (x - y) = x - y + 2 * M /\ x - y < -M := by
  by_cases c1 : x - y < -M
  ·exact .inr (.inr ⟨sgn_down h1 hM (by omega) c1,c1⟩)
  ·by_cases c2 : (M : Int) <= x - y
   ·exact .inr (.inl ⟨sgn_up h1 hM c2 (by omega),c2⟩)
   ·exact .inl ⟨sgn_mid h1 hM (by omega) (by omega),by omega,by omega⟩
 generalize sgn n (x - y) = s at *
 rw [Bool.eq_iff_iff]
 simp only [IntKind.wrap_i64,Bool.or_eq_true,Bool.and_eq_true,decide_eq_true_eq,bne_iff_ne,ne_eq,Bool.not_eq_true',decide_eq_false_iff_not]
 omega
theorem above_add {n : Nat} (h : 1 <= n) (h' : n <= 64) {a b : Int} (ha : 0 <= a) (hb : 0 <= b) (ha' : a < 18446744073709551616) (hb' : b < 18446744073709551616) :
  ((a + b) / 18446744073709551616 == 1 || decide (mask n < (a + b) % 18446744073709551616)) = !fitsU n (a + b) := by
 obtain ⟨M,h1,_,_,h2,hM,hle,_,_⟩ := dbl h h'
 rw [mask_in h h',h1]; unfold fitsU; rw [h2]
 rw [Bool.eq_iff_iff]
 simp only [Bool.or_eq_true,decide_eq_true_eq,beq_iff_eq,Bool.not_eq_true',decide_eq_false_iff_not]
 omega
theorem nuw_eq {f : Int} (h : f = 0 \/ f = 1 \/ f = 2 \/ f = 3) : (bits .and .i64 f 2 != 0) = nuw f := by rcases h with rfl|rfl|rfl|rfl <;> rfl
theorem nsw_eq {f : Int} (h : f = 0 \/ f = 1 \/ f = 2 \/ f = 3) : (bits .and .i64 f 1 != 0) = nsw f := by rcases h with rfl|rfl|rfl|rfl <;> rfl
theorem below_sub {n : Nat} (h : 1 <= n) (h' : n <= 64) {a b : Int} (hb : 0 <= b) (ha' : a < 2 ^ n) : decide (a < b) = !fitsU n (a - b) := by
 unfold fitsU
 rw [Bool.eq_iff_iff]
 simp only [decide_eq_true_eq,Bool.not_eq_true',decide_eq_false_iff_not]
 omega
theorem above_mul {n : Nat} (h : 1 <= n) (h' : n <= 64) {p : Int} (hp : 0 <= p) :
  (p / 18446744073709551616 != 0 || decide (mask n < p % 18446744073709551616)) = !fitsU n p := by
 obtain ⟨M,h1,_,_,h2,hM,hle,_,_⟩ := dbl h h'
 rw [mask_in h h',h1]; unfold fitsU; rw [h2]
 rw [Bool.eq_iff_iff]
 simp only [Bool.or_eq_true,decide_eq_true_eq,bne_iff_ne,ne_eq,Bool.not_eq_true',decide_eq_false_iff_not]
 omega
theorem ring_t {op : Int} {n : Nat} {f a b E S : Int} (hE : opI op a b = E) (hS : opI op (sgn n a) (sgn n b) = S) (h : over n f E S = true) : ring op n f a b = (0,1) := by
 unfold ring; rw [hE,hS,h]; rfl
theorem ring_f {op : Int} {n : Nat} {f a b E S : Int} (hE : opI op a b = E) (hS : opI op (sgn n a) (sgn n b) = S) (h : over n f E S = false) : ring op n f a b = (E % 18446744073709551616,0) := by
 unfold ring; rw [hE,hS,h]; rfl
theorem sgn_i64 {n : Nat} (h : 1 <= n) (h' : n <= 64) (v : Int) : -9223372036854775808 <= sgn n v /\ sgn n v <= 9223372036854775807 := by
 obtain ⟨M,h1,_,_,_,hM,hle,_,_⟩ := dbl h h'
 have := sgn_range h1 hM v
 omega
def divR (op f q r : Int) : Int × Int := if op = 6 \/ op = 7 then (r % 18446744073709551616,0) else if f = 4 /\ r ≠ 0 then (0,1) else (q % 18446744073709551616,0)
def div (op : Int) (n : Nat) (f a b : Int) : Int × Int :=
 if b = 0 then (0,2) else if op = 4 \/ op = 6 then divR op f (a / b) (a % b)
 else if sgn n b = -1 /\ a = 2 ^ (n - 1) then (0,2) else divR op f ((sgn n a).tdiv (sgn n b)) ((sgn n a).tmod (sgn n b))
theorem exact_eq {f : Int} (h : f = 0 \/ f = 4) : (bits .and .i64 f 4 != 0) = (f == 4) := by rcases h with rfl|rfl <;> rfl
theorem div_zero (op : Int) (n : Nat) (f a : Int) : div op n f a 0 = (0,2) := if_pos rfl
theorem div_u {op : Int} {n : Nat} {f a b : Int} (ho : op = 4 \/ op = 6) (hb : 0 < b) : div op n f a b = divR op f (a / b) (a % b) := by
 unfold div; rw [if_neg (by omega),if_pos ho]
theorem divR_r {op f q r : Int} (c : (op == 6 || op == 7) = true) : divR op f q r = (r % 18446744073709551616,0) := by
 unfold divR; rw [if_pos (by simpa using c)]
theorem mod_small {z : Int} (h : 0 <= z) (h' : z < 18446744073709551616) : z % 18446744073709551616 = z := Int.emod_eq_of_lt h h'
theorem wrapQ {z : Int} : IntKind.u64.wrap (IntKind.i64.wrap z) = z % 18446744073709551616 := by rw [IntKind.wrap_u64,IntKind.wrap_i64]; omega
theorem tmod_small {x y : Int} (hx : -9223372036854775808 <= x) (hx' : x <= 9223372036854775807) : (IntKind.u64.wrap (x.tmod y) != 0) = (x.tmod y != 0) := by
 have h : (x.tmod y).natAbs <= x.natAbs := by rw [Int.natAbs_tmod]; exact Nat.mod_le _ _
 rw [Bool.eq_iff_iff]; simp only [bne_iff_ne,ne_eq,IntKind.wrap_u64]; omega
theorem pow_cast (n : Nat) : ((2 ^ n : Nat) : Int) = (2 : Int) ^ n := by norm_cast
theorem pow_split_int {n : Nat} (h : n <= 64) : (2 : Int) ^ n * 2 ^ (64 - n) = 18446744073709551616 := by
 rw [<- Int.pow_add,show n + (64 - n) = 64 by omega]; rfl
theorem pow_le_int {n : Nat} (h : n <= 64) : (2 : Int) ^ n <= 18446744073709551616 := by
 have := pow_le h
 rw [<- pow_cast]; omega
def shift (op : Int) (n : Nat) (f a b : Int) : Int × Int :=
 if (n : Int) <= b then (0,1)
 else if op = 11 then (bif over n f (a * 2 ^ b.toNat) (sgn n a * 2 ^ b.toNat) then (0,1) else (a * 2 ^ b.toNat % 2 ^ n,0))
 else bif f == 4 && a % 2 ^ b.toNat != 0 then (0,1)
 else if op = 12 then (a / 2 ^ b.toNat,0) else (sgn n a / 2 ^ b.toNat % 18446744073709551616,0)
theorem min_u {n k : Nat} (h : k < n) (h' : n <= 64) : min ((k : Int)).toNat IntKind.u64.bits = k := by simp only [IntKind.bits]; omega
theorem min_i {n k : Nat} (h : k < n) (h' : n <= 64) : min ((k : Int)).toNat IntKind.i64.bits = k := by simp only [IntKind.bits]; omega
theorem and_mask {n : Nat} {z : Int} (h : 1 <= n) (h' : n <= 64) (hz : 0 <= z) (hz' : z < 18446744073709551616) : bits .and .u64 z (mask n) = z % 2 ^ n := by
 obtain ⟨a,rfl⟩ := Int.eq_ofNat_of_zero_le hz
 have := pow_le h'
 rw [mask_in h h',u64_and_nat a (2 ^ n - 1) (by omega) (by omega),Nat.and_two_pow_sub_one_eq_mod,Int.natCast_emod,pow_cast]
theorem emod_pow {n : Nat} (h' : n <= 64) (z : Int) : z % 18446744073709551616 % 2 ^ n = z % 2 ^ n := by
 exact Int.emod_emod_of_dvd _ ⟨2 ^ (64 - n),(pow_split_int h').symm⟩
theorem and_mask_wrap {n : Nat} (h : 1 <= n) (h' : n <= 64) (z : Int) : bits .and .u64 (IntKind.u64.wrap z) (mask n) = z % 2 ^ n := by
 rw [IntKind.wrap_u64,and_mask h h' (by omega) (by omega),emod_pow h']
theorem pow_parts {n k : Nat} (h : k < n) : ∃ p q : Int,(2 : Int) ^ k = p /\ (2 : Int) ^ n = p * q /\ 0 < p /\ 2 <= q /\ (2 : Nat) ^ n = (p * q).toNat := by
 refine ⟨2 ^ k,2 ^ (n - k),rfl,?_,Int.pow_pos (by decide),?_,?_⟩
 ·rw [<- Int.pow_add,show k + (n - k) = n by omega]
 ·have := Nat.pow_le_pow_right (n := 2) (by omega) (show 1 <= n - k by omega)
  exact_mod_cast this
 ·rw [<- Int.pow_add,show k + (n - k) = n by omega]; norm_cast
theorem shl_u {n k : Nat} {a : Int} (h : k < n) (ha : 0 <= a) : (a * 2 ^ k % 2 ^ n / 2 ^ k != a) = !fitsU n (a * 2 ^ k) := by
 obtain ⟨p,q,e1,e2,hp,hq,_⟩ := pow_parts h
 unfold fitsU
 rw [e1,e2]
 have hz : a * p % (p * q) = a % q * p := by rw [Int.mul_comm a p,Int.mul_emod_mul_of_pos _ _ hp,Int.mul_comm]
 rw [hz,Int.mul_ediv_cancel _ (by omega)]
 have hap : 0 <= a * p := Int.mul_nonneg ha (by omega)
 have hlt : a * p < p * q ↔ a < q := by rw [Int.mul_comm p q]; exact Int.mul_lt_mul_right hp
 have hm := Int.emod_nonneg a (show q ≠ 0 by omega)
 have hm' := Int.emod_lt_of_pos a (show 0 < q by omega)
 rw [Bool.eq_iff_iff]
 simp only [bne_iff_ne,ne_eq,Bool.not_eq_true',decide_eq_false_iff_not,hlt]
 by_cases c : a < q
 ·rw [Int.emod_eq_of_lt ha c]; simp [c,hap]
 ·simp [c]; omega
theorem sgn_cong {n : Nat} {y z : Int} (h : (2 : Int) ^ n ∣ y - z) : sgn n y = sgn n z := by
 unfold sgn
 obtain ⟨c,hc⟩ := h
 have e : y = z + ((2 ^ n : Nat) : Int) * c := by rw [pow_cast]; omega
 rw [e,<- Int.emod_bmod,Int.add_mul_emod_self_left,Int.emod_bmod]
theorem sgn_dvd (n : Nat) (z : Int) : (2 : Int) ^ n ∣ sgn n z - z := by
 have := ((Int.bmod_eq_iff (a := z) (b := 2 ^ n) (c := sgn n z) (pow_pos n)).1 rfl).2.2
 exact_mod_cast this
theorem emod_dvd (z m : Int) : m ∣ z % m - z := ⟨-(z / m),by have := Int.emod_add_mul_ediv z m; rw [Int.mul_neg]; omega⟩
theorem shl_s {n k : Nat} {a : Int} (h1 : 1 <= n) (h' : n <= 64) (h : k < n) : (sgn n (a * 2 ^ k % 2 ^ n) / 2 ^ k != sgn n a) = !fitsS n (sgn n a * 2 ^ k) := by
 have hc : sgn n (a * 2 ^ k % 2 ^ n) = sgn n (sgn n a * 2 ^ k) := by
  refine sgn_cong ?_
  have d1 := emod_dvd (a * 2 ^ k) (2 ^ n)
  have d2 := Int.mul_dvd_mul_right (2 ^ k) (sgn_dvd n a)
  have d3 : (2 : Int) ^ n ∣ (sgn n a - a) * 2 ^ k := Int.dvd_trans (Int.dvd_mul_right _ _) d2
  have := Int.dvd_sub d1 d3
  rwa [Int.sub_mul,show a * 2 ^ k % 2 ^ n - a * 2 ^ k - (sgn n a * 2 ^ k - a * 2 ^ k) = a * 2 ^ k % 2 ^ n - sgn n a * 2 ^ k by omega] at this
 rw [hc]
 obtain ⟨M,g1,_,g2,g3,hM,hle,_,_⟩ := dbl h1 h'
 obtain ⟨p,q,e1,e2,hp,hq,_⟩ := pow_parts h
 have hx := sgn_range g1 hM a
 unfold fitsS
 generalize sgn n a = x at *
 have hr := sgn_range g1 hM (x * 2 ^ k)
 have hd := sgn_dvd n (x * 2 ^ k)
 rw [e1] at *
 rw [g2]
 by_cases c : -(M : Int) <= x * p /\ x * p < M
 ·rw [sgn_mid g1 hM c.1 c.2,Int.mul_ediv_cancel _ (by omega)]; simp [c]
 ·have : sgn n (x * p) / p ≠ x := by
   intro he
   have h2 := Int.emod_add_mul_ediv (sgn n (x * p)) p
   have h3 := Int.emod_nonneg (sgn n (x * p)) (show p ≠ 0 by omega)
   have h4 := Int.emod_lt_of_pos (sgn n (x * p)) hp
   rw [he,Int.mul_comm p x] at h2
   rw [e2] at hd
   obtain ⟨t,ht⟩ := hd
   have h5 : sgn n (x * p) % p = p * (q * t) := by rw [<- Int.mul_assoc,<- ht]; omega
   have h6 : q * t = 0 := by
    rw [h5] at h3 h4
    have l1 : 0 <= q * t := by
     rcases Int.lt_or_le (q * t) 0 with hneg|hpos
     ·have := Int.mul_neg_of_pos_of_neg hp hneg; omega
     ·exact hpos
    have l2 : q * t < 1 := by
     rcases Int.lt_or_le (q * t) 1 with hl|hg
     ·exact hl
     ·have := Int.mul_le_mul_of_nonneg_left hg (Int.le_of_lt hp); omega
    omega
   rw [h5,h6] at h2
   have : sgn n (x * p) = x * p := by omega
   omega
  simp [this,c]
theorem lshr_x {n k : Nat} {a : Int} (h' : n <= 64) (h : k < n) (ha : 0 <= a) (ha' : a < 2 ^ n) : (IntKind.u64.wrap (a / 2 ^ k * 2 ^ k) != a) = (a % 2 ^ k != 0) := by
 obtain ⟨p,q,e1,e2,hp,hq,_⟩ := pow_parts h
 rw [e1]
 have h2 := Int.emod_add_mul_ediv a p
 rw [Int.mul_comm] at h2
 have h3 := Int.emod_nonneg a (show p ≠ 0 by omega)
 have h4 := Int.mul_nonneg (Int.ediv_nonneg ha (Int.le_of_lt hp)) (Int.le_of_lt hp)
 have h5 := pow_le_int h'
 rw [IntKind.wrap_u64,Int.emod_eq_of_lt h4 (by omega),Bool.eq_iff_iff]
 simp only [bne_iff_ne,ne_eq]; omega
theorem ashr_x {n k : Nat} {a : Int} (h' : n <= 64) (h : k < n) (ha : 0 <= a) (ha' : a < 2 ^ n) : (IntKind.u64.wrap (sgn n a / 2 ^ k) * 2 ^ k % 2 ^ n != a) = (a % 2 ^ k != 0) := by
 have hs := sgn_dvd n a
 obtain ⟨p,q,e1,e2,hp,hq,_⟩ := pow_parts h
 have hw : (2 : Int) ^ n ∣ IntKind.u64.wrap (sgn n a / 2 ^ k) * 2 ^ k - sgn n a / 2 ^ k * 2 ^ k := by
  rw [<- Int.sub_mul,IntKind.wrap_u64]
  have d := emod_dvd (sgn n a / 2 ^ k) 18446744073709551616
  have d' : (2 : Int) ^ n ∣ 18446744073709551616 := ⟨2 ^ (64 - n),(pow_split_int h').symm⟩
  exact Int.dvd_trans (Int.dvd_trans d' d) (Int.dvd_mul_right _ _)
 generalize IntKind.u64.wrap (sgn n a / 2 ^ k) = v at *
 generalize sgn n a = x at *
 have ha2 : a < p * q := by rw [<- e2]; exact ha'
 clear ha'
 rw [e1,e2] at *
 have h2 := Int.emod_add_mul_ediv x p
 rw [Int.mul_comm] at h2
 have h3 := Int.emod_nonneg x (show p ≠ 0 by omega)
 have h4 := Int.emod_lt_of_pos x hp
 have hpq : p ∣ p * q := Int.dvd_mul_right _ _
 have hmod : x % p = a % p := by
  have := Int.dvd_trans hpq hs
  exact (Int.emod_emod_of_dvd x (Int.dvd_refl p)).symm.trans (Int.emod_emod_of_dvd x (Int.dvd_refl p)) |>.trans (Int.emod_eq_emod_iff_emod_sub_eq_zero.2 (Int.emod_eq_zero_of_dvd this))
 have hfin : p * q ∣ v * p - a + x % p := by
  have := Int.dvd_add hw hs
  have e : v * p - x / p * p + (x - a) = v * p - a + x % p := by omega
  rwa [e] at this
 rw [<- hmod]
 generalize x % p = r at *
 have hpq' : p * 2 <= p * q := Int.mul_le_mul_of_nonneg_left hq (Int.le_of_lt hp)
 obtain ⟨t,ht⟩ := hfin
 have hv : v * p % (p * q) = (a - r) % (p * q) := by
  rw [show v * p = (a - r) + p * q * t by omega,Int.add_mul_emod_self_left]
 rw [hv,Bool.eq_iff_iff]
 simp only [bne_iff_ne,ne_eq]
 rcases Int.lt_or_le a r with c|c
 ·have : r ≠ 0 := by omega
  refine ⟨fun _=>this,fun _=>?_⟩
  rw [show a - r = (a - r + p * q) + p * q * (-1) by omega,Int.add_mul_emod_self_left,Int.emod_eq_of_lt (by omega) (by omega)]
  omega
 ·rw [Int.emod_eq_of_lt (by omega) (by omega)]; omega
theorem shift_l1 {n k : Nat} {f a : Int} (hk : k < n) (c : (nuw f && !fitsU n (a * 2 ^ k) || nsw f && !fitsS n (sgn n a * 2 ^ k)) = true) : shift 11 n f a k = (0,1) := by
 unfold shift over; rw [if_neg (by omega),if_pos rfl,Int.toNat_natCast,c]; rfl
theorem shift_l0 {n k : Nat} {f a : Int} (hk : k < n) (c : (nuw f && !fitsU n (a * 2 ^ k) || nsw f && !fitsS n (sgn n a * 2 ^ k)) = false) : shift 11 n f a k = (a * 2 ^ k % 2 ^ n,0) := by
 unfold shift over; rw [if_neg (by omega),if_pos rfl,Int.toNat_natCast,c]; rfl
theorem shift_r1 {op : Int} {n k : Nat} {f a : Int} (hk : k < n) (ho : op ≠ 11) (c : (f == 4 && a % 2 ^ k != 0) = true) : shift op n f a k = (0,1) := by
 unfold shift; rw [if_neg (by omega),if_neg ho,Int.toNat_natCast,c]; rfl
theorem shift_r0 {op : Int} {n k : Nat} {f a : Int} (hk : k < n) (ho : op ≠ 11) (c : (f == 4 && a % 2 ^ k != 0) = false) : shift op n f a k = if op = 12 then (a / 2 ^ k,0) else (sgn n a / 2 ^ k % 18446744073709551616,0) := by
 unfold shift; rw [if_neg (by omega),if_neg ho,Int.toNat_natCast,c]; rfl
theorem andNot_self {f c : Int} (h : bits .andNot .i64 f c = 0) : (BitVec.ofInt 64 f).toNat = (BitVec.ofInt 64 f).toNat &&& (BitVec.ofInt 64 c).toNat := by
 have h0 : BitVec.ofInt 64 f &&& ~~~ BitVec.ofInt 64 c = 0#64 := by
  have h : IntKind.i64.wrap ((BitVec.ofInt 64 f &&& ~~~ BitVec.ofInt 64 c).toNat : Int) = 0 := h
  rw [IntKind.wrap_i64] at h
  have hlt := (BitVec.ofInt 64 f &&& ~~~ BitVec.ofInt 64 c).isLt
  apply BitVec.eq_of_toNat_eq
  simp only [BitVec.toNat_ofNat]
  omega
 rw [<- BitVec.toNat_and]
 congr 1
 apply BitVec.eq_of_getLsbD_eq
 intro j hj
 have := congrArg (fun v=>v.getLsbD j) h0
 simp only [BitVec.getLsbD_and,BitVec.getLsbD_not,BitVec.getLsbD_zero,hj,decide_true,Bool.true_and] at this ⊢
 cases h1 : (BitVec.ofInt 64 f).getLsbD j <;> cases h2 : (BitVec.ofInt 64 c).getLsbD j <;> simp_all
theorem ofInt_nat {f : Int} (h : -9223372036854775808 <= f) (h' : f <= 9223372036854775807) {m : Nat} (hm : m < 9223372036854775808) (he : (BitVec.ofInt 64 f).toNat = m) : f = m := by
 rw [BitVec.toNat_ofInt] at he
 have : ((2 : Nat) ^ 64 : Nat) = 18446744073709551616 := rfl
 omega
theorem flags3 {f : Int} (h : -9223372036854775808 <= f) (h' : f <= 9223372036854775807) (hf : bits .andNot .i64 f 3 = 0) : f = 0 \/ f = 1 \/ f = 2 \/ f = 3 := by
 have h1 := andNot_self hf
 rw [show (BitVec.ofInt 64 3).toNat = 3 from rfl,nat_mask2] at h1
 have := ofInt_nat h h' (m := (BitVec.ofInt 64 f).toNat) (by omega) rfl
 omega
theorem flags4 {f : Int} (h : -9223372036854775808 <= f) (h' : f <= 9223372036854775807) (hf : bits .andNot .i64 f 4 = 0) : f = 0 \/ f = 4 := by
 have h1 := andNot_self hf
 rw [show (BitVec.ofInt 64 4).toNat = 2 ^ 2 from rfl,nat_bit] at h1
 have := ofInt_nat h h' (m := (BitVec.ofInt 64 f).toNat) (by omega) rfl
 omega
theorem flags0 {f : Int} (h : -9223372036854775808 <= f) (h' : f <= 9223372036854775807) (hf : bits .andNot .i64 f 0 = 0) : f = 0 := by
 have h1 := andNot_self hf
 rw [show (BitVec.ofInt 64 0).toNat = 0 from rfl,Nat.and_zero] at h1
 have := ofInt_nat h h' (m := 0) (by omega) h1
 simpa using this
def bitw (op a b : Int) : Int := if op = 8 then bits .and .u64 a b else if op = 9 then bits .or .u64 a b else bits .xor .u64 a b
def cmp (op : Int) (n : Nat) (a b : Int) : Bool :=
 if op = 14 then a == b else if op = 15 then a != b else if op = 16 then decide (a < b) else if op = 17 then decide (a <= b) else if op = 18 then decide (sgn n a < sgn n b) else decide (sgn n a <= sgn n b)
def core (op : Int) (n : Nat) (f a b : Int) : Int × Int :=
 if op <= 3 then ring op n f a b else if op <= 7 then div op n f a b else if op <= 10 then (bitw op a b,0) else if op <= 13 then shift op n f a b else (bif cmp op n a b then 1 else 0,0)
def cutR (n : Nat) (p : Int × Int) : Int × Int := bif p.2 != 0 then (0,p.2) else (p.1 % 2 ^ n,0)
def badA (op w f : Int) : Bool := mask w == 0 || decide (op < 1) || decide (19 < op) || bits .andNot .i64 f (flags op) != 0
def apply (op w f a b : Int) : Int × Int :=
 bif badA op w f then (0,3) else cutR w.toNat (core op w.toNat f (a % 2 ^ w.toNat) (b % 2 ^ w.toNat))
theorem goodA {op w f : Int} (h : badA op w f = false) : (∃ n : Nat,w = n /\ 1 <= n /\ n <= 64) /\ 1 <= op /\ op <= 19 /\ bits .andNot .i64 f (flags op) = 0 := by
 unfold badA at h
 simp only [Bool.or_eq_false_iff,decide_eq_false_iff_not,bne_eq_false_iff_eq,beq_eq_false_iff_ne,ne_eq] at h
 obtain ⟨⟨⟨h1,h2⟩,h3⟩,h4⟩ := h
 refine ⟨?_,by omega,by omega,h4⟩
 by_cases hw : 1 <= w /\ w <= 64
 ·obtain ⟨n,rfl⟩ := Int.eq_ofNat_of_zero_le (show 0 <= w by omega)
  exact ⟨n,rfl,by omega,by omega⟩
 ·exact absurd (mask_out hw) h1
theorem apply_bad {op w f a b : Int} (h : badA op w f = true) : apply op w f a b = (0,3) := by unfold apply; rw [h]; rfl
theorem apply_ok {op f a b : Int} {n : Nat} (h : badA op n f = false) : apply op n f a b = cutR n (core op n f (a % 2 ^ n) (b % 2 ^ n)) := by unfold apply; rw [h]; rfl
theorem cutR_t {n : Nat} {p : Int × Int} (h : (p.2 != 0) = true) : cutR n p = (0,p.2) := by unfold cutR; rw [h]; rfl
theorem cutR_f {n : Nat} {p : Int × Int} (h : (p.2 != 0) = false) : cutR n p = (p.1 % 2 ^ n,0) := by unfold cutR; rw [h]; rfl
theorem core_ring {op : Int} {n : Nat} {f a b : Int} (h : op <= 3) : core op n f a b = ring op n f a b := if_pos h
theorem core_div {op : Int} {n : Nat} {f a b : Int} (h : 4 <= op) (h' : op <= 7) : core op n f a b = div op n f a b := by unfold core; rw [if_neg (by omega),if_pos h']
theorem core_bit {op : Int} {n : Nat} {f a b : Int} (h : 8 <= op) (h' : op <= 10) : core op n f a b = (bitw op a b,0) := by unfold core; rw [if_neg (by omega),if_neg (by omega),if_pos h']
theorem core_shift {op : Int} {n : Nat} {f a b : Int} (h : 11 <= op) (h' : op <= 13) : core op n f a b = shift op n f a b := by unfold core; rw [if_neg (by omega),if_neg (by omega),if_neg (by omega),if_pos h']
theorem core_cmp {op : Int} {n : Nat} {f a b : Int} (h : 14 <= op) : core op n f a b = (bif cmp op n a b then 1 else 0,0) := by unfold core; rw [if_neg (by omega),if_neg (by omega),if_neg (by omega),if_neg (by omega)]
theorem mod_range (n : Nat) (a : Int) : 0 <= a % 2 ^ n /\ a % 2 ^ n < 2 ^ n := by
 have p := Int.pow_pos (n := 2) (m := n) (by decide)
 exact ⟨Int.emod_nonneg a (by omega),Int.emod_lt_of_pos a p⟩
theorem mod64 (z : Int) : 0 <= z % 18446744073709551616 /\ z % 18446744073709551616 < 18446744073709551616 := by omega
theorem ring_range (op : Int) (n : Nat) (f a b : Int) : 0 <= (ring op n f a b).1 /\ (ring op n f a b).1 < 18446744073709551616 := by
 unfold ring; cases over n f (opI op a b) (opI op (sgn n a) (sgn n b)) <;> simp only [cond_true,cond_false] <;> omega
theorem div_range (op : Int) (n : Nat) (f a b : Int) : 0 <= (div op n f a b).1 /\ (div op n f a b).1 < 18446744073709551616 := by
 have hr : ∀ q r,0 <= (divR op f q r).1 /\ (divR op f q r).1 < 18446744073709551616 := fun q r=>by
  unfold divR; split
  ·exact mod64 r
  ·split
   ·decide
   ·exact mod64 q
 unfold div
 split
 ·decide
 ·split
  ·exact hr _ _
  ·split
   ·decide
   ·exact hr _ _
theorem shift_range (op : Int) {n : Nat} (f : Int) {a : Int} (b : Int) (h' : n <= 64) (ha : 0 <= a) (ha' : a < 18446744073709551616) : 0 <= (shift op n f a b).1 /\ (shift op n f a b).1 < 18446744073709551616 := by
 have hp := pow_le_int h'
 have h1 := mod_range n (a * 2 ^ b.toNat)
 have h2 := Int.ediv_nonneg ha (Int.le_of_lt (Int.pow_pos (n := 2) (m := b.toNat) (by decide)))
 have h3 : a / 2 ^ b.toNat <= a := Int.ediv_le_self _ ha
 unfold shift
 split
 ·decide
 ·split
  ·cases over n f (a * 2 ^ b.toNat) (sgn n a * 2 ^ b.toNat) <;> simp only [cond_true,cond_false] <;> omega
  ·cases (f == 4 && a % 2 ^ b.toNat != 0) <;> simp only [cond_true,cond_false]
   ·split
    ·exact ⟨h2,by omega⟩
    ·exact mod64 _
   ·decide
theorem bit_range {op a b : Int} (ha : 0 ≤ a) (ha' : a < 18446744073709551616) (hb : 0 ≤ b) (hb' : b < 18446744073709551616) : 0 ≤ bitw op a b ∧ bitw op a b < 18446744073709551616 := by
  obtain ⟨x, rfl⟩ := Int.eq_ofNat_of_zero_le ha
  obtain ⟨y, rfl⟩ := Int.eq_ofNat_of_zero_le hb
  have hx : x < 2 ^ 64 := by have : (2 : Nat) ^ 64 = 18446744073709551616 := rfl
                             omega
  have hy : y < 2 ^ 64 := by have : (2 : Nat) ^ 64 = 18446744073709551616 := rfl
                             omega
  have h1 := Nat.and_lt_two_pow x hy
  have h2 := Nat.or_lt_two_pow hx hy
  have h3 := Nat.xor_lt_two_pow hx hy
  have e : (2 : Nat) ^ 64 = 18446744073709551616 := rfl
  unfold bitw
  rw [u64_and_nat x y (by omega) (by omega), u64_or_nat x y (by omega) (by omega), u64_xor_nat x y (by omega) (by omega)]
  split
  · omega
  · split <;> omega
def conv (op p q v : Int) : Int × Bool :=
 if mask p = 0 \/ mask q = 0 then (0,false)
 else if op = 20 /\ p < q then (v % 2 ^ p.toNat,true) else if op = 21 /\ p < q then (sgn p.toNat v % 2 ^ q.toNat,true) else if op = 22 /\ q < p then (v % 2 ^ q.toNat,true) else (0,false)
theorem mask_zero {t : Int} : mask t = 0 ↔ ¬ (1 <= t /\ t <= 64) := by
 constructor
 ·intro h hc
  obtain ⟨n,rfl⟩ := Int.eq_ofNat_of_zero_le (show 0 <= t by omega)
  rw [mask_in (by omega) (by omega)] at h
  have := pow_half (n := n) (by omega)
  have := pow_pos (n - 1)
  omega
 ·exact mask_out
theorem and_maskI {t z : Int} (h : ¬ mask t = 0) (hz : 0 <= z) (hz' : z < 18446744073709551616) : bits .and .u64 z (mask t) = z % 2 ^ t.toNat := by
 have h' : 1 <= t /\ t <= 64 := by
  by_cases c : 1 <= t /\ t <= 64
  ·exact c
  ·exact absurd (mask_out c) h
 obtain ⟨n,rfl⟩ := Int.eq_ofNat_of_zero_le (show 0 <= t by omega)
 rw [Int.toNat_natCast]
 exact and_mask (by omega) (by omega) hz hz'
theorem and_maskW {t z : Int} (h : ¬ mask t = 0) : bits .and .u64 (IntKind.u64.wrap z) (mask t) = z % 2 ^ t.toNat := by
 have h' : 1 <= t /\ t <= 64 := by
  by_cases c : 1 <= t /\ t <= 64
  ·exact c
  ·exact absurd (mask_out c) h
 obtain ⟨n,rfl⟩ := Int.eq_ofNat_of_zero_le (show 0 <= t by omega)
 rw [Int.toNat_natCast]
 exact and_mask_wrap (by omega) (by omega) z
theorem signedI {t z : Int} (h : ¬ mask t = 0) : signed t z = sgn t.toNat z := by
 have h' : 1 <= t /\ t <= 64 := by
  by_cases c : 1 <= t /\ t <= 64
  ·exact c
  ·exact absurd (mask_out c) h
 exact if_pos h'
structure Vl where
 k : Int
 b : Int
 bl : Int
 off : Int
 deriving DecidableEq
def Vl.cells (v : Vl) : List Value := [.int .i64 v.k,.int .u64 v.b,.int .i64 v.bl,.int .i64 v.off]
def Vl.val (v : Vl) : Value := .agg v.cells.toArray
def Vl.zero : Vl := ⟨0,0,0,0⟩
def count (t : Int) : Int := if t = 65 then 8 else if 1 <= t /\ t <= 64 then (t + 7) / 8 else 0
def norm (t : Int) (v : Vl) : Vl :=
 if v.k = 1 /\ ¬ mask t = 0 then ⟨1,v.b % 2 ^ t.toNat,0,0⟩ else if v.k = 2 /\ t = 65 then ⟨2,0,v.bl,v.off⟩ else if v.k = 3 /\ 0 < count t then ⟨3,0,0,0⟩ else Vl.zero
theorem nz {z : Int} (h : (z == 0) = false) : ¬ z = 0 := by simpa using h
theorem nz' {k : Int} {z : Int} (h : (k == 1 && z != 0) = true) : ¬ z = 0 := by simp at h; exact h.2
def kinds (op t n f : Int) : Option (List Int) :=
 bif bits .andNot .i64 f (flags op) != 0 then none
 else bif decide (op < 1) || decide (29 < op) then none
 else bif op == 14 || op == 15 then (bif decide (1 <= t) && decide (t <= 64) || t == 65 then some [t,t] else none)
 else bif decide (op <= 19) then (bif decide (1 <= t) && decide (t <= 64) then some [t,t] else none)
 else bif decide (op <= 22) then (bif (conv op n t 0).2 then some [n] else none)
 else bif op == 23 then (bif decide (1 <= t) && decide (t <= 64) || t == 65 then some [1,t,t] else none)
 else bif op == 24 then (bif decide (1 <= t) && decide (t <= 64) || t == 65 then some [t] else none)
 else bif op == 29 then (bif t == 65 then some [65,64] else none)
 else none
def divisor (op t : Int) (a b : Vl) : Int :=
 bif b.k == 0 || b.k == 1 && b.b == 0 then 2
 else bif (op == 5 || op == 7) && b.b == mask t && b.k == 1 && a.k == 0 then 2
 else bif b.k == 3 then 4
 else bif (op == 5 || op == 7) && b.b == mask t && b.k == 1 && a.k == 3 then 4
 else 0
def any : Vl := ⟨3,0,0,0⟩
def chosen (a b c : Vl) : Vl :=
 bif a.k == 0 then Vl.zero else bif a.k == 1 && a.b == 1 then b else bif a.k == 1 then c else bif decide (b = c) then b else bif b.k == 0 || c.k == 0 then Vl.zero else any
end Go.Proofs.YtjfdbmfcnhjfoaaGreat.Pl

namespace Go.Proofs.YtjfdbmfcnhjfoaaGreat
open Go.RowKit
end Go.Proofs.YtjfdbmfcnhjfoaaGreat
namespace Go.Proofs.YtjfdbmfcnhjfoaaGreat.Pl
def number (z : Int) : Vl := ⟨1,z,0,0⟩
def loosely (op t f : Int) (b : Vl) : Vl :=
 bif (decide (11 <= op) && decide (op <= 13) && (b.k == 3 || decide (IntKind.u64.wrap t <= b.b))) || f != 0 then Vl.zero else any
def clear (op t n f : Int) (a b : Vl) : Vl × Int :=
 bif op == 29 then (⟨a.k,a.b,a.bl,IntKind.i64.wrap (a.off + IntKind.i64.wrap b.b)⟩,0)
 else bif decide (20 <= op) then (number (conv op n t a.b).1,0)
 else bif t == 65 then (number (bif decide (a = b) == (op == 14) then 1 else 0),0)
 else bif (apply op t f a.b b.b).2 == 0 then (number (apply op t f a.b b.b).1,0)
 else bif (apply op t f a.b b.b).2 == 1 then (Vl.zero,0) else (Vl.zero,(apply op t f a.b b.b).2)
def row (ws : List Int) (xs : List Vl) : List Vl := List.zipWith norm ws xs
def at_ (l : List Vl) (i : Nat) : Vl := l.getD i Vl.zero
def isDiv (op : Int) : Bool := decide (4 <= op) && decide (op <= 7)
def made (op t n f : Int) (l : List Vl) : Vl × Int :=
 bif isDiv op && divisor op t (at_ l 0) (at_ l 1) != 0 then (Vl.zero,divisor op t (at_ l 0) (at_ l 1))
 else bif op == 24 then (bif l.any (·.k == 0) then (any,0) else (at_ l 0,0))
 else bif op == 23 then (chosen (at_ l 0) (at_ l 1) (at_ l 2),0)
 else bif l.any (·.k == 0) then (Vl.zero,0)
 else bif l.any (·.k == 3) then (loosely op t f (at_ l 1),0)
 else clear op t n f (at_ l 0) (at_ l 1)
def eval (op t n f : Int) (xs : List Vl) : Vl × Int :=
 match kinds op t n f with
 | none=>(Vl.zero,3)
 | some ws=>bif ws.length != xs.length then (Vl.zero,3) else made op t n f (row ws xs)
end Go.Proofs.YtjfdbmfcnhjfoaaGreat.Pl
namespace Go.Proofs.YtjfdbmfcnhjfoaaGreat.Pl
def arity (op : Int) : Nat := if op <= 19 then 2 else if op <= 22 then 1 else if op = 23 then 3 else if op = 24 then 1 else 2
theorem kinds_len {op t n f : Int} {ws : List Int} (h : kinds op t n f = some ws) : ws.length = arity op /\ 1 <= op /\ (op <= 24 \/ op = 29) := by
 revert h
 unfold kinds
 simp only [Bool.cond_eq_ite]
 repeat' split
 all_goals intro h
 all_goals first|(cases h; done)|skip
 all_goals (cases h; rename_i h1 _; simp at *; unfold arity; (repeat' split) <;> omega)
theorem arity_le (op : Int) : 1 <= arity op /\ arity op <= 3 := by
 unfold arity
 (repeat' split) <;> omega
theorem norm_range {t : Int} {v : Vl} : 0 <= (norm t v).b /\ (norm t v).b < 18446744073709551616 := by
 unfold norm
 split
 ·rename_i h
  have h1 := mod_range t.toNat v.b
  have h2 : t.toNat <= 64 := by
   rcases Classical.em (1 <= t /\ t <= 64) with q|q
   ·omega
   ·exact absurd (mask_zero.2 q) h.2
  have h3 := pow_le_int h2
  simp only; omega
 ·repeat' split
  all_goals (simp [Vl.zero])
theorem row_length {ws : List Int} {xs : List Vl} (h : ws.length = xs.length) : (row ws xs).length = xs.length := by unfold row; rw [List.length_zipWith,h]; omega
theorem row_get {ws : List Int} {xs : List Vl} {j : Nat} {t : Int} {x : Vl} (ht : ws[j]? = some t) (hx : xs[j]? = some x) : (row ws xs)[j]? = some (norm t x) := by
 unfold row; rw [List.getElem?_zipWith,ht,hx]
theorem row_range {ws : List Int} {xs : List Vl} {y : Vl} (h : y ∈ row ws xs) : 0 <= y.b /\ y.b < 18446744073709551616 := by
 obtain ⟨j,hj⟩ := List.getElem?_of_mem h
 unfold row at hj
 rw [List.getElem?_zipWith] at hj
 split at hj
 ·cases hj; exact norm_range
 ·cases hj
def fill (ws : List Int) (xs : List Vl) (j : Nat) : List Vl := (row ws xs).take j ++ List.replicate (xs.length - j) Vl.zero
def has (q : Int) (ws : List Int) (xs : List Vl) (j : Nat) : Bool := ((row ws xs).take j).any (·.k == q)
theorem fill_length {ws : List Int} {xs : List Vl} {j : Nat} (h : ws.length = xs.length) (hj : j <= xs.length) : (fill ws xs j).length = xs.length := by
 unfold fill; rw [List.length_append,List.length_take,row_length h,List.length_replicate]; omega
theorem fill_succ {ws : List Int} {xs : List Vl} {j : Nat} {y : Vl} (h : ws.length = xs.length) (hy : (row ws xs)[j]? = some y) : (fill ws xs j).set j y = fill ws xs (j + 1) := by
 have hj : j < xs.length := by have := (List.getElem?_eq_some_iff.1 hy).1; rwa [row_length h] at this
 have hl : ((row ws xs).take j).length = j := by rw [List.length_take,row_length h]; omega
 unfold fill
 rw [List.set_append_right _ _ (by omega),hl,Nat.sub_self,show xs.length - j = (xs.length - (j + 1)) + 1 by omega,List.replicate_succ,List.set_cons_zero,List.take_add_one,hy]
 simp
theorem has_succ {ws : List Int} {xs : List Vl} {j : Nat} {y : Vl} (q : Int) (hy : (row ws xs)[j]? = some y) : has q ws xs (j + 1) = (has q ws xs j || y.k == q) := by
 unfold has; rw [List.take_add_one,hy]; simp
theorem fill_all {ws : List Int} {xs : List Vl} (h : ws.length = xs.length) : fill ws xs xs.length = row ws xs := by
 unfold fill; rw [Nat.sub_self,List.take_of_length_le (by rw [row_length h]; exact Nat.le_refl _)]; simp
theorem eval_made {op t n f : Int} {ws : List Int} {xs : List Vl} (hk : kinds op t n f = some ws) (h : ws.length = xs.length) : eval op t n f xs = made op t n f (row ws xs) := by
 unfold eval; rw [hk]; simp [h]
end Go.Proofs.YtjfdbmfcnhjfoaaGreat.Pl
namespace Go.Proofs.YtjfdbmfcnhjfoaaGreat.Pl
end Go.Proofs.YtjfdbmfcnhjfoaaGreat.Pl

namespace Go.Proofs.YtjfdbmfcnhjfoaaGreat
open Go.RowKit
end Go.Proofs.YtjfdbmfcnhjfoaaGreat
namespace Go.Proofs.YtjfdbmfcnhjfoaaGreat.Pl
def Rg (z : Int) : Prop := 0 <= z /\ z < 18446744073709551616
theorem mod_rg {n : Nat} (h : n <= 64) (z : Int) : Rg (z % 2 ^ n) := by
 have h1 := mod_range n z
 have h2 := pow_le_int h
 unfold Rg; omega
theorem mask_le {t : Int} (h : ¬ mask t = 0) : t.toNat <= 64 := by
 rcases Classical.em (1 <= t /\ t <= 64) with q|q
 ·omega
 ·exact absurd (mask_zero.2 q) h
theorem rg0 : Rg 0 := by unfold Rg; decide
theorem conv_rg (op p q v : Int) : Rg (conv op p q v).1 := by
 unfold conv
 split
 ·exact rg0
 ·rename_i h
  have hp : ¬ mask p = 0 := fun e=>h (.inl e)
  have hq : ¬ mask q = 0 := fun e=>h (.inr e)
  repeat' split
  ·exact mod_rg (mask_le hp) _
  ·exact mod_rg (mask_le hq) _
  ·exact mod_rg (mask_le hq) _
  ·exact rg0
theorem apply_rg (op w f a b : Int) : Rg (apply op w f a b).1 := by
 unfold apply
 cases h : badA op w f with
 | true=>exact rg0
 | false =>
  obtain ⟨⟨n,rfl,h1,h2⟩,_⟩ := goodA h
  simp only [cond_false,Int.toNat_natCast]
  unfold cutR
  cases ((core op n f (a % 2 ^ n) (b % 2 ^ n)).2 != 0)
  ·exact mod_rg h2 _
  ·exact rg0
theorem at_rg {ws : List Int} {xs : List Vl} (i : Nat) : Rg (at_ (row ws xs) i).b := by
 unfold at_
 rw [List.getD_eq_getElem?_getD]
 cases h : (row ws xs)[i]? with
 | none=>exact rg0
 | some y=>exact row_range (List.mem_of_getElem? h)
theorem made_rg (op t n f : Int) (ws : List Int) (xs : List Vl) : Rg (made op t n f (row ws xs)).1.b := by
 have h0 := at_rg (ws := ws) (xs := xs) 0
 have h1 := at_rg (ws := ws) (xs := xs) 1
 have h2 := at_rg (ws := ws) (xs := xs) 2
 unfold made
 generalize at_ (row ws xs) 0 = a at *
 generalize at_ (row ws xs) 1 = b at *
 generalize at_ (row ws xs) 2 = c at *
 have r1 : Rg 1 := by unfold Rg; decide
 unfold chosen loosely clear number
 simp only [Bool.cond_eq_ite]
 repeat' split
 all_goals first|exact rg0|exact h0|exact h1|exact h2|exact r1|exact conv_rg _ _ _ _|exact apply_rg _ _ _ _ _
theorem eval_rg (op t n f : Int) (xs : List Vl) : Rg (eval op t n f xs).1.b := by
 unfold eval
 split
 ·exact rg0
 ·rename_i ws _
  cases h : (ws.length != xs.length)
  ·exact made_rg _ _ _ _ _ _
  ·exact rg0
end Go.Proofs.YtjfdbmfcnhjfoaaGreat.Pl

namespace Go.Proofs.YtjfdbmfcnhjfoaaGreat
open Go.RowKit
open Pl (Vl)
@[inline] def letV {α β : Type} (x : α) (f : α -> β) : β := f x
structure LV where
 l : List Vl
structure Bg where
 hi : Int
 lo : Int
 below : Bool
 deriving DecidableEq
def d_latheref01_width (p0 : Int) : Bool :=
 ((decide (1 <= p0)) && (decide (p0 <= 64)))
def d_latheref01_Cut (p0 : Int) (p1 : Int) : Int :=
  bif (decide (64 ≤ p0)) then
   p1
  else (Int.tmod p1 (IntKind.u64.wrap (1 * 2 ^ (min (Int.toNat p0) (IntKind.bits .u64)))))
def d_latheref01_half (p0 : Int) : Int :=
 (IntKind.u64.wrap (1 * 2 ^ (min (Int.toNat (IntKind.i64.wrap (p0 - 1))) (IntKind.bits .u64))))
def d_latheref01_Plain (p0 : Int) (p1 : Int) : Bg :=
 (⟨0,(d_latheref01_Cut p0 p1),false⟩ : Bg)
def d_latheref01_With (p0 : Int) (p1 : Int) : Bg :=
  bif (decide ((d_latheref01_Cut p0 p1) < (d_latheref01_half p0))) then
   (⟨0, (d_latheref01_Cut p0 p1), false⟩ : Bg)
  else (⟨0, (d_latheref01_Cut p0 (IntKind.u64.wrap (0 - (d_latheref01_Cut p0 p1)))), true⟩ : Bg)
def d_latheref01_less (p0 : Bg) (p1 : Bg) : Bool :=
 ((decide (p0.hi < p1.hi)) || ((p0.hi == p1.hi) && (decide (p0.lo < p1.lo))))
def d_latheref01_fixed (p0 : Bg) : Bg :=
  bif ((p0.hi == 0) && (p0.lo == 0)) then
   (⟨p0.hi, p0.lo, false⟩ : Bg)
  else p0
def d_latheref01_Plus (p0 : Bg) (p1 : Bg) : Bg :=
  bif (p0.below == p1.below) then
   bif (decide ((IntKind.u64.wrap (p0.lo + p1.lo)) < p0.lo)) then
    (⟨(IntKind.u64.wrap ((IntKind.u64.wrap (p0.hi + p1.hi)) + 1)), (IntKind.u64.wrap (p0.lo + p1.lo)), p0.below⟩ : Bg)
   else (⟨(IntKind.u64.wrap (p0.hi + p1.hi)), (IntKind.u64.wrap (p0.lo + p1.lo)), p0.below⟩ : Bg)
  else bif (d_latheref01_less p0 p1) then
   bif (decide (p1.lo < p0.lo)) then
    (d_latheref01_fixed (⟨(IntKind.u64.wrap ((IntKind.u64.wrap (p1.hi - p0.hi)) - 1)), (IntKind.u64.wrap (p1.lo - p0.lo)), p1.below⟩ : Bg))
   else (d_latheref01_fixed (⟨(IntKind.u64.wrap (p1.hi - p0.hi)), (IntKind.u64.wrap (p1.lo - p0.lo)), p1.below⟩ : Bg))
  else bif (decide (p0.lo < p1.lo)) then
   (d_latheref01_fixed (⟨(IntKind.u64.wrap ((IntKind.u64.wrap (p0.hi - p1.hi)) - 1)), (IntKind.u64.wrap (p0.lo - p1.lo)), p0.below⟩ : Bg))
  else (d_latheref01_fixed (⟨(IntKind.u64.wrap (p0.hi - p1.hi)), (IntKind.u64.wrap (p0.lo - p1.lo)), p0.below⟩ : Bg))
def d_latheref01_Minus (p0 : Bg) : Bg :=
 (d_latheref01_fixed (⟨p0.hi,p0.lo,(!p0.below)⟩ : Bg))
def d_latheref01_Times (p0 : Bg) (p1 : Bg) : Bg :=
 (d_latheref01_fixed (⟨(d_latheref01_Plus (d_latheref01_Plus (⟨0,(IntKind.u64.wrap ((Int.tmod p0.lo 4294967296) * (Int.tmod p1.lo 4294967296))),false⟩ : Bg) (⟨(IntKind.u64.wrap ((IntKind.u64.wrap ((d_latheref01_Plus (⟨0,(IntKind.u64.wrap ((IntKind.u64.wrap (Int.tdiv p0.lo 4294967296)) * (Int.tmod p1.lo 4294967296))),false⟩ : Bg) (⟨0,(IntKind.u64.wrap ((Int.tmod p0.lo 4294967296) * (IntKind.u64.wrap (Int.tdiv p1.lo 4294967296)))),false⟩ : Bg)).hi * 4294967296)) + (IntKind.u64.wrap (Int.tdiv (d_latheref01_Plus (⟨0,(IntKind.u64.wrap ((IntKind.u64.wrap (Int.tdiv p0.lo 4294967296)) * (Int.tmod p1.lo 4294967296))),false⟩ : Bg) (⟨0,(IntKind.u64.wrap ((Int.tmod p0.lo 4294967296) * (IntKind.u64.wrap (Int.tdiv p1.lo 4294967296)))),false⟩ : Bg)).lo 4294967296)))),(IntKind.u64.wrap ((Int.tmod (d_latheref01_Plus (⟨0,(IntKind.u64.wrap ((IntKind.u64.wrap (Int.tdiv p0.lo 4294967296)) * (Int.tmod p1.lo 4294967296))),false⟩ : Bg) (⟨0,(IntKind.u64.wrap ((Int.tmod p0.lo 4294967296) * (IntKind.u64.wrap (Int.tdiv p1.lo 4294967296)))),false⟩ : Bg)).lo 4294967296) * 4294967296)),false⟩ : Bg)) (⟨(IntKind.u64.wrap ((IntKind.u64.wrap (Int.tdiv p0.lo 4294967296)) * (IntKind.u64.wrap (Int.tdiv p1.lo 4294967296)))),0,false⟩ : Bg)).hi,(d_latheref01_Plus (d_latheref01_Plus (⟨0,(IntKind.u64.wrap ((Int.tmod p0.lo 4294967296) * (Int.tmod p1.lo 4294967296))),false⟩ : Bg) (⟨(IntKind.u64.wrap ((IntKind.u64.wrap ((d_latheref01_Plus (⟨0,(IntKind.u64.wrap ((IntKind.u64.wrap (Int.tdiv p0.lo 4294967296)) * (Int.tmod p1.lo 4294967296))),false⟩ : Bg) (⟨0,(IntKind.u64.wrap ((Int.tmod p0.lo 4294967296) * (IntKind.u64.wrap (Int.tdiv p1.lo 4294967296)))),false⟩ : Bg)).hi * 4294967296)) + (IntKind.u64.wrap (Int.tdiv (d_latheref01_Plus (⟨0,(IntKind.u64.wrap ((IntKind.u64.wrap (Int.tdiv p0.lo 4294967296)) * (Int.tmod p1.lo 4294967296))),false⟩ : Bg) (⟨0,(IntKind.u64.wrap ((Int.tmod p0.lo 4294967296) * (IntKind.u64.wrap (Int.tdiv p1.lo 4294967296)))),false⟩ : Bg)).lo 4294967296)))),(IntKind.u64.wrap ((Int.tmod (d_latheref01_Plus (⟨0,(IntKind.u64.wrap ((IntKind.u64.wrap (Int.tdiv p0.lo 4294967296)) * (Int.tmod p1.lo 4294967296))),false⟩ : Bg) (⟨0,(IntKind.u64.wrap ((Int.tmod p0.lo 4294967296) * (IntKind.u64.wrap (Int.tdiv p1.lo 4294967296)))),false⟩ : Bg)).lo 4294967296) * 4294967296)),false⟩ : Bg)) (⟨(IntKind.u64.wrap ((IntKind.u64.wrap (Int.tdiv p0.lo 4294967296)) * (IntKind.u64.wrap (Int.tdiv p1.lo 4294967296)))),0,false⟩ : Bg)).lo,(p0.below != p1.below)⟩ : Bg))
def d_latheref01_Wrapped (p0 : Int) (p1 : Bg) : Int :=
  bif p1.below then
   (d_latheref01_Cut p0 (IntKind.u64.wrap (0 - p1.lo)))
  else (d_latheref01_Cut p0 p1.lo)
def d_latheref01_Flags (p0 : Int) : Int :=
  bif ((((p0 == 1) || (p0 == 2)) || (p0 == 3)) || (p0 == 11)) then
   3
  else bif ((((p0 == 4) || (p0 == 5)) || (p0 == 12)) || (p0 == 13)) then
   4
  else 0
def d_latheref01_power_R3 (p0 : Int) : Nat → Int → Int → Int × Int
  | 0, yb3_1, x4 => (yb3_1, x4)
  | k + 1, yb3_1, x4 =>
   bif (decide (x4 < p0)) then
    d_latheref01_power_R3 p0 k (IntKind.u64.wrap (yb3_1 * 2)) (x4 + 1)
   else (yb3_1, x4)
def d_latheref01_power (p0 : Int) : Bg :=
 letV (d_latheref01_power_R3 p0 ((p0 - 0).toNat + 1) 1 0) (fun (yb3_1e,x4e)=>(⟨0,yb3_1e,false⟩ : Bg))
def d_latheref01_bit (p0 : Int) (p1 : Int) (p2 : Int) : Int :=
  bif (p0 == 8) then
   (IntKind.u64.wrap (p1 * p2))
  else bif (p0 == 9) then
    (IntKind.u64.wrap ((IntKind.u64.wrap (p1 + p2)) - (IntKind.u64.wrap (p1 * p2))))
   else (Int.tmod (IntKind.u64.wrap (p1 + p2)) 2)
def d_latheref01_bitwise_R4 (p0 : Int) (p1 : Int) : Nat → Int → Int → Int → Int → Int → Int × Int × Int × Int × Int
  | 0, x11, x10, x9, x2, x3 => (x11, x10, x9, x2, x3)
  | k + 1, x11, x10, x9, x2, x3 =>
   bif (decide (x11 < p1)) then
    d_latheref01_bitwise_R4 p0 p1 k (x11 + 1) (IntKind.u64.wrap (x10 * 2)) (IntKind.u64.wrap (x9 + (IntKind.u64.wrap (x10 * (d_latheref01_bit p0 (Int.tmod x2 2) (Int.tmod x3 2)))))) (IntKind.u64.wrap (Int.tdiv x2 2)) (IntKind.u64.wrap (Int.tdiv x3 2))
   else (x11, x10, x9, x2, x3)
def d_latheref01_bitwise (p0 : Int) (p1 : Int) (p2 : Int) (p3 : Int) : Int :=
 letV (d_latheref01_bitwise_R4 p0 p1 ((p1 - 0).toNat + 1) 0 1 0 p2 p3) (fun (x11e,x10e,x9e,x2e,x3e)=>x9e)
def d_latheref01_fits (p0 : Int) (p1 : Bg) (p2 : Bool) : Bool :=
  bif p2 then
   (decide ((d_latheref01_With p0 (d_latheref01_Wrapped p0 p1)) = p1))
  else (decide ((d_latheref01_Plain p0 (d_latheref01_Wrapped p0 p1)) = p1))
def d_latheref01_Convert (p0 : Int) (p1 : Int) (p2 : Int) (p3 : Int) : Int × Bool :=
  bif (!((d_latheref01_width p1) && (d_latheref01_width p2))) then
   (0, false)
  else bif ((p0 == 20) && (decide (p1 < p2))) then
    ((d_latheref01_Cut p1 p3), true)
   else bif ((p0 == 21) && (decide (p1 < p2))) then
     ((d_latheref01_Wrapped p2 (d_latheref01_With p1 p3)), true)
    else bif ((p0 == 22) && (decide (p2 < p1))) then
      ((d_latheref01_Cut p2 p3), true)
     else (0, false)
def d_latheref01_quotient (p0 : Bg) (p1 : Bg) : Bg × Bg :=
 ((d_latheref01_fixed (⟨0,(IntKind.u64.wrap (Int.tdiv p0.lo p1.lo)),(p0.below != p1.below)⟩ : Bg)),(d_latheref01_fixed (⟨0,(Int.tmod p0.lo p1.lo),p0.below⟩ : Bg)))
def d_latheref01_exact (p0 : Int) (p1 : Int) (p2 : Int) (p3 : Int) (p4 : Bool) : Bg :=
  bif p4 then
   bif (p0 != 11) then
    bif (p0 == 1) then
     (d_latheref01_Plus (d_latheref01_With p1 p2) (d_latheref01_With p1 p3))
    else bif (p0 == 2) then
      (d_latheref01_Plus (d_latheref01_With p1 p2) (d_latheref01_Minus (d_latheref01_With p1 p3)))
     else bif (p0 == 3) then
       (d_latheref01_Times (d_latheref01_With p1 p2) (d_latheref01_With p1 p3))
      else (d_latheref01_Times (d_latheref01_With p1 p2) (d_latheref01_power ((d_latheref01_With p1 p3).lo)))
   else bif (p0 == 1) then
     (d_latheref01_Plus (d_latheref01_With p1 p2) (d_latheref01_Plain p1 p3))
    else bif (p0 == 2) then
      (d_latheref01_Plus (d_latheref01_With p1 p2) (d_latheref01_Minus (d_latheref01_Plain p1 p3)))
     else bif (p0 == 3) then
       (d_latheref01_Times (d_latheref01_With p1 p2) (d_latheref01_Plain p1 p3))
      else (d_latheref01_Times (d_latheref01_With p1 p2) (d_latheref01_power ((d_latheref01_Plain p1 p3).lo)))
  else bif (p0 == 1) then
    (d_latheref01_Plus (d_latheref01_Plain p1 p2) (d_latheref01_Plain p1 p3))
   else bif (p0 == 2) then
     (d_latheref01_Plus (d_latheref01_Plain p1 p2) (d_latheref01_Minus (d_latheref01_Plain p1 p3)))
    else bif (p0 == 3) then
      (d_latheref01_Times (d_latheref01_Plain p1 p2) (d_latheref01_Plain p1 p3))
     else (d_latheref01_Times (d_latheref01_Plain p1 p2) (d_latheref01_power ((d_latheref01_Plain p1 p3).lo)))
def d_latheref01_flagged (p0 : Int) (p1 : Int) (p2 : Int) (p3 : Int) (p4 : Int) : Int × Int :=
  bif ((p0 == 11) && (decide ((IntKind.u64.wrap p1) ≤ (d_latheref01_Cut p1 p4)))) then
   (0, 1)
  else bif ((((bits .and .i64 p2 2) != 0) && (!(d_latheref01_fits p1 (d_latheref01_exact p0 p1 p3 p4 false) false))) || (((bits .and .i64 p2 1) != 0) && (!(d_latheref01_fits p1 (d_latheref01_exact p0 p1 p3 p4 true) true)))) then
    (0, 1)
   else ((d_latheref01_Wrapped p1 (d_latheref01_exact p0 p1 p3 p4 false)), 0)
def d_latheref01_divided (p0 : Int) (p1 : Int) (p2 : Int) (p3 : Int) (p4 : Int) : Int × Int :=
  bif ((d_latheref01_Cut p1 p4) == 0) then
   (0, 2)
  else bif ((p0 == 5) || (p0 == 7)) then
    bif (!(d_latheref01_fits p1 ((d_latheref01_quotient (d_latheref01_With p1 p3) (d_latheref01_With p1 p4)).1) ((p0 == 5) || (p0 == 7)))) then
     (0, 2)
    else bif ((p0 == 6) || (p0 == 7)) then
      ((d_latheref01_Wrapped p1 ((d_latheref01_quotient (d_latheref01_With p1 p3) (d_latheref01_With p1 p4)).2)), 0)
     else bif ((p2 == 4) && (((d_latheref01_quotient (d_latheref01_With p1 p3) (d_latheref01_With p1 p4)).2).lo != 0)) then
       (0, 1)
      else ((d_latheref01_Wrapped p1 ((d_latheref01_quotient (d_latheref01_With p1 p3) (d_latheref01_With p1 p4)).1)), 0)
   else bif (!(d_latheref01_fits p1 ((d_latheref01_quotient (d_latheref01_Plain p1 p3) (d_latheref01_Plain p1 p4)).1) ((p0 == 5) || (p0 == 7)))) then
     (0, 2)
    else bif ((p0 == 6) || (p0 == 7)) then
      ((d_latheref01_Wrapped p1 ((d_latheref01_quotient (d_latheref01_Plain p1 p3) (d_latheref01_Plain p1 p4)).2)), 0)
     else bif ((p2 == 4) && (((d_latheref01_quotient (d_latheref01_Plain p1 p3) (d_latheref01_Plain p1 p4)).2).lo != 0)) then
       (0, 1)
      else ((d_latheref01_Wrapped p1 ((d_latheref01_quotient (d_latheref01_Plain p1 p3) (d_latheref01_Plain p1 p4)).1)), 0)
def d_latheref01_right (p0 : Int) (p1 : Int) (p2 : Int) (p3 : Int) (p4 : Int) : Int × Int :=
  bif (decide ((IntKind.u64.wrap p1) ≤ (d_latheref01_Cut p1 p4))) then
   (0, 1)
  else bif (p0 == 13) then
    bif ((p2 == 4) && (((d_latheref01_quotient (d_latheref01_With p1 p3) (d_latheref01_power (d_latheref01_Cut p1 p4))).2).lo != 0)) then
     (0, 1)
    else bif ((d_latheref01_quotient (d_latheref01_With p1 p3) (d_latheref01_power (d_latheref01_Cut p1 p4))).2).below then
      ((d_latheref01_Wrapped p1 (d_latheref01_Plus ((d_latheref01_quotient (d_latheref01_With p1 p3) (d_latheref01_power (d_latheref01_Cut p1 p4))).1) (⟨0, 1, true⟩ : Bg))), 0)
     else ((d_latheref01_Wrapped p1 ((d_latheref01_quotient (d_latheref01_With p1 p3) (d_latheref01_power (d_latheref01_Cut p1 p4))).1)), 0)
   else bif ((p2 == 4) && (((d_latheref01_quotient (d_latheref01_Plain p1 p3) (d_latheref01_power (d_latheref01_Cut p1 p4))).2).lo != 0)) then
     (0, 1)
    else bif ((d_latheref01_quotient (d_latheref01_Plain p1 p3) (d_latheref01_power (d_latheref01_Cut p1 p4))).2).below then
      ((d_latheref01_Wrapped p1 (d_latheref01_Plus ((d_latheref01_quotient (d_latheref01_Plain p1 p3) (d_latheref01_power (d_latheref01_Cut p1 p4))).1) (⟨0, 1, true⟩ : Bg))), 0)
     else ((d_latheref01_Wrapped p1 ((d_latheref01_quotient (d_latheref01_Plain p1 p3) (d_latheref01_power (d_latheref01_Cut p1 p4))).1)), 0)
def d_latheref01_compared (p0 : Int) (p1 : Int) (p2 : Int) (p3 : Int) : Bool :=
  bif ((p0 == 18) || (p0 == 19)) then
   bif (p0 == 14) then
    (decide ((d_latheref01_Plus (d_latheref01_With p1 p2) (d_latheref01_Minus (d_latheref01_With p1 p3))) = (⟨0, 0, false⟩ : Bg)))
   else bif (p0 == 15) then
     (!(decide ((d_latheref01_Plus (d_latheref01_With p1 p2) (d_latheref01_Minus (d_latheref01_With p1 p3))) = (⟨0, 0, false⟩ : Bg))))
    else bif (p0 == 16) then
      (d_latheref01_Plus (d_latheref01_With p1 p2) (d_latheref01_Minus (d_latheref01_With p1 p3))).below
     else bif (p0 == 18) then
       (d_latheref01_Plus (d_latheref01_With p1 p2) (d_latheref01_Minus (d_latheref01_With p1 p3))).below
      else ((d_latheref01_Plus (d_latheref01_With p1 p2) (d_latheref01_Minus (d_latheref01_With p1 p3))).below || (decide ((d_latheref01_Plus (d_latheref01_With p1 p2) (d_latheref01_Minus (d_latheref01_With p1 p3))) = (⟨0, 0, false⟩ : Bg))))
  else bif (p0 == 14) then
    (decide ((d_latheref01_Plus (d_latheref01_Plain p1 p2) (d_latheref01_Minus (d_latheref01_Plain p1 p3))) = (⟨0, 0, false⟩ : Bg)))
   else bif (p0 == 15) then
     (!(decide ((d_latheref01_Plus (d_latheref01_Plain p1 p2) (d_latheref01_Minus (d_latheref01_Plain p1 p3))) = (⟨0, 0, false⟩ : Bg))))
    else bif (p0 == 16) then
      (d_latheref01_Plus (d_latheref01_Plain p1 p2) (d_latheref01_Minus (d_latheref01_Plain p1 p3))).below
     else bif (p0 == 18) then
       (d_latheref01_Plus (d_latheref01_Plain p1 p2) (d_latheref01_Minus (d_latheref01_Plain p1 p3))).below
      else ((d_latheref01_Plus (d_latheref01_Plain p1 p2) (d_latheref01_Minus (d_latheref01_Plain p1 p3))).below || (decide ((d_latheref01_Plus (d_latheref01_Plain p1 p2) (d_latheref01_Minus (d_latheref01_Plain p1 p3))) = (⟨0, 0, false⟩ : Bg))))
def d_latheref01_Apply (p0 : Int) (p1 : Int) (p2 : Int) (p3 : Int) (p4 : Int) : Int × Int :=
  bif ((((!(d_latheref01_width p1)) || (decide (p0 < 1))) || (decide (19 < p0))) || ((bits .andNot .i64 p2 (d_latheref01_Flags p0)) != 0)) then
   (0, 3)
  else bif (p0 == 1) then
    ((d_latheref01_flagged p0 p1 p2 p3 p4).1, (d_latheref01_flagged p0 p1 p2 p3 p4).2)
   else bif (p0 == 2) then
     ((d_latheref01_flagged p0 p1 p2 p3 p4).1, (d_latheref01_flagged p0 p1 p2 p3 p4).2)
    else bif (p0 == 3) then
      ((d_latheref01_flagged p0 p1 p2 p3 p4).1, (d_latheref01_flagged p0 p1 p2 p3 p4).2)
     else bif (p0 == 11) then
       ((d_latheref01_flagged p0 p1 p2 p3 p4).1, (d_latheref01_flagged p0 p1 p2 p3 p4).2)
      else bif (p0 == 4) then
        ((d_latheref01_divided p0 p1 p2 p3 p4).1, (d_latheref01_divided p0 p1 p2 p3 p4).2)
       else bif (p0 == 5) then
         ((d_latheref01_divided p0 p1 p2 p3 p4).1, (d_latheref01_divided p0 p1 p2 p3 p4).2)
        else bif (p0 == 6) then
          ((d_latheref01_divided p0 p1 p2 p3 p4).1, (d_latheref01_divided p0 p1 p2 p3 p4).2)
         else bif (p0 == 7) then
           ((d_latheref01_divided p0 p1 p2 p3 p4).1, (d_latheref01_divided p0 p1 p2 p3 p4).2)
          else bif (p0 == 8) then
            ((d_latheref01_bitwise p0 p1 p3 p4), 0)
           else bif (p0 == 9) then
             ((d_latheref01_bitwise p0 p1 p3 p4), 0)
            else bif (p0 == 10) then
              ((d_latheref01_bitwise p0 p1 p3 p4), 0)
             else bif (p0 == 12) then
               ((d_latheref01_right p0 p1 p2 p3 p4).1, (d_latheref01_right p0 p1 p2 p3 p4).2)
              else bif (p0 == 13) then
                ((d_latheref01_right p0 p1 p2 p3 p4).1, (d_latheref01_right p0 p1 p2 p3 p4).2)
               else bif (d_latheref01_compared p0 p1 p3 p4) then
                 (1, 0)
                else (0, 0)
def d_latheref01_Mask (p0 : Int) : Int :=
  bif (!(d_latheref01_width p0)) then
   0
  else (d_latheref01_Cut p0 18446744073709551615)
def d_latheref09_Norm (p0 : Int) (p1 : Vl) : Vl :=
  bif (((decide (1 ≤ p0)) && (decide (p0 ≤ 64))) && (p1.k == 1)) then
   (⟨1, (d_latheref01_Cut p0 p1.b), 0, 0⟩ : Vl)
  else bif ((p0 == 65) && (p1.k == 2)) then
    (⟨2, 0, p1.bl, p1.off⟩ : Vl)
   else bif (((decide (1 ≤ p0)) && (decide (p0 ≤ 65))) && (p1.k == 3)) then
     (⟨3, 0, 0, 0⟩ : Vl)
    else (⟨0, 0, 0, 0⟩ : Vl)
def d_latheref10_such (p0 : InsE) (p1 : Int) : Bool :=
  bif ((bits .andNot .i64 p0.f (d_latheref01_Flags p0.op)) != 0) then
   false
  else bif (p0.op == 14) then
    (((p1 == 2) && (decide (1 ≤ p0.t))) && (decide (p0.t ≤ 65)))
   else bif (p0.op == 15) then
     (((p1 == 2) && (decide (1 ≤ p0.t))) && (decide (p0.t ≤ 65)))
    else bif (p0.op == 20) then
      ((p1 == 1) && (d_latheref01_Convert p0.op p0.n p0.t 0).2)
     else bif (p0.op == 21) then
       ((p1 == 1) && (d_latheref01_Convert p0.op p0.n p0.t 0).2)
      else bif (p0.op == 22) then
        ((p1 == 1) && (d_latheref01_Convert p0.op p0.n p0.t 0).2)
       else bif (p0.op == 23) then
         (((p1 == 3) && (decide (1 ≤ p0.t))) && (decide (p0.t ≤ 65)))
        else bif (p0.op == 24) then
          (((p1 == 1) && (decide (1 ≤ p0.t))) && (decide (p0.t ≤ 65)))
         else bif (p0.op == 29) then
           ((p1 == 2) && (p0.t == 65))
          else (((((decide (1 ≤ p0.op)) && (decide (p0.op ≤ 19))) && (p1 == 2)) && (decide (1 ≤ p0.t))) && (decide (p0.t ≤ 64)))
def d_latheref10_kind (p0 : InsE) (p1 : Int) : Int :=
  bif (p0.op == 20) then
   p0.n
  else bif (p0.op == 21) then
    p0.n
   else bif (p0.op == 22) then
     p0.n
    else bif (p0.op == 23) then
      bif (p1 == 0) then
       1
      else p0.t
     else bif (p0.op == 29) then
       bif (p1 == 1) then
        64
       else p0.t
      else p0.t
def d_latheref10_number (p0 : Int) : Vl :=
 (⟨1,p0,0,0⟩ : Vl)
def d_latheref10_truth (p0 : Bool) : Vl :=
  bif p0 then
   (d_latheref10_number 1)
  else (d_latheref10_number 0)
def d_latheref10_Any  : Vl :=
 (⟨3,0,0,0⟩ : Vl)
def d_latheref10_applied (p0 : InsE) (p1 : Int) (p2 : Int) : Vl × Int :=
  bif ((d_latheref01_Apply p0.op p0.t p0.f p1 p2).2 == 2) then
   ((⟨0, 0, 0, 0⟩ : Vl), 2)
  else bif ((d_latheref01_Apply p0.op p0.t p0.f p1 p2).2 == 1) then
    ((⟨0, 0, 0, 0⟩ : Vl), 0)
   else ((d_latheref10_number ((d_latheref01_Apply p0.op p0.t p0.f p1 p2).1)), 0)
def d_latheref10_divided (p0 : InsE) (p1 : Vl) (p2 : Vl) : Vl × Int :=
  bif ((p2.k == 0) || ((p2.k == 1) && (p2.b == 0))) then
   ((⟨0, 0, 0, 0⟩ : Vl), 2)
  else bif (p2.k == 3) then
    ((⟨0, 0, 0, 0⟩ : Vl), 4)
   else bif (((((p0.op == 5) || (p0.op == 7)) && (p2.k == 1)) && (p2.b == (d_latheref01_Mask p0.t))) && (p1.k == 0)) then
     ((⟨0, 0, 0, 0⟩ : Vl), 2)
    else bif (((((p0.op == 5) || (p0.op == 7)) && (p2.k == 1)) && (p2.b == (d_latheref01_Mask p0.t))) && (p1.k == 3)) then
      ((⟨0, 0, 0, 0⟩ : Vl), 4)
     else bif ((p1.k == 0) || ((p1.k == 3) && (p0.f != 0))) then
       ((⟨0, 0, 0, 0⟩ : Vl), 0)
      else bif (p1.k == 3) then
        (d_latheref10_Any, 0)
       else (((d_latheref10_applied p0 p1.b p2.b).1), (d_latheref10_applied p0 p1.b p2.b).2)
def d_latheref10_shifted (p0 : InsE) (p1 : Vl) (p2 : Vl) : Vl × Int :=
  bif ((((p1.k == 0) || (p2.k != 1)) || (decide ((IntKind.u64.wrap p0.t) ≤ p2.b))) || ((p1.k == 3) && (p0.f != 0))) then
   ((⟨0, 0, 0, 0⟩ : Vl), 0)
  else bif (p1.k == 3) then
    (d_latheref10_Any, 0)
   else (((d_latheref10_applied p0 p1.b p2.b).1), (d_latheref10_applied p0 p1.b p2.b).2)
def d_latheref10_chosen (p0 : Vl) (p1 : Vl) (p2 : Vl) : Vl :=
  bif (p0.k == 0) then
   (⟨0, 0, 0, 0⟩ : Vl)
  else bif ((p0.k == 1) && (p0.b == 1)) then
    p1
   else bif (p0.k == 1) then
     p2
    else bif (decide (p1 = p2)) then
      p1
     else bif ((p1.k == 0) || (p2.k == 0)) then
       (⟨0, 0, 0, 0⟩ : Vl)
      else d_latheref10_Any
def d_latheref10_pair (p0 : InsE) (p1 : Vl) (p2 : Vl) : Vl × Int :=
  bif ((p1.k == 0) || (p2.k == 0)) then
   ((⟨0, 0, 0, 0⟩ : Vl), 0)
  else bif ((p1.k == 3) || (p2.k == 3)) then
    bif (p0.f != 0) then
     ((⟨0, 0, 0, 0⟩ : Vl), 0)
    else (d_latheref10_Any, 0)
   else bif (p0.op == 29) then
     ((⟨2, 0, p1.bl, (IntKind.i64.wrap (IntKind.u64.wrap ((IntKind.u64.wrap p1.off) + p2.b)))⟩ : Vl), 0)
    else bif (p0.t == 65) then
      ((d_latheref10_truth (((p1.bl == p2.bl) && (p1.off == p2.off)) == (p0.op == 14))), 0)
     else (((d_latheref10_applied p0 p1.b p2.b).1), (d_latheref10_applied p0 p1.b p2.b).2)
def d_latheref10_Eval_R6 (p0 : InsE) (p1 : LV) : Nat → (List Vl) → Int → List Vl × Int
  | 0, l7, x8 => (l7, x8)
  | k + 1, l7, x8 =>
   bif (decide (x8 < (p1.l.length : Int))) then
    d_latheref10_Eval_R6 p0 p1 k (l7 ++ [(d_latheref09_Norm (d_latheref10_kind p0 x8) (p1.l.getD (Int.toNat x8) Vl.zero))]) (x8 + 1)
   else (l7, x8)
def d_latheref10_Eval (p0 : InsE) (p1 : LV) : Vl × Int :=
  bif (!(d_latheref10_such p0 (p1.l.length : Int))) then
   ((⟨0, 0, 0, 0⟩ : Vl), 3)
  else letV (d_latheref10_Eval_R6 p0 p1 (((p1.l.length : Int) - 0).toNat + 1) ([] : List Vl) 0) (fun (l7e, x8e) => bif (p0.op == 4) then
     (((d_latheref10_divided p0 (l7e.getD (Int.toNat 0) Vl.zero) (l7e.getD (Int.toNat 1) Vl.zero)).1), (d_latheref10_divided p0 (l7e.getD (Int.toNat 0) Vl.zero) (l7e.getD (Int.toNat 1) Vl.zero)).2)
    else bif (p0.op == 5) then
      (((d_latheref10_divided p0 (l7e.getD (Int.toNat 0) Vl.zero) (l7e.getD (Int.toNat 1) Vl.zero)).1), (d_latheref10_divided p0 (l7e.getD (Int.toNat 0) Vl.zero) (l7e.getD (Int.toNat 1) Vl.zero)).2)
     else bif (p0.op == 6) then
       (((d_latheref10_divided p0 (l7e.getD (Int.toNat 0) Vl.zero) (l7e.getD (Int.toNat 1) Vl.zero)).1), (d_latheref10_divided p0 (l7e.getD (Int.toNat 0) Vl.zero) (l7e.getD (Int.toNat 1) Vl.zero)).2)
      else bif (p0.op == 7) then
        (((d_latheref10_divided p0 (l7e.getD (Int.toNat 0) Vl.zero) (l7e.getD (Int.toNat 1) Vl.zero)).1), (d_latheref10_divided p0 (l7e.getD (Int.toNat 0) Vl.zero) (l7e.getD (Int.toNat 1) Vl.zero)).2)
       else bif (p0.op == 11) then
         (((d_latheref10_shifted p0 (l7e.getD (Int.toNat 0) Vl.zero) (l7e.getD (Int.toNat 1) Vl.zero)).1), (d_latheref10_shifted p0 (l7e.getD (Int.toNat 0) Vl.zero) (l7e.getD (Int.toNat 1) Vl.zero)).2)
        else bif (p0.op == 12) then
          (((d_latheref10_shifted p0 (l7e.getD (Int.toNat 0) Vl.zero) (l7e.getD (Int.toNat 1) Vl.zero)).1), (d_latheref10_shifted p0 (l7e.getD (Int.toNat 0) Vl.zero) (l7e.getD (Int.toNat 1) Vl.zero)).2)
         else bif (p0.op == 13) then
           (((d_latheref10_shifted p0 (l7e.getD (Int.toNat 0) Vl.zero) (l7e.getD (Int.toNat 1) Vl.zero)).1), (d_latheref10_shifted p0 (l7e.getD (Int.toNat 0) Vl.zero) (l7e.getD (Int.toNat 1) Vl.zero)).2)
          else bif (p0.op == 23) then
            ((d_latheref10_chosen (l7e.getD (Int.toNat 0) Vl.zero) (l7e.getD (Int.toNat 1) Vl.zero) (l7e.getD (Int.toNat 2) Vl.zero)), 0)
           else bif (p0.op == 24) then
             bif ((l7e.getD (Int.toNat 0) Vl.zero).k == 0) then
              (d_latheref10_Any, 0)
             else ((l7e.getD (Int.toNat 0) Vl.zero), 0)
            else bif (p0.op == 20) then
              bif ((l7e.getD (Int.toNat 0) Vl.zero).k != 1) then
               ((l7e.getD (Int.toNat 0) Vl.zero), 0)
              else ((d_latheref10_number ((d_latheref01_Convert p0.op p0.n p0.t ((l7e.getD (Int.toNat 0) Vl.zero).b)).1)), 0)
             else bif (p0.op == 21) then
               bif ((l7e.getD (Int.toNat 0) Vl.zero).k != 1) then
                ((l7e.getD (Int.toNat 0) Vl.zero), 0)
               else ((d_latheref10_number ((d_latheref01_Convert p0.op p0.n p0.t ((l7e.getD (Int.toNat 0) Vl.zero).b)).1)), 0)
              else bif (p0.op == 22) then
                bif ((l7e.getD (Int.toNat 0) Vl.zero).k != 1) then
                 ((l7e.getD (Int.toNat 0) Vl.zero), 0)
                else ((d_latheref10_number ((d_latheref01_Convert p0.op p0.n p0.t ((l7e.getD (Int.toNat 0) Vl.zero).b)).1)), 0)
               else (((d_latheref10_pair p0 (l7e.getD (Int.toNat 0) Vl.zero) (l7e.getD (Int.toNat 1) Vl.zero)).1), (d_latheref10_pair p0 (l7e.getD (Int.toNat 0) Vl.zero) (l7e.getD (Int.toNat 1) Vl.zero)).2))
end Go.Proofs.YtjfdbmfcnhjfoaaGreat
namespace Go.Proofs.YtjfdbmfcnhjfoaaGreat.Pl
open Go.Proofs.YtjfdbmfcnhjfoaaGreat
set_option linter.unusedVariables false
set_option linter.unusedSimpArgs false
set_option maxRecDepth 100000
structure Rep (b : Bg) (z : Int) : Prop where
 hi : 0 <= b.hi /\ b.hi < 18446744073709551616
 lo : 0 <= b.lo /\ b.lo < 18446744073709551616
 pos : b.below = false -> z = b.hi * 18446744073709551616 + b.lo
 neg : b.below = true -> z = -(b.hi * 18446744073709551616 + b.lo) /\ z < 0
theorem Rep.unique {a b : Bg} {z : Int} (ha : Rep a z) (hb : Rep b z) : a = b := by
 obtain ⟨h1,l1,s1⟩ := a
 obtain ⟨h2,l2,s2⟩ := b
 have := ha.hi; have := ha.lo; have := hb.hi; have := hb.lo
 have p1 := ha.pos; have n1 := ha.neg; have p2 := hb.pos; have n2 := hb.neg
 cases s1 <;> cases s2 <;> simp only [Bg.mk.injEq,true_implies,Bool.true_eq_false,Bool.false_eq_true,false_implies,reduceCtorEq,and_true,and_false] at * <;> omega
theorem Rep.same {a : Bg} {x y : Int} (hx : Rep a x) (hy : Rep a y) : x = y := by
 cases hb : a.below
 ·rw [hx.pos hb,hy.pos hb]
 ·rw [(hx.neg hb).1,(hy.neg hb).1]
theorem sgn_of_mod' (n : Nat) (z : Int) : sgn n (z % 2 ^ n) = sgn n z := by
 unfold sgn
 have h := Int.emod_bmod (x := z) (n := 2 ^ n)
 rwa [show (((2 ^ n : Nat) : Int)) = 2 ^ n by norm_cast] at h
theorem cut_eq {n : Nat} {v : Int} (h : n <= 64) (hv : 0 <= v) (hv' : v < 18446744073709551616) : d_latheref01_Cut n v = v % 2 ^ n := by
 unfold d_latheref01_Cut
 rw [Bool.cond_eq_ite]
 split
 ·rename_i c
  have : n = 64 := by simp at c; omega
  subst this
  exact (Int.emod_eq_of_lt hv (by simpa using hv')).symm
 ·rename_i c
  have hn : n < 64 := by simp at c; omega
  have e : min (Int.toNat (n : Int)) (IntKind.bits .u64) = n := by simp only [IntKind.bits]; omega
  have h3 : (2 : Int) ^ n <= 2 ^ 63 := by
   have := Nat.pow_le_pow_right (n := 2) (by omega) (show n <= 63 by omega)
   exact_mod_cast this
  have h4 : (0 : Int) < 2 ^ n := Int.pow_pos (by decide)
  have h5 : (2 : Int) ^ 63 = 9223372036854775808 := by decide
  have e2 : IntKind.u64.wrap (1 * 2 ^ n) = 2 ^ n := by rw [Int.one_mul,IntKind.wrap_u64]; omega
  rw [e,e2,Int.tmod_eq_emod_of_nonneg hv]
theorem half_eq {n : Nat} (h1 : 1 <= n) (h : n <= 64) : d_latheref01_half n = 2 ^ (n - 1) := by
 unfold d_latheref01_half
 have e0 : IntKind.i64.wrap ((n : Int) - 1) = ((n - 1 : Nat) : Int) := by rw [IntKind.wrap_i64]; omega
 have e : min (Int.toNat ((n - 1 : Nat) : Int)) (IntKind.bits .u64) = n - 1 := by simp only [IntKind.bits]; omega
 have h3 : (2 : Int) ^ (n - 1) <= 2 ^ 63 := by
  have := Nat.pow_le_pow_right (n := 2) (by omega) (show n - 1 <= 63 by omega)
  exact_mod_cast this
 have h4 : (0 : Int) < 2 ^ (n - 1) := Int.pow_pos (by decide)
 have h5 : (2 : Int) ^ 63 = 9223372036854775808 := by decide
 rw [e0,e,Int.one_mul,IntKind.wrap_u64]; omega
theorem plain_rep {n : Nat} {v : Int} (h : n <= 64) (hv : 0 <= v) (hv' : v < 18446744073709551616) : Rep (d_latheref01_Plain n v) (v % 2 ^ n) := by
 unfold d_latheref01_Plain
 rw [cut_eq h hv hv']
 have h1 := mod_range n v
 have h2 := pow_le_int h
 exact ⟨⟨by simp,by simp⟩,⟨h1.1,by simp only; omega⟩,fun _=>by simp,fun h=>by cases h⟩
theorem with_rep {n : Nat} {v : Int} (h1 : 1 <= n) (h : n <= 64) (hv : 0 <= v) (hv' : v < 18446744073709551616) : Rep (d_latheref01_With n v) (sgn n v) := by
 unfold d_latheref01_With
 rw [cut_eq h hv hv',half_eq h1 h]
 have hr := mod_range n v
 have hle := pow_le_int h
 obtain ⟨M,e1,e2,e3,e4,e5,e6,_,_⟩ := dbl h1 h
 rw [<- sgn_of_mod' n v]
 generalize v % 2 ^ n = u at *
 have hneg : IntKind.u64.wrap (0 - u) % 2 ^ n = (-u) % 2 ^ n := by
  rw [IntKind.wrap_u64,emod_pow h]; congr 1; omega
 have hw := mod64 (0 - u)
 rw [cut_eq h (by rw [IntKind.wrap_u64]; exact hw.1) (by rw [IntKind.wrap_u64]; exact hw.2),hneg,e3]
 rcases Int.lt_or_le u M with q|q
 ·rw [show decide (u < (M : Int)) = true by simpa using q,cond_true,sgn_mid e1 e5 (by omega) q]
  exact ⟨⟨by simp,by simp⟩,⟨hr.1,by simp only; omega⟩,fun _=>by simp,fun h=>by cases h⟩
 ·rw [show decide (u < (M : Int)) = false by simpa using q,cond_false,sgn_up e1 e5 q (by omega)]
  have e : (-u) % 2 ^ n = 2 * M - u := by
   rw [e4,show -u = (2 * (M : Int) - u) + (2 * M) * (-1) by omega,Int.add_mul_emod_self_left]
   exact Int.emod_eq_of_lt (by omega) (by omega)
  rw [e]
  exact ⟨⟨by simp,by simp⟩,⟨by simp only; omega,by simp only; omega⟩,fun h=>by (cases h),fun _=>by simp only; omega⟩
theorem less_iff {a b : Bg} {x y : Int} (ha : Rep a x) (hb : Rep b y) : (d_latheref01_less a b = true) ↔ x.natAbs < y.natAbs := by
 unfold d_latheref01_less
 obtain ⟨h1,l1,s1⟩ := a
 obtain ⟨h2,l2,s2⟩ := b
 have := ha.hi; have := ha.lo; have := hb.hi; have := hb.lo
 have p1 := ha.pos; have n1 := ha.neg; have p2 := hb.pos; have n2 := hb.neg
 simp only [Bool.or_eq_true,Bool.and_eq_true,decide_eq_true_eq,beq_iff_eq]
 cases s1 <;> cases s2 <;> simp only [true_implies,Bool.true_eq_false,Bool.false_eq_true,false_implies,reduceCtorEq] at * <;> omega
theorem fixed_rep {h l : Int} {s : Bool} {z : Int} (hh : 0 <= h /\ h < 18446744073709551616) (hl : 0 <= l /\ l < 18446744073709551616) (hz : z = bif s then -(h * 18446744073709551616 + l) else h * 18446744073709551616 + l) : Rep (d_latheref01_fixed ⟨h,l,s⟩) z := by
 unfold d_latheref01_fixed
 rw [Bool.cond_eq_ite]
 cases s
 ·simp only [cond_false] at hz
  split
  ·exact ⟨hh,hl,fun _=>hz,fun q=>by cases q⟩
  ·exact ⟨hh,hl,fun _=>hz,fun q=>by cases q⟩
 ·simp only [cond_true] at hz
  split
  ·rename_i c
   simp at c
   exact ⟨hh,hl,fun _=>by simp only; omega,fun q=>by cases q⟩
  ·rename_i c
   simp at c
   refine ⟨hh,hl,fun q=>(by cases q),fun _=>⟨hz,?_⟩⟩
   rcases Classical.em (h = 0) with q|q
   ·have := c q; omega
   ·omega
theorem plus_rep {a b : Bg} {x y : Int} (ha : Rep a x) (hb : Rep b y) (h1 : -340282366920938463463374607431768211456 < x + y) (h2 : x + y < 340282366920938463463374607431768211456) : Rep (d_latheref01_Plus a b) (x + y) := by
 have hless := less_iff ha hb
 unfold d_latheref01_Plus
 obtain ⟨h1,l1,s1⟩ := a
 obtain ⟨h2,l2,s2⟩ := b
 have := ha.hi; have := ha.lo; have := hb.hi; have := hb.lo
 have p1 := ha.pos; have n1 := ha.neg; have p2 := hb.pos; have n2 := hb.neg
 simp only [IntKind.wrap_u64,Bool.cond_eq_ite]
 cases s1 <;> cases s2 <;> simp only [true_implies,Bool.true_eq_false,Bool.false_eq_true,false_implies,reduceCtorEq,beq_self_eq_true,if_true,show (true == false) = false from rfl,show (false == true) = false from rfl,if_false] at *
 ·split <;> rename_i c <;> simp only [decide_eq_true_eq] at c
  ·exact ⟨by simp only; omega,by simp only; omega,fun _=>by simp only; omega,fun h=>by cases h⟩
  ·exact ⟨by simp only; omega,by simp only; omega,fun _=>by simp only; omega,fun h=>by cases h⟩
 ·split <;> rename_i c
  ·rw [hless] at c
   split <;> rename_i c2 <;> simp only [decide_eq_true_eq] at c2
   ·exact fixed_rep (by omega) (by omega) (by simp only [cond_true]; omega)
   ·exact fixed_rep (by omega) (by omega) (by simp only [cond_true]; omega)
  ·rw [hless] at c
   split <;> rename_i c2 <;> simp only [decide_eq_true_eq] at c2
   ·exact fixed_rep (by omega) (by omega) (by simp only [cond_false]; omega)
   ·exact fixed_rep (by omega) (by omega) (by simp only [cond_false]; omega)
 ·split <;> rename_i c
  ·rw [hless] at c
   split <;> rename_i c2 <;> simp only [decide_eq_true_eq] at c2
   ·exact fixed_rep (by omega) (by omega) (by simp only [cond_false]; omega)
   ·exact fixed_rep (by omega) (by omega) (by simp only [cond_false]; omega)
  ·rw [hless] at c
   split <;> rename_i c2 <;> simp only [decide_eq_true_eq] at c2
   ·exact fixed_rep (by omega) (by omega) (by simp only [cond_true]; omega)
   ·exact fixed_rep (by omega) (by omega) (by simp only [cond_true]; omega)
 ·split <;> rename_i c <;> simp only [decide_eq_true_eq] at c
  ·exact ⟨by simp only; omega,by simp only; omega,fun h=>(by cases h),fun _=>by simp only; omega⟩
  ·exact ⟨by simp only; omega,by simp only; omega,fun h=>(by cases h),fun _=>by simp only; omega⟩
theorem minus_rep {a : Bg} {x : Int} (ha : Rep a x) : Rep (d_latheref01_Minus a) (-x) := by
 unfold d_latheref01_Minus
 obtain ⟨h,l,s⟩ := a
 have p := ha.pos; have n := ha.neg
 refine fixed_rep ha.hi ha.lo ?_
 cases s
 ·have := p rfl; simp only [Bool.not_false,cond_true]; simp only at this; omega
 ·have := n rfl; simp only [Bool.not_true,cond_false]; simp only at this; omega
theorem word_rep {l : Int} (h : 0 <= l /\ l < 18446744073709551616) : Rep ⟨0,l,false⟩ l := ⟨by simp,h,fun _=>by simp,fun h=>by cases h⟩
theorem mul_bd {a b : Int} (ha : 0 <= a /\ a <= 4294967295) (hb : 0 <= b /\ b <= 4294967295) : 0 <= a * b /\ a * b <= 18446744065119617025 := by
 refine ⟨Int.mul_nonneg ha.1 hb.1,?_⟩
 have := Int.mul_le_mul ha.2 hb.2 hb.1 (by omega)
 omega
theorem times_rep {a b : Bg} {x y : Int} (ha : Rep a x) (hb : Rep b y) (hx : a.hi = 0) (hy : b.hi = 0) : Rep (d_latheref01_Times a b) (x * y) := by
 obtain ⟨h1,l1,s1⟩ := a
 obtain ⟨h2,l2,s2⟩ := b
 simp only at hx hy
 subst hx hy
 have b1 := ha.lo; have b2 := hb.lo
 simp only at b1 b2
 have q1 := ha.pos; have n1 := ha.neg; have q2 := hb.pos; have n2 := hb.neg
 unfold d_latheref01_Times
 have e1 : Int.tmod l1 4294967296 = l1 % 4294967296 := Int.tmod_eq_emod_of_nonneg b1.1
 have e2 : Int.tmod l2 4294967296 = l2 % 4294967296 := Int.tmod_eq_emod_of_nonneg b2.1
 have e3 : IntKind.u64.wrap (Int.tdiv l1 4294967296) = l1 / 4294967296 := by rw [Int.tdiv_eq_ediv_of_nonneg b1.1,IntKind.wrap_u64]; omega
 have e4 : IntKind.u64.wrap (Int.tdiv l2 4294967296) = l2 / 4294967296 := by rw [Int.tdiv_eq_ediv_of_nonneg b2.1,IntKind.wrap_u64]; omega
 simp only [e1,e2,e3,e4]
 obtain ⟨p,hp⟩ : ∃ p,p = l1 / 4294967296 := ⟨_,rfl⟩
 obtain ⟨q,hq⟩ : ∃ q,q = l1 % 4294967296 := ⟨_,rfl⟩
 obtain ⟨r,hr⟩ : ∃ r,r = l2 / 4294967296 := ⟨_,rfl⟩
 obtain ⟨u,hu⟩ : ∃ u,u = l2 % 4294967296 := ⟨_,rfl⟩
 simp only [<- hp,<- hq,<- hr,<- hu]
 have hpb : 0 <= p /\ p <= 4294967295 := by omega
 have hqb : 0 <= q /\ q <= 4294967295 := by omega
 have hrb : 0 <= r /\ r <= 4294967295 := by omega
 have hub : 0 <= u /\ u <= 4294967295 := by omega
 have hl1 : l1 = p * 4294967296 + q := by omega
 have hl2 : l2 = r * 4294967296 + u := by omega
 have hprod : l1 * l2 = p * r * 18446744073709551616 + (p * u + q * r) * 4294967296 + q * u := by
  have f1 : p * (r * 4294967296 + u) = p * r * 4294967296 + p * u := by rw [Int.mul_add,<- Int.mul_assoc]
  have f2 : q * (r * 4294967296 + u) = q * r * 4294967296 + q * u := by rw [Int.mul_add,<- Int.mul_assoc]
  have f3 : (p * 4294967296 + q) * (r * 4294967296 + u) = p * (r * 4294967296 + u) * 4294967296 + q * (r * 4294967296 + u) := by rw [Int.add_mul,Int.mul_right_comm]
  rw [hl1,hl2,f3,f1,f2]
  omega
 have hA := mul_bd hpb hub; have hB := mul_bd hqb hrb; have hC := mul_bd hpb hrb; have hD := mul_bd hqb hub
 obtain ⟨A,eA⟩ : ∃ A,A = p * u := ⟨_,rfl⟩
 obtain ⟨B,eB⟩ : ∃ B,B = q * r := ⟨_,rfl⟩
 obtain ⟨C,eC⟩ : ∃ C,C = p * r := ⟨_,rfl⟩
 obtain ⟨D,eD⟩ : ∃ D,D = q * u := ⟨_,rfl⟩
 simp only [<- eA,<- eB,<- eC,<- eD] at *
 have wA : IntKind.u64.wrap A = A := by rw [IntKind.wrap_u64]; omega
 have wB : IntKind.u64.wrap B = B := by rw [IntKind.wrap_u64]; omega
 have wC : IntKind.u64.wrap C = C := by rw [IntKind.wrap_u64]; omega
 have wD : IntKind.u64.wrap D = D := by rw [IntKind.wrap_u64]; omega
 rw [wA,wB,wC,wD]
 have hm := plus_rep (word_rep (l := A) (by omega)) (word_rep (l := B) (by omega)) (by omega) (by omega)
 generalize d_latheref01_Plus ⟨0,A,false⟩ ⟨0,B,false⟩ = mid at *
 obtain ⟨mh,ml,ms⟩ := mid
 have m1 := hm.hi; have m2 := hm.lo; have m3 := hm.pos; have m4 := hm.neg
 simp only at m1 m2 m3 m4
 have hms : ms = false := by
  cases ms
  ·rfl
  ·have := m4 rfl; omega
 subst hms
 have m3 := m3 rfl
 have hup : Rep ⟨IntKind.u64.wrap (IntKind.u64.wrap (mh * 4294967296) + IntKind.u64.wrap (Int.tdiv ml 4294967296)),IntKind.u64.wrap (Int.tmod ml 4294967296 * 4294967296),false⟩ ((A + B) * 4294967296) := by
  rw [Int.tdiv_eq_ediv_of_nonneg m2.1,Int.tmod_eq_emod_of_nonneg m2.1]
  simp only [IntKind.wrap_u64]
  exact ⟨by simp only; omega,by simp only; omega,fun _=>by simp only; omega,fun h=>by cases h⟩
 have hlow := plus_rep (word_rep (l := D) (by omega)) hup (by omega) (by omega)
 have hhigh : Rep ⟨C,0,false⟩ (C * 18446744073709551616) := ⟨by simp only; omega,by simp,fun _=>by simp,fun h=>by cases h⟩
 have hsum := plus_rep hlow hhigh (by omega) (by omega)
 generalize d_latheref01_Plus (d_latheref01_Plus ⟨0,D,false⟩ _) ⟨C,0,false⟩ = t at *
 obtain ⟨th,tl,ts⟩ := t
 have t1 := hsum.hi; have t2 := hsum.lo; have t3 := hsum.pos; have t4 := hsum.neg
 simp only at t1 t2 t3 t4
 have hts : ts = false := by
  cases ts
  ·rfl
  ·have := t4 rfl; omega
 subst hts
 have t3 := t3 rfl
 refine fixed_rep t1 t2 ?_
 cases s1 <;> cases s2
 ·have e1 := q1 rfl; have e2 := q2 rfl
  simp only [Int.zero_mul,Int.zero_add] at e1 e2
  rw [e1,e2,hprod]; show _ = th * 18446744073709551616 + tl; omega
 ·have e1 := q1 rfl; have e2 := (n2 rfl).1
  simp only [Int.zero_mul,Int.zero_add] at e1 e2
  rw [e1,e2,Int.mul_neg,hprod]; show _ = -(th * 18446744073709551616 + tl); omega
 ·have e1 := (n1 rfl).1; have e2 := q2 rfl
  simp only [Int.zero_mul,Int.zero_add] at e1 e2
  rw [e1,e2,Int.neg_mul,hprod]; show _ = -(th * 18446744073709551616 + tl); omega
 ·have e1 := (n1 rfl).1; have e2 := (n2 rfl).1
  simp only [Int.zero_mul,Int.zero_add] at e1 e2
  rw [e1,e2,Int.neg_mul_neg,hprod]; show _ = th * 18446744073709551616 + tl; omega
theorem wrapped_eq {n : Nat} {a : Bg} {x : Int} (h : n <= 64) (ha : Rep a x) : d_latheref01_Wrapped n a = x % 2 ^ n := by
 obtain ⟨ah,al,sa⟩ := a
 have p := ha.pos; have ng := ha.neg; have hl := ha.lo
 simp only at p ng hl
 have hk : ∀ z : Int,(ah * 18446744073709551616 + z) % 2 ^ n = z % 2 ^ n := fun z=>by
  rw [<- emod_pow h,Int.add_comm,Int.add_mul_emod_self_right,emod_pow h]
 unfold d_latheref01_Wrapped
 cases sa
 ·simp only [cond_false]
  rw [cut_eq h hl.1 hl.2,p rfl,hk]
 ·simp only [cond_true]
  have hw := mod64 (0 - al)
  rw [cut_eq h (by rw [IntKind.wrap_u64]; exact hw.1) (by rw [IntKind.wrap_u64]; exact hw.2),(ng rfl).1,IntKind.wrap_u64,emod_pow h]
  have e : -(ah * 18446744073709551616 + al) = (0 - al) + 18446744073709551616 * (-ah) := by omega
  rw [e,<- emod_pow h ((0 - al) + 18446744073709551616 * (-ah)),Int.add_mul_emod_self_left,emod_pow h]
theorem fits_eq {n : Nat} {a : Bg} {x : Int} (s : Bool) (h1 : 1 <= n) (h : n <= 64) (ha : Rep a x) : d_latheref01_fits n a s = bif s then fitsS n x else fitsU n x := by
 have hw := wrapped_eq h ha
 have hr := mod_range n x
 have hle := pow_le_int h
 unfold d_latheref01_fits
 rw [hw]
 cases s
 ·simp only [cond_false]
  have hp := plain_rep (v := x % 2 ^ n) h hr.1 (by omega)
  rw [Int.emod_emod_of_dvd _ (Int.dvd_refl _)] at hp
  unfold fitsU
  rw [decide_eq_decide]
  constructor
  ·intro e
   rw [e] at hp
   have hx := ha.same hp
   omega
  ·intro e
   rw [Int.emod_eq_of_lt e.1 e.2] at hp ⊢
   exact hp.unique ha
 ·simp only [cond_true]
  have hp := with_rep (v := x % 2 ^ n) h1 h hr.1 (by omega)
  rw [sgn_of_mod'] at hp
  obtain ⟨M,e1,e2,e3,e4,e5,e6,_,_⟩ := dbl h1 h
  have hsr := sgn_range e1 e5 x
  unfold fitsS
  rw [decide_eq_decide,e3]
  constructor
  ·intro e
   rw [e] at hp
   have hx := ha.same hp
   omega
  ·intro e
   rw [sgn_mid e1 e5 e.1 e.2] at hp
   exact hp.unique ha
theorem power_step (p : Int) (k : Nat) (y x : Int) : d_latheref01_power_R3 p (k + 1) y x = bif decide (x < p) then d_latheref01_power_R3 p k (IntKind.u64.wrap (y * 2)) (x + 1) else (y,x) := rfl
theorem power_loop (p : Int) : ∀ (m k : Nat) (y x : Int),x + m = p -> m < k -> 0 <= y -> y * 2 ^ m < 18446744073709551616 -> d_latheref01_power_R3 p k y x = (y * 2 ^ m,p)
 | 0,k + 1,y,x,hx,_,_,_=>by
  rw [power_step,decide_eq_false (by omega),cond_false,Int.pow_zero,Int.mul_one,show x = p by omega]
 | m + 1,k + 1,y,x,hx,hk,hy,hb=>by
  rw [power_step,decide_eq_true (by omega),cond_true]
  have e : y * 2 ^ (m + 1) = y * 2 * 2 ^ m := by rw [Int.pow_succ,Int.mul_assoc,Int.mul_comm (2 ^ m) 2]
  have hp : (1 : Int) <= 2 ^ m := by
   have : (0 : Int) < 2 ^ m := Int.pow_pos (by decide)
   omega
  have hle : y * 2 <= y * 2 * 2 ^ m := by
   have := Int.mul_le_mul_of_nonneg_left hp (show 0 <= y * 2 by omega)
   rwa [Int.mul_one] at this
  have hw : IntKind.u64.wrap (y * 2) = y * 2 := by rw [IntKind.wrap_u64]; rw [e] at hb; omega
  rw [hw,power_loop p m k (y * 2) (x + 1) (by omega) (by omega) (by omega) (by rw [<- e]; exact hb),e]
 | m,0,_,_,_,h,_,_=>by omega
theorem power_eq {n : Nat} (h : n < 64) : d_latheref01_power n = ⟨0,2 ^ n,false⟩ := by
 unfold d_latheref01_power letV
 have hp : (2 : Int) ^ n < 18446744073709551616 := by
  have h2 := pow_le_int (n := n + 1) (by omega)
  rw [Int.pow_succ] at h2
  have h3 : (0 : Int) < 2 ^ n := Int.pow_pos (by decide)
  omega
 rw [power_loop n n _ 1 0 (by omega) (by omega) (by omega) (by rw [Int.one_mul]; exact hp),Int.one_mul]
theorem power_rep {n : Nat} (h : n < 64) : Rep (d_latheref01_power n) (2 ^ n) := by
 rw [power_eq h]
 have hp : (0 : Int) < 2 ^ n := Int.pow_pos (by decide)
 have hq : (2 : Int) ^ n < 18446744073709551616 := by
  have h2 := pow_le_int (n := n + 1) (by omega)
  rw [Int.pow_succ] at h2
  have h3 : (0 : Int) < 2 ^ n := Int.pow_pos (by decide)
  omega
 exact word_rep ⟨by omega,hq⟩
def nop (op : Int) (a b : Nat) : Nat := if op = 8 then a &&& b else if op = 9 then a ||| b else a ^^^ b
theorem nop_step (op : Int) (m a b : Nat) : nop op (a % 2 ^ (m + 1)) (b % 2 ^ (m + 1)) = nop op (a % 2) (b % 2) + 2 * nop op (a / 2 % 2 ^ m) (b / 2 % 2 ^ m) := by
 have e : ∀ c : Nat,c % 2 ^ (m + 1) / 2 = c / 2 % 2 ^ m := fun c=>by rw [Nat.pow_succ,Nat.mul_comm,Nat.mod_mul_right_div_self]
 have e2 : ∀ c : Nat,c % 2 ^ (m + 1) % 2 = c % 2 := fun c=>Nat.mod_mod_of_dvd _ ⟨2 ^ m,by rw [Nat.pow_succ,Nat.mul_comm]⟩
 have h1 : ∀ x y : Nat,nop op x y / 2 = nop op (x / 2) (y / 2) := fun x y=>by
  unfold nop
  split
  ·exact Nat.and_div_two
  ·split
   ·exact Nat.or_div_two
   ·exact Nat.xor_div_two
 have h2 : ∀ x y : Nat,nop op x y % 2 = nop op (x % 2) (y % 2) := fun x y=>by
  unfold nop
  split
  ·have := Nat.and_mod_two_pow (a := x) (b := y) (n := 1); simpa using this
  ·split
   ·have := Nat.or_mod_two_pow (a := x) (b := y) (n := 1); simpa using this
   ·have := Nat.xor_mod_two_pow (a := x) (b := y) (n := 1); simpa using this
 have := Nat.div_add_mod (nop op (a % 2 ^ (m + 1)) (b % 2 ^ (m + 1))) 2
 rw [h1,h2,e,e,e2,e2] at this
 omega
theorem bit_nop {op : Int} (ho : op = 8 \/ op = 9 \/ op = 10) {x y : Nat} (hx : x < 2) (hy : y < 2) : d_latheref01_bit op x y = (nop op x y : Nat) /\ nop op x y < 2 := by
 have hx' : x = 0 \/ x = 1 := by omega
 have hy' : y = 0 \/ y = 1 := by omega
 rcases ho with rfl|rfl|rfl <;> rcases hx' with rfl|rfl <;> rcases hy' with rfl|rfl <;> decide
theorem bitwise_loop (op w : Int) (ho : op = 8 \/ op = 9 \/ op = 10) : ∀ (m k : Nat) (i u : Int) (U V a b : Nat),i + m = w -> m < k -> (m ≠ 0 -> u = U) -> V + U * 2 ^ m <= 18446744073709551615 + U -> a < 18446744073709551616 -> b < 18446744073709551616 ->
  (d_latheref01_bitwise_R4 op w k i u V a b).2.2.1 = ((V + U * nop op (a % 2 ^ m) (b % 2 ^ m) : Nat) : Int)
 | 0,k + 1,i,u,U,V,a,b,hi,_,_,_,_,_=>by
  unfold d_latheref01_bitwise_R4
  rw [decide_eq_false (by omega),cond_false]
  have : nop op (a % 2 ^ 0) (b % 2 ^ 0) = 0 := by
   rw [Nat.pow_zero,Nat.mod_one,Nat.mod_one]; unfold nop; simp
  rw [this]; simp
 | m + 1,k + 1,i,u,U,V,a,b,hi,hk,hu,hb,ha64,hb64=>by
  unfold d_latheref01_bitwise_R4
  rw [decide_eq_true (by omega),cond_true]
  have hu' : u = U := hu (by omega)
  subst hu'
  obtain ⟨hb1,hb2⟩ := bit_nop ho (Nat.mod_lt a (by omega : 2 > 0)) (Nat.mod_lt b (by omega : 2 > 0))
  have ea : Int.tmod (a : Int) 2 = ((a % 2 : Nat) : Int) := by rw [Int.tmod_eq_emod_of_nonneg (by omega)]; omega
  have eb : Int.tmod (b : Int) 2 = ((b % 2 : Nat) : Int) := by rw [Int.tmod_eq_emod_of_nonneg (by omega)]; omega
  have hp : 1 <= 2 ^ m := Nat.pow_pos (by omega)
  have hpow : U * 2 ^ (m + 1) = U * 2 ^ m + U * 2 ^ m := by rw [Nat.pow_succ,<- Nat.mul_assoc]; omega
  have hUm : U <= U * 2 ^ m := Nat.le_mul_of_pos_right U hp
  have hUm2 : m ≠ 0 -> 2 * U <= U * 2 ^ m := fun hm=>by
   have : 2 <= 2 ^ m := Nat.le_self_pow hm 2
   have := Nat.mul_le_mul_left U this
   omega
  obtain ⟨β,hβ⟩ : ∃ β,β = nop op (a % 2) (b % 2) := ⟨_,rfl⟩
  rw [ea,eb,hb1,nop_step,<- hβ]
  rw [<- hβ] at hb2
  have hUβ : U * β <= U := by
   have := Nat.mul_le_mul_left U (show β <= 1 by omega)
   omega
  have e0 : IntKind.u64.wrap ((U : Int) * (β : Int)) = ((U * β : Nat) : Int) := by
   rw [IntKind.wrap_u64,<- Int.natCast_mul]; omega
  have e1 : IntKind.u64.wrap ((V : Int) + ((U * β : Nat) : Int)) = ((V + U * β : Nat) : Int) := by
   rw [IntKind.wrap_u64,<- Int.natCast_add]; omega
  have e2 : ∀ c : Nat,c < 18446744073709551616 -> IntKind.u64.wrap (Int.tdiv (c : Int) 2) = ((c / 2 : Nat) : Int) := fun c hc=>by
   rw [Int.tdiv_eq_ediv_of_nonneg (by omega),IntKind.wrap_u64]; omega
  rw [e0,e1,e2 a ha64,e2 b hb64]
  have IH := bitwise_loop op w ho m k (i + 1) (IntKind.u64.wrap ((U : Int) * 2)) (2 * U) (V + U * β) (a / 2) (b / 2) (by omega) (by omega) (fun hm=>by
   have := hUm2 hm
   rw [IntKind.wrap_u64]; omega) (by rw [Nat.mul_assoc]; omega) (by omega) (by omega)
  rw [IH]
  congr 1
  rw [Nat.mul_add,Nat.mul_comm 2 U,Nat.mul_assoc]; omega
 | m,0,_,_,_,_,_,_,_,h,_,_,_,_=>by omega
theorem bitwise_eq {op : Int} {n : Nat} {a b : Int} (ho : op = 8 \/ op = 9 \/ op = 10) (h : n <= 64) (ha : 0 <= a /\ a < 18446744073709551616) (hb : 0 <= b /\ b < 18446744073709551616) : d_latheref01_bitwise op n a b = bitw op (a % 2 ^ n) (b % 2 ^ n) := by
 obtain ⟨x,rfl⟩ := Int.eq_ofNat_of_zero_le ha.1
 obtain ⟨y,rfl⟩ := Int.eq_ofNat_of_zero_le hb.1
 have hp := pow_le h
 have hL := bitwise_loop op n ho n (((n : Int) - 0).toNat + 1) 0 1 1 0 x y (by omega) (by omega) (fun _=>rfl) (by omega) (by omega) (by omega)
 show (d_latheref01_bitwise_R4 op n (((n : Int) - 0).toNat + 1) 0 1 0 x y).2.2.1 = _
 rw [show (0 : Int) = ((0 : Nat) : Int) from rfl] at hL ⊢
 rw [hL]
 have hx : x % 2 ^ n < 18446744073709551616 := Nat.lt_of_le_of_lt (Nat.mod_le _ _) (by omega)
 have hy : y % 2 ^ n < 18446744073709551616 := Nat.lt_of_le_of_lt (Nat.mod_le _ _) (by omega)
 have ex : ∀ z : Nat,(z : Int) % 2 ^ n = ((z % 2 ^ n : Nat) : Int) := fun z=>by rw [Int.natCast_emod,Int.natCast_pow]; rfl
 rw [ex x,ex y,Nat.zero_add,Nat.one_mul]
 unfold bitw nop
 rw [u64_and_nat _ _ hx hy,u64_or_nat _ _ hx hy,u64_xor_nat _ _ hx hy]
 split
 ·rfl
 ·split <;> rfl
end Go.Proofs.YtjfdbmfcnhjfoaaGreat.Pl

namespace Go.Proofs.YtjfdbmfcnhjfoaaGreat
open Go.RowKit
end Go.Proofs.YtjfdbmfcnhjfoaaGreat
namespace Go.Proofs.YtjfdbmfcnhjfoaaGreat.Pl
open Go.Proofs.YtjfdbmfcnhjfoaaGreat
set_option linter.unusedVariables false
set_option linter.unusedSimpArgs false
set_option maxRecDepth 100000
theorem plain_hi (w v : Int) : (d_latheref01_Plain w v).hi = 0 := rfl
theorem with_hi (w v : Int) : (d_latheref01_With w v).hi = 0 := by unfold d_latheref01_With; rw [Bool.cond_eq_ite]; split <;> rfl
theorem quotient_rep {a b : Bg} {x y : Int} (ha : Rep a x) (hb : Rep b y) (h1 : a.hi = 0) (h2 : b.hi = 0) (hy : y ≠ 0) : Rep (d_latheref01_quotient a b).1 (x.tdiv y) /\ Rep (d_latheref01_quotient a b).2 (x.tmod y) /\ (d_latheref01_quotient a b).2.hi = 0 := by
 obtain ⟨ah,al,sa⟩ := a
 obtain ⟨bh,bl,sb⟩ := b
 simp only at h1 h2
 subst h1 h2
 have la := ha.lo; have lb := hb.lo
 have pa := ha.pos; have na := ha.neg; have pb := hb.pos; have nb := hb.neg
 simp only [Int.zero_mul,Int.zero_add] at la lb pa na pb nb
 have hbl : 0 < bl := by
  cases sb
  ·have := pb rfl; omega
  ·have := nb rfl; omega
 have e1 : Int.tdiv al bl = al / bl := Int.tdiv_eq_ediv_of_nonneg la.1
 have e2 : Int.tmod al bl = al % bl := Int.tmod_eq_emod_of_nonneg la.1
 have r1 : 0 <= al / bl := Int.ediv_nonneg la.1 (by omega)
 have r2 : al / bl <= al := Int.ediv_le_self _ la.1
 have r3 := Int.emod_nonneg al (show bl ≠ 0 by omega)
 have r4 := Int.emod_lt_of_pos al hbl
 have ew : IntKind.u64.wrap (al / bl) = al / bl := by rw [IntKind.wrap_u64]; omega
 unfold d_latheref01_quotient
 simp only [e1,e2,ew]
 have hq : x.tdiv y = bif (sa != sb) then -(0 * 18446744073709551616 + al / bl) else 0 * 18446744073709551616 + al / bl := by
  cases sa <;> cases sb
  ·rw [pa rfl,pb rfl,e1]; simp
  ·rw [pa rfl,(nb rfl).1,Int.tdiv_neg,e1]; simp
  ·rw [(na rfl).1,pb rfl,Int.neg_tdiv,e1]; simp
  ·rw [(na rfl).1,(nb rfl).1,Int.neg_tdiv,Int.tdiv_neg,e1]; simp
 have hr : x.tmod y = bif sa then -(0 * 18446744073709551616 + al % bl) else 0 * 18446744073709551616 + al % bl := by
  cases sa <;> cases sb
  ·rw [pa rfl,pb rfl,e2]; simp
  ·rw [pa rfl,(nb rfl).1,Int.tmod_neg,e2]; simp
  ·rw [(na rfl).1,pb rfl,Int.neg_tmod,e2]; simp
  ·rw [(na rfl).1,(nb rfl).1,Int.neg_tmod,Int.tmod_neg,e2]; simp
 refine ⟨fixed_rep ⟨by omega,by omega⟩ ⟨by omega,by omega⟩ hq,fixed_rep ⟨by omega,by omega⟩ ⟨by omega,by omega⟩ hr,?_⟩
 unfold d_latheref01_fixed
 rw [Bool.cond_eq_ite]; split <;> rfl
theorem flags_eq (op : Int) : d_latheref01_Flags op = flags op := by
 unfold d_latheref01_Flags flags
 simp only [Bool.cond_eq_ite,Bool.or_eq_true,beq_iff_eq,or_assoc]
theorem exact_rep {op : Int} {n : Nat} {a b : Int} (s : Bool) (h1 : 1 <= n) (h : n <= 64) (ha : 0 <= a /\ a < 18446744073709551616) (hb : 0 <= b /\ b < 18446744073709551616) :
  (op = 1 \/ op = 2 \/ op = 3 -> Rep (d_latheref01_exact op n a b s) (opI op (bif s then sgn n a else a % 2 ^ n) (bif s then sgn n b else b % 2 ^ n))) /\
  (op = 11 -> b % 2 ^ n < n -> Rep (d_latheref01_exact op n a b s) ((bif s then sgn n a else a % 2 ^ n) * 2 ^ (b % 2 ^ n).toNat)) := by
 have pa := plain_rep (v := a) h ha.1 ha.2
 have pb := plain_rep (v := b) h hb.1 hb.2
 have wa := with_rep (v := a) h1 h ha.1 ha.2
 have wb := with_rep (v := b) h1 h hb.1 hb.2
 have ra := mod_range n a
 have rb := mod_range n b
 have hle := pow_le_int h
 obtain ⟨M,e1,e2,e3,e4,e5,e6,_,_⟩ := dbl h1 h
 have sa := sgn_range e1 e5 a
 have sb := sgn_range e1 e5 b
 have o1 : ∀ x y,opI 1 x y = x + y := fun x y=>rfl
 have o2 : ∀ x y,opI 2 x y = x + -y := fun x y=>rfl
 have o3 : ∀ x y,opI 3 x y = x * y := fun x y=>rfl
 constructor
 ·rintro (rfl|rfl|rfl)
  ·rw [o1]
   cases s
   ·exact plus_rep pa pb (by omega) (by omega)
   ·exact plus_rep wa wb (by simp only [cond_true]; omega) (by simp only [cond_true]; omega)
  ·rw [o2]
   cases s
   ·exact plus_rep pa (minus_rep pb) (by simp only [cond_false]; omega) (by simp only [cond_false]; omega)
   ·exact plus_rep wa (minus_rep wb) (by simp only [cond_true]; omega) (by simp only [cond_true]; omega)
  ·rw [o3]
   cases s
   ·exact times_rep pa pb (plain_hi _ _) (plain_hi _ _)
   ·exact times_rep wa wb (with_hi _ _) (with_hi _ _)
 ·rintro rfl hlt
  obtain ⟨k,hk⟩ := Int.eq_ofNat_of_zero_le rb.1
  have hl : (d_latheref01_Plain n b).lo = k := by rw [<- hk]; exact cut_eq h hb.1 hb.2
  have hp := power_rep (n := k) (by omega)
  rw [<- hl] at hp
  rw [hk,Int.toNat_natCast]
  have hph : (d_latheref01_power (d_latheref01_Plain n b).lo).hi = 0 := by rw [hl,power_eq (by omega)]
  cases s
  ·exact times_rep pa hp (plain_hi _ _) hph
  ·exact times_rep wa hp (with_hi _ _) hph
theorem flagged_ring {op : Int} {n : Nat} {f a b : Int} (ho : op = 1 \/ op = 2 \/ op = 3) (h1 : 1 <= n) (h : n <= 64) (ha : 0 <= a /\ a < 18446744073709551616) (hb : 0 <= b /\ b < 18446744073709551616) (hf : f = 0 \/ f = 1 \/ f = 2 \/ f = 3) :
  d_latheref01_flagged op n f a b = cutR n (core op n f (a % 2 ^ n) (b % 2 ^ n)) := by
 have hn : (op == 11) = false := by simp; omega
 have e0 := (exact_rep (op := op) (n := n) (a := a) (b := b) false h1 h ha hb).1 ho
 have e1 := (exact_rep (op := op) (n := n) (a := a) (b := b) true h1 h ha hb).1 ho
 simp only [cond_false,cond_true] at e0 e1
 unfold d_latheref01_flagged
 rw [hn,Bool.false_and,cond_false,fits_eq false h1 h e0,fits_eq true h1 h e1,wrapped_eq h e0,nuw_eq hf,nsw_eq hf,core_ring (by omega)]
 simp only [cond_false,cond_true]
 unfold ring over
 rw [sgn_of_mod',sgn_of_mod']
 cases (nuw f && !fitsU n (opI op (a % 2 ^ n) (b % 2 ^ n)) || nsw f && !fitsS n (opI op (sgn n a) (sgn n b)))
 ·simp only [cond_false]
  rw [cutR_f rfl]
  simp only
  rw [emod_pow h]
 ·rfl
theorem wr_n {n : Nat} (h : n <= 64) : IntKind.u64.wrap (n : Int) = n := by rw [IntKind.wrap_u64]; omega
theorem flagged_shift {n : Nat} {f a b : Int} (h1 : 1 <= n) (h : n <= 64) (ha : 0 <= a /\ a < 18446744073709551616) (hb : 0 <= b /\ b < 18446744073709551616) (hf : f = 0 \/ f = 1 \/ f = 2 \/ f = 3) :
  d_latheref01_flagged 11 n f a b = cutR n (core 11 n f (a % 2 ^ n) (b % 2 ^ n)) := by
 have hcut := cut_eq (v := b) h hb.1 hb.2
 have hle := pow_le_int h
 unfold d_latheref01_flagged
 rw [hcut,wr_n h,core_shift (by omega) (by omega)]
 unfold shift
 rcases Int.lt_or_le (b % 2 ^ n) n with hlt|hge
 ·have e0 := (exact_rep (op := 11) (n := n) (a := a) (b := b) false h1 h ha hb).2 rfl hlt
  have e1 := (exact_rep (op := 11) (n := n) (a := a) (b := b) true h1 h ha hb).2 rfl hlt
  simp only [cond_false,cond_true] at e0 e1
  rw [decide_eq_false (by omega),Bool.and_false,cond_false,fits_eq false h1 h e0,fits_eq true h1 h e1,wrapped_eq h e0,nuw_eq hf,nsw_eq hf,if_neg (by omega),if_pos rfl]
  simp only [cond_false,cond_true]
  unfold over
  rw [sgn_of_mod']
  cases (nuw f && !fitsU n (a % 2 ^ n * 2 ^ (b % 2 ^ n).toNat) || nsw f && !fitsS n (sgn n a * 2 ^ (b % 2 ^ n).toNat))
  ·simp only [cond_false]
   rw [cutR_f rfl]
   simp only
   rw [Int.emod_emod_of_dvd _ (Int.dvd_refl _)]
  ·rfl
 ·rw [decide_eq_true hge,if_pos hge]; rfl
theorem lo_zero {a : Bg} {x : Int} (ha : Rep a x) (h : a.hi = 0) : (a.lo != 0) = (x != 0) := by
 cases hb : a.below
 ·have := ha.pos hb
  rw [h,Int.zero_mul,Int.zero_add] at this
  rw [this]
 ·have := ha.neg hb
  rw [h,Int.zero_mul,Int.zero_add] at this
  rw [show x = -a.lo from this.1,Bool.eq_iff_iff]; simp
theorem below_neg {a : Bg} {x : Int} (ha : Rep a x) : a.below = decide (x < 0) := by
 have := ha.lo; have := ha.hi
 cases hb : a.below
 ·have := ha.pos hb; rw [decide_eq_false (by omega)]
 ·have := ha.neg hb; rw [decide_eq_true (by omega)]
theorem divR_cut {op : Int} {n : Nat} {f q r : Int} (h : n <= 64) : cutR n (divR op f q r) = if op = 6 \/ op = 7 then (r % 2 ^ n,0) else if f = 4 /\ r ≠ 0 then (0,1) else (q % 2 ^ n,0) := by
 unfold divR
 split
 ·rw [cutR_f rfl]; simp only; rw [emod_pow h]
 ·split
  ·rfl
  ·rw [cutR_f rfl]; simp only; rw [emod_pow h]
theorem sgn_zero {n : Nat} {v : Int} (h : v % 2 ^ n ≠ 0) : sgn n v ≠ 0 := by
 intro hz
 have hs := sgn_dvd n v
 rw [hz,Int.zero_sub] at hs
 exact h (Int.emod_eq_zero_of_dvd ((Int.dvd_neg).1 hs))
theorem fits_quot {n : Nat} {x y : Int} (h1 : 1 <= n) (h : n <= 64) (M : Nat) (hM : (2 : Int) ^ (n - 1) = M) (hx : -(M : Int) <= x /\ x < M) (hy : -(M : Int) <= y /\ y < M) (hy0 : y ≠ 0) : fitsS n (x.tdiv y) = !(decide (y = -1 /\ x = -(M : Int))) := by
 unfold fitsS
 rw [hM]
 have hab : (x.tdiv y).natAbs <= x.natAbs := by rw [Int.natAbs_tdiv]; exact Nat.div_le_self _ _
 rcases Classical.em (y = -1) with rfl|hy1
 ·have e : x.tdiv (-1) = -x := by rw [Int.tdiv_neg,Int.tdiv_one]
  rw [e,Bool.eq_iff_iff]; simp; omega
 ·rw [show decide (y = -1 /\ x = -(M : Int)) = false by simp; intro q; exact absurd q hy1]
  simp only [Bool.not_false,decide_eq_true_eq]
  rcases Classical.em (x = -(M : Int)) with rfl|hx1
  ·rcases Classical.em (y = 1) with rfl|hy2
   ·rw [Int.tdiv_one]; omega
   ·have : ((-(M : Int)).tdiv y).natAbs <= M / 2 := by
     rw [Int.natAbs_tdiv,Int.natAbs_neg,Int.natAbs_natCast]
     exact Nat.div_le_div_left (by omega) (by omega)
    have hMp : 0 < M := by omega
    omega
  ·omega
theorem divided_eq {op : Int} {n : Nat} {f a b : Int} (ho : op = 4 \/ op = 5 \/ op = 6 \/ op = 7) (h1 : 1 <= n) (h : n <= 64) (ha : 0 <= a /\ a < 18446744073709551616) (hb : 0 <= b /\ b < 18446744073709551616) :
  d_latheref01_divided op n f a b = cutR n (core op n f (a % 2 ^ n) (b % 2 ^ n)) := by
 have hcut := cut_eq (v := b) h hb.1 hb.2
 have ra := mod_range n a
 have rb := mod_range n b
 obtain ⟨M,e1,e2,e3,e4,e5,e6,_,_⟩ := dbl h1 h
 have pa := plain_rep (v := a) h ha.1 ha.2
 have pb := plain_rep (v := b) h hb.1 hb.2
 have wa := with_rep (v := a) h1 h ha.1 ha.2
 have wb := with_rep (v := b) h1 h hb.1 hb.2
 have sa := sgn_range e1 e5 a
 have sb := sgn_range e1 e5 b
 unfold d_latheref01_divided
 rw [hcut,core_div (by omega) (by omega)]
 unfold div
 rcases Classical.em (b % 2 ^ n = 0) with hz|hz
 ·rw [if_pos hz,hz]; rfl
 ·rw [if_neg hz,show (b % 2 ^ n == 0) = false by simpa using hz,cond_false]
  rcases Classical.em (op = 5 \/ op = 7) with hs|hs
  ·have c1 : (op == 5 || op == 7) = true := by simpa using hs
   have c2 : (op == 6 || op == 7) = decide (op = 6 \/ op = 7) := by rw [Bool.eq_iff_iff]; simp
   obtain ⟨q1,q2,q3⟩ := quotient_rep wa wb (with_hi _ _) (with_hi _ _) (sgn_zero hz)
   rw [c1,cond_true,fits_eq true h1 h q1,cond_true,fits_quot h1 h M e3 sa sb (sgn_zero hz),Bool.not_not,wrapped_eq h q1,wrapped_eq h q2,lo_zero q2 q3,if_neg (by omega),sgn_of_mod',sgn_of_mod']
   have hleast : (sgn n b = -1 /\ sgn n a = -(M : Int)) ↔ (sgn n b = -1 /\ a % 2 ^ n = 2 ^ (n - 1)) := by
    rw [e3]
    constructor
    ·rintro ⟨g1,g2⟩
     refine ⟨g1,?_⟩
     rw [<- sgn_of_mod' n a] at g2
     rcases Int.lt_or_le (a % 2 ^ n) M with q|q
     ·rw [sgn_mid e1 e5 (by omega) q] at g2; omega
     ·rw [sgn_up e1 e5 q (by omega)] at g2; omega
    ·rintro ⟨g1,g2⟩
     refine ⟨g1,?_⟩
     rw [<- sgn_of_mod' n a,g2,sgn_up e1 e5 (by omega) (by omega)]; omega
   rcases Classical.em (sgn n b = -1 /\ sgn n a = -(M : Int)) with g|g
   ·rw [decide_eq_true g,if_pos (hleast.1 g)]; rfl
   ·rw [decide_eq_false g,if_neg (fun q=>g (hleast.2 q)),divR_cut h,cond_false,c2]
    simp only [Bool.cond_eq_ite,Bool.and_eq_true,beq_iff_eq,bne_iff_ne,decide_eq_true_eq]
  ·have c1 : (op == 5 || op == 7) = false := by simp; omega
   have c2 : (op == 6 || op == 7) = decide (op = 6 \/ op = 7) := by rw [Bool.eq_iff_iff]; simp
   obtain ⟨q1,q2,q3⟩ := quotient_rep pa pb (plain_hi _ _) (plain_hi _ _) hz
   have t1 : (a % 2 ^ n).tdiv (b % 2 ^ n) = a % 2 ^ n / (b % 2 ^ n) := Int.tdiv_eq_ediv_of_nonneg ra.1
   have t2 : (a % 2 ^ n).tmod (b % 2 ^ n) = a % 2 ^ n % (b % 2 ^ n) := Int.tmod_eq_emod_of_nonneg ra.1
   have r1 : 0 <= a % 2 ^ n / (b % 2 ^ n) := Int.ediv_nonneg ra.1 rb.1
   have r2 : a % 2 ^ n / (b % 2 ^ n) <= a % 2 ^ n := Int.ediv_le_self _ ra.1
   have hf : fitsU n ((a % 2 ^ n).tdiv (b % 2 ^ n)) = true := by unfold fitsU; rw [t1]; simp only [decide_eq_true_eq]; omega
   rw [c1,cond_false,fits_eq false h1 h q1,cond_false,hf,Bool.not_true,cond_false,wrapped_eq h q1,wrapped_eq h q2,lo_zero q2 q3,t1,t2,if_pos (by omega),divR_cut h,c2]
   simp only [Bool.cond_eq_ite,Bool.and_eq_true,beq_iff_eq,bne_iff_ne,decide_eq_true_eq]
theorem floor_eq {x p : Int} (hp : 0 < p) : x / p = bif decide (x.tmod p < 0) then x.tdiv p + -1 else x.tdiv p := by
 have h1 := Int.mul_tdiv_add_tmod x p
 have h2 := Int.tmod_lt_of_pos x hp
 rcases Int.lt_or_le x 0 with hx|hx
 ·have h3 : x.tmod p <= 0 := by
   have := Int.tmod_nonneg p (show 0 <= -x by omega)
   rw [Int.neg_tmod] at this; omega
  have h4 : -p < x.tmod p := by
   have := Int.tmod_lt_of_pos (-x) hp
   rw [Int.neg_tmod] at this; omega
  rcases Int.lt_or_le (x.tmod p) 0 with q|q
  ·rw [decide_eq_true q,cond_true]
   have e : x = p * (x.tdiv p + -1) + (x.tmod p + p) := by rw [Int.mul_add]; omega
   have := (Int.ediv_emod_unique hp).2 ⟨show (x.tmod p + p) + p * (x.tdiv p + -1) = x by omega,by omega,by omega⟩
   exact this.1
  ·rw [decide_eq_false (by omega),cond_false]
   have := (Int.ediv_emod_unique hp).2 ⟨show x.tmod p + p * x.tdiv p = x by omega,by omega,by omega⟩
   exact this.1
 ·have h3 := Int.tmod_nonneg p hx
  rw [decide_eq_false (by omega),cond_false,Int.tdiv_eq_ediv_of_nonneg hx]
theorem tmod_zero {x p : Int} : (x.tmod p != 0) = (x % p != 0) := by
 have h : x.tmod p = 0 ↔ x % p = 0 := (Int.dvd_iff_tmod_eq_zero.symm).trans Int.dvd_iff_emod_eq_zero
 rw [Bool.eq_iff_iff]; simp only [bne_iff_ne,ne_eq,h]
theorem right_eq {op : Int} {n : Nat} {f a b : Int} (ho : op = 12 \/ op = 13) (h1 : 1 <= n) (h : n <= 64) (ha : 0 <= a /\ a < 18446744073709551616) (hb : 0 <= b /\ b < 18446744073709551616) :
  d_latheref01_right op n f a b = cutR n (core op n f (a % 2 ^ n) (b % 2 ^ n)) := by
 have hcut := cut_eq (v := b) h hb.1 hb.2
 have ra := mod_range n a
 have rb := mod_range n b
 have hle := pow_le_int h
 obtain ⟨M,e1,e2,e3,e4,e5,e6,_,_⟩ := dbl h1 h
 have pa := plain_rep (v := a) h ha.1 ha.2
 have wa := with_rep (v := a) h1 h ha.1 ha.2
 have sa := sgn_range e1 e5 a
 unfold d_latheref01_right
 rw [hcut,wr_n h,core_shift (by omega) (by omega)]
 unfold shift
 rcases Int.lt_or_le (b % 2 ^ n) n with hlt|hge
 ·obtain ⟨k,hk⟩ := Int.eq_ofNat_of_zero_le rb.1
  rw [hk] at hlt ⊢
  have hp := power_rep (n := k) (by omega)
  have hpp : (0 : Int) < 2 ^ k := Int.pow_pos (by decide)
  have hph : (d_latheref01_power k).hi = 0 := by rw [power_eq (by omega)]
  rw [decide_eq_false (by omega),cond_false,if_neg (by omega),if_neg (by omega),Int.toNat_natCast]
  have neg1 : Rep ⟨0,1,true⟩ (-1) := ⟨by simp,by simp,fun h=>(by cases h),fun _=>by simp⟩
  rcases ho with rfl|rfl
  ·obtain ⟨q1,q2,q3⟩ := quotient_rep pa hp (plain_hi _ _) hph (by omega)
   have t1 : (a % 2 ^ n).tdiv (2 ^ k) = a % 2 ^ n / 2 ^ k := Int.tdiv_eq_ediv_of_nonneg ra.1
   have t2 : (a % 2 ^ n).tmod (2 ^ k) = a % 2 ^ n % 2 ^ k := Int.tmod_eq_emod_of_nonneg ra.1
   have t3 := Int.emod_nonneg (a % 2 ^ n) (show (2 : Int) ^ k ≠ 0 by omega)
   rw [show ((12 : Int) == 13) = false from rfl,cond_false,lo_zero q2 q3,below_neg q2,wrapped_eq h q1,t1,t2,decide_eq_false (by omega),cond_false,if_pos rfl]
   cases (f == 4 && a % 2 ^ n % 2 ^ k != 0)
   ·simp only [cond_false]; rw [cutR_f rfl]
   ·rfl
  ·obtain ⟨q1,q2,q3⟩ := quotient_rep wa hp (with_hi _ _) hph (by omega)
   have hfl := floor_eq (x := sgn n a) hpp
   have hmod : sgn n a % 2 ^ k = a % 2 ^ n % 2 ^ k := by
    obtain ⟨c,hc⟩ := sgn_dvd n (a % 2 ^ n)
    rw [sgn_of_mod'] at hc
    have e : sgn n a = a % 2 ^ n + 2 ^ k * (2 ^ (n - k) * c) := by
     rw [<- Int.mul_assoc,<- Int.pow_add,show k + (n - k) = n by omega,<- hc]; omega
    rw [e,Int.add_mul_emod_self_left]
   rw [show ((13 : Int) == 13) = true from rfl,cond_true,lo_zero q2 q3,below_neg q2,wrapped_eq h q1,tmod_zero,hmod,if_neg (by omega),sgn_of_mod',hfl]
   have hsum := plus_rep q1 neg1 (by
    have : ((sgn n a).tdiv (2 ^ k)).natAbs <= (sgn n a).natAbs := by rw [Int.natAbs_tdiv]; exact Nat.div_le_self _ _
    omega) (by
    have : ((sgn n a).tdiv (2 ^ k)).natAbs <= (sgn n a).natAbs := by rw [Int.natAbs_tdiv]; exact Nat.div_le_self _ _
    omega)
   rw [wrapped_eq h hsum]
   cases (f == 4 && a % 2 ^ n % 2 ^ k != 0)
   ·simp only [cond_false]
    rw [cutR_f rfl]
    cases decide ((sgn n a).tmod (2 ^ k) < 0)
    ·simp only [cond_false]; rw [emod_pow h]
    ·simp only [cond_true]; rw [emod_pow h]
   ·rfl
 ·rw [decide_eq_true hge,if_pos hge]; rfl
theorem compared_eq {op : Int} {n : Nat} {a b : Int} (ho : 14 <= op /\ op <= 19) (h1 : 1 <= n) (h : n <= 64) (ha : 0 <= a /\ a < 18446744073709551616) (hb : 0 <= b /\ b < 18446744073709551616) :
  d_latheref01_compared op n a b = cmp op n (a % 2 ^ n) (b % 2 ^ n) := by
 have pa := plain_rep (v := a) h ha.1 ha.2
 have pb := plain_rep (v := b) h hb.1 hb.2
 have wa := with_rep (v := a) h1 h ha.1 ha.2
 have wb := with_rep (v := b) h1 h hb.1 hb.2
 have ra := mod_range n a
 have rb := mod_range n b
 have hle := pow_le_int h
 obtain ⟨M,e1,e2,e3,e4,e5,e6,_,_⟩ := dbl h1 h
 have sa := sgn_range e1 e5 a
 have sb := sgn_range e1 e5 b
 have zero : Rep ⟨0,0,false⟩ 0 := ⟨by simp,by simp,fun _=>by simp,fun h=>by cases h⟩
 have dp := plus_rep pa (minus_rep pb) (by omega) (by omega)
 have dw := plus_rep wa (minus_rep wb) (by omega) (by omega)
 have isz : ∀ {d : Bg} {x : Int},Rep d x -> decide (d = ⟨0,0,false⟩) = decide (x = 0) := fun {d x} hd=>by
  rw [decide_eq_decide]
  constructor
  ·intro e; rw [e] at hd; exact hd.same zero
  ·intro e; rw [e] at hd; exact hd.unique zero
 unfold d_latheref01_compared cmp
 rw [isz dp,isz dw,below_neg dp,below_neg dw,sgn_of_mod',sgn_of_mod']
 have : op = 14 \/ op = 15 \/ op = 16 \/ op = 17 \/ op = 18 \/ op = 19 := by omega
 rcases this with rfl|rfl|rfl|rfl|rfl|rfl
 ·show decide _ = _; rw [if_pos rfl,Bool.eq_iff_iff]; simp; omega
 ·show (!decide _) = _; rw [if_neg (by omega),if_pos rfl,Bool.eq_iff_iff]; simp; omega
 ·show decide _ = _; rw [if_neg (by omega),if_neg (by omega),if_pos rfl,decide_eq_decide]; omega
 ·show (decide _ || decide _) = _; rw [if_neg (by omega),if_neg (by omega),if_neg (by omega),if_pos rfl,Bool.eq_iff_iff]; simp; omega
 ·show decide _ = _; rw [if_neg (by omega),if_neg (by omega),if_neg (by omega),if_neg (by omega),if_pos rfl,decide_eq_decide]; omega
 ·show (decide _ || decide _) = _; rw [if_neg (by omega),if_neg (by omega),if_neg (by omega),if_neg (by omega),if_neg (by omega),Bool.eq_iff_iff]; simp; omega
theorem bitw_mod {op : Int} {n : Nat} {a b : Int} (ho : op = 8 \/ op = 9 \/ op = 10) (h : n <= 64) : bitw op (a % 2 ^ n) (b % 2 ^ n) % 2 ^ n = bitw op (a % 2 ^ n) (b % 2 ^ n) := by
 have ra := mod_range n a
 have rb := mod_range n b
 have hle := pow_le_int h
 have hp := pow_le h
 obtain ⟨x,hx⟩ := Int.eq_ofNat_of_zero_le ra.1
 obtain ⟨y,hy⟩ := Int.eq_ofNat_of_zero_le rb.1
 have hc : ((2 ^ n : Nat) : Int) = 2 ^ n := pow_cast n
 have hx' : x < 2 ^ n := by omega
 have hy' : y < 2 ^ n := by omega
 rw [hx,hy]
 unfold bitw
 rw [u64_and_nat _ _ (by omega) (by omega),u64_or_nat _ _ (by omega) (by omega),u64_xor_nat _ _ (by omega) (by omega),<- hc]
 have b1 := Nat.and_lt_two_pow x hy'
 have b2 := Nat.or_lt_two_pow hx' hy'
 have b3 := Nat.xor_lt_two_pow hx' hy'
 split
 ·exact Int.emod_eq_of_lt (by omega) (by omega)
 ·split
  ·exact Int.emod_eq_of_lt (by omega) (by omega)
  ·exact Int.emod_eq_of_lt (by omega) (by omega)
theorem apply_ref {op w f a b : Int} (hf : -9223372036854775808 <= f /\ f <= 9223372036854775807) (ha : 0 <= a /\ a < 18446744073709551616) (hb : 0 <= b /\ b < 18446744073709551616) : d_latheref01_Apply op w f a b = apply op w f a b := by
 unfold d_latheref01_Apply
 rw [flags_eq]
 cases hbad : badA op w f
 ·obtain ⟨⟨n,rfl,h1,h2⟩,o1,o2,hfl⟩ := goodA hbad
  have hc : (((!(d_latheref01_width n)) || decide (op < 1)) || decide (19 < op) || (bits .andNot .i64 f (flags op)) != 0) = false := by
   rw [hfl]; unfold d_latheref01_width; simp; omega
  rw [hc,cond_false,apply_ok hbad]
  have : op = 1 \/ op = 2 \/ op = 3 \/ op = 4 \/ op = 5 \/ op = 6 \/ op = 7 \/ op = 8 \/ op = 9 \/ op = 10 \/ op = 11 \/ op = 12 \/ op = 13 \/ 14 <= op := by omega
  have f3 : flags op = 3 -> f = 0 \/ f = 1 \/ f = 2 \/ f = 3 := fun h=>flags3 hf.1 hf.2 (h ▸ hfl)
  rcases this with rfl|rfl|rfl|rfl|rfl|rfl|rfl|rfl|rfl|rfl|rfl|rfl|rfl|h14
  ·exact flagged_ring (.inl rfl) h1 h2 ha hb (f3 rfl)
  ·exact flagged_ring (.inr (.inl rfl)) h1 h2 ha hb (f3 rfl)
  ·exact flagged_ring (.inr (.inr rfl)) h1 h2 ha hb (f3 rfl)
  ·exact divided_eq (by omega) h1 h2 ha hb
  ·exact divided_eq (by omega) h1 h2 ha hb
  ·exact divided_eq (by omega) h1 h2 ha hb
  ·exact divided_eq (by omega) h1 h2 ha hb
  ·show (d_latheref01_bitwise 8 n a b,(0 : Int)) = _
   rw [bitwise_eq (by omega) h2 ha hb,core_bit (by omega) (by omega),cutR_f rfl]; simp only; rw [bitw_mod (by omega) h2]
  ·show (d_latheref01_bitwise 9 n a b,(0 : Int)) = _
   rw [bitwise_eq (by omega) h2 ha hb,core_bit (by omega) (by omega),cutR_f rfl]; simp only; rw [bitw_mod (by omega) h2]
  ·show (d_latheref01_bitwise 10 n a b,(0 : Int)) = _
   rw [bitwise_eq (by omega) h2 ha hb,core_bit (by omega) (by omega),cutR_f rfl]; simp only; rw [bitw_mod (by omega) h2]
  ·exact flagged_shift h1 h2 ha hb (f3 rfl)
  ·exact right_eq (by omega) h1 h2 ha hb
  ·exact right_eq (by omega) h1 h2 ha hb
  ·have hno : ∀ k : Int,k < 14 -> (op == k) = false := fun k hk=>by simp; omega
   rw [hno 1 (by omega),hno 2 (by omega),hno 3 (by omega),hno 4 (by omega),hno 5 (by omega),hno 6 (by omega),hno 7 (by omega),hno 8 (by omega),hno 9 (by omega),hno 10 (by omega),hno 11 (by omega),hno 12 (by omega),hno 13 (by omega)]
   simp only [cond_false]
   rw [compared_eq ⟨h14,o2⟩ h1 h2 ha hb,core_cmp h14,cutR_f rfl]
   have h2n : (2 : Int) <= 2 ^ n := by
    obtain ⟨M,e1,e2,e3,e4,e5,_⟩ := dbl h1 h2
    omega
   cases cmp op n (a % 2 ^ n) (b % 2 ^ n)
   ·simp only [cond_false]; rw [Int.emod_eq_of_lt (by omega) (by omega)]
   ·simp only [cond_true]; rw [Int.emod_eq_of_lt (by omega) (by omega)]
 ·rw [apply_bad hbad]
  have hc : (((!(d_latheref01_width w)) || decide (op < 1)) || decide (19 < op) || (bits .andNot .i64 f (flags op)) != 0) = true := by
   unfold badA at hbad
   rw [<- hbad]
   congr 3
   unfold d_latheref01_width
   rw [Bool.eq_iff_iff]; simp only [Bool.not_eq_true',Bool.and_eq_false_iff,decide_eq_false_iff_not,beq_iff_eq,mask_zero]; omega
  rw [hc]; rfl
end Go.Proofs.YtjfdbmfcnhjfoaaGreat.Pl

namespace Go.Proofs.YtjfdbmfcnhjfoaaGreat
open Go.RowKit
end Go.Proofs.YtjfdbmfcnhjfoaaGreat
namespace Go.Proofs.YtjfdbmfcnhjfoaaGreat.Pl
def better (v w : Vl) : Bool := v.k == 0 || v.k == 3 && w.k != 0 || decide (v = w)
def read (t : Int) (v : Vl) : Vl := bif (eval 23 t 0 0 [⟨1,1,0,0⟩,v,Vl.zero]).2 != 0 then Vl.zero else (eval 23 t 0 0 [⟨1,1,0,0⟩,v,Vl.zero]).1
def types (op t n : Int) : List Int := bif op == 20 || op == 21 || op == 22 then [n] else bif op == 23 then [1,t,t] else bif op == 29 then [65,64] else [t,t]
theorem andNot0 (op : Int) : bits .andNot .i64 0 (flags op) = 0 := by
 unfold flags
 repeat' split
 all_goals decide
theorem kinds_noflags {op t n f : Int} {ws : List Int} (h : kinds op t n f = some ws) : kinds op t n 0 = some ws /\ bits .andNot .i64 f (flags op) = 0 := by
 unfold kinds at h ⊢
 rw [andNot0]
 cases c : (bits .andNot .i64 f (flags op) != 0) with
 | true=>rw [c] at h; cases h
 | false =>
  rw [c] at h
  exact ⟨h,by simpa using c⟩
theorem cutR_2 (n : Nat) (p : Int × Int) : (cutR n p).2 = p.2 := by
 unfold cutR
 cases h : (p.2 != 0)
 ·simp at h; exact h.symm
 ·rfl
theorem norm_norm (t : Int) (v : Vl) : norm t (norm t v) = norm t v := by
 rcases Classical.em (v.k = 1 /\ ¬ mask t = 0) with h|h
 ·have e : norm t v = ⟨1,v.b % 2 ^ t.toNat,0,0⟩ := if_pos h
  rw [e]
  unfold norm
  rw [if_pos ⟨rfl,h.2⟩,Int.emod_emod_of_dvd _ (Int.dvd_refl _)]
 ·rcases Classical.em (v.k = 2 /\ t = 65) with h2|h2
  ·have e : norm t v = ⟨2,0,v.bl,v.off⟩ := by unfold norm; rw [if_neg h,if_pos h2]
   rw [e]; unfold norm; rw [if_neg (by simp),if_pos ⟨rfl,h2.2⟩]
  ·rcases Classical.em (v.k = 3 /\ 0 < count t) with h3|h3
   ·have e : norm t v = ⟨3,0,0,0⟩ := by unfold norm; rw [if_neg h,if_neg h2,if_pos h3]
    rw [e]; unfold norm; rw [if_neg (by simp),if_neg (by simp),if_pos ⟨rfl,h3.2⟩]
   ·have e : norm t v = Vl.zero := by unfold norm; rw [if_neg h,if_neg h2,if_neg h3]
    rw [e]; unfold norm Vl.zero; simp
end Go.Proofs.YtjfdbmfcnhjfoaaGreat.Pl

namespace Go.Proofs.YtjfdbmfcnhjfoaaGreat
open Go.RowKit
end Go.Proofs.YtjfdbmfcnhjfoaaGreat
namespace Go.Proofs.YtjfdbmfcnhjfoaaGreat.Pl
theorem conv_in {p q v op : Int} (h : (conv op p q v).2 = true) : 1 <= p /\ p <= 64 /\ 1 <= q /\ q <= 64 := by
 unfold conv at h
 split at h
 ·cases h
 ·rename_i hm
  have h1 := mt mask_zero.2 (fun e=>hm (.inl e))
  have h2 := mt mask_zero.2 (fun e=>hm (.inr e))
  omega
inductive Kinds (op t n : Int) : List Int -> Prop
 | eq (h : op = 14 \/ op = 15) (h1 : 1 <= t) (h2 : t <= 65) : Kinds op t n [t,t]
 | two (h : 1 <= op) (h' : op <= 19) (h'' : op ≠ 14 /\ op ≠ 15) (h1 : 1 <= t) (h2 : t <= 64) : Kinds op t n [t,t]
 | conv (h : 20 <= op) (h' : op <= 22) (hc : (conv op n t 0).2 = true) (h1 : 1 <= n) (h2 : n <= 64) : Kinds op t n [n]
 | select (h : op = 23) (h1 : 1 <= t) (h2 : t <= 65) : Kinds op t n [1,t,t]
 | freeze (h : op = 24) (h1 : 1 <= t) (h2 : t <= 65) : Kinds op t n [t]
 | gep (h : op = 29) (h1 : t = 65) : Kinds op t n [65,64]
theorem kinds_cases {op t n f : Int} {ws : List Int} (h : kinds op t n f = some ws) : bits .andNot .i64 f (flags op) = 0 /\ Kinds op t n ws := by
 refine ⟨(kinds_noflags h).2,?_⟩
 have hl := kinds_len h
 revert h
 unfold kinds
 simp only [Bool.cond_eq_ite,beq_iff_eq,bne_iff_ne,Bool.or_eq_true,Bool.and_eq_true,decide_eq_true_eq]
 (repeat' split) <;> intro h
 all_goals first|(cases h; done)|skip
 all_goals cases h
 ·exact .eq (by omega) (by omega) (by omega)
 ·exact .two (by omega) (by omega) (by omega) (by omega) (by omega)
 ·rename_i hc
  have := conv_in hc
  exact .conv (by omega) (by omega) hc (by omega) (by omega)
 ·exact .select (by omega) (by omega) (by omega)
 ·exact .freeze (by omega) (by omega) (by omega)
 ·exact .gep (by omega) (by omega)
theorem wr_small {t : Int} (h : 0 <= t) (h' : t <= 65) : IntKind.u64.wrap t = t := by rw [IntKind.wrap_u64]; omega
theorem mask_ne' {t : Int} (h : 1 <= t /\ t <= 64) : ¬ mask t = 0 := fun e=>absurd (mask_zero.1 e) (not_not_intro h)
theorem norm_kind {w : Int} {a : Vl} (h : norm w a = a) : a.k = 0 \/ a.k = 3 \/ (a.k = 1 /\ 1 <= w /\ w <= 64 /\ 0 <= a.b /\ a.b < 2 ^ w.toNat) \/ (a.k = 2 /\ w = 65) := by
 unfold norm at h
 split at h
 ·rename_i hm
  have hw : 1 <= w /\ w <= 64 := by
   rcases Classical.em (1 <= w /\ w <= 64) with q|q
   ·exact q
   ·exact absurd (mask_zero.2 q) hm.2
  have hr := mod_range w.toNat a.b
  have hb : a.b = a.b % 2 ^ w.toNat := by have := congrArg Vl.b h; simpa using this.symm
  rw [<- hb] at hr
  exact .inr (.inr (.inl ⟨hm.1,hw.1,hw.2,hr⟩))
 ·split at h
  ·rename_i h2; exact .inr (.inr (.inr h2))
  ·split at h
   ·rename_i h3; exact .inr (.inl h3.1)
   ·left; rw [<- h]; rfl
theorem core2 {op : Int} {n : Nat} {f a b : Int} (h : ¬ (4 <= op /\ op <= 7)) : (core op n f a b).2 = 0 \/ (core op n f a b).2 = 1 := by
 unfold core
 split
 ·unfold ring; cases over n f (opI op a b) (opI op (sgn n a) (sgn n b)) <;> simp
 ·split
  ·omega
  ·split
   ·exact .inl rfl
   ·split
    ·unfold shift
     split
     ·exact .inr rfl
     ·split
      ·cases over n f (a * 2 ^ b.toNat) (sgn n a * 2 ^ b.toNat) <;> simp
      ·cases (f == 4 && a % 2 ^ b.toNat != 0)
       ·left; simp only [cond_false]; split <;> rfl
       ·exact .inr rfl
    ·exact .inl rfl
theorem divR2 (op f q r : Int) : (divR op f q r).2 = 0 \/ (divR op f q r).2 = 1 := by
 unfold divR
 repeat' split
 all_goals simp
theorem kinds_bad {op t n f : Int} {ws : List Int} (h : kinds op t n f = some ws) (ho : op <= 19) (ht : t ≠ 65) : badA op t f = false /\ 1 <= t /\ t <= 64 := by
 have h2 := (kinds_noflags h).2
 have h1 := (kinds_len h).2.1
 have h3 : 1 <= t /\ t <= 64 := by cases (kinds_cases h).2 <;> omega
 refine ⟨?_,h3⟩
 unfold badA
 have hm : ¬ mask t = 0 := mask_ne' h3
 simp only [Bool.or_eq_false_iff,decide_eq_false_iff_not,bne_eq_false_iff_eq,beq_eq_false_iff_ne,ne_eq]
 exact ⟨⟨⟨hm,by omega⟩,by omega⟩,h2⟩
theorem any2 (q : Int) (a b : Vl) : [a,b].any (·.k == q) = (a.k == q || b.k == q) := by simp
theorem any1 (q : Int) (a : Vl) : [a].any (·.k == q) = (a.k == q) := by simp
theorem apply2 {op t f a b : Int} (h : badA op t f = false) : (apply op t f a b).2 = (core op t.toNat f (a % 2 ^ t.toNat) (b % 2 ^ t.toNat)).2 := by
 unfold apply; rw [h]; simp only [cond_false,cutR_2]
theorem one_of {L : List Vl} (h : L.length = 1) : ∃ a,L = [a] := by
 match L,h with
 | [a],_=>exact ⟨a,rfl⟩
theorem two_of {L : List Vl} (h : L.length = 2) : ∃ a b,L = [a,b] := by
 match L,h with
 | [a,b],_=>exact ⟨a,b,rfl⟩
theorem three_of {L : List Vl} (h : L.length = 3) : ∃ a b c,L = [a,b,c] := by
 match L,h with
 | [a,b,c],_=>exact ⟨a,b,c,rfl⟩
def better1 (t : Int) (x y : Vl) : Bool := better (read t x) (read t y)
structure Mix (ws : List Int) (xs ys : List Vl) (j : Nat) (zs : List Vl) : Prop where
 len : zs.length = xs.length
 le : j <= xs.length
 rg : ∀ z ∈ zs,Rg z.b
 mix : ∀ (i : Nat) w x z,ws[i]? = some w -> xs[i]? = some x -> zs[i]? = some z -> z = x \/ better1 w x z = true
 rest : ∀ i,j <= i -> zs[i]? = xs[i]?
theorem Mix.start {ws : List Int} {xs ys : List Vl} (h : ∀ x ∈ xs,Rg x.b) : Mix ws xs ys 0 xs :=
 ⟨rfl,Nat.zero_le _,h,fun i w x z _ hx hz=>.inl (by rw [hx] at hz; cases hz; rfl),fun _ _=>rfl⟩
theorem Mix.skip {ws : List Int} {xs ys zs : List Vl} {j : Nat} (h : Mix ws xs ys j zs) (hj : j < xs.length) : Mix ws xs ys (j + 1) zs := ⟨h.len,hj,h.rg,h.mix,fun i hi=>h.rest i (by omega)⟩
theorem Mix.set {ws : List Int} {xs ys zs : List Vl} {j : Nat} {x y : Vl} {w : Int} (h : Mix ws xs ys j zs) (hw : ws[j]? = some w) (hx : xs[j]? = some x) (hb : better1 w x y = true) (hy : Rg y.b) : Mix ws xs ys (j + 1) (zs.set j y) := by
 have hj : j < xs.length := (List.getElem?_eq_some_iff.1 hx).1
 have hjz : j < zs.length := by rw [h.len]; exact hj
 refine ⟨by rw [List.length_set]; exact h.len,hj,fun z hz=>?_,fun i w' x' z hw' hx' hz=>?_,fun i hi=>?_⟩
 ·rcases List.mem_or_eq_of_mem_set hz with q|rfl
  ·exact h.rg z q
  ·exact hy
 ·rcases Classical.em (j = i) with rfl|hne
  ·rw [List.getElem?_set_self hjz] at hz
   cases hz
   rw [hw] at hw'; cases hw'
   rw [hx] at hx'; cases hx'
   exact .inr hb
  ·rw [List.getElem?_set_ne hne] at hz
   exact h.mix i w' x' z hw' hx' hz
 ·rw [List.getElem?_set_ne (by omega)]; exact h.rest i (by omega)
end Go.Proofs.YtjfdbmfcnhjfoaaGreat.Pl

namespace Go.Proofs.YtjfdbmfcnhjfoaaGreat
open Go.RowKit
end Go.Proofs.YtjfdbmfcnhjfoaaGreat
namespace Go.Proofs.YtjfdbmfcnhjfoaaGreat.Pl
open Go.Proofs.YtjfdbmfcnhjfoaaGreat
set_option linter.unusedVariables false
set_option linter.unusedSimpArgs false
set_option maxRecDepth 100000
theorem width_mask (w : Int) : d_latheref01_width w = !(mask w == 0) := by
 unfold d_latheref01_width
 rw [Bool.eq_iff_iff]; simp only [Bool.and_eq_true,decide_eq_true_eq,Bool.not_eq_true',beq_eq_false_iff_ne,ne_eq,mask_zero,Classical.not_not]
theorem conv_ref {op p q v : Int} (hv : 0 <= v /\ v < 18446744073709551616) : d_latheref01_Convert op p q v = conv op p q v := by
 unfold d_latheref01_Convert conv
 rw [width_mask,width_mask]
 rcases Classical.em (mask p = 0 \/ mask q = 0) with h|h
 ·rw [if_pos h]
  have : (!(!(mask p == 0) && !(mask q == 0))) = true := by simp; rcases h with h|h <;> simp [h]
  rw [this]; rfl
 ·rw [if_neg h]
  have : (!(!(mask p == 0) && !(mask q == 0))) = false := by simp; omega
  rw [this,cond_false]
  have hp : 1 <= p /\ p <= 64 := by have := mt mask_zero.2 (fun e=>h (.inl e)); omega
  have hq : 1 <= q /\ q <= 64 := by have := mt mask_zero.2 (fun e=>h (.inr e)); omega
  obtain ⟨m,rfl⟩ := Int.eq_ofNat_of_zero_le (show 0 <= p by omega)
  obtain ⟨n,rfl⟩ := Int.eq_ofNat_of_zero_le (show 0 <= q by omega)
  rw [cut_eq (by omega) hv.1 hv.2,cut_eq (by omega) hv.1 hv.2,wrapped_eq (by omega) (with_rep (by omega) (by omega) hv.1 hv.2)]
  simp only [Bool.cond_eq_ite,Bool.and_eq_true,beq_iff_eq,decide_eq_true_eq,Int.toNat_natCast]
theorem norm_ref {t : Int} {v : Vl} (hv : 0 <= v.b /\ v.b < 18446744073709551616) : d_latheref09_Norm t v = norm t v := by
 unfold d_latheref09_Norm norm
 simp only [Bool.cond_eq_ite,Bool.and_eq_true,beq_iff_eq,decide_eq_true_eq]
 have hmask : mask t = 0 ↔ ¬ (1 <= t /\ t <= 64) := mask_zero
 have hcount : 0 < count t ↔ (1 <= t /\ t <= 65) := by unfold count; (repeat' split) <;> omega
 have hcut : 1 <= t /\ t <= 64 -> d_latheref01_Cut t v.b = v.b % 2 ^ t.toNat := fun h=>by
  obtain ⟨n,rfl⟩ := Int.eq_ofNat_of_zero_le (show 0 <= t by omega)
  rw [cut_eq (by omega) hv.1 hv.2]; rfl
 (repeat' split) <;> first|rfl|(exfalso; omega)|(rw [hcut (by omega)])
theorem normref_rg {t : Int} {v : Vl} (hv : 0 <= v.b /\ v.b < 18446744073709551616) : 0 <= (d_latheref09_Norm t v).b /\ (d_latheref09_Norm t v).b < 18446744073709551616 := by
 rw [norm_ref hv]; exact norm_range
def suchB (op t n f k : Int) : Bool := match kinds op t n f with
 | some ws=>k == (ws.length : Int)
 | none=>false
theorem such_eq (i : InsE) (k : Int) : d_latheref10_such i k = suchB i.op i.t i.n i.f k := by
 unfold d_latheref10_such suchB kinds
 rw [flags_eq,conv_ref (by omega)]
 have hw : ∀ t : Int,(decide (1 <= t) && decide (t <= 64) || t == 65) = (decide (1 <= t) && decide (t <= 65)) := fun t=>by rw [Bool.eq_iff_iff]; simp; omega
 cases hf : (bits .andNot .i64 i.f (flags i.op) != 0)
 ·simp only [cond_false,hw]
  have : i.op < 1 \/ 29 < i.op \/ i.op = 14 \/ i.op = 15 \/ (1 <= i.op /\ i.op <= 19 /\ i.op ≠ 14 /\ i.op ≠ 15) \/ i.op = 20 \/ i.op = 21 \/ i.op = 22 \/ i.op = 23 \/ i.op = 24 \/ (25 <= i.op /\ i.op <= 28) \/ i.op = 29 := by omega
  have hno : ∀ k : Int,i.op ≠ k -> (i.op == k) = false := fun k hk=>by simpa using hk
  have hd : ∀ x : Int,(decide (i.op < x) = true) = (i.op < x) := fun x=>by simp
  simp only [Bool.and_assoc]
  generalize hG : (decide (1 <= i.t) && decide (i.t <= 65)) = G
  generalize hG4 : (decide (1 <= i.t) && decide (i.t <= 64)) = G4
  generalize hC : (conv i.op i.n i.t 0).2 = C
  rcases this with h|h|h|h|h|h|h|h|h|h|h|h
  ·rw [hno 14 (by omega),hno 15 (by omega),hno 20 (by omega),hno 21 (by omega),hno 22 (by omega),hno 23 (by omega),hno 24 (by omega),hno 29 (by omega),decide_eq_false (show ¬ 1 <= i.op by omega),decide_eq_true h]; rfl
  ·rw [hno 14 (by omega),hno 15 (by omega),hno 20 (by omega),hno 21 (by omega),hno 22 (by omega),hno 23 (by omega),hno 24 (by omega),hno 29 (by omega),decide_eq_false (show ¬ i.op <= 19 by omega),decide_eq_true h]; simp
  ·rw [h]; cases G <;> simp
  ·rw [h]; cases G <;> simp
  ·rw [hno 14 (by omega),hno 15 (by omega),hno 20 (by omega),hno 21 (by omega),hno 22 (by omega),hno 23 (by omega),hno 24 (by omega),hno 29 (by omega),decide_eq_true (show 1 <= i.op by omega),decide_eq_true (show i.op <= 19 by omega),decide_eq_false (show ¬ i.op < 1 by omega),decide_eq_false (show ¬ 29 < i.op by omega)]
   cases G4 <;> simp
  ·rw [h]; cases C <;> simp
  ·rw [h]; cases C <;> simp
  ·rw [h]; cases C <;> simp
  ·rw [h]; cases G <;> simp
  ·rw [h]; cases G <;> simp
  ·rw [hno 14 (by omega),hno 15 (by omega),hno 20 (by omega),hno 21 (by omega),hno 22 (by omega),hno 23 (by omega),decide_eq_false (show ¬ i.op <= 19 by omega),decide_eq_false (show ¬ i.op <= 22 by omega),decide_eq_false (show ¬ i.op < 1 by omega),decide_eq_false (show ¬ 29 < i.op by omega)]
   rcases (show i.op = 25 \/ i.op = 26 \/ i.op = 27 \/ i.op = 28 by omega) with q|q|q|q <;> rw [q] <;> simp
  ·rw [h]; cases hq : (i.t == 65) <;> simp
 ·rfl
theorem arity_of {i : InsE} {k : Nat} (h : d_latheref10_such i k = true) : k = arity i.op /\ 1 <= i.op /\ (i.op <= 24 \/ i.op = 29) := by
 rw [such_eq] at h
 unfold suchB at h
 cases hk : kinds i.op i.t i.n i.f with
 | none=>rw [hk] at h; cases h
 | some ws =>
  rw [hk] at h
  have := kinds_len hk
  have h2 : (k : Int) = (ws.length : Int) := by simpa using h
  omega
theorem arity_omega (op : Int) : (op <= 19 -> arity op = 2) /\ (20 <= op /\ op <= 22 -> arity op = 1) /\ (op = 23 -> arity op = 3) /\ (op = 24 -> arity op = 1) /\ (25 <= op -> arity op = 2) := by
 unfold arity
 refine ⟨?_,?_,?_,?_,?_⟩ <;> intro h <;> (repeat' split) <;> omega
end Go.Proofs.YtjfdbmfcnhjfoaaGreat.Pl

namespace Go.Proofs.YtjfdbmfcnhjfoaaGreat
open Go.RowKit
end Go.Proofs.YtjfdbmfcnhjfoaaGreat
namespace Go.Proofs.YtjfdbmfcnhjfoaaGreat.Pl
open Go.Proofs.YtjfdbmfcnhjfoaaGreat
set_option linter.unusedVariables false
set_option linter.unusedSimpArgs false
set_option maxRecDepth 100000
theorem getD_some {α : Type} {xs : List α} {i : Nat} {d : α} (h : i < xs.length) : xs[i]? = some (xs.getD i d) := by
 rw [List.getD_eq_getElem?_getD,List.getElem?_eq_getElem h]; rfl
theorem getD_mem {α : Type} {xs : List α} {i : Nat} {d : α} (h : i < xs.length) : xs.getD i d ∈ xs := List.mem_of_getElem? (getD_some h)
theorem width_iff (w : Int) : (d_latheref01_width w = true) = (1 <= w /\ w <= 64) := by unfold d_latheref01_width; simp
theorem letV_eq {R V : Type} {x y : V} {g : V -> R} (h : x = y) : letV x g = g y := by rw [h]; rfl
theorem kind_of {i : InsE} {ws : List Int} (hk : kinds i.op i.t i.n i.f = some ws) {j : Nat} {w : Int} (hw : ws[j]? = some w) : d_latheref10_kind i j = w := by
  have hno : ∀ k : Int, i.op ≠ k → (i.op == k) = false := fun k hk => by simpa using hk
  unfold d_latheref10_kind
  cases (kinds_cases hk).2 with
  | eq h => rw [hno 20 (by omega), hno 21 (by omega), hno 22 (by omega), hno 23 (by omega), hno 29 (by omega)]
            rcases j with _ | _ | j <;> simp at hw <;> simp [hw]
  | two h h' => rw [hno 20 (by omega), hno 21 (by omega), hno 22 (by omega), hno 23 (by omega), hno 29 (by omega)]
                rcases j with _ | _ | j <;> simp at hw <;> simp [hw]
  | conv h h' => 
    rcases j with _ | j <;> simp at hw
    rcases (show i.op = 20 ∨ i.op = 21 ∨ i.op = 22 by omega) with q | q | q <;> rw [q] <;> simp [hw]
  | select h => rw [h]; rcases j with _ | _ | _ | j <;> simp at hw <;> simp [hw] <;> (try omega)
  | freeze h => rw [h]; rcases j with _ | j <;> simp at hw <;> simp [hw]
  | gep h ht => rw [h]; rcases j with _ | _ | j <;> simp at hw <;> simp [hw, ht] <;> (try omega)
theorem row_drop {ws : List Int} {xs : List Vl} (h : ws.length = xs.length) {j : Nat} {w : Int} {x : Vl} (hw : ws[j]? = some w) (hx : xs[j]? = some x) : (row ws xs).take (j + 1) = (row ws xs).take j ++ [norm w x] := by
 rw [List.take_add_one,row_get hw hx]; rfl
theorem loop_row (i : InsE) (p1 : LV) {ws : List Int} (hk : kinds i.op i.t i.n i.f = some ws) (hl : ws.length = p1.l.length) (hr : ∀ z ∈ p1.l,0 <= z.b /\ z.b < 18446744073709551616) :
  ∀ (m k j : Nat) (l : List Vl),j + m = p1.l.length -> m < k -> l = (row ws p1.l).take j -> d_latheref10_Eval_R6 i p1 k l j = (row ws p1.l,(p1.l.length : Int))
 | 0,k + 1,j,l,hj,_,hl'=>by
  have hjl : j = p1.l.length := by omega
  unfold d_latheref10_Eval_R6
  rw [decide_eq_false (by omega),cond_false,hl',List.take_of_length_le (by rw [row_length hl]; omega),hjl]
 | m + 1,k + 1,j,l,hj,hm,hl'=>by
  have hjl : j < p1.l.length := by omega
  unfold d_latheref10_Eval_R6
  rw [decide_eq_true (by omega),cond_true]
  have hx := getD_some (d := (Vl.zero : Vl)) hjl
  have hw : ws[j]? = some (ws[j]'(by omega)) := List.getElem?_eq_getElem _
  have e : (j : Int) + 1 = ((j + 1 : Nat) : Int) := by omega
  rw [Int.toNat_natCast,kind_of hk hw,norm_ref (hr _ (getD_mem hjl)),e,loop_row i p1 hk hl hr m k (j + 1) _ (by omega) (by omega) (by rw [hl',row_drop hl hw hx])]
 | m,0,_,_,_,h,_=>by omega
theorem mask_ref {t : Int} (h : 1 <= t /\ t <= 64) : d_latheref01_Mask t = mask t := by
 unfold d_latheref01_Mask
 obtain ⟨n,rfl⟩ := Int.eq_ofNat_of_zero_le (show 0 <= t by omega)
 have hw : d_latheref01_width n = true := by rw [width_iff]; exact h
 rw [hw,Bool.not_true,cond_false,cut_eq (by omega) (by omega) (by omega),mask_in (by omega) (by omega)]
 have hp := pow_split (n := n) (by omega)
 have hpi := pow_split_int (n := n) (by omega)
 have hpp : (0 : Int) < 2 ^ n := Int.pow_pos (by decide)
 have hq : (0 : Int) < 2 ^ (64 - n) := Int.pow_pos (by decide)
 have e : (18446744073709551615 : Int) = (2 ^ n - 1) + 2 ^ n * (2 ^ (64 - n) - 1) := by rw [Int.mul_sub,hpi]; omega
 rw [e,Int.add_mul_emod_self_left,Int.emod_eq_of_lt (by omega) (by omega)]
 have := pow_cast n
 have := pow_pos n
 omega
def cl (op t f x y : Int) : Vl × Int := bif (apply op t f x y).2 == 0 then (number (apply op t f x y).1,0) else bif (apply op t f x y).2 == 1 then (Vl.zero,0) else (Vl.zero,(apply op t f x y).2)
theorem core_end (op : Int) (n : Nat) (f a b : Int) : (core op n f a b).2 = 0 \/ (core op n f a b).2 = 1 \/ (core op n f a b).2 = 2 := by
 rcases Classical.em (4 <= op /\ op <= 7) with h|h
 ·rw [core_div h.1 h.2]
  unfold div
  split
  ·exact .inr (.inr rfl)
  ·split
   ·rcases divR2 op f (a / b) (a % b) with q|q
    ·exact .inl q
    ·exact .inr (.inl q)
   ·split
    ·exact .inr (.inr rfl)
    ·rcases divR2 op f ((sgn n a).tdiv (sgn n b)) ((sgn n a).tmod (sgn n b)) with q|q
     ·exact .inl q
     ·exact .inr (.inl q)
 ·rcases core2 (n := n) (f := f) (a := a) (b := b) h with q|q
  ·exact .inl q
  ·exact .inr (.inl q)
theorem applied_eq {i : InsE} {x y : Int} (hb : badA i.op i.t i.f = false) (hf : -9223372036854775808 <= i.f /\ i.f <= 9223372036854775807) (hx : 0 <= x /\ x < 18446744073709551616) (hy : 0 <= y /\ y < 18446744073709551616) :
  d_latheref10_applied i x y = cl i.op i.t i.f x y := by
 unfold d_latheref10_applied cl
 rw [apply_ref hf hx hy]
 have h2 := apply2 (a := x) (b := y) hb
 rcases core_end i.op i.t.toNat i.f (x % 2 ^ i.t.toNat) (y % 2 ^ i.t.toNat) with h|h|h <;> rw [h2,h] <;> rfl
theorem clear_cl {op t n f : Int} {a b : Vl} (h29 : (op == 29) = false) (h20 : decide (20 <= op) = false) (h65 : (t == 65) = false) : clear op t n f a b = cl op t f a.b b.b := by
 unfold clear cl; rw [h29,h20,h65]; rfl
theorem norm3 {w : Int} {a : Vl} (h : norm w a = a) : (a.k = 0 -> a = Vl.zero) /\ (a.k = 3 -> a = any) /\ (a.k = 2 -> a.b = 0) := by
 unfold norm at h
 split at h
 ·rename_i hc; refine ⟨fun q=>?_,fun q=>?_,fun q=>?_⟩ <;> omega
 ·split at h
  ·rename_i hc; refine ⟨fun q=>?_,fun q=>?_,fun q=>by rw [<- h]⟩ <;> omega
  ·split at h
   ·rename_i hc; exact ⟨fun q=>by omega,fun _=>h.symm,fun q=>by omega⟩
   ·have hk : a.k = 0 := by rw [<- h]; rfl
    exact ⟨fun _=>h.symm,fun q=>by omega,fun q=>by omega⟩
theorem made_two {op t n f : Int} {a b : Vl} (h24 : (op == 24) = false) (h23 : (op == 23) = false) : made op t n f [a,b] = bif isDiv op && divisor op t a b != 0 then (Vl.zero,divisor op t a b) else bif (a.k == 0 || b.k == 0) then (Vl.zero,0) else bif (a.k == 3 || b.k == 3) then (loosely op t f b,0) else clear op t n f a b := by
 unfold made
 rw [show at_ [a,b] 0 = a from rfl,show at_ [a,b] 1 = b from rfl,h24,h23,any2,any2]; rfl
theorem divided_ref {i : InsE} {a b : Vl} (ho : 4 <= i.op /\ i.op <= 7) (hb : badA i.op i.t i.f = false) (ht : 1 <= i.t /\ i.t <= 64) (hf : -9223372036854775808 <= i.f /\ i.f <= 9223372036854775807) (na : norm i.t a = a) (nb : norm i.t b = b) :
  d_latheref10_divided i a b = made i.op i.t i.n i.f [a,b] := by
 have hno : ∀ k : Int,i.op ≠ k -> (i.op == k) = false := fun k hk=>by simpa using hk
 have hd : isDiv i.op = true := by unfold isDiv; simp; omega
 have hs : (decide (11 <= i.op) && decide (i.op <= 13)) = false := by simp; omega
 rw [made_two (hno 24 (by omega)) (hno 23 (by omega)),hd,Bool.true_and]
 have ra := na ▸ norm_range (t := i.t) (v := a)
 have rb := nb ▸ norm_range (t := i.t) (v := b)
 unfold d_latheref10_divided divisor
 rw [mask_ref ht,applied_eq hb hf ra rb,clear_cl (hno 29 (by omega)) (decide_eq_false (by omega)) (by simp; omega)]
 unfold loosely
 rw [hs,Bool.false_and,Bool.false_or]
 have ka : a.k = 0 \/ a.k = 3 \/ a.k = 1 := by have := norm_kind na; omega
 have kb : b.k = 0 \/ b.k = 3 \/ b.k = 1 := by have := norm_kind nb; omega
 cases hl : (i.op == 5 || i.op == 7) <;> cases hm : (b.b == mask i.t) <;> cases hz : (b.b == 0) <;> cases hff : (i.f != 0) <;>
 rcases ka with q|q|q <;> rcases kb with p|p|p <;> simp only [q,p] <;> first|rfl|(simp; done)|skip
theorem shifted_ref {i : InsE} {a b : Vl} (ho : 11 <= i.op /\ i.op <= 13) (hb : badA i.op i.t i.f = false) (ht : 1 <= i.t /\ i.t <= 64) (hf : -9223372036854775808 <= i.f /\ i.f <= 9223372036854775807) (na : norm i.t a = a) (nb : norm i.t b = b) :
  d_latheref10_shifted i a b = made i.op i.t i.n i.f [a,b] := by
 have hno : ∀ k : Int,i.op ≠ k -> (i.op == k) = false := fun k hk=>by simpa using hk
 have hd : isDiv i.op = false := by unfold isDiv; simp; omega
 have hs : (decide (11 <= i.op) && decide (i.op <= 13)) = true := by simp; omega
 rw [made_two (hno 24 (by omega)) (hno 23 (by omega)),hd,Bool.false_and,cond_false]
 have ra := na ▸ norm_range (t := i.t) (v := a)
 have rb := nb ▸ norm_range (t := i.t) (v := b)
 have hcl : decide (IntKind.u64.wrap i.t <= b.b) = true -> b.k = 1 -> cl i.op i.t i.f a.b b.b = (Vl.zero,0) := fun h hk=>by
  have hle : i.t <= b.b := by have := of_decide_eq_true h; rwa [wr_small (by omega) (by omega)] at this
  have hbr : b.b % 2 ^ i.t.toNat = b.b := by
   rcases norm_kind nb with q|q|q|q
   ·omega
   ·omega
   ·exact Int.emod_eq_of_lt q.2.2.2.1 q.2.2.2.2
   ·omega
  have h2 := apply2 (a := a.b) (b := b.b) hb
  rw [hbr,core_shift (by omega) (by omega)] at h2
  have h3 : (apply i.op i.t i.f a.b b.b).2 = 1 := by
   rw [h2]; unfold shift; rw [if_pos (by omega)]
  unfold cl; rw [h3]; rfl
 unfold d_latheref10_shifted
 rw [applied_eq hb hf ra rb,clear_cl (hno 29 (by omega)) (decide_eq_false (by omega)) (by simp; omega)]
 unfold loosely
 rw [hs,Bool.true_and]
 have ka : a.k = 0 \/ a.k = 3 \/ a.k = 1 := by have := norm_kind na; omega
 have kb : b.k = 0 \/ b.k = 3 \/ b.k = 1 := by have := norm_kind nb; omega
 cases hw : decide (IntKind.u64.wrap i.t <= b.b) <;> cases hff : (i.f != 0) <;>
 rcases ka with q|q|q <;> rcases kb with p|p|p <;> simp only [q,p] <;> first|rfl|(simp; done)|skip
 all_goals (rw [hcl hw p]; rfl)
theorem ptr_wrap (x y : Int) : IntKind.i64.wrap (IntKind.u64.wrap (IntKind.u64.wrap x + y)) = IntKind.i64.wrap (x + IntKind.i64.wrap y) := by
 simp only [IntKind.wrap_u64,IntKind.wrap_i64]; omega
theorem pair_ref {i : InsE} {a b : Vl} {w v : Int} (hk : kinds i.op i.t i.n i.f = some [w,v]) (ho : i.op <= 3 \/ (8 <= i.op /\ i.op <= 10) \/ (14 <= i.op /\ i.op <= 19) \/ i.op = 29) (hf : -9223372036854775808 <= i.f /\ i.f <= 9223372036854775807) (na : norm w a = a) (nb : norm v b = b) :
  d_latheref10_pair i a b = made i.op i.t i.n i.f [a,b] := by
 have hno : ∀ k : Int,i.op ≠ k -> (i.op == k) = false := fun k hk=>by simpa using hk
 have hd : isDiv i.op = false := by unfold isDiv; simp; omega
 have hs : (decide (11 <= i.op) && decide (i.op <= 13)) = false := by simp; omega
 have ra := na ▸ norm_range (t := w) (v := a)
 have rb := nb ▸ norm_range (t := v) (v := b)
 rw [made_two (hno 24 (by omega)) (hno 23 (by omega)),hd,Bool.false_and,cond_false]
 unfold d_latheref10_pair loosely
 rw [hs,Bool.false_and,Bool.false_or]
 cases h0 : (a.k == 0 || b.k == 0)
 ·cases h3 : (a.k == 3 || b.k == 3)
  ·simp only [cond_false]
   simp only [Bool.or_eq_false_iff,beq_eq_false_iff_ne,ne_eq] at h0 h3
   cases h29 : (i.op == 29)
   ·simp only [cond_false]
    have h29' : ¬ i.op = 29 := by simpa using h29
    have h20 : decide (20 <= i.op) = false := decide_eq_false (by omega)
    rcases Classical.em (i.t = 65) with h65|h65
    ·have hw : w = 65 /\ v = 65 := by
      have h1 := kinds_len hk
      cases (kinds_cases hk).2 <;> omega
     obtain ⟨rfl,rfl⟩ := hw
     have ka : a.k = 2 := by have := norm_kind na; omega
     have kb : b.k = 2 := by have := norm_kind nb; omega
     have za := (norm3 na).2.2 ka
     have zb := (norm3 nb).2.2 kb
     unfold clear
     rw [h29,h20,show (i.t == 65) = true by simpa using h65]
     simp only [cond_false,cond_true]
     have e : decide (a = b) = (a.bl == b.bl && a.off == b.off) := by
      obtain ⟨a1,a2,a3,a4⟩ := a
      obtain ⟨b1,b2,b3,b4⟩ := b
      simp only at ka kb za zb
      subst ka kb za zb
      rw [Bool.eq_iff_iff]; simp
     rw [e]
     unfold d_latheref10_truth d_latheref10_number number
     cases ((a.bl == b.bl && a.off == b.off) == (i.op == 14)) <;> rfl
    ·have hb := (kinds_bad hk (by omega) h65).1
     rw [show (i.t == 65) = false by simpa using h65,cond_false,applied_eq hb hf ra rb,clear_cl h29 h20 (by simpa using h65)]
   ·simp only [cond_true]
    have hw : w = 65 /\ v = 64 := by
     have h29' : i.op = 29 := by simpa using h29
     cases (kinds_cases hk).2 <;> omega
    obtain ⟨rfl,rfl⟩ := hw
    have ka : a.k = 2 := by have := norm_kind na; omega
    have za := (norm3 na).2.2 ka
    unfold clear
    rw [h29,cond_true,ka,za,ptr_wrap]
  ·simp only [cond_false,cond_true]
   cases (i.f != 0) <;> rfl
 ·rfl
theorem evalref_eq (i : InsE) (xs : LV) (hf : -9223372036854775808 <= i.f /\ i.f <= 9223372036854775807) (hr : ∀ z ∈ xs.l,0 <= z.b /\ z.b < 18446744073709551616) : d_latheref10_Eval i xs = eval i.op i.t i.n i.f xs.l := by
 unfold d_latheref10_Eval
 rw [such_eq]
 unfold suchB
 cases hk : kinds i.op i.t i.n i.f with
 | none=>unfold eval; rw [hk]; rfl
 | some ws =>
  simp only
  cases hl : ((xs.l.length : Int) == (ws.length : Int))
  ·unfold eval; rw [hk]
   have : (ws.length != xs.l.length) = true := by simp at hl ⊢; omega
   simp only
   rw [this]; rfl
  ·have hl' : ws.length = xs.l.length := by simp at hl; omega
   rw [Bool.not_true,cond_false,eval_made hk hl']
   have hloop := loop_row i xs hk hl' hr xs.l.length (((xs.l.length : Int) - 0).toNat + 1) 0 [] (by omega) (by omega) rfl
   rw [Int.natCast_zero] at hloop
   rw [letV_eq hloop]
   simp only
   have hrl := row_length hl'
   have hnn : ∀ (j : Nat) (w : Int),ws[j]? = some w -> norm w ((row ws xs.l).getD j Vl.zero) = (row ws xs.l).getD j Vl.zero := fun j w hw=>by
    have hj := (List.getElem?_eq_some_iff.1 hw).1
    have hx : xs.l[j]? = some (xs.l[j]'(by omega)) := List.getElem?_eq_getElem _
    rw [List.getD_eq_getElem?_getD,row_get hw hx]
    exact norm_norm _ _
   generalize hR : row ws xs.l = R at *
   have hbad := kinds_bad hk
   have hno : ∀ k : Int,i.op ≠ k -> (i.op == k) = false := fun k hk=>by simpa using hk
   have hfl := kinds_len hk
   have one : ws.length = 1 -> ∃ a,R = [a] := fun h=>one_of (by omega)
   have two : ws.length = 2 -> ∃ a b,R = [a,b] := fun h=>two_of (by omega)
   have hpair : ∀ a b w v,R = [a,b] -> ws = [w,v] -> (i.op <= 3 \/ (8 <= i.op /\ i.op <= 10) \/ (14 <= i.op /\ i.op <= 19) \/ i.op = 29) -> ((d_latheref10_pair i a b).1,(d_latheref10_pair i a b).2) = made i.op i.t i.n i.f R := fun a b w v hRe hwe ho=>by
    subst hRe hwe
    exact pair_ref hk ho hf (hnn 0 w rfl) (hnn 1 v rfl)
   cases hkc : (kinds_cases hk).2 with
   | eq h h1 h2 =>
    obtain ⟨a,b,rfl⟩ := two rfl
    rw [hno 4 (by omega),hno 5 (by omega),hno 6 (by omega),hno 7 (by omega),hno 11 (by omega),hno 12 (by omega),hno 13 (by omega),hno 20 (by omega),hno 21 (by omega),hno 22 (by omega),hno 23 (by omega),hno 24 (by omega)]
    exact hpair a b _ _ rfl rfl (by omega)
   | two h h' h'' h1 h2 =>
    obtain ⟨a,b,rfl⟩ := two rfl
    have hb := (hbad h' (by omega)).1
    rw [hno 20 (by omega),hno 21 (by omega),hno 22 (by omega),hno 23 (by omega),hno 24 (by omega)]
    rcases (show i.op <= 3 \/ (4 <= i.op /\ i.op <= 7) \/ (8 <= i.op /\ i.op <= 10) \/ (11 <= i.op /\ i.op <= 13) \/ 14 <= i.op by omega) with q|q|q|q|q
    ·rw [hno 4 (by omega),hno 5 (by omega),hno 6 (by omega),hno 7 (by omega),hno 11 (by omega),hno 12 (by omega),hno 13 (by omega)]
     exact hpair a b _ _ rfl rfl (by omega)
    ·have hdv := divided_ref (a := a) (b := b) q hb ⟨h1,h2⟩ hf (hnn 0 i.t rfl) (hnn 1 i.t rfl)
     rw [<- hdv]
     rcases (show i.op = 4 \/ i.op = 5 \/ i.op = 6 \/ i.op = 7 by omega) with e|e|e|e <;> simp only [e] <;> rfl
    ·rw [hno 4 (by omega),hno 5 (by omega),hno 6 (by omega),hno 7 (by omega),hno 11 (by omega),hno 12 (by omega),hno 13 (by omega)]
     exact hpair a b _ _ rfl rfl (by omega)
    ·have hsh := shifted_ref (a := a) (b := b) q hb ⟨h1,h2⟩ hf (hnn 0 i.t rfl) (hnn 1 i.t rfl)
     rw [<- hsh]
     rcases (show i.op = 11 \/ i.op = 12 \/ i.op = 13 by omega) with e|e|e <;> simp only [e] <;> rfl
    ·rw [hno 4 (by omega),hno 5 (by omega),hno 6 (by omega),hno 7 (by omega),hno 11 (by omega),hno 12 (by omega),hno 13 (by omega)]
     exact hpair a b _ _ rfl rfl (by omega)
   | gep h ht =>
    obtain ⟨a,b,rfl⟩ := two rfl
    rw [hno 4 (by omega),hno 5 (by omega),hno 6 (by omega),hno 7 (by omega),hno 11 (by omega),hno 12 (by omega),hno 13 (by omega),hno 20 (by omega),hno 21 (by omega),hno 22 (by omega),hno 23 (by omega),hno 24 (by omega)]
    exact hpair a b _ _ rfl rfl (by omega)
   | select h h1 h2 =>
    obtain ⟨a,b,c,rfl⟩ := three_of (show R.length = 3 by rw [hrl,<- hl']; rfl)
    rw [h]
    show (d_latheref10_chosen a b c,(0 : Int)) = _
    rfl
   | freeze h h1 h2 =>
    obtain ⟨a,rfl⟩ := one rfl
    rw [h]
    show (bif a.k == 0 then (d_latheref10_Any,(0 : Int)) else (a,0)) = made 24 i.t i.n i.f [a]
    unfold made
    rw [any1]
    cases (a.k == 0) <;> rfl
   | conv h h' hc h1 h2 =>
    obtain ⟨a,rfl⟩ := one rfl
    have na : norm i.n a = a := hnn 0 i.n rfl
    have ra := na ▸ norm_range (t := i.n) (v := a)
    have hf0 : i.f = 0 := by
     have := (kinds_noflags hk).2
     have hz : flags i.op = 0 := by unfold flags; rw [if_neg (by omega),if_neg (by omega)]
     rw [hz] at this
     exact flags0 hf.1 hf.2 this
    have hm : made i.op i.t i.n i.f [a] = bif a.k == 0 then (Vl.zero,0) else bif a.k == 3 then (any,0) else (number (conv i.op i.n i.t a.b).1,0) := by
     have hd : isDiv i.op = false := by unfold isDiv; simp; omega
     have hs : (decide (11 <= i.op) && decide (i.op <= 13)) = false := by simp; omega
     unfold made loosely clear
     rw [hd,hno 24 (by omega),hno 23 (by omega),hno 29 (by omega),any1,any1,hs,hf0,decide_eq_true (show 20 <= i.op by omega)]
     rfl
    rw [hm]
    have hcv : (bif a.k != 1 then (a,(0 : Int)) else (d_latheref10_number (d_latheref01_Convert i.op i.n i.t a.b).1,0)) = bif a.k == 0 then (Vl.zero,0) else bif a.k == 3 then (any,0) else (number (conv i.op i.n i.t a.b).1,0) := by
     rw [conv_ref ra]
     have ka : a.k = 0 \/ a.k = 3 \/ a.k = 1 := by have := norm_kind na; omega
     rcases ka with q|q|q
     ·rw [(norm3 na).1 q]; rfl
     ·rw [(norm3 na).2.1 q]; rfl
     ·rw [q]; rfl
    rw [<- hcv,hno 4 (by omega),hno 5 (by omega),hno 6 (by omega),hno 7 (by omega),hno 11 (by omega),hno 12 (by omega),hno 13 (by omega),hno 23 (by omega),hno 24 (by omega)]
    rcases (show i.op = 20 \/ i.op = 21 \/ i.op = 22 by omega) with e|e|e <;> simp only [e] <;> rfl
end Go.Proofs.YtjfdbmfcnhjfoaaGreat.Pl

namespace Go.Proofs.YtjfdbmfcnhjfoaaGreat
open Go.RowKit
end Go.Proofs.YtjfdbmfcnhjfoaaGreat
