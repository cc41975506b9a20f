/- Plain: made wider twice. -/
import Derived.Test.YtdiimckjmggjlaaPlG
namespace Go.Proofs.Ytdiimckjmggjlaa.Pl
def one (op p q : Int) (x : Vl) : Vl := bif (eval op q p 0 [x]).2 != 0 then ⟨99, 0, 0, 0⟩ else (eval op q p 0 [x]).1
theorem one_rg (op p q : Int) (x : Vl) : Rg (one op p q x).b := by
  unfold one
  cases (eval op q p 0 [x]).2 != 0
  · exact eval_rg _ _ _ _ _
  · exact rg0
def wd (op p q : Int) (y : Vl) : Vl := bif y.k == 0 then Vl.zero else bif y.k == 3 then any else number (conv op p q y.b).1
theorem one_eq {op p q : Int} (x : Vl) (ho : op = 20 ∨ op = 21 ∨ op = 22) (hc : (conv op p q 0).2 = true) : one op p q x = wd op p q (norm p x) := by
  have hk : kinds op q p 0 = some [p] := by
    unfold kinds
    rw [andNot0, hc]
    rcases ho with rfl | rfl | rfl <;> rfl
  have hd : isDiv op = false := by unfold isDiv; simp; omega
  have h24 : (op == 24) = false := by simp; omega
  have h23 : (op == 23) = false := by simp; omega
  have h29 : (op == 29) = false := by simp; omega
  have h20 : decide (20 ≤ op) = true := by simp; omega
  have hs : (decide (11 ≤ op) && decide (op ≤ 13)) = false := by simp; omega
  have he : eval op q p 0 [x] = (wd op p q (norm p x), 0) := by
    rw [eval_made hk rfl]
    show made op q p 0 [norm p x] = _
    unfold made loosely clear wd
    rw [hd, h24, h23, h29, h20, hs]
    have e0 : [norm p x].any (·.k == 0) = ((norm p x).k == 0) := by simp
    have e3 : [norm p x].any (·.k == 3) = ((norm p x).k == 3) := by simp
    rw [e0, e3]
    cases (norm p x).k == 0
    · cases (norm p x).k == 3 <;> rfl
    · rfl
  unfold one
  rw [he]; rfl
theorem mask_ne {t : Int} (h : 1 ≤ t ∧ t ≤ 64) : ¬ mask t = 0 := fun e => absurd (mask_zero.1 e) (not_not_intro h)
theorem conv20 {p q : Int} (v : Int) (h1 : 1 ≤ p) (h2 : p < q) (h3 : q ≤ 64) : conv 20 p q v = (v % 2 ^ p.toNat, true) := by
  unfold conv; rw [if_neg (by have := mask_ne (t := p) (by omega); have := mask_ne (t := q) (by omega); simp [*]), if_pos ⟨rfl, h2⟩]
theorem conv21 {p q : Int} (v : Int) (h1 : 1 ≤ p) (h2 : p < q) (h3 : q ≤ 64) : conv 21 p q v = (sgn p.toNat v % 2 ^ q.toNat, true) := by
  unfold conv; rw [if_neg (by have := mask_ne (t := p) (by omega); have := mask_ne (t := q) (by omega); simp [*]), if_neg (by omega), if_pos ⟨rfl, h2⟩]
theorem conv22 {p q : Int} (v : Int) (h1 : 1 ≤ q) (h2 : q < p) (h3 : p ≤ 64) : conv 22 p q v = (v % 2 ^ q.toNat, true) := by
  unfold conv; rw [if_neg (by have := mask_ne (t := p) (by omega); have := mask_ne (t := q) (by omega); simp [*]), if_neg (by omega), if_neg (by omega), if_pos ⟨rfl, h2⟩]
theorem norm_cases {t : Int} (x : Vl) (h : 1 ≤ t ∧ t ≤ 64) : norm t x = Vl.zero ∨ norm t x = any ∨ norm t x = number (x.b % 2 ^ t.toNat) := by
  unfold norm
  split
  · exact .inr (.inr rfl)
  · split
    · omega
    · split
      · exact .inr (.inl rfl)
      · exact .inl rfl
theorem norm_zero (t : Int) : norm t Vl.zero = Vl.zero := by unfold norm Vl.zero; simp
theorem norm_number {t z : Int} (h : 1 ≤ t ∧ t ≤ 64) : norm t (number z) = number (z % 2 ^ t.toNat) := by
  unfold norm number; rw [if_pos ⟨rfl, mask_ne h⟩]
theorem mod_mod {a b : Nat} (h : a ≤ b) (z : Int) : z % 2 ^ b % 2 ^ a = z % 2 ^ a := Int.emod_emod_of_dvd z ⟨2 ^ (b - a), by rw [← Int.pow_add, show a + (b - a) = b by omega]⟩
theorem mod_mod' {a b : Nat} (h : a ≤ b) (z : Int) : z % 2 ^ a % 2 ^ b = z % 2 ^ a := by
  have h1 := mod_range a z
  have hn : (2 : Nat) ^ a ≤ 2 ^ b := Nat.pow_le_pow_right (by omega) h
  have h2 : (2 : Int) ^ a ≤ 2 ^ b := by exact_mod_cast hn
  exact Int.emod_eq_of_lt h1.1 (by omega)
theorem sgn_mod (n : Nat) (z : Int) : sgn n z % 2 ^ n = z % 2 ^ n := by
  unfold sgn
  have h := Int.bmod_emod (x := z) (m := 2 ^ n)
  rwa [show (((2 ^ n : Nat) : Int)) = 2 ^ n by norm_cast] at h
theorem sgn_of_mod (n : Nat) (z : Int) : sgn n (z % 2 ^ n) = sgn n z := by
  unfold sgn
  have h := Int.emod_bmod (x := z) (n := 2 ^ n)
  rwa [show (((2 ^ n : Nat) : Int)) = 2 ^ n by norm_cast] at h
theorem sgn_wide {a b : Nat} (h1 : 1 ≤ a) (h : a ≤ b) (z : Int) : sgn b (sgn a z) = sgn a z := by
  obtain ⟨c, rfl⟩ : ∃ c, a = c + 1 := ⟨a - 1, by omega⟩
  have hp := pow_pos (c + 1)
  have hl : (2 : Nat) ^ (c + 1) ≤ 2 ^ b := Nat.pow_le_pow_right (by omega) h
  have e : (2 : Nat) ^ (c + 1) = 2 * 2 ^ c := by rw [Nat.pow_succ]; omega
  have h2 := Int.le_bmod (x := z) (m := 2 ^ (c + 1)) hp
  have h3 := Int.bmod_lt (x := z) (m := 2 ^ (c + 1)) hp
  unfold sgn
  refine Int.bmod_eq_of_le ?_ ?_ <;> omega
theorem chain_law {op t u w : Int} {x : Vl} (ho : op = 20 ∨ op = 21) (h1 : 1 ≤ t) (h2 : t < u) (h3 : u < w) (h4 : w ≤ 64) :
    (decide (one op u w (one op t u x) = one op t w x) && decide (one 22 w t (one op u w (one op t u x)) = read t x) && decide (one 22 u t (one 22 w u (one op u w (one op t u x))) = read t x)) = true := by
  have c1 : (conv op t u 0).2 = true := by rcases ho with rfl | rfl; rw [conv20 _ h1 h2 (by omega)]; rw [conv21 _ h1 h2 (by omega)]
  have c2 : (conv op u w 0).2 = true := by rcases ho with rfl | rfl; rw [conv20 _ (by omega) h3 h4]; rw [conv21 _ (by omega) h3 h4]
  have c3 : (conv op t w 0).2 = true := by rcases ho with rfl | rfl; rw [conv20 _ h1 (by omega) h4]; rw [conv21 _ h1 (by omega) h4]
  have c4 : (conv 22 w t 0).2 = true := by rw [conv22 _ h1 (by omega) h4]
  have c5 : (conv 22 w u 0).2 = true := by rw [conv22 _ (by omega) h3 h4]
  have c6 : (conv 22 u t 0).2 = true := by rw [conv22 _ h1 h2 (by omega)]
  have ho' : op = 20 ∨ op = 21 ∨ op = 22 := by omega
  have hr : read t x = norm t x := by unfold read; rw [eval_23 _ (by omega)]; rfl
  rw [hr, one_eq x ho' c1, one_eq _ ho' c2, one_eq x ho' c3, one_eq _ (.inr (.inr rfl)) c4, one_eq _ (.inr (.inr rfl)) c5, one_eq _ (.inr (.inr rfl)) c6]
  have wz : ∀ o p q, wd o p q Vl.zero = Vl.zero := fun _ _ _ => rfl
  have wa : ∀ o p q, wd o p q any = any := fun _ _ _ => rfl
  have wn : ∀ o p q z, wd o p q (number z) = number (conv o p q z).1 := fun _ _ _ _ => rfl
  have na : ∀ q : Int, 1 ≤ q → q ≤ 64 → norm q any = any := fun q a b => norm_any (by omega)
  rcases norm_cases x (t := t) (by omega) with h | h | h <;> rw [h]
  · simp only [wz, norm_zero]; simp
  · simp only [wa, na u (by omega) (by omega), na w (by omega) (by omega)]; simp
  · generalize x.b = z
    have hp : t.toNat ≤ u.toNat := by omega
    have hq : u.toNat ≤ w.toNat := by omega
    have hpq : t.toNat ≤ w.toNat := by omega
    have e1 : conv op u w ((conv op t u (z % 2 ^ t.toNat)).1 % 2 ^ u.toNat) = conv op t w (z % 2 ^ t.toNat) ∧ (conv op t w (z % 2 ^ t.toNat)).1 % 2 ^ t.toNat = z % 2 ^ t.toNat := by
      rcases ho with rfl | rfl
      · rw [conv20 _ h1 h2 (by omega), conv20 _ (by omega) h3 h4, conv20 _ h1 (by omega) h4]
        simp only [mod_mod' hp, mod_mod' (Nat.le_refl t.toNat), and_self]
      · rw [conv21 _ h1 h2 (by omega), conv21 _ (by omega) h3 h4, conv21 _ h1 (by omega) h4]
        simp only [mod_mod' (Nat.le_refl u.toNat), sgn_of_mod, sgn_wide (show 1 ≤ t.toNat by omega) hp, mod_mod hpq, sgn_mod, and_self]
    simp only [wn, norm_number (t := u) (by omega), norm_number (t := w) (by omega), e1.1]
    rw [conv22 _ h1 (by omega) h4, conv22 _ (by omega) h3 h4, conv22 _ h1 h2 (by omega)]
    simp only [mod_mod hpq, mod_mod hq, mod_mod hp, e1.2]
    simp
end Go.Proofs.Ytdiimckjmggjlaa.Pl
