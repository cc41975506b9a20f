/- Plain: the laws of layer 10. -/
import Derived.Test.YtffimfmicapaaaaPlF
namespace Go.Proofs.Ytffimfmicapaaaa.Pl
def better (v w : Vl) : Bool := v.k == 0 || v.k == 3 && w.k != 0 || decide (v = w)
theorem better_refl (v : Vl) : better v v = true := by unfold better; simp
theorem better_zero (v : Vl) : better Vl.zero v = true := rfl
def read (t : Int) (v : Vl) : Vl := bif (eval 23 t 0 0 [⟨1, 1, 0, 0⟩, v, Vl.zero]).2 != 0 then Vl.zero else (eval 23 t 0 0 [⟨1, 1, 0, 0⟩, v, Vl.zero]).1
def types (op t n : Int) : List Int := bif op == 20 || op == 21 || op == 22 then [n] else bif op == 23 then [1, t, t] else bif op == 29 then [65, 64] else [t, t]
/-! ## Without flags -/
theorem andNot0 (op : Int) : bits .andNot .i64 0 (flags op) = 0 := by
  unfold flags
  repeat' split
  all_goals decide
theorem kinds_noflags {op t n f : Int} {ws : List Int} (h : kinds op t n f = some ws) : kinds op t n 0 = some ws ∧ bits .andNot .i64 f (flags op) = 0 := by
  unfold kinds at h ⊢
  rw [andNot0]
  cases c : (bits .andNot .i64 f (flags op) != 0) with
  | true => rw [c] at h; cases h
  | false =>
    rw [c] at h
    exact ⟨h, by simpa using c⟩
theorem over0 (n : Nat) (E S : Int) : over n 0 E S = false := by
  have h1 : nuw 0 = false := by decide
  have h2 : nsw 0 = false := by decide
  unfold over; rw [h1, h2]; rfl
theorem core_noflags (op : Int) (n : Nat) (f a b : Int) : core op n f a b = core op n 0 a b ∨ (core op n f a b).2 = 1 ∧ (core op n 0 a b).2 = 0 := by
  have hr : ∀ q r, divR op f q r = divR op 0 q r ∨ (divR op f q r).2 = 1 ∧ (divR op 0 q r).2 = 0 := fun q r => by
    unfold divR
    repeat' split
    all_goals simp_all
  unfold core
  split
  · unfold ring
    rw [over0]
    cases over n f (opI op a b) (opI op (sgn n a) (sgn n b)) <;> simp
  · split
    · unfold div
      repeat' split
      · exact .inl rfl
      · exact hr _ _
      · exact .inl rfl
      · exact hr _ _
    · split
      · exact .inl rfl
      · split
        · unfold shift
          rw [over0]
          repeat' split
          · exact .inl rfl
          · cases over n f (a * 2 ^ b.toNat) (sgn n a * 2 ^ b.toNat) <;> simp
          · have : ((0 : Int) == 4 && a % 2 ^ b.toNat != 0) = false := by simp
            rw [this]
            cases (f == 4 && a % 2 ^ b.toNat != 0) <;> simp
          · have : ((0 : Int) == 4 && a % 2 ^ b.toNat != 0) = false := by simp
            rw [this]
            cases (f == 4 && a % 2 ^ b.toNat != 0) <;> simp
        · exact .inl rfl
theorem cutR_2 (n : Nat) (p : Int × Int) : (cutR n p).2 = p.2 := by
  unfold cutR
  cases h : (p.2 != 0)
  · simp at h; exact h.symm
  · rfl
theorem apply_noflags {op w f a b : Int} (hf : bits .andNot .i64 f (flags op) = 0) : apply op w f a b = apply op w 0 a b ∨ (apply op w f a b).2 = 1 ∧ (apply op w 0 a b).2 = 0 := by
  have hb : badA op w f = badA op w 0 := by unfold badA; rw [hf, andNot0]
  unfold apply
  rw [hb]
  cases badA op w 0
  · simp only [cond_false]
    rcases core_noflags op w.toNat f (a % 2 ^ w.toNat) (b % 2 ^ w.toNat) with h | ⟨h1, h2⟩
    · rw [h]; exact .inl rfl
    · exact .inr ⟨by rw [cutR_2, h1], by rw [cutR_2, h2]⟩
  · exact .inl rfl
theorem flags_better {p q : Vl × Int} (h : p = q ∨ p = (Vl.zero, 0) ∧ q.2 = 0) : (p.2 == q.2 && (p.2 != 0 || better p.1 q.1)) = true := by
  rcases h with rfl | ⟨rfl, h⟩
  · rw [better_refl]; simp
  · rw [h, better_zero]; rfl
theorem clear_noflags {op t n f : Int} {a b : Vl} (hf : bits .andNot .i64 f (flags op) = 0) : clear op t n f a b = clear op t n 0 a b ∨ clear op t n f a b = (Vl.zero, 0) ∧ (clear op t n 0 a b).2 = 0 := by
  unfold clear
  cases op == 29
  · cases decide (20 ≤ op)
    · cases t == 65
      · simp only [cond_false]
        rcases apply_noflags (w := t) (a := a.b) (b := b.b) hf with h | ⟨h1, h2⟩
        · rw [h]; exact .inl rfl
        · rw [h1, h2]; exact .inr ⟨rfl, rfl⟩
      · exact .inl rfl
    · exact .inl rfl
  · exact .inl rfl
theorem loosely_noflags (op t f : Int) (b : Vl) : loosely op t f b = loosely op t 0 b ∨ loosely op t f b = Vl.zero := by
  rcases Classical.em (f = 0) with rfl | h
  · exact .inl rfl
  · refine .inr ?_
    unfold loosely
    have : (f != 0) = true := by simpa using h
    rw [this, Bool.or_true]; rfl
theorem made_noflags {op t n f : Int} {l : List Vl} (hf : bits .andNot .i64 f (flags op) = 0) : made op t n f l = made op t n 0 l ∨ made op t n f l = (Vl.zero, 0) ∧ (made op t n 0 l).2 = 0 := by
  unfold made
  cases isDiv op && divisor op t (at_ l 0) (at_ l 1) != 0
  · cases op == 24
    · cases op == 23
      · cases l.any (·.k == 0)
        · cases l.any (·.k == 3)
          · exact clear_noflags hf
          · simp only [cond_false, cond_true]
            rcases loosely_noflags op t f (at_ l 1) with h | h
            · rw [h]; exact .inl rfl
            · rw [h]; exact .inr ⟨rfl, trivial⟩
        · exact .inl rfl
      · exact .inl rfl
    · exact .inl rfl
  · exact .inl rfl
theorem eval_some {op t n f : Int} {xs : List Vl} (h : ((eval op t n f xs).2 == 3) = false) : ∃ ws, kinds op t n f = some ws ∧ ws.length = xs.length := by
  unfold eval at h
  cases hk : kinds op t n f with
  | none => rw [hk] at h; cases h
  | some ws =>
    rw [hk] at h
    simp only at h
    refine ⟨ws, rfl, ?_⟩
    cases hl : (ws.length != xs.length)
    · simpa using hl
    · rw [hl] at h; cases h
theorem flags_law {op t n f : Int} {xs : List Vl} (h : ((eval op t n f xs).2 == 3) = false) :
    ((eval op t n f xs).2 == (eval op t n 0 xs).2 && ((eval op t n f xs).2 != 0 || better (eval op t n f xs).1 (eval op t n 0 xs).1)) = true := by
  obtain ⟨ws, hk, hl⟩ := eval_some h
  obtain ⟨hk0, hf⟩ := kinds_noflags hk
  rw [eval_made hk hl, eval_made hk0 hl]
  exact flags_better (made_noflags hf)
/-! ## Order -/
theorem bits_comm (op : Int) {a b : Int} (ha : Rg a) (hb : Rg b) : bitw op a b = bitw op b a := by
  obtain ⟨x, rfl⟩ := Int.eq_ofNat_of_zero_le ha.1
  obtain ⟨y, rfl⟩ := Int.eq_ofNat_of_zero_le hb.1
  have hx := ha.2
  have hy := hb.2
  unfold bitw
  rw [u64_and_nat x y (by omega) (by omega), u64_or_nat x y (by omega) (by omega), u64_xor_nat x y (by omega) (by omega), u64_and_nat y x (by omega) (by omega), u64_or_nat y x (by omega) (by omega), u64_xor_nat y x (by omega) (by omega),
    Nat.and_comm, Nat.or_comm, Nat.xor_comm]
def comm (op : Int) : Bool := op == 1 || op == 3 || op == 8 || op == 9 || op == 10 || op == 14 || op == 15
theorem comm_cases {op : Int} (h : comm op = true) : op = 1 ∨ op = 3 ∨ op = 8 ∨ op = 9 ∨ op = 10 ∨ op = 14 ∨ op = 15 := by
  unfold comm at h; simp at h; omega
theorem core_comm {op : Int} {n : Nat} {f a b : Int} (h : comm op = true) (ha : Rg a) (hb : Rg b) : core op n f a b = core op n f b a := by
  have e1 : ∀ x y, opI 1 x y = opI 1 y x := fun x y => Int.add_comm _ _
  have e3 : ∀ x y, opI 3 x y = opI 3 y x := fun x y => Int.mul_comm _ _
  rcases comm_cases h with rfl | rfl | rfl | rfl | rfl | rfl | rfl
  · rw [core_ring (by omega), core_ring (by omega)]; unfold ring; rw [e1 a b, e1 (sgn n a)]
  · rw [core_ring (by omega), core_ring (by omega)]; unfold ring; rw [e3 a b, e3 (sgn n a)]
  · rw [core_bit (by omega) (by omega), core_bit (by omega) (by omega), bits_comm _ ha hb]
  · rw [core_bit (by omega) (by omega), core_bit (by omega) (by omega), bits_comm _ ha hb]
  · rw [core_bit (by omega) (by omega), core_bit (by omega) (by omega), bits_comm _ ha hb]
  · rw [core_cmp (by omega), core_cmp (by omega)]; unfold cmp; rw [if_pos rfl, if_pos rfl, Bool.beq_comm]
  · rw [core_cmp (by omega), core_cmp (by omega)]; unfold cmp; rw [if_neg (by omega), if_pos rfl, if_neg (by omega), if_pos rfl, bne_comm]
theorem apply_comm {op w f a b : Int} (h : comm op = true) : apply op w f a b = apply op w f b a := by
  unfold apply
  cases hb : badA op w f
  · obtain ⟨⟨n, rfl, h1, h2⟩, _⟩ := goodA hb
    simp only [cond_false, Int.toNat_natCast]
    rw [core_comm h (mod_rg h2 a) (mod_rg h2 b)]
  · rfl
theorem clear_comm {op t n f : Int} {a b : Vl} (h : comm op = true) : clear op t n f a b = clear op t n f b a := by
  have hc := comm_cases h
  have h29 : (op == 29) = false := by simp; omega
  have h20 : decide (20 ≤ op) = false := by simp; omega
  unfold clear
  rw [h29, h20, apply_comm (a := a.b) (b := b.b) h, show decide (a = b) = decide (b = a) by rw [decide_eq_decide]; exact eq_comm]
  rfl
theorem kinds_comm {op t n f : Int} {ws : List Int} (h : comm op = true) (hk : kinds op t n f = some ws) : ws = [t, t] := by
  have hc := comm_cases h
  unfold kinds at hk
  revert hk
  simp only [Bool.cond_eq_ite]
  repeat' split
  all_goals intro hk
  all_goals first | (cases hk; done) | skip
  all_goals (cases hk; first | rfl | (simp at *; omega))
theorem made_comm {op t n f : Int} {a b : Vl} (h : comm op = true) : made op t n f [a, b] = made op t n f [b, a] := by
  have hc := comm_cases h
  have hd : isDiv op = false := by unfold isDiv; simp; omega
  have h24 : (op == 24) = false := by simp; omega
  have h23 : (op == 23) = false := by simp; omega
  have hs : (decide (11 ≤ op) && decide (op ≤ 13)) = false := by simp; omega
  have hany : ∀ q : Int, [a, b].any (·.k == q) = [b, a].any (·.k == q) := fun q => by simp [Bool.or_comm]
  unfold made loosely
  rw [hd, h24, h23, hany 0, hany 3, hs]
  simp only [Bool.false_and, cond_false, at_]
  rw [show clear op t n f ([a, b].getD 0 Vl.zero) ([a, b].getD 1 Vl.zero) = clear op t n f ([b, a].getD 0 Vl.zero) ([b, a].getD 1 Vl.zero) from clear_comm h]
theorem eval_comm {op t n f : Int} {x y : Vl} (h : comm op = true) : eval op t n f [x, y] = eval op t n f [y, x] := by
  unfold eval
  cases hk : kinds op t n f with
  | none => rfl
  | some ws =>
    obtain rfl := kinds_comm h hk
    exact made_comm h
theorem commute_law {op t n f : Int} {x y : Vl} {p q : Vl × Int} (hp : p = eval op t n f [x, y]) (hq : q = eval op t n f [y, x]) (h : comm op = true) : (decide (p.1 = q.1) && p.2 == q.2) = true := by
  rw [hp, hq, eval_comm h]; simp
/-! ## Freezing -/
theorem norm_any {t : Int} (h : 1 ≤ t ∧ t ≤ 65) : norm t any = any := by
  have hc : 0 < count t := by unfold count; repeat' split
                              all_goals omega
  unfold norm any; simp [hc]
theorem count_pos {t : Int} (h : 1 ≤ t ∧ t ≤ 64) : 0 < count t := by unfold count; rw [if_neg (by omega), if_pos h]; omega
theorem norm_norm (t : Int) (v : Vl) : norm t (norm t v) = norm t v := by
  rcases Classical.em (v.k = 1 ∧ ¬ mask t = 0) with h | h
  · have e : norm t v = ⟨1, v.b % 2 ^ t.toNat, 0, 0⟩ := if_pos h
    rw [e]
    unfold norm
    rw [if_pos ⟨rfl, h.2⟩, Int.emod_emod_of_dvd _ (Int.dvd_refl _)]
  · rcases Classical.em (v.k = 2 ∧ t = 65) with h2 | h2
    · have e : norm t v = ⟨2, 0, v.bl, v.off⟩ := by unfold norm; rw [if_neg h, if_pos h2]
      rw [e]; unfold norm; rw [if_neg (by simp), if_pos ⟨rfl, h2.2⟩]
    · rcases Classical.em (v.k = 3 ∧ 0 < count t) with h3 | h3
      · have e : norm t v = ⟨3, 0, 0, 0⟩ := by unfold norm; rw [if_neg h, if_neg h2, if_pos h3]
        rw [e]; unfold norm; rw [if_neg (by simp), if_neg (by simp), if_pos ⟨rfl, h3.2⟩]
      · have e : norm t v = Vl.zero := by unfold norm; rw [if_neg h, if_neg h2, if_neg h3]
        rw [e]; unfold norm Vl.zero; simp
theorem kinds_24 {t : Int} : kinds 24 t 0 0 = bif decide (1 ≤ t) && decide (t ≤ 64) || t == 65 then some [t] else none := rfl
theorem kinds_23 {t : Int} : kinds 23 t 0 0 = bif decide (1 ≤ t) && decide (t ≤ 64) || t == 65 then some [1, t, t] else none := rfl
theorem whole {t : Int} (h : 1 ≤ t ∧ t ≤ 65) : (decide (1 ≤ t) && decide (t ≤ 64) || t == 65) = true := by simp; omega
theorem whole_not {t : Int} (h : ¬ (1 ≤ t ∧ t ≤ 65)) : (decide (1 ≤ t) && decide (t ≤ 64) || t == 65) = false := by simp; omega
theorem eval_24 {t : Int} (v : Vl) (h : 1 ≤ t ∧ t ≤ 65) : eval 24 t 0 0 [v] = (bif (norm t v).k == 0 then any else norm t v, 0) := by
  unfold eval
  rw [kinds_24, whole h]
  show made 24 t 0 0 [norm t v] = _
  unfold made
  have e : [norm t v].any (·.k == 0) = ((norm t v).k == 0) := by simp
  rw [e]
  cases (norm t v).k == 0 <;> rfl
theorem eval_24_not {t : Int} (v : Vl) (h : ¬ (1 ≤ t ∧ t ≤ 65)) : eval 24 t 0 0 [v] = (Vl.zero, 3) := by
  unfold eval; rw [kinds_24, whole_not h]; rfl
theorem norm1 : norm 1 ⟨1, 1, 0, 0⟩ = ⟨1, 1, 0, 0⟩ := by decide
theorem eval_23 {t : Int} (v : Vl) (h : 1 ≤ t ∧ t ≤ 65) : eval 23 t 0 0 [⟨1, 1, 0, 0⟩, v, Vl.zero] = (norm t v, 0) := by
  unfold eval
  rw [kinds_23, whole h]
  show made 23 t 0 0 [norm 1 ⟨1, 1, 0, 0⟩, norm t v, norm t Vl.zero] = _
  rw [norm1]
  rfl
theorem eval_23_not {t : Int} (v : Vl) (h : ¬ (1 ≤ t ∧ t ≤ 65)) : eval 23 t 0 0 [⟨1, 1, 0, 0⟩, v, Vl.zero] = (Vl.zero, 3) := by
  unfold eval; rw [kinds_23, whole_not h]; rfl
theorem freeze_law {t : Int} {v : Vl} {p q r : Vl × Int} (h : 1 ≤ t ∧ t ≤ 65) (hp : p = eval 24 t 0 0 [v]) (hq : q = eval 24 t 0 0 [p.1]) (hr : r = eval 23 t 0 0 [⟨1, 1, 0, 0⟩, v, Vl.zero]) :
    (p.2 == 0 && q.2 == 0 && r.2 == 0 && p.1.k != 0 && decide (p.1 = q.1) && (r.1.k != 0 || p.1.k == 3) && (r.1.k == 0 || decide (r.1 = p.1))) = true := by
  rw [eval_24 _ h] at hp hq
  rw [eval_23 _ h] at hr
  subst hp hr
  cases hk : (norm t v).k == 0 with
  | true =>
    rw [hk] at hq
    simp only [cond_true, norm_any h] at hq
    subst hq
    simp at hk
    simp [hk, any]
  | false =>
    rw [hk] at hq
    simp only [cond_false, norm_norm, hk] at hq
    subst hq
    simp at hk
    simp [hk]
end Go.Proofs.Ytffimfmicapaaaa.Pl
