/- Plain: the reference of Eval is what Eval is. -/
import Derived.Test.YtffimfmicapaaaaR10b
namespace Go.Proofs.Ytffimfmicapaaaa.Pl
open Go.Proofs.Ytffimfmicapaaaa
set_option linter.unusedVariables false
set_option linter.unusedSimpArgs false
set_option maxRecDepth 100000
theorem kind_of {i : Ins} {ws : List Int} (hk : kinds i.op i.t i.n i.f = some ws) {j : Nat} {w : Int} (hw : ws[j]? = some w) : d_latheref10_kind i j = w := by
  have hno : ∀ k : Int, i.op ≠ k → (i.op == k) = false := fun k hk => by simpa using hk
  unfold d_latheref10_kind
  cases (kinds_cases hk).2 with
  | eq h => rw [hno 20 (by omega), hno 21 (by omega), hno 22 (by omega), hno 23 (by omega), hno 29 (by omega)]
            rcases j with _ | _ | j <;> simp at hw <;> simp [hw]
  | two h h' => rw [hno 20 (by omega), hno 21 (by omega), hno 22 (by omega), hno 23 (by omega), hno 29 (by omega)]
                rcases j with _ | _ | j <;> simp at hw <;> simp [hw]
  | conv h h' => 
    rcases j with _ | j <;> simp at hw
    rcases (show i.op = 20 ∨ i.op = 21 ∨ i.op = 22 by omega) with q | q | q <;> rw [q] <;> simp [hw]
  | select h => rw [h]; rcases j with _ | _ | _ | j <;> simp at hw <;> simp [hw] <;> (try omega)
  | freeze h => rw [h]; rcases j with _ | j <;> simp at hw <;> simp [hw]
  | gep h ht => rw [h]; rcases j with _ | _ | j <;> simp at hw <;> simp [hw, ht] <;> (try omega)
theorem row_drop {ws : List Int} {xs : List Vl} (h : ws.length = xs.length) {j : Nat} {w : Int} {x : Vl} (hw : ws[j]? = some w) (hx : xs[j]? = some x) : (row ws xs).take (j + 1) = (row ws xs).take j ++ [norm w x] := by
  rw [List.take_add_one, row_get hw hx]; rfl
theorem loop_row (i : Ins) (p1 : SlD Vl) {ws : List Int} (hk : kinds i.op i.t i.n i.f = some ws) (hl : ws.length = p1.l.length) (hr : ∀ z ∈ p1.l, 0 ≤ z.b ∧ z.b < 18446744073709551616) :
    ∀ (m k j : Nat) (l : List Vl), j + m = p1.l.length → m < k → l = (row ws p1.l).take j → d_latheref10_Eval_R6 i p1 k l j = (row ws p1.l, (p1.l.length : Int))
  | 0, k + 1, j, l, hj, _, hl' => by
    have hjl : j = p1.l.length := by omega
    unfold d_latheref10_Eval_R6
    rw [decide_eq_false (by omega), cond_false, hl', List.take_of_length_le (by rw [row_length hl]; omega), hjl]
  | m + 1, k + 1, j, l, hj, hm, hl' => by
    have hjl : j < p1.l.length := by omega
    unfold d_latheref10_Eval_R6
    rw [decide_eq_true (by omega), cond_true]
    have hx := getD_some (d := (Dat.d : Vl)) hjl
    have hw : ws[j]? = some (ws[j]'(by omega)) := List.getElem?_eq_getElem _
    have e : (j : Int) + 1 = ((j + 1 : Nat) : Int) := by omega
    rw [Int.toNat_natCast, kind_of hk hw, norm_ref (hr _ (getD_mem hjl)), e, loop_row i p1 hk hl hr m k (j + 1) _ (by omega) (by omega) (by rw [hl', row_drop hl hw hx])]
  | m, 0, _, _, _, h, _ => by omega
theorem mask_ref {t : Int} (h : 1 ≤ t ∧ t ≤ 64) : d_latheref01_Mask t = mask t := by
  unfold d_latheref01_Mask
  obtain ⟨n, rfl⟩ := Int.eq_ofNat_of_zero_le (show 0 ≤ t by omega)
  have hw : d_latheref01_width n = true := by rw [width_iff]; exact h
  rw [hw, Bool.not_true, cond_false, cut_eq (by omega) (by omega) (by omega), mask_in (by omega) (by omega)]
  have hp := pow_split (n := n) (by omega)
  have hpi := pow_split_int (n := n) (by omega)
  have hpp : (0 : Int) < 2 ^ n := Int.pow_pos (by decide)
  have hq : (0 : Int) < 2 ^ (64 - n) := Int.pow_pos (by decide)
  have e : (18446744073709551615 : Int) = (2 ^ n - 1) + 2 ^ n * (2 ^ (64 - n) - 1) := by rw [Int.mul_sub, hpi]; omega
  rw [e, Int.add_mul_emod_self_left, Int.emod_eq_of_lt (by omega) (by omega)]
  have := pow_cast n
  have := pow_pos n
  omega
/-- What is made of two numbers. -/
def cl (op t f x y : Int) : Vl × Int := bif (apply op t f x y).2 == 0 then (number (apply op t f x y).1, 0) else bif (apply op t f x y).2 == 1 then (Vl.zero, 0) else (Vl.zero, (apply op t f x y).2)
theorem core_end (op : Int) (n : Nat) (f a b : Int) : (core op n f a b).2 = 0 ∨ (core op n f a b).2 = 1 ∨ (core op n f a b).2 = 2 := by
  rcases Classical.em (4 ≤ op ∧ op ≤ 7) with h | h
  · rw [core_div h.1 h.2]
    unfold div
    split
    · exact .inr (.inr rfl)
    · split
      · rcases divR2 op f (a / b) (a % b) with q | q
        · exact .inl q
        · exact .inr (.inl q)
      · split
        · exact .inr (.inr rfl)
        · rcases divR2 op f ((sgn n a).tdiv (sgn n b)) ((sgn n a).tmod (sgn n b)) with q | q
          · exact .inl q
          · exact .inr (.inl q)
  · rcases core2 (n := n) (f := f) (a := a) (b := b) h with q | q
    · exact .inl q
    · exact .inr (.inl q)
theorem applied_eq {i : Ins} {x y : Int} (hb : badA i.op i.t i.f = false) (hf : -9223372036854775808 ≤ i.f ∧ i.f ≤ 9223372036854775807) (hx : 0 ≤ x ∧ x < 18446744073709551616) (hy : 0 ≤ y ∧ y < 18446744073709551616) :
    d_latheref10_applied i x y = cl i.op i.t i.f x y := by
  unfold d_latheref10_applied cl
  rw [apply_ref hf hx hy]
  have h2 := apply2 (a := x) (b := y) hb
  rcases core_end i.op i.t.toNat i.f (x % 2 ^ i.t.toNat) (y % 2 ^ i.t.toNat) with h | h | h <;> rw [h2, h] <;> rfl
theorem clear_cl {op t n f : Int} {a b : Vl} (h29 : (op == 29) = false) (h20 : decide (20 ≤ op) = false) (h65 : (t == 65) = false) : clear op t n f a b = cl op t f a.b b.b := by
  unfold clear cl; rw [h29, h20, h65]; rfl
theorem norm3 {w : Int} {a : Vl} (h : norm w a = a) : (a.k = 0 → a = Vl.zero) ∧ (a.k = 3 → a = any) ∧ (a.k = 2 → a.b = 0) := by
  unfold norm at h
  split at h
  · rename_i hc; refine ⟨fun q => ?_, fun q => ?_, fun q => ?_⟩ <;> omega
  · split at h
    · rename_i hc; refine ⟨fun q => ?_, fun q => ?_, fun q => by rw [← h]⟩ <;> omega
    · split at h
      · rename_i hc; exact ⟨fun q => by omega, fun _ => h.symm, fun q => by omega⟩
      · have hk : a.k = 0 := by rw [← h]; rfl
        exact ⟨fun _ => h.symm, fun q => by omega, fun q => by omega⟩
theorem made_two {op t n f : Int} {a b : Vl} (h24 : (op == 24) = false) (h23 : (op == 23) = false) : made op t n f [a, b] = bif isDiv op && divisor op t a b != 0 then (Vl.zero, divisor op t a b) else bif (a.k == 0 || b.k == 0) then (Vl.zero, 0) else bif (a.k == 3 || b.k == 3) then (loosely op t f b, 0) else clear op t n f a b := by
  unfold made
  rw [show at_ [a, b] 0 = a from rfl, show at_ [a, b] 1 = b from rfl, h24, h23, any2, any2]; rfl
theorem divided_ref {i : Ins} {a b : Vl} (ho : 4 ≤ i.op ∧ i.op ≤ 7) (hb : badA i.op i.t i.f = false) (ht : 1 ≤ i.t ∧ i.t ≤ 64) (hf : -9223372036854775808 ≤ i.f ∧ i.f ≤ 9223372036854775807) (na : norm i.t a = a) (nb : norm i.t b = b) :
    d_latheref10_divided i a b = made i.op i.t i.n i.f [a, b] := by
  have hno : ∀ k : Int, i.op ≠ k → (i.op == k) = false := fun k hk => by simpa using hk
  have hd : isDiv i.op = true := by unfold isDiv; simp; omega
  have hs : (decide (11 ≤ i.op) && decide (i.op ≤ 13)) = false := by simp; omega
  rw [made_two (hno 24 (by omega)) (hno 23 (by omega)), hd, Bool.true_and]
  have ra := na ▸ norm_range (t := i.t) (v := a)
  have rb := nb ▸ norm_range (t := i.t) (v := b)
  unfold d_latheref10_divided divisor
  rw [mask_ref ht, applied_eq hb hf ra rb, clear_cl (hno 29 (by omega)) (decide_eq_false (by omega)) (by simp; omega)]
  unfold loosely
  rw [hs, Bool.false_and, Bool.false_or]
  have ka : a.k = 0 ∨ a.k = 3 ∨ a.k = 1 := by have := norm_kind na; omega
  have kb : b.k = 0 ∨ b.k = 3 ∨ b.k = 1 := by have := norm_kind nb; omega
  cases hl : (i.op == 5 || i.op == 7) <;> cases hm : (b.b == mask i.t) <;> cases hz : (b.b == 0) <;> cases hff : (i.f != 0) <;>
  rcases ka with q | q | q <;> rcases kb with p | p | p <;> simp only [q, p] <;> first | rfl | (simp; done) | skip
theorem shifted_ref {i : Ins} {a b : Vl} (ho : 11 ≤ i.op ∧ i.op ≤ 13) (hb : badA i.op i.t i.f = false) (ht : 1 ≤ i.t ∧ i.t ≤ 64) (hf : -9223372036854775808 ≤ i.f ∧ i.f ≤ 9223372036854775807) (na : norm i.t a = a) (nb : norm i.t b = b) :
    d_latheref10_shifted i a b = made i.op i.t i.n i.f [a, b] := by
  have hno : ∀ k : Int, i.op ≠ k → (i.op == k) = false := fun k hk => by simpa using hk
  have hd : isDiv i.op = false := by unfold isDiv; simp; omega
  have hs : (decide (11 ≤ i.op) && decide (i.op ≤ 13)) = true := by simp; omega
  rw [made_two (hno 24 (by omega)) (hno 23 (by omega)), hd, Bool.false_and, cond_false]
  have ra := na ▸ norm_range (t := i.t) (v := a)
  have rb := nb ▸ norm_range (t := i.t) (v := b)
  have hcl : decide (IntKind.u64.wrap i.t ≤ b.b) = true → b.k = 1 → cl i.op i.t i.f a.b b.b = (Vl.zero, 0) := fun h hk => by
    have hle : i.t ≤ b.b := by have := of_decide_eq_true h; rwa [wr_small (by omega) (by omega)] at this
    have hbr : b.b % 2 ^ i.t.toNat = b.b := by
      rcases norm_kind nb with q | q | q | q
      · omega
      · omega
      · exact Int.emod_eq_of_lt q.2.2.2.1 q.2.2.2.2
      · omega
    have h2 := apply2 (a := a.b) (b := b.b) hb
    rw [hbr, core_shift (by omega) (by omega)] at h2
    have h3 : (apply i.op i.t i.f a.b b.b).2 = 1 := by
      rw [h2]; unfold shift; rw [if_pos (by omega)]
    unfold cl; rw [h3]; rfl
  unfold d_latheref10_shifted
  rw [applied_eq hb hf ra rb, clear_cl (hno 29 (by omega)) (decide_eq_false (by omega)) (by simp; omega)]
  unfold loosely
  rw [hs, Bool.true_and]
  have ka : a.k = 0 ∨ a.k = 3 ∨ a.k = 1 := by have := norm_kind na; omega
  have kb : b.k = 0 ∨ b.k = 3 ∨ b.k = 1 := by have := norm_kind nb; omega
  cases hw : decide (IntKind.u64.wrap i.t ≤ b.b) <;> cases hff : (i.f != 0) <;>
  rcases ka with q | q | q <;> rcases kb with p | p | p <;> simp only [q, p] <;> first | rfl | (simp; done) | skip
  all_goals (rw [hcl hw p]; rfl)
theorem ptr_wrap (x y : Int) : IntKind.i64.wrap (IntKind.u64.wrap (IntKind.u64.wrap x + y)) = IntKind.i64.wrap (x + IntKind.i64.wrap y) := by
  simp only [IntKind.wrap_u64, IntKind.wrap_i64]; omega
theorem pair_ref {i : Ins} {a b : Vl} {w v : Int} (hk : kinds i.op i.t i.n i.f = some [w, v]) (ho : i.op ≤ 3 ∨ (8 ≤ i.op ∧ i.op ≤ 10) ∨ (14 ≤ i.op ∧ i.op ≤ 19) ∨ i.op = 29) (hf : -9223372036854775808 ≤ i.f ∧ i.f ≤ 9223372036854775807) (na : norm w a = a) (nb : norm v b = b) :
    d_latheref10_pair i a b = made i.op i.t i.n i.f [a, b] := by
  have hno : ∀ k : Int, i.op ≠ k → (i.op == k) = false := fun k hk => by simpa using hk
  have hd : isDiv i.op = false := by unfold isDiv; simp; omega
  have hs : (decide (11 ≤ i.op) && decide (i.op ≤ 13)) = false := by simp; omega
  have ra := na ▸ norm_range (t := w) (v := a)
  have rb := nb ▸ norm_range (t := v) (v := b)
  rw [made_two (hno 24 (by omega)) (hno 23 (by omega)), hd, Bool.false_and, cond_false]
  unfold d_latheref10_pair loosely
  rw [hs, Bool.false_and, Bool.false_or]
  cases h0 : (a.k == 0 || b.k == 0)
  · cases h3 : (a.k == 3 || b.k == 3)
    · simp only [cond_false]
      simp only [Bool.or_eq_false_iff, beq_eq_false_iff_ne, ne_eq] at h0 h3
      cases h29 : (i.op == 29)
      · simp only [cond_false]
        have h29' : ¬ i.op = 29 := by simpa using h29
        have h20 : decide (20 ≤ i.op) = false := decide_eq_false (by omega)
        rcases Classical.em (i.t = 65) with h65 | h65
        · have hw : w = 65 ∧ v = 65 := by
            have h1 := kinds_len hk
            cases (kinds_cases hk).2 <;> omega
          obtain ⟨rfl, rfl⟩ := hw
          have ka : a.k = 2 := by have := norm_kind na; omega
          have kb : b.k = 2 := by have := norm_kind nb; omega
          have za := (norm3 na).2.2 ka
          have zb := (norm3 nb).2.2 kb
          unfold clear
          rw [h29, h20, show (i.t == 65) = true by simpa using h65]
          simp only [cond_false, cond_true]
          have e : decide (a = b) = (a.bl == b.bl && a.off == b.off) := by
            obtain ⟨a1, a2, a3, a4⟩ := a
            obtain ⟨b1, b2, b3, b4⟩ := b
            simp only at ka kb za zb
            subst ka kb za zb
            rw [Bool.eq_iff_iff]; simp
          rw [e]
          unfold d_latheref10_truth d_latheref10_number number
          cases ((a.bl == b.bl && a.off == b.off) == (i.op == 14)) <;> rfl
        · have hb := (kinds_bad hk (by omega) h65).1
          rw [show (i.t == 65) = false by simpa using h65, cond_false, applied_eq hb hf ra rb, clear_cl h29 h20 (by simpa using h65)]
      · simp only [cond_true]
        have hw : w = 65 ∧ v = 64 := by
          have h29' : i.op = 29 := by simpa using h29
          cases (kinds_cases hk).2 <;> omega
        obtain ⟨rfl, rfl⟩ := hw
        have ka : a.k = 2 := by have := norm_kind na; omega
        have za := (norm3 na).2.2 ka
        unfold clear
        rw [h29, cond_true, ka, za, ptr_wrap]
    · simp only [cond_false, cond_true]
      cases (i.f != 0) <;> rfl
  · rfl
theorem evalref_eq (i : Ins) (xs : SlD Vl) (hf : -9223372036854775808 ≤ i.f ∧ i.f ≤ 9223372036854775807) (hr : ∀ z ∈ xs.l, 0 ≤ z.b ∧ z.b < 18446744073709551616) : d_latheref10_Eval i xs = eval i.op i.t i.n i.f xs.l := by
  unfold d_latheref10_Eval
  rw [such_eq]
  unfold suchB
  cases hk : kinds i.op i.t i.n i.f with
  | none => unfold eval; rw [hk]; rfl
  | some ws =>
    simp only
    cases hl : ((xs.l.length : Int) == (ws.length : Int))
    · unfold eval; rw [hk]
      have : (ws.length != xs.l.length) = true := by simp at hl ⊢; omega
      simp only
      rw [this]; rfl
    · have hl' : ws.length = xs.l.length := by simp at hl; omega
      rw [Bool.not_true, cond_false, eval_made hk hl']
      have hloop := loop_row i xs hk hl' hr xs.l.length (((xs.l.length : Int) - 0).toNat + 1) 0 [] (by omega) (by omega) rfl
      rw [Int.natCast_zero] at hloop
      rw [letV_eq hloop]
      simp only
      have hrl := row_length hl'
      have hnn : ∀ (j : Nat) (w : Int), ws[j]? = some w → norm w ((row ws xs.l).getD j Dat.d) = (row ws xs.l).getD j Dat.d := fun j w hw => by
        have hj := (List.getElem?_eq_some_iff.1 hw).1
        have hx : xs.l[j]? = some (xs.l[j]'(by omega)) := List.getElem?_eq_getElem _
        rw [List.getD_eq_getElem?_getD, row_get hw hx]
        exact norm_norm _ _
      generalize hR : row ws xs.l = R at *
      have hbad := kinds_bad hk
      have hno : ∀ k : Int, i.op ≠ k → (i.op == k) = false := fun k hk => by simpa using hk
      have hfl := kinds_len hk
      have one : ws.length = 1 → ∃ a, R = [a] := fun h => one_of (by omega)
      have two : ws.length = 2 → ∃ a b, R = [a, b] := fun h => two_of (by omega)
      have hpair : ∀ a b w v, R = [a, b] → ws = [w, v] → (i.op ≤ 3 ∨ (8 ≤ i.op ∧ i.op ≤ 10) ∨ (14 ≤ i.op ∧ i.op ≤ 19) ∨ i.op = 29) → ((d_latheref10_pair i a b).1, (d_latheref10_pair i a b).2) = made i.op i.t i.n i.f R := fun a b w v hRe hwe ho => by
        subst hRe hwe
        exact pair_ref hk ho hf (hnn 0 w rfl) (hnn 1 v rfl)
      cases hkc : (kinds_cases hk).2 with
      | eq h h1 h2 =>
        obtain ⟨a, b, rfl⟩ := two rfl
        rw [hno 4 (by omega), hno 5 (by omega), hno 6 (by omega), hno 7 (by omega), hno 11 (by omega), hno 12 (by omega), hno 13 (by omega), hno 20 (by omega), hno 21 (by omega), hno 22 (by omega), hno 23 (by omega), hno 24 (by omega)]
        exact hpair a b _ _ rfl rfl (by omega)
      | two h h' h'' h1 h2 =>
        obtain ⟨a, b, rfl⟩ := two rfl
        have hb := (hbad h' (by omega)).1
        rw [hno 20 (by omega), hno 21 (by omega), hno 22 (by omega), hno 23 (by omega), hno 24 (by omega)]
        rcases (show i.op ≤ 3 ∨ (4 ≤ i.op ∧ i.op ≤ 7) ∨ (8 ≤ i.op ∧ i.op ≤ 10) ∨ (11 ≤ i.op ∧ i.op ≤ 13) ∨ 14 ≤ i.op by omega) with q | q | q | q | q
        · rw [hno 4 (by omega), hno 5 (by omega), hno 6 (by omega), hno 7 (by omega), hno 11 (by omega), hno 12 (by omega), hno 13 (by omega)]
          exact hpair a b _ _ rfl rfl (by omega)
        · have hdv := divided_ref (a := a) (b := b) q hb ⟨h1, h2⟩ hf (hnn 0 i.t rfl) (hnn 1 i.t rfl)
          rw [← hdv]
          rcases (show i.op = 4 ∨ i.op = 5 ∨ i.op = 6 ∨ i.op = 7 by omega) with e | e | e | e <;> simp only [e] <;> rfl
        · rw [hno 4 (by omega), hno 5 (by omega), hno 6 (by omega), hno 7 (by omega), hno 11 (by omega), hno 12 (by omega), hno 13 (by omega)]
          exact hpair a b _ _ rfl rfl (by omega)
        · have hsh := shifted_ref (a := a) (b := b) q hb ⟨h1, h2⟩ hf (hnn 0 i.t rfl) (hnn 1 i.t rfl)
          rw [← hsh]
          rcases (show i.op = 11 ∨ i.op = 12 ∨ i.op = 13 by omega) with e | e | e <;> simp only [e] <;> rfl
        · rw [hno 4 (by omega), hno 5 (by omega), hno 6 (by omega), hno 7 (by omega), hno 11 (by omega), hno 12 (by omega), hno 13 (by omega)]
          exact hpair a b _ _ rfl rfl (by omega)
      | gep h ht =>
        obtain ⟨a, b, rfl⟩ := two rfl
        rw [hno 4 (by omega), hno 5 (by omega), hno 6 (by omega), hno 7 (by omega), hno 11 (by omega), hno 12 (by omega), hno 13 (by omega), hno 20 (by omega), hno 21 (by omega), hno 22 (by omega), hno 23 (by omega), hno 24 (by omega)]
        exact hpair a b _ _ rfl rfl (by omega)
      | select h h1 h2 =>
        obtain ⟨a, b, c, rfl⟩ := three_of (show R.length = 3 by rw [hrl, ← hl']; rfl)
        rw [h]
        show (d_latheref10_chosen a b c, (0 : Int)) = _
        rfl
      | freeze h h1 h2 =>
        obtain ⟨a, rfl⟩ := one rfl
        rw [h]
        show (bif a.k == 0 then (d_latheref10_Any, (0 : Int)) else (a, 0)) = made 24 i.t i.n i.f [a]
        unfold made
        rw [any1]
        cases (a.k == 0) <;> rfl
      | conv h h' hc h1 h2 =>
        obtain ⟨a, rfl⟩ := one rfl
        have na : norm i.n a = a := hnn 0 i.n rfl
        have ra := na ▸ norm_range (t := i.n) (v := a)
        have hf0 : i.f = 0 := by
          have := (kinds_noflags hk).2
          have hz : flags i.op = 0 := by unfold flags; rw [if_neg (by omega), if_neg (by omega)]
          rw [hz] at this
          exact flags0 hf.1 hf.2 this
        have hm : made i.op i.t i.n i.f [a] = bif a.k == 0 then (Vl.zero, 0) else bif a.k == 3 then (any, 0) else (number (conv i.op i.n i.t a.b).1, 0) := by
          have hd : isDiv i.op = false := by unfold isDiv; simp; omega
          have hs : (decide (11 ≤ i.op) && decide (i.op ≤ 13)) = false := by simp; omega
          unfold made loosely clear
          rw [hd, hno 24 (by omega), hno 23 (by omega), hno 29 (by omega), any1, any1, hs, hf0, decide_eq_true (show 20 ≤ i.op by omega)]
          rfl
        rw [hm]
        have hcv : (bif a.k != 1 then (a, (0 : Int)) else (d_latheref10_number (d_latheref01_Convert i.op i.n i.t a.b).1, 0)) = bif a.k == 0 then (Vl.zero, 0) else bif a.k == 3 then (any, 0) else (number (conv i.op i.n i.t a.b).1, 0) := by
          rw [conv_ref ra]
          have ka : a.k = 0 ∨ a.k = 3 ∨ a.k = 1 := by have := norm_kind na; omega
          rcases ka with q | q | q
          · rw [(norm3 na).1 q]; rfl
          · rw [(norm3 na).2.1 q]; rfl
          · rw [q]; rfl
        rw [← hcv, hno 4 (by omega), hno 5 (by omega), hno 6 (by omega), hno 7 (by omega), hno 11 (by omega), hno 12 (by omega), hno 13 (by omega), hno 23 (by omega), hno 24 (by omega)]
        rcases (show i.op = 20 ∨ i.op = 21 ∨ i.op = 22 by omega) with e | e | e <;> simp only [e] <;> rfl
end Go.Proofs.Ytffimfmicapaaaa.Pl
