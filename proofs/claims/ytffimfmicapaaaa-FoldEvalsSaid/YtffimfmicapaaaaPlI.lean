/- Plain: better values make a better value. -/
import Derived.Test.YtffimfmicapaaaaPlG
namespace Go.Proofs.Ytffimfmicapaaaa.Pl
def Bt (a b : Vl) : Prop := a.k = 0 ∨ (a.k = 3 ∧ b.k ≠ 0) ∨ a = b
theorem better_iff {a b : Vl} : better a b = true ↔ Bt a b := by
  unfold better Bt
  simp only [Bool.or_eq_true, Bool.and_eq_true, beq_iff_eq, bne_iff_ne, decide_eq_true_eq]
  constructor
  · rintro ((h | h) | h)
    · exact .inl h
    · exact .inr (.inl h)
    · exact .inr (.inr h)
  · rintro (h | h | h)
    · exact .inl (.inl h)
    · exact .inl (.inr h)
    · exact .inr h
theorem conv_in {p q v op : Int} (h : (conv op p q v).2 = true) : 1 ≤ p ∧ p ≤ 64 ∧ 1 ≤ q ∧ q ≤ 64 := by
  unfold conv at h
  split at h
  · cases h
  · rename_i hm
    have h1 := mt mask_zero.2 (fun e => hm (.inl e))
    have h2 := mt mask_zero.2 (fun e => hm (.inr e))
    omega
inductive Kinds (op t n : Int) : List Int → Prop
  | eq (h : op = 14 ∨ op = 15) (h1 : 1 ≤ t) (h2 : t ≤ 65) : Kinds op t n [t, t]
  | two (h : 1 ≤ op) (h' : op ≤ 19) (h'' : op ≠ 14 ∧ op ≠ 15) (h1 : 1 ≤ t) (h2 : t ≤ 64) : Kinds op t n [t, t]
  | conv (h : 20 ≤ op) (h' : op ≤ 22) (hc : (conv op n t 0).2 = true) (h1 : 1 ≤ n) (h2 : n ≤ 64) : Kinds op t n [n]
  | select (h : op = 23) (h1 : 1 ≤ t) (h2 : t ≤ 65) : Kinds op t n [1, t, t]
  | freeze (h : op = 24) (h1 : 1 ≤ t) (h2 : t ≤ 65) : Kinds op t n [t]
  | gep (h : op = 29) (h1 : t = 65) : Kinds op t n [65, 64]
theorem kinds_cases {op t n f : Int} {ws : List Int} (h : kinds op t n f = some ws) : bits .andNot .i64 f (flags op) = 0 ∧ Kinds op t n ws := by
  refine ⟨(kinds_noflags h).2, ?_⟩
  have hl := kinds_len h
  revert h
  unfold kinds
  simp only [Bool.cond_eq_ite, beq_iff_eq, bne_iff_ne, Bool.or_eq_true, Bool.and_eq_true, decide_eq_true_eq]
  (repeat' split) <;> intro h
  all_goals first | (cases h; done) | skip
  all_goals cases h
  · exact .eq (by omega) (by omega) (by omega)
  · exact .two (by omega) (by omega) (by omega) (by omega) (by omega)
  · rename_i hc
    have := conv_in hc
    exact .conv (by omega) (by omega) hc (by omega) (by omega)
  · exact .select (by omega) (by omega) (by omega)
  · exact .freeze (by omega) (by omega) (by omega)
  · exact .gep (by omega) (by omega)
theorem kinds_types {op t n f : Int} {ws : List Int} (h : kinds op t n f = some ws) : ∀ (i : Nat) (w : Int), ws[i]? = some w → (types op t n)[i]? = some w ∧ 1 ≤ w ∧ w ≤ 65 := by
  have key : ∃ r, types op t n = ws ++ r := by
    unfold types
    have hk := (kinds_cases h).2
    clear h
    cases hk with
    | eq h => rcases h with rfl | rfl <;> exact ⟨[], rfl⟩
    | two h h' h'' => rw [show (op == 20 || op == 21 || op == 22) = false by simp; omega, show (op == 23) = false by simp; omega, show (op == 29) = false by simp; omega]; exact ⟨[], rfl⟩
    | conv h h' => rw [show (op == 20 || op == 21 || op == 22) = true by simp; omega]; exact ⟨[], rfl⟩
    | select h => subst h; exact ⟨[], rfl⟩
    | freeze h => subst h; exact ⟨[t], rfl⟩
    | gep h => subst h; exact ⟨[], rfl⟩
  have hr : ∀ w ∈ ws, 1 ≤ w ∧ w ≤ 65 := by
    cases (kinds_cases h).2 <;> intro w hw <;> simp at hw <;> omega
  obtain ⟨r, e⟩ := key
  intro i w hw
  refine ⟨?_, hr w (List.mem_of_getElem? hw)⟩
  rw [e, List.getElem?_append_left (List.getElem?_eq_some_iff.1 hw).1]
  exact hw
theorem wr_small {t : Int} (h : 0 ≤ t) (h' : t ≤ 65) : IntKind.u64.wrap t = t := by rw [IntKind.wrap_u64]; omega
theorem mask_ne' {t : Int} (h : 1 ≤ t ∧ t ≤ 64) : ¬ mask t = 0 := fun e => absurd (mask_zero.1 e) (not_not_intro h)
theorem read_eq {t : Int} {v : Vl} (h : 1 ≤ t ∧ t ≤ 65) : read t v = norm t v := by
  unfold read; rw [eval_23 v h]; rfl
/-- The kinds of a value that is read as one of a type. -/
theorem norm_kind {w : Int} {a : Vl} (h : norm w a = a) : a.k = 0 ∨ a.k = 3 ∨ (a.k = 1 ∧ 1 ≤ w ∧ w ≤ 64 ∧ 0 ≤ a.b ∧ a.b < 2 ^ w.toNat) ∨ (a.k = 2 ∧ w = 65) := by
  unfold norm at h
  split at h
  · rename_i hm
    have hw : 1 ≤ w ∧ w ≤ 64 := by
      rcases Classical.em (1 ≤ w ∧ w ≤ 64) with q | q
      · exact q
      · exact absurd (mask_zero.2 q) hm.2
    have hr := mod_range w.toNat a.b
    have hb : a.b = a.b % 2 ^ w.toNat := by have := congrArg Vl.b h; simpa using this.symm
    rw [← hb] at hr
    exact .inr (.inr (.inl ⟨hm.1, hw.1, hw.2, hr⟩))
  · split at h
    · rename_i h2; exact .inr (.inr (.inr h2))
    · split at h
      · rename_i h3; exact .inr (.inl h3.1)
      · left; rw [← h]; rfl
theorem core2 {op : Int} {n : Nat} {f a b : Int} (h : ¬ (4 ≤ op ∧ op ≤ 7)) : (core op n f a b).2 = 0 ∨ (core op n f a b).2 = 1 := by
  unfold core
  split
  · unfold ring; cases over n f (opI op a b) (opI op (sgn n a) (sgn n b)) <;> simp
  · split
    · omega
    · split
      · exact .inl rfl
      · split
        · unfold shift
          split
          · exact .inr rfl
          · split
            · cases over n f (a * 2 ^ b.toNat) (sgn n a * 2 ^ b.toNat) <;> simp
            · cases (f == 4 && a % 2 ^ b.toNat != 0)
              · left; simp only [cond_false]; split <;> rfl
              · exact .inr rfl
        · exact .inl rfl
theorem core2_0 {op : Int} {n : Nat} {a b : Int} (h : ¬ (4 ≤ op ∧ op ≤ 7)) (hs : 11 ≤ op → op ≤ 13 → b < n) : (core op n 0 a b).2 = 0 := by
  unfold core
  split
  · unfold ring; rw [over0]; rfl
  · split
    · omega
    · split
      · rfl
      · split
        · unfold shift
          rw [if_neg (by have := hs (by omega) (by omega); omega), over0]
          split
          · rfl
          · have : ((0 : Int) == 4 && a % 2 ^ b.toNat != 0) = false := by simp
            rw [this]; simp only [cond_false]; split <;> rfl
        · rfl
theorem divR2 (op f q r : Int) : (divR op f q r).2 = 0 ∨ (divR op f q r).2 = 1 := by
  unfold divR
  repeat' split
  all_goals simp
theorem divR2_0 (op q r : Int) : (divR op 0 q r).2 = 0 := by
  unfold divR
  repeat' split
  all_goals simp_all
theorem div_nice {op : Int} {n : Nat} {f a b : Int} (hb : b ≠ 0) (hl : ¬ (op = 4 ∨ op = 6) → sgn n b ≠ -1) : ∃ q r, div op n f a b = divR op f q r := by
  unfold div
  rw [if_neg hb]
  split
  · exact ⟨_, _, rfl⟩
  · rename_i h
    rw [if_neg (fun c => hl h c.1)]
    exact ⟨_, _, rfl⟩
theorem sgn_last {n : Nat} {b : Int} (h1 : 1 ≤ n) (h2 : n ≤ 64) (hb : 0 ≤ b) (hb' : b < 2 ^ n) (hm : b ≠ mask n) : sgn n b ≠ -1 := by
  rw [mask_in h1 h2] at hm
  obtain ⟨M, e1, e2, e3, e4, e5, e6, _, _⟩ := dbl h1 h2
  rcases Int.lt_or_le b M with q | q
  · rw [sgn_mid e1 e5 (by omega) q]; omega
  · rw [sgn_up e1 e5 q (by omega)]; omega
theorem kinds_bad {op t n f : Int} {ws : List Int} (h : kinds op t n f = some ws) (ho : op ≤ 19) (ht : t ≠ 65) : badA op t f = false ∧ 1 ≤ t ∧ t ≤ 64 := by
  have h2 := (kinds_noflags h).2
  have h1 := (kinds_len h).2.1
  have h3 : 1 ≤ t ∧ t ≤ 64 := by cases (kinds_cases h).2 <;> omega
  refine ⟨?_, h3⟩
  unfold badA
  have hm : ¬ mask t = 0 := mask_ne' h3
  simp only [Bool.or_eq_false_iff, decide_eq_false_iff_not, bne_eq_false_iff_eq, beq_eq_false_iff_ne, ne_eq]
  exact ⟨⟨⟨hm, by omega⟩, by omega⟩, h2⟩
theorem norm_pos {w : Int} {a : Vl} (h : norm w a = a) (hw : w ≤ 64) (h0 : a.k ≠ 0) (h3 : a.k ≠ 3) : a.k = 1 ∧ 0 ≤ a.b ∧ a.b < 2 ^ w.toNat := by
  rcases norm_kind h with q | q | q | q
  · exact absurd q h0
  · exact absurd q h3
  · exact ⟨q.1, q.2.2.2⟩
  · omega
theorem bt_keep {a b : Vl} (h : Bt a b) (h0 : a.k ≠ 0) (h3 : a.k ≠ 3) : b = a := by
  rcases h with q | q | q
  · exact absurd q h0
  · exact absurd q.1 h3
  · exact q.symm
theorem bt_k {a b : Vl} (h : Bt a b) (h0 : a.k ≠ 0) : b.k ≠ 0 := by
  rcases h with q | q | q
  · exact absurd q h0
  · exact q.2
  · rw [← q]; exact h0
theorem bt_refl (a : Vl) : Bt a a := .inr (.inr rfl)
theorem bt_any {b : Vl} (h : b.k ≠ 0) : Bt any b := .inr (.inl ⟨rfl, h⟩)
theorem chosen_mono {a b c a' b' c' : Vl} (hk : a.k = 0 ∨ a.k = 1 ∨ a.k = 3) (hk' : a'.k = 0 ∨ a'.k = 1 ∨ a'.k = 3) (ha : Bt a a') (hb : Bt b b') (hc : Bt c c') : Bt (chosen a b c) (chosen a' b' c') := by
  have any_k : any.k ≠ 0 := by decide
  have pick : b.k ≠ 0 → c.k ≠ 0 → a'.k ≠ 0 → (chosen a' b' c').k ≠ 0 := fun h1 h2 h3 => by
    have e1 := bt_k hb h1
    have e2 := bt_k hc h2
    unfold chosen
    rw [show (a'.k == 0) = false by simpa using h3, show (b'.k == 0 || c'.k == 0) = false by simp [e1, e2]]
    simp only [Bool.cond_eq_ite]
    repeat' split
    all_goals first | assumption | contradiction
  rcases hk with h | h | h
  · left; unfold chosen; rw [h]; rfl
  · have := bt_keep ha (by omega) (by omega)
    subst this
    unfold chosen
    rw [h]
    simp only [Int.reduceBEq, Bool.cond_false, Bool.true_and, cond_true]
    cases a'.b == 1
    · exact hc
    · exact hb
  · have h3 := bt_k ha (by omega)
    have e : chosen a b c = bif decide (b = c) then b else bif b.k == 0 || c.k == 0 then Vl.zero else any := by unfold chosen; rw [h]; rfl
    rw [e]
    cases hbc : decide (b = c)
    · cases hp : (b.k == 0 || c.k == 0)
      · simp at hp
        exact .inr (.inl ⟨rfl, pick hp.1 hp.2 h3⟩)
      · exact .inl rfl
    · have hbc' : b = c := of_decide_eq_true hbc
      subst hbc'
      simp only [cond_true]
      rcases hk' with q | q | q
      · exact absurd q h3
      · unfold chosen
        rw [q]
        simp only [Int.reduceBEq, Bool.cond_false, Bool.true_and, cond_true]
        cases a'.b == 1
        · exact hc
        · exact hb
      · rcases Classical.em (b.k = 0) with z | z
        · exact .inl z
        · rcases Classical.em (b.k = 3) with y | y
          · exact .inr (.inl ⟨y, pick z z h3⟩)
          · have e1 := bt_keep hb z y
            have e2 := bt_keep hc z y
            subst e1
            rw [e2]
            unfold chosen
            rw [q]; simp; exact bt_refl _
theorem any2 (q : Int) (a b : Vl) : [a, b].any (·.k == q) = (a.k == q || b.k == q) := by simp
theorem any1 (q : Int) (a : Vl) : [a].any (·.k == q) = (a.k == q) := by simp
theorem apply2 {op t f a b : Int} (h : badA op t f = false) : (apply op t f a b).2 = (core op t.toNat f (a % 2 ^ t.toNat) (b % 2 ^ t.toNat)).2 := by
  unfold apply; rw [h]; simp only [cond_false, cutR_2]
theorem clear_2 {op t n f : Int} {a b : Vl} (h29 : (op == 29) = false) (h20 : decide (20 ≤ op) = false) (h65 : (t == 65) = false) (h : (apply op t f a.b b.b).2 = 0 ∨ (apply op t f a.b b.b).2 = 1) : (clear op t n f a b).2 = 0 := by
  unfold clear
  rw [h29, h20, h65]
  rcases h with h | h <;> rw [h] <;> rfl
theorem clear_k {op t n f : Int} {a b : Vl} (h29 : (op == 29) = false) (h20 : decide (20 ≤ op) = false) (h65 : (t == 65) = false) (h : (apply op t f a.b b.b).2 = 0) : (clear op t n f a b).1.k ≠ 0 := by
  unfold clear
  rw [h29, h20, h65, h]; show (1 : Int) ≠ 0; decide

/-- Two operands, of one whole type: sums and the like. -/
theorem pair_mono {op t n f : Int} {a b a' b' : Vl} (ho : 1 ≤ op) (ho' : op ≤ 19) (hb : badA op t f = false) (ht : 1 ≤ t) (ht' : t ≤ 64) (na : norm t a = a) (nb : norm t b = b) (na' : norm t a' = a') (nb' : norm t b' = b') (ha : Bt a a') (hbt : Bt b b')
    (h0 : (made op t n f [a, b]).2 = 0) : (made op t n f [a', b']).2 = 0 ∧ Bt (made op t n f [a, b]).1 (made op t n f [a', b']).1 := by
  rcases Classical.em (a' = a ∧ b' = b) with ⟨rfl, rfl⟩ | hne
  · exact ⟨h0, bt_refl _⟩
  have h29 : (op == 29) = false := by simp; omega
  have h20 : decide (20 ≤ op) = false := by simp; omega
  have h24 : (op == 24) = false := by simp; omega
  have h23 : (op == 23) = false := by simp; omega
  have h65 : (t == 65) = false := by simp; omega
  have hdv0 : (isDiv op && divisor op t a b != 0) = false := by
    cases hd : isDiv op
    · rfl
    · unfold made at h0
      rw [hd] at h0
      rcases Classical.em (divisor op t a b = 0) with q | q
      · rw [q]; rfl
      · have : (true && divisor op t (at_ [a, b] 0) (at_ [a, b] 1) != 0) = true := by simpa [at_] using q
        rw [this] at h0
        exact absurd h0 q
  -- what stands of a division
  have hdiv : isDiv op = true → b.k = 1 ∧ b' = b ∧ ¬ b.b = 0 ∧ ((op == 5 || op == 7) && b.b == mask t) = false := fun hd => by
    have hz : divisor op t a b = 0 := by rw [hd] at hdv0; simpa using hdv0
    unfold divisor at hz
    cases c1 : (b.k == 0 || b.k == 1 && b.b == 0)
    · rw [c1] at hz
      cases c2 : ((op == 5 || op == 7) && b.b == mask t && b.k == 1 && a.k == 0)
      · rw [c2] at hz
        cases c3 : (b.k == 3)
        · rw [c3] at hz
          cases c4 : ((op == 5 || op == 7) && b.b == mask t && b.k == 1 && a.k == 3)
          · simp only [Bool.or_eq_false_iff, beq_eq_false_iff_ne, ne_eq] at c1 c3
            obtain ⟨p1, p2, p3⟩ := norm_pos nb ht' c1.1 c3
            have hbb := bt_keep hbt c1.1 c3
            refine ⟨p1, hbb, fun e => ?_, ?_⟩
            · rw [p1, e] at c1; exact absurd c1.2 (by decide)
            · cases hl : ((op == 5 || op == 7) && b.b == mask t)
              · rfl
              · rw [hl, p1] at c2 c4
                simp at c2 c4
                exact absurd ⟨bt_keep ha c2 c4, hbb⟩ hne
          · rw [c4] at hz; cases hz
        · rw [c3] at hz; cases hz
      · rw [c2] at hz; cases hz
    · rw [c1] at hz; cases hz
  have hdv : (isDiv op && divisor op t a' b' != 0) = false := by
    cases hd : isDiv op
    · rfl
    · obtain ⟨k1, e, z, hl⟩ := hdiv hd
      have hz : (b.b == 0) = false := by simpa using z
      unfold divisor
      rw [e, hl, k1, hz]; rfl
  have eL : ∀ x y, (isDiv op && divisor op t x y != 0) = false → made op t n f [x, y] = bif (x.k == 0 || y.k == 0) then (Vl.zero, 0) else bif (x.k == 3 || y.k == 3) then (loosely op t f y, 0) else clear op t n f x y := fun x y h => by
    unfold made
    rw [show at_ [x, y] 0 = x from rfl, show at_ [x, y] 1 = y from rfl, h, h24, h23, any2, any2]; rfl
  -- the end of what has none of both
  have hend : a'.k ≠ 0 → a'.k ≠ 3 → b'.k ≠ 0 → b'.k ≠ 3 → (clear op t n f a' b').2 = 0 ∧ (f = 0 → (11 ≤ op → op ≤ 13 → b'.b < t) → (clear op t n f a' b').1.k ≠ 0) := fun x0 x3 y0 y3 => by
    obtain ⟨_, q1, q2⟩ := norm_pos na' ht' x0 x3
    obtain ⟨_, r1, r2⟩ := norm_pos nb' ht' y0 y3
    have ex : a'.b % 2 ^ t.toNat = a'.b := Int.emod_eq_of_lt q1 q2
    have ey : b'.b % 2 ^ t.toNat = b'.b := Int.emod_eq_of_lt r1 r2
    have hap := apply2 (a := a'.b) (b := b'.b) hb
    rw [ex, ey] at hap
    rcases Classical.em (4 ≤ op ∧ op ≤ 7) with hd | hd
    · have hd' : isDiv op = true := by unfold isDiv; simp; omega
      obtain ⟨k1, e, z, hl⟩ := hdiv hd'
      obtain ⟨q, r, e2⟩ := div_nice (op := op) (n := t.toNat) (f := f) (a := a'.b) (b := b'.b) (by rw [e]; exact z) (fun ho => by
        have : b'.b ≠ mask t := by
          rw [e]
          intro hm
          rw [hm] at hl
          have : (op == 5 || op == 7) = true := by simp; omega
          rw [this] at hl; simp at hl
        exact sgn_last (by omega) (by omega) r1 r2 (by rw [show ((t.toNat : Nat) : Int) = t by omega]; exact this))
      rw [core_div hd.1 hd.2, e2] at hap
      exact ⟨clear_2 h29 h20 h65 (by rw [hap]; exact divR2 _ _ _ _), fun hf _ => clear_k h29 h20 h65 (by rw [hap, hf]; exact divR2_0 _ _ _)⟩
    · exact ⟨clear_2 h29 h20 h65 (by rw [hap]; exact core2 hd), fun hf hs => clear_k h29 h20 h65 (by rw [hap, hf]; exact core2_0 hd fun s1 s2 => by have := hs s1 s2; omega)⟩
  have hnil : made op t n f [a', b'] = (loosely op t f b', 0) ∧ (a'.k ≠ 0 ∧ b'.k ≠ 0) ∨ made op t n f [a', b'] = (Vl.zero, 0) ∧ (a'.k = 0 ∨ b'.k = 0) ∨ made op t n f [a', b'] = clear op t n f a' b' ∧ a'.k ≠ 0 ∧ a'.k ≠ 3 ∧ b'.k ≠ 0 ∧ b'.k ≠ 3 := by
    rw [eL _ _ hdv]
    cases c0 : (a'.k == 0 || b'.k == 0)
    · cases c3 : (a'.k == 3 || b'.k == 3)
      · simp at c0 c3; exact .inr (.inr ⟨rfl, c0.1, c3.1, c0.2, c3.2⟩)
      · simp at c0; exact .inl ⟨rfl, c0⟩
    · simp at c0; exact .inr (.inl ⟨rfl, c0⟩)
  have h2 : (made op t n f [a', b']).2 = 0 := by
    rcases hnil with h | h | h
    · rw [h.1]
    · rw [h.1]
    · rw [h.1]; exact (hend h.2.1 h.2.2.1 h.2.2.2.1 h.2.2.2.2).1
  refine ⟨h2, ?_⟩
  rw [eL _ _ hdv0]
  cases c0 : (a.k == 0 || b.k == 0)
  · simp only [Bool.or_eq_false_iff, beq_eq_false_iff_ne, ne_eq] at c0
    have a0 := bt_k ha c0.1
    have b0 := bt_k hbt c0.2
    cases c3 : (a.k == 3 || b.k == 3)
    · simp only [Bool.or_eq_false_iff, beq_eq_false_iff_ne, ne_eq] at c3
      exact absurd ⟨bt_keep ha c0.1 c3.1, bt_keep hbt c0.2 c3.2⟩ hne
    · simp only [cond_false, cond_true]
      cases cl : (decide (11 ≤ op) && decide (op ≤ 13) && (b.k == 3 || decide (IntKind.u64.wrap t ≤ b.b)) || f != 0)
      · have el : loosely op t f b = any := by unfold loosely; rw [cl]; rfl
        rw [el]
        simp only [Bool.or_eq_false_iff, bne_eq_false_iff_eq] at cl
        refine bt_any ?_
        have hsame : 11 ≤ op → op ≤ 13 → b' = b ∧ b.b < t := fun s1 s2 => by
          have hs : (decide (11 ≤ op) && decide (op ≤ 13)) = true := by simp; omega
          rw [hs, Bool.true_and] at cl
          simp only [Bool.or_eq_false_iff, beq_eq_false_iff_ne, ne_eq, decide_eq_false_iff_not] at cl
          refine ⟨bt_keep hbt c0.2 cl.1.1, ?_⟩
          have := cl.1.2
          rw [wr_small (by omega) (by omega)] at this; omega
        rcases hnil with h | h | h
        · rw [h.1]
          have : loosely op t f b' = any := by
            unfold loosely
            rw [cl.2]
            cases hs : (decide (11 ≤ op) && decide (op ≤ 13))
            · rfl
            · have hs' := hs
              simp only [Bool.and_eq_true, decide_eq_true_eq] at hs'
              have c := cl.1
              rw [hs, ← (hsame hs'.1 hs'.2).1] at c
              rw [c]; rfl
          rw [this]; decide
        · rcases h.2 with q | q
          · exact absurd q a0
          · exact absurd q b0
        · rw [h.1]
          exact (hend h.2.1 h.2.2.1 h.2.2.2.1 h.2.2.2.2).2 cl.2 fun s1 s2 => by rw [(hsame s1 s2).1]; exact (hsame s1 s2).2
      · have el : loosely op t f b = Vl.zero := by unfold loosely; rw [cl]; rfl
        rw [el]; exact .inl rfl
  · exact .inl rfl
theorem simple_mono {op t n f : Int} {L L' : List Vl} (hd : isDiv op = false) (h24 : (op == 24) = false) (h23 : (op == 23) = false) (hs : (decide (11 ≤ op) && decide (op ≤ 13)) = false)
    (hc : L'.any (·.k == 0) = false → (clear op t n f (at_ L' 0) (at_ L' 1)).2 = 0 ∧ (clear op t n f (at_ L' 0) (at_ L' 1)).1.k ≠ 0) (hp : L.any (·.k == 0) = false → L'.any (·.k == 0) = false) (he : L.any (·.k == 0) = false → L.any (·.k == 3) = false → L' = L) :
    (made op t n f L').2 = 0 ∧ Bt (made op t n f L).1 (made op t n f L').1 := by
  have e : ∀ l, made op t n f l = bif l.any (·.k == 0) then (Vl.zero, 0) else bif l.any (·.k == 3) then (loosely op t f (at_ l 1), 0) else clear op t n f (at_ l 0) (at_ l 1) := fun l => by unfold made; rw [hd, h24, h23]; rfl
  have hl : ∀ b, loosely op t f b = bif f != 0 then Vl.zero else any := fun b => by unfold loosely; rw [hs]; rfl
  rw [e L, e L', hl, hl]
  cases c0 : L.any (·.k == 0)
  · rw [hp c0]
    obtain ⟨h1, h2⟩ := hc (hp c0)
    cases c3 : L.any (·.k == 3)
    · obtain rfl := he c0 c3
      rw [c3]
      exact ⟨h1, bt_refl _⟩
    · cases cf : (f != 0)
      · cases c3' : L'.any (·.k == 3)
        · exact ⟨h1, bt_any h2⟩
        · exact ⟨rfl, bt_refl _⟩
      · refine ⟨?_, .inl rfl⟩
        cases c3' : L'.any (·.k == 3)
        · exact h1
        · rfl
  · refine ⟨?_, .inl rfl⟩
    cases c0' : L'.any (·.k == 0)
    · cases c3' : L'.any (·.k == 3)
      · exact (hc c0').1
      · rfl
    · rfl
theorem one_of {L : List Vl} (h : L.length = 1) : ∃ a, L = [a] := by
  match L, h with
  | [a], _ => exact ⟨a, rfl⟩
theorem two_of {L : List Vl} (h : L.length = 2) : ∃ a b, L = [a, b] := by
  match L, h with
  | [a, b], _ => exact ⟨a, b, rfl⟩
theorem three_of {L : List Vl} (h : L.length = 3) : ∃ a b c, L = [a, b, c] := by
  match L, h with
  | [a, b, c], _ => exact ⟨a, b, c, rfl⟩
theorem ne_any2 {q : Int} {a b : Vl} (h : [a, b].any (·.k == q) = false) : a.k ≠ q ∧ b.k ≠ q := by simpa using h
theorem ne_any1 {q : Int} {a : Vl} (h : [a].any (·.k == q) = false) : a.k ≠ q := by simpa using h
theorem any2_ne {q : Int} {a b : Vl} (h : a.k ≠ q) (h' : b.k ≠ q) : [a, b].any (·.k == q) = false := by simp [h, h']
theorem any1_ne {q : Int} {a : Vl} (h : a.k ≠ q) : [a].any (·.k == q) = false := by simp [h]
theorem made_mono {op t n f : Int} {ws : List Int} (hk : kinds op t n f = some ws) {L L' : List Vl} (hl : L.length = ws.length) (hl' : L'.length = ws.length) (hb : ∀ (i : Nat) a b, L[i]? = some a → L'[i]? = some b → Bt a b)
    (hn : ∀ (i : Nat) w a, ws[i]? = some w → L[i]? = some a → norm w a = a) (hn' : ∀ (i : Nat) w a, ws[i]? = some w → L'[i]? = some a → norm w a = a) (h0 : (made op t n f L).2 = 0) :
    (made op t n f L').2 = 0 ∧ Bt (made op t n f L).1 (made op t n f L').1 := by
  have hbad := kinds_bad hk
  cases (kinds_cases hk).2 with
  | eq ho h1 h2 =>
    obtain ⟨a, b, rfl⟩ := two_of hl
    obtain ⟨a', b', rfl⟩ := two_of hl'
    have ba := hb 0 a a' rfl rfl
    have bb := hb 1 b b' rfl rfl
    rcases Classical.em (t = 65) with rfl | ht
    · have h20 : decide (20 ≤ op) = false := by simp; omega
      have h29 : (op == 29) = false := by simp; omega
      refine simple_mono (by unfold isDiv; simp; omega) (by simp; omega) (by simp; omega) (by simp; omega) (fun _ => ?_) (fun h => any2_ne (bt_k ba (ne_any2 h).1) (bt_k bb (ne_any2 h).2)) (fun h h' => by rw [bt_keep ba (ne_any2 h).1 (ne_any2 h').1, bt_keep bb (ne_any2 h).2 (ne_any2 h').2])
      unfold clear; rw [h20, h29]; exact ⟨rfl, by show (1 : Int) ≠ 0; decide⟩
    · exact pair_mono (by omega) (by omega) (hbad (by omega) ht).1 h1 (by omega) (hn 0 t a rfl rfl) (hn 1 t b rfl rfl) (hn' 0 t a' rfl rfl) (hn' 1 t b' rfl rfl) ba bb h0
  | two ho ho' _ h1 h2 =>
    obtain ⟨a, b, rfl⟩ := two_of hl
    obtain ⟨a', b', rfl⟩ := two_of hl'
    exact pair_mono ho ho' (hbad ho' (by omega)).1 h1 h2 (hn 0 t a rfl rfl) (hn 1 t b rfl rfl) (hn' 0 t a' rfl rfl) (hn' 1 t b' rfl rfl) (hb 0 a a' rfl rfl) (hb 1 b b' rfl rfl) h0
  | conv ho ho' hc h1 h2 =>
    obtain ⟨a, rfl⟩ := one_of hl
    obtain ⟨a', rfl⟩ := one_of hl'
    have ba := hb 0 a a' rfl rfl
    have h20 : decide (20 ≤ op) = true := by simp; omega
    have h29 : (op == 29) = false := by simp; omega
    refine simple_mono (by unfold isDiv; simp; omega) (by simp; omega) (by simp; omega) (by simp; omega) (fun _ => ?_) (fun h => any1_ne (bt_k ba (ne_any1 h))) (fun h h' => by rw [bt_keep ba (ne_any1 h) (ne_any1 h')])
    unfold clear; rw [h20, h29]; exact ⟨rfl, by show (1 : Int) ≠ 0; decide⟩
  | gep ho ht =>
    obtain ⟨a, b, rfl⟩ := two_of hl
    obtain ⟨a', b', rfl⟩ := two_of hl'
    have ba := hb 0 a a' rfl rfl
    have bb := hb 1 b b' rfl rfl
    subst ho
    refine simple_mono rfl rfl rfl rfl (fun h => ?_) (fun h => any2_ne (bt_k ba (ne_any2 h).1) (bt_k bb (ne_any2 h).2)) (fun h h' => by rw [bt_keep ba (ne_any2 h).1 (ne_any2 h').1, bt_keep bb (ne_any2 h).2 (ne_any2 h').2])
    exact ⟨rfl, (ne_any2 h).1⟩
  | freeze ho h1 h2 =>
    obtain ⟨a, rfl⟩ := one_of hl
    obtain ⟨a', rfl⟩ := one_of hl'
    have ba := hb 0 a a' rfl rfl
    subst ho
    have e : ∀ x, made 24 t n f [x] = (bif x.k == 0 then any else x, 0) := fun x => by
      unfold made; rw [any1]; cases x.k == 0 <;> rfl
    rw [e, e]
    refine ⟨rfl, ?_⟩
    simp only
    cases c : (a.k == 0)
    · have c' : a.k ≠ 0 := by simpa using c
      have : (a'.k == 0) = false := by simpa using bt_k ba c'
      rw [this]; exact ba
    · refine bt_any ?_
      cases c' : (a'.k == 0)
      · simpa using c'
      · show (3 : Int) ≠ 0; decide
  | select ho h1 h2 =>
    obtain ⟨a, b, c, rfl⟩ := three_of hl
    obtain ⟨a', b', c', rfl⟩ := three_of hl'
    subst ho
    have e : ∀ x y z, made 23 t n f [x, y, z] = (chosen x y z, 0) := fun _ _ _ => rfl
    rw [e, e]
    have hk1 : ∀ x, norm 1 x = x → x.k = 0 ∨ x.k = 1 ∨ x.k = 3 := fun x hx => by
      rcases norm_kind hx with q | q | q | q <;> omega
    exact ⟨rfl, chosen_mono (hk1 a (hn 0 1 a rfl rfl)) (hk1 a' (hn' 0 1 a' rfl rfl)) (hb 0 a a' rfl rfl) (hb 1 b b' rfl rfl) (hb 2 c c' rfl rfl)⟩
/-- The row of the law: where the other value is better, it stands. -/
def better1 (t : Int) (x y : Vl) : Bool := better (read t x) (read t y)
theorem refines_law {op t n f : Int} {xs zs : List Vl} (h3 : ((eval op t n f xs).2 == 3) = false) (hl : zs.length = xs.length)
    (hz : ∀ (i : Nat) w x z, (types op t n)[i]? = some w → xs[i]? = some x → zs[i]? = some z → z = x ∨ better1 w x z = true) :
    ((eval op t n f xs).2 != 0 || (eval op t n f zs).2 == 4 || (eval op t n f zs).2 == 0 && better (eval op t n f xs).1 (eval op t n f zs).1) = true := by
  obtain ⟨ws, hk, hw⟩ := eval_some h3
  rw [eval_made hk hw, eval_made hk (hw.trans hl.symm)]
  cases c : ((made op t n f (row ws xs)).2 != 0)
  · have h0 : (made op t n f (row ws xs)).2 = 0 := by simpa using c
    have hty := kinds_types hk
    have hrow : ∀ (l : List Vl), ws.length = l.length → ∀ (i : Nat) a, (row ws l)[i]? = some a → ∃ w x, ws[i]? = some w ∧ l[i]? = some x ∧ a = norm w x := fun l hll i a ha => by
      have hi : i < (row ws l).length := (List.getElem?_eq_some_iff.1 ha).1
      rw [row_length hll] at hi
      have h1 : ws[i]? = some (ws[i]'(by omega)) := List.getElem?_eq_getElem _
      have h2 : l[i]? = some l[i] := List.getElem?_eq_getElem _
      have := row_get h1 h2
      rw [ha] at this
      exact ⟨_, _, h1, h2, by simpa using this⟩
    have hnn : ∀ (l : List Vl), ws.length = l.length → ∀ (i : Nat) w a, ws[i]? = some w → (row ws l)[i]? = some a → norm w a = a := fun l hll i w a hw' ha => by
      obtain ⟨w2, x, e1, _, e3⟩ := hrow l hll i a ha
      rw [hw'] at e1; cases e1
      rw [e3, norm_norm]
    obtain ⟨h1, h2⟩ := made_mono hk (L := row ws xs) (L' := row ws zs) (by rw [row_length hw]; exact hw.symm) (by rw [row_length (hw.trans hl.symm), hl]; exact hw.symm) (fun i a b ha hb => by
      obtain ⟨w, x, e1, e2, rfl⟩ := hrow xs hw i a ha
      obtain ⟨w', z, e1', e2', rfl⟩ := hrow zs (hw.trans hl.symm) i b hb
      rw [e1] at e1'; cases e1'
      obtain ⟨ht, hr⟩ := hty i w e1
      rcases hz i w x z ht e2 e2' with rfl | hbt
      · exact bt_refl _
      · unfold better1 at hbt
        rw [read_eq hr, read_eq hr] at hbt
        exact better_iff.1 hbt) (hnn xs hw) (hnn zs (hw.trans hl.symm)) h0
    rw [h1, better_iff.2 h2]; rfl
  · rfl
theorem made_end {op t n f : Int} {l : List Vl} (h : (made op t n f l).2 ≠ 0) : (made op t n f l).1 = Vl.zero := by
  revert h
  unfold made clear
  simp only [Bool.cond_eq_ite]
  repeat' split
  all_goals first | (intro h; exact absurd rfl h) | (intro _; rfl) | skip
theorem eval_end {op t n f : Int} {xs : List Vl} (h : (eval op t n f xs).2 ≠ 0) : (eval op t n f xs).1 = Vl.zero := by
  revert h
  unfold eval
  cases kinds op t n f with
  | none => intro _; rfl
  | some ws =>
    simp only
    cases (ws.length != xs.length)
    · exact made_end
    · intro _; rfl
theorem types_len {op t n f : Int} {xs : List Vl} (h3 : ((eval op t n f xs).2 == 3) = false) : xs.length ≤ (types op t n).length := by
  obtain ⟨ws, hk, hw⟩ := eval_some h3
  rcases Nat.lt_or_ge (types op t n).length xs.length with h | h
  · have h1 : ws[(types op t n).length]? = some (ws[(types op t n).length]'(by omega)) := List.getElem?_eq_getElem _
    have h2 := (kinds_types hk _ _ h1).1
    have h3 := (List.getElem?_eq_some_iff.1 h2).1
    omega
  · exact h
/-- The row of EvalRefines, j operands gone through. -/
structure Mix (ws : List Int) (xs ys : List Vl) (j : Nat) (zs : List Vl) : Prop where
  len : zs.length = xs.length
  le : j ≤ xs.length
  rg : ∀ z ∈ zs, Rg z.b
  mix : ∀ (i : Nat) w x z, ws[i]? = some w → xs[i]? = some x → zs[i]? = some z → z = x ∨ better1 w x z = true
  rest : ∀ i, j ≤ i → zs[i]? = xs[i]?
theorem Mix.start {ws : List Int} {xs ys : List Vl} (h : ∀ x ∈ xs, Rg x.b) : Mix ws xs ys 0 xs :=
  ⟨rfl, Nat.zero_le _, h, fun i w x z _ hx hz => .inl (by rw [hx] at hz; cases hz; rfl), fun _ _ => rfl⟩
theorem Mix.skip {ws : List Int} {xs ys zs : List Vl} {j : Nat} (h : Mix ws xs ys j zs) (hj : j < xs.length) : Mix ws xs ys (j + 1) zs := ⟨h.len, hj, h.rg, h.mix, fun i hi => h.rest i (by omega)⟩
theorem Mix.set {ws : List Int} {xs ys zs : List Vl} {j : Nat} {x y : Vl} {w : Int} (h : Mix ws xs ys j zs) (hw : ws[j]? = some w) (hx : xs[j]? = some x) (hb : better1 w x y = true) (hy : Rg y.b) : Mix ws xs ys (j + 1) (zs.set j y) := by
  have hj : j < xs.length := (List.getElem?_eq_some_iff.1 hx).1
  have hjz : j < zs.length := by rw [h.len]; exact hj
  refine ⟨by rw [List.length_set]; exact h.len, hj, fun z hz => ?_, fun i w' x' z hw' hx' hz => ?_, fun i hi => ?_⟩
  · rcases List.mem_or_eq_of_mem_set hz with q | rfl
    · exact h.rg z q
    · exact hy
  · rcases Classical.em (j = i) with rfl | hne
    · rw [List.getElem?_set_self hjz] at hz
      cases hz
      rw [hw] at hw'; cases hw'
      rw [hx] at hx'; cases hx'
      exact .inr hb
    · rw [List.getElem?_set_ne hne] at hz
      exact h.mix i w' x' z hw' hx' hz
  · rw [List.getElem?_set_ne (by omega)]; exact h.rest i (by omega)
end Go.Proofs.Ytffimfmicapaaaa.Pl
