/- The pieces of a text: the reference and the program compute the plain function. -/
import Derived.Test.YtjdiohhniiooeaaDoorPlLexA
namespace Go.Proofs.YtjdiohhniiooeaaDoor
open Go.RowKit
set_option linter.unusedVariables false
set_option linter.unusedSimpArgs false
theorem ref_R12_eq {s : ByteArray} : ∀ (k i : Nat) (l : List UInt8), s.data.toList.drop i = l → l.length < k → d_latheref03_Tokens_R12 s k i = ((i + cnt notNl l : Nat) : Int)
  | 0, i, l, h, hk => by omega
  | k + 1, i, [], h, hk => by
    unfold d_latheref03_Tokens_R12
    rw [decide_eq_false (by have := at_nil h; omega), Bool.false_and, cond_false]; rfl
  | k + 1, i, c :: cs, h, hk => by
    obtain ⟨h1, h2, h3⟩ := at_cons h
    unfold d_latheref03_Tokens_R12 cnt
    rw [decide_eq_true (by omega), Bool.true_and, h2]
    show (bif notNl c then _ else _) = _
    cases notNl c
    · rfl
    · have := ref_R12_eq k (i + 1) cs h3 (by simpa using hk)
      rw [cond_true, cond_true, show ((i : Int) + 1) = ((i + 1 : Nat) : Int) by omega, this]
      omega
theorem lex_R12_eq {s : ByteArray} : ∀ (k i : Nat) (l : List UInt8), s.data.toList.drop i = l → l.length < k → d_lex_Tokens_R12 s k i = ((i + cnt notNl l : Nat) : Int)
  | 0, i, l, h, hk => by omega
  | k + 1, i, [], h, hk => by
    unfold d_lex_Tokens_R12
    rw [decide_eq_false (by have := at_nil h; omega), Bool.false_and, cond_false]; rfl
  | k + 1, i, c :: cs, h, hk => by
    obtain ⟨h1, h2, h3⟩ := at_cons h
    unfold d_lex_Tokens_R12 cnt
    rw [decide_eq_true (by omega), Bool.true_and, h2]
    show (bif notNl c then _ else _) = _
    cases notNl c
    · rfl
    · have := lex_R12_eq k (i + 1) cs h3 (by simpa using hk)
      rw [cond_true, cond_true, show ((i : Int) + 1) = ((i + 1 : Nat) : Int) by omega, this]
      omega
def outR (l : List Tok) : Sum (Int × Int × Int) (List Tok) → List Tok × Int × Int × Int
  | .inl e => ([], e.1, e.2.1, e.2.2)
  | .inr ts => (l ++ ts, 0, 0, 0)
def outX (l : List Tok) : Sum (Int × Int × Int) (List Tok) → List Tok × Flt
  | .inl e => ([], ⟨e.1, e.2.1, e.2.2⟩)
  | .inr ts => (l ++ ts, ⟨0, 0, 0⟩)
theorem outR_cons (l : List Tok) (t : Tok) (x : Sum (Int × Int × Int) (List Tok)) : outR (l ++ [t]) x = outR l (consT t x) := by
  cases x <;> simp [outR, consT]
theorem outX_cons (l : List Tok) (t : Tok) (x : Sum (Int × Int × Int) (List Tok)) : outX (l ++ [t]) x = outX l (consT t x) := by
  cases x <;> simp [outX, consT]
def PcL (cs : List UInt8) : Sum Int (Int × Nat × Nat) → Prop
  | .inl e => e = 1 ∨ e = 2
  | .inr (k, f, n) => 1 ≤ f + n ∧ k ≠ 6 ∧ f + n ≤ cs.length + 1 ∧ (k = 1 ∨ k = 2 ∨ k = 3 ∨ k = 4 ∨ k = 5) ∧ 0 < n
theorem numL_ne {ds : List UInt8} {m : Int} (h : numL ds m = true) : 0 < ds.length := by
  cases ds with
  | nil => cases h
  | cons => simp
theorem pieceL_ok (c : UInt8) (cs : List UInt8) : PcL cs (pieceL c cs) := by
  have hA := cnt_le isA cs
  have hD := cnt_le isD cs
  unfold pieceL
  refine cond_ind (P := PcL cs) (fun _ => ⟨by omega, by omega, by omega, by omega, by omega⟩) (fun _ => ?_)
  refine cond_ind (P := PcL cs) (fun _ => ⟨by omega, by omega, by omega, by omega, by omega⟩) (fun _ => ?_)
  refine cond_ind (P := PcL cs) (fun _ => cond_ind (P := PcL cs) (fun _ => ⟨by omega, by omega, by omega, by omega, by omega⟩) (fun _ => .inr rfl)) (fun _ => ?_)
  refine cond_ind (P := PcL cs) (fun _ => cond_ind (P := PcL cs) (fun h => ?_) (fun _ => .inr rfl)) (fun _ => ?_)
  · have := numL_ne h
    rw [List.length_take] at this
    exact ⟨by omega, by omega, by omega, by omega, by omega⟩
  refine cond_ind (P := PcL cs) (fun h => ?_) (fun _ => .inl rfl)
  have : 0 < cnt isA cs := by
    cases cs with
    | nil => simp at h
    | cons d ds =>
      dsimp only at h
      rw [Bool.and_eq_true] at h
      rw [cnt_true (isA_of h.2)]; omega
  exact ⟨by omega, by omega, by omega, by omega, by omega⟩
theorem pieceL_pos {c : UInt8} {cs : List UInt8} {k : Int} {f n : Nat} (h : pieceL c cs = .inr (k, f, n)) : 1 ≤ f + n ∧ k ≠ 6 ∧ f + n ≤ cs.length + 1 ∧ (k = 1 ∨ k = 2 ∨ k = 3 ∨ k = 4 ∨ k = 5) ∧ 0 < n := by
  have := pieceL_ok c cs
  rw [h] at this
  exact this
theorem pieceL_err {c : UInt8} {cs : List UInt8} {e : Int} (h : pieceL c cs = .inl e) : e = 1 ∨ e = 2 := by
  have := pieceL_ok c cs
  rw [h] at this
  exact this
theorem ref_tokens {s : ByteArray} : ∀ (k i : Nat) (l : List UInt8) (out : List Tok) (fr line : Int), s.data.toList.drop i = l → l.length < k → 
    thenL (d_latheref03_Tokens_R7 s k out i fr line) (fun (l6e, x9e, x8e, x7e) => (l6e, 0, 0, 0)) = outR out (toks l line ((i : Int) - fr + 1))
  | 0, i, l, out, fr, line, h, hk => by omega
  | k + 1, i, [], out, fr, line, h, hk => by
    unfold d_latheref03_Tokens_R7
    rw [decide_eq_false (by have := at_nil h; omega), cond_false, toks]; simp [outR, thenL]
  | k + 1, i, c :: cs, out, fr, line, h, hk => by
    obtain ⟨h1, h2, h3⟩ := at_cons h
    have hk' : cs.length < k := by simpa using hk
    have e1 : ((i : Int) + 1) = ((i + 1 : Nat) : Int) := by omega
    unfold d_latheref03_Tokens_R7
    rw [decide_eq_true (by omega), cond_true, h2, toks]
    show thenL (bif isB c then _ else _) _ = _
    cases hB : isB c
    case true =>
      rw [cond_true, cond_true, e1, ref_tokens k (i + 1) cs out fr line h3 hk']
      congr 2; omega
    simp only [cond_false]
    cases h35 : cI c == 35
    case true =>
      rw [cond_true, cond_true, ref_R12_eq _ i (c :: cs) h (by rw [← h, drop_len]; omega)]
      have hc : cnt notNl (c :: cs) = 1 + cnt notNl cs := cnt_true (by unfold notNl; rw [beq_iff_eq] at h35; rw [h35]; rfl)
      rw [hc]
      show thenL (d_latheref03_Tokens_R7 s k out ((i + (1 + cnt notNl cs) : Nat) : Int) fr line) _ = _
      have hle := cnt_le notNl cs
      rw [ref_tokens k (i + (1 + cnt notNl cs)) (cs.drop (cnt notNl cs)) out fr line (by rw [drop_drop' h, Nat.add_comm 1]; rfl) (by rw [List.length_drop]; omega)]
      congr 2; omega
    simp only [cond_false]
    cases h10 : cI c == 10
    case true =>
      have hp : d_latheref03_piece s i = (6, (i : Int), 0, 0) := by unfold d_latheref03_piece; rw [h2, h10]; rfl
      rw [cond_true, hp]
      dsimp only
      rw [show ((0 : Int) != 0) = false from rfl, cond_false, show ((6 : Int) == 6) = true from rfl, cond_true, show ((i : Int) + 0 + 1) = ((i + 1 : Nat) : Int) by omega,
        ref_tokens k (i + 1) cs _ _ _ h3 hk', outR_cons, ext_take (n := 0) h rfl (by omega), show (((i + 1 : Nat) : Int) - ((i + 1 : Nat) : Int) + 1) = 1 by omega]
      rfl
    simp only [cond_false]
    rw [ref_piece_eq h (by simpa using h10)]
    cases hp : pieceL c cs with
    | inl e =>
      rcases pieceL_err hp with rfl | rfl <;> rfl
    | inr r =>
      obtain ⟨kd, f, n⟩ := r
      obtain ⟨p1, p2, p3, p4⟩ := pieceL_pos hp
      dsimp only
      rw [show ((0 : Int) != 0) = false from rfl, cond_false, show (kd == 6) = false by simpa using p2, cond_false]
      have e2 : ((i : Int) + f + n) = ((i + (f + n) : Nat) : Int) := by omega
      have hx : s.data.toList.drop (i + f) = (c :: cs).drop f := drop_drop' h
      rw [ext_take (i := i + f) (n := n) hx (by omega) (by omega), e2,
        ref_tokens k (i + (f + n)) (cs.drop (f + n - 1)) _ _ _ (by rw [drop_drop' h, show f + n = (f + n - 1) + 1 by omega]; rfl) (by rw [List.length_drop]; omega), outR_cons]
      congr 3; omega
theorem lex_tokens {s : ByteArray} : ∀ (k i : Nat) (l : List UInt8) (out : List Tok) (fr line code y0 y1 y2 : Int), s.data.toList.drop i = l → i ≤ s.size → l.length < k → 
    thenL (d_lex_Tokens_R4 s k out s i line fr code y0 y1 y2) (fun _ => ([], (Dat.d : Flt))) = outX out (toks l line ((i : Int) - fr + 1))
  | 0, i, l, out, fr, line, code, y0, y1, y2, h, hi, hk => by omega
  | k + 1, i, [], out, fr, line, code, y0, y1, y2, h, hi, hk => by
    unfold d_lex_Tokens_R4
    rw [show ((i : Int) == (s.size : Int)) = true by rw [beq_iff_eq]; have := at_nil h; omega, cond_true, toks]; simp [outX, thenL]
  | k + 1, i, c :: cs, out, fr, line, code, y0, y1, y2, h, hi, hk => by
    obtain ⟨h1, h2, h3⟩ := at_cons h
    have hk' : cs.length < k := by simpa using hk
    have e1 : ((i : Int) + 1) = ((i + 1 : Nat) : Int) := by omega
    unfold d_lex_Tokens_R4
    rw [lex_piece_eq h]
    rw [show ((i : Int) == (s.size : Int)) = false by rw [beq_eq_false_iff_ne]; omega, cond_false, h2, toks]
    show thenL (bif isB c then _ else _) _ = _
    cases hB : isB c
    case true =>
      rw [cond_true, cond_true, e1, lex_tokens k (i + 1) cs out fr line code y0 y1 y2 h3 (by omega) hk']
      congr 2; omega
    simp only [cond_false]
    cases h35 : cI c == 35
    case true =>
      rw [cond_true, cond_true, lex_R12_eq _ i (c :: cs) h (by rw [← h, drop_len]; omega)]
      have hc : cnt notNl (c :: cs) = 1 + cnt notNl cs := cnt_true (by unfold notNl; rw [beq_iff_eq] at h35; rw [h35]; rfl)
      rw [hc]
      show thenL (d_lex_Tokens_R4 s k out s ((i + (1 + cnt notNl cs) : Nat) : Int) line fr code y0 y1 y2) _ = _
      have hle := cnt_le notNl cs
      have hll : (c :: cs).length = s.size - i := by rw [← h, drop_len]
      rw [List.length_cons] at hll
      rw [lex_tokens k (i + (1 + cnt notNl cs)) (cs.drop (cnt notNl cs)) out fr line code y0 y1 y2 (by rw [drop_drop' h, Nat.add_comm 1]; rfl) (by omega) (by rw [List.length_drop]; omega)]
      congr 2; omega
    simp only [cond_false]
    cases h10 : cI c == 10
    case true =>
      have hp := lex_put_eq (i := i) (j := i) (n := 0) (line := line) (fr := fr) (code := code) (k := 6) (l := out) h
      rw [Nat.add_zero] at hp
      rw [cond_true, cond_true, hp]
      dsimp only
      rw [e1, lex_tokens k (i + 1) cs _ _ _ _ _ _ _ h3 (by omega) hk', outX_cons, show (((i + 1 : Nat) : Int) - ((i + 1 : Nat) : Int) + 1) = 1 by omega]
      rfl
    simp only [cond_false]
    cases hp : pieceL c cs with
    | inl e => rfl
    | inr r =>
      obtain ⟨kd, f, n⟩ := r
      obtain ⟨p1, p2, p3, p4⟩ := pieceL_pos hp
      have hll : (c :: cs).length = s.size - i := by rw [← h, drop_len]
      rw [List.length_cons] at hll
      dsimp only
      rw [Bool.not_true, cond_false, Nat.add_assoc,
        lex_tokens k (i + (f + n)) (cs.drop (f + n - 1)) _ _ _ _ _ _ _ (by rw [drop_drop' h, show f + n = (f + n - 1) + 1 by omega]; rfl) (by omega) (by rw [List.length_drop]; omega), outX_cons]
      congr 3; omega
/-- The pieces of a text, or the fault. -/
def toksS (s : ByteArray) : Sum (Int × Int × Int) (List Tok) := bif decide (65536 < s.size) then .inl (6, 0, 0) else toks s.data.toList 1 1
theorem ref_Tokens_eq (s : ByteArray) : d_latheref03_Tokens s = outR [] (toksS s) := by
  unfold d_latheref03_Tokens toksS
  rw [show decide (65536 < (s.size : Int)) = decide (65536 < s.size) from by rw [decide_eq_decide]; omega]
  cases decide (65536 < s.size)
  · exact ref_tokens (s := s) (((s.size : Int) - 0).toNat + 1) 0 _ [] 0 1 List.drop_zero (by rw [← size_len]; omega)
  · rfl
theorem lex_Tokens_eq (s : ByteArray) : d_lex_Tokens s = outX [] (toksS s) := by
  unfold d_lex_Tokens toksS
  rw [show decide (65536 < (s.size : Int)) = decide (65536 < s.size) from by rw [decide_eq_decide]; omega]
  cases decide (65536 < s.size)
  · exact lex_tokens (s := s) (((s.size : Int) - 0).toNat + 1) 0 _ [] 0 1 0 0 0 0 List.drop_zero (by omega) (by rw [← size_len]; omega)
  · rfl
end Go.Proofs.YtjdiohhniiooeaaDoor
