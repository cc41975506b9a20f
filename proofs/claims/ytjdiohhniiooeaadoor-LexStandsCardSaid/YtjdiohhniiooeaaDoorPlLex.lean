/- Layer 3 as a plain function on lists of bytes; the reference and the program compute it. -/
import Derived.Test.YtjdiohhniiooeaaDoorLexS
namespace Go.Proofs.YtjdiohhniiooeaaDoor
open Go.RowKit
set_option linter.unusedVariables false
set_option linter.unusedSimpArgs false
def cI (c : UInt8) : Int := (c.toNat : Int)
def isL (c : UInt8) : Bool := d_lex_letter (cI c)
def isD (c : UInt8) : Bool := d_lex_digit (cI c)
def isA (c : UInt8) : Bool := isL c || isD c
def isB (c : UInt8) : Bool := ((cI c == 32) || (cI c == 9)) || (cI c == 13)
def notNl (c : UInt8) : Bool := cI c != 10
/-- How many stand at the head. -/
def cnt (p : UInt8 → Bool) : List UInt8 → Nat
  | [] => 0
  | c :: cs => bif p c then cnt p cs + 1 else 0
theorem cnt_le (p : UInt8 → Bool) : ∀ l, cnt p l ≤ l.length
  | [] => Nat.le_refl _
  | c :: cs => by
    unfold cnt
    have := cnt_le p cs
    cases p c <;> simp <;> omega
/-- Do digits write a numeral up to most? -/
def numL (ds : List UInt8) (most : Int) : Bool :=
  !(ds.isEmpty || (decide (1 < ds.length) && cI (ds.headD 0) == 48)) && (match Lib.parseUintM (2 ^ 64 - 1) 0 ds with
    | .ok v => decide ((v : Int) ≤ most)
    | _ => false)
/-- The piece that stands at the head: its kind, where its text begins, how long it is; or the fault. -/
def pieceL (c : UInt8) (cs : List UInt8) : Sum Int (Int × Nat × Nat) :=
  bif ((((cI c == 61) || (cI c == 44)) || (cI c == 40)) || (cI c == 41)) || (cI c == 58) then .inr (5, 0, 1)
  else bif isL c then .inr (1, 0, 1 + cnt isA cs)
  else bif isD c then bif numL (c :: cs.take (cnt isD cs)) 18446744073709551615 then .inr (2, 0, 1 + cnt isD cs) else .inl 2
  else bif cI c == 37 then bif numL (cs.take (cnt isD cs)) 4095 then .inr (3, 1, cnt isD cs) else .inl 2
  else bif cI c == 64 && (match cs with | [] => false | d :: _ => isL d) then .inr (4, 1, cnt isA cs)
  else .inl 1
def consT (t : Tok) : Sum (Int × Int × Int) (List Tok) → Sum (Int × Int × Int) (List Tok)
  | .inl e => .inl e
  | .inr l => .inr (t :: l)
def toks : List UInt8 → Int → Int → Sum (Int × Int × Int) (List Tok)
  | [], _, _ => .inr []
  | c :: cs, line, col =>
    bif isB c then toks cs line (col + 1)
    else bif cI c == 35 then toks (cs.drop (cnt notNl cs)) line (col + 1 + cnt notNl cs)
    else bif cI c == 10 then consT ⟨6, ⟨#[]⟩, line, col⟩ (toks cs (line + 1) 1)
    else match pieceL c cs with
      | .inl e => .inl (e, line, col)
      | .inr (k, f, n) => consT ⟨k, ⟨(((c :: cs).drop f).take n).toArray⟩, line, col⟩ (toks (cs.drop (f + n - 1)) line (col + f + n))
termination_by l => l.length
decreasing_by all_goals simp; try omega
/-! ## Places in a text -/
theorem at_cons {s : ByteArray} {i : Nat} {c : UInt8} {cs : List UInt8} (h : s.data.toList.drop i = c :: cs) : i < s.size ∧ byteAt s i = cI c ∧ s.data.toList.drop (i + 1) = cs := by
  have hlt : i < s.data.toList.length := by
    rcases Nat.lt_or_ge i s.data.toList.length with q | q
    · exact q
    · rw [List.drop_of_length_le q] at h; cases h
  rw [List.drop_eq_getElem_cons hlt] at h
  injection h with h1 h2
  refine ⟨by simpa using hlt, ?_, h2⟩
  unfold byteAt cI
  rw [Int.toNat_natCast, List.getD_eq_getElem?_getD, List.getElem?_eq_getElem hlt, h1]
  rfl
theorem at_nil {s : ByteArray} {i : Nat} (h : s.data.toList.drop i = []) : s.size ≤ i := by
  have := List.drop_eq_nil_iff.1 h
  simpa using this
theorem drop_len {s : ByteArray} {i : Nat} : (s.data.toList.drop i).length = s.size - i := by
  rw [List.length_drop]; simp
theorem ext_eq {s : ByteArray} {i n : Nat} : s.extract i (i + n) = ⟨((s.data.toList.drop i).take n).toArray⟩ := by
  apply ByteArray.ext
  rw [ByteArray.data_extract]
  apply Array.ext'
  rw [Array.toList_extract]
  simp [List.extract, Nat.add_sub_cancel_left]
theorem drop_drop' {s : ByteArray} {i n : Nat} {l : List UInt8} (h : s.data.toList.drop i = l) : s.data.toList.drop (i + n) = l.drop n := by
  rw [← h, List.drop_drop]
/-! ## Counting -/
theorem lex_digits_cnt {s : ByteArray} : ∀ (k i : Nat) (l : List UInt8), s.data.toList.drop i = l → l.length < k → d_lex_digits_R1 s k i = ((i + cnt isD l : Nat) : Int)
  | 0, i, l, h, hk => by omega
  | k + 1, i, [], h, hk => by
    unfold d_lex_digits_R1
    rw [decide_eq_false (by have := at_nil h; omega), Bool.false_and, cond_false]; rfl
  | k + 1, i, c :: cs, h, hk => by
    obtain ⟨h1, h2, h3⟩ := at_cons h
    unfold d_lex_digits_R1 cnt
    rw [decide_eq_true (by omega), Bool.true_and, h2]
    show (bif isD c then _ else _) = _
    cases isD c
    · rfl
    · have := lex_digits_cnt k (i + 1) cs h3 (by simpa using hk)
      rw [cond_true, cond_true, show ((i : Int) + 1) = ((i + 1 : Nat) : Int) by omega, this]
      omega
theorem lex_behind_cnt {s : ByteArray} : ∀ (k i : Nat) (l : List UInt8), s.data.toList.drop i = l → l.length < k → d_lex_behind_R1 s k i = ((i + cnt isA l : Nat) : Int)
  | 0, i, l, h, hk => by omega
  | k + 1, i, [], h, hk => by
    unfold d_lex_behind_R1
    rw [decide_eq_false (by have := at_nil h; omega), Bool.false_and, cond_false]; rfl
  | k + 1, i, c :: cs, h, hk => by
    obtain ⟨h1, h2, h3⟩ := at_cons h
    unfold d_lex_behind_R1 cnt
    rw [decide_eq_true (by omega), Bool.true_and, h2]
    show (bif isA c then _ else _) = _
    cases isA c
    · rfl
    · have := lex_behind_cnt k (i + 1) cs h3 (by simpa using hk)
      rw [cond_true, cond_true, show ((i : Int) + 1) = ((i + 1 : Nat) : Int) by omega, this]
      omega
theorem digits_eq {s : ByteArray} {i : Nat} {l : List UInt8} (h : s.data.toList.drop i = l) : d_lex_digits s i = ((i + cnt isD l : Nat) : Int) := by
  have hl : l.length = s.size - i := by rw [← h, drop_len]
  exact lex_digits_cnt _ i l h (by omega)
theorem behind_eq {s : ByteArray} {i : Nat} {l : List UInt8} (h : s.data.toList.drop i = l) : d_lex_behind s i = ((i + cnt isA l : Nat) : Int) := by
  have hl : l.length = s.size - i := by rw [← h, drop_len]
  exact lex_behind_cnt _ i l h (by omega)
theorem isD_not {c : UInt8} (h : isD c = true) : isL c = false := by
  unfold isD d_lex_digit at h; unfold isL d_lex_letter
  simp only [Bool.and_eq_true, decide_eq_true_eq] at h
  simp only [Bool.or_eq_false_iff, Bool.and_eq_false_iff, decide_eq_false_iff_not, beq_eq_false_iff_ne]
  omega
theorem kind_eq {s : ByteArray} {i : Nat} {l : List UInt8} (h : s.data.toList.drop i = l) : d_latheref03_kind s i = match l with
    | [] => 0
    | c :: _ => bif isL c then 1 else bif isD c then 2 else 0 := by
  cases l with
  | nil =>
    unfold d_latheref03_kind
    rw [decide_eq_true (by have := at_nil h; omega)]; rfl
  | cons c cs =>
    obtain ⟨h1, h2, h3⟩ := at_cons h
    unfold d_latheref03_kind
    rw [decide_eq_false (by omega), cond_false, h2]; rfl
theorem ref_digits_cnt {s : ByteArray} {p : Nat} : ∀ (k x : Nat) (l : List UInt8), s.data.toList.drop (p + x) = l → l.length < k → d_latheref03_digits_R2 s p k x = ((x + cnt isD l : Nat) : Int)
  | 0, i, l, h, hk => by omega
  | k + 1, x, [], h, hk => by
    unfold d_latheref03_digits_R2
    rw [show ((p : Int) + (x : Int)) = ((p + x : Nat) : Int) by omega, kind_eq h]; rfl
  | k + 1, x, c :: cs, h, hk => by
    obtain ⟨h1, h2, h3⟩ := at_cons h
    unfold d_latheref03_digits_R2 cnt
    rw [show ((p : Int) + (x : Int)) = ((p + x : Nat) : Int) by omega, kind_eq h]
    dsimp only
    cases hd : isD c
    · cases isL c <;> rfl
    · rw [isD_not hd]
      have := ref_digits_cnt k (x + 1) cs h3 (by simpa using hk)
      rw [cond_false, cond_true, cond_true, show ((2 : Int) == 2) = true from rfl, cond_true, show ((x : Int) + 1) = ((x + 1 : Nat) : Int) by omega, this]
      omega
theorem ref_digits_eq {s : ByteArray} {i : Nat} {l : List UInt8} (h : s.data.toList.drop i = l) : d_latheref03_digits s i = (cnt isD l : Int) := by
  have hl : l.length = s.size - i := by rw [← h, drop_len]
  have := ref_digits_cnt (p := i) (((s.size : Int) - i - 0).toNat + 1) 0 l h (by omega)
  rw [Nat.zero_add] at this
  exact this
theorem ref_word_cnt {s : ByteArray} {p : Nat} : ∀ (k x : Nat) (l : List UInt8), s.data.toList.drop (p + x) = l → l.length < k → d_latheref03_word_R4 s p k x = ((x + cnt isA l : Nat) : Int)
  | 0, i, l, h, hk => by omega
  | k + 1, x, [], h, hk => by
    unfold d_latheref03_word_R4
    rw [show ((p : Int) + (x : Int)) = ((p + x : Nat) : Int) by omega, kind_eq h]; rfl
  | k + 1, x, c :: cs, h, hk => by
    obtain ⟨h1, h2, h3⟩ := at_cons h
    unfold d_latheref03_word_R4 cnt
    rw [show ((p : Int) + (x : Int)) = ((p + x : Nat) : Int) by omega, kind_eq h]
    dsimp only
    have := ref_word_cnt k (x + 1) cs h3 (by simpa using hk)
    rw [show (((x + 1 : Nat) + cnt isA cs : Nat) : Int) = (((x + (cnt isA cs + 1) : Nat)) : Int) by omega] at this
    unfold isA at this ⊢
    cases hl : isL c
    · cases hd : isD c
      · rfl
      · exact this
    · exact this
theorem ref_word_eq {s : ByteArray} {i : Nat} {l : List UInt8} (h : s.data.toList.drop i = l) : d_latheref03_word s i = match l with
    | [] => 0
    | c :: cs => bif isL c then ((1 + cnt isA cs : Nat) : Int) else 0 := by
  unfold d_latheref03_word
  rw [kind_eq h]
  cases l with
  | nil => rfl
  | cons c cs =>
    obtain ⟨h1, h2, h3⟩ := at_cons h
    dsimp only
    cases hl : isL c
    · cases hd : isD c <;> rfl
    · have hll : (c :: cs).length = s.size - i := by rw [← h, drop_len]
      exact ref_word_cnt (p := i) (((s.size : Int) - i - 1).toNat + 1) 1 cs h3 (by simp at hll; omega)
end Go.Proofs.YtjdiohhniiooeaaDoor
