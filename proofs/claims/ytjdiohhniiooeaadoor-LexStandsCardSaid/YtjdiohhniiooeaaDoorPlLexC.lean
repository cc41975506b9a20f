/- Laws of layer 3, plain: cuts and words. -/
import Derived.Test.YtjdiohhniiooeaaDoorPlLexB
import Derived.Test.YtjdiohhniiooeaaDoorLexV
import Derived.Test.YtjdiohhniiooeaaDoorLexW
import Derived.Test.YtjdiohhniiooeaaDoorLexX
namespace Go.Proofs.YtjdiohhniiooeaaDoor
open Go.RowKit
set_option linter.unusedVariables false
set_option linter.unusedSimpArgs false
/-- How the plain function goes, as a relation. -/
inductive Tk : List UInt8 → Int → Int → Sum (Int × Int × Int) (List Tok) → Prop
  | nil (line col : Int) : Tk [] line col (.inr [])
  | blank {c : UInt8} {cs : List UInt8} {line col : Int} {r : Sum (Int × Int × Int) (List Tok)} (h : isB c = true) (K : Tk cs line (col + 1) r) : Tk (c :: cs) line col r
  | rem {c : UInt8} {cs : List UInt8} {line col : Int} {r : Sum (Int × Int × Int) (List Tok)} (hB : isB c = false) (h : cI c = 35) (K : Tk (cs.drop (cnt notNl cs)) line (col + 1 + cnt notNl cs) r) : Tk (c :: cs) line col r
  | nl {c : UInt8} {cs : List UInt8} {line col : Int} {r : Sum (Int × Int × Int) (List Tok)} (hB : isB c = false) (h : cI c = 10) (K : Tk cs (line + 1) 1 r) : Tk (c :: cs) line col (consT ⟨6, ⟨#[]⟩, line, col⟩ r)
  | err {c : UInt8} {cs : List UInt8} {line col e : Int} (hB : isB c = false) (h35 : cI c ≠ 35) (h10 : cI c ≠ 10) (h : pieceL c cs = .inl e) : Tk (c :: cs) line col (.inl (e, line, col))
  | piece {c : UInt8} {cs : List UInt8} {line col k : Int} {f n : Nat} {r : Sum (Int × Int × Int) (List Tok)} (hB : isB c = false) (h35 : cI c ≠ 35) (h10 : cI c ≠ 10) (h : pieceL c cs = .inr (k, f, n))
      (K : Tk (cs.drop (f + n - 1)) line (col + f + n) r) : Tk (c :: cs) line col (consT ⟨k, ⟨(((c :: cs).drop f).take n).toArray⟩, line, col⟩ r)
theorem toks_Tk : ∀ (n : Nat) (l : List UInt8) (line col : Int), l.length ≤ n → Tk l line col (toks l line col)
  | n, [], line, col, h => by rw [toks]; exact .nil _ _
  | 0, c :: cs, line, col, h => by simp at h
  | n + 1, c :: cs, line, col, h => by
    rw [List.length_cons] at h
    rw [toks]
    cases hB : isB c
    case true => exact .blank hB (toks_Tk n cs line (col + 1) (by omega))
    rw [cond_false]
    cases h35 : cI c == 35
    case true => exact .rem hB (by simpa using h35) (toks_Tk n _ line _ (by rw [List.length_drop]; omega))
    rw [cond_false]
    cases h10 : cI c == 10
    case true => exact .nl hB (by simpa using h10) (toks_Tk n cs _ _ (by omega))
    rw [cond_false]
    cases hp : pieceL c cs with
    | inl e => exact .err hB (by simpa using h35) (by simpa using h10) hp
    | inr r =>
      obtain ⟨k, f, m⟩ := r
      exact .piece hB (by simpa using h35) (by simpa using h10) hp (toks_Tk n _ _ _ (by rw [List.length_drop]; omega))
theorem Tk.fn {l : List UInt8} {line col : Int} {r : Sum (Int × Int × Int) (List Tok)} (h : Tk l line col r) : toks l line col = r := by
  induction h with
  | nil => rw [toks]
  | blank h K ih => rw [toks, h, cond_true, ih]
  | rem hB h K ih => rw [toks, hB, cond_false, show (cI _ == 35) = true from by simpa using h, cond_true, ih]
  | nl hB h K ih => rw [toks, hB, cond_false, h, show ((10 : Int) == 35) = false from rfl, cond_false, show ((10 : Int) == 10) = true from rfl, cond_true, ih]
  | err hB h35 h10 h => rw [toks, hB, cond_false, show (cI _ == 35) = false from by simpa using h35, cond_false, show (cI _ == 10) = false from by simpa using h10, cond_false, h]
  | piece hB h35 h10 h K ih => rw [toks, hB, cond_false, show (cI _ == 35) = false from by simpa using h35, cond_false, show (cI _ == 10) = false from by simpa using h10, cond_false, h]; dsimp only; rw [ih]
theorem Tk.of (l : List UInt8) (line col : Int) : Tk l line col (toks l line col) := toks_Tk _ l line col (Nat.le_refl _)
/-- A fault is of kind 1 or 2. -/
theorem Tk.code {l : List UInt8} {line col : Int} {r : Sum (Int × Int × Int) (List Tok)} (h : Tk l line col r) : ∀ e, r = .inl e → e.1 = 1 ∨ e.1 = 2 := by
  induction h with
  | nil => exact fun e h => nomatch h
  | blank h K ih => exact ih
  | rem hB h K ih => exact ih
  | nl hB h K ih => 
    intro e he
    rename_i r
    cases r with
    | inl e' => simp only [consT, Sum.inl.injEq] at he; subst he; exact ih _ rfl
    | inr => cases he
  | err hB h35 h10 h => intro e he; cases he; exact pieceL_err h
  | piece hB h35 h10 h K ih =>
    intro e he
    rename_i r
    cases r with
    | inl e' => simp only [consT, Sum.inl.injEq] at he; subst he; exact ih _ rfl
    | inr => cases he
theorem arr_size (l : List UInt8) : (⟨l.toArray⟩ : ByteArray).size = l.length := by rw [size_len]
/-- Texts of pieces are no longer than the text; there are no more pieces than letters. -/
theorem Tk.text {l : List UInt8} {line col : Int} {r : Sum (Int × Int × Int) (List Tok)} (h : Tk l line col r) : ∀ ts, r = .inr ts → ts.length ≤ l.length ∧ ∀ t ∈ ts, t.text.size ≤ l.length := by
  induction h with
  | nil => intro ts h; cases h; exact ⟨Nat.le_refl _, fun t h => nomatch h⟩
  | blank h K ih => intro ts e; obtain ⟨h1, h2⟩ := ih ts e; exact ⟨by simp; omega, fun t ht => by have := h2 t ht; simp; omega⟩
  | rem hB h K ih => intro ts e; obtain ⟨h1, h2⟩ := ih ts e; rw [List.length_drop] at h1; exact ⟨by simp; omega, fun t ht => by have := h2 t ht; rw [List.length_drop] at this; simp; omega⟩
  | nl hB h K ih =>
    intro ts e
    rename_i r
    cases r with
    | inl e' => cases e
    | inr ts' =>
      simp only [consT, Sum.inr.injEq] at e; subst e
      obtain ⟨h1, h2⟩ := ih ts' rfl
      refine ⟨by simp; omega, fun t ht => ?_⟩
      rcases List.mem_cons.1 ht with rfl | q
      · rw [arr_size]; simp
      · have := h2 t q; simp; omega
  | err hB h35 h10 h => intro ts e; cases e
  | piece hB h35 h10 h K ih =>
    intro ts e
    rename_i r
    cases r with
    | inl e' => cases e
    | inr ts' =>
      simp only [consT, Sum.inr.injEq] at e; subst e
      obtain ⟨h1, h2⟩ := ih ts' rfl
      rw [List.length_drop] at h1
      refine ⟨by simp; omega, fun t ht => ?_⟩
      rcases List.mem_cons.1 ht with rfl | q
      · show (⟨_⟩ : ByteArray).size ≤ _
        rw [arr_size, List.length_take, List.length_drop]; omega
      · have := h2 t q; rw [List.length_drop] at this; simp; omega
theorem lives_true : d_lathelaw03_lives = true := by kernel_rfl
/-! ## Cuts -/
def wordL : List UInt8 → Bool
  | [] => false
  | c :: cs => isL c && decide (cnt isA cs = cs.length)
theorem lex_Word_eq (s : ByteArray) : d_lex_Word s = wordL s.data.toList := by
  unfold d_lex_Word
  have hs : strEq s ⟨#[]⟩ = s.data.toList.isEmpty := by
    rw [Bool.eq_iff_iff, strEq_iff, List.isEmpty_iff]
    exact ⟨fun h => by rw [h], fun h => ByteArray.ext (Array.ext' h)⟩
  have hb := behind_eq (s := s) (i := 0) List.drop_zero
  rw [hs, show ((0 : Nat) : Int) = 0 from rfl] at *
  rw [hb, byteAt0, size_len]
  cases s.data.toList with
  | nil => rfl
  | cons c cs =>
    show ((true && isL c) && _) = (isL c && _)
    rw [Bool.true_and]
    cases hl : isL c
    · rfl
    · rw [Bool.true_and, Bool.true_and, cnt_true (isA_of hl), Bool.eq_iff_iff]; simp; omega
theorem ref_Word_eq (s : ByteArray) : d_latheref03_Word s = wordL s.data.toList := by
  unfold d_latheref03_Word
  rw [size_len]
  cases hl : s.data.toList with
  | nil => rfl
  | cons c cs =>
    have hb : d_latheref03_word s 0 = bif isL c then ((1 + cnt isA cs : Nat) : Int) else 0 := ref_word_eq (s := s) (i := 0) (l := c :: cs) (by rw [List.drop_zero, hl])
    rw [hb]
    rw [decide_eq_true (show (0 : Int) < (c :: cs).length by simp), Bool.true_and]
    show _ = (isL c && decide (cnt isA cs = cs.length))
    cases hl : isL c
    · rw [cond_false, Bool.false_and]; simp; omega
    · rw [cond_true, Bool.true_and, Bool.eq_iff_iff]; simp; omega
theorem LexCuts_true (s : ByteArray) : d_lathelaw03_LexCuts s = true := by
  unfold d_lathelaw03_LexCuts
  rw [lives_true, Bool.not_true, cond_false, lex_Tokens_eq, ref_Tokens_eq, lex_Word_eq, ref_Word_eq]
  have h : outX [] (toksS s) = ((outR [] (toksS s)).1, (⟨(outR [] (toksS s)).2.1, (outR [] (toksS s)).2.2.1, (outR [] (toksS s)).2.2.2⟩ : Flt)) := by
    cases toksS s <;> rfl
  rw [h]
  dsimp only
  rw [decide_eq_true rfl, show sameL (outR [] (toksS s)).1 (outR [] (toksS s)).1 = true from decide_eq_true rfl]
  simp [letV]
/-! ## Words -/
theorem pieceL_word {c : UInt8} {cs : List UInt8} (h : isL c = true) : pieceL c cs = .inr (1, 0, 1 + cnt isA cs) := by
  have := isL_rg h
  unfold pieceL
  rw [show (((((cI c == 61) || (cI c == 44)) || (cI c == 40)) || (cI c == 41)) || (cI c == 58)) = false by
    simp only [Bool.or_eq_false_iff, beq_eq_false_iff_ne]; omega, cond_false, h, cond_true]
theorem pieceL_word' {c : UInt8} {cs : List UInt8} {f n : Nat} (h : pieceL c cs = .inr (1, f, n)) : isL c = true ∧ f = 0 ∧ n = 1 + cnt isA cs := by
  cases hl : isL c
  · exfalso
    revert h
    unfold pieceL
    rw [hl, cond_false]
    refine cond_ind (P := fun r : Sum Int (Int × Nat × Nat) => r = .inr (1, f, n) → False) (fun _ h => by simp at h) (fun _ => ?_)
    refine cond_ind (P := fun r : Sum Int (Int × Nat × Nat) => r = .inr (1, f, n) → False) (fun _ => cond_ind (P := fun r : Sum Int (Int × Nat × Nat) => r = .inr (1, f, n) → False) (fun _ h => by simp at h) (fun _ h => by simp at h)) (fun _ => ?_)
    refine cond_ind (P := fun r : Sum Int (Int × Nat × Nat) => r = .inr (1, f, n) → False) (fun _ => cond_ind (P := fun r : Sum Int (Int × Nat × Nat) => r = .inr (1, f, n) → False) (fun _ h => by simp at h) (fun _ h => by simp at h)) (fun _ => ?_)
    exact cond_ind (P := fun r : Sum Int (Int × Nat × Nat) => r = .inr (1, f, n) → False) (fun _ h => by simp at h) (fun _ h => by simp at h)
  · rw [pieceL_word hl] at h
    simp only [Sum.inr.injEq, Prod.mk.injEq, true_and] at h
    exact ⟨rfl, h.1.symm, h.2.symm⟩
theorem isL_not {c : UInt8} (h : isL c = true) : isB c = false ∧ cI c ≠ 35 ∧ cI c ≠ 10 := by
  have := isL_rg h
  unfold isB
  simp only [Bool.or_eq_false_iff, beq_eq_false_iff_ne]
  omega
theorem word_toks (s : ByteArray) : wordL s.data.toList = true ↔ ∃ t, toks s.data.toList 1 1 = .inr [t] ∧ t.k = 1 ∧ t.text = s := by
  constructor
  · intro h
    cases hl : s.data.toList with
    | nil => rw [hl] at h; cases h
    | cons c cs =>
      rw [hl] at h
      unfold wordL at h
      rw [Bool.and_eq_true, decide_eq_true_eq] at h
      obtain ⟨h1, h2, h3⟩ := isL_not h.1
      refine ⟨⟨1, ⟨(((c :: cs).drop 0).take (1 + cnt isA cs)).toArray⟩, 1, 1⟩, ?_, rfl, ?_⟩
      · have := (Tk.piece (cs := cs) (line := 1) (col := 1) h1 h2 h3 (pieceL_word h.1) (Tk.of _ _ _)).fn
        rw [this, h.2, show 0 + (1 + cs.length) - 1 = cs.length by omega, List.drop_length, toks]; rfl
      · apply ByteArray.ext; apply Array.ext'
        show ((c :: cs).drop 0).take _ = _
        rw [h.2, hl, List.drop_zero, List.take_of_length_le (by simp; omega)]
  · rintro ⟨t, h1, h2, h3⟩
    have hT := Tk.of s.data.toList 1 1
    rw [h1] at hT
    have hsz : t.text.size = s.data.toList.length := by rw [h3, size_len]
    generalize s.data.toList = l at *
    generalize hr : (Sum.inr [t] : Sum (Int × Int × Int) (List Tok)) = r at hT
    cases hT with
    | nil => cases hr
    | blank h K =>
      have := (K.text [t] hr.symm).2 t List.mem_cons_self
      simp at hsz; omega
    | rem hB h K =>
      have := (K.text [t] hr.symm).2 t List.mem_cons_self
      rw [List.length_drop] at this
      simp at hsz; omega
    | nl hB h K =>
      rename_i r
      cases r with
      | inl => cases hr
      | inr ts => simp only [consT, Sum.inr.injEq, List.cons.injEq] at hr; rw [hr.1] at h2; cases h2
    | err => cases hr
    | piece hB h35 h10 h K =>
      rename_i r
      cases r with
      | inl => cases hr
      | inr ts =>
        simp only [consT, Sum.inr.injEq, List.cons.injEq] at hr
        obtain ⟨rfl, _⟩ := hr
        dsimp only at h2
        subst h2
        obtain ⟨g1, rfl, rfl⟩ := pieceL_word' h
        dsimp only at hsz
        rw [arr_size, List.length_take, List.drop_zero] at hsz
        have := cnt_le isA ‹List UInt8›
        show (isL _ && decide (cnt isA _ = _)) = true
        rw [g1, Bool.true_and, decide_eq_true_eq]
        simp at hsz; omega
theorem LexWords_true (s : ByteArray) : d_lathelaw03_LexWords s = true := by
  unfold d_lathelaw03_LexWords
  rw [lives_true, Bool.not_true, cond_false]
  refine cond_ind (P := fun r => r = true) (fun _ => rfl) (fun hs => ?_)
  rw [decide_eq_false_iff_not] at hs
  rw [lex_Tokens_eq, lex_Word_eq]
  unfold toksS
  rw [decide_eq_false (by omega), cond_false, beq_iff_eq, Bool.eq_iff_iff, word_toks]
  cases ht : toks s.data.toList 1 1 with
  | inl e =>
    have := (Tk.of s.data.toList 1 1).code e ht
    simp only [outX]
    constructor
    · rintro ⟨t, h, _⟩; cases h
    · intro h
      simp only [Bool.and_eq_true, beq_iff_eq] at h
      omega
  | inr ts =>
    simp only [outX, List.nil_append]
    constructor
    · rintro ⟨t, h, h1, h2⟩
      cases h
      simp only [Bool.and_eq_true, beq_iff_eq]
      exact ⟨⟨⟨trivial, rfl⟩, h1⟩, strEq_iff.2 h2⟩
    · intro h
      simp only [Bool.and_eq_true, beq_iff_eq, strEq_iff] at h
      obtain ⟨⟨⟨_, h0⟩, h1⟩, h2⟩ := h
      obtain ⟨t, rfl⟩ := List.length_eq_one_iff.1 (show ts.length = 1 by omega)
      exact ⟨t, rfl, h1, h2⟩
end Go.Proofs.YtjdiohhniiooeaaDoor
