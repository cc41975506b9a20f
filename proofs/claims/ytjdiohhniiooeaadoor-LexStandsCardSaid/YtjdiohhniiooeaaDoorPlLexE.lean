/- Laws of layer 3, plain: two texts joined. -/
import Derived.Test.YtjdiohhniiooeaaDoorPlLexD
import Derived.Test.YtjdiohhniiooeaaDoorLexZ
namespace Go.Proofs.YtjdiohhniiooeaaDoor
open Go.RowKit
set_option linter.unusedVariables false
set_option linter.unusedSimpArgs false
/-- The place behind a text: line and column. -/
def plc : List UInt8 → Int → Int → Int × Int
  | [], line, col => (line, col)
  | b :: bs, line, col => bif cI b == 10 then plc bs (line + 1) 1 else plc bs line (col + 1)
theorem plc_cons {b : UInt8} {bs : List UInt8} {line col : Int} (h : cI b ≠ 10) : plc (b :: bs) line col = plc bs line (col + 1) := by
  show (bif cI b == 10 then _ else _) = _
  rw [show (cI b == 10) = false by simpa using h, cond_false]
theorem plc_nl {b : UInt8} {bs : List UInt8} {line col : Int} (h : cI b = 10) : plc (b :: bs) line col = plc bs (line + 1) 1 := by
  show (bif cI b == 10 then _ else _) = _
  rw [show (cI b == 10) = true by simpa using h, cond_true]
theorem plc_skip : ∀ (n : Nat) (l : List UInt8) (line col : Int), (∀ b ∈ l.take n, cI b ≠ 10) → n ≤ l.length → plc l line col = plc (l.drop n) line (col + n)
  | 0, l, line, col, h, hn => by simp
  | n + 1, [], line, col, h, hn => by simp at hn
  | n + 1, b :: bs, line, col, h, hn => by
    rw [plc_cons (h b (by rw [List.take_succ_cons]; exact List.mem_cons_self)), plc_skip n bs line (col + 1) (fun c hc => h c (by rw [List.take_succ_cons]; exact List.mem_cons_of_mem _ hc)) (by simpa using hn), List.drop_succ_cons]
    congr 1; omega
theorem plc_rg : ∀ (l : List UInt8) (line col : Int), line ≤ (plc l line col).1 ∧ (plc l line col).1 ≤ line + l.length
  | [], line, col => ⟨Int.le_refl _, by simp [plc]⟩
  | b :: bs, line, col => by
    rw [List.length_cons]
    by_cases h : cI b = 10
    · rw [plc_nl h]; have := plc_rg bs (line + 1) 1; omega
    · rw [plc_cons h]; have := plc_rg bs line (col + 1); omega
theorem take_all (p : UInt8 → Bool) : ∀ l : List UInt8, ∀ b ∈ l.take (cnt p l), p b = true
  | [] => fun b h => nomatch h
  | c :: cs => by
    show ∀ b ∈ (c :: cs).take (bif p c then cnt p cs + 1 else 0), p b = true
    cases h : p c
    · exact fun c h => nomatch h
    · intro d hd
      rw [cond_true, List.take_succ_cons] at hd
      rcases List.mem_cons.1 hd with rfl | q
      · exact h
      · exact take_all p cs d q
theorem isA_10 {b : UInt8} (h : isA b = true) : cI b ≠ 10 := fun e => by
  have : b = 10 := UInt8.toNat_inj.1 (by have h' : (b.toNat : Int) = 10 := e; show b.toNat = 10; omega)
  subst this; exact absurd h (by decide)
theorem isD_A {b : UInt8} (h : isD b = true) : isA b = true := by unfold isA; rw [h, Bool.or_true]
def No10 (cs : List UInt8) : Sum Int (Int × Nat × Nat) → Prop
  | .inl _ => True
  | .inr (k, f, n) => ∀ b ∈ cs.take (f + n - 1), cI b ≠ 10
theorem pieceL_no (c : UInt8) (cs : List UInt8) : No10 cs (pieceL c cs) := by
  have hA : ∀ b ∈ cs.take (cnt isA cs), cI b ≠ 10 := fun b hb => isA_10 (take_all isA cs b hb)
  have hD : ∀ b ∈ cs.take (cnt isD cs), cI b ≠ 10 := fun b hb => isA_10 (isD_A (take_all isD cs b hb))
  have hA0 : ∀ b ∈ cs.take (0 + (1 + cnt isA cs) - 1), cI b ≠ 10 := by rw [show 0 + (1 + cnt isA cs) - 1 = cnt isA cs by omega]; exact hA
  have hD0 : ∀ b ∈ cs.take (0 + (1 + cnt isD cs) - 1), cI b ≠ 10 := by rw [show 0 + (1 + cnt isD cs) - 1 = cnt isD cs by omega]; exact hD
  have hA1 : ∀ b ∈ cs.take (1 + cnt isA cs - 1), cI b ≠ 10 := by rw [show 1 + cnt isA cs - 1 = cnt isA cs by omega]; exact hA
  have hD1 : ∀ b ∈ cs.take (1 + cnt isD cs - 1), cI b ≠ 10 := by rw [show 1 + cnt isD cs - 1 = cnt isD cs by omega]; exact hD
  unfold pieceL
  refine cond_ind (P := No10 cs) (fun _ => fun b hb => nomatch hb) (fun _ => ?_)
  refine cond_ind (P := No10 cs) (fun _ => hA0) (fun _ => ?_)
  refine cond_ind (P := No10 cs) (fun _ => cond_ind (P := No10 cs) (fun _ => hD0) (fun _ => trivial)) (fun _ => ?_)
  refine cond_ind (P := No10 cs) (fun _ => cond_ind (P := No10 cs) (fun _ => hD1) (fun _ => trivial)) (fun _ => ?_)
  exact cond_ind (P := No10 cs) (fun _ => hA1) (fun _ => trivial)
theorem isB_10 {c : UInt8} (h : isB c = true) : cI c ≠ 10 := fun e => by
  unfold isB at h; rw [e] at h; exact absurd h (by decide)
def preS (ts : List Tok) : Sum (Int × Int × Int) (List Tok) → Sum (Int × Int × Int) (List Tok)
  | .inl e => .inl e
  | .inr l => .inr (ts ++ l)
theorem preS_nil (r : Sum (Int × Int × Int) (List Tok)) : preS [] r = r := by cases r <;> rfl
theorem preS_cons (t : Tok) (ts : List Tok) (r : Sum (Int × Int × Int) (List Tok)) : preS (t :: ts) r = consT t (preS ts r) := by cases r <;> rfl
/-- A text behind another one's line. -/
theorem Tk.join {B : List UInt8} {l : List UInt8} {line col : Int} {r0 : Sum (Int × Int × Int) (List Tok)} (h : Tk l line col r0) : ∀ (ts : List Tok) (r : Sum (Int × Int × Int) (List Tok)), r0 = .inr ts → Tk B ((plc l line col).1 + 1) 1 r →
    Tk (l ++ 10 :: B) line col (preS ts (consT ⟨6, ⟨#[]⟩, (plc l line col).1, (plc l line col).2⟩ r)) := by
  induction h with
  | nil => intro ts r e hB; cases e; rw [preS_nil]; exact .nl rfl rfl hB
  | blank h K ih => intro ts r e hB; rw [plc_cons (isB_10 h)] at hB ⊢; exact .blank h (ih ts r e hB)
  | rem hB' h K ih =>
    rename_i c cs line col r'
    intro ts r e hB
    have hc := cnt_app (p := notNl) (d := 10) rfl B cs
    have hle := cnt_le notNl cs
    have hp : plc (c :: cs) line col = plc (cs.drop (cnt notNl cs)) line (col + 1 + cnt notNl cs) := by
      rw [plc_cons (by omega), plc_skip (cnt notNl cs) cs line (col + 1) (fun b hb => by have := take_all notNl cs b hb; unfold notNl at this; simpa using this) hle]
    rw [hp] at hB ⊢
    refine .rem hB' h ?_
    rw [show List.append cs (10 :: B) = cs ++ 10 :: B from rfl, hc, List.drop_append_of_le_length hle]
    exact ih ts r e hB
  | nl hB' h K ih =>
    rename_i c cs line col r'
    intro ts r e hB
    rw [plc_nl h] at hB ⊢
    cases r' with
    | inl => cases e
    | inr ts' =>
      simp only [consT, Sum.inr.injEq] at e; subst e
      rw [preS_cons]
      exact .nl hB' h (ih ts' r rfl hB)
  | err hB' h35 h10 h => intro ts r e; cases e
  | piece hB' h35 h10 h K ih =>
    rename_i c cs line col k f n r'
    intro ts r e hB
    obtain ⟨p1, p2, p3, p4⟩ := pieceL_pos h
    have hno := pieceL_no c cs
    rw [h] at hno
    have hp : plc (c :: cs) line col = plc (cs.drop (f + n - 1)) line (col + f + n) := by
      rw [plc_cons h10, plc_skip (f + n - 1) cs line (col + 1) hno (by omega)]
      congr 1; omega
    rw [hp] at hB ⊢
    cases r' with
    | inl => cases e
    | inr ts' =>
      simp only [consT, Sum.inr.injEq] at e; subst e
      rw [preS_cons]
      have := Tk.piece (cs := cs ++ 10 :: B) (line := line) (col := col) hB' h35 h10 (by rw [pieceL_app (by decide)]; exact h) (by rw [List.drop_append_of_le_length (by omega)]; exact ih ts' r rfl hB)
      rw [show (c :: (cs ++ 10 :: B)).drop f = (c :: cs).drop f ++ 10 :: B by rw [← List.cons_append, List.drop_append_of_le_length (by simp; omega)], List.take_append_of_le_length (by rw [List.length_drop, List.length_cons]; omega)] at this
      exact this
def shL (d : Int) (t : Tok) : Tok := ⟨t.k, t.text, t.line + d, t.col⟩
def shLS (d : Int) : Sum (Int × Int × Int) (List Tok) → Sum (Int × Int × Int) (List Tok)
  | .inl e => .inl (e.1, e.2.1 + d, e.2.2)
  | .inr ts => .inr (ts.map (shL d))
theorem shLS_consT (d : Int) (t : Tok) (r : Sum (Int × Int × Int) (List Tok)) : shLS d (consT t r) = consT (shL d t) (shLS d r) := by cases r <;> rfl
theorem Tk.shiftL {d : Int} {l : List UInt8} {line col : Int} {r : Sum (Int × Int × Int) (List Tok)} (h : Tk l line col r) : Tk l (line + d) col (shLS d r) := by
  induction h with
  | nil => exact .nil _ _
  | blank h K ih => exact .blank h ih
  | rem hB h K ih => exact .rem hB h ih
  | nl hB h K ih => rw [shLS_consT]; exact .nl hB h (by rw [Int.add_right_comm] at ih; exact ih)
  | err hB h35 h10 h => exact .err hB h35 h10 h
  | piece hB h35 h10 h K ih => rw [shLS_consT]; exact .piece hB h35 h10 h ih
/-- Lines of pieces. -/
theorem Tk.lines {l : List UInt8} {line col : Int} {r : Sum (Int × Int × Int) (List Tok)} (h : Tk l line col r) : ∀ ts, r = .inr ts → ∀ t ∈ ts, line ≤ t.line ∧ t.line ≤ line + l.length := by
  induction h with
  | nil => intro ts h t ht; cases h; cases ht
  | blank h K ih => intro ts hts t ht; have := ih ts hts t ht; simp; omega
  | rem hB h K ih =>
    rename_i c cs line col r
    intro ts hts t ht
    have := ih ts hts t ht
    rw [List.length_drop] at this; simp; omega
  | nl hB h K ih =>
    rename_i c cs line col r
    intro ts hts t ht
    cases r with
    | inl e' => cases hts
    | inr ts' =>
      simp only [consT, Sum.inr.injEq] at hts; subst hts
      rcases List.mem_cons.1 ht with rfl | q
      · simp; omega
      · have := ih ts' rfl t q; simp; omega
  | err hB h35 h10 h => intro ts hts; cases hts
  | piece hB h35 h10 h K ih =>
    rename_i c cs line col k f n r
    intro ts hts t ht
    cases r with
    | inl e' => cases hts
    | inr ts' =>
      simp only [consT, Sum.inr.injEq] at hts; subst hts
      rcases List.mem_cons.1 ht with rfl | q
      · simp; omega
      · have := ih ts' rfl t q; rw [List.length_drop] at this; simp; omega
theorem join_R11 {s : ByteArray} : ∀ (k i : Nat) (l : List UInt8) (fr lines : Int), s.data.toList.drop i = l → i ≤ s.size → l.length < k → ∃ x y z, d_lathelaw03_LexJoins_R11 s k i fr lines = (x, y, z) ∧ plc l lines ((i : Int) - fr + 1) = (z, (s.size : Int) - y + 1)
  | 0, i, l, fr, lines, h, hi, hk => by omega
  | k + 1, i, [], fr, lines, h, hi, hk => by
    have := at_nil h
    unfold d_lathelaw03_LexJoins_R11
    rw [decide_eq_false (by omega)]
    exact ⟨_, _, _, rfl, by rw [show (s.size : Int) = i by omega]; rfl⟩
  | k + 1, i, c :: cs, fr, lines, h, hi, hk => by
    obtain ⟨h1, h2, h3⟩ := at_cons h
    unfold d_lathelaw03_LexJoins_R11
    rw [decide_eq_true (by omega), cond_true, h2, show ((i : Int) + 1) = ((i + 1 : Nat) : Int) by omega]
    cases hc : (cI c == 10)
    · rw [plc_cons (by simpa using hc), cond_false]
      obtain ⟨x, y, z, e1, e2⟩ := join_R11 k (i + 1) cs fr lines h3 (by omega) (by simpa using hk)
      exact ⟨x, y, z, e1, by rw [← e2]; congr 1; omega⟩
    · rw [plc_nl (by simpa using hc), cond_true]
      obtain ⟨x, y, z, e1, e2⟩ := join_R11 k (i + 1) cs ((i + 1 : Nat) : Int) (lines + 1) h3 (by omega) (by simpa using hk)
      exact ⟨x, y, z, e1, by rw [← e2]; congr 1; omega⟩
def addT (d : Int) (t : Tok) : Tok := ⟨t.k, t.text, IntKind.i64.wrap (t.line + d), t.col⟩
theorem join_R19 {s : ByteArray} {d : Int} (ts : List Tok) (hn : (d_lex_Tokens s).1 = ts) : ∀ (k x : Nat) (out : List Tok), ts.length < k + x → x ≤ ts.length → (d_lathelaw03_LexJoins_R19 s d k out x).1 = out ++ (ts.drop x).map (addT d)
  | 0, x, out, h, h' => by omega
  | k + 1, x, out, h, h' => by
    unfold d_lathelaw03_LexJoins_R19
    rw [hn]
    rcases Nat.lt_or_ge x ts.length with q | q
    · rw [decide_eq_true (by omega), cond_true, Int.toNat_natCast, List.drop_eq_getElem_cons q, show ts.getD x Dat.d = ts[x] by rw [List.getD_eq_getElem?_getD, List.getElem?_eq_getElem q]; rfl]
      have := join_R19 (d := d) ts hn k (x + 1) (out ++ [addT d ts[x]]) (by omega) (by omega)
      rw [List.map_cons, show out ++ addT d ts[x] :: List.map (addT d) (ts.drop (x + 1)) = (out ++ [addT d ts[x]]) ++ List.map (addT d) (ts.drop (x + 1)) by simp]
      exact this
    · rw [decide_eq_false (by omega), cond_false, List.drop_of_length_le q, List.map_nil, List.append_nil]
theorem code_zero {s : ByteArray} (h : (d_lex_Tokens s).2.code = 0) : s.size ≤ 65536 ∧ ∃ ts, toks s.data.toList 1 1 = .inr ts ∧ d_lex_Tokens s = (ts, ⟨0, 0, 0⟩) := by
  have hs := (lex_small h).1
  rw [lex_Tokens_eq] at h ⊢
  unfold toksS at h ⊢
  rw [decide_eq_false (by omega), cond_false] at h ⊢
  cases hr : toks s.data.toList 1 1 with
  | inl e =>
    rw [hr] at h
    have := (Tk.of s.data.toList 1 1).code e hr
    have h' : e.1 = 0 := h
    omega
  | inr ts => exact ⟨hs, ts, rfl, rfl⟩
theorem LexJoins_true (s u : ByteArray) : d_lathelaw03_LexJoins s u = true := by
  unfold d_lathelaw03_LexJoins
  rw [lives_true, Bool.not_true, cond_false]
  refine cond_ind (P := fun r => r = true) (fun _ => rfl) (fun hc => ?_)
  simp only [Bool.or_eq_false_iff, bne_eq_false_iff_eq, decide_eq_false_iff_not] at hc
  obtain ⟨⟨h0, h1⟩, hsum⟩ := hc
  obtain ⟨hs, xs, hx, ex⟩ := code_zero h0
  obtain ⟨hu, ys, hy, ey⟩ := code_zero h1
  rw [wrapi64 (by omega) (by omega)] at hsum
  obtain ⟨x, y, z, e11, epl⟩ := join_R11 (s := s) (((s.size : Int) - 0).toNat + 1) 0 _ 0 1 List.drop_zero (by omega) (by rw [← size_len]; omega)
  rw [show ((0 : Nat) : Int) = 0 from rfl] at e11 epl
  rw [e11]
  show (((d_lex_Tokens ((s ++ (⟨#[10]⟩ : ByteArray)) ++ u)).2.code == 0) && sameL (d_lex_Tokens ((s ++ (⟨#[10]⟩ : ByteArray)) ++ u)).1 (d_lathelaw03_LexJoins_R19 u z ((((d_lex_Tokens u).1.length : Int) - 0).toNat + 1) ((([] : List Tok) ++ (d_lex_Tokens s).1) ++ [⟨6, ByteArray.empty, z, (s.size : Int) - y + 1⟩]) 0).1) = true
  have hd1 : ((s ++ (⟨#[10]⟩ : ByteArray)) ++ u).data.toList = s.data.toList ++ 10 :: u.data.toList := by simp
  have hs1 : ((s ++ (⟨#[10]⟩ : ByteArray)) ++ u).size = s.size + 1 + u.size := by rw [size_len, hd1]; simp; omega
  have hX := Tk.of s.data.toList 1 1
  rw [hx] at hX
  have hY := Tk.of u.data.toList 1 1
  rw [hy] at hY
  have hpl : plc s.data.toList 1 1 = (z, (s.size : Int) - y + 1) := by rw [← epl]; rfl
  have hJ := hX.join xs (shLS z (.inr ys)) rfl (by rw [hpl]; have := hY.shiftL (d := z); rw [Int.add_comm] at this; exact this)
  rw [hpl] at hJ
  have hz := hJ.fn
  have eZ : d_lex_Tokens ((s ++ (⟨#[10]⟩ : ByteArray)) ++ u) = (xs ++ ⟨6, ⟨#[]⟩, z, (s.size : Int) - y + 1⟩ :: ys.map (shL z), ⟨0, 0, 0⟩) := by
    rw [lex_Tokens_eq]
    unfold toksS
    rw [decide_eq_false (by omega), cond_false, hd1, hz]
    rfl
  rw [eZ]
  show (true && sameL _ _) = true
  rw [Bool.true_and]
  refine decide_eq_true ?_
  have h19 := join_R19 (s := u) (d := z) ys (by rw [ey]) ((((d_lex_Tokens u).1.length : Int) - 0).toNat + 1) 0 ((([] : List Tok) ++ (d_lex_Tokens s).1) ++ [⟨6, ByteArray.empty, z, (s.size : Int) - y + 1⟩]) (by rw [ey]; dsimp only; omega) (by omega)
  rw [show ((0 : Nat) : Int) = 0 from rfl] at h19
  rw [h19, ex, List.drop_zero, List.nil_append, List.append_assoc]
  refine congrArg (fun l => xs ++ ((⟨6, ⟨#[]⟩, z, (s.size : Int) - y + 1⟩ : Tok) :: l)) (List.map_congr_left fun t ht => ?_)
  have hl := hY.lines ys rfl t ht
  rw [← size_len] at hl
  have hzl : 1 ≤ z ∧ z ≤ 1 + 65536 := by
    have := plc_rg s.data.toList 1 1
    rw [hpl, ← size_len] at this
    omega
  show (⟨t.k, t.text, t.line + z, t.col⟩ : Tok) = ⟨t.k, t.text, IntKind.i64.wrap (t.line + z), t.col⟩
  rw [wrapi64 (by omega) (by omega)]
end Go.Proofs.YtjdiohhniiooeaaDoor
