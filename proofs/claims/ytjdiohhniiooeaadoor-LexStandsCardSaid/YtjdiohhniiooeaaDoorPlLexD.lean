/- Laws of layer 3, plain: remarks. -/
import Derived.Test.YtjdiohhniiooeaaDoorPlLexC
import Derived.Test.YtjdiohhniiooeaaDoorLexM
namespace Go.Proofs.YtjdiohhniiooeaaDoor
open Go.RowKit
set_option linter.unusedVariables false
set_option linter.unusedSimpArgs false
theorem cnt_app {p : UInt8 → Bool} {d : UInt8} (h : p d = false) (B : List UInt8) : ∀ cs, cnt p (cs ++ d :: B) = cnt p cs
  | [] => by show (bif p d then _ else _) = _; rw [h]; rfl
  | c :: cs => by show (bif p c then _ else _) = (bif p c then _ else _); rw [show (List.append cs (d :: B)) = cs ++ d :: B from rfl, cnt_app h B cs]
theorem isA_not {d : UInt8} (h : isA d = false) : isL d = false ∧ isD d = false := by unfold isA at h; simpa using h
theorem pieceL_app {c d : UInt8} {cs B : List UInt8} (h : isA d = false) : pieceL c (cs ++ d :: B) = pieceL c cs := by
  have hA := cnt_app (p := isA) h B cs
  have hD := cnt_app (p := isD) (isA_not h).2 B cs
  unfold pieceL
  rw [hA, hD, List.take_append_of_le_length (cnt_le _ _)]
  congr 6
  cases cs with
  | nil => exact (isA_not h).1
  | cons => rfl
/-- A text behind a byte that ends every piece. -/
theorem Tk.app35 {R : List UInt8} (hR : ∀ c ∈ R, cI c ≠ 10) {l : List UInt8} {line col : Int} {r : Sum (Int × Int × Int) (List Tok)} (h : Tk l line col r) (hn : ∀ c ∈ l, cI c ≠ 10 ∧ cI c ≠ 35) : Tk (l ++ 35 :: R) line col r := by
  have hcnt : ∀ (R : List UInt8), (∀ c ∈ R, cI c ≠ 10) → cnt notNl R = R.length := by
    intro R
    induction R with
    | nil => exact fun _ => rfl
    | cons c cs ih =>
      intro hR
      rw [cnt_true (show notNl c = true by unfold notNl; simpa using hR c List.mem_cons_self), ih fun d hd => hR d (List.mem_cons_of_mem _ hd), List.length_cons, Nat.add_comm]
  induction h with
  | nil => exact .rem rfl rfl (by rw [hcnt R hR, List.drop_length]; exact .nil _ _)
  | blank h K ih => exact .blank h (ih fun c hc => hn c (List.mem_cons_of_mem _ hc))
  | rem hB h K ih => exact absurd h (hn _ List.mem_cons_self).2
  | nl hB h K ih => exact absurd h (hn _ List.mem_cons_self).1
  | err hB h35 h10 h => exact .err hB h35 h10 (by rw [show List.append _ (35 :: R) = _ ++ 35 :: R from rfl, pieceL_app (by decide)]; exact h)
  | piece hB h35 h10 h K ih =>
    rename_i c cs line col k f n r
    obtain ⟨p1, p2, p3, p4⟩ := pieceL_pos h
    have hK := ih fun c hc => hn c (List.mem_cons_of_mem _ (List.mem_of_mem_drop hc))
    have := Tk.piece (cs := cs ++ 35 :: R) hB h35 h10 (by rw [pieceL_app (by decide)]; exact h) (by rw [List.drop_append_of_le_length (by omega)]; exact hK)
    rw [show (c :: (cs ++ 35 :: R)).drop f = (c :: cs).drop f ++ 35 :: R by rw [← List.cons_append, List.drop_append_of_le_length (by simp; omega)], List.take_append_of_le_length (by rw [List.length_drop, List.length_cons]; omega)] at this
    exact this
def shT (d : Int) (t : Tok) : Tok := ⟨t.k, t.text, t.line, t.col + d⟩
def shS (d : Int) : Sum (Int × Int × Int) (List Tok) → Sum (Int × Int × Int) (List Tok)
  | .inl e => .inl (e.1, e.2.1, e.2.2 + d)
  | .inr ts => .inr (ts.map (shT d))
theorem shS_consT (d : Int) (t : Tok) (r : Sum (Int × Int × Int) (List Tok)) : shS d (consT t r) = consT (shT d t) (shS d r) := by cases r <;> rfl
theorem Tk.shift {d : Int} {l : List UInt8} {line col : Int} {r : Sum (Int × Int × Int) (List Tok)} (h : Tk l line col r) (hn : ∀ c ∈ l, cI c ≠ 10) : Tk l line (col + d) (shS d r) := by
  induction h with
  | nil => exact .nil _ _
  | blank h K ih => exact .blank h (by have := ih fun c hc => hn c (List.mem_cons_of_mem _ hc); rw [Int.add_right_comm] at this; exact this)
  | rem hB h K ih => exact .rem hB h (by have := ih fun c hc => hn c (List.mem_cons_of_mem _ (List.mem_of_mem_drop hc)); rw [Int.add_right_comm, Int.add_right_comm _ 1 d] at this; exact this)
  | nl hB h K ih => exact absurd h (hn _ List.mem_cons_self)
  | err hB h35 h10 h => exact .err hB h35 h10 h
  | piece hB h35 h10 h K ih =>
    rw [shS_consT]
    have := ih fun c hc => hn c (List.mem_cons_of_mem _ (List.mem_of_mem_drop hc))
    exact .piece hB h35 h10 h (by rw [Int.add_right_comm, Int.add_right_comm _ _ d] at this; exact this)
/-- Columns of a line's pieces lie on it. -/
theorem Tk.cols {l : List UInt8} {line col : Int} {r : Sum (Int × Int × Int) (List Tok)} (h : Tk l line col r) (hn : ∀ c ∈ l, cI c ≠ 10) :
    (∀ e, r = .inl e → col ≤ e.2.2 ∧ e.2.2 ≤ col + l.length) ∧ ∀ ts, r = .inr ts → ∀ t ∈ ts, col ≤ t.col ∧ t.col ≤ col + l.length := by
  induction h with
  | nil => exact ⟨(fun e h => nomatch h), fun ts h t ht => by cases h; cases ht⟩
  | blank h K ih =>
    obtain ⟨h1, h2⟩ := ih fun c hc => hn c (List.mem_cons_of_mem _ hc)
    exact ⟨fun e he => by have := h1 e he; simp; omega, fun ts hts t ht => by have := h2 ts hts t ht; simp; omega⟩
  | rem hB h K ih =>
    rename_i c cs line col r
    have := cnt_le notNl cs
    obtain ⟨h1, h2⟩ := ih fun c hc => hn c (List.mem_cons_of_mem _ (List.mem_of_mem_drop hc))
    rw [List.length_drop] at h1 h2
    exact ⟨fun e he => by have := h1 e he; simp; omega, fun ts hts t ht => by have := h2 ts hts t ht; simp; omega⟩
  | nl hB h K ih => exact absurd h (hn _ List.mem_cons_self)
  | err hB h35 h10 h => exact ⟨fun e he => by cases he; simp; omega, fun ts hts => by cases hts⟩
  | piece hB h35 h10 h K ih =>
    rename_i c cs line col k f n r
    obtain ⟨p1, p2, p3, p4⟩ := pieceL_pos h
    obtain ⟨h1, h2⟩ := ih fun c hc => hn c (List.mem_cons_of_mem _ (List.mem_of_mem_drop hc))
    rw [List.length_drop] at h1 h2
    cases r with
    | inl e' => exact ⟨fun e he => by simp only [consT, Sum.inl.injEq] at he; subst he; have := h1 e' rfl; simp; omega, fun ts hts => by cases hts⟩
    | inr ts' =>
      refine ⟨(fun e he => by cases he), fun ts hts t ht => ?_⟩
      simp only [consT, Sum.inr.injEq] at hts
      subst hts
      rcases List.mem_cons.1 ht with rfl | q
      · simp; omega
      · have := h2 ts' rfl t q; simp; omega
/-! ## The law's loops -/
theorem rem_R4 {s : ByteArray} : ∀ (k i : Nat) (l : List UInt8), s.data.toList.drop i = l → l.length < k → d_lathelaw03_LexRemarks_R4 s k i = .inl true ∨ ((∃ x, d_lathelaw03_LexRemarks_R4 s k i = .inr x) ∧ ∀ c ∈ l, cI c ≠ 10 ∧ cI c ≠ 35)
  | 0, i, l, h, hk => by omega
  | k + 1, i, [], h, hk => by
    unfold d_lathelaw03_LexRemarks_R4
    rw [decide_eq_false (by have := at_nil h; omega)]
    exact .inr ⟨⟨_, rfl⟩, fun c hc => nomatch hc⟩
  | k + 1, i, c :: cs, h, hk => by
    obtain ⟨h1, h2, h3⟩ := at_cons h
    unfold d_lathelaw03_LexRemarks_R4
    rw [decide_eq_true (by omega), cond_true, h2]
    cases hc : (cI c == 10 || cI c == 35)
    · rw [cond_false, show ((i : Int) + 1) = ((i + 1 : Nat) : Int) by omega]
      simp only [Bool.or_eq_false_iff, beq_eq_false_iff_ne] at hc
      refine (rem_R4 k (i + 1) cs h3 (by simpa using hk)).imp id fun ⟨q1, q2⟩ => ⟨q1, fun d hd => ?_⟩
      rcases List.mem_cons.1 hd with rfl | q
      · exact hc
      · exact q2 d q
    · exact .inl rfl
theorem rem_R9 {s : ByteArray} : ∀ (k i : Nat) (l : List UInt8), s.data.toList.drop i = l → l.length < k → d_lathelaw03_LexRemarks_R9 s k i = .inl true ∨ ((∃ x, d_lathelaw03_LexRemarks_R9 s k i = .inr x) ∧ ∀ c ∈ l, cI c ≠ 10)
  | 0, i, l, h, hk => by omega
  | k + 1, i, [], h, hk => by
    unfold d_lathelaw03_LexRemarks_R9
    rw [decide_eq_false (by have := at_nil h; omega)]
    exact .inr ⟨⟨_, rfl⟩, fun c hc => nomatch hc⟩
  | k + 1, i, c :: cs, h, hk => by
    obtain ⟨h1, h2, h3⟩ := at_cons h
    unfold d_lathelaw03_LexRemarks_R9
    rw [decide_eq_true (by omega), cond_true, h2]
    cases hc : (cI c == 10)
    · rw [cond_false, show ((i : Int) + 1) = ((i + 1 : Nat) : Int) by omega]
      rw [beq_eq_false_iff_ne] at hc
      refine (rem_R9 k (i + 1) cs h3 (by simpa using hk)).imp id fun ⟨q1, q2⟩ => ⟨q1, fun d hd => ?_⟩
      rcases List.mem_cons.1 hd with rfl | q
      · exact hc
      · exact q2 d q
    · exact .inl rfl
/-- Turning a row in place, one after the other. -/
theorem set_step {α : Type} (f : α → α) (d : α) (ts : List α) (x : Nat) (hx : x < ts.length) : ((ts.take x).map f ++ ts.drop x).getD x d = ts[x] ∧ ((ts.take x).map f ++ ts.drop x).set x (f ts[x]) = (ts.take (x + 1)).map f ++ ts.drop (x + 1) := by
  have hl : ((ts.take x).map f).length = x := by rw [List.length_map, List.length_take]; omega
  rw [List.drop_eq_getElem_cons hx]
  constructor
  · rw [List.getD_eq_getElem?_getD, List.getElem?_append_right (by omega), hl, Nat.sub_self]; rfl
  · rw [List.set_append_right _ _ (by omega), hl, Nat.sub_self, List.set_cons_zero, List.take_succ_eq_append_getElem hx, List.map_append, List.append_assoc]; rfl
def subT (t : Tok) : Tok := ⟨t.k, t.text, t.line, IntKind.i64.wrap (t.col - 2)⟩
theorem rem_R23 {s : ByteArray} (ts : List Tok) (hn : (d_lex_Tokens ((⟨#[32, 9]⟩ : ByteArray) ++ s)).1.length = ts.length) : ∀ (k x : Nat), ts.length < k + x → x ≤ ts.length → (d_lathelaw03_LexRemarks_R23 s k ((ts.take x).map subT ++ ts.drop x) x).1 = ts.map subT
  | 0, x, h, h' => by omega
  | k + 1, x, h, h' => by
    unfold d_lathelaw03_LexRemarks_R23
    rw [hn]
    rcases Nat.lt_or_ge x ts.length with q | q
    · obtain ⟨e1, e2⟩ := set_step subT Dat.d ts x q
      rw [decide_eq_true (by omega), cond_true, Int.toNat_natCast, e1]
      have := rem_R23 ts hn k (x + 1) (by omega) (by omega)
      rw [← e2] at this
      exact this
    · rw [decide_eq_false (by omega), cond_false, List.take_of_length_le q, List.drop_of_length_le q, List.append_nil]
theorem wrapi64 {z : Int} (h : -9223372036854775808 ≤ z) (h' : z ≤ 9223372036854775807) : IntKind.i64.wrap z = z := wr_i64 ⟨h, h'⟩
theorem LexRemarks_true (s u : ByteArray) (hlim : s.size + u.size ≤ 281474976710656) : d_lathelaw03_LexRemarks s u = true := by
  unfold d_lathelaw03_LexRemarks
  rw [lives_true, Bool.not_true, cond_false]
  have h4 := rem_R4 (s := s) (((s.size : Int) - 0).toNat + 1) 0 _ List.drop_zero (by rw [← size_len]; omega)
  have h9 := rem_R9 (s := u) (((u.size : Int) - 0).toNat + 1) 0 _ List.drop_zero (by rw [← size_len]; omega)
  rw [show ((0 : Nat) : Int) = 0 from rfl] at h4 h9
  rcases h4 with h4 | ⟨⟨x4, h4⟩, hA⟩
  · rw [h4]; rfl
  rw [h4, thenL_inr rfl]
  rcases h9 with h9 | ⟨⟨x9, h9⟩, hR⟩
  · rw [h9]; rfl
  rw [h9, thenL_inr rfl]
  refine cond_ind (P := fun r => r = true) (fun _ => rfl) (fun hsz => ?_)
  rw [decide_eq_false_iff_not] at hsz
  have hT := Tk.of s.data.toList 1 1
  have hlen : s.data.toList.length = s.size := (size_len s).symm
  have hd1 : ((s ++ (⟨#[35]⟩ : ByteArray)) ++ u).data.toList = s.data.toList ++ 35 :: u.data.toList := by simp
  have hd2 : ((⟨#[32, 9]⟩ : ByteArray) ++ s).data.toList = 32 :: 9 :: s.data.toList := by simp
  have hs1 : ((s ++ (⟨#[35]⟩ : ByteArray)) ++ u).size = s.size + 1 + u.size := by rw [size_len, hd1]; simp; omega
  have hs2 : ((⟨#[32, 9]⟩ : ByteArray) ++ s).size = s.size + 2 := by rw [size_len, hd2]; simp
  have e1 : toksS s = toks s.data.toList 1 1 := by unfold toksS; rw [decide_eq_false (by omega), cond_false]
  have e2 : toksS ((s ++ (⟨#[35]⟩ : ByteArray)) ++ u) = toks s.data.toList 1 1 := by
    unfold toksS; rw [decide_eq_false (by omega), cond_false, hd1]; exact (hT.app35 hR hA).fn
  have e3 : toksS ((⟨#[32, 9]⟩ : ByteArray) ++ s) = shS 2 (toks s.data.toList 1 1) := by
    unfold toksS; rw [decide_eq_false (by omega), cond_false, hd2]
    exact (Tk.blank rfl (.blank rfl (hT.shift (d := 2) fun c hc => (hA c hc).1))).fn
  obtain ⟨c1, c2⟩ := hT.cols fun c hc => (hA c hc).1
  have hn3 : d_lex_Tokens ((⟨#[32, 9]⟩ : ByteArray) ++ s) = outX [] (shS 2 (toks s.data.toList 1 1)) := by rw [lex_Tokens_eq, e3]
  rw [hn3, lex_Tokens_eq s, lex_Tokens_eq ((s ++ (⟨#[35]⟩ : ByteArray)) ++ u), e1, e2]
  rw [decide_eq_true rfl, show ∀ l, sameL l l = true from fun l => decide_eq_true rfl, Bool.not_true, Bool.false_or]
  cases hr : toks s.data.toList 1 1 with
  | inl e =>
    have hc := c1 e hr
    have hco := hT.code e hr
    show (bif (false || (e.1 != e.1)) then false else bif (e.1 != 0) then ((e.2.2 + 2) == IntKind.i64.wrap (e.2.2 + 2)) else _) = true
    rw [show (e.1 != e.1) = false by simp, Bool.or_false, cond_false, show (e.1 != 0) = true by rw [bne_iff_ne]; omega, cond_true, wrapi64 (by omega) (by omega)]
    simp
  | inr ts =>
    have hc := c2 ts hr
    show letV (d_lathelaw03_LexRemarks_R23 s ((((ts.map (shT 2)).length : Int) - 0).toNat + 1) (ts.map (shT 2)) 0) (fun (x : List Tok × Int) => sameL ts x.1) = true
    have hm : (d_lathelaw03_LexRemarks_R23 s ((((ts.map (shT 2)).length : Int) - 0).toNat + 1) (ts.map (shT 2)) 0).1 = (ts.map (shT 2)).map subT :=
      rem_R23 (ts.map (shT 2)) (by rw [hn3, hr]; rfl) _ 0 (by omega) (by omega)
    show sameL ts (d_lathelaw03_LexRemarks_R23 s _ _ 0).1 = true
    rw [hm]
    refine decide_eq_true ?_
    rw [List.map_map]
    refine (List.map_id ts).symm.trans (List.map_congr_left fun t ht => ?_)
    have := hc t ht
    show t = (⟨t.k, t.text, t.line, IntKind.i64.wrap (t.col + 2 - 2)⟩ : Tok)
    rw [Int.add_sub_cancel, wrapi64 (by omega) (by omega)]
end Go.Proofs.YtjdiohhniiooeaaDoor
