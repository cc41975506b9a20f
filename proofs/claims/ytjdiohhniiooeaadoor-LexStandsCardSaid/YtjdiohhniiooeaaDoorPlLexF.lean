/- Laws of layer 3, plain: pieces stand where they say. -/
import Derived.Test.YtjdiohhniiooeaaDoorPlLexE
import Derived.Test.YtjdiohhniiooeaaDoorLexY
namespace Go.Proofs.YtjdiohhniiooeaaDoor
open Go.RowKit
set_option linter.unusedVariables false
set_option linter.unusedSimpArgs false
/-- Where the next lines begin. -/
def nls : List UInt8 → Int → List Int
  | [], _ => []
  | c :: cs, i => bif cI c == 10 then (i + 1) :: nls cs (i + 1) else nls cs (i + 1)
theorem nls_cons {c : UInt8} {cs : List UInt8} {i : Int} (h : cI c ≠ 10) : nls (c :: cs) i = nls cs (i + 1) := by
  show (bif cI c == 10 then _ else _) = _
  rw [show (cI c == 10) = false by simpa using h, cond_false]
theorem nls_nl {c : UInt8} {cs : List UInt8} {i : Int} (h : cI c = 10) : nls (c :: cs) i = (i + 1) :: nls cs (i + 1) := by
  show (bif cI c == 10 then _ else _) = _
  rw [show (cI c == 10) = true by simpa using h, cond_true]
theorem nls_skip : ∀ (n : Nat) (l : List UInt8) (i : Int), (∀ b ∈ l.take n, cI b ≠ 10) → n ≤ l.length → nls l i = nls (l.drop n) (i + n)
  | 0, l, i, h, hn => by simp
  | n + 1, [], i, h, hn => by simp at hn
  | n + 1, b :: bs, i, h, hn => by
    rw [nls_cons (h b (by rw [List.take_succ_cons]; exact List.mem_cons_self)), nls_skip n bs (i + 1) (fun c hc => h c (by rw [List.take_succ_cons]; exact List.mem_cons_of_mem _ hc)) (by simpa using hn), List.drop_succ_cons]
    congr 1; omega
theorem stand_R9 {s : ByteArray} : ∀ (k i : Nat) (l : List UInt8) (out : List Int), s.data.toList.drop i = l → l.length < k → ∃ x, d_lathelaw03_LexStands_R9 s k out i = (out ++ nls l i, x)
  | 0, i, l, out, h, hk => by omega
  | k + 1, i, [], out, h, hk => by
    have := at_nil h
    unfold d_lathelaw03_LexStands_R9
    rw [decide_eq_false (by omega), cond_false]
    exact ⟨_, by rw [nls, List.append_nil]⟩
  | k + 1, i, c :: cs, out, h, hk => by
    obtain ⟨h1, h2, h3⟩ := at_cons h
    unfold d_lathelaw03_LexStands_R9
    rw [decide_eq_true (by omega), cond_true, h2, show ((i : Int) + 1) = ((i + 1 : Nat) : Int) by omega]
    cases hc : (cI c == 10)
    · rw [nls_cons (by simpa using hc), cond_false, show ((i : Int) + 1) = ((i + 1 : Nat) : Int) by omega]
      exact stand_R9 k (i + 1) cs out h3 (by simpa using hk)
    · rw [nls_nl (by simpa using hc), cond_true, show ((i : Int) + 1) = ((i + 1 : Nat) : Int) by omega]
      obtain ⟨x, e⟩ := stand_R9 k (i + 1) cs (out ++ [((i + 1 : Nat) : Int)]) h3 (by simpa using hk)
      exact ⟨x, by rw [e, List.append_assoc]; rfl⟩
/-- The head that a piece's text lacks. -/
def headOf (k : Int) : List UInt8 := bif k == 3 then [37] else bif k == 4 then [64] else bif k == 6 then [10] else []
theorem append_list (a b : List UInt8) : ((⟨a.toArray⟩ : ByteArray) ++ ⟨b.toArray⟩) = ⟨(a ++ b).toArray⟩ := by
  apply ByteArray.ext; simp
/-- The test of a round. -/
theorem stand_cond {s H : ByteArray} {AT last : Int} {i m : Nat} (hat : AT = i) (hH : H = ⟨((s.data.toList.drop i).take m).toArray⟩) (hm : 0 < m) (him : i + m ≤ s.size) (hl : last < i) :
    ((((strEq H ⟨#[]⟩) || decide (AT ≤ last)) || decide ((s.size : Int) - (H.size : Int) < AT)) || !strEq (s.extract AT.toNat (AT + (H.size : Int)).toNat) H) = false ∧ AT + (H.size : Int) - 1 = ((i + m : Nat) : Int) - 1 := by
  have hsz : H.size = m := by rw [hH, arr_size, List.length_take, drop_len]; omega
  have he : s.extract AT.toNat (AT + (H.size : Int)).toNat = H := by
    rw [hsz, hH]; exact ext_take rfl hat (by omega)
  rw [he]
  refine ⟨?_, by omega⟩
  rw [show strEq H H = true from strEq_iff.2 rfl, decide_eq_false (by omega), decide_eq_false (by omega), show strEq H ⟨#[]⟩ = false by
    cases h : strEq H ⟨#[]⟩
    · rfl
    · have := strEq_iff.1 h
      rw [this] at hsz
      have : (0 : Nat) = m := hsz
      omega]
  rfl
/-- A round of the law's loop. -/
theorem stand_round {s : ByteArray} {S : List Int} {ts : List Tok} (hts : (d_lex_Tokens s).1 = ts) {x i m : Nat} {tk : Tok} {last ends p : Int} (k : Nat) (hx : ts[x]? = some tk) (h1 : 1 ≤ tk.line) (h2 : tk.line ≤ S.length) (h3 : 1 ≤ tk.col)
    (hp : S.getD (tk.line - 1).toNat Dat.d = p) (hat : p + tk.col - 1 = i) (hsm : s.size ≤ 65536) (hc : tk.col ≤ 65537) (hT : (⟨(headOf tk.k).toArray⟩ : ByteArray) ++ tk.text = ⟨((s.data.toList.drop i).take m).toArray⟩) (hm : 0 < m) (him : i + m ≤ s.size) (hl : last < i) :
    d_lathelaw03_LexStands_R15 s S (k + 1) x ends last = d_lathelaw03_LexStands_R15 s S k ((x + 1 : Nat) : Int) (bif tk.k == 6 then ends + 1 else ends) (((i + m : Nat) : Int) - 1) := by
  have hxl := (List.getElem?_eq_some_iff.1 hx).1
  have hg : ts.getD x Dat.d = tk := by rw [List.getD_eq_getElem?_getD, hx]; rfl
  have hAT : IntKind.i64.wrap (IntKind.i64.wrap (p + tk.col) - 1) = (i : Int) := by
    rw [wrapi64 (z := p + tk.col) (by omega) (by omega), wrapi64 (by omega) (by omega)]; exact hat
  have e1 : ((x : Int) + 1) = ((x + 1 : Nat) : Int) := by omega
  conv => lhs; unfold d_lathelaw03_LexStands_R15
  rw [hts, decide_eq_true (by omega), cond_true, Int.toNat_natCast, hg, hp, hAT, decide_eq_false (by omega), decide_eq_false (by omega), decide_eq_false (by omega), Bool.or_false, Bool.or_false, cond_false, e1]
  unfold headOf at hT
  cases hk3 : tk.k == 3
  · cases hk4 : tk.k == 4
    · cases hk6 : tk.k == 6
      · rw [hk3, hk4, hk6] at hT
        obtain ⟨q1, q2⟩ := stand_cond (H := (⟨#[]⟩ : ByteArray) ++ tk.text) (AT := (i : Int)) rfl hT hm him hl
        simp only [cond_false]
        rw [q1, q2]; rfl
      · rw [hk3, hk4, hk6] at hT
        obtain ⟨q1, q2⟩ := stand_cond (H := (⟨#[10]⟩ : ByteArray) ++ tk.text) (AT := (i : Int)) rfl hT hm him hl
        simp only [cond_false, cond_true]
        rw [q1, q2]; rfl
    · have : (tk.k == 6) = false := by rw [beq_eq_false_iff_ne]; rw [beq_iff_eq] at hk4; omega
      rw [hk3, hk4] at hT
      obtain ⟨q1, q2⟩ := stand_cond (H := (⟨#[64]⟩ : ByteArray) ++ tk.text) (AT := (i : Int)) rfl hT hm him hl
      simp only [cond_false, cond_true, this]
      rw [q1, q2]; rfl
  · have : (tk.k == 6) = false := by rw [beq_eq_false_iff_ne]; rw [beq_iff_eq] at hk3; omega
    rw [hk3] at hT
    obtain ⟨q1, q2⟩ := stand_cond (H := (⟨#[37]⟩ : ByteArray) ++ tk.text) (AT := (i : Int)) rfl hT hm him hl
    simp only [cond_false, cond_true, this]
    rw [q1, q2]; rfl
def HdL (c : UInt8) : Sum Int (Int × Nat × Nat) → Prop
  | .inl _ => True
  | .inr (k, f, n) => headOf k = [c].take f ∧ f ≤ 1
theorem pieceL_hd (c : UInt8) (cs : List UInt8) : HdL c (pieceL c cs) := by
  have hc : ∀ {z : Nat}, cI c = z → z < 256 → c = UInt8.ofNat z := fun {z} h hz => UInt8.toNat_inj.1 (by
    have h' : (c.toNat : Int) = z := h
    rw [UInt8.toNat_ofNat']; omega)
  unfold pieceL
  refine cond_ind (P := HdL c) (fun _ => ⟨rfl, by omega⟩) (fun _ => ?_)
  refine cond_ind (P := HdL c) (fun _ => ⟨rfl, by omega⟩) (fun _ => ?_)
  refine cond_ind (P := HdL c) (fun _ => cond_ind (P := HdL c) (fun _ => ⟨rfl, by omega⟩) (fun _ => trivial)) (fun _ => ?_)
  refine cond_ind (P := HdL c) (fun h => cond_ind (P := HdL c) (fun _ => ⟨?_, by omega⟩) (fun _ => trivial)) (fun _ => ?_)
  · rw [hc (z := 37) (by simpa using h) (by omega)]; rfl
  refine cond_ind (P := HdL c) (fun h => ⟨?_, by omega⟩) (fun _ => trivial)
  rw [Bool.and_eq_true] at h
  rw [hc (z := 64) (by simpa using h.1) (by omega)]; rfl
/-- Pieces stand where they say. -/
theorem Tk.stand {s : ByteArray} {S : List Int} {ts : List Tok} (hts : (d_lex_Tokens s).1 = ts) (hsm : s.size ≤ 65536) {l : List UInt8} {line col : Int} {r : Sum (Int × Int × Int) (List Tok)} (h : Tk l line col r) :
    ∀ (ts2 : List Tok) (i x k : Nat) (last ends p : Int), r = .inr ts2 → s.data.toList.drop i = l → i ≤ s.size → ts.drop x = ts2 → x ≤ ts.length → ts2.length < k → 1 ≤ line → S.getD (line - 1).toNat Dat.d = p → 0 ≤ p → p ≤ i → col = i - p + 1 → S.drop line.toNat = nls l i → (S.length : Int) = line + (nls l i).length → last < i →
      ∃ a c, d_lathelaw03_LexStands_R15 s S k x ends last = .inr (a, ends + (nls l i).length, c) := by
  have hget : ∀ {ts2 : List Tok} {t : Tok} {x : Nat}, ts.drop x = t :: ts2 → ts[x]? = some t ∧ ts.drop (x + 1) = ts2 ∧ x < ts.length := by
    intro ts2 t x he
    have hlt : x < ts.length := by
      rcases Nat.lt_or_ge x ts.length with q | q
      · exact q
      · rw [List.drop_of_length_le q] at he; cases he
    rw [List.drop_eq_getElem_cons hlt] at he
    injection he with h1 h2
    exact ⟨by rw [List.getElem?_eq_getElem hlt, h1], h2, hlt⟩
  induction h with
  | nil =>
    intro ts2 i x k last ends p e hd hi hx hxl hk hl1 hS hp0 hpi hcol hSd hSl hlast
    cases e
    obtain ⟨k, rfl⟩ : ∃ j, k = j + 1 := ⟨k - 1, by omega⟩
    have := List.drop_eq_nil_iff.1 hx
    unfold d_lathelaw03_LexStands_R15
    rw [hts, decide_eq_false (by omega), cond_false]
    exact ⟨_, _, by rw [nls]; simp; exact ⟨rfl, rfl⟩⟩
  | blank h K ih =>
    rename_i c cs line col r
    intro ts2 i x k last ends p e hd hi hx hxl hk hl1 hS hp0 hpi hcol hSd hSl hlast
    obtain ⟨h1, h2, h3⟩ := at_cons hd
    rw [nls_cons (isB_10 h)] at hSd hSl ⊢
    exact ih ts2 (i + 1) x k last ends p e h3 (by omega) hx hxl hk hl1 hS hp0 (by omega) (by omega) hSd hSl (by omega)
  | rem hB h K ih =>
    rename_i c cs line col r
    intro ts2 i x k last ends p e hd hi hx hxl hk hl1 hS hp0 hpi hcol hSd hSl hlast
    obtain ⟨h1, h2, h3⟩ := at_cons hd
    have hle := cnt_le notNl cs
    have hll : (c :: cs).length = s.size - i := by rw [← hd, drop_len]
    rw [List.length_cons] at hll
    have hn : nls (c :: cs) i = nls (cs.drop (cnt notNl cs)) ((i + (1 + cnt notNl cs) : Nat) : Int) := by
      rw [nls_cons (by omega), nls_skip (cnt notNl cs) cs _ (fun b hb => by have := take_all notNl cs b hb; unfold notNl at this; simpa using this) hle]
      congr 1; omega
    rw [hn] at hSd hSl ⊢
    exact ih ts2 (i + (1 + cnt notNl cs)) x k last ends p e (by rw [drop_drop' hd, Nat.add_comm 1]; rfl) (by omega) hx hxl hk hl1 hS hp0 (by omega) (by omega) hSd hSl (by omega)
  | nl hB h K ih =>
    rename_i c cs line col r
    intro ts2 i x k last ends p e hd hi hx hxl hk hl1 hS hp0 hpi hcol hSd hSl hlast
    obtain ⟨h1, h2, h3⟩ := at_cons hd
    cases r with
    | inl => cases e
    | inr ts' =>
      simp only [consT, Sum.inr.injEq] at e; subst e
      obtain ⟨k, rfl⟩ : ∃ j, k = j + 1 := ⟨k - 1, by omega⟩
      rw [nls_nl h] at hSd hSl ⊢
      obtain ⟨g1, g2, g3⟩ := hget hx
      have hc10 : c = 10 := UInt8.toNat_inj.1 (by have h' : (c.toNat : Int) = 10 := h; show c.toNat = 10; omega)
      rw [stand_round (ts := ts) hts (i := i) (m := 1) (p := p) k g1 (by dsimp only; omega) (by dsimp only; rw [List.length_cons] at hSl; omega) (by dsimp only; omega) hS (by dsimp only; omega) hsm (by dsimp only; omega) (by rw [hd, hc10]; rfl) (by omega) (by omega) hlast]
      have hSn : S.getD line.toNat Dat.d = (i : Int) + 1 := by
        rw [List.getD_eq_getElem?_getD, ← Nat.add_zero line.toNat, ← List.getElem?_drop, hSd]; rfl
      obtain ⟨a, c', e2⟩ := ih ts' (i + 1) (x + 1) k (((i + 1 : Nat) : Int) - 1) (ends + 1) ((i : Int) + 1) rfl h3 (by omega) g2 (by omega) (by simpa using hk) (by omega)
        (by rw [Int.add_sub_cancel]; exact hSn) (by omega) (by omega) (by omega)
        (by rw [show (line + 1).toNat = line.toNat + 1 by omega, ← List.drop_drop, hSd]; rfl) (by rw [List.length_cons] at hSl; rw [show (((i + 1 : Nat) : Int)) = (i : Int) + 1 by omega]; omega) (by omega)
      refine ⟨a, c', ?_⟩
      show d_lathelaw03_LexStands_R15 s S k ((x + 1 : Nat) : Int) (ends + 1) (((i + 1 : Nat) : Int) - 1) = _
      rw [e2, List.length_cons, show (((i + 1 : Nat) : Int)) = (i : Int) + 1 by omega]
      congr 3; omega
  | err hB h35 h10 h => intro ts2 i x k last ends p e; cases e
  | piece hB h35 h10 h K ih =>
    rename_i c cs line col kd f n r
    intro ts2 i x k last ends p e hd hi hx hxl hk hl1 hS hp0 hpi hcol hSd hSl hlast
    obtain ⟨h1, h2, h3⟩ := at_cons hd
    obtain ⟨p1, p2, p3, p4, p5⟩ := pieceL_pos h
    have hno := pieceL_no c cs
    rw [h] at hno
    have hhd := pieceL_hd c cs
    rw [h] at hhd
    have hll : (c :: cs).length = s.size - i := by rw [← hd, drop_len]
    rw [List.length_cons] at hll
    cases r with
    | inl => cases e
    | inr ts' =>
      simp only [consT, Sum.inr.injEq] at e; subst e
      obtain ⟨k, rfl⟩ : ∃ j, k = j + 1 := ⟨k - 1, by omega⟩
      have hn : nls (c :: cs) i = nls (cs.drop (f + n - 1)) ((i + (f + n) : Nat) : Int) := by
        rw [nls_cons h10, nls_skip (f + n - 1) cs _ hno (by omega)]
        congr 1; omega
      rw [hn] at hSd hSl ⊢
      obtain ⟨g1, g2, g3⟩ := hget hx
      have hT : (⟨(headOf kd).toArray⟩ : ByteArray) ++ ⟨(((c :: cs).drop f).take n).toArray⟩ = ⟨((s.data.toList.drop i).take (f + n)).toArray⟩ := by
        rw [append_list, hd, hhd.1]
        have : [c].take f ++ ((c :: cs).drop f).take n = (c :: cs).take (f + n) := by
          have := hhd.2
          rcases Nat.lt_or_ge 0 f with q | q
          · obtain rfl : f = 1 := by omega
            rw [Nat.add_comm]; rfl
          · obtain rfl : f = 0 := by omega
            simp
        rw [this]
      rw [stand_round (ts := ts) hts (i := i) (m := f + n) (p := p) k g1 (by dsimp only; omega) (by dsimp only; omega) (by dsimp only; omega) hS (by dsimp only; omega) hsm (by dsimp only; omega) hT (by omega) (by omega) hlast]
      obtain ⟨a, c', e2⟩ := ih ts' (i + (f + n)) (x + 1) k (((i + (f + n) : Nat) : Int) - 1) ends p rfl (by rw [drop_drop' hd, show f + n = (f + n - 1) + 1 by omega]; rfl) (by omega) g2 (by omega) (by simpa using hk) hl1 hS hp0 (by omega) (by omega) hSd hSl (by omega)
      refine ⟨a, c', ?_⟩
      show d_lathelaw03_LexStands_R15 s S k ((x + 1 : Nat) : Int) (bif kd == 6 then ends + 1 else ends) (((i + (f + n) : Nat) : Int) - 1) = _
      rw [show (kd == 6) = false by simpa using p2, cond_false, e2]
theorem LexStands_true (s : ByteArray) : d_lathelaw03_LexStands s = true := by
  unfold d_lathelaw03_LexStands
  rw [lives_true, Bool.not_true, cond_false]
  refine cond_ind (P := fun r => r = true) (fun hc => ?_) (fun hc => ?_)
  · rw [lex_Tokens_eq] at hc ⊢
    unfold toksS at hc ⊢
    by_cases hs : 65536 < s.size
    · rw [decide_eq_true hs, decide_eq_true (by omega)]; rfl
    · rw [decide_eq_false hs, cond_false] at hc ⊢
      rw [decide_eq_false (by omega)]
      cases hr : toks s.data.toList 1 1 with
      | inl e =>
        have := (Tk.of s.data.toList 1 1).code e hr
        show (true && ((e.1 == 6) == false)) = true
        rw [show (e.1 == 6) = false by rw [beq_eq_false_iff_ne]; omega]; rfl
      | inr ts => rw [hr] at hc; exact absurd hc (by simp [outX])
  · obtain ⟨hs, ts, ht, et⟩ := code_zero (by simpa using hc)
    obtain ⟨x, e9⟩ := stand_R9 (s := s) (((s.size : Int) - 0).toNat + 1) 0 _ (([] : List Int) ++ [0]) List.drop_zero (by rw [← size_len]; omega)
    rw [show ((0 : Nat) : Int) = 0 from rfl] at e9
    rw [e9]
    have hT := Tk.of s.data.toList 1 1
    rw [ht] at hT
    obtain ⟨a, c, e⟩ := hT.stand (s := s) (S := (([] : List Int) ++ [0]) ++ nls s.data.toList 0) (ts := ts) (by rw [et]) hs ts 0 0 ((((d_lex_Tokens s).1.length : Int) - 0).toNat + 1) (-1) 0 0 rfl List.drop_zero (by omega) rfl (by omega) (by rw [et]; dsimp only; omega) (by omega) rfl (by omega) (by omega) (by omega) rfl (by simp; omega) (by omega)
    show thenL (d_lathelaw03_LexStands_R15 s ((([] : List Int) ++ [0]) ++ nls s.data.toList 0) _ 0 0 (-1)) _ = true
    rw [show ((0 : Nat) : Int) = 0 from rfl] at e
    rw [e]
    show (0 + ((nls s.data.toList 0).length : Int) == _) = true
    simp
end Go.Proofs.YtjdiohhniiooeaaDoor
