/- Numerals and pieces: the reference and the program compute the plain function. -/
import Derived.Test.YtjdiohhniiooeaaDoorPlLex
namespace Go.Proofs.YtjdiohhniiooeaaDoor
open Go.RowKit
set_option linter.unusedVariables false
set_option linter.unusedSimpArgs false
/-! ## Numerals -/
def allD (l : List UInt8) : Prop := ∀ c ∈ l, isD c = true
theorem isD_rg {c : UInt8} (h : isD c = true) : 48 ≤ c.toNat ∧ c.toNat ≤ 57 := by
  unfold isD d_lex_digit cI at h
  simp only [Bool.and_eq_true, decide_eq_true_eq] at h
  omega
theorem take_cnt : ∀ (l : List UInt8), allD (l.take (cnt isD l))
  | [] => fun c h => nomatch h
  | c :: cs => by
    unfold cnt
    cases h : isD c
    · exact fun c h => nomatch h
    · intro d hd
      rw [cond_true, List.take_succ_cons] at hd
      rcases List.mem_cons.1 hd with rfl | q
      · exact h
      · exact take_cnt cs d q
theorem size_ext {s : ByteArray} {i n : Nat} (h : i + n ≤ s.size) : (s.extract i (i + n)).size = n := by
  rw [ByteArray.size_extract]; omega
theorem ext_list {s : ByteArray} {i n : Nat} : (s.extract i (i + n)).data.toList = (s.data.toList.drop i).take n := by rw [ext_eq]
theorem byteAt0 (s : ByteArray) : byteAt s 0 = cI (s.data.toList.headD 0) := by
  unfold byteAt cI
  cases s.data.toList <;> rfl
theorem size_len (s : ByteArray) : s.size = s.data.toList.length := by simp
theorem pu_le : ∀ (l : List UInt8) (acc v : Nat), acc ≤ 2 ^ 64 - 1 → Lib.parseUintM (2 ^ 64 - 1) acc l = .ok v → v ≤ 2 ^ 64 - 1
  | [], acc, v, h, hp => by simp only [Lib.parseUintM, Lib.NumEnd.ok.injEq] at hp; omega
  | c :: cs, acc, v, h, hp => by
    unfold Lib.parseUintM at hp
    split at hp
    · split at hp
      · cases hp
      · split at hp
        · cases hp
        · exact pu_le cs _ v (by omega) hp
    · cases hp
theorem numeral_eq (s : ByteArray) (most : Int) : d_lex_numeral s most = numL s.data.toList most := by
  unfold d_lex_numeral numL
  rw [byteAt0, size_len]
  have hs : strEq s ⟨#[]⟩ = s.data.toList.isEmpty := by
    rw [Bool.eq_iff_iff, strEq_iff, List.isEmpty_iff]
    exact ⟨fun h => by rw [h], fun h => ByteArray.ext (Array.ext' h)⟩
  rw [hs, show (decide (1 < (s.data.toList.length : Int))) = decide (1 < s.data.toList.length) from by rw [decide_eq_decide]; omega]
  cases hc : (s.data.toList.isEmpty || (decide (1 < s.data.toList.length) && cI (s.data.toList.headD 0) == 48))
  · rw [cond_false, Bool.not_false, Bool.true_and]
    have hne : s.data.toList ≠ [] := fun e => by rw [e] at hc; simp at hc
    unfold puOk puV Lib.parseUintB
    rw [if_neg hne]
    cases Lib.parseUintM (2 ^ 64 - 1) 0 s.data.toList <;> simp
  · rfl
theorem wrapu8 {z : Int} (h : 0 ≤ z) (h' : z ≤ 255) : IntKind.u8.wrap z = z := by
  simp only [IntKind.wrap]; simp [IntKind.bits, IntKind.signed]; omega
theorem wrapu64 {z : Int} (h : 0 ≤ z) (h' : z ≤ 18446744073709551615) : IntKind.u64.wrap z = z := by
  simp only [IntKind.wrap]; simp [IntKind.bits, IntKind.signed]; omega
theorem number_R5 {s : ByteArray} : ∀ (k i acc : Nat) (l : List UInt8), s.data.toList.drop i = l → l.length < k → allD l → acc ≤ 2 ^ 64 - 1 →
    thenL (d_latheref03_Number_R5 s k i acc) (fun (x5e, x4e) => (x4e, true)) = match Lib.parseUintM (2 ^ 64 - 1) acc l with
      | .ok v => ((v : Int), true)
      | _ => (0, false)
  | 0, i, acc, l, h, hk, hd, ha => by omega
  | k + 1, i, acc, [], h, hk, hd, ha => by
    unfold d_latheref03_Number_R5
    rw [decide_eq_false (by have := at_nil h; omega)]; rfl
  | k + 1, i, acc, c :: cs, h, hk, hd, ha => by
    obtain ⟨h1, h2, h3⟩ := at_cons h
    have hc := isD_rg (hd c List.mem_cons_self)
    unfold d_latheref03_Number_R5 Lib.parseUintM
    rw [decide_eq_true (by omega), cond_true, if_pos hc, h2]
    have hcI : cI c = (c.toNat : Int) := rfl
    rw [wrapu8 (by omega) (by omega), wrapu64 (by omega) (by omega)]
    by_cases h5 : 1844674407370955162 ≤ acc
    · rw [if_pos h5, show ((decide (1844674407370955161 < (acc : Int))) || (((acc : Int) == 1844674407370955161) && (decide (5 < cI c - 48)))) = true by rw [decide_eq_true (by omega)]; rfl]
      rfl
    · rw [if_neg h5]
      by_cases h6 : 2 ^ 64 - 1 < acc * 10 + (c.toNat - 48)
      · rw [if_pos h6, show ((decide (1844674407370955161 < (acc : Int))) || (((acc : Int) == 1844674407370955161) && (decide (5 < cI c - 48)))) = true by
          rw [show ((acc : Int) == 1844674407370955161) = true by rw [beq_iff_eq]; omega, decide_eq_true (show 5 < cI c - 48 by omega)]; simp]
        rfl
      · rw [if_neg h6, show ((decide (1844674407370955161 < (acc : Int))) || (((acc : Int) == 1844674407370955161) && (decide (5 < cI c - 48)))) = false by
          rw [decide_eq_false (by omega), Bool.false_or, Bool.and_eq_false_iff, beq_eq_false_iff_ne, decide_eq_false_iff_not]; omega]
        rw [cond_false, wrapu64 (z := 10 * (acc : Int)) (by omega) (by omega), wrapu64 (by omega) (by omega)]
        have := number_R5 k (i + 1) (acc * 10 + (c.toNat - 48)) cs h3 (by simpa using hk) (fun d hd' => hd d (List.mem_cons_of_mem _ hd')) (by omega)
        rw [show ((i : Int) + 1) = ((i + 1 : Nat) : Int) by omega, show (10 * (acc : Int) + (cI c - 48)) = ((acc * 10 + (c.toNat - 48) : Nat) : Int) by omega, this]
theorem pu_ge : ∀ (l : List UInt8) (acc v : Nat), allD l → 1 ≤ acc → Lib.parseUintM (2 ^ 64 - 1) acc l = .ok v → acc * 10 ^ l.length ≤ v
  | [], acc, v, hd, h, hp => by simp only [Lib.parseUintM, Lib.NumEnd.ok.injEq] at hp; simp; omega
  | c :: cs, acc, v, hd, h, hp => by
    unfold Lib.parseUintM at hp
    split at hp
    · split at hp
      · cases hp
      · split at hp
        · cases hp
        · have := pu_ge cs _ v (fun d hd' => hd d (List.mem_cons_of_mem _ hd')) (by omega) hp
          refine Nat.le_trans ?_ this
          rw [List.length_cons, Nat.pow_succ, ← Nat.mul_assoc, Nat.mul_right_comm]
          exact Nat.mul_le_mul_right _ (by omega)
    · cases hp
theorem number_eq (s : ByteArray) (hd : allD s.data.toList) : d_latheref03_Number s = match (bif (s.data.toList.isEmpty || (decide (1 < s.data.toList.length) && cI (s.data.toList.headD 0) == 48)) then none else match Lib.parseUintM (2 ^ 64 - 1) 0 s.data.toList with
    | .ok v => some v
    | _ => none) with
      | some v => ((v : Int), true)
      | none => (0, false) := by
  unfold d_latheref03_Number
  rw [byteAt0, size_len, show (decide (1 < (s.data.toList.length : Int))) = decide (1 < s.data.toList.length) from by rw [decide_eq_decide]; omega]
  have h5 := number_R5 (s := s) (((s.data.toList.length : Int) - 0).toNat + 1) 0 0 _ List.drop_zero (by omega) hd (by omega)
  cases hl : s.data.toList with
  | nil => simp
  | cons c cs =>
    rw [hl] at h5 hd
    rw [show (((c :: cs).length : Int) == 0) = false by simp; omega, Bool.false_or, show (c :: cs).isEmpty = false from rfl, Bool.false_or]
    cases hz : (decide (1 < (c :: cs).length) && cI ((c :: cs).headD 0) == 48)
    · rw [Bool.or_false, cond_false]
      have h5' : thenL (d_latheref03_Number_R5 s ((((c :: cs).length : Int) - 0).toNat + 1) 0 0) (fun (x5e, x4e) => (x4e, true)) = _ := h5
      by_cases h20 : 20 < (c :: cs).length
      · rw [decide_eq_true (by omega), cond_true]
        cases hp : Lib.parseUintM (2 ^ 64 - 1) 0 (c :: cs) with
        | ok v =>
          exfalso
          have hc := isD_rg (hd c List.mem_cons_self)
          unfold Lib.parseUintM at hp
          rw [if_pos hc, if_neg (by omega), if_neg (by omega)] at hp
          have hne : c.toNat ≠ 48 := fun e => by
            rw [decide_eq_true (by omega), Bool.true_and] at hz
            rw [show cI ((c :: cs).headD 0) = (c.toNat : Int) from rfl, e] at hz
            simp at hz
          have h1 := pu_ge cs _ v (fun d hd' => hd d (List.mem_cons_of_mem _ hd')) (show 1 ≤ 0 * 10 + (c.toNat - 48) by omega) hp
          have h2 := pu_le cs _ v (by omega) hp
          have h3 : (10 : Nat) ^ 20 ≤ 10 ^ cs.length := Nat.pow_le_pow_right (by omega) (by simp at h20; omega)
          have h4 : 1 * 10 ^ cs.length ≤ (0 * 10 + (c.toNat - 48)) * 10 ^ cs.length := Nat.mul_le_mul_right _ (by omega)
          omega
        | «syntax» => rfl
        | range => rfl
      · rw [decide_eq_false (by omega), cond_false, h5']
        cases hp : Lib.parseUintM (2 ^ 64 - 1) 0 (c :: cs) <;> rfl
    · rw [Bool.or_true, cond_true]; rfl
theorem number_num (s : ByteArray) (hd : allD s.data.toList) (most : Int) : ((d_latheref03_Number s).2 && decide ((d_latheref03_Number s).1 ≤ most)) = numL s.data.toList most := by
  rw [number_eq s hd]
  unfold numL
  cases (s.data.toList.isEmpty || (decide (1 < s.data.toList.length) && cI (s.data.toList.headD 0) == 48))
  · rw [cond_false, Bool.not_false, Bool.true_and]
    cases Lib.parseUintM (2 ^ 64 - 1) 0 s.data.toList <;> simp
  · simp
theorem number_max (s : ByteArray) (hd : allD s.data.toList) : (d_latheref03_Number s).2 = numL s.data.toList 18446744073709551615 := by
  rw [number_eq s hd]
  unfold numL
  cases (s.data.toList.isEmpty || (decide (1 < s.data.toList.length) && cI (s.data.toList.headD 0) == 48))
  · rw [cond_false, Bool.not_false, Bool.true_and]
    cases h : Lib.parseUintM (2 ^ 64 - 1) 0 s.data.toList with
    | ok v =>
      have := pu_le _ _ v (by omega) h
      simp; omega
    | «syntax» => rfl
    | range => rfl
  · simp
/-! ## Pieces -/
theorem ext_take {s : ByteArray} {a b : Int} {i n : Nat} {l : List UInt8} (h : s.data.toList.drop i = l) (ha : a = i) (hb : b = (i + n : Nat)) : s.extract a.toNat b.toNat = ⟨(l.take n).toArray⟩ := by
  subst ha hb h
  rw [Int.toNat_natCast, Int.toNat_natCast, ext_eq]
theorem cnt_true {p : UInt8 → Bool} {c : UInt8} {cs : List UInt8} (h : p c = true) : cnt p (c :: cs) = 1 + cnt p cs := by
  show (bif p c then _ else _) = _
  rw [h, cond_true, Nat.add_comm]
theorem isA_of {c : UInt8} (h : isL c = true) : isA c = true := by unfold isA; rw [h]; rfl
theorem isL_rg {c : UInt8} (h : isL c = true) : cI c = 95 ∨ (97 ≤ cI c ∧ cI c ≤ 122) := by
  unfold isL d_lex_letter at h
  simp only [Bool.or_eq_true, Bool.and_eq_true, decide_eq_true_eq, beq_iff_eq] at h
  omega
theorem ref_piece_eq {s : ByteArray} {i : Nat} {c : UInt8} {cs : List UInt8} (h : s.data.toList.drop i = c :: cs) (h10 : cI c ≠ 10) :
    d_latheref03_piece s i = match pieceL c cs with
      | .inl e => (0, 0, 0, e)
      | .inr (k, f, n) => (k, (i : Int) + f, (n : Int), 0) := by
  obtain ⟨h1, h2, h3⟩ := at_cons h
  unfold d_latheref03_piece pieceL
  rw [h2, show (cI c == 10) = false by simpa using h10, cond_false]
  have e1 : ((i : Int) + 1) = ((i + 1 : Nat) : Int) := by omega
  cases m1 : cI c == 61
  case true => simp
  cases m2 : cI c == 44
  case true => simp
  cases m3 : cI c == 40
  case true => simp
  cases m4 : cI c == 41
  case true => simp
  cases m5 : cI c == 58
  case true => simp
  simp only [cond_false, Bool.or_false]
  cases mL : isL c
  case true =>
    have := isL_rg mL
    rw [show (cI c == 37) = false by rw [beq_eq_false_iff_ne]; omega, show (cI c == 64) = false by rw [beq_eq_false_iff_ne]; omega, kind_eq h, ref_word_eq h]
    simp [mL]
  simp only [cond_false]
  cases mD : isD c
  case true =>
    have := isD_rg mD
    have hcI : cI c = (c.toNat : Int) := rfl
    rw [show (cI c == 37) = false by rw [beq_eq_false_iff_ne]; omega, show (cI c == 64) = false by rw [beq_eq_false_iff_ne]; omega, kind_eq h, ref_digits_eq h]
    dsimp only
    rw [mL, mD, cond_false, cond_true, show cnt isD (c :: cs) = 1 + cnt isD cs from cnt_true mD,
      ext_take (n := 1 + cnt isD cs) h rfl (by omega), number_max _ (by
        show allD ((c :: cs).take (1 + cnt isD cs))
        have := take_cnt (c :: cs)
        rwa [show cnt isD (c :: cs) = 1 + cnt isD cs from cnt_true mD] at this),
      show (c :: cs).take (1 + cnt isD cs) = c :: cs.take (cnt isD cs) by rw [Nat.add_comm]; rfl]
    cases numL (c :: cs.take (cnt isD cs)) 18446744073709551615 <;> simp
  simp only [cond_false]
  cases m6 : cI c == 37
  case true =>
    rw [cond_true, cond_true, e1, ref_digits_eq h3, ext_take (n := cnt isD cs) h3 rfl (by omega)]
    have hn := number_num ⟨(cs.take (cnt isD cs)).toArray⟩ (take_cnt cs) 4095
    have hq : ((!(d_latheref03_Number ⟨(cs.take (cnt isD cs)).toArray⟩).2) || decide (4095 < (d_latheref03_Number ⟨(cs.take (cnt isD cs)).toArray⟩).1)) = !numL (cs.take (cnt isD cs)) 4095 := by
      rw [show numL (cs.take (cnt isD cs)) 4095 = _ from hn.symm, Bool.not_and]
      congr 1
      rw [Bool.eq_iff_iff]; simp
    rw [hq]
    cases numL (cs.take (cnt isD cs)) 4095
    · rfl
    · simp
  simp only [cond_false]
  rw [kind_eq h]
  dsimp only
  rw [mL, mD]
  cases m7 : cI c == 64
  · simp
  · rw [cond_true, e1, ref_word_eq h3, Bool.true_and]
    cases cs with
    | nil => simp
    | cons d ds =>
      dsimp only
      cases hd : isL d
      · simp
      · have : cnt isA (d :: ds) = 1 + cnt isA ds := cnt_true (isA_of hd)
        rw [this]; simp [hd]; rw [show ((1 + (cnt isA ds : Int)) == 0) = false by rw [beq_eq_false_iff_ne]; omega]; rfl
theorem lex_put_eq {s : ByteArray} {i j n : Nat} {line fr code k : Int} {l : List Tok} {t : List UInt8} (h : s.data.toList.drop j = t) : d_lex_cutter_put s i line fr l code k (j : Int) ((j + n : Nat) : Int) = (s, ((j + n : Nat) : Int), line, fr, l ++ [⟨k, ⟨(t.take n).toArray⟩, line, (i : Int) - fr + 1⟩], code) := by
  unfold d_lex_cutter_put
  rw [ext_take (n := n) h rfl rfl]
theorem lex_number_eq {s : ByteArray} {i j : Nat} {line fr code k most : Int} {l : List Tok} {t : List UInt8} (h : s.data.toList.drop j = t) : d_lex_cutter_number s i line fr l code k (j : Int) most =
    bif numL (t.take (cnt isD t)) most then (s, ((j + cnt isD t : Nat) : Int), line, fr, l ++ [⟨k, ⟨(t.take (cnt isD t)).toArray⟩, line, (i : Int) - fr + 1⟩], code, true) else (s, (i : Int), line, fr, l, 2, false) := by
  unfold d_lex_cutter_number
  rw [digits_eq h, lex_put_eq h, ext_take (n := cnt isD t) h rfl rfl, numeral_eq]
  dsimp only
  cases numL (t.take (cnt isD t)) most <;> rfl
theorem lex_piece_eq {s : ByteArray} {i : Nat} {c : UInt8} {cs : List UInt8} {line fr code : Int} {l : List Tok} (h : s.data.toList.drop i = c :: cs) :
    d_lex_cutter_piece s i line fr l code (byteAt s i) = match pieceL c cs with
      | .inl e => (s, (i : Int), line, fr, l, e, false)
      | .inr (k, f, n) => (s, ((i + f + n : Nat) : Int), line, fr, l ++ [⟨k, ⟨(((c :: cs).drop f).take n).toArray⟩, line, (i : Int) - fr + 1⟩], code, true) := by
  obtain ⟨h1, h2, h3⟩ := at_cons h
  unfold d_lex_cutter_piece pieceL
  rw [h2]
  have e1 : ((i : Int) + 1) = ((i + 1 : Nat) : Int) := by omega
  cases m : ((((cI c == 61) || (cI c == 44)) || (cI c == 40)) || (cI c == 41)) || (cI c == 58)
  case true =>
    rw [cond_true, cond_true, e1, lex_put_eq h]; rfl
  simp only [cond_false]
  show (bif isL c then _ else bif isD c then _ else _) = _
  cases mL : isL c
  case true =>
    rw [cond_true, cond_true, behind_eq h, lex_put_eq h, show cnt isA (c :: cs) = 1 + cnt isA cs from cnt_true (isA_of mL)]
    simp
  simp only [cond_false]
  cases mD : isD c
  case true =>
    rw [cond_true, cond_true, lex_number_eq h, show cnt isD (c :: cs) = 1 + cnt isD cs from cnt_true mD,
      show (c :: cs).take (1 + cnt isD cs) = c :: cs.take (cnt isD cs) by rw [Nat.add_comm]; rfl]
    cases numL (c :: cs.take (cnt isD cs)) 18446744073709551615
    · rfl
    · simp [Nat.add_comm 1, List.take_succ_cons]
  simp only [cond_false]
  cases m6 : cI c == 37
  case true =>
    rw [cond_true, cond_true, e1, lex_number_eq h3]
    cases numL (cs.take (cnt isD cs)) 4095
    · rfl
    · rfl
  simp only [cond_false]
  cases m7 : cI c == 64
  · rfl
  · rw [Bool.true_and, Bool.true_and, e1, behind_eq h3, lex_put_eq h3]
    cases cs with
    | nil =>
      rw [decide_eq_false (by have := at_nil h3; omega)]; rfl
    | cons d ds =>
      obtain ⟨g1, g2, g3⟩ := at_cons h3
      rw [decide_eq_true (by omega), Bool.true_and, g2]
      show (bif isL d then _ else _) = _
      dsimp only
      cases isL d
      · rfl
      · rfl
end Go.Proofs.YtjdiohhniiooeaaDoor
