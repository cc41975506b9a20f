/- The law Joins: what its code computes. -/
import Derived.Test.YtjdiohhniiooeaaDoorPlLexC
namespace Go.Proofs.YtjdiohhniiooeaaDoor
open Go.RowKit
set_option linter.unusedVariables false
set_option linter.unusedSimpArgs false
set_option maxRecDepth 100000
set_option maxHeartbeats 4000000
/-- A text without a fault is small, and so are its pieces. -/
theorem lex_small {s : ByteArray} (h : (d_lex_Tokens s).2.code = 0) : s.size ≤ 65536 ∧ (d_lex_Tokens s).1.length ≤ s.size ∧ ∀ t ∈ (d_lex_Tokens s).1, t.text.size ≤ s.size := by
  rw [lex_Tokens_eq] at h ⊢
  unfold toksS at h ⊢
  by_cases hs : 65536 < s.size
  · rw [decide_eq_true hs] at h; cases h
  · rw [decide_eq_false hs, cond_false] at *
    have hT := Tk.of s.data.toList 1 1
    cases hr : toks s.data.toList 1 1 with
    | inl e =>
      rw [hr] at h
      have := hT.code e hr
      have h' : e.1 = 0 := h
      omega
    | inr ts =>
      obtain ⟨h1, h2⟩ := hT.text ts hr
      rw [← size_len] at h1 h2
      exact ⟨by omega, h1, h2⟩
def d_lathelaw03_LexJoins_R19 (p1 : ByteArray) (x11e : Int) : Nat → (List Tok) → Int → List Tok × Int
  | 0, l14, x81 => (l14, x81)
  | k + 1, l14, x81 =>
   bif (decide (x81 < ((d_lex_Tokens p1).1.length : Int))) then
    d_lathelaw03_LexJoins_R19 p1 x11e k (l14 ++ [(⟨(((d_lex_Tokens p1).1).getD (Int.toNat x81) Dat.d).k, (((d_lex_Tokens p1).1).getD (Int.toNat x81) Dat.d).text, (IntKind.i64.wrap ((((d_lex_Tokens p1).1).getD (Int.toNat x81) Dat.d).line + x11e)), (((d_lex_Tokens p1).1).getD (Int.toNat x81) Dat.d).col⟩ : Tok)]) (x81 + 1)
   else (l14, x81)
def d_lathelaw03_LexJoins_R11 (p0 : ByteArray) : Nat → Int → Int → Int → Int × Int × Int
  | 0, x13, x12, x11 => (x13, x12, x11)
  | k + 1, x13, x12, x11 =>
   bif (decide (x13 < (p0.size : Int))) then
    bif ((byteAt p0 x13) == 10) then
     d_lathelaw03_LexJoins_R11 p0 k (x13 + 1) (x13 + 1) (x11 + 1)
    else d_lathelaw03_LexJoins_R11 p0 k (x13 + 1) x12 x11
   else (x13, x12, x11)
def d_lathelaw03_LexJoins (p0 : ByteArray) (p1 : ByteArray) : Bool :=
  bif (!d_lathelaw03_lives) then
   false
  else bif (((((d_lex_Tokens p0).2).code != 0) || (((d_lex_Tokens p1).2).code != 0)) || (decide (65536 ≤ (IntKind.i64.wrap ((p0.size : Int) + (p1.size : Int)))))) then
    true
   else letV (d_lathelaw03_LexJoins_R11 p0 (((p0.size : Int) - 0).toNat + 1) 0 0 1) (fun (x13e, x12e, x11e) => letV (d_lathelaw03_LexJoins_R19 p1 x11e ((((d_lex_Tokens p1).1.length : Int) - 0).toNat + 1) ((([] : List Tok) ++ ((d_lex_Tokens p0).1)) ++ [(⟨6, ByteArray.empty, x11e, (((p0.size : Int) - x12e) + 1)⟩ : Tok)]) 0) (fun (l14e, x81e) => ((((d_lex_Tokens ((p0 ++ (⟨#[10]⟩ : ByteArray)) ++ p1)).2).code == 0) && (sameL ((d_lex_Tokens ((p0 ++ (⟨#[10]⟩ : ByteArray)) ++ p1)).1) l14e))))
theorem lathelaw03_LexJoins_S (p0 : ByteArray) (p1 : ByteArray)  : Spec Tryd.prog 4 [.string p0, .string p1] (fun w => Vars w) (fun v _ => v = Value.bool (d_lathelaw03_LexJoins p0 p1)) := by
  refine Spec.enter Tryd.func4 rfl (n := 103) Tryd.ntmps4 (Nat.le_of_ble_eq_true rfl) (l := [(0, _, _), (1, _, _)]) rfl ?_
  intro S w
  refine SC.seq (fun K1 hK1 => SC.region ?_)
  refine SL.step (PS.assign rfl tt rfl rfl) ?_
  refine SL.keep (l' := [(0, _, _), (1, _, _)]) ⟨rfl, rfl, trivial⟩ ?_
  refine SL.nil (SE.thenK hK1 (SC.seq (fun K2 hK2 => SC.seq (fun K3 hK3 => SC.region ?_))))
  refine SL.callR (vs := []) Tryd.call8 trivial (fun hg => lathelaw03_lives_S  ) (fun w h hok hg => (h)) rfl rfl ?_
  refine SL.step (PS.not rfl tt rfl rfl) ?_
  refine SL.keep (l' := [(18, _, _), (0, _, _), (1, _, _)]) ⟨rfl, rfl, rfl, trivial⟩ ?_
  refine SL.nil (SE.thenK hK3 ?_)
  refine SC.cond rfl (fun c18 => ?_) (fun c18 => ?_)
  ·
   refine SC.seq (fun K4 hK4 => SC.region ?_)
   refine SL.step (PS.assign rfl tt rfl rfl) ?_
   refine SL.keep (l' := [(4, _, _)]) ⟨rfl, trivial⟩ ?_
   refine SL.nil (SE.thenK hK4 (SC.ret (SE.then_ret ?_)))
   exact fin1 rfl rfl rfl (fun _ _ => congrArg (fun z : Bool => Value.bool z) (show (d_lathelaw03_LexJoins p0 p1) = (false : Bool) from (bifT c18)).symm)
  ·
   have c18n := c18
   try simp only [Bool.and_eq_true, Bool.or_eq_true, decide_eq_true_eq, Bool.true_and, Bool.not_eq_true', Bool.not_eq_false', beq_iff_eq, bne_iff_ne, decide_eq_false_iff_not, beq_eq_false_iff_ne, bne_eq_false_iff_eq, ne_eq, Bool.or_eq_false_iff, Bool.and_eq_false_iff] at c18n
   refine SC.skip (SE.thenK hK2 (SC.seq (fun K5 hK5 => SC.region ?_)))
   refine SL.step (PS.move rfl tt rfl rfl) ?_
   refine SL.callX (vs := [_]) (rs := []) (own' := []) (List.Perm.refl _) Tryd.call9 ⟨⟨_, rfl, tt⟩, trivial⟩ (lex_Tokens_O p0 ) (fun w h => (h)) rfl rfl (fun x21 => ?_)
   obtain ⟨o0q21, cap0q21⟩ := x21
   refine SL.know (p := (d_lex_Tokens p0).1.length ≤ 9223372036854775807) (fun w h => h.2.1) (fun hleq21 => ?_)
   refine SL.step (PS.move rfl tt rfl rfl) ?_
   refine SL.step (PS.extract rfl tt rfl rfl rfl) ?_
   refine SL.step (PS.extract rfl tt rfl rfl rfl) ?_
   refine SL.alloc (cs := [_, _, _]) Tryd.zeroValue26 rfl rfl rfl (fun b6 => ?_)
   refine SL.step (PS.assign rfl tt rfl rfl) ?_
   refine SL.store_own (k := 0) (own' := [_, _]) (cs' := [_, _, _]) rfl rfl rfl rfl rfl rfl rfl Tryd.sizeOf26 rfl (Nat.le_of_ble_eq_true rfl) rfl rfl rfl rfl ?_
   refine SL.keep (l' := [(5, _, _), (6, _, _), (0, _, _), (1, _, _)]) ⟨rfl, rfl, rfl, rfl, trivial⟩ ?_
   refine SL.nil (SE.thenK hK5 (SC.seq (fun K6 hK6 => SC.region ?_)))
   refine SL.step (PS.move rfl tt rfl rfl) ?_
   refine SL.callX (vs := [_]) (rs := []) (own' := [_, _]) (List.Perm.refl _) Tryd.call9 ⟨⟨_, rfl, tt⟩, trivial⟩ (lex_Tokens_O p1 ) (fun w h => (h.1)) rfl rfl (fun x26 => ?_)
   obtain ⟨o0q26, cap0q26⟩ := x26
   refine SL.know (p := (d_lex_Tokens p1).1.length ≤ 9223372036854775807) (fun w h => h.2.1) (fun hleq26 => ?_)
   refine SL.step (PS.move rfl tt rfl rfl) ?_
   refine SL.step (PS.extract rfl tt rfl rfl rfl) ?_
   refine SL.step (PS.extract rfl tt rfl rfl rfl) ?_
   refine SL.alloc (cs := [_, _, _]) Tryd.zeroValue26 rfl rfl rfl (fun b8 => ?_)
   refine SL.step (PS.assign rfl tt rfl rfl) ?_
   refine SL.store_own (k := 0) (own' := [_, _, _, _]) (cs' := [_, _, _]) rfl rfl rfl rfl rfl rfl rfl Tryd.sizeOf26 rfl (Nat.le_of_ble_eq_true rfl) rfl rfl rfl rfl ?_
   refine SL.keep (l' := [(7, _, _), (8, _, _), (5, _, _), (6, _, _), (0, _, _), (1, _, _)]) ⟨rfl, rfl, rfl, rfl, rfl, rfl, trivial⟩ ?_
   refine SL.nil (SE.thenK hK6 (SC.seq (fun K7 hK7 => SC.seq (fun K8 hK8 => SC.region ?_))))
   refine SL.step (PS.fieldAddr rfl tt Tryd.fieldAt_26_0 rfl rfl) ?_
   refine SL.step (PS.load_own (k := 2) rfl tt rfl rfl rfl Tryd.isAgg24 rfl rfl) ?_
   refine SL.step (PS.neq rfl tt rfl tt rfl rfl) ?_
   refine SL.step (PS.move rfl tt rfl rfl) ?_
   refine SL.step (PS.fieldAddr rfl tt Tryd.fieldAt_26_0 rfl rfl) ?_
   refine SL.step (PS.load_own (k := 0) rfl (fun h => h) rfl rfl rfl Tryd.isAgg24 rfl rfl) ?_
   refine SL.step (PS.neq rfl (fun h => h) rfl tt rfl rfl) ?_
   refine SL.step (PS.pick_or rfl tt rfl (fun h h2 => pk_or h h2) rfl rfl) ?_
   refine SL.step (PS.move rfl tt rfl rfl) ?_
   refine SL.step (PS.move rfl tt rfl rfl) ?_
   refine SL.step (PS.len_string rfl (fun h => h) Tryd.underlying9 rfl rfl) ?_
   refine SL.step (PS.move rfl tt rfl rfl) ?_
   refine SL.step (PS.len_string rfl (fun h => h) Tryd.underlying9 rfl rfl) ?_
   refine SL.step (PS.add rfl (fun h => h) rfl (fun h => h) rfl rfl) ?_
   refine SL.step (PS.geq rfl (fun h => h) rfl tt rfl rfl) ?_
   refine SL.step (PS.pick_or rfl tt rfl (fun h h2 => pk_or h h2) rfl rfl) ?_
   refine SL.keep (l' := [(44, _, _), (7, _, _), (5, _, _), (0, _, _), (1, _, _)]) ⟨rfl, rfl, rfl, rfl, rfl, trivial⟩ ?_
   refine SL.nil (SE.thenK hK8 ?_)
   refine SC.cond rfl (fun c44 => ?_) (fun c44 => ?_)
   ·
    refine SC.seq (fun K9 hK9 => SC.region ?_)
    refine SL.step (PS.assign rfl tt rfl rfl) ?_
    refine SL.keep (l' := [(4, _, _)]) ⟨rfl, trivial⟩ ?_
    refine SL.nil (SE.thenK hK9 (SC.ret (SE.then_ret ?_)))
    exact fin1 rfl rfl rfl (fun _ _ => congrArg (fun z : Bool => Value.bool z) (show (d_lathelaw03_LexJoins p0 p1) = (true : Bool) from ((bifF c18).trans (bifT c44))).symm)
   ·
    have c44n := c44
    try simp only [Bool.and_eq_true, Bool.or_eq_true, decide_eq_true_eq, Bool.true_and, Bool.not_eq_true', Bool.not_eq_false', beq_iff_eq, bne_iff_ne, decide_eq_false_iff_not, beq_eq_false_iff_ne, bne_eq_false_iff_eq, ne_eq, Bool.or_eq_false_iff, Bool.and_eq_false_iff] at c44n
    have hq0 := lex_small c44n.1.1
    have hq1 := lex_small c44n.1.2
    refine SC.skip (SE.thenK hK7 (SC.seq (fun K10 hK10 => SC.region ?_)))
    refine SL.step (PS.move rfl tt rfl rfl) ?_
    refine SL.step (PS.addS rfl tt rfl tt (fun hg => by show p0.size + 1 ≤ _; omega) rfl rfl) ?_
    refine SL.step (PS.move rfl tt rfl rfl) ?_
    refine SL.step (PS.addS rfl tt rfl tt (fun hg => by rw [ByteArray.size_append]; show p0.size + 1 + p1.size ≤ _; omega) rfl rfl) ?_
    refine SL.callX (vs := [_]) (rs := []) (own' := [_, _, _, _]) (List.Perm.refl _) Tryd.call9 ⟨⟨_, rfl, tt⟩, trivial⟩ (lex_Tokens_O ((p0 ++ (⟨#[10]⟩ : ByteArray)) ++ p1) ) (fun w h => (h.1.1)) rfl rfl (fun x50 => ?_)
    obtain ⟨o0q50, cap0q50⟩ := x50
    refine SL.know (p := (d_lex_Tokens ((p0 ++ (⟨#[10]⟩ : ByteArray)) ++ p1)).1.length ≤ 9223372036854775807) (fun w h => h.2.1) (fun hleq50 => ?_)
    refine SL.step (PS.move rfl tt rfl rfl) ?_
    refine SL.step (PS.extract rfl tt rfl rfl rfl) ?_
    refine SL.step (PS.extract rfl tt rfl rfl rfl) ?_
    refine SL.alloc (cs := [_, _, _]) Tryd.zeroValue26 rfl rfl rfl (fun b10 => ?_)
    refine SL.step (PS.assign rfl tt rfl rfl) ?_
    refine SL.store_own (k := 0) (own' := [_, _, _, _, _, _]) (cs' := [_, _, _]) rfl rfl rfl rfl rfl rfl rfl Tryd.sizeOf26 rfl (Nat.le_of_ble_eq_true rfl) rfl rfl rfl rfl ?_
    refine SL.keep (l' := [(9, _, _), (10, _, _), (7, _, _), (5, _, _), (0, _, _)]) ⟨rfl, rfl, rfl, rfl, rfl, trivial⟩ ?_
    refine SL.nil (SE.thenK hK10 (SC.seq (fun K11 hK11 => SC.region ?_)))
    refine SL.step (PS.assign rfl tt rfl rfl) ?_
    refine SL.nil (SE.thenK hK11 (SC.seq (fun K12 hK12 => SC.region ?_)))
    refine SL.step (PS.assign rfl tt rfl rfl) ?_
    refine SL.nil (SE.thenK hK12 (SC.seq (fun K13 hK13 => SC.seq (fun K14 hK14 => SC.region ?_))))
    refine SL.step (PS.assign rfl tt rfl rfl) ?_
    refine SL.nil (SE.thenK hK14 (SC.block ?_))
    refine SC.loopF (fun ((k1, x13, x12, x11) : Nat × Int × Int × Int) => [(13, true, .int .i64 x13), (12, true, .int .i64 x12), (11, true, .int .i64 x11), (9, true, .slice (rowA o0q50) ((d_lex_Tokens ((p0 ++ (⟨#[10]⟩ : ByteArray)) ++ p1)).1.length) cap0q50), (10, true, .pointer (some ⟨b10, 0, none⟩)), (7, true, .slice (rowA o0q26) ((d_lex_Tokens p1).1.length) cap0q26), (5, true, .slice (rowA o0q21) ((d_lex_Tokens p0).1.length) cap0q21), (0, true, .string p0)]) (fun ((k1, x13, x12, x11) : Nat × Int × Int × Int) => [.blk b10 [.int .i64 (((d_lex_Tokens ((p0 ++ (⟨#[10]⟩ : ByteArray)) ++ p1)).2).code), .int .i64 (((d_lex_Tokens ((p0 ++ (⟨#[10]⟩ : ByteArray)) ++ p1)).2).line), .int .i64 (((d_lex_Tokens ((p0 ++ (⟨#[10]⟩ : ByteArray)) ++ p1)).2).col)], Rw o0q50 ((d_lex_Tokens ((p0 ++ (⟨#[10]⟩ : ByteArray)) ++ p1)).1) cap0q50, .blk b8 [.int .i64 (((d_lex_Tokens p1).2).code), .int .i64 (((d_lex_Tokens p1).2).line), .int .i64 (((d_lex_Tokens p1).2).col)], Rw o0q26 ((d_lex_Tokens p1).1) cap0q26, .blk b6 [.int .i64 (((d_lex_Tokens p0).2).code), .int .i64 (((d_lex_Tokens p0).2).line), .int .i64 (((d_lex_Tokens p0).2).col)], Rw o0q21 ((d_lex_Tokens p0).1) cap0q21]) (fun ((k1, x13, x12, x11) : Nat × Int × Int × Int) w => ((d_lathelaw03_LexJoins_R11 p0 k1 x13 x12 x11 = d_lathelaw03_LexJoins_R11 p0 (((p0.size : Int) - 0).toNat + 1) 0 0 1) ∧ (((p0.size : Int) - x13).toNat < k1) ∧ (0 ≤ x13) ∧ (x13 ≤ (p0.size : Int)) ∧ (1 ≤ x11) ∧ (x11 ≤ x13 + 1) ∧ (0 ≤ x12) ∧ (x12 ≤ x13)) ∧ (True)) (fun q => q.1) (((p0.size : Int) - 0).toNat + 1, 0, 0, 1) ⟨rfl, rfl, rfl, rfl, rfl, rfl, rfl, rfl, trivial⟩ rfl (fun w h => ⟨⟨rfl, Nat.lt_succ_self _, by omega, by omega, by omega, by omega, by omega, by omega⟩, trivial⟩) (fun q => ?_)
    obtain ⟨k1, x13, x12, x11⟩ := q
    dsimp only
    refine SC.know (fun w h => h.2.1) (fun hp => ?_)
    obtain ⟨hL1, hm1, hi1_0, hi1_1, hi1_2, hi1_3, hi1_4, hi1_5⟩ := hp
    obtain ⟨k1p, rfl⟩ : ∃ j, k1 = j + 1 := ⟨k1 - 1, by omega⟩
    refine SC.seq (fun K15 hK15 => SC.seq (fun K16 hK16 => SC.region ?_))
    refine SL.step (PS.move rfl tt rfl rfl) ?_
    refine SL.step (PS.move rfl tt rfl rfl) ?_
    refine SL.step (PS.len_string rfl tt Tryd.underlying9 rfl rfl) ?_
    refine SL.step (PS.lss rfl tt rfl tt rfl rfl) ?_
    refine SL.keep (l' := [(56, _, _), (13, _, _), (12, _, _), (11, _, _), (9, _, _), (10, _, _), (7, _, _), (5, _, _), (0, _, _)]) ⟨rfl, rfl, rfl, rfl, rfl, rfl, rfl, rfl, rfl, trivial⟩ ?_
    refine SL.nil (SE.thenK hK16 ?_)
    refine SC.cond rfl (fun c56 => ?_) (fun c56 => ?_)
    ·
     have c56n := c56
     try simp only [Bool.and_eq_true, Bool.or_eq_true, decide_eq_true_eq, Bool.true_and, Bool.not_eq_true', Bool.not_eq_false', beq_iff_eq, bne_iff_ne, decide_eq_false_iff_not, beq_eq_false_iff_ne, bne_eq_false_iff_eq, ne_eq, Bool.or_eq_false_iff, Bool.and_eq_false_iff] at c56n
     refine SC.skip (SE.thenK hK15 (SC.seq (fun K17 hK17 => SC.block (SC.seq (fun K18 hK18 => SC.region ?_)))))
     refine SL.step (PS.move rfl tt rfl rfl) ?_
     refine SL.step (PS.move rfl tt rfl rfl) ?_
     refine SL.step (PS.indexStr rfl tt rfl tt Tryd.underlying9 (fun hg => by first | omega | (simp only [List.length_cons, List.length_nil]; omega) | (try simp only [Bool.and_eq_true, Bool.or_eq_true, decide_eq_true_eq, Bool.true_and, Bool.not_eq_true', beq_iff_eq, bne_iff_ne, decide_eq_false_iff_not, beq_eq_false_iff_ne, ne_eq] at hg; omega)) rfl rfl) ?_
     refine SL.step (PS.eql rfl tt rfl tt rfl rfl) ?_
     refine SL.keep (l' := [(62, _, _), (13, _, _), (12, _, _), (11, _, _), (9, _, _), (10, _, _), (7, _, _), (5, _, _), (0, _, _)]) ⟨rfl, rfl, rfl, rfl, rfl, rfl, rfl, rfl, rfl, trivial⟩ ?_
     refine SL.nil (SE.thenK hK18 ?_)
     refine SC.cond rfl (fun c62 => ?_) (fun c62 => ?_)
     ·
      have c62n := c62
      try simp only [Bool.and_eq_true, Bool.or_eq_true, decide_eq_true_eq, Bool.true_and, Bool.not_eq_true', Bool.not_eq_false', beq_iff_eq, bne_iff_ne, decide_eq_false_iff_not, beq_eq_false_iff_ne, bne_eq_false_iff_eq, ne_eq, Bool.or_eq_false_iff, Bool.and_eq_false_iff] at c62n
      refine SC.seq (fun K19 hK19 => SC.region ?_)
      refine SL.step (PS.move rfl tt rfl rfl) ?_
      refine SL.step (PS.add_in rfl tt rfl tt (fun _ => wr_i64 (by omega)) rfl rfl) ?_
      refine SL.step (PS.assign rfl tt rfl rfl) ?_
      refine SL.keep (l' := [(11, _, _), (13, _, _), (9, _, _), (10, _, _), (7, _, _), (5, _, _), (0, _, _)]) ⟨rfl, rfl, rfl, rfl, rfl, rfl, rfl, trivial⟩ ?_
      refine SL.nil (SE.thenK hK19 (SC.region ?_))
      refine SL.step (PS.move rfl tt rfl rfl) ?_
      refine SL.step (PS.add_in rfl tt rfl tt (fun _ => wr_i64 (by omega)) rfl rfl) ?_
      refine SL.step (PS.assign rfl tt rfl rfl) ?_
      refine SL.keep (l' := [(12, _, _), (11, _, _), (13, _, _), (9, _, _), (10, _, _), (7, _, _), (5, _, _), (0, _, _)]) ⟨rfl, rfl, rfl, rfl, rfl, rfl, rfl, rfl, trivial⟩ ?_
      refine SL.nil (SE.block_normal (SE.thenK hK17 (SC.region ?_)))
      refine SL.step (PS.move rfl tt rfl rfl) ?_
      refine SL.step (PS.add_in rfl tt rfl tt (fun _ => wr_i64 (by omega)) rfl rfl) ?_
      refine SL.step (PS.assign rfl tt rfl rfl) ?_
      refine SL.keep (l' := [(13, _, _), (12, _, _), (11, _, _), (9, _, _), (10, _, _), (7, _, _), (5, _, _), (0, _, _)]) ⟨rfl, rfl, rfl, rfl, rfl, rfl, rfl, rfl, trivial⟩ ?_
      refine SL.nil ?_
      exact SE.againF (k1p, (x13 + 1), (x13 + 1), (x11 + 1)) ⟨rfl, rfl, rfl, rfl, rfl, rfl, rfl, rfl, trivial⟩ rfl (fun w h => And.intro (h.1) (And.intro ⟨((show d_lathelaw03_LexJoins_R11 p0 (k1p + 1) x13 x12 x11 = d_lathelaw03_LexJoins_R11 p0 k1p (x13 + 1) (x13 + 1) (x11 + 1) from ((bifT c56).trans (bifT c62))).symm.trans hL1), by (try dsimp only); omega, by (try dsimp only); omega, by (try dsimp only); omega, by (try dsimp only); omega, by (try dsimp only); omega, by (try dsimp only); omega, by (try dsimp only); omega⟩ (trivial))) (Nat.lt_succ_self _)
     ·
      have c62n := c62
      try simp only [Bool.and_eq_true, Bool.or_eq_true, decide_eq_true_eq, Bool.true_and, Bool.not_eq_true', Bool.not_eq_false', beq_iff_eq, bne_iff_ne, decide_eq_false_iff_not, beq_eq_false_iff_ne, bne_eq_false_iff_eq, ne_eq, Bool.or_eq_false_iff, Bool.and_eq_false_iff] at c62n
      refine SC.skip (SE.block_normal (SE.thenK hK17 (SC.region ?_)))
      refine SL.step (PS.move rfl tt rfl rfl) ?_
      refine SL.step (PS.add_in rfl tt rfl tt (fun _ => wr_i64 (by omega)) rfl rfl) ?_
      refine SL.step (PS.assign rfl tt rfl rfl) ?_
      refine SL.keep (l' := [(13, _, _), (12, _, _), (11, _, _), (9, _, _), (10, _, _), (7, _, _), (5, _, _), (0, _, _)]) ⟨rfl, rfl, rfl, rfl, rfl, rfl, rfl, rfl, trivial⟩ ?_
      refine SL.nil ?_
      exact SE.againF (k1p, (x13 + 1), x12, x11) ⟨rfl, rfl, rfl, rfl, rfl, rfl, rfl, rfl, trivial⟩ rfl (fun w h => And.intro (h.1) (And.intro ⟨((show d_lathelaw03_LexJoins_R11 p0 (k1p + 1) x13 x12 x11 = d_lathelaw03_LexJoins_R11 p0 k1p (x13 + 1) x12 x11 from ((bifT c56).trans (bifF c62))).symm.trans hL1), by (try dsimp only); omega, by (try dsimp only); omega, by (try dsimp only); omega, by (try dsimp only); omega, by (try dsimp only); omega, by (try dsimp only); omega, by (try dsimp only); omega⟩ (trivial))) (Nat.lt_succ_self _)
    ·
     have c56n := c56
     try simp only [Bool.and_eq_true, Bool.or_eq_true, decide_eq_true_eq, Bool.true_and, Bool.not_eq_true', Bool.not_eq_false', beq_iff_eq, bne_iff_ne, decide_eq_false_iff_not, beq_eq_false_iff_ne, bne_eq_false_iff_eq, ne_eq, Bool.or_eq_false_iff, Bool.and_eq_false_iff] at c56n
     refine SC.exit (SE.then_exit (SE.then_exit (SE.block_same (SE.thenK hK13 (SC.seq (fun K20 hK20 => SC.region ?_))))))
     refine SL.step (PS.assign rfl tt rfl rfl) ?_
     refine SL.row0 (Dat.sz Tok) (Dat.cells (α := Tok)) ?_
     refine SL.keep (l' := [(14, _, _), (12, _, _), (11, _, _), (9, _, _), (10, _, _), (7, _, _), (5, _, _), (0, _, _)]) ⟨rfl, rfl, rfl, rfl, rfl, rfl, rfl, rfl, trivial⟩ ?_
     refine SL.nil (SE.thenK hK20 (SC.seq (fun K21 hK21 => SC.region ?_)))
     refine SL.step (PS.move rfl tt rfl rfl) ?_
     refine SL.step (PS.move rfl tt rfl rfl) ?_
     refine SL.append (k := 0) (xs := ([] : List Tok)) (ys := (d_lex_Tokens p0).1) (cells := Dat.cells) rfl rfl rfl Dat.len Dat.one (fun w hw => Src.ofSl (ys := (d_lex_Tokens p0).1) Tryd.underlying23 Dat.len Dat.one (Rw.sl (hw.ok _ (mem_nth (k := 6) rfl)))) Tryd.underlying23 Tryd.rowinfo_31 (by (try simp only [List.length_append, List.length_cons, List.length_nil]); omega) (by (try simp only [List.length_append, List.length_cons, List.length_nil]); omega) rfl rfl (fun o69 c69 => ?_)
     refine SL.own_eq (own' := [_, _, _, _, _, _, _]) rfl ?_
     refine SL.step (PS.move rfl tt rfl rfl) ?_
     refine SL.step (PS.move rfl tt rfl rfl) ?_
     refine SL.step (PS.len_string rfl tt Tryd.underlying9 rfl rfl) ?_
     refine SL.step (PS.move rfl tt rfl rfl) ?_
     refine SL.step (PS.sub_in rfl tt rfl tt (fun _ => wr_i64 (by omega)) rfl rfl) ?_
     refine SL.step (PS.add_in rfl tt rfl tt (fun _ => wr_i64 (by omega)) rfl rfl) ?_
     refine SL.step (PS.build (us := [(0, _), (2, _), (3, _)]) (vs := [_, _, _, _]) ⟨rfl, ⟨_, rfl, tt⟩, ⟨rfl, ⟨_, rfl, tt⟩, ⟨rfl, ⟨_, rfl, tt⟩, trivial⟩⟩⟩ Tryd.underlying31 Tryd.zeroValue31 (Tryd.places_31 Tryd.underlying31) rfl rfl rfl) ?_
     refine SL.buildSlice (us := [(0, _)]) (cs := [_, _, _, _]) ⟨rfl, ⟨_, rfl, tt⟩, trivial⟩ Tryd.underlying23 Tryd.sizeOf31 Tryd.zeroValue31 ⟨rfl, rfl, _, rfl, trivial⟩ rfl (by decide) rfl rfl (fun b77 => ?_)
     refine SL.append1 (k := 0) (xs := (([] : List Tok) ++ ((d_lex_Tokens p0).1))) (y := (⟨6, ByteArray.empty, x11, (((p0.size : Int) - x12) + 1)⟩ : Tok)) (cells := Dat.cells) rfl rfl rfl rfl Dat.len Dat.one Tryd.underlying23 Tryd.rowinfo_31 (by (try simp only [List.length_append, List.length_cons, List.length_nil]); omega) (by (try simp only [List.length_append, List.length_cons, List.length_nil]); omega) rfl rfl (fun o78 c78 => ?_)
     refine SL.own_eq (own' := [_, _, _, _, _, _, _]) rfl ?_
     refine SL.step (PS.assign rfl tt rfl rfl) ?_
     refine SL.keep (l' := [(14, _, _), (11, _, _), (9, _, _), (10, _, _), (7, _, _)]) ⟨rfl, rfl, rfl, rfl, rfl, trivial⟩ ?_
     refine SL.nil (SE.thenK hK21 (SC.seq (fun K22 hK22 => SC.seq (fun K23 hK23 => SC.region ?_))))
     refine SL.step (PS.move rfl tt rfl rfl) ?_
     refine SL.step (PS.len_slice rfl tt Tryd.underlying23 rfl rfl) ?_
     refine SL.step (PS.move rfl tt rfl rfl) ?_
     refine SL.keep (l' := [(81, _, _), (80, _, _), (79, _, _), (14, _, _), (11, _, _), (9, _, _), (10, _, _)]) ⟨rfl, rfl, rfl, rfl, rfl, rfl, rfl, trivial⟩ ?_
     refine SL.nil (SE.thenK hK23 (SC.block ?_))
     refine SC.loopF (fun ((k1b, l14, x81, o14, cap14) : Nat × List Tok × Int × Option Nat × Nat) => [(81, true, .int .i64 x81), (80, true, .int .i64 ((d_lex_Tokens p1).1.length : Int)), (79, true, .slice (rowA o0q26) ((d_lex_Tokens p1).1.length) cap0q26), (14, true, .slice (rowA o14) l14.length cap14), (11, true, .int .i64 x11), (9, true, .slice (rowA o0q50) ((d_lex_Tokens ((p0 ++ (⟨#[10]⟩ : ByteArray)) ++ p1)).1.length) cap0q50), (10, true, .pointer (some ⟨b10, 0, none⟩))]) (fun ((k1b, l14, x81, o14, cap14) : Nat × List Tok × Int × Option Nat × Nat) => [Rw o14 l14 cap14, .blk b10 [.int .i64 (((d_lex_Tokens ((p0 ++ (⟨#[10]⟩ : ByteArray)) ++ p1)).2).code), .int .i64 (((d_lex_Tokens ((p0 ++ (⟨#[10]⟩ : ByteArray)) ++ p1)).2).line), .int .i64 (((d_lex_Tokens ((p0 ++ (⟨#[10]⟩ : ByteArray)) ++ p1)).2).col)], Rw o0q50 ((d_lex_Tokens ((p0 ++ (⟨#[10]⟩ : ByteArray)) ++ p1)).1) cap0q50, .blk b8 [.int .i64 (((d_lex_Tokens p1).2).code), .int .i64 (((d_lex_Tokens p1).2).line), .int .i64 (((d_lex_Tokens p1).2).col)], Rw o0q26 ((d_lex_Tokens p1).1) cap0q26, .blk b6 [.int .i64 (((d_lex_Tokens p0).2).code), .int .i64 (((d_lex_Tokens p0).2).line), .int .i64 (((d_lex_Tokens p0).2).col)], Rw o0q21 ((d_lex_Tokens p0).1) cap0q21]) (fun ((k1b, l14, x81, o14, cap14) : Nat × List Tok × Int × Option Nat × Nat) w => ((d_lathelaw03_LexJoins_R19 p1 x11 k1b l14 x81 = d_lathelaw03_LexJoins_R19 p1 x11 ((((d_lex_Tokens p1).1.length : Int) - 0).toNat + 1) ((([] : List Tok) ++ ((d_lex_Tokens p0).1)) ++ [(⟨6, ByteArray.empty, x11, (((p0.size : Int) - x12) + 1)⟩ : Tok)]) 0) ∧ ((((d_lex_Tokens p1).1.length : Int) - x81).toNat < k1b) ∧ (0 ≤ x81) ∧ (x81 ≤ ((d_lex_Tokens p1).1.length : Int)) ∧ ((l14.length : Int) = ((d_lex_Tokens p0).1.length : Int) + 1 + x81)) ∧ ((∀ x ∈ l14, Dat.ok x w))) (fun q => q.1) ((((d_lex_Tokens p1).1.length : Int) - 0).toNat + 1, ((([] : List Tok) ++ ((d_lex_Tokens p0).1)) ++ [(⟨6, ByteArray.empty, x11, (((p0.size : Int) - x12) + 1)⟩ : Tok)]), 0, o78, c78) ⟨rfl, rfl, rfl, rfl, rfl, rfl, rfl, trivial⟩ rfl (fun w h => ⟨⟨rfl, Nat.lt_succ_self _, by omega, by omega, by simp⟩, (all_snoc ((all_app ((fun x hx => nomatch hx)) ((h.1.1.1.2.2)))) (⟨(by first | exact Nat.zero_le _ | exact Nat.le_trans ht84 (by have hml : maxLen = 9223372036854775807 := rfl; omega))⟩))⟩) (fun q => ?_)
     obtain ⟨k1b, l14, x81, o14, cap14⟩ := q
     dsimp only
     refine SC.know (fun w h => h.2.1) (fun hp => ?_)
     obtain ⟨hL1b, hm1b, hi1b_0, hi1b_1, hi1b_2⟩ := hp
     obtain ⟨k1bp, rfl⟩ : ∃ j, k1b = j + 1 := ⟨k1b - 1, by omega⟩
     refine SC.seq (fun K24 hK24 => SC.region ?_)
     refine SL.step (PS.lss rfl tt rfl tt rfl rfl) ?_
     refine SL.nil (SE.thenK hK24 (SC.seq (fun K25 hK25 => ?_)))
     refine SC.cond rfl (fun c82 => ?_) (fun c82 => ?_)
     ·
      have c82n := c82
      try simp only [Bool.and_eq_true, Bool.or_eq_true, decide_eq_true_eq, Bool.true_and, Bool.not_eq_true', Bool.not_eq_false', beq_iff_eq, bne_iff_ne, decide_eq_false_iff_not, beq_eq_false_iff_ne, bne_eq_false_iff_eq, ne_eq, Bool.or_eq_false_iff, Bool.and_eq_false_iff] at c82n
      refine SC.skip (SE.thenK hK25 (SC.seq (fun K26 hK26 => SC.block (SC.seq (fun K27 hK27 => ?_)))))
      have ht84 := hq1.2.2 _ (getD_mem (d := Dat.d) (i := Int.toNat x81) (by omega))
      refine SC.region ?_
      refine SL.step (PS.indexS (α := Tok) (xs := (d_lex_Tokens p1).1) rfl tt rfl tt Tryd.underlying23 Tryd.sizeOf31 (fun w hw _ => Rw.sl (hw.ok _ (mem_nth (k := 4) rfl))) rfl (fun hg => by first | omega | (simp only [List.length_cons, List.length_nil]; omega) | (try simp only [Bool.and_eq_true, Bool.or_eq_true, decide_eq_true_eq, Bool.true_and, Bool.not_eq_true', beq_iff_eq, bne_iff_ne, decide_eq_false_iff_not, beq_eq_false_iff_ne, ne_eq] at hg; omega)) rfl rfl) ?_
      refine SL.step (PS.loadS (α := Tok) (xs := (d_lex_Tokens p1).1) (m := x81) (vs := [.int .i64 ((((d_lex_Tokens p1).1).getD (Int.toNat x81) Dat.d).k), .string ((((d_lex_Tokens p1).1).getD (Int.toNat x81) Dat.d).text), .int .i64 ((((d_lex_Tokens p1).1).getD (Int.toNat x81) Dat.d).line), .int .i64 ((((d_lex_Tokens p1).1).getD (Int.toNat x81) Dat.d).col)]) rfl tt (fun w hw _ => Rw.sl (hw.ok _ (mem_nth (k := 4) rfl))) (fun hg => by first | omega | (simp only [List.length_cons, List.length_nil]; omega) | (try simp only [Bool.and_eq_true, Bool.or_eq_true, decide_eq_true_eq, Bool.true_and, Bool.not_eq_true', beq_iff_eq, bne_iff_ne, decide_eq_false_iff_not, beq_eq_false_iff_ne, ne_eq] at hg; omega)) rfl Tryd.isAgg31 Tryd.sizeOf31 rfl rfl) ?_
      refine SL.alloc (cs := [_, _, _, _]) Tryd.zeroValue31 rfl rfl rfl (fun b16 => ?_)
      refine SL.store_own (k := 0) (own' := [_, _, _, _, _, _, _, _]) (cs' := [_, _, _, _]) rfl rfl rfl rfl rfl rfl rfl Tryd.sizeOf31 rfl (Nat.le_of_ble_eq_true rfl) rfl rfl rfl rfl ?_
      refine SL.keep (l' := [(16, _, _), (81, _, _), (80, _, _), (79, _, _), (14, _, _), (11, _, _), (9, _, _), (10, _, _)]) ⟨rfl, rfl, rfl, rfl, rfl, rfl, rfl, rfl, trivial⟩ ?_
      refine SL.nil (SE.thenK hK27 (SC.seq (fun K28 hK28 => SC.region ?_)))
      refine SL.step (PS.fieldAddr rfl tt Tryd.fieldAt_31_2 rfl rfl) ?_
      refine SL.step (PS.load_own (k := 0) rfl tt rfl rfl rfl Tryd.isAgg3 rfl rfl) ?_
      refine SL.step (PS.move rfl tt rfl rfl) ?_
      refine SL.step (PS.add rfl tt rfl tt rfl rfl) ?_
      refine SL.step (PS.fieldAddr rfl tt Tryd.fieldAt_31_2 rfl rfl) ?_
      refine SL.store_own (k := 0) (own' := [_, _, _, _, _, _, _, _]) (cs' := [_, _, _, _]) rfl rfl rfl rfl rfl rfl rfl Tryd.sizeOf3 rfl (Nat.le_of_ble_eq_true rfl) rfl rfl rfl rfl ?_
      refine SL.keep (l' := [(16, _, _), (81, _, _), (80, _, _), (79, _, _), (14, _, _), (11, _, _), (9, _, _), (10, _, _)]) ⟨rfl, rfl, rfl, rfl, rfl, rfl, rfl, rfl, trivial⟩ ?_
      refine SL.nil (SE.thenK hK28 (SC.region ?_))
      refine SL.step (PS.move rfl tt rfl rfl) ?_
      refine SL.step (PS.load_own_agg (k := 0) (vs := [_, _, _, _]) rfl tt rfl rfl rfl rfl Tryd.isAgg31 Tryd.sizeOf31 rfl rfl) ?_
      refine SL.buildSlice (us := [(0, _)]) (cs := [_, _, _, _]) ⟨rfl, ⟨_, rfl, tt⟩, trivial⟩ Tryd.underlying23 Tryd.sizeOf31 Tryd.zeroValue31 ⟨rfl, rfl, _, rfl, trivial⟩ rfl (by decide) rfl rfl (fun b92 => ?_)
      refine SL.append1 (k := 1) (xs := l14) (y := (⟨(((d_lex_Tokens p1).1).getD (Int.toNat x81) Dat.d).k, (((d_lex_Tokens p1).1).getD (Int.toNat x81) Dat.d).text, (IntKind.i64.wrap ((((d_lex_Tokens p1).1).getD (Int.toNat x81) Dat.d).line + x11)), (((d_lex_Tokens p1).1).getD (Int.toNat x81) Dat.d).col⟩ : Tok)) (cells := Dat.cells) rfl rfl rfl rfl Dat.len Dat.one Tryd.underlying23 Tryd.rowinfo_31 (by (try simp only [List.length_append, List.length_cons, List.length_nil]); omega) (by (try simp only [List.length_append, List.length_cons, List.length_nil]); omega) rfl rfl (fun o93 c93 => ?_)
      refine SL.own_eq (own' := [_, _, _, _, _, _, _, _]) rfl ?_
      refine SL.step (PS.assign rfl tt rfl rfl) ?_
      refine SL.keep (l' := [(14, _, _), (81, _, _), (80, _, _), (79, _, _), (11, _, _), (9, _, _), (10, _, _)]) ⟨rfl, rfl, rfl, rfl, rfl, rfl, rfl, trivial⟩ ?_
      refine SL.nil (SE.block_normal (SE.thenK hK26 (SC.region ?_)))
      refine SL.step (PS.add_in rfl tt rfl tt (fun _ => wr_i64 (by omega)) rfl rfl) ?_
      refine SL.step (PS.move rfl tt rfl rfl) ?_
      refine SL.keep (l' := [(81, _, _), (14, _, _), (80, _, _), (79, _, _), (11, _, _), (9, _, _), (10, _, _)]) ⟨rfl, rfl, rfl, rfl, rfl, rfl, rfl, trivial⟩ ?_
      refine SL.nil ?_
      refine SE.drop (own' := [_, _, _, _, _, _, _]) (List.Sublist.cons _ (List.Sublist.cons_cons _ (List.Sublist.cons_cons _ (List.Sublist.cons_cons _ (List.Sublist.cons_cons _ (List.Sublist.cons_cons _ (List.Sublist.cons_cons _ (List.Sublist.cons_cons _ List.Sublist.slnil)))))))) ?_
      exact SE.againF (k1bp, (l14 ++ [(⟨(((d_lex_Tokens p1).1).getD (Int.toNat x81) Dat.d).k, (((d_lex_Tokens p1).1).getD (Int.toNat x81) Dat.d).text, (IntKind.i64.wrap ((((d_lex_Tokens p1).1).getD (Int.toNat x81) Dat.d).line + x11)), (((d_lex_Tokens p1).1).getD (Int.toNat x81) Dat.d).col⟩ : Tok)]), (x81 + 1), o93, c93) ⟨rfl, rfl, rfl, rfl, rfl, rfl, rfl, trivial⟩ rfl (fun w h => And.intro (h.1) (And.intro ⟨((show d_lathelaw03_LexJoins_R19 p1 x11 (k1bp + 1) l14 x81 = d_lathelaw03_LexJoins_R19 p1 x11 k1bp (l14 ++ [(⟨(((d_lex_Tokens p1).1).getD (Int.toNat x81) Dat.d).k, (((d_lex_Tokens p1).1).getD (Int.toNat x81) Dat.d).text, (IntKind.i64.wrap ((((d_lex_Tokens p1).1).getD (Int.toNat x81) Dat.d).line + x11)), (((d_lex_Tokens p1).1).getD (Int.toNat x81) Dat.d).col⟩ : Tok)]) (x81 + 1) from (bifT c82)).symm.trans hL1b), by (try dsimp only); omega, by (try dsimp only); omega, by (try dsimp only); omega, by (try simp only [List.length_append, List.length_cons, List.length_nil]); omega⟩ ((all_snoc ((h.2.2)) (⟨(by first | exact Nat.zero_le _ | exact Nat.le_trans ht84 (by have hml : maxLen = 9223372036854775807 := rfl; omega))⟩))))) (Nat.lt_succ_self _)
     ·
      have c82n := c82
      try simp only [Bool.and_eq_true, Bool.or_eq_true, decide_eq_true_eq, Bool.true_and, Bool.not_eq_true', Bool.not_eq_false', beq_iff_eq, bne_iff_ne, decide_eq_false_iff_not, beq_eq_false_iff_ne, bne_eq_false_iff_eq, ne_eq, Bool.or_eq_false_iff, Bool.and_eq_false_iff] at c82n
      refine SC.exit (SE.then_exit (SE.then_exit (SE.block_same (SE.thenK hK22 (SC.seq (fun K29 hK29 => SC.region ?_))))))
      refine SL.step (PS.fieldAddr rfl tt Tryd.fieldAt_26_0 rfl rfl) ?_
      refine SL.step (PS.load_own (k := 1) rfl tt rfl rfl rfl Tryd.isAgg24 rfl rfl) ?_
      refine SL.step (PS.eql rfl tt rfl tt rfl rfl) ?_
      refine SL.step (PS.move rfl tt rfl rfl) ?_
      refine SL.step (PS.move rfl tt rfl rfl) ?_
      refine SL.step (PS.move rfl tt rfl rfl) ?_
      refine SL.callR (vs := [_, _]) Tryd.call10 ⟨⟨_, rfl, (fun h => h)⟩, ⟨_, rfl, (fun h => h)⟩, trivial⟩ (fun hg => lathelaw03_sameL (⟨rowA o0q50, cap0q50, (d_lex_Tokens ((p0 ++ (⟨#[10]⟩ : ByteArray)) ++ p1)).1⟩ : SlD Tok) (⟨rowA o14, cap14, l14⟩ : SlD Tok) ) (fun w h hok hg => ⟨(⟨Rw.sl (hok _ (mem_nth (k := 2) rfl)), (h.1.1.2.2), (show ((d_lex_Tokens ((p0 ++ (⟨#[10]⟩ : ByteArray)) ++ p1)).1).length ≤ 9223372036854775807 by omega)⟩ : SlD.rd _ _), (⟨Rw.sl (hok _ (mem_nth (k := 0) rfl)), (h.2.2), (show l14.length ≤ 9223372036854775807 by omega)⟩ : SlD.rd _ _)⟩) rfl rfl ?_
      refine SL.step (PS.pick_and rfl tt rfl (fun h h2 => pk_and h h2) rfl rfl) ?_
      refine SL.step (PS.assign rfl tt rfl rfl) ?_
      refine SL.keep (l' := [(4, _, _)]) ⟨rfl, trivial⟩ ?_
      refine SL.nil (SE.thenK hK29 (SC.ret ?_))
      exact fin1 rfl rfl rfl (fun _ _ => congrArg (fun z : Bool => Value.bool z) (show (d_lathelaw03_LexJoins p0 p1) = (((((d_lex_Tokens ((p0 ++ (⟨#[10]⟩ : ByteArray)) ++ p1)).2).code == 0) && (sameL ((d_lex_Tokens ((p0 ++ (⟨#[10]⟩ : ByteArray)) ++ p1)).1) l14)) : Bool) from ((bifF c18).trans ((bifF c44).trans ((letV_eq (hL1.symm.trans (show d_lathelaw03_LexJoins_R11 p0 (k1p + 1) x13 x12 x11 = (x13, x12, x11) from (bifF c56)))).trans (letV_eq (hL1b.symm.trans (show d_lathelaw03_LexJoins_R19 p1 x11 (k1bp + 1) l14 x81 = (l14, x81) from (bifF c82)))))))).symm)
end Go.Proofs.YtjdiohhniiooeaaDoor
