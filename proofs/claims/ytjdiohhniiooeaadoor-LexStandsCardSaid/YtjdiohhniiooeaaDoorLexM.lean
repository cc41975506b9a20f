/- The law Remarks: what its code computes. -/
import Derived.Test.YtjdiohhniiooeaaDoorLexV
namespace Go.Proofs.YtjdiohhniiooeaaDoor
open Go.RowKit
set_option linter.unusedVariables false
set_option linter.unusedSimpArgs false
set_option maxRecDepth 100000
set_option maxHeartbeats 4000000
def d_lathelaw03_LexRemarks_R23 (p0 : ByteArray) : Nat → (List Tok) → Int → List Tok × Int
  | 0, lq64, x94 => (lq64, x94)
  | k + 1, lq64, x94 =>
   bif (decide (x94 < ((d_lex_Tokens ((⟨#[32, 9]⟩ : ByteArray) ++ p0)).1.length : Int))) then
    d_lathelaw03_LexRemarks_R23 p0 k (lq64.set (Int.toNat x94) (⟨(lq64.getD (Int.toNat x94) Dat.d).k, (lq64.getD (Int.toNat x94) Dat.d).text, (lq64.getD (Int.toNat x94) Dat.d).line, (IntKind.i64.wrap ((lq64.getD (Int.toNat x94) Dat.d).col - 2))⟩ : Tok)) (x94 + 1)
   else (lq64, x94)
def d_lathelaw03_LexRemarks_R9 (p1 : ByteArray) : Nat → Int → Sum (Bool) (Int)
  | 0, x6 => Sum.inr x6
  | k + 1, x6 =>
   bif (decide (x6 < (p1.size : Int))) then
    bif ((byteAt p1 x6) == 10) then
     Sum.inl true
    else d_lathelaw03_LexRemarks_R9 p1 k (x6 + 1)
   else Sum.inr x6
def d_lathelaw03_LexRemarks_R4 (p0 : ByteArray) : Nat → Int → Sum (Bool) (Int)
  | 0, x5 => Sum.inr x5
  | k + 1, x5 =>
   bif (decide (x5 < (p0.size : Int))) then
    bif (((byteAt p0 x5) == 10) || ((byteAt p0 x5) == 35)) then
     Sum.inl true
    else d_lathelaw03_LexRemarks_R4 p0 k (x5 + 1)
   else Sum.inr x5
def d_lathelaw03_LexRemarks (p0 : ByteArray) (p1 : ByteArray) : Bool :=
  bif (!d_lathelaw03_lives) then
   false
  else thenL (d_lathelaw03_LexRemarks_R4 p0 (((p0.size : Int) - 0).toNat + 1) 0) (fun x5e => thenL (d_lathelaw03_LexRemarks_R9 p1 (((p1.size : Int) - 0).toNat + 1) 0) (fun x6e => bif (decide (60000 < ((p0.size : Int) + (p1.size : Int)))) then
     true
    else bif (((!decide (((d_lex_Tokens p0).2) = ((d_lex_Tokens ((p0 ++ (⟨#[35]⟩ : ByteArray)) ++ p1)).2))) || (!(sameL ((d_lex_Tokens p0).1) ((d_lex_Tokens ((p0 ++ (⟨#[35]⟩ : ByteArray)) ++ p1)).1)))) || (((d_lex_Tokens p0).2).code != ((d_lex_Tokens ((⟨#[32, 9]⟩ : ByteArray) ++ p0)).2).code)) then
      false
     else bif (((d_lex_Tokens p0).2).code != 0) then
       (((d_lex_Tokens ((⟨#[32, 9]⟩ : ByteArray) ++ p0)).2).col == (IntKind.i64.wrap (((d_lex_Tokens p0).2).col + 2)))
      else letV (d_lathelaw03_LexRemarks_R23 p0 ((((d_lex_Tokens ((⟨#[32, 9]⟩ : ByteArray) ++ p0)).1.length : Int) - 0).toNat + 1) ((d_lex_Tokens ((⟨#[32, 9]⟩ : ByteArray) ++ p0)).1) 0) (fun (lq64e, x94e) => (sameL ((d_lex_Tokens p0).1) lq64e))))
theorem lathelaw03_LexRemarks_S (p0 : ByteArray) (p1 : ByteArray) (h0 : p0.size + p1.size ≤ 281474976710656) : Spec Tryd.prog 5 [.string p0, .string p1] (fun w => Vars w) (fun v _ => v = Value.bool (d_lathelaw03_LexRemarks p0 p1)) := by
  refine Spec.enter Tryd.func5 rfl (n := 109) Tryd.ntmps5 (Nat.le_of_ble_eq_true rfl) (l := [(0, _, _), (1, _, _)]) rfl ?_
  intro S w
  refine SC.seq (fun K1 hK1 => SC.region ?_)
  refine SL.step (PS.assign rfl tt rfl rfl) ?_
  refine SL.keep (l' := [(0, _, _), (1, _, _)]) ⟨rfl, rfl, trivial⟩ ?_
  refine SL.nil (SE.thenK hK1 (SC.seq (fun K2 hK2 => SC.seq (fun K3 hK3 => SC.region ?_))))
  refine SL.callR (vs := []) Tryd.call8 trivial (fun hg => lathelaw03_lives_S  ) (fun w h hok hg => (h)) rfl rfl ?_
  refine SL.step (PS.not rfl tt rfl rfl) ?_
  refine SL.keep (l' := [(15, _, _), (0, _, _), (1, _, _)]) ⟨rfl, rfl, rfl, trivial⟩ ?_
  refine SL.nil (SE.thenK hK3 ?_)
  refine SC.cond rfl (fun c15 => ?_) (fun c15 => ?_)
  ·
   refine SC.seq (fun K4 hK4 => SC.region ?_)
   refine SL.step (PS.assign rfl tt rfl rfl) ?_
   refine SL.keep (l' := [(4, _, _)]) ⟨rfl, trivial⟩ ?_
   refine SL.nil (SE.thenK hK4 (SC.ret (SE.then_ret ?_)))
   exact fin1 rfl rfl rfl (fun _ _ => congrArg (fun z : Bool => Value.bool z) (show (d_lathelaw03_LexRemarks p0 p1) = (false : Bool) from (bifT c15)).symm)
  ·
   have c15n := c15
   try simp only [Bool.and_eq_true, Bool.or_eq_true, decide_eq_true_eq, Bool.true_and, Bool.not_eq_true', Bool.not_eq_false', beq_iff_eq, bne_iff_ne, decide_eq_false_iff_not, beq_eq_false_iff_ne, bne_eq_false_iff_eq, ne_eq, Bool.or_eq_false_iff, Bool.and_eq_false_iff] at c15n
   refine SC.skip (SE.thenK hK2 (SC.seq (fun K5 hK5 => SC.seq (fun K6 hK6 => SC.region ?_))))
   refine SL.step (PS.assign rfl tt rfl rfl) ?_
   refine SL.keep (l' := [(5, _, _), (0, _, _), (1, _, _)]) ⟨rfl, rfl, rfl, trivial⟩ ?_
   refine SL.nil (SE.thenK hK6 (SC.block ?_))
   refine SC.loopF (fun ((k1, x5) : Nat × Int) => [(5, true, .int .i64 x5), (0, true, .string p0), (1, true, .string p1)]) (fun ((k1, x5) : Nat × Int) => []) (fun ((k1, x5) : Nat × Int) w => ((d_lathelaw03_LexRemarks_R4 p0 k1 x5 = d_lathelaw03_LexRemarks_R4 p0 (((p0.size : Int) - 0).toNat + 1) 0) ∧ (((p0.size : Int) - x5).toNat < k1) ∧ (0 ≤ x5) ∧ (x5 ≤ (p0.size : Int))) ∧ (True)) (fun q => q.1) (((p0.size : Int) - 0).toNat + 1, 0) ⟨rfl, rfl, rfl, trivial⟩ rfl (fun w h => ⟨⟨rfl, Nat.lt_succ_self _, by omega, by omega⟩, trivial⟩) (fun q => ?_)
   obtain ⟨k1, x5⟩ := q
   dsimp only
   refine SC.know (fun w h => h.2.1) (fun hp => ?_)
   obtain ⟨hL1, hm1, hi1_0, hi1_1⟩ := hp
   obtain ⟨k1p, rfl⟩ : ∃ j, k1 = j + 1 := ⟨k1 - 1, by omega⟩
   refine SC.seq (fun K7 hK7 => SC.seq (fun K8 hK8 => SC.region ?_))
   refine SL.step (PS.move rfl tt rfl rfl) ?_
   refine SL.step (PS.move rfl tt rfl rfl) ?_
   refine SL.step (PS.len_string rfl tt Tryd.underlying9 rfl rfl) ?_
   refine SL.step (PS.lss rfl tt rfl tt rfl rfl) ?_
   refine SL.keep (l' := [(19, _, _), (5, _, _), (0, _, _), (1, _, _)]) ⟨rfl, rfl, rfl, rfl, trivial⟩ ?_
   refine SL.nil (SE.thenK hK8 ?_)
   refine SC.cond rfl (fun c19 => ?_) (fun c19 => ?_)
   ·
    have c19n := c19
    try simp only [Bool.and_eq_true, Bool.or_eq_true, decide_eq_true_eq, Bool.true_and, Bool.not_eq_true', Bool.not_eq_false', beq_iff_eq, bne_iff_ne, decide_eq_false_iff_not, beq_eq_false_iff_ne, bne_eq_false_iff_eq, ne_eq, Bool.or_eq_false_iff, Bool.and_eq_false_iff] at c19n
    refine SC.skip (SE.thenK hK7 (SC.seq (fun K9 hK9 => SC.block (SC.seq (fun K10 hK10 => SC.region ?_)))))
    refine SL.step (PS.move rfl tt rfl rfl) ?_
    refine SL.step (PS.move rfl tt rfl rfl) ?_
    refine SL.step (PS.indexStr rfl tt rfl tt Tryd.underlying9 (fun hg => by first | omega | (simp only [List.length_cons, List.length_nil]; omega) | (try simp only [Bool.and_eq_true, Bool.or_eq_true, decide_eq_true_eq, Bool.true_and, Bool.not_eq_true', beq_iff_eq, bne_iff_ne, decide_eq_false_iff_not, beq_eq_false_iff_ne, ne_eq] at hg; omega)) rfl rfl) ?_
    refine SL.step (PS.eql rfl tt rfl tt rfl rfl) ?_
    refine SL.step (PS.move rfl tt rfl rfl) ?_
    refine SL.step (PS.move rfl tt rfl rfl) ?_
    refine SL.step (PS.move rfl tt rfl rfl) ?_
    refine SL.step (PS.indexStr rfl (fun h => h) rfl (fun h => h) Tryd.underlying9 (fun hg => by first | omega | (simp only [List.length_cons, List.length_nil]; omega) | (try simp only [Bool.and_eq_true, Bool.or_eq_true, decide_eq_true_eq, Bool.true_and, Bool.not_eq_true', beq_iff_eq, bne_iff_ne, decide_eq_false_iff_not, beq_eq_false_iff_ne, ne_eq] at hg; omega)) rfl rfl) ?_
    refine SL.step (PS.eql rfl (fun h => h) rfl tt rfl rfl) ?_
    refine SL.step (PS.pick_or rfl tt rfl (fun h h2 => pk_or h h2) rfl rfl) ?_
    refine SL.keep (l' := [(31, _, _), (5, _, _), (0, _, _), (1, _, _)]) ⟨rfl, rfl, rfl, rfl, trivial⟩ ?_
    refine SL.nil (SE.thenK hK10 ?_)
    refine SC.cond rfl (fun c31 => ?_) (fun c31 => ?_)
    ·
     refine SC.seq (fun K11 hK11 => SC.region ?_)
     refine SL.step (PS.assign rfl tt rfl rfl) ?_
     refine SL.keep (l' := [(4, _, _)]) ⟨rfl, trivial⟩ ?_
     refine SL.nil (SE.thenK hK11 (SC.ret (SE.block_ret (SE.then_ret (SE.then_ret (SE.block_ret (SE.then_ret ?_)))))))
     exact fin1 rfl rfl rfl (fun _ _ => congrArg (fun z : Bool => Value.bool z) (show (d_lathelaw03_LexRemarks p0 p1) = (true : Bool) from ((bifF c15).trans (thenL_inl ((hL1.symm.trans (show d_lathelaw03_LexRemarks_R4 p0 (k1p + 1) x5 = Sum.inl true from ((bifT c19).trans (bifT c31)))))))).symm)
    ·
     have c31n := c31
     try simp only [Bool.and_eq_true, Bool.or_eq_true, decide_eq_true_eq, Bool.true_and, Bool.not_eq_true', Bool.not_eq_false', beq_iff_eq, bne_iff_ne, decide_eq_false_iff_not, beq_eq_false_iff_ne, bne_eq_false_iff_eq, ne_eq, Bool.or_eq_false_iff, Bool.and_eq_false_iff] at c31n
     refine SC.skip (SE.block_normal (SE.thenK hK9 (SC.region ?_)))
     refine SL.step (PS.move rfl tt rfl rfl) ?_
     refine SL.step (PS.add_in rfl tt rfl tt (fun _ => wr_i64 (by omega)) rfl rfl) ?_
     refine SL.step (PS.assign rfl tt rfl rfl) ?_
     refine SL.keep (l' := [(5, _, _), (0, _, _), (1, _, _)]) ⟨rfl, rfl, rfl, trivial⟩ ?_
     refine SL.nil ?_
     exact SE.againF (k1p, (x5 + 1)) ⟨rfl, rfl, rfl, trivial⟩ rfl (fun w h => And.intro (h.1) (And.intro ⟨((show d_lathelaw03_LexRemarks_R4 p0 (k1p + 1) x5 = d_lathelaw03_LexRemarks_R4 p0 k1p (x5 + 1) from ((bifT c19).trans (bifF c31))).symm.trans hL1), by (try dsimp only); omega, by (try dsimp only); omega, by (try dsimp only); omega⟩ (trivial))) (Nat.lt_succ_self _)
   ·
    have c19n := c19
    try simp only [Bool.and_eq_true, Bool.or_eq_true, decide_eq_true_eq, Bool.true_and, Bool.not_eq_true', Bool.not_eq_false', beq_iff_eq, bne_iff_ne, decide_eq_false_iff_not, beq_eq_false_iff_ne, bne_eq_false_iff_eq, ne_eq, Bool.or_eq_false_iff, Bool.and_eq_false_iff] at c19n
    refine SC.exit (SE.then_exit (SE.then_exit (SE.block_same (SE.thenK hK5 (SC.seq (fun K12 hK12 => SC.seq (fun K13 hK13 => SC.region ?_)))))))
    refine SL.step (PS.assign rfl tt rfl rfl) ?_
    refine SL.keep (l' := [(6, _, _), (0, _, _), (1, _, _)]) ⟨rfl, rfl, rfl, trivial⟩ ?_
    refine SL.nil (SE.thenK hK13 (SC.block ?_))
    refine SC.loopF (fun ((k1b, x6) : Nat × Int) => [(6, true, .int .i64 x6), (0, true, .string p0), (1, true, .string p1)]) (fun ((k1b, x6) : Nat × Int) => []) (fun ((k1b, x6) : Nat × Int) w => ((d_lathelaw03_LexRemarks_R9 p1 k1b x6 = d_lathelaw03_LexRemarks_R9 p1 (((p1.size : Int) - 0).toNat + 1) 0) ∧ (((p1.size : Int) - x6).toNat < k1b) ∧ (0 ≤ x6) ∧ (x6 ≤ (p1.size : Int))) ∧ (True)) (fun q => q.1) (((p1.size : Int) - 0).toNat + 1, 0) ⟨rfl, rfl, rfl, trivial⟩ rfl (fun w h => ⟨⟨rfl, Nat.lt_succ_self _, by omega, by omega⟩, trivial⟩) (fun q => ?_)
    obtain ⟨k1b, x6⟩ := q
    dsimp only
    refine SC.know (fun w h => h.2.1) (fun hp => ?_)
    obtain ⟨hL1b, hm1b, hi1b_0, hi1b_1⟩ := hp
    obtain ⟨k1bp, rfl⟩ : ∃ j, k1b = j + 1 := ⟨k1b - 1, by omega⟩
    refine SC.seq (fun K14 hK14 => SC.seq (fun K15 hK15 => SC.region ?_))
    refine SL.step (PS.move rfl tt rfl rfl) ?_
    refine SL.step (PS.move rfl tt rfl rfl) ?_
    refine SL.step (PS.len_string rfl tt Tryd.underlying9 rfl rfl) ?_
    refine SL.step (PS.lss rfl tt rfl tt rfl rfl) ?_
    refine SL.keep (l' := [(35, _, _), (6, _, _), (0, _, _), (1, _, _)]) ⟨rfl, rfl, rfl, rfl, trivial⟩ ?_
    refine SL.nil (SE.thenK hK15 ?_)
    refine SC.cond rfl (fun c35 => ?_) (fun c35 => ?_)
    ·
     have c35n := c35
     try simp only [Bool.and_eq_true, Bool.or_eq_true, decide_eq_true_eq, Bool.true_and, Bool.not_eq_true', Bool.not_eq_false', beq_iff_eq, bne_iff_ne, decide_eq_false_iff_not, beq_eq_false_iff_ne, bne_eq_false_iff_eq, ne_eq, Bool.or_eq_false_iff, Bool.and_eq_false_iff] at c35n
     refine SC.skip (SE.thenK hK14 (SC.seq (fun K16 hK16 => SC.block (SC.seq (fun K17 hK17 => SC.region ?_)))))
     refine SL.step (PS.move rfl tt rfl rfl) ?_
     refine SL.step (PS.move rfl tt rfl rfl) ?_
     refine SL.step (PS.indexStr rfl tt rfl tt Tryd.underlying9 (fun hg => by first | omega | (simp only [List.length_cons, List.length_nil]; omega) | (try simp only [Bool.and_eq_true, Bool.or_eq_true, decide_eq_true_eq, Bool.true_and, Bool.not_eq_true', beq_iff_eq, bne_iff_ne, decide_eq_false_iff_not, beq_eq_false_iff_ne, ne_eq] at hg; omega)) rfl rfl) ?_
     refine SL.step (PS.eql rfl tt rfl tt rfl rfl) ?_
     refine SL.keep (l' := [(41, _, _), (6, _, _), (0, _, _), (1, _, _)]) ⟨rfl, rfl, rfl, rfl, trivial⟩ ?_
     refine SL.nil (SE.thenK hK17 ?_)
     refine SC.cond rfl (fun c41 => ?_) (fun c41 => ?_)
     ·
      refine SC.seq (fun K18 hK18 => SC.region ?_)
      refine SL.step (PS.assign rfl tt rfl rfl) ?_
      refine SL.keep (l' := [(4, _, _)]) ⟨rfl, trivial⟩ ?_
      refine SL.nil (SE.thenK hK18 (SC.ret (SE.block_ret (SE.then_ret (SE.then_ret (SE.block_ret (SE.then_ret ?_)))))))
      exact fin1 rfl rfl rfl (fun _ _ => congrArg (fun z : Bool => Value.bool z) (show (d_lathelaw03_LexRemarks p0 p1) = (true : Bool) from ((bifF c15).trans ((thenL_inr (hL1.symm.trans (show d_lathelaw03_LexRemarks_R4 p0 (k1p + 1) x5 = Sum.inr x5 from (bifF c19)))).trans (thenL_inl ((hL1b.symm.trans (show d_lathelaw03_LexRemarks_R9 p1 (k1bp + 1) x6 = Sum.inl true from ((bifT c35).trans (bifT c41))))))))).symm)
     ·
      have c41n := c41
      try simp only [Bool.and_eq_true, Bool.or_eq_true, decide_eq_true_eq, Bool.true_and, Bool.not_eq_true', Bool.not_eq_false', beq_iff_eq, bne_iff_ne, decide_eq_false_iff_not, beq_eq_false_iff_ne, bne_eq_false_iff_eq, ne_eq, Bool.or_eq_false_iff, Bool.and_eq_false_iff] at c41n
      refine SC.skip (SE.block_normal (SE.thenK hK16 (SC.region ?_)))
      refine SL.step (PS.move rfl tt rfl rfl) ?_
      refine SL.step (PS.add_in rfl tt rfl tt (fun _ => wr_i64 (by omega)) rfl rfl) ?_
      refine SL.step (PS.assign rfl tt rfl rfl) ?_
      refine SL.keep (l' := [(6, _, _), (0, _, _), (1, _, _)]) ⟨rfl, rfl, rfl, trivial⟩ ?_
      refine SL.nil ?_
      exact SE.againF (k1bp, (x6 + 1)) ⟨rfl, rfl, rfl, trivial⟩ rfl (fun w h => And.intro (h.1) (And.intro ⟨((show d_lathelaw03_LexRemarks_R9 p1 (k1bp + 1) x6 = d_lathelaw03_LexRemarks_R9 p1 k1bp (x6 + 1) from ((bifT c35).trans (bifF c41))).symm.trans hL1b), by (try dsimp only); omega, by (try dsimp only); omega, by (try dsimp only); omega⟩ (trivial))) (Nat.lt_succ_self _)
    ·
     have c35n := c35
     try simp only [Bool.and_eq_true, Bool.or_eq_true, decide_eq_true_eq, Bool.true_and, Bool.not_eq_true', Bool.not_eq_false', beq_iff_eq, bne_iff_ne, decide_eq_false_iff_not, beq_eq_false_iff_ne, bne_eq_false_iff_eq, ne_eq, Bool.or_eq_false_iff, Bool.and_eq_false_iff] at c35n
     refine SC.exit (SE.then_exit (SE.then_exit (SE.block_same (SE.thenK hK12 (SC.seq (fun K19 hK19 => SC.seq (fun K20 hK20 => SC.region ?_)))))))
     refine SL.step (PS.move rfl tt rfl rfl) ?_
     refine SL.step (PS.len_string rfl tt Tryd.underlying9 rfl rfl) ?_
     refine SL.step (PS.move rfl tt rfl rfl) ?_
     refine SL.step (PS.len_string rfl tt Tryd.underlying9 rfl rfl) ?_
     refine SL.step (PS.add_in rfl tt rfl tt (fun _ => wr_i64 (by omega)) rfl rfl) ?_
     refine SL.step (PS.gtr rfl tt rfl tt rfl rfl) ?_
     refine SL.keep (l' := [(47, _, _), (0, _, _), (1, _, _)]) ⟨rfl, rfl, rfl, trivial⟩ ?_
     refine SL.nil (SE.thenK hK20 ?_)
     refine SC.cond rfl (fun c47 => ?_) (fun c47 => ?_)
     ·
      refine SC.seq (fun K21 hK21 => SC.region ?_)
      refine SL.step (PS.assign rfl tt rfl rfl) ?_
      refine SL.keep (l' := [(4, _, _)]) ⟨rfl, trivial⟩ ?_
      refine SL.nil (SE.thenK hK21 (SC.ret (SE.then_ret ?_)))
      exact fin1 rfl rfl rfl (fun _ _ => congrArg (fun z : Bool => Value.bool z) (show (d_lathelaw03_LexRemarks p0 p1) = (true : Bool) from ((bifF c15).trans ((thenL_inr (hL1.symm.trans (show d_lathelaw03_LexRemarks_R4 p0 (k1p + 1) x5 = Sum.inr x5 from (bifF c19)))).trans ((thenL_inr (hL1b.symm.trans (show d_lathelaw03_LexRemarks_R9 p1 (k1bp + 1) x6 = Sum.inr x6 from (bifF c35)))).trans (bifT c47))))).symm)
     ·
      have c47n := c47
      try simp only [Bool.and_eq_true, Bool.or_eq_true, decide_eq_true_eq, Bool.true_and, Bool.not_eq_true', Bool.not_eq_false', beq_iff_eq, bne_iff_ne, decide_eq_false_iff_not, beq_eq_false_iff_ne, bne_eq_false_iff_eq, ne_eq, Bool.or_eq_false_iff, Bool.and_eq_false_iff] at c47n
      refine SC.skip (SE.thenK hK19 (SC.seq (fun K22 hK22 => SC.region ?_)))
      refine SL.step (PS.move rfl tt rfl rfl) ?_
      refine SL.callX (vs := [_]) (rs := []) (own' := []) (List.Perm.refl _) Tryd.call9 ⟨⟨_, rfl, tt⟩, trivial⟩ (lex_Tokens_O p0 ) (fun w h => (h.1.1)) rfl rfl (fun x50 => ?_)
      obtain ⟨o0q50, cap0q50⟩ := x50
      refine SL.know (p := (d_lex_Tokens p0).1.length ≤ 9223372036854775807) (fun w h => h.2.1) (fun hleq50 => ?_)
      refine SL.step (PS.move rfl tt rfl rfl) ?_
      refine SL.step (PS.extract rfl tt rfl rfl rfl) ?_
      refine SL.step (PS.extract rfl tt rfl rfl rfl) ?_
      refine SL.alloc (cs := [_, _, _]) Tryd.zeroValue26 rfl rfl rfl (fun b8 => ?_)
      refine SL.step (PS.assign rfl tt rfl rfl) ?_
      refine SL.store_own (k := 0) (own' := [_, _]) (cs' := [_, _, _]) rfl rfl rfl rfl rfl rfl rfl Tryd.sizeOf26 rfl (Nat.le_of_ble_eq_true rfl) rfl rfl rfl rfl ?_
      refine SL.keep (l' := [(7, _, _), (8, _, _), (0, _, _), (1, _, _)]) ⟨rfl, rfl, rfl, rfl, trivial⟩ ?_
      refine SL.nil (SE.thenK hK22 (SC.seq (fun K23 hK23 => SC.region ?_)))
      refine SL.step (PS.move rfl tt rfl rfl) ?_
      refine SL.step (PS.addS rfl tt rfl tt (fun hg => by show p0.size + 1 ≤ _; omega) rfl rfl) ?_
      refine SL.step (PS.move rfl tt rfl rfl) ?_
      refine SL.step (PS.addS rfl tt rfl tt (fun hg => by rw [ByteArray.size_append]; show p0.size + 1 + p1.size ≤ _; omega) rfl rfl) ?_
      refine SL.callX (vs := [_]) (rs := []) (own' := [_, _]) (List.Perm.refl _) Tryd.call9 ⟨⟨_, rfl, tt⟩, trivial⟩ (lex_Tokens_O ((p0 ++ (⟨#[35]⟩ : ByteArray)) ++ p1) ) (fun w h => (h.1.1.1)) rfl rfl (fun x58 => ?_)
      obtain ⟨o0q58, cap0q58⟩ := x58
      refine SL.know (p := (d_lex_Tokens ((p0 ++ (⟨#[35]⟩ : ByteArray)) ++ p1)).1.length ≤ 9223372036854775807) (fun w h => h.2.1) (fun hleq58 => ?_)
      refine SL.step (PS.move rfl tt rfl rfl) ?_
      refine SL.step (PS.extract rfl tt rfl rfl rfl) ?_
      refine SL.step (PS.extract rfl tt rfl rfl rfl) ?_
      refine SL.alloc (cs := [_, _, _]) Tryd.zeroValue26 rfl rfl rfl (fun b10 => ?_)
      refine SL.step (PS.assign rfl tt rfl rfl) ?_
      refine SL.store_own (k := 0) (own' := [_, _, _, _]) (cs' := [_, _, _]) rfl rfl rfl rfl rfl rfl rfl Tryd.sizeOf26 rfl (Nat.le_of_ble_eq_true rfl) rfl rfl rfl rfl ?_
      refine SL.keep (l' := [(9, _, _), (10, _, _), (7, _, _), (8, _, _), (0, _, _)]) ⟨rfl, rfl, rfl, rfl, rfl, trivial⟩ ?_
      refine SL.nil (SE.thenK hK23 (SC.seq (fun K24 hK24 => SC.region ?_)))
      refine SL.step (PS.move rfl tt rfl rfl) ?_
      refine SL.step (PS.addS rfl tt rfl tt (fun hg => by show 2 + p0.size ≤ _; omega) rfl rfl) ?_
      refine SL.callX (vs := [_]) (rs := []) (own' := [_, _, _, _]) (List.Perm.refl _) Tryd.call9 ⟨⟨_, rfl, tt⟩, trivial⟩ (lex_Tokens_O ((⟨#[32, 9]⟩ : ByteArray) ++ p0) ) (fun w h => (h.1.1.1.1)) rfl rfl (fun x64 => ?_)
      obtain ⟨o0q64, cap0q64⟩ := x64
      refine SL.know (p := (d_lex_Tokens ((⟨#[32, 9]⟩ : ByteArray) ++ p0)).1.length ≤ 9223372036854775807) (fun w h => h.2.1) (fun hleq64 => ?_)
      refine SL.step (PS.move rfl tt rfl rfl) ?_
      refine SL.step (PS.extract rfl tt rfl rfl rfl) ?_
      refine SL.step (PS.extract rfl tt rfl rfl rfl) ?_
      refine SL.alloc (cs := [_, _, _]) Tryd.zeroValue26 rfl rfl rfl (fun b12 => ?_)
      refine SL.step (PS.assign rfl tt rfl rfl) ?_
      refine SL.store_own (k := 0) (own' := [_, _, _, _, _, _]) (cs' := [_, _, _]) rfl rfl rfl rfl rfl rfl rfl Tryd.sizeOf26 rfl (Nat.le_of_ble_eq_true rfl) rfl rfl rfl rfl ?_
      refine SL.keep (l' := [(11, _, _), (12, _, _), (9, _, _), (10, _, _), (7, _, _), (8, _, _)]) ⟨rfl, rfl, rfl, rfl, rfl, rfl, trivial⟩ ?_
      refine SL.nil (SE.thenK hK24 (SC.seq (fun K25 hK25 => SC.seq (fun K26 hK26 => SC.region ?_))))
      refine SL.step (PS.load_own_agg (k := 4) (vs := [_, _, _]) rfl tt rfl rfl rfl rfl Tryd.isAgg26 Tryd.sizeOf26 rfl rfl) ?_
      refine SL.step (PS.load_own_agg (k := 2) (vs := [_, _, _]) rfl tt rfl rfl rfl rfl Tryd.isAgg26 Tryd.sizeOf26 rfl rfl) ?_
      refine SL.step (PS.neqA (u := .agg [.int .i64 (((d_lex_Tokens p0).2).code), .int .i64 (((d_lex_Tokens p0).2).line), .int .i64 (((d_lex_Tokens p0).2).col)].toArray) (v := .agg [.int .i64 (((d_lex_Tokens ((p0 ++ (⟨#[35]⟩ : ByteArray)) ++ p1)).2).code), .int .i64 (((d_lex_Tokens ((p0 ++ (⟨#[35]⟩ : ByteArray)) ++ p1)).2).line), .int .i64 (((d_lex_Tokens ((p0 ++ (⟨#[35]⟩ : ByteArray)) ++ p1)).2).col)].toArray) rfl tt rfl tt (fun x y w => Flt_nql x y ((d_lex_Tokens p0).2) ((d_lex_Tokens ((p0 ++ (⟨#[35]⟩ : ByteArray)) ++ p1)).2) w) rfl rfl) ?_
      refine SL.step (PS.move rfl tt rfl rfl) ?_
      refine SL.step (PS.move rfl tt rfl rfl) ?_
      refine SL.step (PS.move rfl tt rfl rfl) ?_
      refine SL.callR (vs := [_, _]) Tryd.call10 ⟨⟨_, rfl, (fun h => h)⟩, ⟨_, rfl, (fun h => h)⟩, trivial⟩ (fun hg => lathelaw03_sameL (⟨rowA o0q50, cap0q50, (d_lex_Tokens p0).1⟩ : SlD Tok) (⟨rowA o0q58, cap0q58, (d_lex_Tokens ((p0 ++ (⟨#[35]⟩ : ByteArray)) ++ p1)).1⟩ : SlD Tok) ) (fun w h hok hg => ⟨(⟨Rw.sl (hok _ (mem_nth (k := 5) rfl)), (h.1.1.2.2), (show ((d_lex_Tokens p0).1).length ≤ 9223372036854775807 by omega)⟩ : SlD.rd _ _), (⟨Rw.sl (hok _ (mem_nth (k := 3) rfl)), (h.1.2.2), (show ((d_lex_Tokens ((p0 ++ (⟨#[35]⟩ : ByteArray)) ++ p1)).1).length ≤ 9223372036854775807 by omega)⟩ : SlD.rd _ _)⟩) rfl rfl ?_
      refine SL.step (PS.not rfl (fun h => h) rfl rfl) ?_
      refine SL.step (PS.pick_or rfl tt rfl (fun h h2 => pk_or h h2) rfl rfl) ?_
      refine SL.step (PS.move rfl tt rfl rfl) ?_
      refine SL.step (PS.fieldAddr rfl tt Tryd.fieldAt_26_0 rfl rfl) ?_
      refine SL.step (PS.load_own (k := 4) rfl (fun h => h) rfl rfl rfl Tryd.isAgg24 rfl rfl) ?_
      refine SL.step (PS.fieldAddr rfl tt Tryd.fieldAt_26_0 rfl rfl) ?_
      refine SL.step (PS.load_own (k := 0) rfl (fun h => h) rfl rfl rfl Tryd.isAgg24 rfl rfl) ?_
      refine SL.step (PS.neq rfl (fun h => h) rfl (fun h => h) rfl rfl) ?_
      refine SL.step (PS.pick_or rfl tt rfl (fun h h2 => pk_or h h2) rfl rfl) ?_
      refine SL.keep (l' := [(82, _, _), (11, _, _), (12, _, _), (7, _, _), (8, _, _)]) ⟨rfl, rfl, rfl, rfl, rfl, trivial⟩ ?_
      refine SL.nil (SE.thenK hK26 ?_)
      refine SC.cond rfl (fun c82 => ?_) (fun c82 => ?_)
      ·
       refine SC.seq (fun K27 hK27 => SC.region ?_)
       refine SL.step (PS.assign rfl tt rfl rfl) ?_
       refine SL.keep (l' := [(4, _, _)]) ⟨rfl, trivial⟩ ?_
       refine SL.nil (SE.thenK hK27 (SC.ret (SE.then_ret ?_)))
       exact fin1 rfl rfl rfl (fun _ _ => congrArg (fun z : Bool => Value.bool z) (show (d_lathelaw03_LexRemarks p0 p1) = (false : Bool) from ((bifF c15).trans ((thenL_inr (hL1.symm.trans (show d_lathelaw03_LexRemarks_R4 p0 (k1p + 1) x5 = Sum.inr x5 from (bifF c19)))).trans ((thenL_inr (hL1b.symm.trans (show d_lathelaw03_LexRemarks_R9 p1 (k1bp + 1) x6 = Sum.inr x6 from (bifF c35)))).trans ((bifF c47).trans (bifT c82)))))).symm)
      ·
       have c82n := c82
       try simp only [Bool.and_eq_true, Bool.or_eq_true, decide_eq_true_eq, Bool.true_and, Bool.not_eq_true', Bool.not_eq_false', beq_iff_eq, bne_iff_ne, decide_eq_false_iff_not, beq_eq_false_iff_ne, bne_eq_false_iff_eq, ne_eq, Bool.or_eq_false_iff, Bool.and_eq_false_iff] at c82n
       refine SC.skip (SE.thenK hK25 (SC.seq (fun K28 hK28 => SC.seq (fun K29 hK29 => SC.region ?_))))
       refine SL.step (PS.fieldAddr rfl tt Tryd.fieldAt_26_0 rfl rfl) ?_
       refine SL.step (PS.load_own (k := 4) rfl tt rfl rfl rfl Tryd.isAgg24 rfl rfl) ?_
       refine SL.step (PS.neq rfl tt rfl tt rfl rfl) ?_
       refine SL.keep (l' := [(85, _, _), (11, _, _), (12, _, _), (7, _, _), (8, _, _)]) ⟨rfl, rfl, rfl, rfl, rfl, trivial⟩ ?_
       refine SL.nil (SE.thenK hK29 ?_)
       refine SC.cond rfl (fun c85 => ?_) (fun c85 => ?_)
       ·
        refine SC.seq (fun K30 hK30 => SC.region ?_)
        refine SL.step (PS.fieldAddr rfl tt Tryd.fieldAt_26_2 rfl rfl) ?_
        refine SL.step (PS.load_own (k := 0) rfl tt rfl rfl rfl Tryd.isAgg3 rfl rfl) ?_
        refine SL.step (PS.fieldAddr rfl tt Tryd.fieldAt_26_2 rfl rfl) ?_
        refine SL.step (PS.load_own (k := 4) rfl tt rfl rfl rfl Tryd.isAgg3 rfl rfl) ?_
        refine SL.step (PS.add rfl tt rfl tt rfl rfl) ?_
        refine SL.step (PS.eql rfl tt rfl tt rfl rfl) ?_
        refine SL.step (PS.assign rfl tt rfl rfl) ?_
        refine SL.keep (l' := [(4, _, _)]) ⟨rfl, trivial⟩ ?_
        refine SL.nil (SE.thenK hK30 (SC.ret (SE.then_ret ?_)))
        exact fin1 rfl rfl rfl (fun _ _ => congrArg (fun z : Bool => Value.bool z) (show (d_lathelaw03_LexRemarks p0 p1) = ((((d_lex_Tokens ((⟨#[32, 9]⟩ : ByteArray) ++ p0)).2).col == (IntKind.i64.wrap (((d_lex_Tokens p0).2).col + 2))) : Bool) from ((bifF c15).trans ((thenL_inr (hL1.symm.trans (show d_lathelaw03_LexRemarks_R4 p0 (k1p + 1) x5 = Sum.inr x5 from (bifF c19)))).trans ((thenL_inr (hL1b.symm.trans (show d_lathelaw03_LexRemarks_R9 p1 (k1bp + 1) x6 = Sum.inr x6 from (bifF c35)))).trans ((bifF c47).trans ((bifF c82).trans (bifT c85))))))).symm)
       ·
        have c85n := c85
        try simp only [Bool.and_eq_true, Bool.or_eq_true, decide_eq_true_eq, Bool.true_and, Bool.not_eq_true', Bool.not_eq_false', beq_iff_eq, bne_iff_ne, decide_eq_false_iff_not, beq_eq_false_iff_ne, bne_eq_false_iff_eq, ne_eq, Bool.or_eq_false_iff, Bool.and_eq_false_iff] at c85n
        refine SC.skip (SE.thenK hK28 (SC.seq (fun K31 hK31 => SC.seq (fun K32 hK32 => SC.region ?_))))
        refine SL.step (PS.move rfl tt rfl rfl) ?_
        refine SL.step (PS.len_slice rfl tt Tryd.underlying23 rfl rfl) ?_
        refine SL.step (PS.move rfl tt rfl rfl) ?_
        refine SL.keep (l' := [(94, _, _), (93, _, _), (11, _, _), (7, _, _)]) ⟨rfl, rfl, rfl, rfl, trivial⟩ ?_
        refine SL.nil (SE.thenK hK32 (SC.block ?_))
        refine SC.loopF (fun ((k1c, lq64, x94, oq64, capq64) : Nat × List Tok × Int × Option Nat × Nat) => [(94, true, .int .i64 x94), (93, true, .int .i64 ((d_lex_Tokens ((⟨#[32, 9]⟩ : ByteArray) ++ p0)).1.length : Int)), (11, true, .slice (rowA oq64) lq64.length capq64), (7, true, .slice (rowA o0q50) ((d_lex_Tokens p0).1.length) cap0q50)]) (fun ((k1c, lq64, x94, oq64, capq64) : Nat × List Tok × Int × Option Nat × Nat) => [.blk b12 [.int .i64 (((d_lex_Tokens ((⟨#[32, 9]⟩ : ByteArray) ++ p0)).2).code), .int .i64 (((d_lex_Tokens ((⟨#[32, 9]⟩ : ByteArray) ++ p0)).2).line), .int .i64 (((d_lex_Tokens ((⟨#[32, 9]⟩ : ByteArray) ++ p0)).2).col)], Rw oq64 lq64 capq64, .blk b10 [.int .i64 (((d_lex_Tokens ((p0 ++ (⟨#[35]⟩ : ByteArray)) ++ p1)).2).code), .int .i64 (((d_lex_Tokens ((p0 ++ (⟨#[35]⟩ : ByteArray)) ++ p1)).2).line), .int .i64 (((d_lex_Tokens ((p0 ++ (⟨#[35]⟩ : ByteArray)) ++ p1)).2).col)], Rw o0q58 ((d_lex_Tokens ((p0 ++ (⟨#[35]⟩ : ByteArray)) ++ p1)).1) cap0q58, .blk b8 [.int .i64 (((d_lex_Tokens p0).2).code), .int .i64 (((d_lex_Tokens p0).2).line), .int .i64 (((d_lex_Tokens p0).2).col)], Rw o0q50 ((d_lex_Tokens p0).1) cap0q50]) (fun ((k1c, lq64, x94, oq64, capq64) : Nat × List Tok × Int × Option Nat × Nat) w => ((d_lathelaw03_LexRemarks_R23 p0 k1c lq64 x94 = d_lathelaw03_LexRemarks_R23 p0 ((((d_lex_Tokens ((⟨#[32, 9]⟩ : ByteArray) ++ p0)).1.length : Int) - 0).toNat + 1) ((d_lex_Tokens ((⟨#[32, 9]⟩ : ByteArray) ++ p0)).1) 0) ∧ ((((d_lex_Tokens ((⟨#[32, 9]⟩ : ByteArray) ++ p0)).1.length : Int) - x94).toNat < k1c) ∧ (0 ≤ x94) ∧ (x94 ≤ ((d_lex_Tokens ((⟨#[32, 9]⟩ : ByteArray) ++ p0)).1.length : Int)) ∧ (lq64.length = (d_lex_Tokens ({ data := #[32, 9] } ++ p0)).1.length)) ∧ ((∀ x ∈ lq64, Dat.ok x w))) (fun q => q.1) ((((d_lex_Tokens ((⟨#[32, 9]⟩ : ByteArray) ++ p0)).1.length : Int) - 0).toNat + 1, (d_lex_Tokens ((⟨#[32, 9]⟩ : ByteArray) ++ p0)).1, 0, o0q64, cap0q64) ⟨rfl, rfl, rfl, rfl, trivial⟩ rfl (fun w h => ⟨⟨rfl, Nat.lt_succ_self _, by omega, by omega, rfl⟩, (h.2.2)⟩) (fun q => ?_)
        obtain ⟨k1c, lq64, x94, oq64, capq64⟩ := q
        dsimp only
        refine SC.know (fun w h => h.2.1) (fun hp => ?_)
        obtain ⟨hL1c, hm1c, hi1c_0, hi1c_1, hi1c_2⟩ := hp
        obtain ⟨k1cp, rfl⟩ : ∃ j, k1c = j + 1 := ⟨k1c - 1, by omega⟩
        refine SC.seq (fun K33 hK33 => SC.region ?_)
        refine SL.step (PS.lss rfl tt rfl tt rfl rfl) ?_
        refine SL.nil (SE.thenK hK33 (SC.seq (fun K34 hK34 => ?_)))
        refine SC.cond rfl (fun c95 => ?_) (fun c95 => ?_)
        ·
         have c95n := c95
         try simp only [Bool.and_eq_true, Bool.or_eq_true, decide_eq_true_eq, Bool.true_and, Bool.not_eq_true', Bool.not_eq_false', beq_iff_eq, bne_iff_ne, decide_eq_false_iff_not, beq_eq_false_iff_ne, bne_eq_false_iff_eq, ne_eq, Bool.or_eq_false_iff, Bool.and_eq_false_iff] at c95n
         refine SC.skip (SE.thenK hK34 (SC.seq (fun K35 hK35 => SC.block (SC.seq (fun K36 hK36 => SC.region ?_)))))
         refine SL.step (PS.move rfl tt rfl rfl) ?_
         refine SL.step (PS.assign rfl tt rfl rfl) ?_
         refine SL.keep (l' := [(13, _, _), (94, _, _), (93, _, _), (11, _, _), (7, _, _)]) ⟨rfl, rfl, rfl, rfl, rfl, trivial⟩ ?_
         refine SL.nil (SE.thenK hK36 (SC.region ?_))
         refine SL.step (PS.move rfl tt rfl rfl) ?_
         refine SL.step (PS.move rfl tt rfl rfl) ?_
         refine SL.step (PS.indexS (α := Tok) (xs := lq64) rfl tt rfl tt Tryd.underlying23 Tryd.sizeOf31 (fun w hw _ => Rw.sl (hw.ok _ (mem_nth (k := 1) rfl))) rfl (fun hg => by first | omega | (simp only [List.length_cons, List.length_nil]; omega) | (try simp only [Bool.and_eq_true, Bool.or_eq_true, decide_eq_true_eq, Bool.true_and, Bool.not_eq_true', beq_iff_eq, bne_iff_ne, decide_eq_false_iff_not, beq_eq_false_iff_ne, ne_eq] at hg; omega)) rfl rfl) ?_
         refine SL.step (PS.fieldAddr rfl tt Tryd.fieldAt_31_3 rfl rfl) ?_
         refine SL.step (PS.loadSF (α := Tok) (xs := lq64) (m := x94) rfl tt (fun w hw _ => Rw.sl (hw.ok _ (mem_nth (k := 1) rfl))) (fun hg => by first | omega | (simp only [List.length_cons, List.length_nil]; omega) | (try simp only [Bool.and_eq_true, Bool.or_eq_true, decide_eq_true_eq, Bool.true_and, Bool.not_eq_true', beq_iff_eq, bne_iff_ne, decide_eq_false_iff_not, beq_eq_false_iff_ne, ne_eq] at hg; omega)) rfl Tryd.isAgg3 rfl rfl) ?_
         refine SL.step (PS.sub rfl tt rfl tt rfl rfl) ?_
         refine SL.step (PS.indexS (α := Tok) (xs := lq64) rfl tt rfl tt Tryd.underlying23 Tryd.sizeOf31 (fun w hw _ => Rw.sl (hw.ok _ (mem_nth (k := 1) rfl))) rfl (fun hg => by first | omega | (simp only [List.length_cons, List.length_nil]; omega) | (try simp only [Bool.and_eq_true, Bool.or_eq_true, decide_eq_true_eq, Bool.true_and, Bool.not_eq_true', beq_iff_eq, bne_iff_ne, decide_eq_false_iff_not, beq_eq_false_iff_ne, ne_eq] at hg; omega)) rfl rfl) ?_
         refine SL.step (PS.fieldAddr rfl tt Tryd.fieldAt_31_3 rfl rfl) ?_
         refine SL.storeR (e' := (⟨(lq64.getD (Int.toNat x94) Dat.d).k, (lq64.getD (Int.toNat x94) Dat.d).text, (lq64.getD (Int.toNat x94) Dat.d).line, (IntKind.i64.wrap ((lq64.getD (Int.toNat x94) Dat.d).col - 2))⟩ : Tok)) (α := Tok) (k := 1) (j := 3) (own' := [_, _, _, _, _, _]) rfl rfl rfl rfl rfl rfl (by omega) rfl Tryd.sizeOf3 rfl (Nat.le_of_ble_eq_true rfl) rfl rfl rfl rfl rfl ?_
         refine SL.keep (l' := [(94, _, _), (93, _, _), (11, _, _), (7, _, _)]) ⟨rfl, rfl, rfl, rfl, trivial⟩ ?_
         refine SL.nil (SE.block_normal (SE.thenK hK35 (SC.region ?_)))
         refine SL.step (PS.add_in rfl tt rfl tt (fun _ => wr_i64 (by omega)) rfl rfl) ?_
         refine SL.step (PS.move rfl tt rfl rfl) ?_
         refine SL.keep (l' := [(94, _, _), (93, _, _), (11, _, _), (7, _, _)]) ⟨rfl, rfl, rfl, rfl, trivial⟩ ?_
         refine SL.nil ?_
         exact SE.againF (k1cp, (lq64.set (Int.toNat x94) (⟨(lq64.getD (Int.toNat x94) Dat.d).k, (lq64.getD (Int.toNat x94) Dat.d).text, (lq64.getD (Int.toNat x94) Dat.d).line, (IntKind.i64.wrap ((lq64.getD (Int.toNat x94) Dat.d).col - 2))⟩ : Tok)), (x94 + 1), oq64, capq64) ⟨rfl, rfl, (show some (true, Value.slice (rowA oq64) lq64.length capq64) = some (true, Value.slice (rowA oq64) ((lq64.set (Int.toNat x94) (⟨(lq64.getD (Int.toNat x94) Dat.d).k, (lq64.getD (Int.toNat x94) Dat.d).text, (lq64.getD (Int.toNat x94) Dat.d).line, (IntKind.i64.wrap ((lq64.getD (Int.toNat x94) Dat.d).col - 2))⟩ : Tok))).length capq64) by simp only [List.length_set]), rfl, trivial⟩ rfl (fun w h => And.intro (h.1) (And.intro ⟨((show d_lathelaw03_LexRemarks_R23 p0 (k1cp + 1) lq64 x94 = d_lathelaw03_LexRemarks_R23 p0 k1cp (lq64.set (Int.toNat x94) (⟨(lq64.getD (Int.toNat x94) Dat.d).k, (lq64.getD (Int.toNat x94) Dat.d).text, (lq64.getD (Int.toNat x94) Dat.d).line, (IntKind.i64.wrap ((lq64.getD (Int.toNat x94) Dat.d).col - 2))⟩ : Tok)) (x94 + 1) from (bifT c95)).symm.trans hL1c), by (try dsimp only); omega, by (try dsimp only); omega, by (try dsimp only); omega, by rw [List.length_set]; exact hi1c_2⟩ ((all_set ((h.2.2)) ((tok_col ((h.2.2) _ (getD_mem (by omega))))))))) (Nat.lt_succ_self _)
        ·
         have c95n := c95
         try simp only [Bool.and_eq_true, Bool.or_eq_true, decide_eq_true_eq, Bool.true_and, Bool.not_eq_true', Bool.not_eq_false', beq_iff_eq, bne_iff_ne, decide_eq_false_iff_not, beq_eq_false_iff_ne, bne_eq_false_iff_eq, ne_eq, Bool.or_eq_false_iff, Bool.and_eq_false_iff] at c95n
         refine SC.exit (SE.then_exit (SE.then_exit (SE.block_same (SE.thenK hK31 (SC.seq (fun K37 hK37 => SC.region ?_))))))
         refine SL.step (PS.move rfl tt rfl rfl) ?_
         refine SL.step (PS.move rfl tt rfl rfl) ?_
         refine SL.callR (vs := [_, _]) Tryd.call10 ⟨⟨_, rfl, tt⟩, ⟨_, rfl, tt⟩, trivial⟩ (fun hg => lathelaw03_sameL (⟨rowA o0q50, cap0q50, (d_lex_Tokens p0).1⟩ : SlD Tok) (⟨rowA oq64, capq64, lq64⟩ : SlD Tok) ) (fun w h hok hg => ⟨(⟨Rw.sl (hok _ (mem_nth (k := 5) rfl)), (h.1.1.1.2.2), (show ((d_lex_Tokens p0).1).length ≤ 9223372036854775807 by omega)⟩ : SlD.rd _ _), (⟨Rw.sl (hok _ (mem_nth (k := 1) rfl)), (h.2.2), (show lq64.length ≤ 9223372036854775807 by omega)⟩ : SlD.rd _ _)⟩) rfl rfl ?_
         refine SL.step (PS.assign rfl tt rfl rfl) ?_
         refine SL.keep (l' := [(4, _, _)]) ⟨rfl, trivial⟩ ?_
         refine SL.nil (SE.thenK hK37 (SC.ret ?_))
         exact fin1 rfl rfl rfl (fun _ _ => congrArg (fun z : Bool => Value.bool z) (show (d_lathelaw03_LexRemarks p0 p1) = ((sameL ((d_lex_Tokens p0).1) lq64) : Bool) from ((bifF c15).trans ((thenL_inr (hL1.symm.trans (show d_lathelaw03_LexRemarks_R4 p0 (k1p + 1) x5 = Sum.inr x5 from (bifF c19)))).trans ((thenL_inr (hL1b.symm.trans (show d_lathelaw03_LexRemarks_R9 p1 (k1bp + 1) x6 = Sum.inr x6 from (bifF c35)))).trans ((bifF c47).trans ((bifF c82).trans ((bifF c85).trans (letV_eq (hL1c.symm.trans (show d_lathelaw03_LexRemarks_R23 p0 (k1cp + 1) lq64 x94 = (lq64, x94) from (bifF c95))))))))))).symm)
end Go.Proofs.YtjdiohhniiooeaaDoor
