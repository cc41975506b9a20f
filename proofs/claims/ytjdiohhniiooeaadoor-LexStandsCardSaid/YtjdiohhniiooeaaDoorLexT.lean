/- The reference of layer 3: the pieces of a text. -/
import Derived.Test.YtjdiohhniiooeaaDoorLexR
namespace Go.Proofs.YtjdiohhniiooeaaDoor
open Go.RowKit
set_option linter.unusedVariables false
set_option linter.unusedSimpArgs false
set_option maxRecDepth 100000
set_option maxHeartbeats 4000000
def d_latheref03_Tokens_R12 (p0 : ByteArray) : Nat → Int → Int
  | 0, x9i => x9i
  | k + 1, x9i =>
   bif ((decide (x9i < (p0.size : Int))) && ((byteAt p0 x9i) != 10)) then
    d_latheref03_Tokens_R12 p0 k (x9i + 1)
   else x9i
def d_latheref03_Tokens_R7 (p0 : ByteArray) : Nat → (List Tok) → Int → Int → Int → Sum (List Tok × Int × Int × Int) (List Tok × Int × Int × Int)
  | 0, l6, x9, x8, x7 => Sum.inr (l6, x9, x8, x7)
  | k + 1, l6, x9, x8, x7 =>
   bif (decide (x9 < (p0.size : Int))) then
    bif ((((byteAt p0 x9) == 32) || ((byteAt p0 x9) == 9)) || ((byteAt p0 x9) == 13)) then
     d_latheref03_Tokens_R7 p0 k l6 (x9 + 1) x8 x7
    else bif ((byteAt p0 x9) == 35) then
      letV (d_latheref03_Tokens_R12 p0 (((p0.size : Int) - x9).toNat + 1) x9) (fun x9ie => d_latheref03_Tokens_R7 p0 k l6 x9ie x8 x7)
     else bif ((d_latheref03_piece p0 x9).2.2.2 != 0) then
       Sum.inl ([], (d_latheref03_piece p0 x9).2.2.2, x7, ((x9 - x8) + 1))
      else bif ((d_latheref03_piece p0 x9).1 == 6) then
        d_latheref03_Tokens_R7 p0 k (l6 ++ [(⟨(d_latheref03_piece p0 x9).1, (p0.extract (Int.toNat ((d_latheref03_piece p0 x9).2.1)) (Int.toNat ((d_latheref03_piece p0 x9).2.1 + (d_latheref03_piece p0 x9).2.2.1))), x7, ((x9 - x8) + 1)⟩ : Tok)]) (((d_latheref03_piece p0 x9).2.1 + (d_latheref03_piece p0 x9).2.2.1) + 1) (((d_latheref03_piece p0 x9).2.1 + (d_latheref03_piece p0 x9).2.2.1) + 1) (x7 + 1)
       else d_latheref03_Tokens_R7 p0 k (l6 ++ [(⟨(d_latheref03_piece p0 x9).1, (p0.extract (Int.toNat ((d_latheref03_piece p0 x9).2.1)) (Int.toNat ((d_latheref03_piece p0 x9).2.1 + (d_latheref03_piece p0 x9).2.2.1))), x7, ((x9 - x8) + 1)⟩ : Tok)]) ((d_latheref03_piece p0 x9).2.1 + (d_latheref03_piece p0 x9).2.2.1) x8 x7
   else Sum.inr (l6, x9, x8, x7)
def d_latheref03_Tokens (p0 : ByteArray) : List Tok × Int × Int × Int :=
  bif (decide (65536 < (p0.size : Int))) then
   ([], 6, 0, 0)
  else thenL (d_latheref03_Tokens_R7 p0 (((p0.size : Int) - 0).toNat + 1) ([] : List Tok) 0 0 1) (fun (l6e, x9e, x8e, x7e) => (l6e, 0, 0, 0))
theorem latheref03_Tokens_E (p0 : ByteArray)  : SpecE Tryd.prog 11 [.string p0] (fun w => True) (fun s : SlD Tok => .tuple #[.slice s.a s.l.length s.cap, Value.int .i64 (d_latheref03_Tokens p0).2.1, Value.int .i64 (d_latheref03_Tokens p0).2.2.1, Value.int .i64 (d_latheref03_Tokens p0).2.2.2]) (fun s w => Dat.ok s w ∧ s.l = (d_latheref03_Tokens p0).1) := by
  refine SpecE.enter Tryd.func11 rfl (n := 94) Tryd.ntmps11 (Nat.le_of_ble_eq_true rfl) (l := [(0, _, _)]) rfl ?_
  intro S w
  refine SC.seq (fun K1 hK1 => SC.region ?_)
  refine SL.step (PS.assign rfl tt rfl rfl) ?_
  refine SL.step (PS.assign rfl tt rfl rfl) ?_
  refine SL.step (PS.assign rfl tt rfl rfl) ?_
  refine SL.step (PS.assign rfl tt rfl rfl) ?_
  refine SL.keep (l' := [(0, _, _)]) ⟨rfl, trivial⟩ ?_
  refine SL.nil (SE.thenK hK1 (SC.seq (fun K2 hK2 => SC.seq (fun K3 hK3 => SC.region ?_))))
  refine SL.step (PS.move rfl tt rfl rfl) ?_
  refine SL.step (PS.len_string rfl tt Tryd.underlying9 rfl rfl) ?_
  refine SL.step (PS.gtr rfl tt rfl tt rfl rfl) ?_
  refine SL.keep (l' := [(17, _, _), (0, _, _)]) ⟨rfl, rfl, trivial⟩ ?_
  refine SL.nil (SE.thenK hK3 ?_)
  refine SC.cond rfl (fun c17 => ?_) (fun c17 => ?_)
  ·
   refine SC.seq (fun K4 hK4 => SC.region ?_)
   refine SL.step (PS.assign rfl tt rfl rfl) ?_
   refine SL.step (PS.assign rfl tt rfl rfl) ?_
   refine SL.step (PS.assign rfl tt rfl rfl) ?_
   refine SL.step (PS.assign rfl tt rfl rfl) ?_
   refine SL.keep (l' := [(5, _, _), (4, _, _), (3, _, _), (2, _, _)]) ⟨rfl, rfl, rfl, rfl, trivial⟩ ?_
   refine SL.nil (SE.thenK hK4 (SC.ret (SE.then_ret ?_)))
   exact finE SlD.nil (congrArg (fun z : List Tok × Int × Int × Int => Value.tuple #[.slice none 0 0, Value.int .i64 z.2.1, Value.int .i64 z.2.2.1, Value.int .i64 z.2.2.2]) (show (d_latheref03_Tokens p0) = (([], 6, 0, 0) : List Tok × Int × Int × Int) from (bifT c17)).symm) (run4 rfl rfl rfl rfl rfl) rfl (fun w h => ⟨(SlD.nil_rd _), congrArg (fun z : List Tok × Int × Int × Int => z.1) (show (d_latheref03_Tokens p0) = (([], 6, 0, 0) : List Tok × Int × Int × Int) from (bifT c17)).symm⟩)
  ·
   have c17n := c17
   try simp only [Bool.and_eq_true, Bool.or_eq_true, decide_eq_true_eq, Bool.true_and, Bool.not_eq_true', Bool.not_eq_false', beq_iff_eq, bne_iff_ne, decide_eq_false_iff_not, beq_eq_false_iff_ne, bne_eq_false_iff_eq, ne_eq, Bool.or_eq_false_iff, Bool.and_eq_false_iff] at c17n
   refine SC.skip (SE.thenK hK2 (SC.seq (fun K5 hK5 => SC.region ?_)))
   refine SL.step (PS.assign rfl tt rfl rfl) ?_
   refine SL.row0 (Dat.sz Tok) (Dat.cells (α := Tok)) ?_
   refine SL.keep (l' := [(6, _, _), (0, _, _)]) ⟨rfl, rfl, trivial⟩ ?_
   refine SL.nil (SE.thenK hK5 (SC.seq (fun K6 hK6 => SC.region ?_)))
   refine SL.step (PS.assign rfl tt rfl rfl) ?_
   refine SL.nil (SE.thenK hK6 (SC.seq (fun K7 hK7 => SC.region ?_)))
   refine SL.step (PS.assign rfl tt rfl rfl) ?_
   refine SL.nil (SE.thenK hK7 (SC.seq (fun K8 hK8 => SC.seq (fun K9 hK9 => SC.region ?_))))
   refine SL.step (PS.assign rfl tt rfl rfl) ?_
   refine SL.nil (SE.thenK hK9 (SC.block ?_))
   refine SC.loopF (fun ((k1, l6, x9, x8, x7, o6, cap6) : Nat × List Tok × Int × Int × Int × Option Nat × Nat) => [(9, true, .int .i64 x9), (8, true, .int .i64 x8), (7, true, .int .i64 x7), (6, true, .slice (rowA o6) l6.length cap6), (0, true, .string p0)]) (fun ((k1, l6, x9, x8, x7, o6, cap6) : Nat × List Tok × Int × Int × Int × Option Nat × Nat) => [Rw o6 l6 cap6]) (fun ((k1, l6, x9, x8, x7, o6, cap6) : Nat × List Tok × Int × Int × Int × Option Nat × Nat) w => ((d_latheref03_Tokens_R7 p0 k1 l6 x9 x8 x7 = d_latheref03_Tokens_R7 p0 (((p0.size : Int) - 0).toNat + 1) ([] : List Tok) 0 0 1) ∧ (((p0.size : Int) - x9).toNat < k1) ∧ (0 ≤ x9) ∧ (x9 ≤ (p0.size : Int)) ∧ ((l6.length : Int) ≤ x9) ∧ (0 ≤ x8) ∧ (x8 ≤ x9) ∧ (1 ≤ x7) ∧ (x7 ≤ x9 + 1)) ∧ ((∀ x ∈ l6, Dat.ok x w))) (fun q => q.1) (((p0.size : Int) - 0).toNat + 1, ([] : List Tok), 0, 0, 1, none, 0) ⟨rfl, rfl, rfl, rfl, rfl, trivial⟩ rfl (fun w h => ⟨⟨rfl, Nat.lt_succ_self _, by omega, by omega, by simp, by omega, by omega, by omega, by omega⟩, (fun x hx => nomatch hx)⟩) (fun q => ?_)
   obtain ⟨k1, l6, x9, x8, x7, o6, cap6⟩ := q
   dsimp only
   refine SC.know (fun w h => h.2.1) (fun hp => ?_)
   obtain ⟨hL1, hm1, hi1_0, hi1_1, hi1_2, hi1_3, hi1_4, hi1_5, hi1_6⟩ := hp
   obtain ⟨k1p, rfl⟩ : ∃ j, k1 = j + 1 := ⟨k1 - 1, by omega⟩
   obtain ⟨z9, hz9⟩ : ∃ z : Int, z = x9 := ⟨x9, rfl⟩
   refine SC.seq (fun K10 hK10 => SC.seq (fun K11 hK11 => SC.region ?_))
   refine SL.step (PS.move rfl tt rfl rfl) ?_
   refine SL.step (PS.move rfl tt rfl rfl) ?_
   refine SL.step (PS.len_string rfl tt Tryd.underlying9 rfl rfl) ?_
   refine SL.step (PS.lss rfl tt rfl tt rfl rfl) ?_
   refine SL.keep (l' := [(21, _, _), (9, _, _), (8, _, _), (7, _, _), (6, _, _), (0, _, _)]) ⟨rfl, rfl, rfl, rfl, rfl, rfl, trivial⟩ ?_
   refine SL.nil (SE.thenK hK11 ?_)
   refine SC.cond rfl (fun c21 => ?_) (fun c21 => ?_)
   ·
    have c21n := c21
    try simp only [Bool.and_eq_true, Bool.or_eq_true, decide_eq_true_eq, Bool.true_and, Bool.not_eq_true', Bool.not_eq_false', beq_iff_eq, bne_iff_ne, decide_eq_false_iff_not, beq_eq_false_iff_ne, bne_eq_false_iff_eq, ne_eq, Bool.or_eq_false_iff, Bool.and_eq_false_iff] at c21n
    refine SC.skip (SE.thenK hK10 (SC.block (SC.seq (fun K12 hK12 => SC.region ?_))))
    refine SL.step (PS.move rfl tt rfl rfl) ?_
    refine SL.step (PS.move rfl tt rfl rfl) ?_
    refine SL.step (PS.indexStr rfl tt rfl tt Tryd.underlying9 (fun hg => by first | omega | (simp only [List.length_cons, List.length_nil]; omega) | (try simp only [Bool.and_eq_true, Bool.or_eq_true, decide_eq_true_eq, Bool.true_and, Bool.not_eq_true', beq_iff_eq, bne_iff_ne, decide_eq_false_iff_not, beq_eq_false_iff_ne, ne_eq] at hg; omega)) rfl rfl) ?_
    refine SL.step (PS.assign rfl tt rfl rfl) ?_
    refine SL.keep (l' := [(10, _, _), (9, _, _), (8, _, _), (7, _, _), (6, _, _), (0, _, _)]) ⟨rfl, rfl, rfl, rfl, rfl, rfl, trivial⟩ ?_
    refine SL.nil (SE.thenK hK12 (SC.seq (fun K13 hK13 => SC.seq (fun K14 hK14 => SC.region ?_))))
    refine SL.step (PS.move rfl tt rfl rfl) ?_
    refine SL.step (PS.eql rfl tt rfl tt rfl rfl) ?_
    refine SL.step (PS.move rfl tt rfl rfl) ?_
    refine SL.step (PS.move rfl tt rfl rfl) ?_
    refine SL.step (PS.eql rfl (fun h => h) rfl tt rfl rfl) ?_
    refine SL.step (PS.pick_or rfl tt rfl (fun h h2 => pk_or h h2) rfl rfl) ?_
    refine SL.step (PS.move rfl tt rfl rfl) ?_
    refine SL.step (PS.move rfl tt rfl rfl) ?_
    refine SL.step (PS.eql rfl (fun h => h) rfl tt rfl rfl) ?_
    refine SL.step (PS.pick_or rfl tt rfl (fun h h2 => pk_or h h2) rfl rfl) ?_
    refine SL.keep (l' := [(34, _, _), (10, _, _), (9, _, _), (8, _, _), (7, _, _), (6, _, _), (0, _, _)]) ⟨rfl, rfl, rfl, rfl, rfl, rfl, rfl, trivial⟩ ?_
    refine SL.nil (SE.thenK hK14 ?_)
    refine SC.cond rfl (fun c34 => ?_) (fun c34 => ?_)
    ·
     have c34n := c34
     try simp only [Bool.and_eq_true, Bool.or_eq_true, decide_eq_true_eq, Bool.true_and, Bool.not_eq_true', Bool.not_eq_false', beq_iff_eq, bne_iff_ne, decide_eq_false_iff_not, beq_eq_false_iff_ne, bne_eq_false_iff_eq, ne_eq, Bool.or_eq_false_iff, Bool.and_eq_false_iff] at c34n
     refine SC.seq (fun K15 hK15 => SC.region ?_)
     refine SL.step (PS.move rfl tt rfl rfl) ?_
     refine SL.step (PS.add_in rfl tt rfl tt (fun _ => wr_i64 (by omega)) rfl rfl) ?_
     refine SL.step (PS.assign rfl tt rfl rfl) ?_
     refine SL.keep (l' := [(9, _, _), (8, _, _), (7, _, _), (6, _, _), (0, _, _)]) ⟨rfl, rfl, rfl, rfl, rfl, trivial⟩ ?_
     refine SL.nil (SE.thenK hK15 (SC.exit (SE.then_exit (SE.block_same ?_))))
     exact SE.againF (k1p, l6, (x9 + 1), x8, x7, o6, cap6) ⟨rfl, rfl, rfl, rfl, rfl, trivial⟩ rfl (fun w h => And.intro (h.1) (And.intro ⟨((show d_latheref03_Tokens_R7 p0 (k1p + 1) l6 x9 x8 x7 = d_latheref03_Tokens_R7 p0 k1p l6 (x9 + 1) x8 x7 from ((bifT c21).trans (bifT c34))).symm.trans hL1), by (try dsimp only); omega, by (try dsimp only); omega, by (try dsimp only); omega, by (try simp only [List.length_append, List.length_cons, List.length_nil]); omega, by (try dsimp only); omega, by (try dsimp only); omega, by (try dsimp only); omega, by (try dsimp only); omega⟩ ((h.2.2)))) (Nat.lt_succ_self _)
    ·
     have c34n := c34
     try simp only [Bool.and_eq_true, Bool.or_eq_true, decide_eq_true_eq, Bool.true_and, Bool.not_eq_true', Bool.not_eq_false', beq_iff_eq, bne_iff_ne, decide_eq_false_iff_not, beq_eq_false_iff_ne, bne_eq_false_iff_eq, ne_eq, Bool.or_eq_false_iff, Bool.and_eq_false_iff] at c34n
     refine SC.skip (SE.thenK hK13 (SC.seq (fun K16 hK16 => SC.seq (fun K17 hK17 => SC.region ?_))))
     refine SL.step (PS.move rfl tt rfl rfl) ?_
     refine SL.step (PS.eql rfl tt rfl tt rfl rfl) ?_
     refine SL.keep (l' := [(38, _, _), (9, _, _), (8, _, _), (7, _, _), (6, _, _), (0, _, _)]) ⟨rfl, rfl, rfl, rfl, rfl, rfl, trivial⟩ ?_
     refine SL.nil (SE.thenK hK17 ?_)
     refine SC.cond rfl (fun c38 => ?_) (fun c38 => ?_)
     ·
      have c38n := c38
      try simp only [Bool.and_eq_true, Bool.or_eq_true, decide_eq_true_eq, Bool.true_and, Bool.not_eq_true', Bool.not_eq_false', beq_iff_eq, bne_iff_ne, decide_eq_false_iff_not, beq_eq_false_iff_ne, bne_eq_false_iff_eq, ne_eq, Bool.or_eq_false_iff, Bool.and_eq_false_iff] at c38n
      refine SC.seq (fun K18 hK18 => SC.block ?_)
      refine SC.loopF (fun ((k2, x9i) : Nat × Int) => [(9, true, .int .i64 x9i), (8, true, .int .i64 x8), (7, true, .int .i64 x7), (6, true, .slice (rowA o6) l6.length cap6), (0, true, .string p0)]) (fun ((k2, x9i) : Nat × Int) => [Rw o6 l6 cap6]) (fun ((k2, x9i) : Nat × Int) w => ((d_latheref03_Tokens_R12 p0 k2 x9i = d_latheref03_Tokens_R12 p0 (((p0.size : Int) - x9).toNat + 1) x9) ∧ (((p0.size : Int) - x9i).toNat < k2) ∧ (x9i ≤ p0.size) ∧ (z9 ≤ x9i) ∧ ((x9i = z9 → byteAt p0 z9 = 35))) ∧ (True)) (fun q => q.1) (((p0.size : Int) - x9).toNat + 1, x9) ⟨rfl, rfl, rfl, rfl, rfl, trivial⟩ rfl (fun w h => ⟨⟨rfl, Nat.lt_succ_self _, by omega, by omega, fun _ => by rw [hz9]; omega⟩, trivial⟩) (fun q => ?_)
      obtain ⟨k2, x9i⟩ := q
      dsimp only
      refine SC.know (fun w h => h.2.1) (fun hp => ?_)
      obtain ⟨hL2, hm2, hi2_0, hi2_1, hi2_2⟩ := hp
      obtain ⟨k2p, rfl⟩ : ∃ j, k2 = j + 1 := ⟨k2 - 1, by omega⟩
      refine SC.seq (fun K19 hK19 => SC.seq (fun K20 hK20 => SC.region ?_))
      refine SL.step (PS.move rfl tt rfl rfl) ?_
      refine SL.step (PS.move rfl tt rfl rfl) ?_
      refine SL.step (PS.len_string rfl tt Tryd.underlying9 rfl rfl) ?_
      refine SL.step (PS.lss rfl tt rfl tt rfl rfl) ?_
      refine SL.step (PS.move rfl tt rfl rfl) ?_
      refine SL.step (PS.move rfl tt rfl rfl) ?_
      refine SL.step (PS.move rfl tt rfl rfl) ?_
      refine SL.step (PS.indexStr rfl (fun h => h) rfl (fun h => h) Tryd.underlying9 (fun hg => by first | omega | (simp only [List.length_cons, List.length_nil]; omega) | (try simp only [Bool.and_eq_true, Bool.or_eq_true, decide_eq_true_eq, Bool.true_and, Bool.not_eq_true', beq_iff_eq, bne_iff_ne, decide_eq_false_iff_not, beq_eq_false_iff_ne, ne_eq] at hg; omega)) rfl rfl) ?_
      refine SL.step (PS.neq rfl (fun h => h) rfl tt rfl rfl) ?_
      refine SL.step (PS.pick_and rfl tt rfl (fun h h2 => pk_and h h2) rfl rfl) ?_
      refine SL.keep (l' := [(48, _, _), (9, _, _), (8, _, _), (7, _, _), (6, _, _), (0, _, _)]) ⟨rfl, rfl, rfl, rfl, rfl, rfl, trivial⟩ ?_
      refine SL.nil (SE.thenK hK20 ?_)
      refine SC.cond rfl (fun c48 => ?_) (fun c48 => ?_)
      ·
       have c48n := c48
       try simp only [Bool.and_eq_true, Bool.or_eq_true, decide_eq_true_eq, Bool.true_and, Bool.not_eq_true', Bool.not_eq_false', beq_iff_eq, bne_iff_ne, decide_eq_false_iff_not, beq_eq_false_iff_ne, bne_eq_false_iff_eq, ne_eq, Bool.or_eq_false_iff, Bool.and_eq_false_iff] at c48n
       refine SC.skip (SE.thenK hK19 (SC.block (SC.region ?_)))
       refine SL.step (PS.move rfl tt rfl rfl) ?_
       refine SL.step (PS.add_in rfl tt rfl tt (fun _ => wr_i64 (by omega)) rfl rfl) ?_
       refine SL.step (PS.assign rfl tt rfl rfl) ?_
       refine SL.keep (l' := [(9, _, _), (8, _, _), (7, _, _), (6, _, _), (0, _, _)]) ⟨rfl, rfl, rfl, rfl, rfl, trivial⟩ ?_
       refine SL.nil (SE.block_normal ?_)
       exact SE.againF (k2p, (x9i + 1)) ⟨rfl, rfl, rfl, rfl, rfl, trivial⟩ rfl (fun w h => And.intro (h.1) (And.intro ⟨((show d_latheref03_Tokens_R12 p0 (k2p + 1) x9i = d_latheref03_Tokens_R12 p0 k2p (x9i + 1) from (bifT c48)).symm.trans hL2), by (try dsimp only); omega, by (try dsimp only); omega, by (try dsimp only); omega, by (try dsimp only); omega⟩ (trivial))) (Nat.lt_succ_self _)
      ·
       have c48n := c48
       try simp only [Bool.and_eq_true, Bool.or_eq_true, decide_eq_true_eq, Bool.true_and, Bool.not_eq_true', Bool.not_eq_false', beq_iff_eq, bne_iff_ne, decide_eq_false_iff_not, beq_eq_false_iff_ne, bne_eq_false_iff_eq, ne_eq, Bool.or_eq_false_iff, Bool.and_eq_false_iff] at c48n
       have hgt : z9 < x9i := by
        rcases Int.lt_or_eq_of_le hi2_1 with q | q
        · exact q
        · exfalso; have h35 := hi2_2 q.symm; rw [← q] at c48n; omega
       refine SC.exit (SE.then_exit (SE.then_exit (SE.block_same (SE.thenK hK18 (SC.exit (SE.then_exit (SE.block_same ?_)))))))
       exact SE.againF (k1p, l6, x9i, x8, x7, o6, cap6) ⟨rfl, rfl, rfl, rfl, rfl, trivial⟩ rfl (fun w h => And.intro (h.1.1) (And.intro ⟨((show d_latheref03_Tokens_R7 p0 (k1p + 1) l6 x9 x8 x7 = d_latheref03_Tokens_R7 p0 k1p l6 x9i x8 x7 from ((bifT c21).trans ((bifF c34).trans ((bifT c38).trans (letV_eq (hL2.symm.trans (show d_latheref03_Tokens_R12 p0 (k2p + 1) x9i = x9i from (bifF c48)))))))).symm.trans hL1), by (try dsimp only); omega, by (try dsimp only); omega, by (try dsimp only); omega, by (try simp only [List.length_append, List.length_cons, List.length_nil]); omega, by (try dsimp only); omega, by (try dsimp only); omega, by (try dsimp only); omega, by (try dsimp only); omega⟩ ((h.1.2.2)))) (Nat.lt_succ_self _)
     ·
      have c38n := c38
      try simp only [Bool.and_eq_true, Bool.or_eq_true, decide_eq_true_eq, Bool.true_and, Bool.not_eq_true', Bool.not_eq_false', beq_iff_eq, bne_iff_ne, decide_eq_false_iff_not, beq_eq_false_iff_ne, bne_eq_false_iff_eq, ne_eq, Bool.or_eq_false_iff, Bool.and_eq_false_iff] at c38n
      refine SC.skip (SE.thenK hK16 (SC.seq (fun K21 hK21 => ?_)))
      have hpc := piece_rg (s := p0) (i := x9) (by omega) (by omega)
      unfold PcOk at hpc
      refine SC.region ?_
      refine SL.step (PS.move rfl tt rfl rfl) ?_
      refine SL.step (PS.move rfl tt rfl rfl) ?_
      refine SL.callV (vs := [_, _]) Tryd.call16 ⟨⟨_, rfl, tt⟩, ⟨_, rfl, tt⟩, trivial⟩ (fun hg => latheref03_piece_V p0 x9 (by omega) (by omega) (by omega)) rfl rfl ?_
      refine SL.step (PS.move rfl tt rfl rfl) ?_
      refine SL.step (PS.extract rfl tt rfl rfl rfl) ?_
      refine SL.step (PS.extract rfl tt rfl rfl rfl) ?_
      refine SL.step (PS.extract rfl tt rfl rfl rfl) ?_
      refine SL.step (PS.extract rfl tt rfl rfl rfl) ?_
      refine SL.step (PS.assign rfl tt rfl rfl) ?_
      refine SL.step (PS.assign rfl tt rfl rfl) ?_
      refine SL.step (PS.assign rfl tt rfl rfl) ?_
      refine SL.step (PS.assign rfl tt rfl rfl) ?_
      refine SL.keep (l' := [(14, _, _), (13, _, _), (12, _, _), (11, _, _), (9, _, _), (8, _, _), (7, _, _), (6, _, _), (0, _, _)]) ⟨rfl, rfl, rfl, rfl, rfl, rfl, rfl, rfl, rfl, trivial⟩ ?_
      refine SL.nil (SE.thenK hK21 (SC.seq (fun K22 hK22 => SC.seq (fun K23 hK23 => SC.region ?_))))
      refine SL.step (PS.move rfl tt rfl rfl) ?_
      refine SL.step (PS.neq rfl tt rfl tt rfl rfl) ?_
      refine SL.keep (l' := [(60, _, _), (14, _, _), (13, _, _), (12, _, _), (11, _, _), (9, _, _), (8, _, _), (7, _, _), (6, _, _), (0, _, _)]) ⟨rfl, rfl, rfl, rfl, rfl, rfl, rfl, rfl, rfl, rfl, trivial⟩ ?_
      refine SL.nil (SE.thenK hK23 ?_)
      refine SC.cond rfl (fun c60 => ?_) (fun c60 => ?_)
      ·
       have c60n := c60
       try simp only [Bool.and_eq_true, Bool.or_eq_true, decide_eq_true_eq, Bool.true_and, Bool.not_eq_true', Bool.not_eq_false', beq_iff_eq, bne_iff_ne, decide_eq_false_iff_not, beq_eq_false_iff_ne, bne_eq_false_iff_eq, ne_eq, Bool.or_eq_false_iff, Bool.and_eq_false_iff] at c60n
       refine SC.seq (fun K24 hK24 => SC.region ?_)
       refine SL.step (PS.move rfl tt rfl rfl) ?_
       refine SL.step (PS.move rfl tt rfl rfl) ?_
       refine SL.step (PS.move rfl tt rfl rfl) ?_
       refine SL.step (PS.move rfl tt rfl rfl) ?_
       refine SL.step (PS.sub_in rfl tt rfl tt (fun _ => wr_i64 (by omega)) rfl rfl) ?_
       refine SL.step (PS.add_in rfl tt rfl tt (fun _ => wr_i64 (by omega)) rfl rfl) ?_
       refine SL.step (PS.assign rfl tt rfl rfl) ?_
       refine SL.step (PS.assign rfl tt rfl rfl) ?_
       refine SL.step (PS.assign rfl tt rfl rfl) ?_
       refine SL.step (PS.assign rfl tt rfl rfl) ?_
       refine SL.keep (l' := [(5, _, _), (4, _, _), (3, _, _), (2, _, _)]) ⟨rfl, rfl, rfl, rfl, trivial⟩ ?_
       refine SL.nil (SE.thenK hK24 (SC.ret (SE.then_ret (SE.block_ret (SE.then_ret (SE.block_ret (SE.then_ret ?_)))))))
       exact finE SlD.nil (congrArg (fun z : List Tok × Int × Int × Int => Value.tuple #[.slice none 0 0, Value.int .i64 z.2.1, Value.int .i64 z.2.2.1, Value.int .i64 z.2.2.2]) (show (d_latheref03_Tokens p0) = (([], (d_latheref03_piece p0 x9).2.2.2, x7, ((x9 - x8) + 1)) : List Tok × Int × Int × Int) from ((bifF c17).trans (thenL_inl ((hL1.symm.trans (show d_latheref03_Tokens_R7 p0 (k1p + 1) l6 x9 x8 x7 = Sum.inl ([], (d_latheref03_piece p0 x9).2.2.2, x7, ((x9 - x8) + 1)) from ((bifT c21).trans ((bifF c34).trans ((bifF c38).trans (bifT c60)))))))))).symm) (run4 rfl rfl rfl rfl rfl) rfl (fun w h => ⟨(SlD.nil_rd _), congrArg (fun z : List Tok × Int × Int × Int => z.1) (show (d_latheref03_Tokens p0) = (([], (d_latheref03_piece p0 x9).2.2.2, x7, ((x9 - x8) + 1)) : List Tok × Int × Int × Int) from ((bifF c17).trans (thenL_inl ((hL1.symm.trans (show d_latheref03_Tokens_R7 p0 (k1p + 1) l6 x9 x8 x7 = Sum.inl ([], (d_latheref03_piece p0 x9).2.2.2, x7, ((x9 - x8) + 1)) from ((bifT c21).trans ((bifF c34).trans ((bifF c38).trans (bifT c60)))))))))).symm⟩)
      ·
       have c60n := c60
       try simp only [Bool.and_eq_true, Bool.or_eq_true, decide_eq_true_eq, Bool.true_and, Bool.not_eq_true', Bool.not_eq_false', beq_iff_eq, bne_iff_ne, decide_eq_false_iff_not, beq_eq_false_iff_ne, bne_eq_false_iff_eq, ne_eq, Bool.or_eq_false_iff, Bool.and_eq_false_iff] at c60n
       have hpc := hpc (by omega)
       refine SC.skip (SE.thenK hK22 (SC.seq (fun K25 hK25 => SC.region ?_)))
       refine SL.step (PS.move rfl tt rfl rfl) ?_
       refine SL.step (PS.move rfl tt rfl rfl) ?_
       refine SL.step (PS.move rfl tt rfl rfl) ?_
       refine SL.step (PS.move rfl tt rfl rfl) ?_
       refine SL.step (PS.move rfl tt rfl rfl) ?_
       refine SL.step (PS.move rfl tt rfl rfl) ?_
       refine SL.step (PS.add_in rfl tt rfl tt (fun _ => wr_i64 (by omega)) rfl rfl) ?_
       refine SL.step (PS.sliceStr rfl tt rfl tt rfl tt Tryd.underlying9 (fun hg => by first | omega | (simp only [List.length_cons, List.length_nil]; omega) | (try simp only [Bool.and_eq_true, Bool.or_eq_true, decide_eq_true_eq, Bool.true_and, Bool.not_eq_true', beq_iff_eq, bne_iff_ne, decide_eq_false_iff_not, beq_eq_false_iff_ne, ne_eq] at hg; omega)) rfl rfl) ?_
       refine SL.step (PS.move rfl tt rfl rfl) ?_
       refine SL.step (PS.move rfl tt rfl rfl) ?_
       refine SL.step (PS.move rfl tt rfl rfl) ?_
       refine SL.step (PS.sub_in rfl tt rfl tt (fun _ => wr_i64 (by omega)) rfl rfl) ?_
       refine SL.step (PS.add_in rfl tt rfl tt (fun _ => wr_i64 (by omega)) rfl rfl) ?_
       refine SL.step (PS.build (us := [(0, _), (1, _), (2, _), (3, _)]) (vs := [_, _, _, _]) ⟨rfl, ⟨_, rfl, tt⟩, ⟨rfl, ⟨_, rfl, tt⟩, ⟨rfl, ⟨_, rfl, tt⟩, ⟨rfl, ⟨_, rfl, tt⟩, trivial⟩⟩⟩⟩ Tryd.underlying31 Tryd.zeroValue31 (Tryd.places_31 Tryd.underlying31) rfl rfl rfl) ?_
       refine SL.buildSlice (us := [(0, _)]) (cs := [_, _, _, _]) ⟨rfl, ⟨_, rfl, tt⟩, trivial⟩ Tryd.underlying23 Tryd.sizeOf31 Tryd.zeroValue31 ⟨rfl, rfl, _, rfl, trivial⟩ rfl (by decide) rfl rfl (fun b81 => ?_)
       refine SL.append1 (k := 0) (xs := l6) (y := (⟨(d_latheref03_piece p0 x9).1, (p0.extract (Int.toNat ((d_latheref03_piece p0 x9).2.1)) (Int.toNat ((d_latheref03_piece p0 x9).2.1 + (d_latheref03_piece p0 x9).2.2.1))), x7, ((x9 - x8) + 1)⟩ : Tok)) (cells := Dat.cells) rfl rfl rfl rfl Dat.len Dat.one Tryd.underlying23 Tryd.rowinfo_31 (by omega) (by omega) rfl rfl (fun o82 c82 => ?_)
       refine SL.own_eq (own' := [_]) rfl ?_
       refine SL.step (PS.assign rfl tt rfl rfl) ?_
       refine SL.keep (l' := [(6, _, _), (13, _, _), (12, _, _), (11, _, _), (8, _, _), (7, _, _), (0, _, _)]) ⟨rfl, rfl, rfl, rfl, rfl, rfl, rfl, trivial⟩ ?_
       refine SL.nil (SE.thenK hK25 (SC.seq (fun K26 hK26 => SC.region ?_)))
       refine SL.step (PS.move rfl tt rfl rfl) ?_
       refine SL.step (PS.move rfl tt rfl rfl) ?_
       refine SL.step (PS.add_in rfl tt rfl tt (fun _ => wr_i64 (by omega)) rfl rfl) ?_
       refine SL.step (PS.assign rfl tt rfl rfl) ?_
       refine SL.keep (l' := [(9, _, _), (6, _, _), (11, _, _), (8, _, _), (7, _, _), (0, _, _)]) ⟨rfl, rfl, rfl, rfl, rfl, rfl, trivial⟩ ?_
       refine SL.nil (SE.thenK hK26 (SC.seq (fun K27 hK27 => SC.region ?_)))
       refine SL.step (PS.move rfl tt rfl rfl) ?_
       refine SL.step (PS.eql rfl tt rfl tt rfl rfl) ?_
       refine SL.keep (l' := [(87, _, _), (9, _, _), (6, _, _), (8, _, _), (7, _, _), (0, _, _)]) ⟨rfl, rfl, rfl, rfl, rfl, rfl, trivial⟩ ?_
       refine SL.nil (SE.thenK hK27 ?_)
       refine SC.cond rfl (fun c87 => ?_) (fun c87 => ?_)
       ·
        have c87n := c87
        try simp only [Bool.and_eq_true, Bool.or_eq_true, decide_eq_true_eq, Bool.true_and, Bool.not_eq_true', Bool.not_eq_false', beq_iff_eq, bne_iff_ne, decide_eq_false_iff_not, beq_eq_false_iff_ne, bne_eq_false_iff_eq, ne_eq, Bool.or_eq_false_iff, Bool.and_eq_false_iff] at c87n
        refine SC.seq (fun K28 hK28 => SC.region ?_)
        refine SL.step (PS.move rfl tt rfl rfl) ?_
        refine SL.step (PS.add_in rfl tt rfl tt (fun _ => wr_i64 (by omega)) rfl rfl) ?_
        refine SL.step (PS.assign rfl tt rfl rfl) ?_
        refine SL.keep (l' := [(9, _, _), (6, _, _), (7, _, _), (0, _, _)]) ⟨rfl, rfl, rfl, rfl, trivial⟩ ?_
        refine SL.nil (SE.thenK hK28 (SC.seq (fun K29 hK29 => SC.region ?_)))
        refine SL.step (PS.move rfl tt rfl rfl) ?_
        refine SL.step (PS.add_in rfl tt rfl tt (fun _ => wr_i64 (by omega)) rfl rfl) ?_
        refine SL.step (PS.assign rfl tt rfl rfl) ?_
        refine SL.keep (l' := [(7, _, _), (9, _, _), (6, _, _), (0, _, _)]) ⟨rfl, rfl, rfl, rfl, trivial⟩ ?_
        refine SL.nil (SE.thenK hK29 (SC.region ?_))
        refine SL.step (PS.move rfl tt rfl rfl) ?_
        refine SL.step (PS.assign rfl tt rfl rfl) ?_
        refine SL.keep (l' := [(8, _, _), (7, _, _), (9, _, _), (6, _, _), (0, _, _)]) ⟨rfl, rfl, rfl, rfl, rfl, trivial⟩ ?_
        refine SL.nil (SE.block_normal ?_)
        exact SE.againF (k1p, (l6 ++ [(⟨(d_latheref03_piece p0 x9).1, (p0.extract (Int.toNat ((d_latheref03_piece p0 x9).2.1)) (Int.toNat ((d_latheref03_piece p0 x9).2.1 + (d_latheref03_piece p0 x9).2.2.1))), x7, ((x9 - x8) + 1)⟩ : Tok)]), (((d_latheref03_piece p0 x9).2.1 + (d_latheref03_piece p0 x9).2.2.1) + 1), (((d_latheref03_piece p0 x9).2.1 + (d_latheref03_piece p0 x9).2.2.1) + 1), (x7 + 1), o82, c82) ⟨rfl, rfl, rfl, rfl, rfl, trivial⟩ rfl (fun w h => And.intro (h.1) (And.intro ⟨((show d_latheref03_Tokens_R7 p0 (k1p + 1) l6 x9 x8 x7 = d_latheref03_Tokens_R7 p0 k1p (l6 ++ [(⟨(d_latheref03_piece p0 x9).1, (p0.extract (Int.toNat ((d_latheref03_piece p0 x9).2.1)) (Int.toNat ((d_latheref03_piece p0 x9).2.1 + (d_latheref03_piece p0 x9).2.2.1))), x7, ((x9 - x8) + 1)⟩ : Tok)]) (((d_latheref03_piece p0 x9).2.1 + (d_latheref03_piece p0 x9).2.2.1) + 1) (((d_latheref03_piece p0 x9).2.1 + (d_latheref03_piece p0 x9).2.2.1) + 1) (x7 + 1) from ((bifT c21).trans ((bifF c34).trans ((bifF c38).trans ((bifF c60).trans (bifT c87)))))).symm.trans hL1), by (try dsimp only); omega, by (try dsimp only); omega, by (try dsimp only); omega, by (try simp only [List.length_append, List.length_cons, List.length_nil]); omega, by (try dsimp only); omega, by (try dsimp only); omega, by (try dsimp only); omega, by (try dsimp only); omega⟩ ((all_snoc ((h.2.2)) (⟨(ext_ok (by omega))⟩))))) (Nat.lt_succ_self _)
       ·
        have c87n := c87
        try simp only [Bool.and_eq_true, Bool.or_eq_true, decide_eq_true_eq, Bool.true_and, Bool.not_eq_true', Bool.not_eq_false', beq_iff_eq, bne_iff_ne, decide_eq_false_iff_not, beq_eq_false_iff_ne, bne_eq_false_iff_eq, ne_eq, Bool.or_eq_false_iff, Bool.and_eq_false_iff] at c87n
        refine SC.skip (SE.block_normal ?_)
        exact SE.againF (k1p, (l6 ++ [(⟨(d_latheref03_piece p0 x9).1, (p0.extract (Int.toNat ((d_latheref03_piece p0 x9).2.1)) (Int.toNat ((d_latheref03_piece p0 x9).2.1 + (d_latheref03_piece p0 x9).2.2.1))), x7, ((x9 - x8) + 1)⟩ : Tok)]), ((d_latheref03_piece p0 x9).2.1 + (d_latheref03_piece p0 x9).2.2.1), x8, x7, o82, c82) ⟨rfl, rfl, rfl, rfl, rfl, trivial⟩ rfl (fun w h => And.intro (h.1) (And.intro ⟨((show d_latheref03_Tokens_R7 p0 (k1p + 1) l6 x9 x8 x7 = d_latheref03_Tokens_R7 p0 k1p (l6 ++ [(⟨(d_latheref03_piece p0 x9).1, (p0.extract (Int.toNat ((d_latheref03_piece p0 x9).2.1)) (Int.toNat ((d_latheref03_piece p0 x9).2.1 + (d_latheref03_piece p0 x9).2.2.1))), x7, ((x9 - x8) + 1)⟩ : Tok)]) ((d_latheref03_piece p0 x9).2.1 + (d_latheref03_piece p0 x9).2.2.1) x8 x7 from ((bifT c21).trans ((bifF c34).trans ((bifF c38).trans ((bifF c60).trans (bifF c87)))))).symm.trans hL1), by (try dsimp only); omega, by (try dsimp only); omega, by (try dsimp only); omega, by (try simp only [List.length_append, List.length_cons, List.length_nil]); omega, by (try dsimp only); omega, by (try dsimp only); omega, by (try dsimp only); omega, by (try dsimp only); omega⟩ ((all_snoc ((h.2.2)) (⟨(ext_ok (by omega))⟩))))) (Nat.lt_succ_self _)
   ·
    have c21n := c21
    try simp only [Bool.and_eq_true, Bool.or_eq_true, decide_eq_true_eq, Bool.true_and, Bool.not_eq_true', Bool.not_eq_false', beq_iff_eq, bne_iff_ne, decide_eq_false_iff_not, beq_eq_false_iff_ne, bne_eq_false_iff_eq, ne_eq, Bool.or_eq_false_iff, Bool.and_eq_false_iff] at c21n
    refine SC.exit (SE.then_exit (SE.then_exit (SE.block_same (SE.thenK hK8 (SC.seq (fun K30 hK30 => SC.region ?_))))))
    refine SL.step (PS.move rfl tt rfl rfl) ?_
    refine SL.step (PS.assign rfl tt rfl rfl) ?_
    refine SL.step (PS.assign rfl tt rfl rfl) ?_
    refine SL.step (PS.assign rfl tt rfl rfl) ?_
    refine SL.step (PS.assign rfl tt rfl rfl) ?_
    refine SL.keep (l' := [(5, _, _), (4, _, _), (3, _, _), (2, _, _)]) ⟨rfl, rfl, rfl, rfl, trivial⟩ ?_
    refine SL.nil (SE.thenK hK30 (SC.ret ?_))
    refine SE.giveR (xs := l6) (own' := []) (List.Perm.refl _) (fun w h => (h.2.2)) (by (have hml : maxLen = 9223372036854775807 := rfl); omega) ?_
    exact finE (⟨rowA o6, cap6, l6⟩ : SlD Tok) (congrArg (fun z : List Tok × Int × Int × Int => Value.tuple #[.slice (rowA o6) l6.length cap6, Value.int .i64 z.2.1, Value.int .i64 z.2.2.1, Value.int .i64 z.2.2.2]) (show (d_latheref03_Tokens p0) = ((l6, 0, 0, 0) : List Tok × Int × Int × Int) from ((bifF c17).trans (thenL_inr (hL1.symm.trans (show d_latheref03_Tokens_R7 p0 (k1p + 1) l6 x9 x8 x7 = Sum.inr (l6, x9, x8, x7) from (bifF c21)))))).symm) (run4 rfl rfl rfl rfl rfl) rfl (fun w h => ⟨h.2, congrArg (fun z : List Tok × Int × Int × Int => z.1) (show (d_latheref03_Tokens p0) = ((l6, 0, 0, 0) : List Tok × Int × Int × Int) from ((bifF c17).trans (thenL_inr (hL1.symm.trans (show d_latheref03_Tokens_R7 p0 (k1p + 1) l6 x9 x8 x7 = Sum.inr (l6, x9, x8, x7) from (bifF c21)))))).symm⟩)
end Go.Proofs.YtjdiohhniiooeaaDoor
