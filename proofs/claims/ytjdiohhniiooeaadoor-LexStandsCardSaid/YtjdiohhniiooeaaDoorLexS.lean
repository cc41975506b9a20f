/- The law's own small functions. -/
import Derived.Test.YtjdiohhniiooeaaDoorLexO
import Derived.Test.YtjdiohhniiooeaaDoorLexT
namespace Go.Proofs.YtjdiohhniiooeaaDoor
open Go.RowKit
set_option linter.unusedVariables false
set_option linter.unusedSimpArgs false
set_option maxRecDepth 100000
set_option maxHeartbeats 4000000
def d_lathelaw03_same_R4 (p0 : SlD Tok) (p1 : SlD Tok) : Nat → Int → Sum (Bool) (Int)
  | 0, x13 => Sum.inr x13
  | k + 1, x13 =>
   bif (decide (x13 < (p0.l.length : Int))) then
    bif (!decide ((p0.l.getD (Int.toNat x13) Dat.d) = (p1.l.getD (Int.toNat x13) Dat.d))) then
     Sum.inl false
    else d_lathelaw03_same_R4 p0 p1 k (x13 + 1)
   else Sum.inr x13
def d_lathelaw03_same (p0 : SlD Tok) (p1 : SlD Tok) : Bool :=
  bif ((p0.l.length : Int) != (p1.l.length : Int)) then
   false
  else thenL (d_lathelaw03_same_R4 p0 p1 (((p0.l.length : Int) - 0).toNat + 1) 0) (fun x13e => true)
theorem lathelaw03_same_S (p0 : SlD Tok) (p1 : SlD Tok)  : Spec Tryd.prog 10 [.slice p0.a p0.l.length p0.cap, .slice p1.a p1.l.length p1.cap] (fun w => Dat.ok p0 w ∧ Dat.ok p1 w) (fun v _ => v = Value.bool (d_lathelaw03_same p0 p1)) := by
  refine Spec.enter Tryd.func10 rfl (n := 26) Tryd.ntmps10 (Nat.le_of_ble_eq_true rfl) (l := [(0, _, _), (1, _, _)]) rfl ?_
  intro S w
  refine SC.seq (fun K1 hK1 => SC.region ?_)
  refine SL.step (PS.assign rfl tt rfl rfl) ?_
  refine SL.keep (l' := [(0, _, _), (1, _, _)]) ⟨rfl, rfl, trivial⟩ ?_
  refine SL.nil (SE.thenK hK1 (SC.seq (fun K2 hK2 => SC.seq (fun K3 hK3 => SC.region ?_))))
  refine SL.step (PS.move rfl tt rfl rfl) ?_
  refine SL.step (PS.len_slice rfl tt Tryd.underlying23 rfl rfl) ?_
  refine SL.know (p := p0.l.length ≤ 9223372036854775807) (fun w h => ((h.1)).le) (fun hle4 => ?_)
  refine SL.step (PS.move rfl tt rfl rfl) ?_
  refine SL.step (PS.len_slice rfl tt Tryd.underlying23 rfl rfl) ?_
  refine SL.know (p := p1.l.length ≤ 9223372036854775807) (fun w h => ((h.2)).le) (fun hle5 => ?_)
  refine SL.step (PS.neq rfl tt rfl tt rfl rfl) ?_
  refine SL.keep (l' := [(10, _, _), (0, _, _), (1, _, _)]) ⟨rfl, rfl, rfl, trivial⟩ ?_
  refine SL.nil (SE.thenK hK3 ?_)
  refine SC.cond rfl (fun c10 => ?_) (fun c10 => ?_)
  ·
   refine SC.seq (fun K4 hK4 => SC.region ?_)
   refine SL.step (PS.assign rfl tt rfl rfl) ?_
   refine SL.keep (l' := [(4, _, _)]) ⟨rfl, trivial⟩ ?_
   refine SL.nil (SE.thenK hK4 (SC.ret (SE.then_ret ?_)))
   exact fin1 rfl rfl rfl (fun _ _ => congrArg (fun z : Bool => Value.bool z) (show (d_lathelaw03_same p0 p1) = (false : Bool) from (bifT c10)).symm)
  ·
   have c10n := c10
   try simp only [Bool.and_eq_true, Bool.or_eq_true, decide_eq_true_eq, Bool.true_and, Bool.not_eq_true', Bool.not_eq_false', beq_iff_eq, bne_iff_ne, decide_eq_false_iff_not, beq_eq_false_iff_ne, bne_eq_false_iff_eq, ne_eq, Bool.or_eq_false_iff, Bool.and_eq_false_iff] at c10n
   refine SC.skip (SE.thenK hK2 (SC.seq (fun K5 hK5 => SC.seq (fun K6 hK6 => SC.region ?_))))
   refine SL.step (PS.move rfl tt rfl rfl) ?_
   refine SL.step (PS.len_slice rfl tt Tryd.underlying23 rfl rfl) ?_
   refine SL.know (p := p0.l.length ≤ 9223372036854775807) (fun w h => ((h.1)).le) (fun hle6 => ?_)
   refine SL.step (PS.move rfl tt rfl rfl) ?_
   refine SL.keep (l' := [(13, _, _), (12, _, _), (0, _, _), (1, _, _)]) ⟨rfl, rfl, rfl, rfl, trivial⟩ ?_
   refine SL.nil (SE.thenK hK6 (SC.block ?_))
   refine SC.loopF (fun ((k1, x13) : Nat × Int) => [(13, true, .int .i64 x13), (12, true, .int .i64 (p0.l.length : Int)), (0, true, .slice p0.a p0.l.length p0.cap), (1, true, .slice p1.a p1.l.length p1.cap)]) (fun ((k1, x13) : Nat × Int) => []) (fun ((k1, x13) : Nat × Int) w => ((d_lathelaw03_same_R4 p0 p1 k1 x13 = d_lathelaw03_same_R4 p0 p1 (((p0.l.length : Int) - 0).toNat + 1) 0) ∧ (((p0.l.length : Int) - x13).toNat < k1) ∧ (0 ≤ x13) ∧ (x13 ≤ (p0.l.length : Int))) ∧ (True)) (fun q => q.1) (((p0.l.length : Int) - 0).toNat + 1, 0) ⟨rfl, rfl, rfl, rfl, trivial⟩ rfl (fun w h => ⟨⟨rfl, Nat.lt_succ_self _, by omega, by omega⟩, trivial⟩) (fun q => ?_)
   obtain ⟨k1, x13⟩ := q
   dsimp only
   refine SC.know (fun w h => h.2.1) (fun hp => ?_)
   obtain ⟨hL1, hm1, hi1_0, hi1_1⟩ := hp
   obtain ⟨k1p, rfl⟩ : ∃ j, k1 = j + 1 := ⟨k1 - 1, by omega⟩
   refine SC.seq (fun K7 hK7 => SC.region ?_)
   refine SL.step (PS.lss rfl tt rfl tt rfl rfl) ?_
   refine SL.nil (SE.thenK hK7 (SC.seq (fun K8 hK8 => ?_)))
   refine SC.cond rfl (fun c14 => ?_) (fun c14 => ?_)
   ·
    have c14n := c14
    try simp only [Bool.and_eq_true, Bool.or_eq_true, decide_eq_true_eq, Bool.true_and, Bool.not_eq_true', Bool.not_eq_false', beq_iff_eq, bne_iff_ne, decide_eq_false_iff_not, beq_eq_false_iff_ne, bne_eq_false_iff_eq, ne_eq, Bool.or_eq_false_iff, Bool.and_eq_false_iff] at c14n
    refine SC.skip (SE.thenK hK8 (SC.seq (fun K9 hK9 => SC.block (SC.seq (fun K10 hK10 => SC.region ?_)))))
    refine SL.step (PS.move rfl tt rfl rfl) ?_
    refine SL.step (PS.assign rfl tt rfl rfl) ?_
    refine SL.keep (l' := [(5, _, _), (13, _, _), (12, _, _), (0, _, _), (1, _, _)]) ⟨rfl, rfl, rfl, rfl, rfl, trivial⟩ ?_
    refine SL.nil (SE.thenK hK10 (SC.seq (fun K11 hK11 => ?_)))
    refine SC.draw (S := SP _ _ _) 9 (by kernel_rfl) (by kernel_rfl) (fun _ h => h) ?_
    refine SD.take 0 rfl rfl (by kernel_rfl) (PS.move rfl tt rfl rfl) ?_
    refine SD.take 1 rfl rfl (by kernel_rfl) (PS.move rfl tt rfl rfl) ?_
    refine SD.take 2 rfl rfl (by kernel_rfl) (PS.indexS (α := Tok) (xs := p0.l) rfl tt rfl tt Tryd.underlying23 Tryd.sizeOf31 (fun w hw hg => ((hw.now.1.1)).sl) rfl (fun hg => by first | omega | (simp only [List.length_cons, List.length_nil]; omega) | (try simp only [Bool.and_eq_true, Bool.or_eq_true, decide_eq_true_eq, Bool.true_and, Bool.not_eq_true', beq_iff_eq, bne_iff_ne, decide_eq_false_iff_not, beq_eq_false_iff_ne, ne_eq] at hg; omega)) rfl rfl) ?_
    refine SD.take 3 rfl rfl (by kernel_rfl) (PS.loadS (α := Tok) (xs := p0.l) (m := x13) (vs := [.int .i64 ((p0.l.getD (Int.toNat x13) Dat.d).k), .string ((p0.l.getD (Int.toNat x13) Dat.d).text), .int .i64 ((p0.l.getD (Int.toNat x13) Dat.d).line), .int .i64 ((p0.l.getD (Int.toNat x13) Dat.d).col)]) rfl tt (fun w hw hg => ((hw.now.1.1)).sl) (fun hg => by first | omega | (simp only [List.length_cons, List.length_nil]; omega) | (try simp only [Bool.and_eq_true, Bool.or_eq_true, decide_eq_true_eq, Bool.true_and, Bool.not_eq_true', beq_iff_eq, bne_iff_ne, decide_eq_false_iff_not, beq_eq_false_iff_ne, ne_eq] at hg; omega)) rfl Tryd.isAgg31 Tryd.sizeOf31 rfl rfl) ?_
    refine SD.take 4 rfl rfl (by kernel_rfl) (PS.move rfl tt rfl rfl) ?_
    refine SD.take 5 rfl rfl (by kernel_rfl) (PS.move rfl tt rfl rfl) ?_
    refine SD.take 6 rfl rfl (by kernel_rfl) (PS.indexS (α := Tok) (xs := p1.l) rfl tt rfl tt Tryd.underlying23 Tryd.sizeOf31 (fun w hw hg => ((hw.now.1.2)).sl) rfl (fun hg => by first | omega | (simp only [List.length_cons, List.length_nil]; omega) | (try simp only [Bool.and_eq_true, Bool.or_eq_true, decide_eq_true_eq, Bool.true_and, Bool.not_eq_true', beq_iff_eq, bne_iff_ne, decide_eq_false_iff_not, beq_eq_false_iff_ne, ne_eq] at hg; omega)) rfl rfl) ?_
    refine SD.take 7 rfl rfl (by kernel_rfl) (PS.loadS (α := Tok) (xs := p1.l) (m := x13) (vs := [.int .i64 ((p1.l.getD (Int.toNat x13) Dat.d).k), .string ((p1.l.getD (Int.toNat x13) Dat.d).text), .int .i64 ((p1.l.getD (Int.toNat x13) Dat.d).line), .int .i64 ((p1.l.getD (Int.toNat x13) Dat.d).col)]) rfl tt (fun w hw hg => ((hw.now.1.2)).sl) (fun hg => by first | omega | (simp only [List.length_cons, List.length_nil]; omega) | (try simp only [Bool.and_eq_true, Bool.or_eq_true, decide_eq_true_eq, Bool.true_and, Bool.not_eq_true', beq_iff_eq, bne_iff_ne, decide_eq_false_iff_not, beq_eq_false_iff_ne, ne_eq] at hg; omega)) rfl Tryd.isAgg31 Tryd.sizeOf31 rfl rfl) ?_
    refine SD.take 8 rfl rfl (by kernel_rfl) (PS.neqA (u := .agg [.int .i64 ((p0.l.getD (Int.toNat x13) Dat.d).k), .string ((p0.l.getD (Int.toNat x13) Dat.d).text), .int .i64 ((p0.l.getD (Int.toNat x13) Dat.d).line), .int .i64 ((p0.l.getD (Int.toNat x13) Dat.d).col)].toArray) (v := .agg [.int .i64 ((p1.l.getD (Int.toNat x13) Dat.d).k), .string ((p1.l.getD (Int.toNat x13) Dat.d).text), .int .i64 ((p1.l.getD (Int.toNat x13) Dat.d).line), .int .i64 ((p1.l.getD (Int.toNat x13) Dat.d).col)].toArray) rfl tt rfl tt (fun x y w => Tok_nql x y (p0.l.getD (Int.toNat x13) Dat.d) (p1.l.getD (Int.toNat x13) Dat.d) w) rfl rfl) ?_
    refine SD.tail (by kernel_rfl) (os := []) rfl ?_
    refine SL.keep (l' := [(24, _, _), (13, _, _), (12, _, _), (0, _, _), (1, _, _)]) ⟨rfl, rfl, rfl, rfl, rfl, trivial⟩ ?_
    refine SL.nil (SE.calm (SE.thenK hK11 ?_))
    refine SC.cond rfl (fun c24 => ?_) (fun c24 => ?_)
    ·
     refine SC.seq (fun K12 hK12 => SC.region ?_)
     refine SL.step (PS.assign rfl tt rfl rfl) ?_
     refine SL.keep (l' := [(4, _, _)]) ⟨rfl, trivial⟩ ?_
     refine SL.nil (SE.thenK hK12 (SC.ret (SE.block_ret (SE.then_ret (SE.then_ret (SE.block_ret (SE.then_ret ?_)))))))
     exact fin1 rfl rfl rfl (fun _ _ => congrArg (fun z : Bool => Value.bool z) (show (d_lathelaw03_same p0 p1) = (false : Bool) from ((bifF c10).trans (thenL_inl ((hL1.symm.trans (show d_lathelaw03_same_R4 p0 p1 (k1p + 1) x13 = Sum.inl false from ((bifT c14).trans (bifT c24)))))))).symm)
    ·
     have c24n := c24
     try simp only [Bool.and_eq_true, Bool.or_eq_true, decide_eq_true_eq, Bool.true_and, Bool.not_eq_true', Bool.not_eq_false', beq_iff_eq, bne_iff_ne, decide_eq_false_iff_not, beq_eq_false_iff_ne, bne_eq_false_iff_eq, ne_eq, Bool.or_eq_false_iff, Bool.and_eq_false_iff] at c24n
     refine SC.skip (SE.block_normal (SE.thenK hK9 (SC.region ?_)))
     refine SL.step (PS.add_in rfl tt rfl tt (fun _ => wr_i64 (by omega)) rfl rfl) ?_
     refine SL.step (PS.move rfl tt rfl rfl) ?_
     refine SL.keep (l' := [(13, _, _), (12, _, _), (0, _, _), (1, _, _)]) ⟨rfl, rfl, rfl, rfl, trivial⟩ ?_
     refine SL.nil ?_
     exact SE.againF (k1p, (x13 + 1)) ⟨rfl, rfl, rfl, rfl, trivial⟩ rfl (fun w h => And.intro (h.1) (And.intro ⟨((show d_lathelaw03_same_R4 p0 p1 (k1p + 1) x13 = d_lathelaw03_same_R4 p0 p1 k1p (x13 + 1) from ((bifT c14).trans (bifF c24))).symm.trans hL1), by (try dsimp only); omega, by (try dsimp only); omega, by (try dsimp only); omega⟩ (trivial))) (Nat.lt_succ_self _)
   ·
    refine SC.exit (SE.then_exit (SE.then_exit (SE.block_same (SE.thenK hK5 (SC.seq (fun K13 hK13 => SC.region ?_))))))
    refine SL.step (PS.assign rfl tt rfl rfl) ?_
    refine SL.keep (l' := [(4, _, _)]) ⟨rfl, trivial⟩ ?_
    refine SL.nil (SE.thenK hK13 (SC.ret ?_))
    exact fin1 rfl rfl rfl (fun _ _ => congrArg (fun z : Bool => Value.bool z) (show (d_lathelaw03_same p0 p1) = (true : Bool) from ((bifF c10).trans (thenL_inr (hL1.symm.trans (show d_lathelaw03_same_R4 p0 p1 (k1p + 1) x13 = Sum.inr x13 from (bifF c14)))))).symm)
theorem same_R4 {a b : SlD Tok} (hl : a.l.length = b.l.length) : ∀ (k x : Nat), a.l.length < k + x → x ≤ a.l.length → d_lathelaw03_same_R4 a b k x = if a.l.drop x = b.l.drop x then .inr (a.l.length : Int) else .inl false
  | 0, x, h, h' => by omega
  | k + 1, x, h, h' => by
    unfold d_lathelaw03_same_R4
    rcases Nat.lt_or_ge x a.l.length with q | q
    · rw [decide_eq_true (by omega), cond_true, Int.toNat_natCast, List.drop_eq_getElem_cons q, List.drop_eq_getElem_cons (l := b.l) (by omega),
        List.getD_eq_getElem?_getD, List.getD_eq_getElem?_getD, List.getElem?_eq_getElem q, List.getElem?_eq_getElem (show x < b.l.length by omega)]
      by_cases he : a.l[x] = b.l[x]'(by omega)
      · rw [Option.getD_some, Option.getD_some, decide_eq_true he, Bool.not_true, cond_false]
        have := same_R4 hl k (x + 1) (by omega) (by omega)
        rw [show ((x : Int) + 1) = ((x + 1 : Nat) : Int) by omega, this]
        by_cases hd : a.l.drop (x + 1) = b.l.drop (x + 1)
        · rw [if_pos hd, if_pos (by rw [he, hd])]
        · rw [if_neg hd, if_neg (fun e => hd (List.cons.inj e).2)]
      · rw [Option.getD_some, Option.getD_some, decide_eq_false he, Bool.not_false, cond_true, if_neg (fun e => he (List.cons.inj e).1)]
    · have hx : x = a.l.length := by omega
      rw [decide_eq_false (by omega), cond_false, List.drop_of_length_le (by omega), List.drop_of_length_le (by omega), if_pos rfl, hx]
/-- Are two lists of pieces the same? -/
def sameL (a b : List Tok) : Bool := decide (a = b)
theorem same_eq (a b : SlD Tok) : d_lathelaw03_same a b = sameL a.l b.l := by
  unfold d_lathelaw03_same sameL
  by_cases hl : a.l.length = b.l.length
  · rw [show ((a.l.length : Int) != (b.l.length : Int)) = false by simp [hl], cond_false]
    have := same_R4 hl (((a.l.length : Int) - 0).toNat + 1) 0 (by omega) (by omega)
    rw [show ((0 : Nat) : Int) = 0 from rfl] at this
    rw [this, List.drop_zero, List.drop_zero]
    by_cases he : a.l = b.l
    · rw [if_pos he, decide_eq_true he]; rfl
    · rw [if_neg he, decide_eq_false he]; rfl
  · rw [show ((a.l.length : Int) != (b.l.length : Int)) = true by simp; omega, cond_true, decide_eq_false (fun e => hl (congrArg _ e))]

theorem lathelaw03_sameL (p0 : SlD Tok) (p1 : SlD Tok) : Spec Tryd.prog 10 [.slice p0.a p0.l.length p0.cap, .slice p1.a p1.l.length p1.cap] (fun w => Dat.ok p0 w ∧ Dat.ok p1 w) (fun v _ => v = Value.bool (sameL p0.l p1.l)) := same_eq p0 p1 ▸ lathelaw03_same_S p0 p1
end Go.Proofs.YtjdiohhniiooeaaDoor
