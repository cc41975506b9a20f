/- The reference of layer 3: what its code computes. -/
import Derived.Test.YtjdiohhniiooeaaDoorLex
namespace Go.Proofs.YtjdiohhniiooeaaDoor
open Go.RowKit
set_option linter.unusedVariables false
set_option linter.unusedSimpArgs false
set_option maxRecDepth 100000
set_option maxHeartbeats 4000000
def d_latheref03_kind (p0 : ByteArray) (p1 : Int) : Int :=
  bif (decide ((p0.size : Int) ≤ p1)) then
   0
  else bif (((decide (97 ≤ (byteAt p0 p1))) && (decide ((byteAt p0 p1) ≤ 122))) || ((byteAt p0 p1) == 95)) then
    1
   else bif ((decide (48 ≤ (byteAt p0 p1))) && (decide ((byteAt p0 p1) ≤ 57))) then
     2
    else 0
theorem latheref03_kind_V (p0 : ByteArray) (p1 : Int) (h0 : 0 ≤ p1) : SpecV Tryd.prog 24 [.string p0, .int .i64 p1] (Value.int .i64 (d_latheref03_kind p0 p1)) := by
  refine SpecV.enter Tryd.func24 rfl (n := 29) Tryd.ntmps24 (Nat.le_of_ble_eq_true rfl) (l := [(0, _, _), (1, _, _)]) rfl ?_
  intro w
  refine SC.seq (fun K1 hK1 => SC.region ?_)
  refine SL.step (PS.assign rfl tt rfl rfl) ?_
  refine SL.keep (l' := [(0, _, _), (1, _, _)]) ⟨rfl, rfl, trivial⟩ ?_
  refine SL.nil (SE.thenK hK1 (SC.seq (fun K2 hK2 => SC.seq (fun K3 hK3 => SC.region ?_))))
  refine SL.step (PS.move rfl tt rfl rfl) ?_
  refine SL.step (PS.move rfl tt rfl rfl) ?_
  refine SL.step (PS.len_string rfl tt Tryd.underlying9 rfl rfl) ?_
  refine SL.step (PS.geq rfl tt rfl tt rfl rfl) ?_
  refine SL.keep (l' := [(9, _, _), (0, _, _), (1, _, _)]) ⟨rfl, rfl, rfl, trivial⟩ ?_
  refine SL.nil (SE.thenK hK3 ?_)
  refine SC.cond rfl (fun c9 => ?_) (fun c9 => ?_)
  ·
   refine SC.seq (fun K4 hK4 => SC.region ?_)
   refine SL.step (PS.assign rfl tt rfl rfl) ?_
   refine SL.keep (l' := [(4, _, _)]) ⟨rfl, trivial⟩ ?_
   refine SL.nil (SE.thenK hK4 (SC.ret (SE.then_ret ?_)))
   exact finV1 rfl rfl (fun _ _ => congrArg (fun z : Int => Value.int .i64 z) (show (d_latheref03_kind p0 p1) = (0 : Int) from (bifT c9)).symm)
  ·
   have c9n := c9
   try simp only [Bool.and_eq_true, Bool.or_eq_true, decide_eq_true_eq, Bool.true_and, Bool.not_eq_true', Bool.not_eq_false', beq_iff_eq, bne_iff_ne, decide_eq_false_iff_not, beq_eq_false_iff_ne, bne_eq_false_iff_eq, ne_eq, Bool.or_eq_false_iff, Bool.and_eq_false_iff] at c9n
   refine SC.skip (SE.thenK hK2 (SC.seq (fun K5 hK5 => SC.region ?_)))
   refine SL.step (PS.move rfl tt rfl rfl) ?_
   refine SL.step (PS.move rfl tt rfl rfl) ?_
   refine SL.step (PS.indexStr rfl tt rfl tt Tryd.underlying9 (fun hg => by first | omega | (simp only [List.length_cons, List.length_nil]; omega) | (try simp only [Bool.and_eq_true, Bool.or_eq_true, decide_eq_true_eq, Bool.true_and, Bool.not_eq_true', beq_iff_eq, bne_iff_ne, decide_eq_false_iff_not, beq_eq_false_iff_ne, ne_eq] at hg; omega)) rfl rfl) ?_
   refine SL.step (PS.assign rfl tt rfl rfl) ?_
   refine SL.keep (l' := [(5, _, _)]) ⟨rfl, trivial⟩ ?_
   refine SL.nil (SE.thenK hK5 (SC.seq (fun K6 hK6 => SC.seq (fun K7 hK7 => SC.region ?_))))
   refine SL.step (PS.move rfl tt rfl rfl) ?_
   refine SL.step (PS.geq rfl tt rfl tt rfl rfl) ?_
   refine SL.step (PS.move rfl tt rfl rfl) ?_
   refine SL.step (PS.move rfl tt rfl rfl) ?_
   refine SL.step (PS.leq rfl (fun h => h) rfl tt rfl rfl) ?_
   refine SL.step (PS.pick_and rfl tt rfl (fun h h2 => pk_and h h2) rfl rfl) ?_
   refine SL.step (PS.move rfl tt rfl rfl) ?_
   refine SL.step (PS.move rfl tt rfl rfl) ?_
   refine SL.step (PS.eql rfl (fun h => h) rfl tt rfl rfl) ?_
   refine SL.step (PS.pick_or rfl tt rfl (fun h h2 => pk_or h h2) rfl rfl) ?_
   refine SL.keep (l' := [(22, _, _), (5, _, _)]) ⟨rfl, rfl, trivial⟩ ?_
   refine SL.nil (SE.thenK hK7 ?_)
   refine SC.cond rfl (fun c22 => ?_) (fun c22 => ?_)
   ·
    refine SC.seq (fun K8 hK8 => SC.region ?_)
    refine SL.step (PS.assign rfl tt rfl rfl) ?_
    refine SL.keep (l' := [(4, _, _)]) ⟨rfl, trivial⟩ ?_
    refine SL.nil (SE.thenK hK8 (SC.ret (SE.then_ret ?_)))
    exact finV1 rfl rfl (fun _ _ => congrArg (fun z : Int => Value.int .i64 z) (show (d_latheref03_kind p0 p1) = (1 : Int) from ((bifF c9).trans (bifT c22))).symm)
   ·
    refine SC.skip (SE.thenK hK6 (SC.seq (fun K9 hK9 => SC.seq (fun K10 hK10 => SC.region ?_))))
    refine SL.step (PS.move rfl tt rfl rfl) ?_
    refine SL.step (PS.geq rfl tt rfl tt rfl rfl) ?_
    refine SL.step (PS.move rfl tt rfl rfl) ?_
    refine SL.step (PS.move rfl tt rfl rfl) ?_
    refine SL.step (PS.leq rfl (fun h => h) rfl tt rfl rfl) ?_
    refine SL.step (PS.pick_and rfl tt rfl (fun h h2 => pk_and h h2) rfl rfl) ?_
    refine SL.keep (l' := [(28, _, _)]) ⟨rfl, trivial⟩ ?_
    refine SL.nil (SE.thenK hK10 ?_)
    refine SC.cond rfl (fun c28 => ?_) (fun c28 => ?_)
    ·
     refine SC.seq (fun K11 hK11 => SC.region ?_)
     refine SL.step (PS.assign rfl tt rfl rfl) ?_
     refine SL.keep (l' := [(4, _, _)]) ⟨rfl, trivial⟩ ?_
     refine SL.nil (SE.thenK hK11 (SC.ret (SE.then_ret ?_)))
     exact finV1 rfl rfl (fun _ _ => congrArg (fun z : Int => Value.int .i64 z) (show (d_latheref03_kind p0 p1) = (2 : Int) from ((bifF c9).trans ((bifF c22).trans (bifT c28)))).symm)
    ·
     refine SC.skip (SE.thenK hK9 (SC.seq (fun K12 hK12 => SC.region ?_)))
     refine SL.step (PS.assign rfl tt rfl rfl) ?_
     refine SL.keep (l' := [(4, _, _)]) ⟨rfl, trivial⟩ ?_
     refine SL.nil (SE.thenK hK12 (SC.ret ?_))
     exact finV1 rfl rfl (fun _ _ => congrArg (fun z : Int => Value.int .i64 z) (show (d_latheref03_kind p0 p1) = (0 : Int) from ((bifF c9).trans ((bifF c22).trans (bifF c28)))).symm)
theorem kind_lt {s : ByteArray} {i : Int} (h : ¬ d_latheref03_kind s i = 0) : i < s.size := by
  unfold d_latheref03_kind at h
  by_cases h1 : (s.size : Int) ≤ i
  · rw [decide_eq_true h1] at h; exact absurd rfl h
  · omega
def d_latheref03_word_R4 (p0 : ByteArray) (p1 : Int) : Nat → Int → Int
  | 0, x5 => x5
  | k + 1, x5 =>
   bif ((d_latheref03_kind p0 (p1 + x5)) != 0) then
    d_latheref03_word_R4 p0 p1 k (x5 + 1)
   else x5
def d_latheref03_word (p0 : ByteArray) (p1 : Int) : Int :=
  bif ((d_latheref03_kind p0 p1) != 1) then
   0
  else letV (d_latheref03_word_R4 p0 p1 (((p0.size : Int) - p1 - 1).toNat + 1) 1) (fun x5e => x5e)
theorem latheref03_word_V (p0 : ByteArray) (p1 : Int) (h0 : 0 ≤ p1) (h1 : p1 ≤ p0.size) (h2 : p0.size ≤ 9223372036854775807) : SpecV Tryd.prog 19 [.string p0, .int .i64 p1] (Value.int .i64 (d_latheref03_word p0 p1)) := by
  refine SpecV.enter Tryd.func19 rfl (n := 19) Tryd.ntmps19 (Nat.le_of_ble_eq_true rfl) (l := [(0, _, _), (1, _, _)]) rfl ?_
  intro w
  refine SC.seq (fun K1 hK1 => SC.region ?_)
  refine SL.step (PS.assign rfl tt rfl rfl) ?_
  refine SL.keep (l' := [(0, _, _), (1, _, _)]) ⟨rfl, rfl, trivial⟩ ?_
  refine SL.nil (SE.thenK hK1 (SC.seq (fun K2 hK2 => SC.seq (fun K3 hK3 => SC.region ?_))))
  refine SL.step (PS.move rfl tt rfl rfl) ?_
  refine SL.step (PS.move rfl tt rfl rfl) ?_
  refine SL.callV (vs := [_, _]) Tryd.call24 ⟨⟨_, rfl, tt⟩, ⟨_, rfl, tt⟩, trivial⟩ (fun hg => latheref03_kind_V p0 p1 (by omega)) rfl rfl ?_
  refine SL.step (PS.neq rfl tt rfl tt rfl rfl) ?_
  refine SL.keep (l' := [(9, _, _), (0, _, _), (1, _, _)]) ⟨rfl, rfl, rfl, trivial⟩ ?_
  refine SL.nil (SE.thenK hK3 ?_)
  refine SC.cond rfl (fun c9 => ?_) (fun c9 => ?_)
  ·
   refine SC.seq (fun K4 hK4 => SC.region ?_)
   refine SL.step (PS.assign rfl tt rfl rfl) ?_
   refine SL.keep (l' := [(4, _, _)]) ⟨rfl, trivial⟩ ?_
   refine SL.nil (SE.thenK hK4 (SC.ret (SE.then_ret ?_)))
   exact finV1 rfl rfl (fun _ _ => congrArg (fun z : Int => Value.int .i64 z) (show (d_latheref03_word p0 p1) = (0 : Int) from (bifT c9)).symm)
  ·
   have c9n := c9
   try simp only [Bool.and_eq_true, Bool.or_eq_true, decide_eq_true_eq, Bool.true_and, Bool.not_eq_true', Bool.not_eq_false', beq_iff_eq, bne_iff_ne, decide_eq_false_iff_not, beq_eq_false_iff_ne, bne_eq_false_iff_eq, ne_eq, Bool.or_eq_false_iff, Bool.and_eq_false_iff] at c9n
   have hk9 := kind_lt (s := p0) (i := p1) (by omega)
   refine SC.skip (SE.thenK hK2 (SC.seq (fun K5 hK5 => SC.region ?_)))
   refine SL.step (PS.assign rfl tt rfl rfl) ?_
   refine SL.keep (l' := [(5, _, _), (0, _, _), (1, _, _)]) ⟨rfl, rfl, rfl, trivial⟩ ?_
   refine SL.nil (SE.thenK hK5 (SC.seq (fun K6 hK6 => SC.block ?_)))
   refine SC.loopF (fun ((k1, x5) : Nat × Int) => [(5, true, .int .i64 x5), (0, true, .string p0), (1, true, .int .i64 p1)]) (fun ((k1, x5) : Nat × Int) => []) (fun ((k1, x5) : Nat × Int) w => ((d_latheref03_word_R4 p0 p1 k1 x5 = d_latheref03_word_R4 p0 p1 (((p0.size : Int) - p1 - 1).toNat + 1) 1) ∧ (((p0.size : Int) - p1 - x5).toNat < k1) ∧ (1 ≤ x5) ∧ (p1 + x5 ≤ p0.size)) ∧ (True)) (fun q => q.1) (((p0.size : Int) - p1 - 1).toNat + 1, 1) ⟨rfl, rfl, rfl, trivial⟩ rfl (fun w h => ⟨⟨rfl, Nat.lt_succ_self _, by omega, by omega⟩, trivial⟩) (fun q => ?_)
   obtain ⟨k1, x5⟩ := q
   dsimp only
   refine SC.know (fun w h => h.2.1) (fun hp => ?_)
   obtain ⟨hL1, hm1, hi1_0, hi1_1⟩ := hp
   obtain ⟨k1p, rfl⟩ : ∃ j, k1 = j + 1 := ⟨k1 - 1, by omega⟩
   refine SC.seq (fun K7 hK7 => SC.seq (fun K8 hK8 => SC.region ?_))
   refine SL.step (PS.move rfl tt rfl rfl) ?_
   refine SL.step (PS.move rfl tt rfl rfl) ?_
   refine SL.step (PS.move rfl tt rfl rfl) ?_
   refine SL.step (PS.add_in rfl tt rfl tt (fun _ => wr_i64 (by omega)) rfl rfl) ?_
   refine SL.callV (vs := [_, _]) Tryd.call24 ⟨⟨_, rfl, tt⟩, ⟨_, rfl, tt⟩, trivial⟩ (fun hg => latheref03_kind_V p0 (p1 + x5) (by omega)) rfl rfl ?_
   refine SL.step (PS.neq rfl tt rfl tt rfl rfl) ?_
   refine SL.keep (l' := [(15, _, _), (5, _, _), (0, _, _), (1, _, _)]) ⟨rfl, rfl, rfl, rfl, trivial⟩ ?_
   refine SL.nil (SE.thenK hK8 ?_)
   refine SC.cond rfl (fun c15 => ?_) (fun c15 => ?_)
   ·
    have c15n := c15
    try simp only [Bool.and_eq_true, Bool.or_eq_true, decide_eq_true_eq, Bool.true_and, Bool.not_eq_true', Bool.not_eq_false', beq_iff_eq, bne_iff_ne, decide_eq_false_iff_not, beq_eq_false_iff_ne, bne_eq_false_iff_eq, ne_eq, Bool.or_eq_false_iff, Bool.and_eq_false_iff] at c15n
    have hk15 := kind_lt (s := p0) (i := p1 + x5) (by omega)
    refine SC.skip (SE.thenK hK7 (SC.block (SC.region ?_)))
    refine SL.step (PS.move rfl tt rfl rfl) ?_
    refine SL.step (PS.add_in rfl tt rfl tt (fun _ => wr_i64 (by omega)) rfl rfl) ?_
    refine SL.step (PS.assign rfl tt rfl rfl) ?_
    refine SL.keep (l' := [(5, _, _), (0, _, _), (1, _, _)]) ⟨rfl, rfl, rfl, trivial⟩ ?_
    refine SL.nil (SE.block_normal ?_)
    exact SE.againF (k1p, (x5 + 1)) ⟨rfl, rfl, rfl, trivial⟩ rfl (fun w h => And.intro (h.1) (And.intro ⟨((show d_latheref03_word_R4 p0 p1 (k1p + 1) x5 = d_latheref03_word_R4 p0 p1 k1p (x5 + 1) from (bifT c15)).symm.trans hL1), by (try dsimp only); omega, by (try dsimp only); omega, by (try dsimp only); omega⟩ (trivial))) (Nat.lt_succ_self _)
   ·
    refine SC.exit (SE.then_exit (SE.then_exit (SE.block_same (SE.thenK hK6 (SC.seq (fun K9 hK9 => SC.region ?_))))))
    refine SL.step (PS.move rfl tt rfl rfl) ?_
    refine SL.step (PS.assign rfl tt rfl rfl) ?_
    refine SL.keep (l' := [(4, _, _)]) ⟨rfl, trivial⟩ ?_
    refine SL.nil (SE.thenK hK9 (SC.ret ?_))
    exact finV1 rfl rfl (fun _ _ => congrArg (fun z : Int => Value.int .i64 z) (show (d_latheref03_word p0 p1) = (x5 : Int) from ((bifF c9).trans (letV_eq (hL1.symm.trans (show d_latheref03_word_R4 p0 p1 (k1p + 1) x5 = x5 from (bifF c15)))))).symm)
def d_latheref03_digits_R2 (p0 : ByteArray) (p1 : Int) : Nat → Int → Int
  | 0, x5 => x5
  | k + 1, x5 =>
   bif ((d_latheref03_kind p0 (p1 + x5)) == 2) then
    d_latheref03_digits_R2 p0 p1 k (x5 + 1)
   else x5
def d_latheref03_digits (p0 : ByteArray) (p1 : Int) : Int :=
  letV (d_latheref03_digits_R2 p0 p1 (((p0.size : Int) - p1 - 0).toNat + 1) 0) (fun x5e => x5e)
theorem latheref03_digits_V (p0 : ByteArray) (p1 : Int) (h0 : 0 ≤ p1) (h1 : p1 ≤ p0.size) (h2 : p0.size ≤ 9223372036854775807) : SpecV Tryd.prog 22 [.string p0, .int .i64 p1] (Value.int .i64 (d_latheref03_digits p0 p1)) := by
  refine SpecV.enter Tryd.func22 rfl (n := 15) Tryd.ntmps22 (Nat.le_of_ble_eq_true rfl) (l := [(0, _, _), (1, _, _)]) rfl ?_
  intro w
  refine SC.seq (fun K1 hK1 => SC.region ?_)
  refine SL.step (PS.assign rfl tt rfl rfl) ?_
  refine SL.keep (l' := [(0, _, _), (1, _, _)]) ⟨rfl, rfl, trivial⟩ ?_
  refine SL.nil (SE.thenK hK1 (SC.seq (fun K2 hK2 => SC.region ?_)))
  refine SL.step (PS.assign rfl tt rfl rfl) ?_
  refine SL.nil (SE.thenK hK2 (SC.seq (fun K3 hK3 => SC.block ?_)))
  refine SC.loopF (fun ((k1, x5) : Nat × Int) => [(5, true, .int .i64 x5), (0, true, .string p0), (1, true, .int .i64 p1)]) (fun ((k1, x5) : Nat × Int) => []) (fun ((k1, x5) : Nat × Int) w => ((d_latheref03_digits_R2 p0 p1 k1 x5 = d_latheref03_digits_R2 p0 p1 (((p0.size : Int) - p1 - 0).toNat + 1) 0) ∧ (((p0.size : Int) - p1 - x5).toNat < k1) ∧ (0 ≤ x5) ∧ (p1 + x5 ≤ p0.size)) ∧ (True)) (fun q => q.1) (((p0.size : Int) - p1 - 0).toNat + 1, 0) ⟨rfl, rfl, rfl, trivial⟩ rfl (fun w h => ⟨⟨rfl, Nat.lt_succ_self _, by omega, by omega⟩, trivial⟩) (fun q => ?_)
  obtain ⟨k1, x5⟩ := q
  dsimp only
  refine SC.know (fun w h => h.2.1) (fun hp => ?_)
  obtain ⟨hL1, hm1, hi1_0, hi1_1⟩ := hp
  obtain ⟨k1p, rfl⟩ : ∃ j, k1 = j + 1 := ⟨k1 - 1, by omega⟩
  refine SC.seq (fun K4 hK4 => SC.seq (fun K5 hK5 => SC.region ?_))
  refine SL.step (PS.move rfl tt rfl rfl) ?_
  refine SL.step (PS.move rfl tt rfl rfl) ?_
  refine SL.step (PS.move rfl tt rfl rfl) ?_
  refine SL.step (PS.add_in rfl tt rfl tt (fun _ => wr_i64 (by omega)) rfl rfl) ?_
  refine SL.callV (vs := [_, _]) Tryd.call24 ⟨⟨_, rfl, tt⟩, ⟨_, rfl, tt⟩, trivial⟩ (fun hg => latheref03_kind_V p0 (p1 + x5) (by omega)) rfl rfl ?_
  refine SL.step (PS.eql rfl tt rfl tt rfl rfl) ?_
  refine SL.keep (l' := [(11, _, _), (5, _, _), (0, _, _), (1, _, _)]) ⟨rfl, rfl, rfl, rfl, trivial⟩ ?_
  refine SL.nil (SE.thenK hK5 ?_)
  refine SC.cond rfl (fun c11 => ?_) (fun c11 => ?_)
  ·
   have c11n := c11
   try simp only [Bool.and_eq_true, Bool.or_eq_true, decide_eq_true_eq, Bool.true_and, Bool.not_eq_true', Bool.not_eq_false', beq_iff_eq, bne_iff_ne, decide_eq_false_iff_not, beq_eq_false_iff_ne, bne_eq_false_iff_eq, ne_eq, Bool.or_eq_false_iff, Bool.and_eq_false_iff] at c11n
   have hk11 := kind_lt (s := p0) (i := p1 + x5) (by omega)
   refine SC.skip (SE.thenK hK4 (SC.block (SC.region ?_)))
   refine SL.step (PS.move rfl tt rfl rfl) ?_
   refine SL.step (PS.add_in rfl tt rfl tt (fun _ => wr_i64 (by omega)) rfl rfl) ?_
   refine SL.step (PS.assign rfl tt rfl rfl) ?_
   refine SL.keep (l' := [(5, _, _), (0, _, _), (1, _, _)]) ⟨rfl, rfl, rfl, trivial⟩ ?_
   refine SL.nil (SE.block_normal ?_)
   exact SE.againF (k1p, (x5 + 1)) ⟨rfl, rfl, rfl, trivial⟩ rfl (fun w h => And.intro (h.1) (And.intro ⟨((show d_latheref03_digits_R2 p0 p1 (k1p + 1) x5 = d_latheref03_digits_R2 p0 p1 k1p (x5 + 1) from (bifT c11)).symm.trans hL1), by (try dsimp only); omega, by (try dsimp only); omega, by (try dsimp only); omega⟩ (trivial))) (Nat.lt_succ_self _)
  ·
   refine SC.exit (SE.then_exit (SE.then_exit (SE.block_same (SE.thenK hK3 (SC.seq (fun K6 hK6 => SC.region ?_))))))
   refine SL.step (PS.move rfl tt rfl rfl) ?_
   refine SL.step (PS.assign rfl tt rfl rfl) ?_
   refine SL.keep (l' := [(4, _, _)]) ⟨rfl, trivial⟩ ?_
   refine SL.nil (SE.thenK hK6 (SC.ret ?_))
   exact finV1 rfl rfl (fun _ _ => congrArg (fun z : Int => Value.int .i64 z) (show (d_latheref03_digits p0 p1) = (x5 : Int) from (letV_eq (hL1.symm.trans (show d_latheref03_digits_R2 p0 p1 (k1p + 1) x5 = x5 from (bifF c11))))).symm)
def d_latheref03_Word (p0 : ByteArray) : Bool :=
  ((decide (0 < (p0.size : Int))) && ((d_latheref03_word p0 0) == (p0.size : Int)))
theorem latheref03_Word_V (p0 : ByteArray) (h2 : p0.size ≤ 9223372036854775807) : SpecV Tryd.prog 13 [.string p0] (Value.bool (d_latheref03_Word p0)) := by
  refine SpecV.enter Tryd.func13 rfl (n := 13) Tryd.ntmps13 (Nat.le_of_ble_eq_true rfl) (l := [(0, _, _)]) rfl ?_
  intro w
  refine SC.seq (fun K1 hK1 => SC.region ?_)
  refine SL.step (PS.assign rfl tt rfl rfl) ?_
  refine SL.keep (l' := [(0, _, _)]) ⟨rfl, trivial⟩ ?_
  refine SL.nil (SE.thenK hK1 (SC.seq (fun K2 hK2 => SC.region ?_)))
  refine SL.step (PS.move rfl tt rfl rfl) ?_
  refine SL.step (PS.len_string rfl tt Tryd.underlying9 rfl rfl) ?_
  refine SL.step (PS.gtr rfl tt rfl tt rfl rfl) ?_
  refine SL.step (PS.move rfl tt rfl rfl) ?_
  refine SL.step (PS.move rfl tt rfl rfl) ?_
  refine SL.callV (vs := [_, _]) Tryd.call19 ⟨⟨_, rfl, (fun h => h)⟩, ⟨_, rfl, tt⟩, trivial⟩ (fun hg => latheref03_word_V p0 0 (by omega) (by omega) (by omega)) rfl rfl ?_
  refine SL.step (PS.move rfl tt rfl rfl) ?_
  refine SL.step (PS.len_string rfl (fun h => h) Tryd.underlying9 rfl rfl) ?_
  refine SL.step (PS.eql rfl (fun h => h) rfl (fun h => h) rfl rfl) ?_
  refine SL.step (PS.pick_and rfl tt rfl (fun h h2 => pk_and h h2) rfl rfl) ?_
  refine SL.step (PS.assign rfl tt rfl rfl) ?_
  refine SL.keep (l' := [(2, _, _)]) ⟨rfl, trivial⟩ ?_
  refine SL.nil (SE.thenK hK2 (SC.ret ?_))
  exact finV1 rfl rfl (fun _ _ => congrArg (fun z : Bool => Value.bool z) (show (d_latheref03_Word p0) = (((decide (0 < (p0.size : Int))) && ((d_latheref03_word p0 0) == (p0.size : Int))) : Bool) from rfl).symm)
def d_latheref03_Number_R5 (p0 : ByteArray) : Nat → Int → Int → Sum (Int × Bool) (Int × Int)
  | 0, x5, x4 => Sum.inr (x5, x4)
  | k + 1, x5, x4 =>
   bif (decide (x5 < (p0.size : Int))) then
    bif ((decide (1844674407370955161 < x4)) || ((x4 == 1844674407370955161) && (decide (5 < (IntKind.u64.wrap (IntKind.u8.wrap ((byteAt p0 x5) - 48))))))) then
     Sum.inl (0, false)
    else d_latheref03_Number_R5 p0 k (x5 + 1) (IntKind.u64.wrap ((IntKind.u64.wrap (10 * x4)) + (IntKind.u64.wrap (IntKind.u8.wrap ((byteAt p0 x5) - 48)))))
   else Sum.inr (x5, x4)
def d_latheref03_Number (p0 : ByteArray) : Int × Bool :=
  bif ((((p0.size : Int) == 0) || (decide (20 < (p0.size : Int)))) || ((decide (1 < (p0.size : Int))) && ((byteAt p0 0) == 48))) then
   (0, false)
  else thenL (d_latheref03_Number_R5 p0 (((p0.size : Int) - 0).toNat + 1) 0 0) (fun (x5e, x4e) => (x4e, true))
theorem latheref03_Number_V (p0 : ByteArray)  : SpecV Tryd.prog 23 [.string p0] (Value.tuple #[Value.int .u64 (d_latheref03_Number p0).1, Value.bool (d_latheref03_Number p0).2]) := by
  refine SpecV.enter Tryd.func23 rfl (n := 51) Tryd.ntmps23 (Nat.le_of_ble_eq_true rfl) (l := [(0, _, _)]) rfl ?_
  intro w
  refine SC.seq (fun K1 hK1 => SC.region ?_)
  refine SL.step (PS.assign rfl tt rfl rfl) ?_
  refine SL.step (PS.assign rfl tt rfl rfl) ?_
  refine SL.keep (l' := [(0, _, _)]) ⟨rfl, trivial⟩ ?_
  refine SL.nil (SE.thenK hK1 (SC.seq (fun K2 hK2 => SC.seq (fun K3 hK3 => SC.region ?_))))
  refine SL.step (PS.move rfl tt rfl rfl) ?_
  refine SL.step (PS.len_string rfl tt Tryd.underlying9 rfl rfl) ?_
  refine SL.step (PS.eql rfl tt rfl tt rfl rfl) ?_
  refine SL.step (PS.move rfl tt rfl rfl) ?_
  refine SL.step (PS.move rfl tt rfl rfl) ?_
  refine SL.step (PS.len_string rfl (fun h => h) Tryd.underlying9 rfl rfl) ?_
  refine SL.step (PS.gtr rfl (fun h => h) rfl tt rfl rfl) ?_
  refine SL.step (PS.pick_or rfl tt rfl (fun h h2 => pk_or h h2) rfl rfl) ?_
  refine SL.step (PS.move rfl tt rfl rfl) ?_
  refine SL.step (PS.move rfl tt rfl rfl) ?_
  refine SL.step (PS.len_string rfl (fun h => h) Tryd.underlying9 rfl rfl) ?_
  refine SL.step (PS.gtr rfl (fun h => h) rfl tt rfl rfl) ?_
  refine SL.step (PS.move rfl (fun h => h) rfl rfl) ?_
  refine SL.step (PS.move rfl tt rfl rfl) ?_
  refine SL.step (PS.indexStr rfl (fun h => h) rfl tt Tryd.underlying9 (fun hg => by first | omega | (simp only [List.length_cons, List.length_nil]; omega) | (try simp only [Bool.and_eq_true, Bool.or_eq_true, decide_eq_true_eq, Bool.true_and, Bool.not_eq_true', beq_iff_eq, bne_iff_ne, decide_eq_false_iff_not, beq_eq_false_iff_ne, ne_eq] at hg; omega)) rfl rfl) ?_
  refine SL.step (PS.eql rfl (fun h => h) rfl tt rfl rfl) ?_
  refine SL.step (PS.pick_and rfl (fun h => h) rfl (fun h h2 => pk_and h h2) rfl rfl) ?_
  refine SL.step (PS.pick_or rfl tt rfl (fun h h2 => pk_or h h2) rfl rfl) ?_
  refine SL.keep (l' := [(24, _, _), (0, _, _)]) ⟨rfl, rfl, trivial⟩ ?_
  refine SL.nil (SE.thenK hK3 ?_)
  refine SC.cond rfl (fun c24 => ?_) (fun c24 => ?_)
  ·
   refine SC.seq (fun K4 hK4 => SC.region ?_)
   refine SL.step (PS.assign rfl tt rfl rfl) ?_
   refine SL.step (PS.assign rfl tt rfl rfl) ?_
   refine SL.keep (l' := [(3, _, _), (2, _, _)]) ⟨rfl, rfl, trivial⟩ ?_
   refine SL.nil (SE.thenK hK4 (SC.ret (SE.then_ret ?_)))
   exact finV2 rfl rfl rfl (fun _ _ => congrArg (fun z : Int × Bool => Value.tuple #[Value.int .u64 z.1, Value.bool z.2]) (show (d_latheref03_Number p0) = ((0, false) : Int × Bool) from (bifT c24)).symm)
  ·
   have c24n := c24
   try simp only [Bool.and_eq_true, Bool.or_eq_true, decide_eq_true_eq, Bool.true_and, Bool.not_eq_true', Bool.not_eq_false', beq_iff_eq, bne_iff_ne, decide_eq_false_iff_not, beq_eq_false_iff_ne, bne_eq_false_iff_eq, ne_eq, Bool.or_eq_false_iff, Bool.and_eq_false_iff] at c24n
   refine SC.skip (SE.thenK hK2 (SC.seq (fun K5 hK5 => SC.region ?_)))
   refine SL.step (PS.assign rfl tt rfl rfl) ?_
   refine SL.keep (l' := [(4, _, _), (0, _, _)]) ⟨rfl, rfl, trivial⟩ ?_
   refine SL.nil (SE.thenK hK5 (SC.seq (fun K6 hK6 => SC.seq (fun K7 hK7 => SC.region ?_))))
   refine SL.step (PS.assign rfl tt rfl rfl) ?_
   refine SL.nil (SE.thenK hK7 (SC.block ?_))
   refine SC.loopF (fun ((k1, x5, x4) : Nat × Int × Int) => [(5, true, .int .i64 x5), (4, true, .int .u64 x4), (0, true, .string p0)]) (fun ((k1, x5, x4) : Nat × Int × Int) => []) (fun ((k1, x5, x4) : Nat × Int × Int) w => ((d_latheref03_Number_R5 p0 k1 x5 x4 = d_latheref03_Number_R5 p0 (((p0.size : Int) - 0).toNat + 1) 0 0) ∧ (((p0.size : Int) - x5).toNat < k1) ∧ (0 ≤ x5) ∧ (x5 ≤ (p0.size : Int))) ∧ (True)) (fun q => q.1) (((p0.size : Int) - 0).toNat + 1, 0, 0) ⟨rfl, rfl, rfl, trivial⟩ rfl (fun w h => ⟨⟨rfl, Nat.lt_succ_self _, by omega, by omega⟩, trivial⟩) (fun q => ?_)
   obtain ⟨k1, x5, x4⟩ := q
   dsimp only
   refine SC.know (fun w h => h.2.1) (fun hp => ?_)
   obtain ⟨hL1, hm1, hi1_0, hi1_1⟩ := hp
   obtain ⟨k1p, rfl⟩ : ∃ j, k1 = j + 1 := ⟨k1 - 1, by omega⟩
   refine SC.seq (fun K8 hK8 => SC.seq (fun K9 hK9 => SC.region ?_))
   refine SL.step (PS.move rfl tt rfl rfl) ?_
   refine SL.step (PS.move rfl tt rfl rfl) ?_
   refine SL.step (PS.len_string rfl tt Tryd.underlying9 rfl rfl) ?_
   refine SL.step (PS.lss rfl tt rfl tt rfl rfl) ?_
   refine SL.keep (l' := [(28, _, _), (5, _, _), (4, _, _), (0, _, _)]) ⟨rfl, rfl, rfl, rfl, trivial⟩ ?_
   refine SL.nil (SE.thenK hK9 ?_)
   refine SC.cond rfl (fun c28 => ?_) (fun c28 => ?_)
   ·
    have c28n := c28
    try simp only [Bool.and_eq_true, Bool.or_eq_true, decide_eq_true_eq, Bool.true_and, Bool.not_eq_true', Bool.not_eq_false', beq_iff_eq, bne_iff_ne, decide_eq_false_iff_not, beq_eq_false_iff_ne, bne_eq_false_iff_eq, ne_eq, Bool.or_eq_false_iff, Bool.and_eq_false_iff] at c28n
    refine SC.skip (SE.thenK hK8 (SC.seq (fun K10 hK10 => SC.block (SC.seq (fun K11 hK11 => SC.region ?_)))))
    refine SL.step (PS.move rfl tt rfl rfl) ?_
    refine SL.step (PS.move rfl tt rfl rfl) ?_
    refine SL.step (PS.indexStr rfl tt rfl tt Tryd.underlying9 (fun hg => by first | omega | (simp only [List.length_cons, List.length_nil]; omega) | (try simp only [Bool.and_eq_true, Bool.or_eq_true, decide_eq_true_eq, Bool.true_and, Bool.not_eq_true', beq_iff_eq, bne_iff_ne, decide_eq_false_iff_not, beq_eq_false_iff_ne, ne_eq] at hg; omega)) rfl rfl) ?_
    refine SL.step (PS.sub rfl tt rfl tt rfl rfl) ?_
    refine SL.step (PS.conv rfl tt Tryd.underlying5 Tryd.underlying46 rfl rfl) ?_
    refine SL.step (PS.assign rfl tt rfl rfl) ?_
    refine SL.keep (l' := [(6, _, _), (5, _, _), (4, _, _), (0, _, _)]) ⟨rfl, rfl, rfl, rfl, trivial⟩ ?_
    refine SL.nil (SE.thenK hK11 (SC.seq (fun K12 hK12 => SC.seq (fun K13 hK13 => SC.region ?_))))
    refine SL.step (PS.move rfl tt rfl rfl) ?_
    refine SL.step (PS.gtr rfl tt rfl tt rfl rfl) ?_
    refine SL.step (PS.move rfl tt rfl rfl) ?_
    refine SL.step (PS.move rfl tt rfl rfl) ?_
    refine SL.step (PS.eql rfl (fun h => h) rfl tt rfl rfl) ?_
    refine SL.step (PS.move rfl (fun h => h) rfl rfl) ?_
    refine SL.step (PS.move rfl tt rfl rfl) ?_
    refine SL.step (PS.gtr rfl (fun h => h) rfl tt rfl rfl) ?_
    refine SL.step (PS.pick_and rfl (fun h => h) rfl (fun h h2 => pk_and h h2) rfl rfl) ?_
    refine SL.step (PS.pick_or rfl tt rfl (fun h h2 => pk_or h h2) rfl rfl) ?_
    refine SL.keep (l' := [(45, _, _), (6, _, _), (5, _, _), (4, _, _), (0, _, _)]) ⟨rfl, rfl, rfl, rfl, rfl, trivial⟩ ?_
    refine SL.nil (SE.thenK hK13 ?_)
    refine SC.cond rfl (fun c45 => ?_) (fun c45 => ?_)
    ·
     refine SC.seq (fun K14 hK14 => SC.region ?_)
     refine SL.step (PS.assign rfl tt rfl rfl) ?_
     refine SL.step (PS.assign rfl tt rfl rfl) ?_
     refine SL.keep (l' := [(3, _, _), (2, _, _)]) ⟨rfl, rfl, trivial⟩ ?_
     refine SL.nil (SE.thenK hK14 (SC.ret (SE.then_ret (SE.block_ret (SE.then_ret (SE.then_ret (SE.block_ret ?_)))))))
     refine SE.then_ret ?_
     exact finV2 rfl rfl rfl (fun _ _ => congrArg (fun z : Int × Bool => Value.tuple #[Value.int .u64 z.1, Value.bool z.2]) (show (d_latheref03_Number p0) = ((0, false) : Int × Bool) from ((bifF c24).trans (thenL_inl ((hL1.symm.trans (show d_latheref03_Number_R5 p0 (k1p + 1) x5 x4 = Sum.inl (0, false) from ((bifT c28).trans (bifT c45)))))))).symm)
    ·
     have c45n := c45
     try simp only [Bool.and_eq_true, Bool.or_eq_true, decide_eq_true_eq, Bool.true_and, Bool.not_eq_true', Bool.not_eq_false', beq_iff_eq, bne_iff_ne, decide_eq_false_iff_not, beq_eq_false_iff_ne, bne_eq_false_iff_eq, ne_eq, Bool.or_eq_false_iff, Bool.and_eq_false_iff] at c45n
     refine SC.skip (SE.thenK hK12 (SC.region ?_))
     refine SL.step (PS.move rfl tt rfl rfl) ?_
     refine SL.step (PS.mul rfl tt rfl tt rfl rfl) ?_
     refine SL.step (PS.move rfl tt rfl rfl) ?_
     refine SL.step (PS.add rfl tt rfl tt rfl rfl) ?_
     refine SL.step (PS.assign rfl tt rfl rfl) ?_
     refine SL.keep (l' := [(4, _, _), (5, _, _), (0, _, _)]) ⟨rfl, rfl, rfl, trivial⟩ ?_
     refine SL.nil (SE.block_normal (SE.thenK hK10 (SC.region ?_)))
     refine SL.step (PS.move rfl tt rfl rfl) ?_
     refine SL.step (PS.add_in rfl tt rfl tt (fun _ => wr_i64 (by omega)) rfl rfl) ?_
     refine SL.step (PS.assign rfl tt rfl rfl) ?_
     refine SL.keep (l' := [(5, _, _), (4, _, _), (0, _, _)]) ⟨rfl, rfl, rfl, trivial⟩ ?_
     refine SL.nil ?_
     exact SE.againF (k1p, (x5 + 1), (IntKind.u64.wrap ((IntKind.u64.wrap (10 * x4)) + (IntKind.u64.wrap (IntKind.u8.wrap ((byteAt p0 x5) - 48)))))) ⟨rfl, rfl, rfl, trivial⟩ rfl (fun w h => And.intro (h.1) (And.intro ⟨((show d_latheref03_Number_R5 p0 (k1p + 1) x5 x4 = d_latheref03_Number_R5 p0 k1p (x5 + 1) (IntKind.u64.wrap ((IntKind.u64.wrap (10 * x4)) + (IntKind.u64.wrap (IntKind.u8.wrap ((byteAt p0 x5) - 48))))) from ((bifT c28).trans (bifF c45))).symm.trans hL1), by (try dsimp only); omega, by (try dsimp only); omega, by (try dsimp only); omega⟩ (trivial))) (Nat.lt_succ_self _)
   ·
    refine SC.exit (SE.then_exit (SE.then_exit (SE.block_same (SE.thenK hK6 (SC.seq (fun K15 hK15 => SC.region ?_))))))
    refine SL.step (PS.move rfl tt rfl rfl) ?_
    refine SL.step (PS.assign rfl tt rfl rfl) ?_
    refine SL.step (PS.assign rfl tt rfl rfl) ?_
    refine SL.keep (l' := [(3, _, _), (2, _, _)]) ⟨rfl, rfl, trivial⟩ ?_
    refine SL.nil (SE.thenK hK15 (SC.ret ?_))
    exact finV2 rfl rfl rfl (fun _ _ => congrArg (fun z : Int × Bool => Value.tuple #[Value.int .u64 z.1, Value.bool z.2]) (show (d_latheref03_Number p0) = ((x4, true) : Int × Bool) from ((bifF c24).trans (thenL_inr (hL1.symm.trans (show d_latheref03_Number_R5 p0 (k1p + 1) x5 x4 = Sum.inr (x5, x4) from (bifF c28)))))).symm)
theorem word_R4_rg {s : ByteArray} {i : Int} : ∀ (k : Nat) (x : Int), 1 ≤ x → i + x ≤ s.size → 1 ≤ d_latheref03_word_R4 s i k x ∧ i + d_latheref03_word_R4 s i k x ≤ s.size
  | 0, x, h, h' => ⟨h, h'⟩
  | k + 1, x, h, h' => by
    unfold d_latheref03_word_R4
    by_cases hc : d_latheref03_kind s (i + x) = 0
    · rw [hc]; exact ⟨h, h'⟩
    · have := kind_lt hc
      have e : (d_latheref03_kind s (i + x) != 0) = true := by simpa using hc
      rw [e]; exact word_R4_rg k (x + 1) (by omega) (by omega)
theorem word_rg {s : ByteArray} {i : Int} (h : i ≤ s.size) : 0 ≤ d_latheref03_word s i ∧ i + d_latheref03_word s i ≤ s.size := by
  unfold d_latheref03_word
  by_cases hc : d_latheref03_kind s i = 1
  · have := kind_lt (s := s) (i := i) (by omega)
    rw [hc]
    have := word_R4_rg (s := s) (i := i) (((s.size : Int) - i - 1).toNat + 1) 1 (by omega) (by omega)
    exact ⟨Int.le_trans (by decide) this.1, this.2⟩
  · have e : (d_latheref03_kind s i != 1) = true := by simpa using hc
    rw [e]; exact ⟨Int.le_refl _, by show i + 0 ≤ _; omega⟩
theorem word_pos {s : ByteArray} {i : Int} (h : d_latheref03_kind s i = 1) : 1 ≤ d_latheref03_word s i := by
  unfold d_latheref03_word
  have := kind_lt (s := s) (i := i) (by omega)
  rw [h]
  exact (word_R4_rg (s := s) (i := i) (((s.size : Int) - i - 1).toNat + 1) 1 (by omega) (by omega)).1
theorem digits_R2_rg {s : ByteArray} {i : Int} : ∀ (k : Nat) (x : Int), 0 ≤ x → i + x ≤ s.size → x ≤ d_latheref03_digits_R2 s i k x ∧ i + d_latheref03_digits_R2 s i k x ≤ s.size
  | 0, x, h, h' => ⟨Int.le_refl _, h'⟩
  | k + 1, x, h, h' => by
    unfold d_latheref03_digits_R2
    by_cases hc : d_latheref03_kind s (i + x) = 2
    · have := kind_lt (s := s) (i := i + x) (by omega)
      rw [hc]
      have := digits_R2_rg (s := s) (i := i) k (x + 1) (by omega) (by omega)
      exact ⟨Int.le_trans (by omega) this.1, this.2⟩
    · have e : (d_latheref03_kind s (i + x) == 2) = false := by simpa using hc
      rw [e]; exact ⟨Int.le_refl _, h'⟩
theorem digits_rg {s : ByteArray} {i : Int} (h : i ≤ s.size) : 0 ≤ d_latheref03_digits s i ∧ i + d_latheref03_digits s i ≤ s.size := by
  have := digits_R2_rg (s := s) (i := i) (((s.size : Int) - i - 0).toNat + 1) 0 (by omega) (by omega)
  exact this
theorem digits_pos {s : ByteArray} {i : Int} (h : d_latheref03_kind s i = 2) : 1 ≤ d_latheref03_digits s i := by
  have hk := kind_lt (s := s) (i := i) (by omega)
  show 1 ≤ d_latheref03_digits_R2 s i (((s.size : Int) - i - 0).toNat + 1) 0
  unfold d_latheref03_digits_R2
  rw [Int.add_zero, h]
  exact (digits_R2_rg (s := s) (i := i) (((s.size : Int) - i - 0).toNat) (0 + 1) (by omega) (by omega)).1
def d_latheref03_piece (p0 : ByteArray) (p1 : Int) : Int × Int × Int × Int :=
  bif ((byteAt p0 p1) == 10) then
   (6, p1, 0, 0)
  else bif ((byteAt p0 p1) == 61) then
    (5, p1, 1, 0)
   else bif ((byteAt p0 p1) == 44) then
     (5, p1, 1, 0)
    else bif ((byteAt p0 p1) == 40) then
      (5, p1, 1, 0)
     else bif ((byteAt p0 p1) == 41) then
       (5, p1, 1, 0)
      else bif ((byteAt p0 p1) == 58) then
        (5, p1, 1, 0)
       else bif ((byteAt p0 p1) == 37) then
         bif ((!((d_latheref03_Number (p0.extract (Int.toNat (p1 + 1)) (Int.toNat ((p1 + 1) + (d_latheref03_digits p0 (p1 + 1)))))).2)) || (decide (4095 < (d_latheref03_Number (p0.extract (Int.toNat (p1 + 1)) (Int.toNat ((p1 + 1) + (d_latheref03_digits p0 (p1 + 1)))))).1))) then
          (0, 0, 0, 2)
         else (3, (p1 + 1), (d_latheref03_digits p0 (p1 + 1)), 0)
        else bif ((byteAt p0 p1) == 64) then
          bif ((d_latheref03_word p0 (p1 + 1)) == 0) then
           (0, 0, 0, 1)
          else (4, (p1 + 1), (d_latheref03_word p0 (p1 + 1)), 0)
         else bif ((d_latheref03_kind p0 p1) == 1) then
           (1, p1, (d_latheref03_word p0 p1), 0)
          else bif ((d_latheref03_kind p0 p1) == 2) then
            bif (!((d_latheref03_Number (p0.extract (Int.toNat p1) (Int.toNat (p1 + (d_latheref03_digits p0 p1))))).2)) then
             (0, 0, 0, 2)
            else (2, p1, (d_latheref03_digits p0 p1), 0)
           else (0, 0, 0, 1)
theorem latheref03_piece_V (p0 : ByteArray) (p1 : Int) (h0 : 0 ≤ p1) (h1 : p1 < p0.size) (h2 : p0.size ≤ 9223372036854775807) : SpecV Tryd.prog 16 [.string p0, .int .i64 p1] (Value.tuple #[Value.int .i64 (d_latheref03_piece p0 p1).1, Value.int .i64 (d_latheref03_piece p0 p1).2.1, Value.int .i64 (d_latheref03_piece p0 p1).2.2.1, Value.int .i64 (d_latheref03_piece p0 p1).2.2.2]) := by
  refine SpecV.enter Tryd.func16 rfl (n := 94) Tryd.ntmps16 (Nat.le_of_ble_eq_true rfl) (l := [(0, _, _), (1, _, _)]) rfl ?_
  intro w
  have hd1 := digits_rg (s := p0) (i := p1 + 1) (by omega)
  have hd0 := digits_rg (s := p0) (i := p1) (by omega)
  have hw1 := word_rg (s := p0) (i := p1 + 1) (by omega)
  have hw0 := word_rg (s := p0) (i := p1) (by omega)
  refine SC.seq (fun K1 hK1 => SC.region ?_)
  refine SL.step (PS.assign rfl tt rfl rfl) ?_
  refine SL.step (PS.assign rfl tt rfl rfl) ?_
  refine SL.step (PS.assign rfl tt rfl rfl) ?_
  refine SL.step (PS.assign rfl tt rfl rfl) ?_
  refine SL.keep (l' := [(0, _, _), (1, _, _)]) ⟨rfl, rfl, trivial⟩ ?_
  refine SL.nil (SE.thenK hK1 (SC.seq (fun K2 hK2 => SC.seq (fun K3 hK3 => SC.region ?_))))
  refine SL.step (PS.move rfl tt rfl rfl) ?_
  refine SL.step (PS.move rfl tt rfl rfl) ?_
  refine SL.step (PS.indexStr rfl tt rfl tt Tryd.underlying9 (fun hg => by first | omega | (simp only [List.length_cons, List.length_nil]; omega) | (try simp only [Bool.and_eq_true, Bool.or_eq_true, decide_eq_true_eq, Bool.true_and, Bool.not_eq_true', beq_iff_eq, bne_iff_ne, decide_eq_false_iff_not, beq_eq_false_iff_ne, ne_eq] at hg; omega)) rfl rfl) ?_
  refine SL.keep (l' := [(17, _, _), (0, _, _), (1, _, _)]) ⟨rfl, rfl, rfl, trivial⟩ ?_
  refine SL.nil (SE.thenK hK3 (SC.block (SC.seq (fun K4 hK4 => SC.region ?_))))
  refine SL.step (PS.eql rfl tt rfl tt rfl rfl) ?_
  refine SL.step (PS.assign rfl tt rfl rfl) ?_
  refine SL.keep (l' := [(18, _, _), (17, _, _), (0, _, _), (1, _, _)]) ⟨rfl, rfl, rfl, rfl, trivial⟩ ?_
  refine SL.nil (SE.thenK hK4 ?_)
  refine SC.cond rfl (fun c18 => ?_) (fun c18 => ?_)
  ·
   refine SC.seq (fun K5 hK5 => SC.region ?_)
   refine SL.step (PS.move rfl tt rfl rfl) ?_
   refine SL.step (PS.assign rfl tt rfl rfl) ?_
   refine SL.step (PS.assign rfl tt rfl rfl) ?_
   refine SL.step (PS.assign rfl tt rfl rfl) ?_
   refine SL.step (PS.assign rfl tt rfl rfl) ?_
   refine SL.keep (l' := [(7, _, _), (6, _, _), (5, _, _), (4, _, _)]) ⟨rfl, rfl, rfl, rfl, trivial⟩ ?_
   refine SL.nil (SE.thenK hK5 (SC.ret (SE.block_ret (SE.then_ret ?_))))
   exact finV4 rfl rfl rfl rfl rfl (fun _ _ => congrArg (fun z : Int × Int × Int × Int => Value.tuple #[Value.int .i64 z.1, Value.int .i64 z.2.1, Value.int .i64 z.2.2.1, Value.int .i64 z.2.2.2]) (show (d_latheref03_piece p0 p1) = ((6, p1, 0, 0) : Int × Int × Int × Int) from (bifT c18)).symm)
  ·
   have c18n := c18
   try simp only [Bool.and_eq_true, Bool.or_eq_true, decide_eq_true_eq, Bool.true_and, Bool.not_eq_true', Bool.not_eq_false', beq_iff_eq, bne_iff_ne, decide_eq_false_iff_not, beq_eq_false_iff_ne, bne_eq_false_iff_eq, ne_eq, Bool.or_eq_false_iff, Bool.and_eq_false_iff] at c18n
   refine SC.seq (fun K6 hK6 => SC.seq (fun K7 hK7 => SC.region ?_))
   refine SL.step (PS.eql rfl tt rfl tt rfl rfl) ?_
   refine SL.step (PS.assign rfl tt rfl rfl) ?_
   refine SL.keep (l' := [(21, _, _), (17, _, _), (0, _, _), (1, _, _)]) ⟨rfl, rfl, rfl, rfl, trivial⟩ ?_
   refine SL.nil (SE.thenK hK7 ?_)
   refine SC.cond rfl (fun c21 => ?_) (fun c21 => ?_)
   ·
    refine SC.skip (SE.thenK hK6 (SC.cond_t rfl c21 (SC.seq (fun K8 hK8 => SC.region ?_))))
    refine SL.step (PS.move rfl tt rfl rfl) ?_
    refine SL.step (PS.assign rfl tt rfl rfl) ?_
    refine SL.step (PS.assign rfl tt rfl rfl) ?_
    refine SL.step (PS.assign rfl tt rfl rfl) ?_
    refine SL.step (PS.assign rfl tt rfl rfl) ?_
    refine SL.keep (l' := [(7, _, _), (6, _, _), (5, _, _), (4, _, _)]) ⟨rfl, rfl, rfl, rfl, trivial⟩ ?_
    refine SL.nil (SE.thenK hK8 (SC.ret (SE.block_ret (SE.then_ret ?_))))
    exact finV4 rfl rfl rfl rfl rfl (fun _ _ => congrArg (fun z : Int × Int × Int × Int => Value.tuple #[Value.int .i64 z.1, Value.int .i64 z.2.1, Value.int .i64 z.2.2.1, Value.int .i64 z.2.2.2]) (show (d_latheref03_piece p0 p1) = ((5, p1, 1, 0) : Int × Int × Int × Int) from ((bifF c18).trans (bifT c21))).symm)
   ·
    have c21n := c21
    try simp only [Bool.and_eq_true, Bool.or_eq_true, decide_eq_true_eq, Bool.true_and, Bool.not_eq_true', Bool.not_eq_false', beq_iff_eq, bne_iff_ne, decide_eq_false_iff_not, beq_eq_false_iff_ne, bne_eq_false_iff_eq, ne_eq, Bool.or_eq_false_iff, Bool.and_eq_false_iff] at c21n
    refine SC.seq (fun K9 hK9 => SC.region ?_)
    refine SL.step (PS.eql rfl tt rfl tt rfl rfl) ?_
    refine SL.step (PS.assign rfl tt rfl rfl) ?_
    refine SL.keep (l' := [(21, _, _), (17, _, _), (0, _, _), (1, _, _)]) ⟨rfl, rfl, rfl, rfl, trivial⟩ ?_
    refine SL.nil (SE.thenK hK9 ?_)
    refine SC.cond rfl (fun c21a => ?_) (fun c21a => ?_)
    ·
     refine SC.skip (SE.thenK hK6 (SC.cond_t rfl c21a (SC.seq (fun K10 hK10 => SC.region ?_))))
     refine SL.step (PS.move rfl tt rfl rfl) ?_
     refine SL.step (PS.assign rfl tt rfl rfl) ?_
     refine SL.step (PS.assign rfl tt rfl rfl) ?_
     refine SL.step (PS.assign rfl tt rfl rfl) ?_
     refine SL.step (PS.assign rfl tt rfl rfl) ?_
     refine SL.keep (l' := [(7, _, _), (6, _, _), (5, _, _), (4, _, _)]) ⟨rfl, rfl, rfl, rfl, trivial⟩ ?_
     refine SL.nil (SE.thenK hK10 (SC.ret (SE.block_ret (SE.then_ret ?_))))
     exact finV4 rfl rfl rfl rfl rfl (fun _ _ => congrArg (fun z : Int × Int × Int × Int => Value.tuple #[Value.int .i64 z.1, Value.int .i64 z.2.1, Value.int .i64 z.2.2.1, Value.int .i64 z.2.2.2]) (show (d_latheref03_piece p0 p1) = ((5, p1, 1, 0) : Int × Int × Int × Int) from ((bifF c18).trans ((bifF c21).trans (bifT c21a)))).symm)
    ·
     have c21an := c21a
     try simp only [Bool.and_eq_true, Bool.or_eq_true, decide_eq_true_eq, Bool.true_and, Bool.not_eq_true', Bool.not_eq_false', beq_iff_eq, bne_iff_ne, decide_eq_false_iff_not, beq_eq_false_iff_ne, bne_eq_false_iff_eq, ne_eq, Bool.or_eq_false_iff, Bool.and_eq_false_iff] at c21an
     refine SC.seq (fun K11 hK11 => SC.region ?_)
     refine SL.step (PS.eql rfl tt rfl tt rfl rfl) ?_
     refine SL.step (PS.assign rfl tt rfl rfl) ?_
     refine SL.keep (l' := [(21, _, _), (17, _, _), (0, _, _), (1, _, _)]) ⟨rfl, rfl, rfl, rfl, trivial⟩ ?_
     refine SL.nil (SE.thenK hK11 ?_)
     refine SC.cond rfl (fun c21b => ?_) (fun c21b => ?_)
     ·
      refine SC.skip (SE.thenK hK6 (SC.cond_t rfl c21b (SC.seq (fun K12 hK12 => SC.region ?_))))
      refine SL.step (PS.move rfl tt rfl rfl) ?_
      refine SL.step (PS.assign rfl tt rfl rfl) ?_
      refine SL.step (PS.assign rfl tt rfl rfl) ?_
      refine SL.step (PS.assign rfl tt rfl rfl) ?_
      refine SL.step (PS.assign rfl tt rfl rfl) ?_
      refine SL.keep (l' := [(7, _, _), (6, _, _), (5, _, _), (4, _, _)]) ⟨rfl, rfl, rfl, rfl, trivial⟩ ?_
      refine SL.nil (SE.thenK hK12 (SC.ret (SE.block_ret (SE.then_ret ?_))))
      exact finV4 rfl rfl rfl rfl rfl (fun _ _ => congrArg (fun z : Int × Int × Int × Int => Value.tuple #[Value.int .i64 z.1, Value.int .i64 z.2.1, Value.int .i64 z.2.2.1, Value.int .i64 z.2.2.2]) (show (d_latheref03_piece p0 p1) = ((5, p1, 1, 0) : Int × Int × Int × Int) from ((bifF c18).trans ((bifF c21).trans ((bifF c21a).trans (bifT c21b))))).symm)
     ·
      have c21bn := c21b
      try simp only [Bool.and_eq_true, Bool.or_eq_true, decide_eq_true_eq, Bool.true_and, Bool.not_eq_true', Bool.not_eq_false', beq_iff_eq, bne_iff_ne, decide_eq_false_iff_not, beq_eq_false_iff_ne, bne_eq_false_iff_eq, ne_eq, Bool.or_eq_false_iff, Bool.and_eq_false_iff] at c21bn
      refine SC.seq (fun K13 hK13 => SC.region ?_)
      refine SL.step (PS.eql rfl tt rfl tt rfl rfl) ?_
      refine SL.step (PS.assign rfl tt rfl rfl) ?_
      refine SL.keep (l' := [(21, _, _), (17, _, _), (0, _, _), (1, _, _)]) ⟨rfl, rfl, rfl, rfl, trivial⟩ ?_
      refine SL.nil (SE.thenK hK13 ?_)
      refine SC.cond rfl (fun c21c => ?_) (fun c21c => ?_)
      ·
       refine SC.skip (SE.thenK hK6 (SC.cond_t rfl c21c (SC.seq (fun K14 hK14 => SC.region ?_))))
       refine SL.step (PS.move rfl tt rfl rfl) ?_
       refine SL.step (PS.assign rfl tt rfl rfl) ?_
       refine SL.step (PS.assign rfl tt rfl rfl) ?_
       refine SL.step (PS.assign rfl tt rfl rfl) ?_
       refine SL.step (PS.assign rfl tt rfl rfl) ?_
       refine SL.keep (l' := [(7, _, _), (6, _, _), (5, _, _), (4, _, _)]) ⟨rfl, rfl, rfl, rfl, trivial⟩ ?_
       refine SL.nil (SE.thenK hK14 (SC.ret (SE.block_ret (SE.then_ret ?_))))
       exact finV4 rfl rfl rfl rfl rfl (fun _ _ => congrArg (fun z : Int × Int × Int × Int => Value.tuple #[Value.int .i64 z.1, Value.int .i64 z.2.1, Value.int .i64 z.2.2.1, Value.int .i64 z.2.2.2]) (show (d_latheref03_piece p0 p1) = ((5, p1, 1, 0) : Int × Int × Int × Int) from ((bifF c18).trans ((bifF c21).trans ((bifF c21a).trans ((bifF c21b).trans (bifT c21c)))))).symm)
      ·
       have c21cn := c21c
       try simp only [Bool.and_eq_true, Bool.or_eq_true, decide_eq_true_eq, Bool.true_and, Bool.not_eq_true', Bool.not_eq_false', beq_iff_eq, bne_iff_ne, decide_eq_false_iff_not, beq_eq_false_iff_ne, bne_eq_false_iff_eq, ne_eq, Bool.or_eq_false_iff, Bool.and_eq_false_iff] at c21cn
       refine SC.region ?_
       refine SL.step (PS.eql rfl tt rfl tt rfl rfl) ?_
       refine SL.step (PS.assign rfl tt rfl rfl) ?_
       refine SL.keep (l' := [(21, _, _), (17, _, _), (0, _, _), (1, _, _)]) ⟨rfl, rfl, rfl, rfl, trivial⟩ ?_
       refine SL.nil (SE.thenK hK6 ?_)
       refine SC.cond rfl (fun c21d => ?_) (fun c21d => ?_)
       ·
        refine SC.seq (fun K15 hK15 => SC.region ?_)
        refine SL.step (PS.move rfl tt rfl rfl) ?_
        refine SL.step (PS.assign rfl tt rfl rfl) ?_
        refine SL.step (PS.assign rfl tt rfl rfl) ?_
        refine SL.step (PS.assign rfl tt rfl rfl) ?_
        refine SL.step (PS.assign rfl tt rfl rfl) ?_
        refine SL.keep (l' := [(7, _, _), (6, _, _), (5, _, _), (4, _, _)]) ⟨rfl, rfl, rfl, rfl, trivial⟩ ?_
        refine SL.nil (SE.thenK hK15 (SC.ret (SE.block_ret (SE.then_ret ?_))))
        exact finV4 rfl rfl rfl rfl rfl (fun _ _ => congrArg (fun z : Int × Int × Int × Int => Value.tuple #[Value.int .i64 z.1, Value.int .i64 z.2.1, Value.int .i64 z.2.2.1, Value.int .i64 z.2.2.2]) (show (d_latheref03_piece p0 p1) = ((5, p1, 1, 0) : Int × Int × Int × Int) from ((bifF c18).trans ((bifF c21).trans ((bifF c21a).trans ((bifF c21b).trans ((bifF c21c).trans (bifT c21d))))))).symm)
       ·
        have c21dn := c21d
        try simp only [Bool.and_eq_true, Bool.or_eq_true, decide_eq_true_eq, Bool.true_and, Bool.not_eq_true', Bool.not_eq_false', beq_iff_eq, bne_iff_ne, decide_eq_false_iff_not, beq_eq_false_iff_ne, bne_eq_false_iff_eq, ne_eq, Bool.or_eq_false_iff, Bool.and_eq_false_iff] at c21dn
        refine SC.seq (fun K16 hK16 => SC.region ?_)
        refine SL.step (PS.eql rfl tt rfl tt rfl rfl) ?_
        refine SL.step (PS.assign rfl tt rfl rfl) ?_
        refine SL.keep (l' := [(28, _, _), (17, _, _), (0, _, _), (1, _, _)]) ⟨rfl, rfl, rfl, rfl, trivial⟩ ?_
        refine SL.nil (SE.thenK hK16 ?_)
        refine SC.cond rfl (fun c28 => ?_) (fun c28 => ?_)
        ·
         have c28n := c28
         try simp only [Bool.and_eq_true, Bool.or_eq_true, decide_eq_true_eq, Bool.true_and, Bool.not_eq_true', Bool.not_eq_false', beq_iff_eq, bne_iff_ne, decide_eq_false_iff_not, beq_eq_false_iff_ne, bne_eq_false_iff_eq, ne_eq, Bool.or_eq_false_iff, Bool.and_eq_false_iff] at c28n
         refine SC.seq (fun K17 hK17 => SC.region ?_)
         refine SL.step (PS.move rfl tt rfl rfl) ?_
         refine SL.step (PS.move rfl tt rfl rfl) ?_
         refine SL.step (PS.add_in rfl tt rfl tt (fun _ => wr_i64 (by omega)) rfl rfl) ?_
         refine SL.callV (vs := [_, _]) Tryd.call22 ⟨⟨_, rfl, tt⟩, ⟨_, rfl, tt⟩, trivial⟩ (fun hg => latheref03_digits_V p0 (p1 + 1) (by omega) (by omega) (by omega)) rfl rfl ?_
         refine SL.step (PS.assign rfl tt rfl rfl) ?_
         refine SL.keep (l' := [(8, _, _), (0, _, _), (1, _, _)]) ⟨rfl, rfl, rfl, trivial⟩ ?_
         refine SL.nil (SE.thenK hK17 (SC.seq (fun K18 hK18 => SC.region ?_)))
         refine SL.step (PS.move rfl tt rfl rfl) ?_
         refine SL.step (PS.move rfl tt rfl rfl) ?_
         refine SL.step (PS.add_in rfl tt rfl tt (fun _ => wr_i64 (by omega)) rfl rfl) ?_
         refine SL.step (PS.move rfl tt rfl rfl) ?_
         refine SL.step (PS.add_in rfl tt rfl tt (fun _ => wr_i64 (by omega)) rfl rfl) ?_
         refine SL.step (PS.move rfl tt rfl rfl) ?_
         refine SL.step (PS.add_in rfl tt rfl tt (fun _ => wr_i64 (by omega)) rfl rfl) ?_
         refine SL.step (PS.sliceStr rfl tt rfl tt rfl tt Tryd.underlying9 (fun hg => by first | omega | (simp only [List.length_cons, List.length_nil]; omega) | (try simp only [Bool.and_eq_true, Bool.or_eq_true, decide_eq_true_eq, Bool.true_and, Bool.not_eq_true', beq_iff_eq, bne_iff_ne, decide_eq_false_iff_not, beq_eq_false_iff_ne, ne_eq] at hg; omega)) rfl rfl) ?_
         refine SL.callV (vs := [_]) Tryd.call23 ⟨⟨_, rfl, tt⟩, trivial⟩ (fun hg => latheref03_Number_V (p0.extract (Int.toNat (p1 + 1)) (Int.toNat ((p1 + 1) + (d_latheref03_digits p0 (p1 + 1))))) ) rfl rfl ?_
         refine SL.step (PS.move rfl tt rfl rfl) ?_
         refine SL.step (PS.extract rfl tt rfl rfl rfl) ?_
         refine SL.step (PS.extract rfl tt rfl rfl rfl) ?_
         refine SL.step (PS.assign rfl tt rfl rfl) ?_
         refine SL.step (PS.assign rfl tt rfl rfl) ?_
         refine SL.keep (l' := [(10, _, _), (9, _, _), (8, _, _), (1, _, _)]) ⟨rfl, rfl, rfl, rfl, trivial⟩ ?_
         refine SL.nil (SE.thenK hK18 (SC.seq (fun K19 hK19 => SC.seq (fun K20 hK20 => SC.region ?_))))
         refine SL.step (PS.move rfl tt rfl rfl) ?_
         refine SL.step (PS.not rfl tt rfl rfl) ?_
         refine SL.step (PS.move rfl tt rfl rfl) ?_
         refine SL.step (PS.move rfl tt rfl rfl) ?_
         refine SL.step (PS.gtr rfl (fun h => h) rfl tt rfl rfl) ?_
         refine SL.step (PS.pick_or rfl tt rfl (fun h h2 => pk_or h h2) rfl rfl) ?_
         refine SL.keep (l' := [(51, _, _), (8, _, _), (1, _, _)]) ⟨rfl, rfl, rfl, trivial⟩ ?_
         refine SL.nil (SE.thenK hK20 ?_)
         refine SC.cond rfl (fun c51 => ?_) (fun c51 => ?_)
         ·
          refine SC.seq (fun K21 hK21 => SC.region ?_)
          refine SL.step (PS.assign rfl tt rfl rfl) ?_
          refine SL.step (PS.assign rfl tt rfl rfl) ?_
          refine SL.step (PS.assign rfl tt rfl rfl) ?_
          refine SL.step (PS.assign rfl tt rfl rfl) ?_
          refine SL.keep (l' := [(7, _, _), (6, _, _), (5, _, _), (4, _, _)]) ⟨rfl, rfl, rfl, rfl, trivial⟩ ?_
          refine SL.nil (SE.thenK hK21 (SC.ret (SE.then_ret (SE.block_ret (SE.then_ret ?_)))))
          exact finV4 rfl rfl rfl rfl rfl (fun _ _ => congrArg (fun z : Int × Int × Int × Int => Value.tuple #[Value.int .i64 z.1, Value.int .i64 z.2.1, Value.int .i64 z.2.2.1, Value.int .i64 z.2.2.2]) (show (d_latheref03_piece p0 p1) = ((0, 0, 0, 2) : Int × Int × Int × Int) from ((bifF c18).trans ((bifF c21).trans ((bifF c21a).trans ((bifF c21b).trans ((bifF c21c).trans ((bifF c21d).trans ((bifT c28).trans (bifT c51))))))))).symm)
         ·
          have c51n := c51
          try simp only [Bool.and_eq_true, Bool.or_eq_true, decide_eq_true_eq, Bool.true_and, Bool.not_eq_true', Bool.not_eq_false', beq_iff_eq, bne_iff_ne, decide_eq_false_iff_not, beq_eq_false_iff_ne, bne_eq_false_iff_eq, ne_eq, Bool.or_eq_false_iff, Bool.and_eq_false_iff] at c51n
          refine SC.skip (SE.thenK hK19 (SC.seq (fun K22 hK22 => SC.region ?_)))
          refine SL.step (PS.move rfl tt rfl rfl) ?_
          refine SL.step (PS.add_in rfl tt rfl tt (fun _ => wr_i64 (by omega)) rfl rfl) ?_
          refine SL.step (PS.move rfl tt rfl rfl) ?_
          refine SL.step (PS.assign rfl tt rfl rfl) ?_
          refine SL.step (PS.assign rfl tt rfl rfl) ?_
          refine SL.step (PS.assign rfl tt rfl rfl) ?_
          refine SL.step (PS.assign rfl tt rfl rfl) ?_
          refine SL.keep (l' := [(7, _, _), (6, _, _), (5, _, _), (4, _, _)]) ⟨rfl, rfl, rfl, rfl, trivial⟩ ?_
          refine SL.nil (SE.thenK hK22 (SC.ret (SE.block_ret (SE.then_ret ?_))))
          exact finV4 rfl rfl rfl rfl rfl (fun _ _ => congrArg (fun z : Int × Int × Int × Int => Value.tuple #[Value.int .i64 z.1, Value.int .i64 z.2.1, Value.int .i64 z.2.2.1, Value.int .i64 z.2.2.2]) (show (d_latheref03_piece p0 p1) = ((3, (p1 + 1), (d_latheref03_digits p0 (p1 + 1)), 0) : Int × Int × Int × Int) from ((bifF c18).trans ((bifF c21).trans ((bifF c21a).trans ((bifF c21b).trans ((bifF c21c).trans ((bifF c21d).trans ((bifT c28).trans (bifF c51))))))))).symm)
        ·
         have c28n := c28
         try simp only [Bool.and_eq_true, Bool.or_eq_true, decide_eq_true_eq, Bool.true_and, Bool.not_eq_true', Bool.not_eq_false', beq_iff_eq, bne_iff_ne, decide_eq_false_iff_not, beq_eq_false_iff_ne, bne_eq_false_iff_eq, ne_eq, Bool.or_eq_false_iff, Bool.and_eq_false_iff] at c28n
         refine SC.seq (fun K23 hK23 => SC.region ?_)
         refine SL.step (PS.eql rfl tt rfl tt rfl rfl) ?_
         refine SL.step (PS.assign rfl tt rfl rfl) ?_
         refine SL.keep (l' := [(55, _, _), (0, _, _), (1, _, _)]) ⟨rfl, rfl, rfl, trivial⟩ ?_
         refine SL.nil (SE.thenK hK23 ?_)
         refine SC.cond rfl (fun c55 => ?_) (fun c55 => ?_)
         ·
          have c55n := c55
          try simp only [Bool.and_eq_true, Bool.or_eq_true, decide_eq_true_eq, Bool.true_and, Bool.not_eq_true', Bool.not_eq_false', beq_iff_eq, bne_iff_ne, decide_eq_false_iff_not, beq_eq_false_iff_ne, bne_eq_false_iff_eq, ne_eq, Bool.or_eq_false_iff, Bool.and_eq_false_iff] at c55n
          refine SC.seq (fun K24 hK24 => SC.region ?_)
          refine SL.step (PS.move rfl tt rfl rfl) ?_
          refine SL.step (PS.move rfl tt rfl rfl) ?_
          refine SL.step (PS.add_in rfl tt rfl tt (fun _ => wr_i64 (by omega)) rfl rfl) ?_
          refine SL.callV (vs := [_, _]) Tryd.call19 ⟨⟨_, rfl, tt⟩, ⟨_, rfl, tt⟩, trivial⟩ (fun hg => latheref03_word_V p0 (p1 + 1) (by omega) (by omega) (by omega)) rfl rfl ?_
          refine SL.step (PS.assign rfl tt rfl rfl) ?_
          refine SL.keep (l' := [(11, _, _), (1, _, _)]) ⟨rfl, rfl, trivial⟩ ?_
          refine SL.nil (SE.thenK hK24 (SC.seq (fun K25 hK25 => SC.seq (fun K26 hK26 => SC.region ?_))))
          refine SL.step (PS.move rfl tt rfl rfl) ?_
          refine SL.step (PS.eql rfl tt rfl tt rfl rfl) ?_
          refine SL.keep (l' := [(62, _, _), (11, _, _), (1, _, _)]) ⟨rfl, rfl, rfl, trivial⟩ ?_
          refine SL.nil (SE.thenK hK26 ?_)
          refine SC.cond rfl (fun c62 => ?_) (fun c62 => ?_)
          ·
           refine SC.seq (fun K27 hK27 => SC.region ?_)
           refine SL.step (PS.assign rfl tt rfl rfl) ?_
           refine SL.step (PS.assign rfl tt rfl rfl) ?_
           refine SL.step (PS.assign rfl tt rfl rfl) ?_
           refine SL.step (PS.assign rfl tt rfl rfl) ?_
           refine SL.keep (l' := [(7, _, _), (6, _, _), (5, _, _), (4, _, _)]) ⟨rfl, rfl, rfl, rfl, trivial⟩ ?_
           refine SL.nil (SE.thenK hK27 (SC.ret (SE.then_ret (SE.block_ret (SE.then_ret ?_)))))
           exact finV4 rfl rfl rfl rfl rfl (fun _ _ => congrArg (fun z : Int × Int × Int × Int => Value.tuple #[Value.int .i64 z.1, Value.int .i64 z.2.1, Value.int .i64 z.2.2.1, Value.int .i64 z.2.2.2]) (show (d_latheref03_piece p0 p1) = ((0, 0, 0, 1) : Int × Int × Int × Int) from ((bifF c18).trans ((bifF c21).trans ((bifF c21a).trans ((bifF c21b).trans ((bifF c21c).trans ((bifF c21d).trans ((bifF c28).trans ((bifT c55).trans (bifT c62)))))))))).symm)
          ·
           have c62n := c62
           try simp only [Bool.and_eq_true, Bool.or_eq_true, decide_eq_true_eq, Bool.true_and, Bool.not_eq_true', Bool.not_eq_false', beq_iff_eq, bne_iff_ne, decide_eq_false_iff_not, beq_eq_false_iff_ne, bne_eq_false_iff_eq, ne_eq, Bool.or_eq_false_iff, Bool.and_eq_false_iff] at c62n
           refine SC.skip (SE.thenK hK25 (SC.seq (fun K28 hK28 => SC.region ?_)))
           refine SL.step (PS.move rfl tt rfl rfl) ?_
           refine SL.step (PS.add_in rfl tt rfl tt (fun _ => wr_i64 (by omega)) rfl rfl) ?_
           refine SL.step (PS.move rfl tt rfl rfl) ?_
           refine SL.step (PS.assign rfl tt rfl rfl) ?_
           refine SL.step (PS.assign rfl tt rfl rfl) ?_
           refine SL.step (PS.assign rfl tt rfl rfl) ?_
           refine SL.step (PS.assign rfl tt rfl rfl) ?_
           refine SL.keep (l' := [(7, _, _), (6, _, _), (5, _, _), (4, _, _)]) ⟨rfl, rfl, rfl, rfl, trivial⟩ ?_
           refine SL.nil (SE.thenK hK28 (SC.ret (SE.block_ret (SE.then_ret ?_))))
           exact finV4 rfl rfl rfl rfl rfl (fun _ _ => congrArg (fun z : Int × Int × Int × Int => Value.tuple #[Value.int .i64 z.1, Value.int .i64 z.2.1, Value.int .i64 z.2.2.1, Value.int .i64 z.2.2.2]) (show (d_latheref03_piece p0 p1) = ((4, (p1 + 1), (d_latheref03_word p0 (p1 + 1)), 0) : Int × Int × Int × Int) from ((bifF c18).trans ((bifF c21).trans ((bifF c21a).trans ((bifF c21b).trans ((bifF c21c).trans ((bifF c21d).trans ((bifF c28).trans ((bifT c55).trans (bifF c62)))))))))).symm)
         ·
          have c55n := c55
          try simp only [Bool.and_eq_true, Bool.or_eq_true, decide_eq_true_eq, Bool.true_and, Bool.not_eq_true', Bool.not_eq_false', beq_iff_eq, bne_iff_ne, decide_eq_false_iff_not, beq_eq_false_iff_ne, bne_eq_false_iff_eq, ne_eq, Bool.or_eq_false_iff, Bool.and_eq_false_iff] at c55n
          refine SC.skip (SE.block_normal (SE.thenK hK2 (SC.seq (fun K29 hK29 => SC.seq (fun K30 hK30 => SC.region ?_)))))
          refine SL.step (PS.move rfl tt rfl rfl) ?_
          refine SL.step (PS.move rfl tt rfl rfl) ?_
          refine SL.callV (vs := [_, _]) Tryd.call24 ⟨⟨_, rfl, tt⟩, ⟨_, rfl, tt⟩, trivial⟩ (fun hg => latheref03_kind_V p0 p1 (by omega)) rfl rfl ?_
          refine SL.keep (l' := [(68, _, _), (0, _, _), (1, _, _)]) ⟨rfl, rfl, rfl, trivial⟩ ?_
          refine SL.nil (SE.thenK hK30 (SC.block (SC.seq (fun K31 hK31 => SC.region ?_))))
          refine SL.step (PS.eql rfl tt rfl tt rfl rfl) ?_
          refine SL.step (PS.assign rfl tt rfl rfl) ?_
          refine SL.keep (l' := [(69, _, _), (68, _, _), (0, _, _), (1, _, _)]) ⟨rfl, rfl, rfl, rfl, trivial⟩ ?_
          refine SL.nil (SE.thenK hK31 ?_)
          refine SC.cond rfl (fun c69 => ?_) (fun c69 => ?_)
          ·
           have c69n := c69
           try simp only [Bool.and_eq_true, Bool.or_eq_true, decide_eq_true_eq, Bool.true_and, Bool.not_eq_true', Bool.not_eq_false', beq_iff_eq, bne_iff_ne, decide_eq_false_iff_not, beq_eq_false_iff_ne, bne_eq_false_iff_eq, ne_eq, Bool.or_eq_false_iff, Bool.and_eq_false_iff] at c69n
           refine SC.seq (fun K32 hK32 => SC.region ?_)
           refine SL.step (PS.move rfl tt rfl rfl) ?_
           refine SL.step (PS.move rfl tt rfl rfl) ?_
           refine SL.step (PS.move rfl tt rfl rfl) ?_
           refine SL.callV (vs := [_, _]) Tryd.call19 ⟨⟨_, rfl, tt⟩, ⟨_, rfl, tt⟩, trivial⟩ (fun hg => latheref03_word_V p0 p1 (by omega) (by omega) (by omega)) rfl rfl ?_
           refine SL.step (PS.assign rfl tt rfl rfl) ?_
           refine SL.step (PS.assign rfl tt rfl rfl) ?_
           refine SL.step (PS.assign rfl tt rfl rfl) ?_
           refine SL.step (PS.assign rfl tt rfl rfl) ?_
           refine SL.keep (l' := [(7, _, _), (6, _, _), (5, _, _), (4, _, _)]) ⟨rfl, rfl, rfl, rfl, trivial⟩ ?_
           refine SL.nil (SE.thenK hK32 (SC.ret (SE.block_ret (SE.then_ret ?_))))
           exact finV4 rfl rfl rfl rfl rfl (fun _ _ => congrArg (fun z : Int × Int × Int × Int => Value.tuple #[Value.int .i64 z.1, Value.int .i64 z.2.1, Value.int .i64 z.2.2.1, Value.int .i64 z.2.2.2]) (show (d_latheref03_piece p0 p1) = ((1, p1, (d_latheref03_word p0 p1), 0) : Int × Int × Int × Int) from ((bifF c18).trans ((bifF c21).trans ((bifF c21a).trans ((bifF c21b).trans ((bifF c21c).trans ((bifF c21d).trans ((bifF c28).trans ((bifF c55).trans (bifT c69)))))))))).symm)
          ·
           have c69n := c69
           try simp only [Bool.and_eq_true, Bool.or_eq_true, decide_eq_true_eq, Bool.true_and, Bool.not_eq_true', Bool.not_eq_false', beq_iff_eq, bne_iff_ne, decide_eq_false_iff_not, beq_eq_false_iff_ne, bne_eq_false_iff_eq, ne_eq, Bool.or_eq_false_iff, Bool.and_eq_false_iff] at c69n
           refine SC.seq (fun K33 hK33 => SC.region ?_)
           refine SL.step (PS.eql rfl tt rfl tt rfl rfl) ?_
           refine SL.step (PS.assign rfl tt rfl rfl) ?_
           refine SL.keep (l' := [(75, _, _), (0, _, _), (1, _, _)]) ⟨rfl, rfl, rfl, trivial⟩ ?_
           refine SL.nil (SE.thenK hK33 ?_)
           refine SC.cond rfl (fun c75 => ?_) (fun c75 => ?_)
           ·
            have c75n := c75
            try simp only [Bool.and_eq_true, Bool.or_eq_true, decide_eq_true_eq, Bool.true_and, Bool.not_eq_true', Bool.not_eq_false', beq_iff_eq, bne_iff_ne, decide_eq_false_iff_not, beq_eq_false_iff_ne, bne_eq_false_iff_eq, ne_eq, Bool.or_eq_false_iff, Bool.and_eq_false_iff] at c75n
            refine SC.seq (fun K34 hK34 => SC.region ?_)
            refine SL.step (PS.move rfl tt rfl rfl) ?_
            refine SL.step (PS.move rfl tt rfl rfl) ?_
            refine SL.callV (vs := [_, _]) Tryd.call22 ⟨⟨_, rfl, tt⟩, ⟨_, rfl, tt⟩, trivial⟩ (fun hg => latheref03_digits_V p0 p1 (by omega) (by omega) (by omega)) rfl rfl ?_
            refine SL.step (PS.assign rfl tt rfl rfl) ?_
            refine SL.keep (l' := [(12, _, _), (0, _, _), (1, _, _)]) ⟨rfl, rfl, rfl, trivial⟩ ?_
            refine SL.nil (SE.thenK hK34 (SC.seq (fun K35 hK35 => SC.region ?_)))
            refine SL.step (PS.move rfl tt rfl rfl) ?_
            refine SL.step (PS.move rfl tt rfl rfl) ?_
            refine SL.step (PS.move rfl tt rfl rfl) ?_
            refine SL.step (PS.move rfl tt rfl rfl) ?_
            refine SL.step (PS.add_in rfl tt rfl tt (fun _ => wr_i64 (by omega)) rfl rfl) ?_
            refine SL.step (PS.sliceStr rfl tt rfl tt rfl tt Tryd.underlying9 (fun hg => by first | omega | (simp only [List.length_cons, List.length_nil]; omega) | (try simp only [Bool.and_eq_true, Bool.or_eq_true, decide_eq_true_eq, Bool.true_and, Bool.not_eq_true', beq_iff_eq, bne_iff_ne, decide_eq_false_iff_not, beq_eq_false_iff_ne, ne_eq] at hg; omega)) rfl rfl) ?_
            refine SL.callV (vs := [_]) Tryd.call23 ⟨⟨_, rfl, tt⟩, trivial⟩ (fun hg => latheref03_Number_V (p0.extract (Int.toNat p1) (Int.toNat (p1 + (d_latheref03_digits p0 p1)))) ) rfl rfl ?_
            refine SL.step (PS.move rfl tt rfl rfl) ?_
            refine SL.step (PS.extract rfl tt rfl rfl rfl) ?_
            refine SL.step (PS.extract rfl tt rfl rfl rfl) ?_
            refine SL.step (PS.assign rfl tt rfl rfl) ?_
            refine SL.step (PS.assign rfl tt rfl rfl) ?_
            refine SL.keep (l' := [(14, _, _), (12, _, _), (1, _, _)]) ⟨rfl, rfl, rfl, trivial⟩ ?_
            refine SL.nil (SE.thenK hK35 (SC.seq (fun K36 hK36 => SC.seq (fun K37 hK37 => SC.region ?_))))
            refine SL.step (PS.move rfl tt rfl rfl) ?_
            refine SL.step (PS.not rfl tt rfl rfl) ?_
            refine SL.keep (l' := [(91, _, _), (12, _, _), (1, _, _)]) ⟨rfl, rfl, rfl, trivial⟩ ?_
            refine SL.nil (SE.thenK hK37 ?_)
            refine SC.cond rfl (fun c91 => ?_) (fun c91 => ?_)
            ·
             refine SC.seq (fun K38 hK38 => SC.region ?_)
             refine SL.step (PS.assign rfl tt rfl rfl) ?_
             refine SL.step (PS.assign rfl tt rfl rfl) ?_
             refine SL.step (PS.assign rfl tt rfl rfl) ?_
             refine SL.step (PS.assign rfl tt rfl rfl) ?_
             refine SL.keep (l' := [(7, _, _), (6, _, _), (5, _, _), (4, _, _)]) ⟨rfl, rfl, rfl, rfl, trivial⟩ ?_
             refine SL.nil (SE.thenK hK38 (SC.ret (SE.then_ret (SE.block_ret (SE.then_ret ?_)))))
             exact finV4 rfl rfl rfl rfl rfl (fun _ _ => congrArg (fun z : Int × Int × Int × Int => Value.tuple #[Value.int .i64 z.1, Value.int .i64 z.2.1, Value.int .i64 z.2.2.1, Value.int .i64 z.2.2.2]) (show (d_latheref03_piece p0 p1) = ((0, 0, 0, 2) : Int × Int × Int × Int) from ((bifF c18).trans ((bifF c21).trans ((bifF c21a).trans ((bifF c21b).trans ((bifF c21c).trans ((bifF c21d).trans ((bifF c28).trans ((bifF c55).trans ((bifF c69).trans ((bifT c75).trans (bifT c91)))))))))))).symm)
            ·
             refine SC.skip (SE.thenK hK36 (SC.seq (fun K39 hK39 => SC.region ?_)))
             refine SL.step (PS.move rfl tt rfl rfl) ?_
             refine SL.step (PS.move rfl tt rfl rfl) ?_
             refine SL.step (PS.assign rfl tt rfl rfl) ?_
             refine SL.step (PS.assign rfl tt rfl rfl) ?_
             refine SL.step (PS.assign rfl tt rfl rfl) ?_
             refine SL.step (PS.assign rfl tt rfl rfl) ?_
             refine SL.keep (l' := [(7, _, _), (6, _, _), (5, _, _), (4, _, _)]) ⟨rfl, rfl, rfl, rfl, trivial⟩ ?_
             refine SL.nil (SE.thenK hK39 (SC.ret (SE.block_ret (SE.then_ret ?_))))
             exact finV4 rfl rfl rfl rfl rfl (fun _ _ => congrArg (fun z : Int × Int × Int × Int => Value.tuple #[Value.int .i64 z.1, Value.int .i64 z.2.1, Value.int .i64 z.2.2.1, Value.int .i64 z.2.2.2]) (show (d_latheref03_piece p0 p1) = ((2, p1, (d_latheref03_digits p0 p1), 0) : Int × Int × Int × Int) from ((bifF c18).trans ((bifF c21).trans ((bifF c21a).trans ((bifF c21b).trans ((bifF c21c).trans ((bifF c21d).trans ((bifF c28).trans ((bifF c55).trans ((bifF c69).trans ((bifT c75).trans (bifF c91)))))))))))).symm)
           ·
            refine SC.skip (SE.block_normal (SE.thenK hK29 (SC.seq (fun K40 hK40 => SC.region ?_))))
            refine SL.step (PS.assign rfl tt rfl rfl) ?_
            refine SL.step (PS.assign rfl tt rfl rfl) ?_
            refine SL.step (PS.assign rfl tt rfl rfl) ?_
            refine SL.step (PS.assign rfl tt rfl rfl) ?_
            refine SL.keep (l' := [(7, _, _), (6, _, _), (5, _, _), (4, _, _)]) ⟨rfl, rfl, rfl, rfl, trivial⟩ ?_
            refine SL.nil (SE.thenK hK40 (SC.ret ?_))
            exact finV4 rfl rfl rfl rfl rfl (fun _ _ => congrArg (fun z : Int × Int × Int × Int => Value.tuple #[Value.int .i64 z.1, Value.int .i64 z.2.1, Value.int .i64 z.2.2.1, Value.int .i64 z.2.2.2]) (show (d_latheref03_piece p0 p1) = ((0, 0, 0, 1) : Int × Int × Int × Int) from ((bifF c18).trans ((bifF c21).trans ((bifF c21a).trans ((bifF c21b).trans ((bifF c21c).trans ((bifF c21d).trans ((bifF c28).trans ((bifF c55).trans ((bifF c69).trans (bifF c75))))))))))).symm)
theorem cond_ind {α : Type} {P : α → Prop} {c : Bool} {a b : α} (ha : c = true → P a) (hb : c = false → P b) : P (bif c then a else b) := by
  cases c
  · exact hb rfl
  · exact ha rfl
/-- What a piece's numbers keep to. -/
def PcOk (s : ByteArray) (i : Int) (r : Int × Int × Int × Int) : Prop :=
  r.2.2.2 = 0 → i ≤ r.2.1 ∧ 0 ≤ r.2.2.1 ∧ r.2.1 + r.2.2.1 ≤ s.size ∧ (r.1 = 6 → r.2.1 = i ∧ r.2.2.1 = 0) ∧ (r.1 ≠ 6 → i < r.2.1 + r.2.2.1)
theorem piece_rg {s : ByteArray} {i : Int} (h0 : 0 ≤ i) (h1 : i < s.size) : PcOk s i (d_latheref03_piece s i) := by
  have hd1 := digits_rg (s := s) (i := i + 1) (by omega)
  have hd0 := digits_rg (s := s) (i := i) (by omega)
  have hw1 := word_rg (s := s) (i := i + 1) (by omega)
  have hw0 := word_rg (s := s) (i := i) (by omega)
  have six : ∀ x y z e : Int, x ≠ 6 → (e = 0 → i ≤ y ∧ 0 ≤ z ∧ y + z ≤ s.size ∧ i < y + z) → PcOk s i (x, y, z, e) := fun x y z e hx h he => ⟨(h he).1, (h he).2.1, (h he).2.2.1, fun q => absurd q hx, fun _ => (h he).2.2.2⟩
  unfold d_latheref03_piece
  refine cond_ind (P := PcOk s i) (fun _ => fun _ => ⟨Int.le_refl _, Int.le_refl _, by show i + 0 ≤ _; omega, fun _ => ⟨rfl, rfl⟩, fun h => absurd rfl h⟩) (fun _ => ?_)
  iterate 5 refine cond_ind (P := PcOk s i) (fun _ => six _ _ _ _ (by decide) (fun _ => by omega)) (fun _ => ?_)
  refine cond_ind (P := PcOk s i) (fun _ => cond_ind (P := PcOk s i) (fun _ => six _ _ _ _ (by decide) (fun h => absurd h (by decide))) (fun _ => six _ _ _ _ (by decide) (fun _ => by omega))) (fun _ => ?_)
  refine cond_ind (P := PcOk s i) (fun _ => cond_ind (P := PcOk s i) (fun _ => six _ _ _ _ (by decide) (fun h => absurd h (by decide))) (fun _ => six _ _ _ _ (by decide) (fun _ => by omega))) (fun _ => ?_)
  refine cond_ind (P := PcOk s i) (fun h => ?_) (fun _ => ?_)
  · have := word_pos (s := s) (i := i) (by simpa using h)
    exact six _ _ _ _ (by decide) (fun _ => by omega)
  refine cond_ind (P := PcOk s i) (fun h => ?_) (fun _ => six _ _ _ _ (by decide) (fun h => absurd h (by decide)))
  have := digits_pos (s := s) (i := i) (by simpa using h)
  exact cond_ind (P := PcOk s i) (fun _ => six _ _ _ _ (by decide) (fun h => absurd h (by decide))) (fun _ => six _ _ _ _ (by decide) (fun _ => by omega))
theorem ext_ok {s : ByteArray} {a b : Nat} {w : World} (h : s.size ≤ 9223372036854775807) : Dat.ok (s.extract a b) w := by
  show (s.extract a b).size ≤ maxLen
  rw [ByteArray.size_extract]
  have : maxLen = 9223372036854775807 := rfl
  omega
end Go.Proofs.YtjdiohhniiooeaaDoor
