/- Layer 3's small functions: what their code computes. -/
import Derived.Test.YtjdiohhniiooeaaDoorAut
import Derived.Test.YtjdiohhniiooeaaDoorStr
import Derived.Test.YtjdiohhniiooeaaDoorTy
namespace Go.Proofs.YtjdiohhniiooeaaDoor
open Go.RowKit
set_option linter.unusedVariables false
set_option linter.unusedSimpArgs false
set_option maxRecDepth 100000
set_option maxHeartbeats 4000000
structure Tok where
  k : Int
  text : ByteArray
  line : Int
  col : Int
  deriving DecidableEq
structure Tok.Ok (x : Tok) (w : World) : Prop where
  text : Dat.ok x.text w
instance : Dat Tok := ⟨fun x => [.int .i64 x.k, .string x.text, .int .i64 x.line, .int .i64 x.col], 4, fun _ => rfl, fun _ => rfl, Tok.Ok, ⟨0, ByteArray.empty, 0, 0⟩⟩
theorem Tok_eql (x y : Operand) (u v : Tok) (w : World) : (do eqGuard .eql 31 x y (.agg ([.int .i64 u.k, .string u.text, .int .i64 u.line, .int .i64 u.col] : List Value).toArray) (.agg ([.int .i64 v.k, .string v.text, .int .i64 v.line, .int .i64 v.col] : List Value).toArray); binOp .eql 31 (.agg ([.int .i64 u.k, .string u.text, .int .i64 u.line, .int .i64 u.col] : List Value).toArray) (.agg ([.int .i64 v.k, .string v.text, .int .i64 v.line, .int .i64 v.col] : List Value).toArray)).run Tryd.prog w = .ok (.bool (decide (u = v))) w := by
  have e : decide (u = v) = (u.k == v.k && (strEq u.text v.text && (u.line == v.line && (u.col == v.col)))) := by
    cases u; cases v; rw [Bool.eq_iff_iff]; simp [strEq_iff]
  rw [e]
  simp [go_sem, strEq]
  repeat' split
  all_goals simp_all
theorem Tok_nql (x y : Operand) (u v : Tok) (w : World) : (do eqGuard .neq 31 x y (.agg ([.int .i64 u.k, .string u.text, .int .i64 u.line, .int .i64 u.col] : List Value).toArray) (.agg ([.int .i64 v.k, .string v.text, .int .i64 v.line, .int .i64 v.col] : List Value).toArray); binOp .neq 31 (.agg ([.int .i64 u.k, .string u.text, .int .i64 u.line, .int .i64 u.col] : List Value).toArray) (.agg ([.int .i64 v.k, .string v.text, .int .i64 v.line, .int .i64 v.col] : List Value).toArray)).run Tryd.prog w = .ok (.bool (!decide (u = v))) w := by
  have e : decide (u = v) = (u.k == v.k && (strEq u.text v.text && (u.line == v.line && (u.col == v.col)))) := by
    cases u; cases v; rw [Bool.eq_iff_iff]; simp [strEq_iff]
  rw [e]
  simp [go_sem, strEq]
  repeat' split
  all_goals simp_all
structure Flt where
  code : Int
  line : Int
  col : Int
  deriving DecidableEq
instance : Dat Flt := ⟨fun x => [.int .i64 x.code, .int .i64 x.line, .int .i64 x.col], 3, fun _ => rfl, fun _ => rfl, fun _ _ => True, ⟨0, 0, 0⟩⟩
theorem Flt_eql (x y : Operand) (u v : Flt) (w : World) : (do eqGuard .eql 26 x y (.agg ([.int .i64 u.code, .int .i64 u.line, .int .i64 u.col] : List Value).toArray) (.agg ([.int .i64 v.code, .int .i64 v.line, .int .i64 v.col] : List Value).toArray); binOp .eql 26 (.agg ([.int .i64 u.code, .int .i64 u.line, .int .i64 u.col] : List Value).toArray) (.agg ([.int .i64 v.code, .int .i64 v.line, .int .i64 v.col] : List Value).toArray)).run Tryd.prog w = .ok (.bool (decide (u = v))) w := by
  have e : decide (u = v) = (u.code == v.code && (u.line == v.line && (u.col == v.col))) := by
    cases u; cases v; rw [Bool.eq_iff_iff]; simp
  rw [e]
  simp [go_sem]
  repeat' split
  all_goals simp_all
theorem Flt_nql (x y : Operand) (u v : Flt) (w : World) : (do eqGuard .neq 26 x y (.agg ([.int .i64 u.code, .int .i64 u.line, .int .i64 u.col] : List Value).toArray) (.agg ([.int .i64 v.code, .int .i64 v.line, .int .i64 v.col] : List Value).toArray); binOp .neq 26 (.agg ([.int .i64 u.code, .int .i64 u.line, .int .i64 u.col] : List Value).toArray) (.agg ([.int .i64 v.code, .int .i64 v.line, .int .i64 v.col] : List Value).toArray)).run Tryd.prog w = .ok (.bool (!decide (u = v))) w := by
  have e : decide (u = v) = (u.code == v.code && (u.line == v.line && (u.col == v.col))) := by
    cases u; cases v; rw [Bool.eq_iff_iff]; simp
  rw [e]
  simp [go_sem]
  repeat' split
  all_goals simp_all
def d_lex_letter (p0 : Int) : Bool :=
  (((decide (97 ≤ p0)) && (decide (p0 ≤ 122))) || (p0 == 95))
theorem lex_letter_V (p0 : Int)  : SpecV Tryd.prog 17 [.int .u8 p0] (Value.bool (d_lex_letter p0)) := by
  refine SpecV.enter Tryd.func17 rfl (n := 13) Tryd.ntmps17 (Nat.le_of_ble_eq_true rfl) (l := [(0, _, _)]) rfl ?_
  intro w
  refine SC.seq (fun K1 hK1 => SC.region ?_)
  refine SL.step (PS.assign rfl tt rfl rfl) ?_
  refine SL.keep (l' := [(0, _, _)]) ⟨rfl, trivial⟩ ?_
  refine SL.nil (SE.thenK hK1 (SC.seq (fun K2 hK2 => SC.region ?_)))
  refine SL.step (PS.move rfl tt rfl rfl) ?_
  refine SL.step (PS.geq rfl tt rfl tt rfl rfl) ?_
  refine SL.step (PS.move rfl tt rfl rfl) ?_
  refine SL.step (PS.move rfl tt rfl rfl) ?_
  refine SL.step (PS.leq rfl (fun h => h) rfl tt rfl rfl) ?_
  refine SL.step (PS.pick_and rfl tt rfl (fun h h2 => pk_and h h2) rfl rfl) ?_
  refine SL.step (PS.move rfl tt rfl rfl) ?_
  refine SL.step (PS.move rfl tt rfl rfl) ?_
  refine SL.step (PS.eql rfl (fun h => h) rfl tt rfl rfl) ?_
  refine SL.step (PS.pick_or rfl tt rfl (fun h h2 => pk_or h h2) rfl rfl) ?_
  refine SL.step (PS.assign rfl tt rfl rfl) ?_
  refine SL.keep (l' := [(2, _, _)]) ⟨rfl, trivial⟩ ?_
  refine SL.nil (SE.thenK hK2 (SC.ret ?_))
  exact finV1 rfl rfl (fun _ _ => congrArg (fun z : Bool => Value.bool z) (show (d_lex_letter p0) = ((((decide (97 ≤ p0)) && (decide (p0 ≤ 122))) || (p0 == 95)) : Bool) from rfl).symm)
def d_lex_digit (p0 : Int) : Bool :=
  ((decide (48 ≤ p0)) && (decide (p0 ≤ 57)))
theorem lex_digit_V (p0 : Int)  : SpecV Tryd.prog 20 [.int .u8 p0] (Value.bool (d_lex_digit p0)) := by
  refine SpecV.enter Tryd.func20 rfl (n := 9) Tryd.ntmps20 (Nat.le_of_ble_eq_true rfl) (l := [(0, _, _)]) rfl ?_
  intro w
  refine SC.seq (fun K1 hK1 => SC.region ?_)
  refine SL.step (PS.assign rfl tt rfl rfl) ?_
  refine SL.keep (l' := [(0, _, _)]) ⟨rfl, trivial⟩ ?_
  refine SL.nil (SE.thenK hK1 (SC.seq (fun K2 hK2 => SC.region ?_)))
  refine SL.step (PS.move rfl tt rfl rfl) ?_
  refine SL.step (PS.geq rfl tt rfl tt rfl rfl) ?_
  refine SL.step (PS.move rfl tt rfl rfl) ?_
  refine SL.step (PS.move rfl tt rfl rfl) ?_
  refine SL.step (PS.leq rfl (fun h => h) rfl tt rfl rfl) ?_
  refine SL.step (PS.pick_and rfl tt rfl (fun h h2 => pk_and h h2) rfl rfl) ?_
  refine SL.step (PS.assign rfl tt rfl rfl) ?_
  refine SL.keep (l' := [(2, _, _)]) ⟨rfl, trivial⟩ ?_
  refine SL.nil (SE.thenK hK2 (SC.ret ?_))
  exact finV1 rfl rfl (fun _ _ => congrArg (fun z : Bool => Value.bool z) (show (d_lex_digit p0) = (((decide (48 ≤ p0)) && (decide (p0 ≤ 57))) : Bool) from rfl).symm)
def d_lex_behind_R1 (p0 : ByteArray) : Nat → Int → Int
  | 0, x1 => x1
  | k + 1, x1 =>
   bif ((decide (x1 < (p0.size : Int))) && ((d_lex_letter (byteAt p0 x1)) || (d_lex_digit (byteAt p0 x1)))) then
    d_lex_behind_R1 p0 k (x1 + 1)
   else x1
def d_lex_behind (p0 : ByteArray) (p1 : Int) : Int :=
  letV (d_lex_behind_R1 p0 (((p0.size : Int) - p1).toNat + 1) p1) (fun x1e => x1e)
theorem lex_behind_V (p0 : ByteArray) (p1 : Int) (h0 : 0 ≤ p1 ∧ p1 ≤ p0.size) (h1 : p0.size ≤ 9223372036854775807) : SpecV Tryd.prog 18 [.string p0, .int .i64 p1] (Value.int .i64 (d_lex_behind p0 p1)) := by
  refine SpecV.enter Tryd.func18 rfl (n := 24) Tryd.ntmps18 (Nat.le_of_ble_eq_true rfl) (l := [(0, _, _), (1, _, _)]) rfl ?_
  intro w
  refine SC.seq (fun K1 hK1 => SC.region ?_)
  refine SL.step (PS.assign rfl tt rfl rfl) ?_
  refine SL.keep (l' := [(0, _, _), (1, _, _)]) ⟨rfl, rfl, trivial⟩ ?_
  refine SL.nil (SE.thenK hK1 (SC.seq (fun K2 hK2 => SC.block ?_)))
  refine SC.loopF (fun ((k1, x1) : Nat × Int) => [(0, true, .string p0), (1, true, .int .i64 x1)]) (fun ((k1, x1) : Nat × Int) => []) (fun ((k1, x1) : Nat × Int) w => ((d_lex_behind_R1 p0 k1 x1 = d_lex_behind_R1 p0 (((p0.size : Int) - p1).toNat + 1) p1) ∧ (((p0.size : Int) - x1).toNat < k1) ∧ (0 ≤ x1) ∧ (x1 ≤ p0.size)) ∧ (True)) (fun q => q.1) (((p0.size : Int) - p1).toNat + 1, p1) ⟨rfl, rfl, trivial⟩ rfl (fun w h => ⟨⟨rfl, Nat.lt_succ_self _, by omega, by omega⟩, trivial⟩) (fun q => ?_)
  obtain ⟨k1, x1⟩ := q
  dsimp only
  refine SC.know (fun w h => h.2.1) (fun hp => ?_)
  obtain ⟨hL1, hm1, hi1_0, hi1_1⟩ := hp
  obtain ⟨k1p, rfl⟩ : ∃ j, k1 = j + 1 := ⟨k1 - 1, by omega⟩
  refine SC.seq (fun K3 hK3 => SC.seq (fun K4 hK4 => SC.region ?_))
  refine SL.step (PS.move rfl tt rfl rfl) ?_
  refine SL.step (PS.move rfl tt rfl rfl) ?_
  refine SL.step (PS.len_string rfl tt Tryd.underlying9 rfl rfl) ?_
  refine SL.step (PS.lss rfl tt rfl tt rfl rfl) ?_
  refine SL.step (PS.move rfl tt rfl rfl) ?_
  refine SL.step (PS.move rfl tt rfl rfl) ?_
  refine SL.step (PS.move rfl tt rfl rfl) ?_
  refine SL.step (PS.indexStr rfl (fun h => h) rfl (fun h => h) Tryd.underlying9 (fun hg => by first | omega | (simp only [List.length_cons, List.length_nil]; omega) | (try simp only [Bool.and_eq_true, Bool.or_eq_true, decide_eq_true_eq, Bool.true_and, Bool.not_eq_true', beq_iff_eq, bne_iff_ne, decide_eq_false_iff_not, beq_eq_false_iff_ne, ne_eq] at hg; omega)) rfl rfl) ?_
  refine SL.callV (vs := [_]) Tryd.call17 ⟨⟨_, rfl, (fun h => h)⟩, trivial⟩ (fun hg => lex_letter_V (byteAt p0 x1) ) rfl rfl ?_
  refine SL.step (PS.move rfl (fun h => h) rfl rfl) ?_
  refine SL.step (PS.move rfl tt rfl rfl) ?_
  refine SL.step (PS.move rfl tt rfl rfl) ?_
  refine SL.step (PS.indexStr rfl (fun h => h) rfl (fun h => h) Tryd.underlying9 (fun hg => by first | omega | (simp only [List.length_cons, List.length_nil]; omega) | (try simp only [Bool.and_eq_true, Bool.or_eq_true, decide_eq_true_eq, Bool.true_and, Bool.not_eq_true', beq_iff_eq, bne_iff_ne, decide_eq_false_iff_not, beq_eq_false_iff_ne, ne_eq] at hg; omega)) rfl rfl) ?_
  refine SL.callV (vs := [_]) Tryd.call20 ⟨⟨_, rfl, (fun h => h)⟩, trivial⟩ (fun hg => lex_digit_V (byteAt p0 x1) ) rfl rfl ?_
  refine SL.step (PS.pick_or rfl (fun h => h) rfl (fun h h2 => pk_or h h2) rfl rfl) ?_
  refine SL.step (PS.pick_and rfl tt rfl (fun h h2 => pk_and h h2) rfl rfl) ?_
  refine SL.keep (l' := [(20, _, _), (0, _, _), (1, _, _)]) ⟨rfl, rfl, rfl, trivial⟩ ?_
  refine SL.nil (SE.thenK hK4 ?_)
  refine SC.cond rfl (fun c20 => ?_) (fun c20 => ?_)
  ·
   have c20n := c20
   try simp only [Bool.and_eq_true, Bool.or_eq_true, decide_eq_true_eq, Bool.true_and, Bool.not_eq_true', Bool.not_eq_false', beq_iff_eq, bne_iff_ne, decide_eq_false_iff_not, beq_eq_false_iff_ne, bne_eq_false_iff_eq, ne_eq, Bool.or_eq_false_iff, Bool.and_eq_false_iff] at c20n
   refine SC.skip (SE.thenK hK3 (SC.block (SC.region ?_)))
   refine SL.step (PS.move rfl tt rfl rfl) ?_
   refine SL.step (PS.add_in rfl tt rfl tt (fun _ => wr_i64 (by omega)) rfl rfl) ?_
   refine SL.step (PS.assign rfl tt rfl rfl) ?_
   refine SL.keep (l' := [(1, _, _), (0, _, _)]) ⟨rfl, rfl, trivial⟩ ?_
   refine SL.nil (SE.block_normal ?_)
   exact SE.againF (k1p, (x1 + 1)) ⟨rfl, rfl, trivial⟩ rfl (fun w h => And.intro (h.1) (And.intro ⟨((show d_lex_behind_R1 p0 (k1p + 1) x1 = d_lex_behind_R1 p0 k1p (x1 + 1) from (bifT c20)).symm.trans hL1), by (try dsimp only); omega, by (try dsimp only); omega, by (try dsimp only); omega⟩ (trivial))) (Nat.lt_succ_self _)
  ·
   refine SC.exit (SE.then_exit (SE.then_exit (SE.block_same (SE.thenK hK2 (SC.seq (fun K5 hK5 => SC.region ?_))))))
   refine SL.step (PS.move rfl tt rfl rfl) ?_
   refine SL.step (PS.assign rfl tt rfl rfl) ?_
   refine SL.keep (l' := [(4, _, _)]) ⟨rfl, trivial⟩ ?_
   refine SL.nil (SE.thenK hK5 (SC.ret ?_))
   exact finV1 rfl rfl (fun _ _ => congrArg (fun z : Int => Value.int .i64 z) (show (d_lex_behind p0 p1) = (x1 : Int) from (letV_eq (hL1.symm.trans (show d_lex_behind_R1 p0 (k1p + 1) x1 = x1 from (bifF c20))))).symm)
def d_lex_digits_R1 (p0 : ByteArray) : Nat → Int → Int
  | 0, x1 => x1
  | k + 1, x1 =>
   bif ((decide (x1 < (p0.size : Int))) && (d_lex_digit (byteAt p0 x1))) then
    d_lex_digits_R1 p0 k (x1 + 1)
   else x1
def d_lex_digits (p0 : ByteArray) (p1 : Int) : Int :=
  letV (d_lex_digits_R1 p0 (((p0.size : Int) - p1).toNat + 1) p1) (fun x1e => x1e)
theorem lex_digits_V (p0 : ByteArray) (p1 : Int) (h0 : 0 ≤ p1 ∧ p1 ≤ p0.size) (h1 : p0.size ≤ 9223372036854775807) : SpecV Tryd.prog 25 [.string p0, .int .i64 p1] (Value.int .i64 (d_lex_digits p0 p1)) := by
  refine SpecV.enter Tryd.func25 rfl (n := 18) Tryd.ntmps25 (Nat.le_of_ble_eq_true rfl) (l := [(0, _, _), (1, _, _)]) rfl ?_
  intro w
  refine SC.seq (fun K1 hK1 => SC.region ?_)
  refine SL.step (PS.assign rfl tt rfl rfl) ?_
  refine SL.keep (l' := [(0, _, _), (1, _, _)]) ⟨rfl, rfl, trivial⟩ ?_
  refine SL.nil (SE.thenK hK1 (SC.seq (fun K2 hK2 => SC.block ?_)))
  refine SC.loopF (fun ((k1, x1) : Nat × Int) => [(0, true, .string p0), (1, true, .int .i64 x1)]) (fun ((k1, x1) : Nat × Int) => []) (fun ((k1, x1) : Nat × Int) w => ((d_lex_digits_R1 p0 k1 x1 = d_lex_digits_R1 p0 (((p0.size : Int) - p1).toNat + 1) p1) ∧ (((p0.size : Int) - x1).toNat < k1) ∧ (0 ≤ x1) ∧ (x1 ≤ p0.size)) ∧ (True)) (fun q => q.1) (((p0.size : Int) - p1).toNat + 1, p1) ⟨rfl, rfl, trivial⟩ rfl (fun w h => ⟨⟨rfl, Nat.lt_succ_self _, by omega, by omega⟩, trivial⟩) (fun q => ?_)
  obtain ⟨k1, x1⟩ := q
  dsimp only
  refine SC.know (fun w h => h.2.1) (fun hp => ?_)
  obtain ⟨hL1, hm1, hi1_0, hi1_1⟩ := hp
  obtain ⟨k1p, rfl⟩ : ∃ j, k1 = j + 1 := ⟨k1 - 1, by omega⟩
  refine SC.seq (fun K3 hK3 => SC.seq (fun K4 hK4 => SC.region ?_))
  refine SL.step (PS.move rfl tt rfl rfl) ?_
  refine SL.step (PS.move rfl tt rfl rfl) ?_
  refine SL.step (PS.len_string rfl tt Tryd.underlying9 rfl rfl) ?_
  refine SL.step (PS.lss rfl tt rfl tt rfl rfl) ?_
  refine SL.step (PS.move rfl tt rfl rfl) ?_
  refine SL.step (PS.move rfl tt rfl rfl) ?_
  refine SL.step (PS.move rfl tt rfl rfl) ?_
  refine SL.step (PS.indexStr rfl (fun h => h) rfl (fun h => h) Tryd.underlying9 (fun hg => by first | omega | (simp only [List.length_cons, List.length_nil]; omega) | (try simp only [Bool.and_eq_true, Bool.or_eq_true, decide_eq_true_eq, Bool.true_and, Bool.not_eq_true', beq_iff_eq, bne_iff_ne, decide_eq_false_iff_not, beq_eq_false_iff_ne, ne_eq] at hg; omega)) rfl rfl) ?_
  refine SL.callV (vs := [_]) Tryd.call20 ⟨⟨_, rfl, (fun h => h)⟩, trivial⟩ (fun hg => lex_digit_V (byteAt p0 x1) ) rfl rfl ?_
  refine SL.step (PS.pick_and rfl tt rfl (fun h h2 => pk_and h h2) rfl rfl) ?_
  refine SL.keep (l' := [(14, _, _), (0, _, _), (1, _, _)]) ⟨rfl, rfl, rfl, trivial⟩ ?_
  refine SL.nil (SE.thenK hK4 ?_)
  refine SC.cond rfl (fun c14 => ?_) (fun c14 => ?_)
  ·
   have c14n := c14
   try simp only [Bool.and_eq_true, Bool.or_eq_true, decide_eq_true_eq, Bool.true_and, Bool.not_eq_true', Bool.not_eq_false', beq_iff_eq, bne_iff_ne, decide_eq_false_iff_not, beq_eq_false_iff_ne, bne_eq_false_iff_eq, ne_eq, Bool.or_eq_false_iff, Bool.and_eq_false_iff] at c14n
   refine SC.skip (SE.thenK hK3 (SC.block (SC.region ?_)))
   refine SL.step (PS.move rfl tt rfl rfl) ?_
   refine SL.step (PS.add_in rfl tt rfl tt (fun _ => wr_i64 (by omega)) rfl rfl) ?_
   refine SL.step (PS.assign rfl tt rfl rfl) ?_
   refine SL.keep (l' := [(1, _, _), (0, _, _)]) ⟨rfl, rfl, trivial⟩ ?_
   refine SL.nil (SE.block_normal ?_)
   exact SE.againF (k1p, (x1 + 1)) ⟨rfl, rfl, trivial⟩ rfl (fun w h => And.intro (h.1) (And.intro ⟨((show d_lex_digits_R1 p0 (k1p + 1) x1 = d_lex_digits_R1 p0 k1p (x1 + 1) from (bifT c14)).symm.trans hL1), by (try dsimp only); omega, by (try dsimp only); omega, by (try dsimp only); omega⟩ (trivial))) (Nat.lt_succ_self _)
  ·
   refine SC.exit (SE.then_exit (SE.then_exit (SE.block_same (SE.thenK hK2 (SC.seq (fun K5 hK5 => SC.region ?_))))))
   refine SL.step (PS.move rfl tt rfl rfl) ?_
   refine SL.step (PS.assign rfl tt rfl rfl) ?_
   refine SL.keep (l' := [(4, _, _)]) ⟨rfl, trivial⟩ ?_
   refine SL.nil (SE.thenK hK5 (SC.ret ?_))
   exact finV1 rfl rfl (fun _ _ => congrArg (fun z : Int => Value.int .i64 z) (show (d_lex_digits p0 p1) = (x1 : Int) from (letV_eq (hL1.symm.trans (show d_lex_digits_R1 p0 (k1p + 1) x1 = x1 from (bifF c14))))).symm)
def d_lex_Word (p0 : ByteArray) : Bool :=
  (((!strEq p0 (⟨#[]⟩ : ByteArray)) && (d_lex_letter (byteAt p0 0))) && ((d_lex_behind p0 0) == (p0.size : Int)))
theorem lex_Word_V (p0 : ByteArray) (h1 : p0.size ≤ 9223372036854775807) : SpecV Tryd.prog 12 [.string p0] (Value.bool (d_lex_Word p0)) := by
  refine SpecV.enter Tryd.func12 rfl (n := 17) Tryd.ntmps12 (Nat.le_of_ble_eq_true rfl) (l := [(0, _, _)]) rfl ?_
  intro w
  refine SC.seq (fun K1 hK1 => SC.region ?_)
  refine SL.step (PS.assign rfl tt rfl rfl) ?_
  refine SL.keep (l' := [(0, _, _)]) ⟨rfl, trivial⟩ ?_
  refine SL.nil (SE.thenK hK1 (SC.seq (fun K2 hK2 => SC.region ?_)))
  refine SL.step (PS.move rfl tt rfl rfl) ?_
  refine SL.step (PS.neqS rfl tt rfl tt rfl rfl) ?_
  refine SL.step (PS.move rfl tt rfl rfl) ?_
  refine SL.step (PS.move rfl tt rfl rfl) ?_
  refine SL.step (PS.indexStr rfl (fun h => h) rfl tt Tryd.underlying9 (fun hg => by have := strNe_pos (s := p0) (by simpa using hg); omega) rfl rfl) ?_
  refine SL.callV (vs := [_]) Tryd.call17 ⟨⟨_, rfl, (fun h => h)⟩, trivial⟩ (fun hg => lex_letter_V (byteAt p0 0) ) rfl rfl ?_
  refine SL.step (PS.pick_and rfl tt rfl (fun h h2 => pk_and h h2) rfl rfl) ?_
  refine SL.step (PS.move rfl tt rfl rfl) ?_
  refine SL.step (PS.move rfl tt rfl rfl) ?_
  refine SL.callV (vs := [_, _]) Tryd.call18 ⟨⟨_, rfl, (fun h => h)⟩, ⟨_, rfl, tt⟩, trivial⟩ (fun hg => lex_behind_V p0 0 (by omega) (by omega)) rfl rfl ?_
  refine SL.step (PS.move rfl tt rfl rfl) ?_
  refine SL.step (PS.len_string rfl (fun h => h) Tryd.underlying9 rfl rfl) ?_
  refine SL.step (PS.eql rfl (fun h => h) rfl (fun h => h) rfl rfl) ?_
  refine SL.step (PS.pick_and rfl tt rfl (fun h h2 => pk_and h h2) rfl rfl) ?_
  refine SL.step (PS.assign rfl tt rfl rfl) ?_
  refine SL.keep (l' := [(2, _, _)]) ⟨rfl, trivial⟩ ?_
  refine SL.nil (SE.thenK hK2 (SC.ret ?_))
  exact finV1 rfl rfl (fun _ _ => congrArg (fun z : Bool => Value.bool z) (show (d_lex_Word p0) = ((((!strEq p0 (⟨#[]⟩ : ByteArray)) && (d_lex_letter (byteAt p0 0))) && ((d_lex_behind p0 0) == (p0.size : Int))) : Bool) from rfl).symm)
end Go.Proofs.YtjdiohhniiooeaaDoor
