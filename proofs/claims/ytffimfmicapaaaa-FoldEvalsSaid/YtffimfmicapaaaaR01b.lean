/- The references of layer 1, the rest: what their code computes. -/
import Derived.Test.YtffimfmicapaaaaTyp
import Derived.Test.YtffimfmicapaaaaR01
namespace Go.Proofs.Ytffimfmicapaaaa
open Go.RowKit
set_option linter.unusedVariables false
set_option linter.unusedSimpArgs false
set_option maxRecDepth 100000
set_option maxHeartbeats 4000000
open Pl (Vl)
theorem width_iff (w : Int) : (d_latheref01_width w = true) = (1 ≤ w ∧ w ≤ 64) := by unfold d_latheref01_width; simp
theorem width_not (w : Int) : (d_latheref01_width w = false) = ¬ (1 ≤ w ∧ w ≤ 64) := by unfold d_latheref01_width; simp
instance : Dat Bg := ⟨fun x => [.int .u64 x.hi, .int .u64 x.lo, .bool x.below], 3, fun _ => rfl, fun _ => rfl, fun _ _ => True, ⟨0, 0, false⟩⟩
theorem Bg_eql (x y : Operand) (u v : Bg) (w : World) : (do eqGuard .eql 65 x y (.agg ([.int .u64 u.hi, .int .u64 u.lo, .bool u.below] : List Value).toArray) (.agg ([.int .u64 v.hi, .int .u64 v.lo, .bool v.below] : List Value).toArray); binOp .eql 65 (.agg ([.int .u64 u.hi, .int .u64 u.lo, .bool u.below] : List Value).toArray) (.agg ([.int .u64 v.hi, .int .u64 v.lo, .bool v.below] : List Value).toArray)).run Try.prog w = .ok (.bool (decide (u = v))) w := by
  have e : decide (u = v) = (u.hi == v.hi && (u.lo == v.lo && (u.below == v.below))) := by
    cases u; cases v; rw [Bool.eq_iff_iff]; simp
  rw [e]
  simp [go_sem]
  repeat' split
  all_goals simp_all
def d_latheref01_power_R3 (p0 : Int) : Nat → Int → Int → Int × Int
  | 0, yb3_1, x4 => (yb3_1, x4)
  | k + 1, yb3_1, x4 =>
   bif (decide (x4 < p0)) then
    d_latheref01_power_R3 p0 k (IntKind.u64.wrap (yb3_1 * 2)) (x4 + 1)
   else (yb3_1, x4)
def d_latheref01_power (p0 : Int) : Bg :=
  letV (d_latheref01_power_R3 p0 ((p0 - 0).toNat + 1) 1 0) (fun (yb3_1e, x4e) => (⟨0, yb3_1e, false⟩ : Bg))
theorem latheref01_power_V (p0 : Int) (hp : 0 ≤ p0 ∧ p0 < 64) : SpecV Try.prog 69 [.int .u64 p0] (Value.agg [.int .u64 ((d_latheref01_power p0).hi), .int .u64 ((d_latheref01_power p0).lo), .bool ((d_latheref01_power p0).below)].toArray) := by
  refine SpecV.enter Try.func69 rfl (n := 16) Try.ntmps69 (Nat.le_of_ble_eq_true rfl) (l := [(0, _, _)]) rfl ?_
  intro w
  refine SC.seq (fun K1 hK1 => SC.region ?_)
  refine SL.alloc (cs := [_, _, _]) Try.zeroValue65 rfl rfl rfl (fun b2 => ?_)
  refine SL.nil (SE.thenK hK1 (SC.seq (fun K2 hK2 => SC.region ?_)))
  refine SL.step (PS.build (us := [(1, _)]) (vs := [_, _, _]) ⟨rfl, ⟨_, rfl, tt⟩, trivial⟩ Try.underlying65 Try.zeroValue65 (Try.places_65 Try.underlying65) rfl rfl rfl) ?_
  refine SL.alloc (cs := [_, _, _]) Try.zeroValue65 rfl rfl rfl (fun b3 => ?_)
  refine SL.store_own (k := 0) (own' := [_, _]) (cs' := [_, _, _]) rfl rfl rfl rfl rfl rfl rfl Try.sizeOf65 rfl (Nat.le_of_ble_eq_true rfl) rfl rfl rfl rfl ?_
  refine SL.keep (l' := [(3, _, _), (2, _, _), (0, _, _)]) ⟨rfl, rfl, rfl, trivial⟩ ?_
  refine SL.nil (SE.thenK hK2 (SC.seq (fun K3 hK3 => SC.seq (fun K4 hK4 => SC.region ?_))))
  refine SL.step (PS.assign rfl tt rfl rfl) ?_
  refine SL.nil (SE.thenK hK4 (SC.block ?_))
  refine SC.loopF (fun ((k1, yb3_1, x4) : Nat × Int × Int) => [(4, true, .int .u64 x4), (3, true, .pointer (some ⟨b3, 0, none⟩)), (2, true, .pointer (some ⟨b2, 0, none⟩)), (0, true, .int .u64 p0)]) (fun ((k1, yb3_1, x4) : Nat × Int × Int) => [.blk b3 [.int .u64 0, .int .u64 yb3_1, .bool false], .blk b2 [.int .u64 0, .int .u64 0, .bool false]]) (fun ((k1, yb3_1, x4) : Nat × Int × Int) w => ((d_latheref01_power_R3 p0 k1 yb3_1 x4 = d_latheref01_power_R3 p0 ((p0 - 0).toNat + 1) 1 0) ∧ ((p0 - x4).toNat < k1) ∧ (0 ≤ x4) ∧ (x4 ≤ p0)) ∧ (True)) (fun q => q.1) ((p0 - 0).toNat + 1, 1, 0) ⟨rfl, rfl, rfl, rfl, trivial⟩ rfl (fun w h => ⟨⟨rfl, Nat.lt_succ_self _, by omega, by omega⟩, trivial⟩) (fun q => ?_)
  obtain ⟨k1, yb3_1, x4⟩ := q
  dsimp only
  refine SC.know (fun w h => h.2.1) (fun hp => ?_)
  obtain ⟨hL1, hm1, hi1_0, hi1_1⟩ := hp
  obtain ⟨k1p, rfl⟩ : ∃ j, k1 = j + 1 := ⟨k1 - 1, by omega⟩
  refine SC.seq (fun K5 hK5 => SC.seq (fun K6 hK6 => SC.region ?_))
  refine SL.step (PS.move rfl tt rfl rfl) ?_
  refine SL.step (PS.move rfl tt rfl rfl) ?_
  refine SL.step (PS.lss rfl tt rfl tt rfl rfl) ?_
  refine SL.keep (l' := [(8, _, _), (4, _, _), (3, _, _), (2, _, _), (0, _, _)]) ⟨rfl, rfl, rfl, rfl, rfl, trivial⟩ ?_
  refine SL.nil (SE.thenK hK6 ?_)
  refine SC.cond rfl (fun c8 => ?_) (fun c8 => ?_)
  ·
   have c8n := c8
   try simp only [Bool.and_eq_true, Bool.or_eq_true, decide_eq_true_eq, Bool.true_and, Bool.not_eq_true', Bool.not_eq_false', beq_iff_eq, bne_iff_ne, decide_eq_false_iff_not, beq_eq_false_iff_ne, bne_eq_false_iff_eq, ne_eq, Bool.or_eq_false_iff, Bool.and_eq_false_iff] at c8n
   refine SC.skip (SE.thenK hK5 (SC.seq (fun K7 hK7 => SC.block (SC.region ?_))))
   refine SL.step (PS.fieldAddr rfl tt Try.fieldAt_65_1 rfl rfl) ?_
   refine SL.step (PS.load_own (k := 0) rfl tt rfl rfl rfl Try.isAgg27 rfl rfl) ?_
   refine SL.step (PS.mul rfl tt rfl tt rfl rfl) ?_
   refine SL.step (PS.fieldAddr rfl tt Try.fieldAt_65_1 rfl rfl) ?_
   refine SL.store_own (k := 0) (own' := [_, _]) (cs' := [_, _, _]) rfl rfl rfl rfl rfl rfl rfl Try.sizeOf27 rfl (Nat.le_of_ble_eq_true rfl) rfl rfl rfl rfl ?_
   refine SL.keep (l' := [(4, _, _), (3, _, _), (2, _, _), (0, _, _)]) ⟨rfl, rfl, rfl, rfl, trivial⟩ ?_
   refine SL.nil (SE.block_normal (SE.thenK hK7 (SC.region ?_)))
   refine SL.step (PS.move rfl tt rfl rfl) ?_
   refine SL.step (PS.add_in rfl tt rfl tt (fun _ => wr_u64 (by omega)) rfl rfl) ?_
   refine SL.step (PS.assign rfl tt rfl rfl) ?_
   refine SL.keep (l' := [(4, _, _), (3, _, _), (2, _, _), (0, _, _)]) ⟨rfl, rfl, rfl, rfl, trivial⟩ ?_
   refine SL.nil ?_
   exact SE.againF (k1p, (IntKind.u64.wrap (yb3_1 * 2)), (x4 + 1)) ⟨rfl, rfl, rfl, rfl, trivial⟩ rfl (fun w h => And.intro (h.1) (And.intro ⟨((show d_latheref01_power_R3 p0 (k1p + 1) yb3_1 x4 = d_latheref01_power_R3 p0 k1p (IntKind.u64.wrap (yb3_1 * 2)) (x4 + 1) from (bifT c8)).symm.trans hL1), by (try dsimp only); omega, by (try dsimp only); omega, by (try dsimp only); omega⟩ (trivial))) (Nat.lt_succ_self _)
  ·
   refine SC.exit (SE.then_exit (SE.then_exit (SE.block_same (SE.thenK hK3 (SC.seq (fun K8 hK8 => SC.region ?_))))))
   refine SL.step (PS.load_own_agg (k := 0) (vs := [_, _, _]) rfl tt rfl rfl rfl rfl Try.isAgg65 Try.sizeOf65 rfl rfl) ?_
   refine SL.store_own (k := 1) (own' := [_, _]) (cs' := [_, _, _]) rfl rfl rfl rfl rfl rfl rfl Try.sizeOf65 rfl (Nat.le_of_ble_eq_true rfl) rfl rfl rfl rfl ?_
   refine SL.keep (l' := [(2, _, _)]) ⟨rfl, trivial⟩ ?_
   refine SL.nil (SE.thenK hK8 (SC.ret ?_))
   exact finVc (k := 1) rfl Try.isAgg65 Try.sizeOf65 rfl rfl rfl rfl (fun _ _ => congrArg (fun z : Bg => Value.agg [.int .u64 z.hi, .int .u64 z.lo, .bool z.below].toArray) (show (d_latheref01_power p0) = ((⟨0, yb3_1, false⟩ : Bg) : Bg) from (letV_eq (hL1.symm.trans (show d_latheref01_power_R3 p0 (k1p + 1) yb3_1 x4 = (yb3_1, x4) from (bifF c8))))).symm)
def d_latheref01_bit (p0 : Int) (p1 : Int) (p2 : Int) : Int :=
  bif (p0 == 8) then
   (IntKind.u64.wrap (p1 * p2))
  else bif (p0 == 9) then
    (IntKind.u64.wrap ((IntKind.u64.wrap (p1 + p2)) - (IntKind.u64.wrap (p1 * p2))))
   else (Int.tmod (IntKind.u64.wrap (p1 + p2)) 2)
theorem latheref01_bit_V (p0 : Int) (p1 : Int) (p2 : Int)  : SpecV Try.prog 68 [.int .i64 p0, .int .u64 p1, .int .u64 p2] (Value.int .u64 (d_latheref01_bit p0 p1 p2)) := by
  refine SpecV.enter Try.func68 rfl (n := 26) Try.ntmps68 (Nat.le_of_ble_eq_true rfl) (l := [(0, _, _), (1, _, _), (2, _, _)]) rfl ?_
  intro w
  refine SC.seq (fun K1 hK1 => SC.region ?_)
  refine SL.step (PS.assign rfl tt rfl rfl) ?_
  refine SL.keep (l' := [(0, _, _), (1, _, _), (2, _, _)]) ⟨rfl, rfl, rfl, trivial⟩ ?_
  refine SL.nil (SE.thenK hK1 (SC.seq (fun K2 hK2 => SC.seq (fun K3 hK3 => SC.region ?_))))
  refine SL.step (PS.move rfl tt rfl rfl) ?_
  refine SL.keep (l' := [(7, _, _), (1, _, _), (2, _, _)]) ⟨rfl, rfl, rfl, trivial⟩ ?_
  refine SL.nil (SE.thenK hK3 (SC.block (SC.seq (fun K4 hK4 => SC.region ?_))))
  refine SL.step (PS.eql rfl tt rfl tt rfl rfl) ?_
  refine SL.step (PS.assign rfl tt rfl rfl) ?_
  refine SL.keep (l' := [(8, _, _), (7, _, _), (1, _, _), (2, _, _)]) ⟨rfl, rfl, rfl, rfl, trivial⟩ ?_
  refine SL.nil (SE.thenK hK4 ?_)
  refine SC.cond rfl (fun c8 => ?_) (fun c8 => ?_)
  ·
   refine SC.seq (fun K5 hK5 => SC.region ?_)
   refine SL.step (PS.move rfl tt rfl rfl) ?_
   refine SL.step (PS.move rfl tt rfl rfl) ?_
   refine SL.step (PS.mul rfl tt rfl tt rfl rfl) ?_
   refine SL.step (PS.assign rfl tt rfl rfl) ?_
   refine SL.keep (l' := [(6, _, _)]) ⟨rfl, trivial⟩ ?_
   refine SL.nil (SE.thenK hK5 (SC.ret (SE.block_ret (SE.then_ret ?_))))
   exact finV1 rfl rfl (fun _ _ => congrArg (fun z : Int => Value.int .u64 z) (show (d_latheref01_bit p0 p1 p2) = ((IntKind.u64.wrap (p1 * p2)) : Int) from (bifT c8)).symm)
  ·
   have c8n := c8
   try simp only [Bool.and_eq_true, Bool.or_eq_true, decide_eq_true_eq, Bool.true_and, Bool.not_eq_true', Bool.not_eq_false', beq_iff_eq, bne_iff_ne, decide_eq_false_iff_not, beq_eq_false_iff_ne, bne_eq_false_iff_eq, ne_eq, Bool.or_eq_false_iff, Bool.and_eq_false_iff] at c8n
   refine SC.seq (fun K6 hK6 => SC.region ?_)
   refine SL.step (PS.eql rfl tt rfl tt rfl rfl) ?_
   refine SL.step (PS.assign rfl tt rfl rfl) ?_
   refine SL.keep (l' := [(13, _, _), (1, _, _), (2, _, _)]) ⟨rfl, rfl, rfl, trivial⟩ ?_
   refine SL.nil (SE.thenK hK6 ?_)
   refine SC.cond rfl (fun c13 => ?_) (fun c13 => ?_)
   ·
    refine SC.seq (fun K7 hK7 => SC.region ?_)
    refine SL.step (PS.move rfl tt rfl rfl) ?_
    refine SL.step (PS.move rfl tt rfl rfl) ?_
    refine SL.step (PS.add rfl tt rfl tt rfl rfl) ?_
    refine SL.step (PS.move rfl tt rfl rfl) ?_
    refine SL.step (PS.move rfl tt rfl rfl) ?_
    refine SL.step (PS.mul rfl tt rfl tt rfl rfl) ?_
    refine SL.step (PS.sub rfl tt rfl tt rfl rfl) ?_
    refine SL.step (PS.assign rfl tt rfl rfl) ?_
    refine SL.keep (l' := [(6, _, _)]) ⟨rfl, trivial⟩ ?_
    refine SL.nil (SE.thenK hK7 (SC.ret (SE.block_ret (SE.then_ret ?_))))
    exact finV1 rfl rfl (fun _ _ => congrArg (fun z : Int => Value.int .u64 z) (show (d_latheref01_bit p0 p1 p2) = ((IntKind.u64.wrap ((IntKind.u64.wrap (p1 + p2)) - (IntKind.u64.wrap (p1 * p2)))) : Int) from ((bifF c8).trans (bifT c13))).symm)
   ·
    have c13n := c13
    try simp only [Bool.and_eq_true, Bool.or_eq_true, decide_eq_true_eq, Bool.true_and, Bool.not_eq_true', Bool.not_eq_false', beq_iff_eq, bne_iff_ne, decide_eq_false_iff_not, beq_eq_false_iff_ne, bne_eq_false_iff_eq, ne_eq, Bool.or_eq_false_iff, Bool.and_eq_false_iff] at c13n
    refine SC.skip (SE.block_normal (SE.thenK hK2 (SC.seq (fun K8 hK8 => SC.region ?_))))
    refine SL.step (PS.move rfl tt rfl rfl) ?_
    refine SL.step (PS.move rfl tt rfl rfl) ?_
    refine SL.step (PS.add rfl tt rfl tt rfl rfl) ?_
    refine SL.step (PS.rem rfl tt rfl tt (fun _ => by omega) rfl rfl) ?_
    refine SL.step (PS.assign rfl tt rfl rfl) ?_
    refine SL.keep (l' := [(6, _, _)]) ⟨rfl, trivial⟩ ?_
    refine SL.nil (SE.thenK hK8 (SC.ret ?_))
    exact finV1 rfl rfl (fun _ _ => congrArg (fun z : Int => Value.int .u64 z) (show (d_latheref01_bit p0 p1 p2) = ((Int.tmod (IntKind.u64.wrap (p1 + p2)) 2) : Int) from ((bifF c8).trans (bifF c13))).symm)
def d_latheref01_bitwise_R4 (p0 : Int) (p1 : Int) : Nat → Int → Int → Int → Int → Int → Int × Int × Int × Int × Int
  | 0, x11, x10, x9, x2, x3 => (x11, x10, x9, x2, x3)
  | k + 1, x11, x10, x9, x2, x3 =>
   bif (decide (x11 < p1)) then
    d_latheref01_bitwise_R4 p0 p1 k (x11 + 1) (IntKind.u64.wrap (x10 * 2)) (IntKind.u64.wrap (x9 + (IntKind.u64.wrap (x10 * (d_latheref01_bit p0 (Int.tmod x2 2) (Int.tmod x3 2)))))) (IntKind.u64.wrap (Int.tdiv x2 2)) (IntKind.u64.wrap (Int.tdiv x3 2))
   else (x11, x10, x9, x2, x3)
def d_latheref01_bitwise (p0 : Int) (p1 : Int) (p2 : Int) (p3 : Int) : Int :=
  letV (d_latheref01_bitwise_R4 p0 p1 ((p1 - 0).toNat + 1) 0 1 0 p2 p3) (fun (x11e, x10e, x9e, x2e, x3e) => x9e)
theorem latheref01_bitwise_V (p0 : Int) (p1 : Int) (p2 : Int) (p3 : Int) (hw : 0 ≤ p1 ∧ p1 ≤ 64) : SpecV Try.prog 60 [.int .i64 p0, .int .i64 p1, .int .u64 p2, .int .u64 p3] (Value.int .u64 (d_latheref01_bitwise p0 p1 p2 p3)) := by
  refine SpecV.enter Try.func60 rfl (n := 34) Try.ntmps60 (Nat.le_of_ble_eq_true rfl) (l := [(0, _, _), (1, _, _), (2, _, _), (3, _, _)]) rfl ?_
  intro w
  refine SC.seq (fun K1 hK1 => SC.region ?_)
  refine SL.step (PS.assign rfl tt rfl rfl) ?_
  refine SL.keep (l' := [(0, _, _), (1, _, _), (2, _, _), (3, _, _)]) ⟨rfl, rfl, rfl, rfl, trivial⟩ ?_
  refine SL.nil (SE.thenK hK1 (SC.seq (fun K2 hK2 => SC.region ?_)))
  refine SL.step (PS.assign rfl tt rfl rfl) ?_
  refine SL.nil (SE.thenK hK2 (SC.seq (fun K3 hK3 => SC.region ?_)))
  refine SL.step (PS.assign rfl tt rfl rfl) ?_
  refine SL.nil (SE.thenK hK3 (SC.seq (fun K4 hK4 => SC.seq (fun K5 hK5 => SC.region ?_))))
  refine SL.step (PS.assign rfl tt rfl rfl) ?_
  refine SL.nil (SE.thenK hK5 (SC.block ?_))
  refine SC.loopF (fun ((k1, x11, x10, x9, x2, x3) : Nat × Int × Int × Int × Int × Int) => [(11, true, .int .i64 x11), (10, true, .int .u64 x10), (9, true, .int .u64 x9), (0, true, .int .i64 p0), (1, true, .int .i64 p1), (2, true, .int .u64 x2), (3, true, .int .u64 x3)]) (fun ((k1, x11, x10, x9, x2, x3) : Nat × Int × Int × Int × Int × Int) => []) (fun ((k1, x11, x10, x9, x2, x3) : Nat × Int × Int × Int × Int × Int) w => ((d_latheref01_bitwise_R4 p0 p1 k1 x11 x10 x9 x2 x3 = d_latheref01_bitwise_R4 p0 p1 ((p1 - 0).toNat + 1) 0 1 0 p2 p3) ∧ ((p1 - x11).toNat < k1) ∧ (0 ≤ x11) ∧ (x11 ≤ p1)) ∧ (True)) (fun q => q.1) ((p1 - 0).toNat + 1, 0, 1, 0, p2, p3) ⟨rfl, rfl, rfl, rfl, rfl, rfl, rfl, trivial⟩ rfl (fun w h => ⟨⟨rfl, Nat.lt_succ_self _, by omega, by omega⟩, trivial⟩) (fun q => ?_)
  obtain ⟨k1, x11, x10, x9, x2, x3⟩ := q
  dsimp only
  refine SC.know (fun w h => h.2.1) (fun hp => ?_)
  obtain ⟨hL1, hm1, hi1_0, hi1_1⟩ := hp
  obtain ⟨k1p, rfl⟩ : ∃ j, k1 = j + 1 := ⟨k1 - 1, by omega⟩
  refine SC.seq (fun K6 hK6 => SC.seq (fun K7 hK7 => SC.region ?_))
  refine SL.step (PS.move rfl tt rfl rfl) ?_
  refine SL.step (PS.move rfl tt rfl rfl) ?_
  refine SL.step (PS.lss rfl tt rfl tt rfl rfl) ?_
  refine SL.keep (l' := [(14, _, _), (11, _, _), (10, _, _), (9, _, _), (0, _, _), (1, _, _), (2, _, _), (3, _, _)]) ⟨rfl, rfl, rfl, rfl, rfl, rfl, rfl, rfl, trivial⟩ ?_
  refine SL.nil (SE.thenK hK7 ?_)
  refine SC.cond rfl (fun c14 => ?_) (fun c14 => ?_)
  ·
   have c14n := c14
   try simp only [Bool.and_eq_true, Bool.or_eq_true, decide_eq_true_eq, Bool.true_and, Bool.not_eq_true', Bool.not_eq_false', beq_iff_eq, bne_iff_ne, decide_eq_false_iff_not, beq_eq_false_iff_ne, bne_eq_false_iff_eq, ne_eq, Bool.or_eq_false_iff, Bool.and_eq_false_iff] at c14n
   refine SC.skip (SE.thenK hK6 (SC.seq (fun K8 hK8 => SC.block (SC.seq (fun K9 hK9 => SC.region ?_)))))
   refine SL.step (PS.move rfl tt rfl rfl) ?_
   refine SL.step (PS.move rfl tt rfl rfl) ?_
   refine SL.step (PS.move rfl tt rfl rfl) ?_
   refine SL.step (PS.move rfl tt rfl rfl) ?_
   refine SL.step (PS.rem rfl tt rfl tt (fun _ => by decide) rfl rfl) ?_
   refine SL.step (PS.move rfl tt rfl rfl) ?_
   refine SL.step (PS.rem rfl tt rfl tt (fun _ => by decide) rfl rfl) ?_
   refine SL.callV (vs := [_, _, _]) Try.call68 ⟨⟨_, rfl, tt⟩, ⟨_, rfl, tt⟩, ⟨_, rfl, tt⟩, trivial⟩ (fun hg => latheref01_bit_V p0 (Int.tmod x2 2) (Int.tmod x3 2) ) rfl rfl ?_
   refine SL.step (PS.mul rfl tt rfl tt rfl rfl) ?_
   refine SL.step (PS.add rfl tt rfl tt rfl rfl) ?_
   refine SL.step (PS.assign rfl tt rfl rfl) ?_
   refine SL.keep (l' := [(9, _, _), (11, _, _), (10, _, _), (0, _, _), (1, _, _), (2, _, _), (3, _, _)]) ⟨rfl, rfl, rfl, rfl, rfl, rfl, rfl, trivial⟩ ?_
   refine SL.nil (SE.thenK hK9 (SC.seq (fun K10 hK10 => SC.region ?_)))
   refine SL.step (PS.move rfl tt rfl rfl) ?_
   refine SL.step (PS.quo rfl tt rfl tt (fun _ => by decide) rfl rfl) ?_
   refine SL.step (PS.assign rfl tt rfl rfl) ?_
   refine SL.keep (l' := [(2, _, _), (9, _, _), (11, _, _), (10, _, _), (0, _, _), (1, _, _), (3, _, _)]) ⟨rfl, rfl, rfl, rfl, rfl, rfl, rfl, trivial⟩ ?_
   refine SL.nil (SE.thenK hK10 (SC.seq (fun K11 hK11 => SC.region ?_)))
   refine SL.step (PS.move rfl tt rfl rfl) ?_
   refine SL.step (PS.quo rfl tt rfl tt (fun _ => by decide) rfl rfl) ?_
   refine SL.step (PS.assign rfl tt rfl rfl) ?_
   refine SL.keep (l' := [(3, _, _), (2, _, _), (9, _, _), (11, _, _), (10, _, _), (0, _, _), (1, _, _)]) ⟨rfl, rfl, rfl, rfl, rfl, rfl, rfl, trivial⟩ ?_
   refine SL.nil (SE.thenK hK11 (SC.region ?_))
   refine SL.step (PS.move rfl tt rfl rfl) ?_
   refine SL.step (PS.mul rfl tt rfl tt rfl rfl) ?_
   refine SL.step (PS.assign rfl tt rfl rfl) ?_
   refine SL.keep (l' := [(10, _, _), (3, _, _), (2, _, _), (9, _, _), (11, _, _), (0, _, _), (1, _, _)]) ⟨rfl, rfl, rfl, rfl, rfl, rfl, rfl, trivial⟩ ?_
   refine SL.nil (SE.block_normal (SE.thenK hK8 (SC.region ?_)))
   refine SL.step (PS.move rfl tt rfl rfl) ?_
   refine SL.step (PS.add_in rfl tt rfl tt (fun _ => wr_i64 (by omega)) rfl rfl) ?_
   refine SL.step (PS.assign rfl tt rfl rfl) ?_
   refine SL.keep (l' := [(11, _, _), (10, _, _), (3, _, _), (2, _, _), (9, _, _), (0, _, _), (1, _, _)]) ⟨rfl, rfl, rfl, rfl, rfl, rfl, rfl, trivial⟩ ?_
   refine SL.nil ?_
   exact SE.againF (k1p, (x11 + 1), (IntKind.u64.wrap (x10 * 2)), (IntKind.u64.wrap (x9 + (IntKind.u64.wrap (x10 * (d_latheref01_bit p0 (Int.tmod x2 2) (Int.tmod x3 2)))))), (IntKind.u64.wrap (Int.tdiv x2 2)), (IntKind.u64.wrap (Int.tdiv x3 2))) ⟨rfl, rfl, rfl, rfl, rfl, rfl, rfl, trivial⟩ rfl (fun w h => And.intro (h.1) (And.intro ⟨((show d_latheref01_bitwise_R4 p0 p1 (k1p + 1) x11 x10 x9 x2 x3 = d_latheref01_bitwise_R4 p0 p1 k1p (x11 + 1) (IntKind.u64.wrap (x10 * 2)) (IntKind.u64.wrap (x9 + (IntKind.u64.wrap (x10 * (d_latheref01_bit p0 (Int.tmod x2 2) (Int.tmod x3 2)))))) (IntKind.u64.wrap (Int.tdiv x2 2)) (IntKind.u64.wrap (Int.tdiv x3 2)) from (bifT c14)).symm.trans hL1), by (try dsimp only); omega, by (try dsimp only); omega, by (try dsimp only); omega⟩ (trivial))) (Nat.lt_succ_self _)
  ·
   refine SC.exit (SE.then_exit (SE.then_exit (SE.block_same (SE.thenK hK4 (SC.seq (fun K12 hK12 => SC.region ?_))))))
   refine SL.step (PS.move rfl tt rfl rfl) ?_
   refine SL.step (PS.assign rfl tt rfl rfl) ?_
   refine SL.keep (l' := [(8, _, _)]) ⟨rfl, trivial⟩ ?_
   refine SL.nil (SE.thenK hK12 (SC.ret ?_))
   exact finV1 rfl rfl (fun _ _ => congrArg (fun z : Int => Value.int .u64 z) (show (d_latheref01_bitwise p0 p1 p2 p3) = (x9 : Int) from (letV_eq (hL1.symm.trans (show d_latheref01_bitwise_R4 p0 p1 (k1p + 1) x11 x10 x9 x2 x3 = (x11, x10, x9, x2, x3) from (bifF c14))))).symm)
def d_latheref01_fits (p0 : Int) (p1 : Bg) (p2 : Bool) : Bool :=
  bif p2 then
   (decide ((d_latheref01_With p0 (d_latheref01_Wrapped p0 p1)) = p1))
  else (decide ((d_latheref01_Plain p0 (d_latheref01_Wrapped p0 p1)) = p1))
theorem latheref01_fits_V (p0 : Int) (p1 : Bg) (p2 : Bool) (hw : 1 ≤ p0 ∧ p0 ≤ 64) : SpecV Try.prog 65 [.int .i64 p0, .agg [.int .u64 p1.hi, .int .u64 p1.lo, .bool p1.below].toArray, .bool p2] (Value.bool (d_latheref01_fits p0 p1 p2)) := by
  refine SpecV.enter Try.func65 rfl (n := 26) Try.ntmps65 (Nat.le_of_ble_eq_true rfl) (l := [(0, _, _), (1, _, _), (2, _, _)]) rfl ?_
  intro w
  refine SC.seq (fun K1 hK1 => SC.region ?_)
  refine SL.box (cs := [_, _, _]) rfl rfl rfl rfl rfl (fun b4 => ?_)
  refine SL.step (PS.assign rfl tt rfl rfl) ?_
  refine SL.keep (l' := [(4, _, _), (0, _, _), (2, _, _)]) ⟨rfl, rfl, rfl, trivial⟩ ?_
  refine SL.nil (SE.thenK hK1 (SC.seq (fun K2 hK2 => SC.seq (fun K3 hK3 => SC.region ?_))))
  refine SL.step (PS.move rfl tt rfl rfl) ?_
  refine SL.keep (l' := [(9, _, _), (4, _, _), (0, _, _)]) ⟨rfl, rfl, rfl, trivial⟩ ?_
  refine SL.nil (SE.thenK hK3 ?_)
  refine SC.cond rfl (fun c9 => ?_) (fun c9 => ?_)
  ·
   have c9n := c9
   try simp only [Bool.and_eq_true, Bool.or_eq_true, decide_eq_true_eq, Bool.true_and, Bool.not_eq_true', Bool.not_eq_false', beq_iff_eq, bne_iff_ne, decide_eq_false_iff_not, beq_eq_false_iff_ne, bne_eq_false_iff_eq, ne_eq, Bool.or_eq_false_iff, Bool.and_eq_false_iff] at c9n
   refine SC.seq (fun K4 hK4 => SC.region ?_)
   refine SL.step (PS.move rfl tt rfl rfl) ?_
   refine SL.step (PS.move rfl tt rfl rfl) ?_
   refine SL.step (PS.load_own_agg (k := 0) (vs := [_, _, _]) rfl tt rfl rfl rfl rfl Try.isAgg65 Try.sizeOf65 rfl rfl) ?_
   refine SL.callV (vs := [_, _]) Try.call46 ⟨⟨_, rfl, tt⟩, ⟨_, rfl, tt⟩, trivial⟩ (fun hg => latheref01_Wrapped_W _ _ _ _ (by omega)) rfl rfl ?_
   refine SL.callV (vs := [_, _]) Try.call47 ⟨⟨_, rfl, tt⟩, ⟨_, rfl, tt⟩, trivial⟩ (fun hg => latheref01_With_V p0 (d_latheref01_Wrapped p0 p1) (by omega)) rfl rfl ?_
   refine SL.alloc (cs := [_, _, _]) Try.zeroValue65 rfl rfl rfl (fun b7 => ?_)
   refine SL.store_own (k := 0) (own' := [_, _]) (cs' := [_, _, _]) rfl rfl rfl rfl rfl rfl rfl Try.sizeOf65 rfl (Nat.le_of_ble_eq_true rfl) rfl rfl rfl rfl ?_
   refine SL.keep (l' := [(7, _, _), (4, _, _)]) ⟨rfl, rfl, trivial⟩ ?_
   refine SL.nil (SE.thenK hK4 (SC.seq (fun K5 hK5 => SC.region ?_)))
   refine SL.step (PS.load_own_agg (k := 0) (vs := [_, _, _]) rfl tt rfl rfl rfl rfl Try.isAgg65 Try.sizeOf65 rfl rfl) ?_
   refine SL.step (PS.load_own_agg (k := 1) (vs := [_, _, _]) rfl tt rfl rfl rfl rfl Try.isAgg65 Try.sizeOf65 rfl rfl) ?_
   refine SL.step (PS.eqlA (u := .agg [.int .u64 ((d_latheref01_With p0 (d_latheref01_Wrapped p0 p1)).hi), .int .u64 ((d_latheref01_With p0 (d_latheref01_Wrapped p0 p1)).lo), .bool ((d_latheref01_With p0 (d_latheref01_Wrapped p0 p1)).below)].toArray) (v := .agg [.int .u64 p1.hi, .int .u64 p1.lo, .bool p1.below].toArray) rfl tt rfl tt (fun x y w => Bg_eql x y (d_latheref01_With p0 (d_latheref01_Wrapped p0 p1)) p1 w) rfl rfl) ?_
   refine SL.step (PS.assign rfl tt rfl rfl) ?_
   refine SL.keep (l' := [(6, _, _)]) ⟨rfl, trivial⟩ ?_
   refine SL.nil (SE.thenK hK5 (SC.ret (SE.then_ret ?_)))
   exact finV1 rfl rfl (fun _ _ => congrArg (fun z : Bool => Value.bool z) (show (d_latheref01_fits p0 p1 p2) = ((decide ((d_latheref01_With p0 (d_latheref01_Wrapped p0 p1)) = p1)) : Bool) from (bifT c9)).symm)
  ·
   have c9n := c9
   try simp only [Bool.and_eq_true, Bool.or_eq_true, decide_eq_true_eq, Bool.true_and, Bool.not_eq_true', Bool.not_eq_false', beq_iff_eq, bne_iff_ne, decide_eq_false_iff_not, beq_eq_false_iff_ne, bne_eq_false_iff_eq, ne_eq, Bool.or_eq_false_iff, Bool.and_eq_false_iff] at c9n
   refine SC.skip (SE.thenK hK2 (SC.seq (fun K6 hK6 => SC.region ?_)))
   refine SL.step (PS.move rfl tt rfl rfl) ?_
   refine SL.step (PS.move rfl tt rfl rfl) ?_
   refine SL.step (PS.load_own_agg (k := 0) (vs := [_, _, _]) rfl tt rfl rfl rfl rfl Try.isAgg65 Try.sizeOf65 rfl rfl) ?_
   refine SL.callV (vs := [_, _]) Try.call46 ⟨⟨_, rfl, tt⟩, ⟨_, rfl, tt⟩, trivial⟩ (fun hg => latheref01_Wrapped_W _ _ _ _ (by omega)) rfl rfl ?_
   refine SL.callV (vs := [_, _]) Try.call66 ⟨⟨_, rfl, tt⟩, ⟨_, rfl, tt⟩, trivial⟩ (fun hg => latheref01_Plain_V p0 (d_latheref01_Wrapped p0 p1) (by omega)) rfl rfl ?_
   refine SL.alloc (cs := [_, _, _]) Try.zeroValue65 rfl rfl rfl (fun b8 => ?_)
   refine SL.store_own (k := 0) (own' := [_, _]) (cs' := [_, _, _]) rfl rfl rfl rfl rfl rfl rfl Try.sizeOf65 rfl (Nat.le_of_ble_eq_true rfl) rfl rfl rfl rfl ?_
   refine SL.keep (l' := [(8, _, _), (4, _, _)]) ⟨rfl, rfl, trivial⟩ ?_
   refine SL.nil (SE.thenK hK6 (SC.seq (fun K7 hK7 => SC.region ?_)))
   refine SL.step (PS.load_own_agg (k := 0) (vs := [_, _, _]) rfl tt rfl rfl rfl rfl Try.isAgg65 Try.sizeOf65 rfl rfl) ?_
   refine SL.step (PS.load_own_agg (k := 1) (vs := [_, _, _]) rfl tt rfl rfl rfl rfl Try.isAgg65 Try.sizeOf65 rfl rfl) ?_
   refine SL.step (PS.eqlA (u := .agg [.int .u64 ((d_latheref01_Plain p0 (d_latheref01_Wrapped p0 p1)).hi), .int .u64 ((d_latheref01_Plain p0 (d_latheref01_Wrapped p0 p1)).lo), .bool ((d_latheref01_Plain p0 (d_latheref01_Wrapped p0 p1)).below)].toArray) (v := .agg [.int .u64 p1.hi, .int .u64 p1.lo, .bool p1.below].toArray) rfl tt rfl tt (fun x y w => Bg_eql x y (d_latheref01_Plain p0 (d_latheref01_Wrapped p0 p1)) p1 w) rfl rfl) ?_
   refine SL.step (PS.assign rfl tt rfl rfl) ?_
   refine SL.keep (l' := [(6, _, _)]) ⟨rfl, trivial⟩ ?_
   refine SL.nil (SE.thenK hK7 (SC.ret ?_))
   exact finV1 rfl rfl (fun _ _ => congrArg (fun z : Bool => Value.bool z) (show (d_latheref01_fits p0 p1 p2) = ((decide ((d_latheref01_Plain p0 (d_latheref01_Wrapped p0 p1)) = p1)) : Bool) from (bifF c9)).symm)
def d_latheref01_Convert (p0 : Int) (p1 : Int) (p2 : Int) (p3 : Int) : Int × Bool :=
  bif (!((d_latheref01_width p1) && (d_latheref01_width p2))) then
   (0, false)
  else bif ((p0 == 20) && (decide (p1 < p2))) then
    ((d_latheref01_Cut p1 p3), true)
   else bif ((p0 == 21) && (decide (p1 < p2))) then
     ((d_latheref01_Wrapped p2 (d_latheref01_With p1 p3)), true)
    else bif ((p0 == 22) && (decide (p2 < p1))) then
      ((d_latheref01_Cut p2 p3), true)
     else (0, false)
theorem latheref01_Convert_V (p0 : Int) (p1 : Int) (p2 : Int) (p3 : Int)  : SpecV Try.prog 32 [.int .i64 p0, .int .i64 p1, .int .i64 p2, .int .u64 p3] (Value.tuple #[Value.int .u64 (d_latheref01_Convert p0 p1 p2 p3).1, Value.bool (d_latheref01_Convert p0 p1 p2 p3).2]) := by
  refine SpecV.enter Try.func32 rfl (n := 51) Try.ntmps32 (Nat.le_of_ble_eq_true rfl) (l := [(0, _, _), (1, _, _), (2, _, _), (3, _, _)]) rfl ?_
  intro w
  refine SC.seq (fun K1 hK1 => SC.region ?_)
  refine SL.step (PS.assign rfl tt rfl rfl) ?_
  refine SL.step (PS.assign rfl tt rfl rfl) ?_
  refine SL.keep (l' := [(0, _, _), (1, _, _), (2, _, _), (3, _, _)]) ⟨rfl, rfl, rfl, rfl, trivial⟩ ?_
  refine SL.nil (SE.thenK hK1 (SC.seq (fun K2 hK2 => SC.region ?_)))
  refine SL.step (PS.move rfl tt rfl rfl) ?_
  refine SL.callV (vs := [_]) Try.call45 ⟨⟨_, rfl, tt⟩, trivial⟩ (fun hg => latheref01_width_V p1 ) rfl rfl ?_
  refine SL.step (PS.move rfl tt rfl rfl) ?_
  refine SL.step (PS.move rfl tt rfl rfl) ?_
  refine SL.callV (vs := [_]) Try.call45 ⟨⟨_, rfl, (fun h => h)⟩, trivial⟩ (fun hg => latheref01_width_V p2 ) rfl rfl ?_
  refine SL.step (PS.pick_and rfl tt rfl (fun h h2 => pk_and h h2) rfl rfl) ?_
  refine SL.step (PS.assign rfl tt rfl rfl) ?_
  refine SL.keep (l' := [(10, _, _), (0, _, _), (1, _, _), (2, _, _), (3, _, _)]) ⟨rfl, rfl, rfl, rfl, rfl, trivial⟩ ?_
  refine SL.nil (SE.thenK hK2 (SC.seq (fun K3 hK3 => SC.seq (fun K4 hK4 => SC.region ?_))))
  refine SL.step (PS.move rfl tt rfl rfl) ?_
  refine SL.step (PS.not rfl tt rfl rfl) ?_
  refine SL.keep (l' := [(18, _, _), (0, _, _), (1, _, _), (2, _, _), (3, _, _)]) ⟨rfl, rfl, rfl, rfl, rfl, trivial⟩ ?_
  refine SL.nil (SE.thenK hK4 ?_)
  refine SC.cond rfl (fun c18 => ?_) (fun c18 => ?_)
  ·
   refine SC.seq (fun K5 hK5 => SC.region ?_)
   refine SL.step (PS.assign rfl tt rfl rfl) ?_
   refine SL.step (PS.assign rfl tt rfl rfl) ?_
   refine SL.keep (l' := [(9, _, _), (8, _, _)]) ⟨rfl, rfl, trivial⟩ ?_
   refine SL.nil (SE.thenK hK5 (SC.ret (SE.then_ret ?_)))
   exact finV2 rfl rfl rfl (fun _ _ => congrArg (fun z : Int × Bool => Value.tuple #[Value.int .u64 z.1, Value.bool z.2]) (show (d_latheref01_Convert p0 p1 p2 p3) = ((0, false) : Int × Bool) from (bifT c18)).symm)
  ·
   have c18n := c18
   try simp only [width_iff, width_not, Bool.and_eq_true, Bool.or_eq_true, decide_eq_true_eq, Bool.true_and, Bool.not_eq_true', Bool.not_eq_false', beq_iff_eq, bne_iff_ne, decide_eq_false_iff_not, beq_eq_false_iff_ne, bne_eq_false_iff_eq, ne_eq, Bool.or_eq_false_iff, Bool.and_eq_false_iff] at c18n
   refine SC.skip (SE.thenK hK3 (SC.seq (fun K6 hK6 => SC.seq (fun K7 hK7 => SC.region ?_))))
   refine SL.step (PS.move rfl tt rfl rfl) ?_
   refine SL.step (PS.eql rfl tt rfl tt rfl rfl) ?_
   refine SL.step (PS.move rfl tt rfl rfl) ?_
   refine SL.step (PS.move rfl tt rfl rfl) ?_
   refine SL.step (PS.move rfl tt rfl rfl) ?_
   refine SL.step (PS.lss rfl (fun h => h) rfl (fun h => h) rfl rfl) ?_
   refine SL.step (PS.pick_and rfl tt rfl (fun h h2 => pk_and h h2) rfl rfl) ?_
   refine SL.keep (l' := [(25, _, _), (0, _, _), (1, _, _), (2, _, _), (3, _, _)]) ⟨rfl, rfl, rfl, rfl, rfl, trivial⟩ ?_
   refine SL.nil (SE.thenK hK7 ?_)
   refine SC.cond rfl (fun c25 => ?_) (fun c25 => ?_)
   ·
    have c25n := c25
    try simp only [width_iff, width_not, Bool.and_eq_true, Bool.or_eq_true, decide_eq_true_eq, Bool.true_and, Bool.not_eq_true', Bool.not_eq_false', beq_iff_eq, bne_iff_ne, decide_eq_false_iff_not, beq_eq_false_iff_ne, bne_eq_false_iff_eq, ne_eq, Bool.or_eq_false_iff, Bool.and_eq_false_iff] at c25n
    refine SC.seq (fun K8 hK8 => SC.region ?_)
    refine SL.step (PS.move rfl tt rfl rfl) ?_
    refine SL.step (PS.move rfl tt rfl rfl) ?_
    refine SL.callV (vs := [_, _]) Try.call42 ⟨⟨_, rfl, tt⟩, ⟨_, rfl, tt⟩, trivial⟩ (fun hg => latheref01_Cut_V p1 p3 (by omega)) rfl rfl ?_
    refine SL.step (PS.assign rfl tt rfl rfl) ?_
    refine SL.step (PS.assign rfl tt rfl rfl) ?_
    refine SL.keep (l' := [(9, _, _), (8, _, _)]) ⟨rfl, rfl, trivial⟩ ?_
    refine SL.nil (SE.thenK hK8 (SC.ret (SE.then_ret ?_)))
    exact finV2 rfl rfl rfl (fun _ _ => congrArg (fun z : Int × Bool => Value.tuple #[Value.int .u64 z.1, Value.bool z.2]) (show (d_latheref01_Convert p0 p1 p2 p3) = (((d_latheref01_Cut p1 p3), true) : Int × Bool) from ((bifF c18).trans (bifT c25))).symm)
   ·
    have c25n := c25
    try simp only [width_iff, width_not, Bool.and_eq_true, Bool.or_eq_true, decide_eq_true_eq, Bool.true_and, Bool.not_eq_true', Bool.not_eq_false', beq_iff_eq, bne_iff_ne, decide_eq_false_iff_not, beq_eq_false_iff_ne, bne_eq_false_iff_eq, ne_eq, Bool.or_eq_false_iff, Bool.and_eq_false_iff] at c25n
    refine SC.skip (SE.thenK hK6 (SC.seq (fun K9 hK9 => SC.seq (fun K10 hK10 => SC.region ?_))))
    refine SL.step (PS.move rfl tt rfl rfl) ?_
    refine SL.step (PS.eql rfl tt rfl tt rfl rfl) ?_
    refine SL.step (PS.move rfl tt rfl rfl) ?_
    refine SL.step (PS.move rfl tt rfl rfl) ?_
    refine SL.step (PS.move rfl tt rfl rfl) ?_
    refine SL.step (PS.lss rfl (fun h => h) rfl (fun h => h) rfl rfl) ?_
    refine SL.step (PS.pick_and rfl tt rfl (fun h h2 => pk_and h h2) rfl rfl) ?_
    refine SL.keep (l' := [(35, _, _), (0, _, _), (1, _, _), (2, _, _), (3, _, _)]) ⟨rfl, rfl, rfl, rfl, rfl, trivial⟩ ?_
    refine SL.nil (SE.thenK hK10 ?_)
    refine SC.cond rfl (fun c35 => ?_) (fun c35 => ?_)
    ·
     have c35n := c35
     try simp only [width_iff, width_not, Bool.and_eq_true, Bool.or_eq_true, decide_eq_true_eq, Bool.true_and, Bool.not_eq_true', Bool.not_eq_false', beq_iff_eq, bne_iff_ne, decide_eq_false_iff_not, beq_eq_false_iff_ne, bne_eq_false_iff_eq, ne_eq, Bool.or_eq_false_iff, Bool.and_eq_false_iff] at c35n
     refine SC.seq (fun K11 hK11 => SC.region ?_)
     refine SL.step (PS.move rfl tt rfl rfl) ?_
     refine SL.step (PS.move rfl tt rfl rfl) ?_
     refine SL.step (PS.move rfl tt rfl rfl) ?_
     refine SL.callV (vs := [_, _]) Try.call47 ⟨⟨_, rfl, tt⟩, ⟨_, rfl, tt⟩, trivial⟩ (fun hg => latheref01_With_V p1 p3 (by omega)) rfl rfl ?_
     refine SL.callV (vs := [_, _]) Try.call46 ⟨⟨_, rfl, tt⟩, ⟨_, rfl, tt⟩, trivial⟩ (fun hg => latheref01_Wrapped_W _ _ _ _ (by omega)) rfl rfl ?_
     refine SL.step (PS.assign rfl tt rfl rfl) ?_
     refine SL.step (PS.assign rfl tt rfl rfl) ?_
     refine SL.keep (l' := [(9, _, _), (8, _, _)]) ⟨rfl, rfl, trivial⟩ ?_
     refine SL.nil (SE.thenK hK11 (SC.ret (SE.then_ret ?_)))
     exact finV2 rfl rfl rfl (fun _ _ => congrArg (fun z : Int × Bool => Value.tuple #[Value.int .u64 z.1, Value.bool z.2]) (show (d_latheref01_Convert p0 p1 p2 p3) = (((d_latheref01_Wrapped p2 (d_latheref01_With p1 p3)), true) : Int × Bool) from ((bifF c18).trans ((bifF c25).trans (bifT c35)))).symm)
    ·
     have c35n := c35
     try simp only [width_iff, width_not, Bool.and_eq_true, Bool.or_eq_true, decide_eq_true_eq, Bool.true_and, Bool.not_eq_true', Bool.not_eq_false', beq_iff_eq, bne_iff_ne, decide_eq_false_iff_not, beq_eq_false_iff_ne, bne_eq_false_iff_eq, ne_eq, Bool.or_eq_false_iff, Bool.and_eq_false_iff] at c35n
     refine SC.skip (SE.thenK hK9 (SC.seq (fun K12 hK12 => SC.seq (fun K13 hK13 => SC.region ?_))))
     refine SL.step (PS.move rfl tt rfl rfl) ?_
     refine SL.step (PS.eql rfl tt rfl tt rfl rfl) ?_
     refine SL.step (PS.move rfl tt rfl rfl) ?_
     refine SL.step (PS.move rfl tt rfl rfl) ?_
     refine SL.step (PS.move rfl tt rfl rfl) ?_
     refine SL.step (PS.gtr rfl (fun h => h) rfl (fun h => h) rfl rfl) ?_
     refine SL.step (PS.pick_and rfl tt rfl (fun h h2 => pk_and h h2) rfl rfl) ?_
     refine SL.keep (l' := [(47, _, _), (2, _, _), (3, _, _)]) ⟨rfl, rfl, rfl, trivial⟩ ?_
     refine SL.nil (SE.thenK hK13 ?_)
     refine SC.cond rfl (fun c47 => ?_) (fun c47 => ?_)
     ·
      have c47n := c47
      try simp only [width_iff, width_not, Bool.and_eq_true, Bool.or_eq_true, decide_eq_true_eq, Bool.true_and, Bool.not_eq_true', Bool.not_eq_false', beq_iff_eq, bne_iff_ne, decide_eq_false_iff_not, beq_eq_false_iff_ne, bne_eq_false_iff_eq, ne_eq, Bool.or_eq_false_iff, Bool.and_eq_false_iff] at c47n
      refine SC.seq (fun K14 hK14 => SC.region ?_)
      refine SL.step (PS.move rfl tt rfl rfl) ?_
      refine SL.step (PS.move rfl tt rfl rfl) ?_
      refine SL.callV (vs := [_, _]) Try.call42 ⟨⟨_, rfl, tt⟩, ⟨_, rfl, tt⟩, trivial⟩ (fun hg => latheref01_Cut_V p2 p3 (by omega)) rfl rfl ?_
      refine SL.step (PS.assign rfl tt rfl rfl) ?_
      refine SL.step (PS.assign rfl tt rfl rfl) ?_
      refine SL.keep (l' := [(9, _, _), (8, _, _)]) ⟨rfl, rfl, trivial⟩ ?_
      refine SL.nil (SE.thenK hK14 (SC.ret (SE.then_ret ?_)))
      exact finV2 rfl rfl rfl (fun _ _ => congrArg (fun z : Int × Bool => Value.tuple #[Value.int .u64 z.1, Value.bool z.2]) (show (d_latheref01_Convert p0 p1 p2 p3) = (((d_latheref01_Cut p2 p3), true) : Int × Bool) from ((bifF c18).trans ((bifF c25).trans ((bifF c35).trans (bifT c47))))).symm)
     ·
      refine SC.skip (SE.thenK hK12 (SC.seq (fun K15 hK15 => SC.region ?_)))
      refine SL.step (PS.assign rfl tt rfl rfl) ?_
      refine SL.step (PS.assign rfl tt rfl rfl) ?_
      refine SL.keep (l' := [(9, _, _), (8, _, _)]) ⟨rfl, rfl, trivial⟩ ?_
      refine SL.nil (SE.thenK hK15 (SC.ret ?_))
      exact finV2 rfl rfl rfl (fun _ _ => congrArg (fun z : Int × Bool => Value.tuple #[Value.int .u64 z.1, Value.bool z.2]) (show (d_latheref01_Convert p0 p1 p2 p3) = ((0, false) : Int × Bool) from ((bifF c18).trans ((bifF c25).trans ((bifF c35).trans (bifF c47))))).symm)
end Go.Proofs.Ytffimfmicapaaaa
