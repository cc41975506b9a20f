/- The references of layers 9, 10: what their code computes. -/
import Derived.Test.YtffimfmicapaaaaR01d
namespace Go.Proofs.Ytffimfmicapaaaa
open Go.RowKit
set_option linter.unusedVariables false
set_option linter.unusedSimpArgs false
set_option maxRecDepth 100000
set_option maxHeartbeats 4000000
open Pl (Vl)
def d_latheref09_Norm (p0 : Int) (p1 : Vl) : Vl :=
  bif (((decide (1 ≤ p0)) && (decide (p0 ≤ 64))) && (p1.k == 1)) then
   (⟨1, (d_latheref01_Cut p0 p1.b), 0, 0⟩ : Vl)
  else bif ((p0 == 65) && (p1.k == 2)) then
    (⟨2, 0, p1.bl, p1.off⟩ : Vl)
   else bif (((decide (1 ≤ p0)) && (decide (p0 ≤ 65))) && (p1.k == 3)) then
     (⟨3, 0, 0, 0⟩ : Vl)
    else (⟨0, 0, 0, 0⟩ : Vl)
theorem latheref09_Norm_S (p0 : Int) (p1 : Vl)  : Spec Try.prog 26 [.int .i64 p0, .agg [.int .i64 p1.k, .int .u64 p1.b, .int .i64 p1.bl, .int .i64 p1.off].toArray] (fun w => Dat.ok p1 w) (fun v _ => v = Value.agg [.int .i64 ((d_latheref09_Norm p0 p1).k), .int .u64 ((d_latheref09_Norm p0 p1).b), .int .i64 ((d_latheref09_Norm p0 p1).bl), .int .i64 ((d_latheref09_Norm p0 p1).off)].toArray) := by
  refine Spec.enter Try.func26 rfl (n := 46) Try.ntmps26 (Nat.le_of_ble_eq_true rfl) (l := [(0, _, _), (1, _, _)]) rfl ?_
  intro S w
  refine SC.seq (fun K1 hK1 => SC.region ?_)
  refine SL.box (cs := [_, _, _, _]) rfl rfl rfl rfl rfl (fun b3 => ?_)
  refine SL.alloc (cs := [_, _, _, _]) Try.zeroValue35 rfl rfl rfl (fun b4 => ?_)
  refine SL.keep (l' := [(4, _, _), (3, _, _), (0, _, _)]) ⟨rfl, rfl, rfl, trivial⟩ ?_
  refine SL.nil (SE.thenK hK1 (SC.seq (fun K2 hK2 => SC.seq (fun K3 hK3 => SC.region ?_))))
  refine SL.step (PS.move rfl tt rfl rfl) ?_
  refine SL.step (PS.geq rfl tt rfl tt rfl rfl) ?_
  refine SL.step (PS.move rfl tt rfl rfl) ?_
  refine SL.step (PS.move rfl tt rfl rfl) ?_
  refine SL.step (PS.leq rfl (fun h => h) rfl tt rfl rfl) ?_
  refine SL.step (PS.pick_and rfl tt rfl (fun h h2 => pk_and h h2) rfl rfl) ?_
  refine SL.step (PS.move rfl tt rfl rfl) ?_
  refine SL.step (PS.fieldAddr rfl tt Try.fieldAt_35_0 rfl rfl) ?_
  refine SL.step (PS.load_own (k := 1) rfl (fun h => h) rfl rfl rfl Try.isAgg3 rfl rfl) ?_
  refine SL.step (PS.eql rfl (fun h => h) rfl tt rfl rfl) ?_
  refine SL.step (PS.pick_and rfl tt rfl (fun h h2 => pk_and h h2) rfl rfl) ?_
  refine SL.keep (l' := [(15, _, _), (4, _, _), (3, _, _), (0, _, _)]) ⟨rfl, rfl, rfl, rfl, trivial⟩ ?_
  refine SL.nil (SE.thenK hK3 ?_)
  refine SC.cond rfl (fun c15 => ?_) (fun c15 => ?_)
  ·
   have c15n := c15
   try simp only [Bool.and_eq_true, Bool.or_eq_true, decide_eq_true_eq, Bool.true_and, Bool.not_eq_true', Bool.not_eq_false', beq_iff_eq, bne_iff_ne, decide_eq_false_iff_not, beq_eq_false_iff_ne, bne_eq_false_iff_eq, ne_eq, Bool.or_eq_false_iff, Bool.and_eq_false_iff] at c15n
   refine SC.seq (fun K4 hK4 => SC.region ?_)
   refine SL.step (PS.move rfl tt rfl rfl) ?_
   refine SL.step (PS.fieldAddr rfl tt Try.fieldAt_35_1 rfl rfl) ?_
   refine SL.step (PS.load_own (k := 1) rfl tt rfl rfl rfl Try.isAgg27 rfl rfl) ?_
   refine SL.callV (vs := [_, _]) Try.call42 ⟨⟨_, rfl, tt⟩, ⟨_, rfl, tt⟩, trivial⟩ (fun hg => latheref01_Cut_V p0 p1.b (by omega)) rfl rfl ?_
   refine SL.step (PS.build (us := [(0, _), (1, _)]) (vs := [_, _, _, _]) ⟨rfl, ⟨_, rfl, tt⟩, ⟨rfl, ⟨_, rfl, tt⟩, trivial⟩⟩ Try.underlying35 Try.zeroValue35 (Try.places_35 Try.underlying35) rfl rfl rfl) ?_
   refine SL.store_own (k := 0) (own' := [_, _]) (cs' := [_, _, _, _]) rfl rfl rfl rfl rfl rfl rfl Try.sizeOf35 rfl (Nat.le_of_ble_eq_true rfl) rfl rfl rfl rfl ?_
   refine SL.keep (l' := [(4, _, _)]) ⟨rfl, trivial⟩ ?_
   refine SL.nil (SE.thenK hK4 (SC.ret (SE.then_ret ?_)))
   exact finc (k := 0) rfl Try.isAgg35 Try.sizeOf35 rfl rfl rfl rfl rfl (fun _ _ => congrArg (fun z : Vl => Value.agg [.int .i64 z.k, .int .u64 z.b, .int .i64 z.bl, .int .i64 z.off].toArray) (show (d_latheref09_Norm p0 p1) = ((⟨1, (d_latheref01_Cut p0 p1.b), 0, 0⟩ : Vl) : Vl) from (bifT c15)).symm)
  ·
   refine SC.skip (SE.thenK hK2 (SC.seq (fun K5 hK5 => SC.seq (fun K6 hK6 => SC.region ?_))))
   refine SL.step (PS.move rfl tt rfl rfl) ?_
   refine SL.step (PS.eql rfl tt rfl tt rfl rfl) ?_
   refine SL.step (PS.move rfl tt rfl rfl) ?_
   refine SL.step (PS.fieldAddr rfl tt Try.fieldAt_35_0 rfl rfl) ?_
   refine SL.step (PS.load_own (k := 1) rfl (fun h => h) rfl rfl rfl Try.isAgg3 rfl rfl) ?_
   refine SL.step (PS.eql rfl (fun h => h) rfl tt rfl rfl) ?_
   refine SL.step (PS.pick_and rfl tt rfl (fun h h2 => pk_and h h2) rfl rfl) ?_
   refine SL.keep (l' := [(27, _, _), (4, _, _), (3, _, _), (0, _, _)]) ⟨rfl, rfl, rfl, rfl, trivial⟩ ?_
   refine SL.nil (SE.thenK hK6 ?_)
   refine SC.cond rfl (fun c27 => ?_) (fun c27 => ?_)
   ·
    refine SC.seq (fun K7 hK7 => SC.region ?_)
    refine SL.step (PS.fieldAddr rfl tt Try.fieldAt_35_2 rfl rfl) ?_
    refine SL.step (PS.load_own (k := 1) rfl tt rfl rfl rfl Try.isAgg3 rfl rfl) ?_
    refine SL.step (PS.fieldAddr rfl tt Try.fieldAt_35_3 rfl rfl) ?_
    refine SL.step (PS.load_own (k := 1) rfl tt rfl rfl rfl Try.isAgg2 rfl rfl) ?_
    refine SL.step (PS.build (us := [(0, _), (2, _), (3, _)]) (vs := [_, _, _, _]) ⟨rfl, ⟨_, rfl, tt⟩, ⟨rfl, ⟨_, rfl, tt⟩, ⟨rfl, ⟨_, rfl, tt⟩, trivial⟩⟩⟩ Try.underlying35 Try.zeroValue35 (Try.places_35 Try.underlying35) rfl rfl rfl) ?_
    refine SL.store_own (k := 0) (own' := [_, _]) (cs' := [_, _, _, _]) rfl rfl rfl rfl rfl rfl rfl Try.sizeOf35 rfl (Nat.le_of_ble_eq_true rfl) rfl rfl rfl rfl ?_
    refine SL.keep (l' := [(4, _, _)]) ⟨rfl, trivial⟩ ?_
    refine SL.nil (SE.thenK hK7 (SC.ret (SE.then_ret ?_)))
    exact finc (k := 0) rfl Try.isAgg35 Try.sizeOf35 rfl rfl rfl rfl rfl (fun _ _ => congrArg (fun z : Vl => Value.agg [.int .i64 z.k, .int .u64 z.b, .int .i64 z.bl, .int .i64 z.off].toArray) (show (d_latheref09_Norm p0 p1) = ((⟨2, 0, p1.bl, p1.off⟩ : Vl) : Vl) from ((bifF c15).trans (bifT c27))).symm)
   ·
    refine SC.skip (SE.thenK hK5 (SC.seq (fun K8 hK8 => SC.seq (fun K9 hK9 => SC.region ?_))))
    refine SL.step (PS.move rfl tt rfl rfl) ?_
    refine SL.step (PS.geq rfl tt rfl tt rfl rfl) ?_
    refine SL.step (PS.move rfl tt rfl rfl) ?_
    refine SL.step (PS.move rfl tt rfl rfl) ?_
    refine SL.step (PS.leq rfl (fun h => h) rfl tt rfl rfl) ?_
    refine SL.step (PS.pick_and rfl tt rfl (fun h h2 => pk_and h h2) rfl rfl) ?_
    refine SL.step (PS.move rfl tt rfl rfl) ?_
    refine SL.step (PS.fieldAddr rfl tt Try.fieldAt_35_0 rfl rfl) ?_
    refine SL.step (PS.load_own (k := 1) rfl (fun h => h) rfl rfl rfl Try.isAgg3 rfl rfl) ?_
    refine SL.step (PS.eql rfl (fun h => h) rfl tt rfl rfl) ?_
    refine SL.step (PS.pick_and rfl tt rfl (fun h h2 => pk_and h h2) rfl rfl) ?_
    refine SL.keep (l' := [(43, _, _), (4, _, _)]) ⟨rfl, rfl, trivial⟩ ?_
    refine SL.nil (SE.thenK hK9 ?_)
    refine SC.cond rfl (fun c43 => ?_) (fun c43 => ?_)
    ·
     refine SC.seq (fun K10 hK10 => SC.region ?_)
     refine SL.step (PS.build (us := [(0, _)]) (vs := [_, _, _, _]) ⟨rfl, ⟨_, rfl, tt⟩, trivial⟩ Try.underlying35 Try.zeroValue35 (Try.places_35 Try.underlying35) rfl rfl rfl) ?_
     refine SL.store_own (k := 0) (own' := [_, _]) (cs' := [_, _, _, _]) rfl rfl rfl rfl rfl rfl rfl Try.sizeOf35 rfl (Nat.le_of_ble_eq_true rfl) rfl rfl rfl rfl ?_
     refine SL.keep (l' := [(4, _, _)]) ⟨rfl, trivial⟩ ?_
     refine SL.nil (SE.thenK hK10 (SC.ret (SE.then_ret ?_)))
     exact finc (k := 0) rfl Try.isAgg35 Try.sizeOf35 rfl rfl rfl rfl rfl (fun _ _ => congrArg (fun z : Vl => Value.agg [.int .i64 z.k, .int .u64 z.b, .int .i64 z.bl, .int .i64 z.off].toArray) (show (d_latheref09_Norm p0 p1) = ((⟨3, 0, 0, 0⟩ : Vl) : Vl) from ((bifF c15).trans ((bifF c27).trans (bifT c43)))).symm)
    ·
     refine SC.skip (SE.thenK hK8 (SC.seq (fun K11 hK11 => SC.region ?_)))
     refine SL.step (PS.build (us := []) (vs := [_, _, _, _]) trivial Try.underlying35 Try.zeroValue35 (Try.places_35 Try.underlying35) rfl rfl rfl) ?_
     refine SL.store_own (k := 0) (own' := [_, _]) (cs' := [_, _, _, _]) rfl rfl rfl rfl rfl rfl rfl Try.sizeOf35 rfl (Nat.le_of_ble_eq_true rfl) rfl rfl rfl rfl ?_
     refine SL.keep (l' := [(4, _, _)]) ⟨rfl, trivial⟩ ?_
     refine SL.nil (SE.thenK hK11 (SC.ret ?_))
     exact finc (k := 0) rfl Try.isAgg35 Try.sizeOf35 rfl rfl rfl rfl rfl (fun _ _ => congrArg (fun z : Vl => Value.agg [.int .i64 z.k, .int .u64 z.b, .int .i64 z.bl, .int .i64 z.off].toArray) (show (d_latheref09_Norm p0 p1) = ((⟨0, 0, 0, 0⟩ : Vl) : Vl) from ((bifF c15).trans ((bifF c27).trans (bifF c43)))).symm)
def d_latheref10_such (p0 : Ins) (p1 : Int) : Bool :=
  bif ((bits .andNot .i64 p0.f (d_latheref01_Flags p0.op)) != 0) then
   false
  else bif (p0.op == 14) then
    (((p1 == 2) && (decide (1 ≤ p0.t))) && (decide (p0.t ≤ 65)))
   else bif (p0.op == 15) then
     (((p1 == 2) && (decide (1 ≤ p0.t))) && (decide (p0.t ≤ 65)))
    else bif (p0.op == 20) then
      ((p1 == 1) && (d_latheref01_Convert p0.op p0.n p0.t 0).2)
     else bif (p0.op == 21) then
       ((p1 == 1) && (d_latheref01_Convert p0.op p0.n p0.t 0).2)
      else bif (p0.op == 22) then
        ((p1 == 1) && (d_latheref01_Convert p0.op p0.n p0.t 0).2)
       else bif (p0.op == 23) then
         (((p1 == 3) && (decide (1 ≤ p0.t))) && (decide (p0.t ≤ 65)))
        else bif (p0.op == 24) then
          (((p1 == 1) && (decide (1 ≤ p0.t))) && (decide (p0.t ≤ 65)))
         else bif (p0.op == 29) then
           ((p1 == 2) && (p0.t == 65))
          else (((((decide (1 ≤ p0.op)) && (decide (p0.op ≤ 19))) && (p1 == 2)) && (decide (1 ≤ p0.t))) && (decide (p0.t ≤ 64)))
theorem latheref10_such_V (p0 : Ins) (p1 : Int)  : SpecV Try.prog 25 [.agg [.int .i64 p0.op, .int .i64 p0.reg, .int .i64 p0.t, .int .i64 p0.n, .int .i64 p0.f, .slice p0.args.a p0.args.l.length p0.args.cap, .slice p0.to.a p0.to.l.length p0.to.cap].toArray, .int .i64 p1] (Value.bool (d_latheref10_such p0 p1)) := by
  refine SpecV.enter Try.func25 rfl (n := 102) Try.ntmps25 (Nat.le_of_ble_eq_true rfl) (l := [(0, _, _), (1, _, _)]) rfl ?_
  intro w
  refine SC.seq (fun K1 hK1 => SC.region ?_)
  refine SL.box (cs := [_, _, _, _, _, _, _]) rfl rfl rfl rfl rfl (fun b2 => ?_)
  refine SL.step (PS.assign rfl tt rfl rfl) ?_
  refine SL.keep (l' := [(2, _, _), (1, _, _)]) ⟨rfl, rfl, trivial⟩ ?_
  refine SL.nil (SE.thenK hK1 (SC.seq (fun K2 hK2 => SC.region ?_)))
  refine SL.step (PS.fieldAddr rfl tt Try.fieldAt_25_2 rfl rfl) ?_
  refine SL.step (PS.load_own (k := 0) rfl tt rfl rfl rfl Try.isAgg3 rfl rfl) ?_
  refine SL.step (PS.assign rfl tt rfl rfl) ?_
  refine SL.keep (l' := [(5, _, _), (2, _, _), (1, _, _)]) ⟨rfl, rfl, rfl, trivial⟩ ?_
  refine SL.nil (SE.thenK hK2 (SC.seq (fun K3 hK3 => SC.seq (fun K4 hK4 => ?_))))
  refine SC.draw (S := SP _ _ _) 7 (by kernel_rfl) (by kernel_rfl) (fun _ h => h) ?_
  refine SD.take 0 rfl rfl (by kernel_rfl) (PS.fieldAddr rfl tt Try.fieldAt_25_4 rfl rfl) ?_
  refine SD.take 1 rfl rfl (by kernel_rfl) (PS.load_own (k := 0) rfl tt rfl rfl rfl Try.isAgg3 rfl rfl) ?_
  refine SD.take 2 rfl rfl (by kernel_rfl) (PS.fieldAddr rfl tt Try.fieldAt_25_0 rfl rfl) ?_
  refine SD.take 3 rfl rfl (by kernel_rfl) (PS.load_own (k := 0) rfl tt rfl rfl rfl Try.isAgg3 rfl rfl) ?_
  refine SD.one 4 rfl (by kernel_rfl) (fun inv4 => ?_)
  refine SL.callV (vs := [_]) Try.call41 ⟨⟨_, rfl, tt⟩, trivial⟩ (fun hg => latheref01_Flags_V p0.op ) rfl rfl ?_
  refine SL.nil ?_
  refine SE.next (fun _ h => h.drop (List.Sublist.refl _) (fun _ h => h)) inv4 ?_
  refine SD.take 5 rfl rfl (by kernel_rfl) (PS.andNot rfl tt rfl tt rfl rfl) ?_
  refine SD.take 6 rfl rfl (by kernel_rfl) (PS.neq rfl tt rfl tt rfl rfl) ?_
  clear inv4
  refine SD.tail (by kernel_rfl) (os := []) rfl ?_
  refine SL.keep (l' := [(16, _, _), (5, _, _), (2, _, _), (1, _, _)]) ⟨rfl, rfl, rfl, rfl, trivial⟩ ?_
  refine SL.nil (SE.calm (SE.thenK hK4 ?_))
  refine SC.cond rfl (fun c16 => ?_) (fun c16 => ?_)
  ·
   refine SC.seq (fun K5 hK5 => SC.region ?_)
   refine SL.step (PS.assign rfl tt rfl rfl) ?_
   refine SL.keep (l' := [(4, _, _)]) ⟨rfl, trivial⟩ ?_
   refine SL.nil (SE.thenK hK5 (SC.ret (SE.then_ret ?_)))
   exact finV1 rfl rfl (fun _ _ => congrArg (fun z : Bool => Value.bool z) (show (d_latheref10_such p0 p1) = (false : Bool) from (bifT c16)).symm)
  ·
   refine SC.skip (SE.thenK hK3 (SC.seq (fun K6 hK6 => SC.seq (fun K7 hK7 => SC.region ?_))))
   refine SL.step (PS.fieldAddr rfl tt Try.fieldAt_25_0 rfl rfl) ?_
   refine SL.step (PS.load_own (k := 0) rfl tt rfl rfl rfl Try.isAgg3 rfl rfl) ?_
   refine SL.keep (l' := [(18, _, _), (5, _, _), (2, _, _), (1, _, _)]) ⟨rfl, rfl, rfl, rfl, trivial⟩ ?_
   refine SL.nil (SE.thenK hK7 (SC.block (SC.seq (fun K8 hK8 => SC.seq (fun K9 hK9 => SC.region ?_)))))
   refine SL.step (PS.eql rfl tt rfl tt rfl rfl) ?_
   refine SL.step (PS.assign rfl tt rfl rfl) ?_
   refine SL.keep (l' := [(19, _, _), (18, _, _), (5, _, _), (2, _, _), (1, _, _)]) ⟨rfl, rfl, rfl, rfl, rfl, trivial⟩ ?_
   refine SL.nil (SE.thenK hK9 ?_)
   refine SC.cond rfl (fun c19 => ?_) (fun c19 => ?_)
   ·
    refine SC.skip (SE.thenK hK8 (SC.cond_t rfl c19 (SC.seq (fun K10 hK10 => SC.region ?_))))
    refine SL.step (PS.move rfl tt rfl rfl) ?_
    refine SL.step (PS.eql rfl tt rfl tt rfl rfl) ?_
    refine SL.step (PS.move rfl tt rfl rfl) ?_
    refine SL.step (PS.move rfl tt rfl rfl) ?_
    refine SL.step (PS.geq rfl (fun h => h) rfl tt rfl rfl) ?_
    refine SL.step (PS.pick_and rfl tt rfl (fun h h2 => pk_and h h2) rfl rfl) ?_
    refine SL.step (PS.move rfl tt rfl rfl) ?_
    refine SL.step (PS.move rfl tt rfl rfl) ?_
    refine SL.step (PS.leq rfl (fun h => h) rfl tt rfl rfl) ?_
    refine SL.step (PS.pick_and rfl tt rfl (fun h h2 => pk_and h h2) rfl rfl) ?_
    refine SL.step (PS.assign rfl tt rfl rfl) ?_
    refine SL.keep (l' := [(4, _, _)]) ⟨rfl, trivial⟩ ?_
    refine SL.nil (SE.thenK hK10 (SC.ret (SE.block_ret (SE.then_ret ?_))))
    exact finV1 rfl rfl (fun _ _ => congrArg (fun z : Bool => Value.bool z) (show (d_latheref10_such p0 p1) = ((((p1 == 2) && (decide (1 ≤ p0.t))) && (decide (p0.t ≤ 65))) : Bool) from ((bifF c16).trans (bifT c19))).symm)
   ·
    refine SC.region ?_
    refine SL.step (PS.eql rfl tt rfl tt rfl rfl) ?_
    refine SL.step (PS.assign rfl tt rfl rfl) ?_
    refine SL.keep (l' := [(19, _, _), (18, _, _), (5, _, _), (2, _, _), (1, _, _)]) ⟨rfl, rfl, rfl, rfl, rfl, trivial⟩ ?_
    refine SL.nil (SE.thenK hK8 ?_)
    refine SC.cond rfl (fun c19a => ?_) (fun c19a => ?_)
    ·
     refine SC.seq (fun K11 hK11 => SC.region ?_)
     refine SL.step (PS.move rfl tt rfl rfl) ?_
     refine SL.step (PS.eql rfl tt rfl tt rfl rfl) ?_
     refine SL.step (PS.move rfl tt rfl rfl) ?_
     refine SL.step (PS.move rfl tt rfl rfl) ?_
     refine SL.step (PS.geq rfl (fun h => h) rfl tt rfl rfl) ?_
     refine SL.step (PS.pick_and rfl tt rfl (fun h h2 => pk_and h h2) rfl rfl) ?_
     refine SL.step (PS.move rfl tt rfl rfl) ?_
     refine SL.step (PS.move rfl tt rfl rfl) ?_
     refine SL.step (PS.leq rfl (fun h => h) rfl tt rfl rfl) ?_
     refine SL.step (PS.pick_and rfl tt rfl (fun h h2 => pk_and h h2) rfl rfl) ?_
     refine SL.step (PS.assign rfl tt rfl rfl) ?_
     refine SL.keep (l' := [(4, _, _)]) ⟨rfl, trivial⟩ ?_
     refine SL.nil (SE.thenK hK11 (SC.ret (SE.block_ret (SE.then_ret ?_))))
     exact finV1 rfl rfl (fun _ _ => congrArg (fun z : Bool => Value.bool z) (show (d_latheref10_such p0 p1) = ((((p1 == 2) && (decide (1 ≤ p0.t))) && (decide (p0.t ≤ 65))) : Bool) from ((bifF c16).trans ((bifF c19).trans (bifT c19a)))).symm)
    ·
     refine SC.seq (fun K12 hK12 => SC.seq (fun K13 hK13 => SC.region ?_))
     refine SL.step (PS.eql rfl tt rfl tt rfl rfl) ?_
     refine SL.step (PS.assign rfl tt rfl rfl) ?_
     refine SL.keep (l' := [(32, _, _), (18, _, _), (5, _, _), (2, _, _), (1, _, _)]) ⟨rfl, rfl, rfl, rfl, rfl, trivial⟩ ?_
     refine SL.nil (SE.thenK hK13 ?_)
     refine SC.cond rfl (fun c32 => ?_) (fun c32 => ?_)
     ·
      refine SC.skip (SE.thenK hK12 (SC.cond_t rfl c32 (SC.seq (fun K14 hK14 => SC.region ?_))))
      refine SL.step (PS.fieldAddr rfl tt Try.fieldAt_25_0 rfl rfl) ?_
      refine SL.step (PS.load_own (k := 0) rfl tt rfl rfl rfl Try.isAgg3 rfl rfl) ?_
      refine SL.step (PS.fieldAddr rfl tt Try.fieldAt_25_3 rfl rfl) ?_
      refine SL.step (PS.load_own (k := 0) rfl tt rfl rfl rfl Try.isAgg3 rfl rfl) ?_
      refine SL.step (PS.move rfl tt rfl rfl) ?_
      refine SL.callV (vs := [_, _, _, _]) Try.call32 ⟨⟨_, rfl, tt⟩, ⟨_, rfl, tt⟩, ⟨_, rfl, tt⟩, ⟨_, rfl, tt⟩, trivial⟩ (fun hg => latheref01_Convert_V p0.op p0.n p0.t 0 ) rfl rfl ?_
      refine SL.step (PS.move rfl tt rfl rfl) ?_
      refine SL.step (PS.extract rfl tt rfl rfl rfl) ?_
      refine SL.step (PS.extract rfl tt rfl rfl rfl) ?_
      refine SL.step (PS.assign rfl tt rfl rfl) ?_
      refine SL.step (PS.assign rfl tt rfl rfl) ?_
      refine SL.keep (l' := [(7, _, _), (1, _, _)]) ⟨rfl, rfl, trivial⟩ ?_
      refine SL.nil (SE.thenK hK14 (SC.seq (fun K15 hK15 => SC.region ?_)))
      refine SL.step (PS.move rfl tt rfl rfl) ?_
      refine SL.step (PS.eql rfl tt rfl tt rfl rfl) ?_
      refine SL.step (PS.move rfl tt rfl rfl) ?_
      refine SL.step (PS.move rfl tt rfl rfl) ?_
      refine SL.step (PS.pick_and rfl tt rfl (fun h h2 => pk_and h h2) rfl rfl) ?_
      refine SL.step (PS.assign rfl tt rfl rfl) ?_
      refine SL.keep (l' := [(4, _, _)]) ⟨rfl, trivial⟩ ?_
      refine SL.nil (SE.thenK hK15 (SC.ret (SE.block_ret (SE.then_ret ?_))))
      exact finV1 rfl rfl (fun _ _ => congrArg (fun z : Bool => Value.bool z) (show (d_latheref10_such p0 p1) = (((p1 == 1) && (d_latheref01_Convert p0.op p0.n p0.t 0).2) : Bool) from ((bifF c16).trans ((bifF c19).trans ((bifF c19a).trans (bifT c32))))).symm)
     ·
      refine SC.seq (fun K16 hK16 => SC.region ?_)
      refine SL.step (PS.eql rfl tt rfl tt rfl rfl) ?_
      refine SL.step (PS.assign rfl tt rfl rfl) ?_
      refine SL.keep (l' := [(32, _, _), (18, _, _), (5, _, _), (2, _, _), (1, _, _)]) ⟨rfl, rfl, rfl, rfl, rfl, trivial⟩ ?_
      refine SL.nil (SE.thenK hK16 ?_)
      refine SC.cond rfl (fun c32a => ?_) (fun c32a => ?_)
      ·
       refine SC.skip (SE.thenK hK12 (SC.cond_t rfl c32a (SC.seq (fun K17 hK17 => SC.region ?_))))
       refine SL.step (PS.fieldAddr rfl tt Try.fieldAt_25_0 rfl rfl) ?_
       refine SL.step (PS.load_own (k := 0) rfl tt rfl rfl rfl Try.isAgg3 rfl rfl) ?_
       refine SL.step (PS.fieldAddr rfl tt Try.fieldAt_25_3 rfl rfl) ?_
       refine SL.step (PS.load_own (k := 0) rfl tt rfl rfl rfl Try.isAgg3 rfl rfl) ?_
       refine SL.step (PS.move rfl tt rfl rfl) ?_
       refine SL.callV (vs := [_, _, _, _]) Try.call32 ⟨⟨_, rfl, tt⟩, ⟨_, rfl, tt⟩, ⟨_, rfl, tt⟩, ⟨_, rfl, tt⟩, trivial⟩ (fun hg => latheref01_Convert_V p0.op p0.n p0.t 0 ) rfl rfl ?_
       refine SL.step (PS.move rfl tt rfl rfl) ?_
       refine SL.step (PS.extract rfl tt rfl rfl rfl) ?_
       refine SL.step (PS.extract rfl tt rfl rfl rfl) ?_
       refine SL.step (PS.assign rfl tt rfl rfl) ?_
       refine SL.step (PS.assign rfl tt rfl rfl) ?_
       refine SL.keep (l' := [(7, _, _), (1, _, _)]) ⟨rfl, rfl, trivial⟩ ?_
       refine SL.nil (SE.thenK hK17 (SC.seq (fun K18 hK18 => SC.region ?_)))
       refine SL.step (PS.move rfl tt rfl rfl) ?_
       refine SL.step (PS.eql rfl tt rfl tt rfl rfl) ?_
       refine SL.step (PS.move rfl tt rfl rfl) ?_
       refine SL.step (PS.move rfl tt rfl rfl) ?_
       refine SL.step (PS.pick_and rfl tt rfl (fun h h2 => pk_and h h2) rfl rfl) ?_
       refine SL.step (PS.assign rfl tt rfl rfl) ?_
       refine SL.keep (l' := [(4, _, _)]) ⟨rfl, trivial⟩ ?_
       refine SL.nil (SE.thenK hK18 (SC.ret (SE.block_ret (SE.then_ret ?_))))
       exact finV1 rfl rfl (fun _ _ => congrArg (fun z : Bool => Value.bool z) (show (d_latheref10_such p0 p1) = (((p1 == 1) && (d_latheref01_Convert p0.op p0.n p0.t 0).2) : Bool) from ((bifF c16).trans ((bifF c19).trans ((bifF c19a).trans ((bifF c32).trans (bifT c32a)))))).symm)
      ·
       refine SC.region ?_
       refine SL.step (PS.eql rfl tt rfl tt rfl rfl) ?_
       refine SL.step (PS.assign rfl tt rfl rfl) ?_
       refine SL.keep (l' := [(32, _, _), (18, _, _), (5, _, _), (2, _, _), (1, _, _)]) ⟨rfl, rfl, rfl, rfl, rfl, trivial⟩ ?_
       refine SL.nil (SE.thenK hK12 ?_)
       refine SC.cond rfl (fun c32b => ?_) (fun c32b => ?_)
       ·
        refine SC.seq (fun K19 hK19 => SC.region ?_)
        refine SL.step (PS.fieldAddr rfl tt Try.fieldAt_25_0 rfl rfl) ?_
        refine SL.step (PS.load_own (k := 0) rfl tt rfl rfl rfl Try.isAgg3 rfl rfl) ?_
        refine SL.step (PS.fieldAddr rfl tt Try.fieldAt_25_3 rfl rfl) ?_
        refine SL.step (PS.load_own (k := 0) rfl tt rfl rfl rfl Try.isAgg3 rfl rfl) ?_
        refine SL.step (PS.move rfl tt rfl rfl) ?_
        refine SL.callV (vs := [_, _, _, _]) Try.call32 ⟨⟨_, rfl, tt⟩, ⟨_, rfl, tt⟩, ⟨_, rfl, tt⟩, ⟨_, rfl, tt⟩, trivial⟩ (fun hg => latheref01_Convert_V p0.op p0.n p0.t 0 ) rfl rfl ?_
        refine SL.step (PS.move rfl tt rfl rfl) ?_
        refine SL.step (PS.extract rfl tt rfl rfl rfl) ?_
        refine SL.step (PS.extract rfl tt rfl rfl rfl) ?_
        refine SL.step (PS.assign rfl tt rfl rfl) ?_
        refine SL.step (PS.assign rfl tt rfl rfl) ?_
        refine SL.keep (l' := [(7, _, _), (1, _, _)]) ⟨rfl, rfl, trivial⟩ ?_
        refine SL.nil (SE.thenK hK19 (SC.seq (fun K20 hK20 => SC.region ?_)))
        refine SL.step (PS.move rfl tt rfl rfl) ?_
        refine SL.step (PS.eql rfl tt rfl tt rfl rfl) ?_
        refine SL.step (PS.move rfl tt rfl rfl) ?_
        refine SL.step (PS.move rfl tt rfl rfl) ?_
        refine SL.step (PS.pick_and rfl tt rfl (fun h h2 => pk_and h h2) rfl rfl) ?_
        refine SL.step (PS.assign rfl tt rfl rfl) ?_
        refine SL.keep (l' := [(4, _, _)]) ⟨rfl, trivial⟩ ?_
        refine SL.nil (SE.thenK hK20 (SC.ret (SE.block_ret (SE.then_ret ?_))))
        exact finV1 rfl rfl (fun _ _ => congrArg (fun z : Bool => Value.bool z) (show (d_latheref10_such p0 p1) = (((p1 == 1) && (d_latheref01_Convert p0.op p0.n p0.t 0).2) : Bool) from ((bifF c16).trans ((bifF c19).trans ((bifF c19a).trans ((bifF c32).trans ((bifF c32a).trans (bifT c32b))))))).symm)
       ·
        refine SC.seq (fun K21 hK21 => SC.region ?_)
        refine SL.step (PS.eql rfl tt rfl tt rfl rfl) ?_
        refine SL.step (PS.assign rfl tt rfl rfl) ?_
        refine SL.keep (l' := [(50, _, _), (18, _, _), (5, _, _), (2, _, _), (1, _, _)]) ⟨rfl, rfl, rfl, rfl, rfl, trivial⟩ ?_
        refine SL.nil (SE.thenK hK21 ?_)
        refine SC.cond rfl (fun c50 => ?_) (fun c50 => ?_)
        ·
         refine SC.seq (fun K22 hK22 => SC.region ?_)
         refine SL.step (PS.move rfl tt rfl rfl) ?_
         refine SL.step (PS.eql rfl tt rfl tt rfl rfl) ?_
         refine SL.step (PS.move rfl tt rfl rfl) ?_
         refine SL.step (PS.move rfl tt rfl rfl) ?_
         refine SL.step (PS.geq rfl (fun h => h) rfl tt rfl rfl) ?_
         refine SL.step (PS.pick_and rfl tt rfl (fun h h2 => pk_and h h2) rfl rfl) ?_
         refine SL.step (PS.move rfl tt rfl rfl) ?_
         refine SL.step (PS.move rfl tt rfl rfl) ?_
         refine SL.step (PS.leq rfl (fun h => h) rfl tt rfl rfl) ?_
         refine SL.step (PS.pick_and rfl tt rfl (fun h h2 => pk_and h h2) rfl rfl) ?_
         refine SL.step (PS.assign rfl tt rfl rfl) ?_
         refine SL.keep (l' := [(4, _, _)]) ⟨rfl, trivial⟩ ?_
         refine SL.nil (SE.thenK hK22 (SC.ret (SE.block_ret (SE.then_ret ?_))))
         exact finV1 rfl rfl (fun _ _ => congrArg (fun z : Bool => Value.bool z) (show (d_latheref10_such p0 p1) = ((((p1 == 3) && (decide (1 ≤ p0.t))) && (decide (p0.t ≤ 65))) : Bool) from ((bifF c16).trans ((bifF c19).trans ((bifF c19a).trans ((bifF c32).trans ((bifF c32a).trans ((bifF c32b).trans (bifT c50)))))))).symm)
        ·
         refine SC.seq (fun K23 hK23 => SC.region ?_)
         refine SL.step (PS.eql rfl tt rfl tt rfl rfl) ?_
         refine SL.step (PS.assign rfl tt rfl rfl) ?_
         refine SL.keep (l' := [(62, _, _), (18, _, _), (5, _, _), (2, _, _), (1, _, _)]) ⟨rfl, rfl, rfl, rfl, rfl, trivial⟩ ?_
         refine SL.nil (SE.thenK hK23 ?_)
         refine SC.cond rfl (fun c62 => ?_) (fun c62 => ?_)
         ·
          refine SC.seq (fun K24 hK24 => SC.region ?_)
          refine SL.step (PS.move rfl tt rfl rfl) ?_
          refine SL.step (PS.eql rfl tt rfl tt rfl rfl) ?_
          refine SL.step (PS.move rfl tt rfl rfl) ?_
          refine SL.step (PS.move rfl tt rfl rfl) ?_
          refine SL.step (PS.geq rfl (fun h => h) rfl tt rfl rfl) ?_
          refine SL.step (PS.pick_and rfl tt rfl (fun h h2 => pk_and h h2) rfl rfl) ?_
          refine SL.step (PS.move rfl tt rfl rfl) ?_
          refine SL.step (PS.move rfl tt rfl rfl) ?_
          refine SL.step (PS.leq rfl (fun h => h) rfl tt rfl rfl) ?_
          refine SL.step (PS.pick_and rfl tt rfl (fun h h2 => pk_and h h2) rfl rfl) ?_
          refine SL.step (PS.assign rfl tt rfl rfl) ?_
          refine SL.keep (l' := [(4, _, _)]) ⟨rfl, trivial⟩ ?_
          refine SL.nil (SE.thenK hK24 (SC.ret (SE.block_ret (SE.then_ret ?_))))
          exact finV1 rfl rfl (fun _ _ => congrArg (fun z : Bool => Value.bool z) (show (d_latheref10_such p0 p1) = ((((p1 == 1) && (decide (1 ≤ p0.t))) && (decide (p0.t ≤ 65))) : Bool) from ((bifF c16).trans ((bifF c19).trans ((bifF c19a).trans ((bifF c32).trans ((bifF c32a).trans ((bifF c32b).trans ((bifF c50).trans (bifT c62))))))))).symm)
         ·
          refine SC.seq (fun K25 hK25 => SC.region ?_)
          refine SL.step (PS.eql rfl tt rfl tt rfl rfl) ?_
          refine SL.step (PS.assign rfl tt rfl rfl) ?_
          refine SL.keep (l' := [(74, _, _), (5, _, _), (2, _, _), (1, _, _)]) ⟨rfl, rfl, rfl, rfl, trivial⟩ ?_
          refine SL.nil (SE.thenK hK25 ?_)
          refine SC.cond rfl (fun c74 => ?_) (fun c74 => ?_)
          ·
           refine SC.seq (fun K26 hK26 => SC.region ?_)
           refine SL.step (PS.move rfl tt rfl rfl) ?_
           refine SL.step (PS.eql rfl tt rfl tt rfl rfl) ?_
           refine SL.step (PS.move rfl tt rfl rfl) ?_
           refine SL.step (PS.move rfl tt rfl rfl) ?_
           refine SL.step (PS.eql rfl (fun h => h) rfl tt rfl rfl) ?_
           refine SL.step (PS.pick_and rfl tt rfl (fun h h2 => pk_and h h2) rfl rfl) ?_
           refine SL.step (PS.assign rfl tt rfl rfl) ?_
           refine SL.keep (l' := [(4, _, _)]) ⟨rfl, trivial⟩ ?_
           refine SL.nil (SE.thenK hK26 (SC.ret (SE.block_ret (SE.then_ret ?_))))
           exact finV1 rfl rfl (fun _ _ => congrArg (fun z : Bool => Value.bool z) (show (d_latheref10_such p0 p1) = (((p1 == 2) && (p0.t == 65)) : Bool) from ((bifF c16).trans ((bifF c19).trans ((bifF c19a).trans ((bifF c32).trans ((bifF c32a).trans ((bifF c32b).trans ((bifF c50).trans ((bifF c62).trans (bifT c74)))))))))).symm)
          ·
           refine SC.skip (SE.block_normal (SE.thenK hK6 (SC.seq (fun K27 hK27 => SC.region ?_))))
           refine SL.step (PS.fieldAddr rfl tt Try.fieldAt_25_0 rfl rfl) ?_
           refine SL.step (PS.load_own (k := 0) rfl tt rfl rfl rfl Try.isAgg3 rfl rfl) ?_
           refine SL.step (PS.geq rfl tt rfl tt rfl rfl) ?_
           refine SL.step (PS.move rfl tt rfl rfl) ?_
           refine SL.step (PS.fieldAddr rfl tt Try.fieldAt_25_0 rfl rfl) ?_
           refine SL.step (PS.load_own (k := 0) rfl (fun h => h) rfl rfl rfl Try.isAgg3 rfl rfl) ?_
           refine SL.step (PS.leq rfl (fun h => h) rfl tt rfl rfl) ?_
           refine SL.step (PS.pick_and rfl tt rfl (fun h h2 => pk_and h h2) rfl rfl) ?_
           refine SL.step (PS.move rfl tt rfl rfl) ?_
           refine SL.step (PS.move rfl tt rfl rfl) ?_
           refine SL.step (PS.eql rfl (fun h => h) rfl tt rfl rfl) ?_
           refine SL.step (PS.pick_and rfl tt rfl (fun h h2 => pk_and h h2) rfl rfl) ?_
           refine SL.step (PS.move rfl tt rfl rfl) ?_
           refine SL.step (PS.move rfl tt rfl rfl) ?_
           refine SL.step (PS.geq rfl (fun h => h) rfl tt rfl rfl) ?_
           refine SL.step (PS.pick_and rfl tt rfl (fun h h2 => pk_and h h2) rfl rfl) ?_
           refine SL.step (PS.move rfl tt rfl rfl) ?_
           refine SL.step (PS.move rfl tt rfl rfl) ?_
           refine SL.step (PS.leq rfl (fun h => h) rfl tt rfl rfl) ?_
           refine SL.step (PS.pick_and rfl tt rfl (fun h h2 => pk_and h h2) rfl rfl) ?_
           refine SL.step (PS.assign rfl tt rfl rfl) ?_
           refine SL.keep (l' := [(4, _, _)]) ⟨rfl, trivial⟩ ?_
           refine SL.nil (SE.thenK hK27 (SC.ret ?_))
           exact finV1 rfl rfl (fun _ _ => congrArg (fun z : Bool => Value.bool z) (show (d_latheref10_such p0 p1) = ((((((decide (1 ≤ p0.op)) && (decide (p0.op ≤ 19))) && (p1 == 2)) && (decide (1 ≤ p0.t))) && (decide (p0.t ≤ 64))) : Bool) from ((bifF c16).trans ((bifF c19).trans ((bifF c19a).trans ((bifF c32).trans ((bifF c32a).trans ((bifF c32b).trans ((bifF c50).trans ((bifF c62).trans (bifF c74)))))))))).symm)
def d_latheref10_kind (p0 : Ins) (p1 : Int) : Int :=
  bif (p0.op == 20) then
   p0.n
  else bif (p0.op == 21) then
    p0.n
   else bif (p0.op == 22) then
     p0.n
    else bif (p0.op == 23) then
      bif (p1 == 0) then
       1
      else p0.t
     else bif (p0.op == 29) then
       bif (p1 == 1) then
        64
       else p0.t
      else p0.t
theorem latheref10_kind_V (p0 : Ins) (p1 : Int)  : SpecV Try.prog 27 [.agg [.int .i64 p0.op, .int .i64 p0.reg, .int .i64 p0.t, .int .i64 p0.n, .int .i64 p0.f, .slice p0.args.a p0.args.l.length p0.args.cap, .slice p0.to.a p0.to.l.length p0.to.cap].toArray, .int .i64 p1] (Value.int .i64 (d_latheref10_kind p0 p1)) := by
  refine SpecV.enter Try.func27 rfl (n := 23) Try.ntmps27 (Nat.le_of_ble_eq_true rfl) (l := [(0, _, _), (1, _, _)]) rfl ?_
  intro w
  refine SC.seq (fun K1 hK1 => SC.region ?_)
  refine SL.box (cs := [_, _, _, _, _, _, _]) rfl rfl rfl rfl rfl (fun b2 => ?_)
  refine SL.step (PS.assign rfl tt rfl rfl) ?_
  refine SL.keep (l' := [(2, _, _), (1, _, _)]) ⟨rfl, rfl, trivial⟩ ?_
  refine SL.nil (SE.thenK hK1 (SC.seq (fun K2 hK2 => SC.seq (fun K3 hK3 => SC.region ?_))))
  refine SL.step (PS.fieldAddr rfl tt Try.fieldAt_25_0 rfl rfl) ?_
  refine SL.step (PS.load_own (k := 0) rfl tt rfl rfl rfl Try.isAgg3 rfl rfl) ?_
  refine SL.keep (l' := [(6, _, _), (2, _, _), (1, _, _)]) ⟨rfl, rfl, rfl, trivial⟩ ?_
  refine SL.nil (SE.thenK hK3 (SC.block (SC.seq (fun K4 hK4 => SC.seq (fun K5 hK5 => SC.region ?_)))))
  refine SL.step (PS.eql rfl tt rfl tt rfl rfl) ?_
  refine SL.step (PS.assign rfl tt rfl rfl) ?_
  refine SL.keep (l' := [(7, _, _), (6, _, _), (2, _, _), (1, _, _)]) ⟨rfl, rfl, rfl, rfl, trivial⟩ ?_
  refine SL.nil (SE.thenK hK5 ?_)
  refine SC.cond rfl (fun c7 => ?_) (fun c7 => ?_)
  ·
   refine SC.skip (SE.thenK hK4 (SC.cond_t rfl c7 (SC.seq (fun K6 hK6 => SC.region ?_))))
   refine SL.step (PS.fieldAddr rfl tt Try.fieldAt_25_3 rfl rfl) ?_
   refine SL.step (PS.load_own (k := 0) rfl tt rfl rfl rfl Try.isAgg3 rfl rfl) ?_
   refine SL.step (PS.assign rfl tt rfl rfl) ?_
   refine SL.keep (l' := [(4, _, _)]) ⟨rfl, trivial⟩ ?_
   refine SL.nil (SE.thenK hK6 (SC.ret (SE.block_ret (SE.then_ret ?_))))
   exact finV1 rfl rfl (fun _ _ => congrArg (fun z : Int => Value.int .i64 z) (show (d_latheref10_kind p0 p1) = (p0.n : Int) from (bifT c7)).symm)
  ·
   refine SC.seq (fun K7 hK7 => SC.region ?_)
   refine SL.step (PS.eql rfl tt rfl tt rfl rfl) ?_
   refine SL.step (PS.assign rfl tt rfl rfl) ?_
   refine SL.keep (l' := [(7, _, _), (6, _, _), (2, _, _), (1, _, _)]) ⟨rfl, rfl, rfl, rfl, trivial⟩ ?_
   refine SL.nil (SE.thenK hK7 ?_)
   refine SC.cond rfl (fun c7a => ?_) (fun c7a => ?_)
   ·
    refine SC.skip (SE.thenK hK4 (SC.cond_t rfl c7a (SC.seq (fun K8 hK8 => SC.region ?_))))
    refine SL.step (PS.fieldAddr rfl tt Try.fieldAt_25_3 rfl rfl) ?_
    refine SL.step (PS.load_own (k := 0) rfl tt rfl rfl rfl Try.isAgg3 rfl rfl) ?_
    refine SL.step (PS.assign rfl tt rfl rfl) ?_
    refine SL.keep (l' := [(4, _, _)]) ⟨rfl, trivial⟩ ?_
    refine SL.nil (SE.thenK hK8 (SC.ret (SE.block_ret (SE.then_ret ?_))))
    exact finV1 rfl rfl (fun _ _ => congrArg (fun z : Int => Value.int .i64 z) (show (d_latheref10_kind p0 p1) = (p0.n : Int) from ((bifF c7).trans (bifT c7a))).symm)
   ·
    refine SC.region ?_
    refine SL.step (PS.eql rfl tt rfl tt rfl rfl) ?_
    refine SL.step (PS.assign rfl tt rfl rfl) ?_
    refine SL.keep (l' := [(7, _, _), (6, _, _), (2, _, _), (1, _, _)]) ⟨rfl, rfl, rfl, rfl, trivial⟩ ?_
    refine SL.nil (SE.thenK hK4 ?_)
    refine SC.cond rfl (fun c7b => ?_) (fun c7b => ?_)
    ·
     refine SC.seq (fun K9 hK9 => SC.region ?_)
     refine SL.step (PS.fieldAddr rfl tt Try.fieldAt_25_3 rfl rfl) ?_
     refine SL.step (PS.load_own (k := 0) rfl tt rfl rfl rfl Try.isAgg3 rfl rfl) ?_
     refine SL.step (PS.assign rfl tt rfl rfl) ?_
     refine SL.keep (l' := [(4, _, _)]) ⟨rfl, trivial⟩ ?_
     refine SL.nil (SE.thenK hK9 (SC.ret (SE.block_ret (SE.then_ret ?_))))
     exact finV1 rfl rfl (fun _ _ => congrArg (fun z : Int => Value.int .i64 z) (show (d_latheref10_kind p0 p1) = (p0.n : Int) from ((bifF c7).trans ((bifF c7a).trans (bifT c7b)))).symm)
    ·
     refine SC.seq (fun K10 hK10 => SC.region ?_)
     refine SL.step (PS.eql rfl tt rfl tt rfl rfl) ?_
     refine SL.step (PS.assign rfl tt rfl rfl) ?_
     refine SL.keep (l' := [(13, _, _), (6, _, _), (2, _, _), (1, _, _)]) ⟨rfl, rfl, rfl, rfl, trivial⟩ ?_
     refine SL.nil (SE.thenK hK10 ?_)
     refine SC.cond rfl (fun c13 => ?_) (fun c13 => ?_)
     ·
      refine SC.seq (fun K11 hK11 => SC.region ?_)
      refine SL.step (PS.move rfl tt rfl rfl) ?_
      refine SL.step (PS.eql rfl tt rfl tt rfl rfl) ?_
      refine SL.keep (l' := [(16, _, _), (2, _, _)]) ⟨rfl, rfl, trivial⟩ ?_
      refine SL.nil (SE.thenK hK11 ?_)
      refine SC.cond rfl (fun c16 => ?_) (fun c16 => ?_)
      ·
       refine SC.seq (fun K12 hK12 => SC.region ?_)
       refine SL.step (PS.assign rfl tt rfl rfl) ?_
       refine SL.keep (l' := [(4, _, _)]) ⟨rfl, trivial⟩ ?_
       refine SL.nil (SE.thenK hK12 (SC.ret (SE.block_ret (SE.then_ret ?_))))
       exact finV1 rfl rfl (fun _ _ => congrArg (fun z : Int => Value.int .i64 z) (show (d_latheref10_kind p0 p1) = (1 : Int) from ((bifF c7).trans ((bifF c7a).trans ((bifF c7b).trans ((bifT c13).trans (bifT c16)))))).symm)
      ·
       refine SC.skip (SE.block_normal (SE.thenK hK2 (SC.seq (fun K13 hK13 => SC.region ?_))))
       refine SL.step (PS.fieldAddr rfl tt Try.fieldAt_25_2 rfl rfl) ?_
       refine SL.step (PS.load_own (k := 0) rfl tt rfl rfl rfl Try.isAgg3 rfl rfl) ?_
       refine SL.step (PS.assign rfl tt rfl rfl) ?_
       refine SL.keep (l' := [(4, _, _)]) ⟨rfl, trivial⟩ ?_
       refine SL.nil (SE.thenK hK13 (SC.ret ?_))
       exact finV1 rfl rfl (fun _ _ => congrArg (fun z : Int => Value.int .i64 z) (show (d_latheref10_kind p0 p1) = (p0.t : Int) from ((bifF c7).trans ((bifF c7a).trans ((bifF c7b).trans ((bifT c13).trans (bifF c16)))))).symm)
     ·
      refine SC.seq (fun K14 hK14 => SC.region ?_)
      refine SL.step (PS.eql rfl tt rfl tt rfl rfl) ?_
      refine SL.step (PS.assign rfl tt rfl rfl) ?_
      refine SL.keep (l' := [(17, _, _), (2, _, _), (1, _, _)]) ⟨rfl, rfl, rfl, trivial⟩ ?_
      refine SL.nil (SE.thenK hK14 ?_)
      refine SC.cond rfl (fun c17 => ?_) (fun c17 => ?_)
      ·
       refine SC.seq (fun K15 hK15 => SC.region ?_)
       refine SL.step (PS.move rfl tt rfl rfl) ?_
       refine SL.step (PS.eql rfl tt rfl tt rfl rfl) ?_
       refine SL.keep (l' := [(20, _, _), (2, _, _)]) ⟨rfl, rfl, trivial⟩ ?_
       refine SL.nil (SE.thenK hK15 ?_)
       refine SC.cond rfl (fun c20 => ?_) (fun c20 => ?_)
       ·
        refine SC.seq (fun K16 hK16 => SC.region ?_)
        refine SL.step (PS.assign rfl tt rfl rfl) ?_
        refine SL.keep (l' := [(4, _, _)]) ⟨rfl, trivial⟩ ?_
        refine SL.nil (SE.thenK hK16 (SC.ret (SE.block_ret (SE.then_ret ?_))))
        exact finV1 rfl rfl (fun _ _ => congrArg (fun z : Int => Value.int .i64 z) (show (d_latheref10_kind p0 p1) = (64 : Int) from ((bifF c7).trans ((bifF c7a).trans ((bifF c7b).trans ((bifF c13).trans ((bifT c17).trans (bifT c20))))))).symm)
       ·
        refine SC.skip (SE.block_normal (SE.thenK hK2 (SC.seq (fun K17 hK17 => SC.region ?_))))
        refine SL.step (PS.fieldAddr rfl tt Try.fieldAt_25_2 rfl rfl) ?_
        refine SL.step (PS.load_own (k := 0) rfl tt rfl rfl rfl Try.isAgg3 rfl rfl) ?_
        refine SL.step (PS.assign rfl tt rfl rfl) ?_
        refine SL.keep (l' := [(4, _, _)]) ⟨rfl, trivial⟩ ?_
        refine SL.nil (SE.thenK hK17 (SC.ret ?_))
        exact finV1 rfl rfl (fun _ _ => congrArg (fun z : Int => Value.int .i64 z) (show (d_latheref10_kind p0 p1) = (p0.t : Int) from ((bifF c7).trans ((bifF c7a).trans ((bifF c7b).trans ((bifF c13).trans ((bifT c17).trans (bifF c20))))))).symm)
      ·
       refine SC.skip (SE.block_normal (SE.thenK hK2 (SC.seq (fun K18 hK18 => SC.region ?_))))
       refine SL.step (PS.fieldAddr rfl tt Try.fieldAt_25_2 rfl rfl) ?_
       refine SL.step (PS.load_own (k := 0) rfl tt rfl rfl rfl Try.isAgg3 rfl rfl) ?_
       refine SL.step (PS.assign rfl tt rfl rfl) ?_
       refine SL.keep (l' := [(4, _, _)]) ⟨rfl, trivial⟩ ?_
       refine SL.nil (SE.thenK hK18 (SC.ret ?_))
       exact finV1 rfl rfl (fun _ _ => congrArg (fun z : Int => Value.int .i64 z) (show (d_latheref10_kind p0 p1) = (p0.t : Int) from ((bifF c7).trans ((bifF c7a).trans ((bifF c7b).trans ((bifF c13).trans (bifF c17)))))).symm)
def d_latheref10_number (p0 : Int) : Vl :=
  (⟨1, p0, 0, 0⟩ : Vl)
theorem latheref10_number_V (p0 : Int)  : SpecV Try.prog 33 [.int .u64 p0] (Value.agg [.int .i64 ((d_latheref10_number p0).k), .int .u64 ((d_latheref10_number p0).b), .int .i64 ((d_latheref10_number p0).bl), .int .i64 ((d_latheref10_number p0).off)].toArray) := by
  refine SpecV.enter Try.func33 rfl (n := 5) Try.ntmps33 (Nat.le_of_ble_eq_true rfl) (l := [(0, _, _)]) rfl ?_
  intro w
  refine SC.seq (fun K1 hK1 => SC.region ?_)
  refine SL.alloc (cs := [_, _, _, _]) Try.zeroValue35 rfl rfl rfl (fun b2 => ?_)
  refine SL.nil (SE.thenK hK1 (SC.seq (fun K2 hK2 => SC.region ?_)))
  refine SL.step (PS.move rfl tt rfl rfl) ?_
  refine SL.step (PS.build (us := [(0, _), (1, _)]) (vs := [_, _, _, _]) ⟨rfl, ⟨_, rfl, tt⟩, ⟨rfl, ⟨_, rfl, tt⟩, trivial⟩⟩ Try.underlying35 Try.zeroValue35 (Try.places_35 Try.underlying35) rfl rfl rfl) ?_
  refine SL.store_own (k := 0) (own' := [_]) (cs' := [_, _, _, _]) rfl rfl rfl rfl rfl rfl rfl Try.sizeOf35 rfl (Nat.le_of_ble_eq_true rfl) rfl rfl rfl rfl ?_
  refine SL.keep (l' := [(2, _, _)]) ⟨rfl, trivial⟩ ?_
  refine SL.nil (SE.thenK hK2 (SC.ret ?_))
  exact finVc (k := 0) rfl Try.isAgg35 Try.sizeOf35 rfl rfl rfl rfl (fun _ _ => congrArg (fun z : Vl => Value.agg [.int .i64 z.k, .int .u64 z.b, .int .i64 z.bl, .int .i64 z.off].toArray) (show (d_latheref10_number p0) = ((⟨1, p0, 0, 0⟩ : Vl) : Vl) from rfl).symm)
def d_latheref10_truth (p0 : Bool) : Vl :=
  bif p0 then
   (d_latheref10_number 1)
  else (d_latheref10_number 0)
theorem latheref10_truth_V (p0 : Bool)  : SpecV Try.prog 48 [.bool p0] (Value.agg [.int .i64 ((d_latheref10_truth p0).k), .int .u64 ((d_latheref10_truth p0).b), .int .i64 ((d_latheref10_truth p0).bl), .int .i64 ((d_latheref10_truth p0).off)].toArray) := by
  refine SpecV.enter Try.func48 rfl (n := 6) Try.ntmps48 (Nat.le_of_ble_eq_true rfl) (l := [(0, _, _)]) rfl ?_
  intro w
  refine SC.seq (fun K1 hK1 => SC.region ?_)
  refine SL.alloc (cs := [_, _, _, _]) Try.zeroValue35 rfl rfl rfl (fun b2 => ?_)
  refine SL.nil (SE.thenK hK1 (SC.seq (fun K2 hK2 => SC.seq (fun K3 hK3 => SC.region ?_))))
  refine SL.step (PS.move rfl tt rfl rfl) ?_
  refine SL.keep (l' := [(3, _, _), (2, _, _)]) ⟨rfl, rfl, trivial⟩ ?_
  refine SL.nil (SE.thenK hK3 ?_)
  refine SC.cond rfl (fun c3 => ?_) (fun c3 => ?_)
  ·
   refine SC.seq (fun K4 hK4 => SC.region ?_)
   refine SL.callV (vs := [_]) Try.call33 ⟨⟨_, rfl, tt⟩, trivial⟩ (fun hg => latheref10_number_V 1 ) rfl rfl ?_
   refine SL.store_own (k := 0) (own' := [_]) (cs' := [_, _, _, _]) rfl rfl rfl rfl rfl rfl rfl Try.sizeOf35 rfl (Nat.le_of_ble_eq_true rfl) rfl rfl rfl rfl ?_
   refine SL.keep (l' := [(2, _, _)]) ⟨rfl, trivial⟩ ?_
   refine SL.nil (SE.thenK hK4 (SC.ret (SE.then_ret ?_)))
   exact finVc (k := 0) rfl Try.isAgg35 Try.sizeOf35 rfl rfl rfl rfl (fun _ _ => congrArg (fun z : Vl => Value.agg [.int .i64 z.k, .int .u64 z.b, .int .i64 z.bl, .int .i64 z.off].toArray) (show (d_latheref10_truth p0) = ((d_latheref10_number 1) : Vl) from (bifT c3)).symm)
  ·
   refine SC.skip (SE.thenK hK2 (SC.seq (fun K5 hK5 => SC.region ?_)))
   refine SL.callV (vs := [_]) Try.call33 ⟨⟨_, rfl, tt⟩, trivial⟩ (fun hg => latheref10_number_V 0 ) rfl rfl ?_
   refine SL.store_own (k := 0) (own' := [_]) (cs' := [_, _, _, _]) rfl rfl rfl rfl rfl rfl rfl Try.sizeOf35 rfl (Nat.le_of_ble_eq_true rfl) rfl rfl rfl rfl ?_
   refine SL.keep (l' := [(2, _, _)]) ⟨rfl, trivial⟩ ?_
   refine SL.nil (SE.thenK hK5 (SC.ret ?_))
   exact finVc (k := 0) rfl Try.isAgg35 Try.sizeOf35 rfl rfl rfl rfl (fun _ _ => congrArg (fun z : Vl => Value.agg [.int .i64 z.k, .int .u64 z.b, .int .i64 z.bl, .int .i64 z.off].toArray) (show (d_latheref10_truth p0) = ((d_latheref10_number 0) : Vl) from (bifF c3)).symm)
def d_latheref10_Any  : Vl :=
  (⟨3, 0, 0, 0⟩ : Vl)
theorem latheref10_Any_V   : SpecV Try.prog 31 [] (Value.agg [.int .i64 d_latheref10_Any.k, .int .u64 d_latheref10_Any.b, .int .i64 d_latheref10_Any.bl, .int .i64 d_latheref10_Any.off].toArray) := by
  refine SpecV.enter Try.func31 rfl (n := 2) Try.ntmps31 (Nat.le_of_ble_eq_true rfl) (l := []) rfl ?_
  intro w
  refine SC.seq (fun K1 hK1 => SC.region ?_)
  refine SL.alloc (cs := [_, _, _, _]) Try.zeroValue35 rfl rfl rfl (fun b0 => ?_)
  refine SL.nil (SE.thenK hK1 (SC.seq (fun K2 hK2 => SC.region ?_)))
  refine SL.step (PS.build (us := [(0, _)]) (vs := [_, _, _, _]) ⟨rfl, ⟨_, rfl, tt⟩, trivial⟩ Try.underlying35 Try.zeroValue35 (Try.places_35 Try.underlying35) rfl rfl rfl) ?_
  refine SL.store_own (k := 0) (own' := [_]) (cs' := [_, _, _, _]) rfl rfl rfl rfl rfl rfl rfl Try.sizeOf35 rfl (Nat.le_of_ble_eq_true rfl) rfl rfl rfl rfl ?_
  refine SL.keep (l' := [(0, _, _)]) ⟨rfl, trivial⟩ ?_
  refine SL.nil (SE.thenK hK2 (SC.ret ?_))
  exact finVc (k := 0) rfl Try.isAgg35 Try.sizeOf35 rfl rfl rfl rfl (fun _ _ => congrArg (fun z : Vl => Value.agg [.int .i64 z.k, .int .u64 z.b, .int .i64 z.bl, .int .i64 z.off].toArray) (show d_latheref10_Any = ((⟨3, 0, 0, 0⟩ : Vl) : Vl) from rfl).symm)
def d_latheref10_applied (p0 : Ins) (p1 : Int) (p2 : Int) : Vl × Int :=
  bif ((d_latheref01_Apply p0.op p0.t p0.f p1 p2).2 == 2) then
   ((⟨0, 0, 0, 0⟩ : Vl), 2)
  else bif ((d_latheref01_Apply p0.op p0.t p0.f p1 p2).2 == 1) then
    ((⟨0, 0, 0, 0⟩ : Vl), 0)
   else ((d_latheref10_number ((d_latheref01_Apply p0.op p0.t p0.f p1 p2).1)), 0)
theorem latheref10_applied_V (p0 : Ins) (p1 : Int) (p2 : Int) (hb : 0 ≤ p2 ∧ p2 < 18446744073709551616) : SpecV Try.prog 44 [.agg [.int .i64 p0.op, .int .i64 p0.reg, .int .i64 p0.t, .int .i64 p0.n, .int .i64 p0.f, .slice p0.args.a p0.args.l.length p0.args.cap, .slice p0.to.a p0.to.l.length p0.to.cap].toArray, .int .u64 p1, .int .u64 p2] (Value.tuple #[Value.agg [.int .i64 (((d_latheref10_applied p0 p1 p2).1).k), .int .u64 (((d_latheref10_applied p0 p1 p2).1).b), .int .i64 (((d_latheref10_applied p0 p1 p2).1).bl), .int .i64 (((d_latheref10_applied p0 p1 p2).1).off)].toArray, Value.int .i64 (d_latheref10_applied p0 p1 p2).2]) := by
  refine SpecV.enter Try.func44 rfl (n := 30) Try.ntmps44 (Nat.le_of_ble_eq_true rfl) (l := [(0, _, _), (1, _, _), (2, _, _)]) rfl ?_
  intro w
  refine SC.seq (fun K1 hK1 => SC.region ?_)
  refine SL.box (cs := [_, _, _, _, _, _, _]) rfl rfl rfl rfl rfl (fun b3 => ?_)
  refine SL.alloc (cs := [_, _, _, _]) Try.zeroValue35 rfl rfl rfl (fun b6 => ?_)
  refine SL.step (PS.assign rfl tt rfl rfl) ?_
  refine SL.keep (l' := [(6, _, _), (3, _, _), (1, _, _), (2, _, _)]) ⟨rfl, rfl, rfl, rfl, trivial⟩ ?_
  refine SL.nil (SE.thenK hK1 (SC.seq (fun K2 hK2 => SC.region ?_)))
  refine SL.step (PS.fieldAddr rfl tt Try.fieldAt_25_0 rfl rfl) ?_
  refine SL.step (PS.load_own (k := 1) rfl tt rfl rfl rfl Try.isAgg3 rfl rfl) ?_
  refine SL.step (PS.fieldAddr rfl tt Try.fieldAt_25_2 rfl rfl) ?_
  refine SL.step (PS.load_own (k := 1) rfl tt rfl rfl rfl Try.isAgg3 rfl rfl) ?_
  refine SL.step (PS.fieldAddr rfl tt Try.fieldAt_25_4 rfl rfl) ?_
  refine SL.step (PS.load_own (k := 1) rfl tt rfl rfl rfl Try.isAgg3 rfl rfl) ?_
  refine SL.step (PS.move rfl tt rfl rfl) ?_
  refine SL.step (PS.move rfl tt rfl rfl) ?_
  refine SL.callV (vs := [_, _, _, _, _]) Try.call53 ⟨⟨_, rfl, tt⟩, ⟨_, rfl, tt⟩, ⟨_, rfl, tt⟩, ⟨_, rfl, tt⟩, ⟨_, rfl, tt⟩, trivial⟩ (fun hg => latheref01_Apply_V p0.op p0.t p0.f p1 p2 (by omega)) rfl rfl ?_
  refine SL.step (PS.move rfl tt rfl rfl) ?_
  refine SL.step (PS.extract rfl tt rfl rfl rfl) ?_
  refine SL.step (PS.extract rfl tt rfl rfl rfl) ?_
  refine SL.step (PS.assign rfl tt rfl rfl) ?_
  refine SL.step (PS.assign rfl tt rfl rfl) ?_
  refine SL.keep (l' := [(9, _, _), (8, _, _), (6, _, _)]) ⟨rfl, rfl, rfl, trivial⟩ ?_
  refine SL.nil (SE.thenK hK2 (SC.seq (fun K3 hK3 => SC.seq (fun K4 hK4 => SC.region ?_))))
  refine SL.step (PS.move rfl tt rfl rfl) ?_
  refine SL.step (PS.eql rfl tt rfl tt rfl rfl) ?_
  refine SL.keep (l' := [(23, _, _), (9, _, _), (8, _, _), (6, _, _)]) ⟨rfl, rfl, rfl, rfl, trivial⟩ ?_
  refine SL.nil (SE.thenK hK4 ?_)
  refine SC.cond rfl (fun c23 => ?_) (fun c23 => ?_)
  ·
   refine SC.seq (fun K5 hK5 => SC.region ?_)
   refine SL.step (PS.build (us := []) (vs := [_, _, _, _]) trivial Try.underlying35 Try.zeroValue35 (Try.places_35 Try.underlying35) rfl rfl rfl) ?_
   refine SL.store_own (k := 0) (own' := [_, _]) (cs' := [_, _, _, _]) rfl rfl rfl rfl rfl rfl rfl Try.sizeOf35 rfl (Nat.le_of_ble_eq_true rfl) rfl rfl rfl rfl ?_
   refine SL.step (PS.assign rfl tt rfl rfl) ?_
   refine SL.keep (l' := [(7, _, _), (6, _, _)]) ⟨rfl, rfl, trivial⟩ ?_
   refine SL.nil (SE.thenK hK5 (SC.ret (SE.then_ret ?_)))
   exact finVct (k := 0) rfl Try.isAgg35 Try.sizeOf35 rfl rfl rfl rfl rfl (fun _ _ => congrArg (fun z : Vl × Int => Value.tuple #[Value.agg [.int .i64 z.1.k, .int .u64 z.1.b, .int .i64 z.1.bl, .int .i64 z.1.off].toArray, Value.int .i64 z.2]) (show (d_latheref10_applied p0 p1 p2) = (((⟨0, 0, 0, 0⟩ : Vl), 2) : Vl × Int) from (bifT c23)).symm)
  ·
   refine SC.skip (SE.thenK hK3 (SC.seq (fun K6 hK6 => SC.seq (fun K7 hK7 => SC.region ?_))))
   refine SL.step (PS.move rfl tt rfl rfl) ?_
   refine SL.step (PS.eql rfl tt rfl tt rfl rfl) ?_
   refine SL.keep (l' := [(26, _, _), (8, _, _), (6, _, _)]) ⟨rfl, rfl, rfl, trivial⟩ ?_
   refine SL.nil (SE.thenK hK7 ?_)
   refine SC.cond rfl (fun c26 => ?_) (fun c26 => ?_)
   ·
    refine SC.seq (fun K8 hK8 => SC.region ?_)
    refine SL.step (PS.build (us := []) (vs := [_, _, _, _]) trivial Try.underlying35 Try.zeroValue35 (Try.places_35 Try.underlying35) rfl rfl rfl) ?_
    refine SL.store_own (k := 0) (own' := [_, _]) (cs' := [_, _, _, _]) rfl rfl rfl rfl rfl rfl rfl Try.sizeOf35 rfl (Nat.le_of_ble_eq_true rfl) rfl rfl rfl rfl ?_
    refine SL.step (PS.assign rfl tt rfl rfl) ?_
    refine SL.keep (l' := [(7, _, _), (6, _, _)]) ⟨rfl, rfl, trivial⟩ ?_
    refine SL.nil (SE.thenK hK8 (SC.ret (SE.then_ret ?_)))
    exact finVct (k := 0) rfl Try.isAgg35 Try.sizeOf35 rfl rfl rfl rfl rfl (fun _ _ => congrArg (fun z : Vl × Int => Value.tuple #[Value.agg [.int .i64 z.1.k, .int .u64 z.1.b, .int .i64 z.1.bl, .int .i64 z.1.off].toArray, Value.int .i64 z.2]) (show (d_latheref10_applied p0 p1 p2) = (((⟨0, 0, 0, 0⟩ : Vl), 0) : Vl × Int) from ((bifF c23).trans (bifT c26))).symm)
   ·
    refine SC.skip (SE.thenK hK6 (SC.seq (fun K9 hK9 => SC.region ?_)))
    refine SL.step (PS.move rfl tt rfl rfl) ?_
    refine SL.callV (vs := [_]) Try.call33 ⟨⟨_, rfl, tt⟩, trivial⟩ (fun hg => latheref10_number_V ((d_latheref01_Apply p0.op p0.t p0.f p1 p2).1) ) rfl rfl ?_
    refine SL.store_own (k := 0) (own' := [_, _]) (cs' := [_, _, _, _]) rfl rfl rfl rfl rfl rfl rfl Try.sizeOf35 rfl (Nat.le_of_ble_eq_true rfl) rfl rfl rfl rfl ?_
    refine SL.step (PS.assign rfl tt rfl rfl) ?_
    refine SL.keep (l' := [(7, _, _), (6, _, _)]) ⟨rfl, rfl, trivial⟩ ?_
    refine SL.nil (SE.thenK hK9 (SC.ret ?_))
    exact finVct (k := 0) rfl Try.isAgg35 Try.sizeOf35 rfl rfl rfl rfl rfl (fun _ _ => congrArg (fun z : Vl × Int => Value.tuple #[Value.agg [.int .i64 z.1.k, .int .u64 z.1.b, .int .i64 z.1.bl, .int .i64 z.1.off].toArray, Value.int .i64 z.2]) (show (d_latheref10_applied p0 p1 p2) = (((d_latheref10_number ((d_latheref01_Apply p0.op p0.t p0.f p1 p2).1)), 0) : Vl × Int) from ((bifF c23).trans (bifF c26))).symm)
def d_latheref10_divided (p0 : Ins) (p1 : Vl) (p2 : Vl) : Vl × Int :=
  bif ((p2.k == 0) || ((p2.k == 1) && (p2.b == 0))) then
   ((⟨0, 0, 0, 0⟩ : Vl), 2)
  else bif (p2.k == 3) then
    ((⟨0, 0, 0, 0⟩ : Vl), 4)
   else bif (((((p0.op == 5) || (p0.op == 7)) && (p2.k == 1)) && (p2.b == (d_latheref01_Mask p0.t))) && (p1.k == 0)) then
     ((⟨0, 0, 0, 0⟩ : Vl), 2)
    else bif (((((p0.op == 5) || (p0.op == 7)) && (p2.k == 1)) && (p2.b == (d_latheref01_Mask p0.t))) && (p1.k == 3)) then
      ((⟨0, 0, 0, 0⟩ : Vl), 4)
     else bif ((p1.k == 0) || ((p1.k == 3) && (p0.f != 0))) then
       ((⟨0, 0, 0, 0⟩ : Vl), 0)
      else bif (p1.k == 3) then
        (d_latheref10_Any, 0)
       else (((d_latheref10_applied p0 p1.b p2.b).1), (d_latheref10_applied p0 p1.b p2.b).2)
theorem latheref10_divided_V (p0 : Ins) (p1 : Vl) (p2 : Vl) (hb : 0 ≤ p2.b ∧ p2.b < 18446744073709551616) : SpecV Try.prog 28 [.agg [.int .i64 p0.op, .int .i64 p0.reg, .int .i64 p0.t, .int .i64 p0.n, .int .i64 p0.f, .slice p0.args.a p0.args.l.length p0.args.cap, .slice p0.to.a p0.to.l.length p0.to.cap].toArray, .agg [.int .i64 p1.k, .int .u64 p1.b, .int .i64 p1.bl, .int .i64 p1.off].toArray, .agg [.int .i64 p2.k, .int .u64 p2.b, .int .i64 p2.bl, .int .i64 p2.off].toArray] (Value.tuple #[Value.agg [.int .i64 (((d_latheref10_divided p0 p1 p2).1).k), .int .u64 (((d_latheref10_divided p0 p1 p2).1).b), .int .i64 (((d_latheref10_divided p0 p1 p2).1).bl), .int .i64 (((d_latheref10_divided p0 p1 p2).1).off)].toArray, Value.int .i64 (d_latheref10_divided p0 p1 p2).2]) := by
  refine SpecV.enter Try.func28 rfl (n := 96) Try.ntmps28 (Nat.le_of_ble_eq_true rfl) (l := [(0, _, _), (1, _, _), (2, _, _)]) rfl ?_
  intro w
  refine SC.seq (fun K1 hK1 => SC.region ?_)
  refine SL.box (cs := [_, _, _, _, _, _, _]) rfl rfl rfl rfl rfl (fun b3 => ?_)
  refine SL.box (cs := [_, _, _, _]) rfl rfl rfl rfl rfl (fun b4 => ?_)
  refine SL.box (cs := [_, _, _, _]) rfl rfl rfl rfl rfl (fun b5 => ?_)
  refine SL.alloc (cs := [_, _, _, _]) Try.zeroValue35 rfl rfl rfl (fun b6 => ?_)
  refine SL.step (PS.assign rfl tt rfl rfl) ?_
  refine SL.keep (l' := [(6, _, _), (5, _, _), (4, _, _), (3, _, _)]) ⟨rfl, rfl, rfl, rfl, trivial⟩ ?_
  refine SL.nil (SE.thenK hK1 (SC.seq (fun K2 hK2 => SC.region ?_)))
  refine SL.step (PS.fieldAddr rfl tt Try.fieldAt_25_0 rfl rfl) ?_
  refine SL.step (PS.load_own (k := 3) rfl tt rfl rfl rfl Try.isAgg3 rfl rfl) ?_
  refine SL.step (PS.eql rfl tt rfl tt rfl rfl) ?_
  refine SL.step (PS.move rfl tt rfl rfl) ?_
  refine SL.step (PS.fieldAddr rfl tt Try.fieldAt_25_0 rfl rfl) ?_
  refine SL.step (PS.load_own (k := 3) rfl (fun h => h) rfl rfl rfl Try.isAgg3 rfl rfl) ?_
  refine SL.step (PS.eql rfl (fun h => h) rfl tt rfl rfl) ?_
  refine SL.step (PS.pick_or rfl tt rfl (fun h h2 => pk_or h h2) rfl rfl) ?_
  refine SL.step (PS.assign rfl tt rfl rfl) ?_
  refine SL.keep (l' := [(8, _, _), (6, _, _), (5, _, _), (4, _, _), (3, _, _)]) ⟨rfl, rfl, rfl, rfl, rfl, trivial⟩ ?_
  refine SL.nil (SE.thenK hK2 (SC.seq (fun K3 hK3 => ?_)))
  refine SC.draw (S := SP _ _ _) 15 (by kernel_rfl) (by kernel_rfl) (fun _ h => h) ?_
  refine SD.take 0 rfl rfl (by kernel_rfl) (PS.move rfl tt rfl rfl) ?_
  refine SD.take 1 rfl rfl (by kernel_rfl) (PS.move rfl tt rfl rfl) ?_
  refine SD.take 2 rfl rfl (by kernel_rfl) (PS.fieldAddr rfl tt Try.fieldAt_35_0 rfl rfl) ?_
  refine SD.take 3 rfl rfl (by kernel_rfl) (PS.load_own (k := 1) rfl (fun h => h) rfl rfl rfl Try.isAgg3 rfl rfl) ?_
  refine SD.take 4 rfl rfl (by kernel_rfl) (PS.eql rfl (fun h => h) rfl tt rfl rfl) ?_
  refine SD.take 5 rfl rfl (by kernel_rfl) (PS.pick_and rfl tt rfl (fun h h2 => pk_and h h2) rfl rfl) ?_
  refine SD.take 6 rfl rfl (by kernel_rfl) (PS.move rfl tt rfl rfl) ?_
  refine SD.take 7 rfl rfl (by kernel_rfl) (PS.fieldAddr rfl tt Try.fieldAt_35_1 rfl rfl) ?_
  refine SD.take 8 rfl rfl (by kernel_rfl) (PS.load_own (k := 1) rfl (fun h => h) rfl rfl rfl Try.isAgg27 rfl rfl) ?_
  refine SD.take 9 rfl rfl (by kernel_rfl) (PS.fieldAddr rfl tt Try.fieldAt_25_2 rfl rfl) ?_
  refine SD.take 10 rfl rfl (by kernel_rfl) (PS.load_own (k := 3) rfl (fun h => h) rfl rfl rfl Try.isAgg3 rfl rfl) ?_
  refine SD.one 11 rfl (by kernel_rfl) (fun inv11 => ?_)
  refine SL.callV (vs := [_]) Try.call43 ⟨⟨_, rfl, (fun h => h)⟩, trivial⟩ (fun hg => latheref01_Mask_V p0.t ) rfl rfl ?_
  refine SL.nil ?_
  refine SE.next (fun _ h => h.drop (List.Sublist.refl _) (fun _ h => h)) inv11 ?_
  refine SD.take 12 rfl rfl (by kernel_rfl) (PS.eql rfl (fun h => h) rfl (fun h => h) rfl rfl) ?_
  refine SD.take 13 rfl rfl (by kernel_rfl) (PS.pick_and rfl tt rfl (fun h h2 => pk_and h h2) rfl rfl) ?_
  refine SD.take 14 rfl rfl (by kernel_rfl) (PS.assign rfl tt rfl rfl) ?_
  clear inv11
  refine SD.tail (by kernel_rfl) (os := []) rfl ?_
  refine SL.keep (l' := [(9, _, _), (6, _, _), (5, _, _), (4, _, _), (3, _, _)]) ⟨rfl, rfl, rfl, rfl, rfl, trivial⟩ ?_
  refine SL.nil (SE.calm (SE.thenK hK3 (SC.seq (fun K4 hK4 => SC.block (SC.seq (fun K5 hK5 => SC.region ?_))))))
  refine SL.step (PS.fieldAddr rfl tt Try.fieldAt_35_0 rfl rfl) ?_
  refine SL.step (PS.load_own (k := 1) rfl tt rfl rfl rfl Try.isAgg3 rfl rfl) ?_
  refine SL.step (PS.eql rfl tt rfl tt rfl rfl) ?_
  refine SL.step (PS.move rfl tt rfl rfl) ?_
  refine SL.step (PS.fieldAddr rfl tt Try.fieldAt_35_0 rfl rfl) ?_
  refine SL.step (PS.load_own (k := 1) rfl (fun h => h) rfl rfl rfl Try.isAgg3 rfl rfl) ?_
  refine SL.step (PS.eql rfl (fun h => h) rfl tt rfl rfl) ?_
  refine SL.step (PS.move rfl (fun h => h) rfl rfl) ?_
  refine SL.step (PS.fieldAddr rfl tt Try.fieldAt_35_1 rfl rfl) ?_
  refine SL.step (PS.load_own (k := 1) rfl (fun h => h) rfl rfl rfl Try.isAgg27 rfl rfl) ?_
  refine SL.step (PS.eql rfl (fun h => h) rfl tt rfl rfl) ?_
  refine SL.step (PS.pick_and rfl (fun h => h) rfl (fun h h2 => pk_and h h2) rfl rfl) ?_
  refine SL.step (PS.pick_or rfl tt rfl (fun h h2 => pk_or h h2) rfl rfl) ?_
  refine SL.step (PS.assign rfl tt rfl rfl) ?_
  refine SL.keep (l' := [(32, _, _), (9, _, _), (6, _, _), (5, _, _), (4, _, _), (3, _, _)]) ⟨rfl, rfl, rfl, rfl, rfl, rfl, trivial⟩ ?_
  refine SL.nil (SE.thenK hK5 ?_)
  refine SC.cond rfl (fun c32 => ?_) (fun c32 => ?_)
  ·
   refine SC.seq (fun K6 hK6 => SC.region ?_)
   refine SL.step (PS.build (us := []) (vs := [_, _, _, _]) trivial Try.underlying35 Try.zeroValue35 (Try.places_35 Try.underlying35) rfl rfl rfl) ?_
   refine SL.store_own (k := 0) (own' := [_, _, _, _]) (cs' := [_, _, _, _]) rfl rfl rfl rfl rfl rfl rfl Try.sizeOf35 rfl (Nat.le_of_ble_eq_true rfl) rfl rfl rfl rfl ?_
   refine SL.step (PS.assign rfl tt rfl rfl) ?_
   refine SL.keep (l' := [(7, _, _), (6, _, _)]) ⟨rfl, rfl, trivial⟩ ?_
   refine SL.nil (SE.thenK hK6 (SC.ret (SE.block_ret (SE.then_ret ?_))))
   exact finVct (k := 0) rfl Try.isAgg35 Try.sizeOf35 rfl rfl rfl rfl rfl (fun _ _ => congrArg (fun z : Vl × Int => Value.tuple #[Value.agg [.int .i64 z.1.k, .int .u64 z.1.b, .int .i64 z.1.bl, .int .i64 z.1.off].toArray, Value.int .i64 z.2]) (show (d_latheref10_divided p0 p1 p2) = (((⟨0, 0, 0, 0⟩ : Vl), 2) : Vl × Int) from (bifT c32)).symm)
  ·
   have c32n := c32
   try simp only [Bool.and_eq_true, Bool.or_eq_true, decide_eq_true_eq, Bool.true_and, Bool.not_eq_true', Bool.not_eq_false', beq_iff_eq, bne_iff_ne, decide_eq_false_iff_not, beq_eq_false_iff_ne, bne_eq_false_iff_eq, ne_eq, Bool.or_eq_false_iff, Bool.and_eq_false_iff] at c32n
   refine SC.seq (fun K7 hK7 => SC.region ?_)
   refine SL.step (PS.fieldAddr rfl tt Try.fieldAt_35_0 rfl rfl) ?_
   refine SL.step (PS.load_own (k := 1) rfl tt rfl rfl rfl Try.isAgg3 rfl rfl) ?_
   refine SL.step (PS.eql rfl tt rfl tt rfl rfl) ?_
   refine SL.step (PS.assign rfl tt rfl rfl) ?_
   refine SL.keep (l' := [(47, _, _), (9, _, _), (6, _, _), (5, _, _), (4, _, _), (3, _, _)]) ⟨rfl, rfl, rfl, rfl, rfl, rfl, trivial⟩ ?_
   refine SL.nil (SE.thenK hK7 ?_)
   refine SC.cond rfl (fun c47 => ?_) (fun c47 => ?_)
   ·
    refine SC.seq (fun K8 hK8 => SC.region ?_)
    refine SL.step (PS.build (us := []) (vs := [_, _, _, _]) trivial Try.underlying35 Try.zeroValue35 (Try.places_35 Try.underlying35) rfl rfl rfl) ?_
    refine SL.store_own (k := 0) (own' := [_, _, _, _]) (cs' := [_, _, _, _]) rfl rfl rfl rfl rfl rfl rfl Try.sizeOf35 rfl (Nat.le_of_ble_eq_true rfl) rfl rfl rfl rfl ?_
    refine SL.step (PS.assign rfl tt rfl rfl) ?_
    refine SL.keep (l' := [(7, _, _), (6, _, _)]) ⟨rfl, rfl, trivial⟩ ?_
    refine SL.nil (SE.thenK hK8 (SC.ret (SE.block_ret (SE.then_ret ?_))))
    exact finVct (k := 0) rfl Try.isAgg35 Try.sizeOf35 rfl rfl rfl rfl rfl (fun _ _ => congrArg (fun z : Vl × Int => Value.tuple #[Value.agg [.int .i64 z.1.k, .int .u64 z.1.b, .int .i64 z.1.bl, .int .i64 z.1.off].toArray, Value.int .i64 z.2]) (show (d_latheref10_divided p0 p1 p2) = (((⟨0, 0, 0, 0⟩ : Vl), 4) : Vl × Int) from ((bifF c32).trans (bifT c47))).symm)
   ·
    have c47n := c47
    try simp only [Bool.and_eq_true, Bool.or_eq_true, decide_eq_true_eq, Bool.true_and, Bool.not_eq_true', Bool.not_eq_false', beq_iff_eq, bne_iff_ne, decide_eq_false_iff_not, beq_eq_false_iff_ne, bne_eq_false_iff_eq, ne_eq, Bool.or_eq_false_iff, Bool.and_eq_false_iff] at c47n
    refine SC.seq (fun K9 hK9 => SC.region ?_)
    refine SL.step (PS.move rfl tt rfl rfl) ?_
    refine SL.step (PS.move rfl tt rfl rfl) ?_
    refine SL.step (PS.fieldAddr rfl tt Try.fieldAt_35_0 rfl rfl) ?_
    refine SL.step (PS.load_own (k := 2) rfl (fun h => h) rfl rfl rfl Try.isAgg3 rfl rfl) ?_
    refine SL.step (PS.eql rfl (fun h => h) rfl tt rfl rfl) ?_
    refine SL.step (PS.pick_and rfl tt rfl (fun h h2 => pk_and h h2) rfl rfl) ?_
    refine SL.step (PS.assign rfl tt rfl rfl) ?_
    refine SL.keep (l' := [(52, _, _), (9, _, _), (6, _, _), (5, _, _), (4, _, _), (3, _, _)]) ⟨rfl, rfl, rfl, rfl, rfl, rfl, trivial⟩ ?_
    refine SL.nil (SE.thenK hK9 ?_)
    refine SC.cond rfl (fun c52 => ?_) (fun c52 => ?_)
    ·
     refine SC.seq (fun K10 hK10 => SC.region ?_)
     refine SL.step (PS.build (us := []) (vs := [_, _, _, _]) trivial Try.underlying35 Try.zeroValue35 (Try.places_35 Try.underlying35) rfl rfl rfl) ?_
     refine SL.store_own (k := 0) (own' := [_, _, _, _]) (cs' := [_, _, _, _]) rfl rfl rfl rfl rfl rfl rfl Try.sizeOf35 rfl (Nat.le_of_ble_eq_true rfl) rfl rfl rfl rfl ?_
     refine SL.step (PS.assign rfl tt rfl rfl) ?_
     refine SL.keep (l' := [(7, _, _), (6, _, _)]) ⟨rfl, rfl, trivial⟩ ?_
     refine SL.nil (SE.thenK hK10 (SC.ret (SE.block_ret (SE.then_ret ?_))))
     exact finVct (k := 0) rfl Try.isAgg35 Try.sizeOf35 rfl rfl rfl rfl rfl (fun _ _ => congrArg (fun z : Vl × Int => Value.tuple #[Value.agg [.int .i64 z.1.k, .int .u64 z.1.b, .int .i64 z.1.bl, .int .i64 z.1.off].toArray, Value.int .i64 z.2]) (show (d_latheref10_divided p0 p1 p2) = (((⟨0, 0, 0, 0⟩ : Vl), 2) : Vl × Int) from ((bifF c32).trans ((bifF c47).trans (bifT c52)))).symm)
    ·
     have c52n := c52
     try simp only [Bool.and_eq_true, Bool.or_eq_true, decide_eq_true_eq, Bool.true_and, Bool.not_eq_true', Bool.not_eq_false', beq_iff_eq, bne_iff_ne, decide_eq_false_iff_not, beq_eq_false_iff_ne, bne_eq_false_iff_eq, ne_eq, Bool.or_eq_false_iff, Bool.and_eq_false_iff] at c52n
     refine SC.seq (fun K11 hK11 => SC.region ?_)
     refine SL.step (PS.move rfl tt rfl rfl) ?_
     refine SL.step (PS.move rfl tt rfl rfl) ?_
     refine SL.step (PS.fieldAddr rfl tt Try.fieldAt_35_0 rfl rfl) ?_
     refine SL.step (PS.load_own (k := 2) rfl (fun h => h) rfl rfl rfl Try.isAgg3 rfl rfl) ?_
     refine SL.step (PS.eql rfl (fun h => h) rfl tt rfl rfl) ?_
     refine SL.step (PS.pick_and rfl tt rfl (fun h h2 => pk_and h h2) rfl rfl) ?_
     refine SL.step (PS.assign rfl tt rfl rfl) ?_
     refine SL.keep (l' := [(60, _, _), (6, _, _), (5, _, _), (4, _, _), (3, _, _)]) ⟨rfl, rfl, rfl, rfl, rfl, trivial⟩ ?_
     refine SL.nil (SE.thenK hK11 ?_)
     refine SC.cond rfl (fun c60 => ?_) (fun c60 => ?_)
     ·
      refine SC.seq (fun K12 hK12 => SC.region ?_)
      refine SL.step (PS.build (us := []) (vs := [_, _, _, _]) trivial Try.underlying35 Try.zeroValue35 (Try.places_35 Try.underlying35) rfl rfl rfl) ?_
      refine SL.store_own (k := 0) (own' := [_, _, _, _]) (cs' := [_, _, _, _]) rfl rfl rfl rfl rfl rfl rfl Try.sizeOf35 rfl (Nat.le_of_ble_eq_true rfl) rfl rfl rfl rfl ?_
      refine SL.step (PS.assign rfl tt rfl rfl) ?_
      refine SL.keep (l' := [(7, _, _), (6, _, _)]) ⟨rfl, rfl, trivial⟩ ?_
      refine SL.nil (SE.thenK hK12 (SC.ret (SE.block_ret (SE.then_ret ?_))))
      exact finVct (k := 0) rfl Try.isAgg35 Try.sizeOf35 rfl rfl rfl rfl rfl (fun _ _ => congrArg (fun z : Vl × Int => Value.tuple #[Value.agg [.int .i64 z.1.k, .int .u64 z.1.b, .int .i64 z.1.bl, .int .i64 z.1.off].toArray, Value.int .i64 z.2]) (show (d_latheref10_divided p0 p1 p2) = (((⟨0, 0, 0, 0⟩ : Vl), 4) : Vl × Int) from ((bifF c32).trans ((bifF c47).trans ((bifF c52).trans (bifT c60))))).symm)
     ·
      have c60n := c60
      try simp only [Bool.and_eq_true, Bool.or_eq_true, decide_eq_true_eq, Bool.true_and, Bool.not_eq_true', Bool.not_eq_false', beq_iff_eq, bne_iff_ne, decide_eq_false_iff_not, beq_eq_false_iff_ne, bne_eq_false_iff_eq, ne_eq, Bool.or_eq_false_iff, Bool.and_eq_false_iff] at c60n
      refine SC.seq (fun K13 hK13 => SC.region ?_)
      refine SL.step (PS.fieldAddr rfl tt Try.fieldAt_35_0 rfl rfl) ?_
      refine SL.step (PS.load_own (k := 2) rfl tt rfl rfl rfl Try.isAgg3 rfl rfl) ?_
      refine SL.step (PS.eql rfl tt rfl tt rfl rfl) ?_
      refine SL.step (PS.move rfl tt rfl rfl) ?_
      refine SL.step (PS.fieldAddr rfl tt Try.fieldAt_35_0 rfl rfl) ?_
      refine SL.step (PS.load_own (k := 2) rfl (fun h => h) rfl rfl rfl Try.isAgg3 rfl rfl) ?_
      refine SL.step (PS.eql rfl (fun h => h) rfl tt rfl rfl) ?_
      refine SL.step (PS.move rfl (fun h => h) rfl rfl) ?_
      refine SL.step (PS.fieldAddr rfl tt Try.fieldAt_25_4 rfl rfl) ?_
      refine SL.step (PS.load_own (k := 3) rfl (fun h => h) rfl rfl rfl Try.isAgg3 rfl rfl) ?_
      refine SL.step (PS.neq rfl (fun h => h) rfl tt rfl rfl) ?_
      refine SL.step (PS.pick_and rfl (fun h => h) rfl (fun h h2 => pk_and h h2) rfl rfl) ?_
      refine SL.step (PS.pick_or rfl tt rfl (fun h h2 => pk_or h h2) rfl rfl) ?_
      refine SL.step (PS.assign rfl tt rfl rfl) ?_
      refine SL.keep (l' := [(68, _, _), (6, _, _), (5, _, _), (4, _, _), (3, _, _)]) ⟨rfl, rfl, rfl, rfl, rfl, trivial⟩ ?_
      refine SL.nil (SE.thenK hK13 ?_)
      refine SC.cond rfl (fun c68 => ?_) (fun c68 => ?_)
      ·
       refine SC.seq (fun K14 hK14 => SC.region ?_)
       refine SL.step (PS.build (us := []) (vs := [_, _, _, _]) trivial Try.underlying35 Try.zeroValue35 (Try.places_35 Try.underlying35) rfl rfl rfl) ?_
       refine SL.store_own (k := 0) (own' := [_, _, _, _]) (cs' := [_, _, _, _]) rfl rfl rfl rfl rfl rfl rfl Try.sizeOf35 rfl (Nat.le_of_ble_eq_true rfl) rfl rfl rfl rfl ?_
       refine SL.step (PS.assign rfl tt rfl rfl) ?_
       refine SL.keep (l' := [(7, _, _), (6, _, _)]) ⟨rfl, rfl, trivial⟩ ?_
       refine SL.nil (SE.thenK hK14 (SC.ret (SE.block_ret (SE.then_ret ?_))))
       exact finVct (k := 0) rfl Try.isAgg35 Try.sizeOf35 rfl rfl rfl rfl rfl (fun _ _ => congrArg (fun z : Vl × Int => Value.tuple #[Value.agg [.int .i64 z.1.k, .int .u64 z.1.b, .int .i64 z.1.bl, .int .i64 z.1.off].toArray, Value.int .i64 z.2]) (show (d_latheref10_divided p0 p1 p2) = (((⟨0, 0, 0, 0⟩ : Vl), 0) : Vl × Int) from ((bifF c32).trans ((bifF c47).trans ((bifF c52).trans ((bifF c60).trans (bifT c68)))))).symm)
      ·
       have c68n := c68
       try simp only [Bool.and_eq_true, Bool.or_eq_true, decide_eq_true_eq, Bool.true_and, Bool.not_eq_true', Bool.not_eq_false', beq_iff_eq, bne_iff_ne, decide_eq_false_iff_not, beq_eq_false_iff_ne, bne_eq_false_iff_eq, ne_eq, Bool.or_eq_false_iff, Bool.and_eq_false_iff] at c68n
       refine SC.seq (fun K15 hK15 => SC.region ?_)
       refine SL.step (PS.fieldAddr rfl tt Try.fieldAt_35_0 rfl rfl) ?_
       refine SL.step (PS.load_own (k := 2) rfl tt rfl rfl rfl Try.isAgg3 rfl rfl) ?_
       refine SL.step (PS.eql rfl tt rfl tt rfl rfl) ?_
       refine SL.step (PS.assign rfl tt rfl rfl) ?_
       refine SL.keep (l' := [(83, _, _), (6, _, _), (5, _, _), (4, _, _), (3, _, _)]) ⟨rfl, rfl, rfl, rfl, rfl, trivial⟩ ?_
       refine SL.nil (SE.thenK hK15 ?_)
       refine SC.cond rfl (fun c83 => ?_) (fun c83 => ?_)
       ·
        refine SC.seq (fun K16 hK16 => SC.region ?_)
        refine SL.callV (vs := []) Try.call31 trivial (fun hg => latheref10_Any_V  ) rfl rfl ?_
        refine SL.store_own (k := 0) (own' := [_, _, _, _]) (cs' := [_, _, _, _]) rfl rfl rfl rfl rfl rfl rfl Try.sizeOf35 rfl (Nat.le_of_ble_eq_true rfl) rfl rfl rfl rfl ?_
        refine SL.step (PS.assign rfl tt rfl rfl) ?_
        refine SL.keep (l' := [(7, _, _), (6, _, _)]) ⟨rfl, rfl, trivial⟩ ?_
        refine SL.nil (SE.thenK hK16 (SC.ret (SE.block_ret (SE.then_ret ?_))))
        exact finVct (k := 0) rfl Try.isAgg35 Try.sizeOf35 rfl rfl rfl rfl rfl (fun _ _ => congrArg (fun z : Vl × Int => Value.tuple #[Value.agg [.int .i64 z.1.k, .int .u64 z.1.b, .int .i64 z.1.bl, .int .i64 z.1.off].toArray, Value.int .i64 z.2]) (show (d_latheref10_divided p0 p1 p2) = ((d_latheref10_Any, 0) : Vl × Int) from ((bifF c32).trans ((bifF c47).trans ((bifF c52).trans ((bifF c60).trans ((bifF c68).trans (bifT c83))))))).symm)
       ·
        have c83n := c83
        try simp only [Bool.and_eq_true, Bool.or_eq_true, decide_eq_true_eq, Bool.true_and, Bool.not_eq_true', Bool.not_eq_false', beq_iff_eq, bne_iff_ne, decide_eq_false_iff_not, beq_eq_false_iff_ne, bne_eq_false_iff_eq, ne_eq, Bool.or_eq_false_iff, Bool.and_eq_false_iff] at c83n
        refine SC.skip (SE.block_normal (SE.thenK hK4 (SC.seq (fun K17 hK17 => SC.region ?_))))
        refine SL.step (PS.load_own_agg (k := 3) (vs := [_, _, _, _, _, _, _]) rfl tt rfl rfl rfl rfl Try.isAgg25 Try.sizeOf25 rfl rfl) ?_
        refine SL.step (PS.fieldAddr rfl tt Try.fieldAt_35_1 rfl rfl) ?_
        refine SL.step (PS.load_own (k := 2) rfl tt rfl rfl rfl Try.isAgg27 rfl rfl) ?_
        refine SL.step (PS.fieldAddr rfl tt Try.fieldAt_35_1 rfl rfl) ?_
        refine SL.step (PS.load_own (k := 1) rfl tt rfl rfl rfl Try.isAgg27 rfl rfl) ?_
        refine SL.callV (vs := [_, _, _]) Try.call44 ⟨⟨_, rfl, tt⟩, ⟨_, rfl, tt⟩, ⟨_, rfl, tt⟩, trivial⟩ (fun hg => latheref10_applied_V p0 p1.b p2.b (by omega)) rfl rfl ?_
        refine SL.step (PS.extract rfl tt rfl rfl rfl) ?_
        refine SL.step (PS.extract rfl tt rfl rfl rfl) ?_
        refine SL.store_own (k := 0) (own' := [_, _, _, _]) (cs' := [_, _, _, _]) rfl rfl rfl rfl rfl rfl rfl Try.sizeOf35 rfl (Nat.le_of_ble_eq_true rfl) rfl rfl rfl rfl ?_
        refine SL.step (PS.assign rfl tt rfl rfl) ?_
        refine SL.keep (l' := [(7, _, _), (6, _, _)]) ⟨rfl, rfl, trivial⟩ ?_
        refine SL.nil (SE.thenK hK17 (SC.ret ?_))
        exact finVct (k := 0) rfl Try.isAgg35 Try.sizeOf35 rfl rfl rfl rfl rfl (fun _ _ => congrArg (fun z : Vl × Int => Value.tuple #[Value.agg [.int .i64 z.1.k, .int .u64 z.1.b, .int .i64 z.1.bl, .int .i64 z.1.off].toArray, Value.int .i64 z.2]) (show (d_latheref10_divided p0 p1 p2) = ((((d_latheref10_applied p0 p1.b p2.b).1), (d_latheref10_applied p0 p1.b p2.b).2) : Vl × Int) from ((bifF c32).trans ((bifF c47).trans ((bifF c52).trans ((bifF c60).trans ((bifF c68).trans (bifF c83))))))).symm)
def d_latheref10_shifted (p0 : Ins) (p1 : Vl) (p2 : Vl) : Vl × Int :=
  bif ((((p1.k == 0) || (p2.k != 1)) || (decide ((IntKind.u64.wrap p0.t) ≤ p2.b))) || ((p1.k == 3) && (p0.f != 0))) then
   ((⟨0, 0, 0, 0⟩ : Vl), 0)
  else bif (p1.k == 3) then
    (d_latheref10_Any, 0)
   else (((d_latheref10_applied p0 p1.b p2.b).1), (d_latheref10_applied p0 p1.b p2.b).2)
theorem latheref10_shifted_V (p0 : Ins) (p1 : Vl) (p2 : Vl) (hb : 0 ≤ p2.b ∧ p2.b < 18446744073709551616) : SpecV Try.prog 29 [.agg [.int .i64 p0.op, .int .i64 p0.reg, .int .i64 p0.t, .int .i64 p0.n, .int .i64 p0.f, .slice p0.args.a p0.args.l.length p0.args.cap, .slice p0.to.a p0.to.l.length p0.to.cap].toArray, .agg [.int .i64 p1.k, .int .u64 p1.b, .int .i64 p1.bl, .int .i64 p1.off].toArray, .agg [.int .i64 p2.k, .int .u64 p2.b, .int .i64 p2.bl, .int .i64 p2.off].toArray] (Value.tuple #[Value.agg [.int .i64 (((d_latheref10_shifted p0 p1 p2).1).k), .int .u64 (((d_latheref10_shifted p0 p1 p2).1).b), .int .i64 (((d_latheref10_shifted p0 p1 p2).1).bl), .int .i64 (((d_latheref10_shifted p0 p1 p2).1).off)].toArray, Value.int .i64 (d_latheref10_shifted p0 p1 p2).2]) := by
  refine SpecV.enter Try.func29 rfl (n := 47) Try.ntmps29 (Nat.le_of_ble_eq_true rfl) (l := [(0, _, _), (1, _, _), (2, _, _)]) rfl ?_
  intro w
  refine SC.seq (fun K1 hK1 => SC.region ?_)
  refine SL.box (cs := [_, _, _, _, _, _, _]) rfl rfl rfl rfl rfl (fun b3 => ?_)
  refine SL.box (cs := [_, _, _, _]) rfl rfl rfl rfl rfl (fun b4 => ?_)
  refine SL.box (cs := [_, _, _, _]) rfl rfl rfl rfl rfl (fun b5 => ?_)
  refine SL.alloc (cs := [_, _, _, _]) Try.zeroValue35 rfl rfl rfl (fun b6 => ?_)
  refine SL.step (PS.assign rfl tt rfl rfl) ?_
  refine SL.keep (l' := [(6, _, _), (5, _, _), (4, _, _), (3, _, _)]) ⟨rfl, rfl, rfl, rfl, trivial⟩ ?_
  refine SL.nil (SE.thenK hK1 (SC.seq (fun K2 hK2 => SC.seq (fun K3 hK3 => SC.region ?_))))
  refine SL.step (PS.fieldAddr rfl tt Try.fieldAt_35_0 rfl rfl) ?_
  refine SL.step (PS.load_own (k := 2) rfl tt rfl rfl rfl Try.isAgg3 rfl rfl) ?_
  refine SL.step (PS.eql rfl tt rfl tt rfl rfl) ?_
  refine SL.step (PS.move rfl tt rfl rfl) ?_
  refine SL.step (PS.fieldAddr rfl tt Try.fieldAt_35_0 rfl rfl) ?_
  refine SL.step (PS.load_own (k := 1) rfl (fun h => h) rfl rfl rfl Try.isAgg3 rfl rfl) ?_
  refine SL.step (PS.neq rfl (fun h => h) rfl tt rfl rfl) ?_
  refine SL.step (PS.pick_or rfl tt rfl (fun h h2 => pk_or h h2) rfl rfl) ?_
  refine SL.step (PS.move rfl tt rfl rfl) ?_
  refine SL.step (PS.fieldAddr rfl tt Try.fieldAt_35_1 rfl rfl) ?_
  refine SL.step (PS.load_own (k := 1) rfl (fun h => h) rfl rfl rfl Try.isAgg27 rfl rfl) ?_
  refine SL.step (PS.fieldAddr rfl tt Try.fieldAt_25_2 rfl rfl) ?_
  refine SL.step (PS.load_own (k := 3) rfl (fun h => h) rfl rfl rfl Try.isAgg3 rfl rfl) ?_
  refine SL.step (PS.conv rfl (fun h => h) Try.underlying3 Try.underlying27 rfl rfl) ?_
  refine SL.step (PS.geq rfl (fun h => h) rfl (fun h => h) rfl rfl) ?_
  refine SL.step (PS.pick_or rfl tt rfl (fun h h2 => pk_or h h2) rfl rfl) ?_
  refine SL.step (PS.move rfl tt rfl rfl) ?_
  refine SL.step (PS.fieldAddr rfl tt Try.fieldAt_35_0 rfl rfl) ?_
  refine SL.step (PS.load_own (k := 2) rfl (fun h => h) rfl rfl rfl Try.isAgg3 rfl rfl) ?_
  refine SL.step (PS.eql rfl (fun h => h) rfl tt rfl rfl) ?_
  refine SL.step (PS.move rfl (fun h => h) rfl rfl) ?_
  refine SL.step (PS.fieldAddr rfl tt Try.fieldAt_25_4 rfl rfl) ?_
  refine SL.step (PS.load_own (k := 3) rfl (fun h => h) rfl rfl rfl Try.isAgg3 rfl rfl) ?_
  refine SL.step (PS.neq rfl (fun h => h) rfl tt rfl rfl) ?_
  refine SL.step (PS.pick_and rfl (fun h => h) rfl (fun h h2 => pk_and h h2) rfl rfl) ?_
  refine SL.step (PS.pick_or rfl tt rfl (fun h h2 => pk_or h h2) rfl rfl) ?_
  refine SL.keep (l' := [(33, _, _), (6, _, _), (5, _, _), (4, _, _), (3, _, _)]) ⟨rfl, rfl, rfl, rfl, rfl, trivial⟩ ?_
  refine SL.nil (SE.thenK hK3 ?_)
  refine SC.cond rfl (fun c33 => ?_) (fun c33 => ?_)
  ·
   refine SC.seq (fun K4 hK4 => SC.region ?_)
   refine SL.step (PS.build (us := []) (vs := [_, _, _, _]) trivial Try.underlying35 Try.zeroValue35 (Try.places_35 Try.underlying35) rfl rfl rfl) ?_
   refine SL.store_own (k := 0) (own' := [_, _, _, _]) (cs' := [_, _, _, _]) rfl rfl rfl rfl rfl rfl rfl Try.sizeOf35 rfl (Nat.le_of_ble_eq_true rfl) rfl rfl rfl rfl ?_
   refine SL.step (PS.assign rfl tt rfl rfl) ?_
   refine SL.keep (l' := [(7, _, _), (6, _, _)]) ⟨rfl, rfl, trivial⟩ ?_
   refine SL.nil (SE.thenK hK4 (SC.ret (SE.then_ret ?_)))
   exact finVct (k := 0) rfl Try.isAgg35 Try.sizeOf35 rfl rfl rfl rfl rfl (fun _ _ => congrArg (fun z : Vl × Int => Value.tuple #[Value.agg [.int .i64 z.1.k, .int .u64 z.1.b, .int .i64 z.1.bl, .int .i64 z.1.off].toArray, Value.int .i64 z.2]) (show (d_latheref10_shifted p0 p1 p2) = (((⟨0, 0, 0, 0⟩ : Vl), 0) : Vl × Int) from (bifT c33)).symm)
  ·
   have c33n := c33
   try simp only [Bool.and_eq_true, Bool.or_eq_true, decide_eq_true_eq, Bool.true_and, Bool.not_eq_true', Bool.not_eq_false', beq_iff_eq, bne_iff_ne, decide_eq_false_iff_not, beq_eq_false_iff_ne, bne_eq_false_iff_eq, ne_eq, Bool.or_eq_false_iff, Bool.and_eq_false_iff] at c33n
   refine SC.skip (SE.thenK hK2 (SC.seq (fun K5 hK5 => SC.seq (fun K6 hK6 => SC.region ?_))))
   refine SL.step (PS.fieldAddr rfl tt Try.fieldAt_35_0 rfl rfl) ?_
   refine SL.step (PS.load_own (k := 2) rfl tt rfl rfl rfl Try.isAgg3 rfl rfl) ?_
   refine SL.step (PS.eql rfl tt rfl tt rfl rfl) ?_
   refine SL.keep (l' := [(37, _, _), (6, _, _), (5, _, _), (4, _, _), (3, _, _)]) ⟨rfl, rfl, rfl, rfl, rfl, trivial⟩ ?_
   refine SL.nil (SE.thenK hK6 ?_)
   refine SC.cond rfl (fun c37 => ?_) (fun c37 => ?_)
   ·
    refine SC.seq (fun K7 hK7 => SC.region ?_)
    refine SL.callV (vs := []) Try.call31 trivial (fun hg => latheref10_Any_V  ) rfl rfl ?_
    refine SL.store_own (k := 0) (own' := [_, _, _, _]) (cs' := [_, _, _, _]) rfl rfl rfl rfl rfl rfl rfl Try.sizeOf35 rfl (Nat.le_of_ble_eq_true rfl) rfl rfl rfl rfl ?_
    refine SL.step (PS.assign rfl tt rfl rfl) ?_
    refine SL.keep (l' := [(7, _, _), (6, _, _)]) ⟨rfl, rfl, trivial⟩ ?_
    refine SL.nil (SE.thenK hK7 (SC.ret (SE.then_ret ?_)))
    exact finVct (k := 0) rfl Try.isAgg35 Try.sizeOf35 rfl rfl rfl rfl rfl (fun _ _ => congrArg (fun z : Vl × Int => Value.tuple #[Value.agg [.int .i64 z.1.k, .int .u64 z.1.b, .int .i64 z.1.bl, .int .i64 z.1.off].toArray, Value.int .i64 z.2]) (show (d_latheref10_shifted p0 p1 p2) = ((d_latheref10_Any, 0) : Vl × Int) from ((bifF c33).trans (bifT c37))).symm)
   ·
    have c37n := c37
    try simp only [Bool.and_eq_true, Bool.or_eq_true, decide_eq_true_eq, Bool.true_and, Bool.not_eq_true', Bool.not_eq_false', beq_iff_eq, bne_iff_ne, decide_eq_false_iff_not, beq_eq_false_iff_ne, bne_eq_false_iff_eq, ne_eq, Bool.or_eq_false_iff, Bool.and_eq_false_iff] at c37n
    refine SC.skip (SE.thenK hK5 (SC.seq (fun K8 hK8 => SC.region ?_)))
    refine SL.step (PS.load_own_agg (k := 3) (vs := [_, _, _, _, _, _, _]) rfl tt rfl rfl rfl rfl Try.isAgg25 Try.sizeOf25 rfl rfl) ?_
    refine SL.step (PS.fieldAddr rfl tt Try.fieldAt_35_1 rfl rfl) ?_
    refine SL.step (PS.load_own (k := 2) rfl tt rfl rfl rfl Try.isAgg27 rfl rfl) ?_
    refine SL.step (PS.fieldAddr rfl tt Try.fieldAt_35_1 rfl rfl) ?_
    refine SL.step (PS.load_own (k := 1) rfl tt rfl rfl rfl Try.isAgg27 rfl rfl) ?_
    refine SL.callV (vs := [_, _, _]) Try.call44 ⟨⟨_, rfl, tt⟩, ⟨_, rfl, tt⟩, ⟨_, rfl, tt⟩, trivial⟩ (fun hg => latheref10_applied_V p0 p1.b p2.b (by omega)) rfl rfl ?_
    refine SL.step (PS.extract rfl tt rfl rfl rfl) ?_
    refine SL.step (PS.extract rfl tt rfl rfl rfl) ?_
    refine SL.store_own (k := 0) (own' := [_, _, _, _]) (cs' := [_, _, _, _]) rfl rfl rfl rfl rfl rfl rfl Try.sizeOf35 rfl (Nat.le_of_ble_eq_true rfl) rfl rfl rfl rfl ?_
    refine SL.step (PS.assign rfl tt rfl rfl) ?_
    refine SL.keep (l' := [(7, _, _), (6, _, _)]) ⟨rfl, rfl, trivial⟩ ?_
    refine SL.nil (SE.thenK hK8 (SC.ret ?_))
    exact finVct (k := 0) rfl Try.isAgg35 Try.sizeOf35 rfl rfl rfl rfl rfl (fun _ _ => congrArg (fun z : Vl × Int => Value.tuple #[Value.agg [.int .i64 z.1.k, .int .u64 z.1.b, .int .i64 z.1.bl, .int .i64 z.1.off].toArray, Value.int .i64 z.2]) (show (d_latheref10_shifted p0 p1 p2) = ((((d_latheref10_applied p0 p1.b p2.b).1), (d_latheref10_applied p0 p1.b p2.b).2) : Vl × Int) from ((bifF c33).trans (bifF c37))).symm)
def d_latheref10_chosen (p0 : Vl) (p1 : Vl) (p2 : Vl) : Vl :=
  bif (p0.k == 0) then
   (⟨0, 0, 0, 0⟩ : Vl)
  else bif ((p0.k == 1) && (p0.b == 1)) then
    p1
   else bif (p0.k == 1) then
     p2
    else bif (decide (p1 = p2)) then
      p1
     else bif ((p1.k == 0) || (p2.k == 0)) then
       (⟨0, 0, 0, 0⟩ : Vl)
      else d_latheref10_Any
theorem latheref10_chosen_V (p0 : Vl) (p1 : Vl) (p2 : Vl)  : SpecV Try.prog 30 [.agg [.int .i64 p0.k, .int .u64 p0.b, .int .i64 p0.bl, .int .i64 p0.off].toArray, .agg [.int .i64 p1.k, .int .u64 p1.b, .int .i64 p1.bl, .int .i64 p1.off].toArray, .agg [.int .i64 p2.k, .int .u64 p2.b, .int .i64 p2.bl, .int .i64 p2.off].toArray] (Value.agg [.int .i64 ((d_latheref10_chosen p0 p1 p2).k), .int .u64 ((d_latheref10_chosen p0 p1 p2).b), .int .i64 ((d_latheref10_chosen p0 p1 p2).bl), .int .i64 ((d_latheref10_chosen p0 p1 p2).off)].toArray) := by
  refine SpecV.enter Try.func30 rfl (n := 38) Try.ntmps30 (Nat.le_of_ble_eq_true rfl) (l := [(0, _, _), (1, _, _), (2, _, _)]) rfl ?_
  intro w
  refine SC.seq (fun K1 hK1 => SC.region ?_)
  refine SL.box (cs := [_, _, _, _]) rfl rfl rfl rfl rfl (fun b3 => ?_)
  refine SL.box (cs := [_, _, _, _]) rfl rfl rfl rfl rfl (fun b4 => ?_)
  refine SL.box (cs := [_, _, _, _]) rfl rfl rfl rfl rfl (fun b5 => ?_)
  refine SL.alloc (cs := [_, _, _, _]) Try.zeroValue35 rfl rfl rfl (fun b6 => ?_)
  refine SL.keep (l' := [(6, _, _), (5, _, _), (4, _, _), (3, _, _)]) ⟨rfl, rfl, rfl, rfl, trivial⟩ ?_
  refine SL.nil (SE.thenK hK1 (SC.seq (fun K2 hK2 => SC.seq (fun K3 hK3 => SC.region ?_))))
  refine SL.step (PS.fieldAddr rfl tt Try.fieldAt_35_0 rfl rfl) ?_
  refine SL.step (PS.load_own (k := 3) rfl tt rfl rfl rfl Try.isAgg3 rfl rfl) ?_
  refine SL.step (PS.eql rfl tt rfl tt rfl rfl) ?_
  refine SL.keep (l' := [(9, _, _), (6, _, _), (5, _, _), (4, _, _), (3, _, _)]) ⟨rfl, rfl, rfl, rfl, rfl, trivial⟩ ?_
  refine SL.nil (SE.thenK hK3 ?_)
  refine SC.cond rfl (fun c9 => ?_) (fun c9 => ?_)
  ·
   refine SC.seq (fun K4 hK4 => SC.region ?_)
   refine SL.step (PS.build (us := []) (vs := [_, _, _, _]) trivial Try.underlying35 Try.zeroValue35 (Try.places_35 Try.underlying35) rfl rfl rfl) ?_
   refine SL.store_own (k := 0) (own' := [_, _, _, _]) (cs' := [_, _, _, _]) rfl rfl rfl rfl rfl rfl rfl Try.sizeOf35 rfl (Nat.le_of_ble_eq_true rfl) rfl rfl rfl rfl ?_
   refine SL.keep (l' := [(6, _, _)]) ⟨rfl, trivial⟩ ?_
   refine SL.nil (SE.thenK hK4 (SC.ret (SE.then_ret ?_)))
   exact finVc (k := 0) rfl Try.isAgg35 Try.sizeOf35 rfl rfl rfl rfl (fun _ _ => congrArg (fun z : Vl => Value.agg [.int .i64 z.k, .int .u64 z.b, .int .i64 z.bl, .int .i64 z.off].toArray) (show (d_latheref10_chosen p0 p1 p2) = ((⟨0, 0, 0, 0⟩ : Vl) : Vl) from (bifT c9)).symm)
  ·
   refine SC.skip (SE.thenK hK2 (SC.seq (fun K5 hK5 => SC.seq (fun K6 hK6 => SC.region ?_))))
   refine SL.step (PS.fieldAddr rfl tt Try.fieldAt_35_0 rfl rfl) ?_
   refine SL.step (PS.load_own (k := 3) rfl tt rfl rfl rfl Try.isAgg3 rfl rfl) ?_
   refine SL.step (PS.eql rfl tt rfl tt rfl rfl) ?_
   refine SL.step (PS.move rfl tt rfl rfl) ?_
   refine SL.step (PS.fieldAddr rfl tt Try.fieldAt_35_1 rfl rfl) ?_
   refine SL.step (PS.load_own (k := 3) rfl (fun h => h) rfl rfl rfl Try.isAgg27 rfl rfl) ?_
   refine SL.step (PS.eql rfl (fun h => h) rfl tt rfl rfl) ?_
   refine SL.step (PS.pick_and rfl tt rfl (fun h h2 => pk_and h h2) rfl rfl) ?_
   refine SL.keep (l' := [(18, _, _), (6, _, _), (5, _, _), (4, _, _), (3, _, _)]) ⟨rfl, rfl, rfl, rfl, rfl, trivial⟩ ?_
   refine SL.nil (SE.thenK hK6 ?_)
   refine SC.cond rfl (fun c18 => ?_) (fun c18 => ?_)
   ·
    refine SC.seq (fun K7 hK7 => SC.region ?_)
    refine SL.step (PS.load_own_agg (k := 2) (vs := [_, _, _, _]) rfl tt rfl rfl rfl rfl Try.isAgg35 Try.sizeOf35 rfl rfl) ?_
    refine SL.store_own (k := 0) (own' := [_, _, _, _]) (cs' := [_, _, _, _]) rfl rfl rfl rfl rfl rfl rfl Try.sizeOf35 rfl (Nat.le_of_ble_eq_true rfl) rfl rfl rfl rfl ?_
    refine SL.keep (l' := [(6, _, _)]) ⟨rfl, trivial⟩ ?_
    refine SL.nil (SE.thenK hK7 (SC.ret (SE.then_ret ?_)))
    exact finVc (k := 0) rfl Try.isAgg35 Try.sizeOf35 rfl rfl rfl rfl (fun _ _ => congrArg (fun z : Vl => Value.agg [.int .i64 z.k, .int .u64 z.b, .int .i64 z.bl, .int .i64 z.off].toArray) (show (d_latheref10_chosen p0 p1 p2) = (p1 : Vl) from ((bifF c9).trans (bifT c18))).symm)
   ·
    refine SC.skip (SE.thenK hK5 (SC.seq (fun K8 hK8 => SC.seq (fun K9 hK9 => SC.region ?_))))
    refine SL.step (PS.fieldAddr rfl tt Try.fieldAt_35_0 rfl rfl) ?_
    refine SL.step (PS.load_own (k := 3) rfl tt rfl rfl rfl Try.isAgg3 rfl rfl) ?_
    refine SL.step (PS.eql rfl tt rfl tt rfl rfl) ?_
    refine SL.keep (l' := [(22, _, _), (6, _, _), (5, _, _), (4, _, _)]) ⟨rfl, rfl, rfl, rfl, trivial⟩ ?_
    refine SL.nil (SE.thenK hK9 ?_)
    refine SC.cond rfl (fun c22 => ?_) (fun c22 => ?_)
    ·
     refine SC.seq (fun K10 hK10 => SC.region ?_)
     refine SL.step (PS.load_own_agg (k := 1) (vs := [_, _, _, _]) rfl tt rfl rfl rfl rfl Try.isAgg35 Try.sizeOf35 rfl rfl) ?_
     refine SL.store_own (k := 0) (own' := [_, _, _, _]) (cs' := [_, _, _, _]) rfl rfl rfl rfl rfl rfl rfl Try.sizeOf35 rfl (Nat.le_of_ble_eq_true rfl) rfl rfl rfl rfl ?_
     refine SL.keep (l' := [(6, _, _)]) ⟨rfl, trivial⟩ ?_
     refine SL.nil (SE.thenK hK10 (SC.ret (SE.then_ret ?_)))
     exact finVc (k := 0) rfl Try.isAgg35 Try.sizeOf35 rfl rfl rfl rfl (fun _ _ => congrArg (fun z : Vl => Value.agg [.int .i64 z.k, .int .u64 z.b, .int .i64 z.bl, .int .i64 z.off].toArray) (show (d_latheref10_chosen p0 p1 p2) = (p2 : Vl) from ((bifF c9).trans ((bifF c18).trans (bifT c22)))).symm)
    ·
     refine SC.skip (SE.thenK hK8 (SC.seq (fun K11 hK11 => SC.seq (fun K12 hK12 => SC.region ?_))))
     refine SL.step (PS.load_own_agg (k := 2) (vs := [_, _, _, _]) rfl tt rfl rfl rfl rfl Try.isAgg35 Try.sizeOf35 rfl rfl) ?_
     refine SL.step (PS.load_own_agg (k := 1) (vs := [_, _, _, _]) rfl tt rfl rfl rfl rfl Try.isAgg35 Try.sizeOf35 rfl rfl) ?_
     refine SL.step (PS.eqlA (u := .agg [.int .i64 p1.k, .int .u64 p1.b, .int .i64 p1.bl, .int .i64 p1.off].toArray) (v := .agg [.int .i64 p2.k, .int .u64 p2.b, .int .i64 p2.bl, .int .i64 p2.off].toArray) rfl tt rfl tt (fun x y w => Vl_eql x y p1 p2 w) rfl rfl) ?_
     refine SL.keep (l' := [(26, _, _), (6, _, _), (5, _, _), (4, _, _)]) ⟨rfl, rfl, rfl, rfl, trivial⟩ ?_
     refine SL.nil (SE.thenK hK12 ?_)
     refine SC.cond rfl (fun c26 => ?_) (fun c26 => ?_)
     ·
      refine SC.seq (fun K13 hK13 => SC.region ?_)
      refine SL.step (PS.load_own_agg (k := 2) (vs := [_, _, _, _]) rfl tt rfl rfl rfl rfl Try.isAgg35 Try.sizeOf35 rfl rfl) ?_
      refine SL.store_own (k := 0) (own' := [_, _, _, _]) (cs' := [_, _, _, _]) rfl rfl rfl rfl rfl rfl rfl Try.sizeOf35 rfl (Nat.le_of_ble_eq_true rfl) rfl rfl rfl rfl ?_
      refine SL.keep (l' := [(6, _, _)]) ⟨rfl, trivial⟩ ?_
      refine SL.nil (SE.thenK hK13 (SC.ret (SE.then_ret ?_)))
      exact finVc (k := 0) rfl Try.isAgg35 Try.sizeOf35 rfl rfl rfl rfl (fun _ _ => congrArg (fun z : Vl => Value.agg [.int .i64 z.k, .int .u64 z.b, .int .i64 z.bl, .int .i64 z.off].toArray) (show (d_latheref10_chosen p0 p1 p2) = (p1 : Vl) from ((bifF c9).trans ((bifF c18).trans ((bifF c22).trans (bifT c26))))).symm)
     ·
      refine SC.skip (SE.thenK hK11 (SC.seq (fun K14 hK14 => SC.seq (fun K15 hK15 => SC.region ?_))))
      refine SL.step (PS.fieldAddr rfl tt Try.fieldAt_35_0 rfl rfl) ?_
      refine SL.step (PS.load_own (k := 2) rfl tt rfl rfl rfl Try.isAgg3 rfl rfl) ?_
      refine SL.step (PS.eql rfl tt rfl tt rfl rfl) ?_
      refine SL.step (PS.move rfl tt rfl rfl) ?_
      refine SL.step (PS.fieldAddr rfl tt Try.fieldAt_35_0 rfl rfl) ?_
      refine SL.step (PS.load_own (k := 1) rfl (fun h => h) rfl rfl rfl Try.isAgg3 rfl rfl) ?_
      refine SL.step (PS.eql rfl (fun h => h) rfl tt rfl rfl) ?_
      refine SL.step (PS.pick_or rfl tt rfl (fun h h2 => pk_or h h2) rfl rfl) ?_
      refine SL.keep (l' := [(35, _, _), (6, _, _)]) ⟨rfl, rfl, trivial⟩ ?_
      refine SL.nil (SE.thenK hK15 ?_)
      refine SC.cond rfl (fun c35 => ?_) (fun c35 => ?_)
      ·
       refine SC.seq (fun K16 hK16 => SC.region ?_)
       refine SL.step (PS.build (us := []) (vs := [_, _, _, _]) trivial Try.underlying35 Try.zeroValue35 (Try.places_35 Try.underlying35) rfl rfl rfl) ?_
       refine SL.store_own (k := 0) (own' := [_, _, _, _]) (cs' := [_, _, _, _]) rfl rfl rfl rfl rfl rfl rfl Try.sizeOf35 rfl (Nat.le_of_ble_eq_true rfl) rfl rfl rfl rfl ?_
       refine SL.keep (l' := [(6, _, _)]) ⟨rfl, trivial⟩ ?_
       refine SL.nil (SE.thenK hK16 (SC.ret (SE.then_ret ?_)))
       exact finVc (k := 0) rfl Try.isAgg35 Try.sizeOf35 rfl rfl rfl rfl (fun _ _ => congrArg (fun z : Vl => Value.agg [.int .i64 z.k, .int .u64 z.b, .int .i64 z.bl, .int .i64 z.off].toArray) (show (d_latheref10_chosen p0 p1 p2) = ((⟨0, 0, 0, 0⟩ : Vl) : Vl) from ((bifF c9).trans ((bifF c18).trans ((bifF c22).trans ((bifF c26).trans (bifT c35)))))).symm)
      ·
       refine SC.skip (SE.thenK hK14 (SC.seq (fun K17 hK17 => SC.region ?_)))
       refine SL.callV (vs := []) Try.call31 trivial (fun hg => latheref10_Any_V  ) rfl rfl ?_
       refine SL.store_own (k := 0) (own' := [_, _, _, _]) (cs' := [_, _, _, _]) rfl rfl rfl rfl rfl rfl rfl Try.sizeOf35 rfl (Nat.le_of_ble_eq_true rfl) rfl rfl rfl rfl ?_
       refine SL.keep (l' := [(6, _, _)]) ⟨rfl, trivial⟩ ?_
       refine SL.nil (SE.thenK hK17 (SC.ret ?_))
       exact finVc (k := 0) rfl Try.isAgg35 Try.sizeOf35 rfl rfl rfl rfl (fun _ _ => congrArg (fun z : Vl => Value.agg [.int .i64 z.k, .int .u64 z.b, .int .i64 z.bl, .int .i64 z.off].toArray) (show (d_latheref10_chosen p0 p1 p2) = (d_latheref10_Any : Vl) from ((bifF c9).trans ((bifF c18).trans ((bifF c22).trans ((bifF c26).trans (bifF c35)))))).symm)
def d_latheref10_pair (p0 : Ins) (p1 : Vl) (p2 : Vl) : Vl × Int :=
  bif ((p1.k == 0) || (p2.k == 0)) then
   ((⟨0, 0, 0, 0⟩ : Vl), 0)
  else bif ((p1.k == 3) || (p2.k == 3)) then
    bif (p0.f != 0) then
     ((⟨0, 0, 0, 0⟩ : Vl), 0)
    else (d_latheref10_Any, 0)
   else bif (p0.op == 29) then
     ((⟨2, 0, p1.bl, (IntKind.i64.wrap (IntKind.u64.wrap ((IntKind.u64.wrap p1.off) + p2.b)))⟩ : Vl), 0)
    else bif (p0.t == 65) then
      ((d_latheref10_truth (((p1.bl == p2.bl) && (p1.off == p2.off)) == (p0.op == 14))), 0)
     else (((d_latheref10_applied p0 p1.b p2.b).1), (d_latheref10_applied p0 p1.b p2.b).2)
theorem latheref10_pair_V (p0 : Ins) (p1 : Vl) (p2 : Vl) (hb : 0 ≤ p2.b ∧ p2.b < 18446744073709551616) : SpecV Try.prog 34 [.agg [.int .i64 p0.op, .int .i64 p0.reg, .int .i64 p0.t, .int .i64 p0.n, .int .i64 p0.f, .slice p0.args.a p0.args.l.length p0.args.cap, .slice p0.to.a p0.to.l.length p0.to.cap].toArray, .agg [.int .i64 p1.k, .int .u64 p1.b, .int .i64 p1.bl, .int .i64 p1.off].toArray, .agg [.int .i64 p2.k, .int .u64 p2.b, .int .i64 p2.bl, .int .i64 p2.off].toArray] (Value.tuple #[Value.agg [.int .i64 (((d_latheref10_pair p0 p1 p2).1).k), .int .u64 (((d_latheref10_pair p0 p1 p2).1).b), .int .i64 (((d_latheref10_pair p0 p1 p2).1).bl), .int .i64 (((d_latheref10_pair p0 p1 p2).1).off)].toArray, Value.int .i64 (d_latheref10_pair p0 p1 p2).2]) := by
  refine SpecV.enter Try.func34 rfl (n := 73) Try.ntmps34 (Nat.le_of_ble_eq_true rfl) (l := [(0, _, _), (1, _, _), (2, _, _)]) rfl ?_
  intro w
  refine SC.seq (fun K1 hK1 => SC.region ?_)
  refine SL.box (cs := [_, _, _, _, _, _, _]) rfl rfl rfl rfl rfl (fun b3 => ?_)
  refine SL.box (cs := [_, _, _, _]) rfl rfl rfl rfl rfl (fun b4 => ?_)
  refine SL.box (cs := [_, _, _, _]) rfl rfl rfl rfl rfl (fun b5 => ?_)
  refine SL.alloc (cs := [_, _, _, _]) Try.zeroValue35 rfl rfl rfl (fun b6 => ?_)
  refine SL.step (PS.assign rfl tt rfl rfl) ?_
  refine SL.keep (l' := [(6, _, _), (5, _, _), (4, _, _), (3, _, _)]) ⟨rfl, rfl, rfl, rfl, trivial⟩ ?_
  refine SL.nil (SE.thenK hK1 (SC.seq (fun K2 hK2 => SC.seq (fun K3 hK3 => SC.region ?_))))
  refine SL.step (PS.fieldAddr rfl tt Try.fieldAt_35_0 rfl rfl) ?_
  refine SL.step (PS.load_own (k := 2) rfl tt rfl rfl rfl Try.isAgg3 rfl rfl) ?_
  refine SL.step (PS.eql rfl tt rfl tt rfl rfl) ?_
  refine SL.step (PS.move rfl tt rfl rfl) ?_
  refine SL.step (PS.fieldAddr rfl tt Try.fieldAt_35_0 rfl rfl) ?_
  refine SL.step (PS.load_own (k := 1) rfl (fun h => h) rfl rfl rfl Try.isAgg3 rfl rfl) ?_
  refine SL.step (PS.eql rfl (fun h => h) rfl tt rfl rfl) ?_
  refine SL.step (PS.pick_or rfl tt rfl (fun h h2 => pk_or h h2) rfl rfl) ?_
  refine SL.keep (l' := [(16, _, _), (6, _, _), (5, _, _), (4, _, _), (3, _, _)]) ⟨rfl, rfl, rfl, rfl, rfl, trivial⟩ ?_
  refine SL.nil (SE.thenK hK3 ?_)
  refine SC.cond rfl (fun c16 => ?_) (fun c16 => ?_)
  ·
   refine SC.seq (fun K4 hK4 => SC.region ?_)
   refine SL.step (PS.build (us := []) (vs := [_, _, _, _]) trivial Try.underlying35 Try.zeroValue35 (Try.places_35 Try.underlying35) rfl rfl rfl) ?_
   refine SL.store_own (k := 0) (own' := [_, _, _, _]) (cs' := [_, _, _, _]) rfl rfl rfl rfl rfl rfl rfl Try.sizeOf35 rfl (Nat.le_of_ble_eq_true rfl) rfl rfl rfl rfl ?_
   refine SL.step (PS.assign rfl tt rfl rfl) ?_
   refine SL.keep (l' := [(7, _, _), (6, _, _)]) ⟨rfl, rfl, trivial⟩ ?_
   refine SL.nil (SE.thenK hK4 (SC.ret (SE.then_ret ?_)))
   exact finVct (k := 0) rfl Try.isAgg35 Try.sizeOf35 rfl rfl rfl rfl rfl (fun _ _ => congrArg (fun z : Vl × Int => Value.tuple #[Value.agg [.int .i64 z.1.k, .int .u64 z.1.b, .int .i64 z.1.bl, .int .i64 z.1.off].toArray, Value.int .i64 z.2]) (show (d_latheref10_pair p0 p1 p2) = (((⟨0, 0, 0, 0⟩ : Vl), 0) : Vl × Int) from (bifT c16)).symm)
  ·
   have c16n := c16
   try simp only [Bool.and_eq_true, Bool.or_eq_true, decide_eq_true_eq, Bool.true_and, Bool.not_eq_true', Bool.not_eq_false', beq_iff_eq, bne_iff_ne, decide_eq_false_iff_not, beq_eq_false_iff_ne, bne_eq_false_iff_eq, ne_eq, Bool.or_eq_false_iff, Bool.and_eq_false_iff] at c16n
   refine SC.skip (SE.thenK hK2 (SC.seq (fun K5 hK5 => SC.seq (fun K6 hK6 => SC.region ?_))))
   refine SL.step (PS.fieldAddr rfl tt Try.fieldAt_35_0 rfl rfl) ?_
   refine SL.step (PS.load_own (k := 2) rfl tt rfl rfl rfl Try.isAgg3 rfl rfl) ?_
   refine SL.step (PS.eql rfl tt rfl tt rfl rfl) ?_
   refine SL.step (PS.move rfl tt rfl rfl) ?_
   refine SL.step (PS.fieldAddr rfl tt Try.fieldAt_35_0 rfl rfl) ?_
   refine SL.step (PS.load_own (k := 1) rfl (fun h => h) rfl rfl rfl Try.isAgg3 rfl rfl) ?_
   refine SL.step (PS.eql rfl (fun h => h) rfl tt rfl rfl) ?_
   refine SL.step (PS.pick_or rfl tt rfl (fun h h2 => pk_or h h2) rfl rfl) ?_
   refine SL.keep (l' := [(25, _, _), (6, _, _), (5, _, _), (4, _, _), (3, _, _)]) ⟨rfl, rfl, rfl, rfl, rfl, trivial⟩ ?_
   refine SL.nil (SE.thenK hK6 ?_)
   refine SC.cond rfl (fun c25 => ?_) (fun c25 => ?_)
   ·
    refine SC.seq (fun K7 hK7 => SC.seq (fun K8 hK8 => SC.region ?_))
    refine SL.step (PS.fieldAddr rfl tt Try.fieldAt_25_4 rfl rfl) ?_
    refine SL.step (PS.load_own (k := 3) rfl tt rfl rfl rfl Try.isAgg3 rfl rfl) ?_
    refine SL.step (PS.neq rfl tt rfl tt rfl rfl) ?_
    refine SL.keep (l' := [(28, _, _), (6, _, _)]) ⟨rfl, rfl, trivial⟩ ?_
    refine SL.nil (SE.thenK hK8 ?_)
    refine SC.cond rfl (fun c28 => ?_) (fun c28 => ?_)
    ·
     refine SC.seq (fun K9 hK9 => SC.region ?_)
     refine SL.step (PS.build (us := []) (vs := [_, _, _, _]) trivial Try.underlying35 Try.zeroValue35 (Try.places_35 Try.underlying35) rfl rfl rfl) ?_
     refine SL.store_own (k := 0) (own' := [_, _, _, _]) (cs' := [_, _, _, _]) rfl rfl rfl rfl rfl rfl rfl Try.sizeOf35 rfl (Nat.le_of_ble_eq_true rfl) rfl rfl rfl rfl ?_
     refine SL.step (PS.assign rfl tt rfl rfl) ?_
     refine SL.keep (l' := [(7, _, _), (6, _, _)]) ⟨rfl, rfl, trivial⟩ ?_
     refine SL.nil (SE.thenK hK9 (SC.ret (SE.then_ret (SE.then_ret ?_))))
     exact finVct (k := 0) rfl Try.isAgg35 Try.sizeOf35 rfl rfl rfl rfl rfl (fun _ _ => congrArg (fun z : Vl × Int => Value.tuple #[Value.agg [.int .i64 z.1.k, .int .u64 z.1.b, .int .i64 z.1.bl, .int .i64 z.1.off].toArray, Value.int .i64 z.2]) (show (d_latheref10_pair p0 p1 p2) = (((⟨0, 0, 0, 0⟩ : Vl), 0) : Vl × Int) from ((bifF c16).trans ((bifT c25).trans (bifT c28)))).symm)
    ·
     refine SC.skip (SE.thenK hK7 (SC.seq (fun K10 hK10 => SC.region ?_)))
     refine SL.callV (vs := []) Try.call31 trivial (fun hg => latheref10_Any_V  ) rfl rfl ?_
     refine SL.store_own (k := 0) (own' := [_, _, _, _]) (cs' := [_, _, _, _]) rfl rfl rfl rfl rfl rfl rfl Try.sizeOf35 rfl (Nat.le_of_ble_eq_true rfl) rfl rfl rfl rfl ?_
     refine SL.step (PS.assign rfl tt rfl rfl) ?_
     refine SL.keep (l' := [(7, _, _), (6, _, _)]) ⟨rfl, rfl, trivial⟩ ?_
     refine SL.nil (SE.thenK hK10 (SC.ret (SE.then_ret ?_)))
     exact finVct (k := 0) rfl Try.isAgg35 Try.sizeOf35 rfl rfl rfl rfl rfl (fun _ _ => congrArg (fun z : Vl × Int => Value.tuple #[Value.agg [.int .i64 z.1.k, .int .u64 z.1.b, .int .i64 z.1.bl, .int .i64 z.1.off].toArray, Value.int .i64 z.2]) (show (d_latheref10_pair p0 p1 p2) = ((d_latheref10_Any, 0) : Vl × Int) from ((bifF c16).trans ((bifT c25).trans (bifF c28)))).symm)
   ·
    have c25n := c25
    try simp only [Bool.and_eq_true, Bool.or_eq_true, decide_eq_true_eq, Bool.true_and, Bool.not_eq_true', Bool.not_eq_false', beq_iff_eq, bne_iff_ne, decide_eq_false_iff_not, beq_eq_false_iff_ne, bne_eq_false_iff_eq, ne_eq, Bool.or_eq_false_iff, Bool.and_eq_false_iff] at c25n
    refine SC.skip (SE.thenK hK5 (SC.seq (fun K11 hK11 => SC.seq (fun K12 hK12 => SC.region ?_))))
    refine SL.step (PS.fieldAddr rfl tt Try.fieldAt_25_0 rfl rfl) ?_
    refine SL.step (PS.load_own (k := 3) rfl tt rfl rfl rfl Try.isAgg3 rfl rfl) ?_
    refine SL.step (PS.eql rfl tt rfl tt rfl rfl) ?_
    refine SL.keep (l' := [(33, _, _), (6, _, _), (5, _, _), (4, _, _), (3, _, _)]) ⟨rfl, rfl, rfl, rfl, rfl, trivial⟩ ?_
    refine SL.nil (SE.thenK hK12 ?_)
    refine SC.cond rfl (fun c33 => ?_) (fun c33 => ?_)
    ·
     refine SC.seq (fun K13 hK13 => SC.region ?_)
     refine SL.step (PS.fieldAddr rfl tt Try.fieldAt_35_2 rfl rfl) ?_
     refine SL.step (PS.load_own (k := 2) rfl tt rfl rfl rfl Try.isAgg3 rfl rfl) ?_
     refine SL.step (PS.fieldAddr rfl tt Try.fieldAt_35_3 rfl rfl) ?_
     refine SL.step (PS.load_own (k := 2) rfl tt rfl rfl rfl Try.isAgg2 rfl rfl) ?_
     refine SL.step (PS.conv rfl tt Try.underlying2 Try.underlying27 rfl rfl) ?_
     refine SL.step (PS.fieldAddr rfl tt Try.fieldAt_35_1 rfl rfl) ?_
     refine SL.step (PS.load_own (k := 1) rfl tt rfl rfl rfl Try.isAgg27 rfl rfl) ?_
     refine SL.step (PS.add rfl tt rfl tt rfl rfl) ?_
     refine SL.step (PS.conv rfl tt Try.underlying27 Try.underlying2 rfl rfl) ?_
     refine SL.step (PS.build (us := [(0, _), (2, _), (3, _)]) (vs := [_, _, _, _]) ⟨rfl, ⟨_, rfl, tt⟩, ⟨rfl, ⟨_, rfl, tt⟩, ⟨rfl, ⟨_, rfl, tt⟩, trivial⟩⟩⟩ Try.underlying35 Try.zeroValue35 (Try.places_35 Try.underlying35) rfl rfl rfl) ?_
     refine SL.store_own (k := 0) (own' := [_, _, _, _]) (cs' := [_, _, _, _]) rfl rfl rfl rfl rfl rfl rfl Try.sizeOf35 rfl (Nat.le_of_ble_eq_true rfl) rfl rfl rfl rfl ?_
     refine SL.step (PS.assign rfl tt rfl rfl) ?_
     refine SL.keep (l' := [(7, _, _), (6, _, _)]) ⟨rfl, rfl, trivial⟩ ?_
     refine SL.nil (SE.thenK hK13 (SC.ret (SE.then_ret ?_)))
     exact finVct (k := 0) rfl Try.isAgg35 Try.sizeOf35 rfl rfl rfl rfl rfl (fun _ _ => congrArg (fun z : Vl × Int => Value.tuple #[Value.agg [.int .i64 z.1.k, .int .u64 z.1.b, .int .i64 z.1.bl, .int .i64 z.1.off].toArray, Value.int .i64 z.2]) (show (d_latheref10_pair p0 p1 p2) = (((⟨2, 0, p1.bl, (IntKind.i64.wrap (IntKind.u64.wrap ((IntKind.u64.wrap p1.off) + p2.b)))⟩ : Vl), 0) : Vl × Int) from ((bifF c16).trans ((bifF c25).trans (bifT c33)))).symm)
    ·
     have c33n := c33
     try simp only [Bool.and_eq_true, Bool.or_eq_true, decide_eq_true_eq, Bool.true_and, Bool.not_eq_true', Bool.not_eq_false', beq_iff_eq, bne_iff_ne, decide_eq_false_iff_not, beq_eq_false_iff_ne, bne_eq_false_iff_eq, ne_eq, Bool.or_eq_false_iff, Bool.and_eq_false_iff] at c33n
     refine SC.skip (SE.thenK hK11 (SC.seq (fun K14 hK14 => SC.seq (fun K15 hK15 => SC.region ?_))))
     refine SL.step (PS.fieldAddr rfl tt Try.fieldAt_25_2 rfl rfl) ?_
     refine SL.step (PS.load_own (k := 3) rfl tt rfl rfl rfl Try.isAgg3 rfl rfl) ?_
     refine SL.step (PS.eql rfl tt rfl tt rfl rfl) ?_
     refine SL.keep (l' := [(46, _, _), (6, _, _), (5, _, _), (4, _, _), (3, _, _)]) ⟨rfl, rfl, rfl, rfl, rfl, trivial⟩ ?_
     refine SL.nil (SE.thenK hK15 ?_)
     refine SC.cond rfl (fun c46 => ?_) (fun c46 => ?_)
     ·
      refine SC.seq (fun K16 hK16 => SC.region ?_)
      refine SL.step (PS.fieldAddr rfl tt Try.fieldAt_35_2 rfl rfl) ?_
      refine SL.step (PS.load_own (k := 2) rfl tt rfl rfl rfl Try.isAgg3 rfl rfl) ?_
      refine SL.step (PS.fieldAddr rfl tt Try.fieldAt_35_2 rfl rfl) ?_
      refine SL.step (PS.load_own (k := 1) rfl tt rfl rfl rfl Try.isAgg3 rfl rfl) ?_
      refine SL.step (PS.eql rfl tt rfl tt rfl rfl) ?_
      refine SL.step (PS.move rfl tt rfl rfl) ?_
      refine SL.step (PS.fieldAddr rfl tt Try.fieldAt_35_3 rfl rfl) ?_
      refine SL.step (PS.load_own (k := 2) rfl (fun h => h) rfl rfl rfl Try.isAgg2 rfl rfl) ?_
      refine SL.step (PS.fieldAddr rfl tt Try.fieldAt_35_3 rfl rfl) ?_
      refine SL.step (PS.load_own (k := 1) rfl (fun h => h) rfl rfl rfl Try.isAgg2 rfl rfl) ?_
      refine SL.step (PS.eql rfl (fun h => h) rfl (fun h => h) rfl rfl) ?_
      refine SL.step (PS.pick_and rfl tt rfl (fun h h2 => pk_and h h2) rfl rfl) ?_
      refine SL.step (PS.assign rfl tt rfl rfl) ?_
      refine SL.keep (l' := [(8, _, _), (6, _, _), (3, _, _)]) ⟨rfl, rfl, rfl, trivial⟩ ?_
      refine SL.nil (SE.thenK hK16 (SC.seq (fun K17 hK17 => SC.region ?_)))
      refine SL.step (PS.move rfl tt rfl rfl) ?_
      refine SL.step (PS.fieldAddr rfl tt Try.fieldAt_25_0 rfl rfl) ?_
      refine SL.step (PS.load_own (k := 3) rfl tt rfl rfl rfl Try.isAgg3 rfl rfl) ?_
      refine SL.step (PS.eql rfl tt rfl tt rfl rfl) ?_
      refine SL.step (PS.eqlB rfl tt rfl tt Try.underlying4 rfl rfl) ?_
      refine SL.callV (vs := [_]) Try.call48 ⟨⟨_, rfl, tt⟩, trivial⟩ (fun hg => latheref10_truth_V (((p1.bl == p2.bl) && (p1.off == p2.off)) == (p0.op == 14)) ) rfl rfl ?_
      refine SL.store_own (k := 0) (own' := [_, _, _, _]) (cs' := [_, _, _, _]) rfl rfl rfl rfl rfl rfl rfl Try.sizeOf35 rfl (Nat.le_of_ble_eq_true rfl) rfl rfl rfl rfl ?_
      refine SL.step (PS.assign rfl tt rfl rfl) ?_
      refine SL.keep (l' := [(7, _, _), (6, _, _)]) ⟨rfl, rfl, trivial⟩ ?_
      refine SL.nil (SE.thenK hK17 (SC.ret (SE.then_ret ?_)))
      exact finVct (k := 0) rfl Try.isAgg35 Try.sizeOf35 rfl rfl rfl rfl rfl (fun _ _ => congrArg (fun z : Vl × Int => Value.tuple #[Value.agg [.int .i64 z.1.k, .int .u64 z.1.b, .int .i64 z.1.bl, .int .i64 z.1.off].toArray, Value.int .i64 z.2]) (show (d_latheref10_pair p0 p1 p2) = (((d_latheref10_truth (((p1.bl == p2.bl) && (p1.off == p2.off)) == (p0.op == 14))), 0) : Vl × Int) from ((bifF c16).trans ((bifF c25).trans ((bifF c33).trans (bifT c46))))).symm)
     ·
      have c46n := c46
      try simp only [Bool.and_eq_true, Bool.or_eq_true, decide_eq_true_eq, Bool.true_and, Bool.not_eq_true', Bool.not_eq_false', beq_iff_eq, bne_iff_ne, decide_eq_false_iff_not, beq_eq_false_iff_ne, bne_eq_false_iff_eq, ne_eq, Bool.or_eq_false_iff, Bool.and_eq_false_iff] at c46n
      refine SC.skip (SE.thenK hK14 (SC.seq (fun K18 hK18 => SC.region ?_)))
      refine SL.step (PS.load_own_agg (k := 3) (vs := [_, _, _, _, _, _, _]) rfl tt rfl rfl rfl rfl Try.isAgg25 Try.sizeOf25 rfl rfl) ?_
      refine SL.step (PS.fieldAddr rfl tt Try.fieldAt_35_1 rfl rfl) ?_
      refine SL.step (PS.load_own (k := 2) rfl tt rfl rfl rfl Try.isAgg27 rfl rfl) ?_
      refine SL.step (PS.fieldAddr rfl tt Try.fieldAt_35_1 rfl rfl) ?_
      refine SL.step (PS.load_own (k := 1) rfl tt rfl rfl rfl Try.isAgg27 rfl rfl) ?_
      refine SL.callV (vs := [_, _, _]) Try.call44 ⟨⟨_, rfl, tt⟩, ⟨_, rfl, tt⟩, ⟨_, rfl, tt⟩, trivial⟩ (fun hg => latheref10_applied_V p0 p1.b p2.b (by omega)) rfl rfl ?_
      refine SL.step (PS.extract rfl tt rfl rfl rfl) ?_
      refine SL.step (PS.extract rfl tt rfl rfl rfl) ?_
      refine SL.store_own (k := 0) (own' := [_, _, _, _]) (cs' := [_, _, _, _]) rfl rfl rfl rfl rfl rfl rfl Try.sizeOf35 rfl (Nat.le_of_ble_eq_true rfl) rfl rfl rfl rfl ?_
      refine SL.step (PS.assign rfl tt rfl rfl) ?_
      refine SL.keep (l' := [(7, _, _), (6, _, _)]) ⟨rfl, rfl, trivial⟩ ?_
      refine SL.nil (SE.thenK hK18 (SC.ret ?_))
      exact finVct (k := 0) rfl Try.isAgg35 Try.sizeOf35 rfl rfl rfl rfl rfl (fun _ _ => congrArg (fun z : Vl × Int => Value.tuple #[Value.agg [.int .i64 z.1.k, .int .u64 z.1.b, .int .i64 z.1.bl, .int .i64 z.1.off].toArray, Value.int .i64 z.2]) (show (d_latheref10_pair p0 p1 p2) = ((((d_latheref10_applied p0 p1.b p2.b).1), (d_latheref10_applied p0 p1.b p2.b).2) : Vl × Int) from ((bifF c16).trans ((bifF c25).trans ((bifF c33).trans (bifF c46))))).symm)
end Go.Proofs.Ytffimfmicapaaaa
