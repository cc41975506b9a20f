/- The reference of Apply: what its code computes. -/
import Derived.Test.YtffimfmicapaaaaR01c
namespace Go.Proofs.Ytffimfmicapaaaa
open Go.RowKit
set_option linter.unusedVariables false
set_option linter.unusedSimpArgs false
set_option maxRecDepth 100000
set_option maxHeartbeats 4000000
open Pl (Vl)
def d_latheref01_Apply (p0 : Int) (p1 : Int) (p2 : Int) (p3 : Int) (p4 : Int) : Int × Int :=
  bif ((((!(d_latheref01_width p1)) || (decide (p0 < 1))) || (decide (19 < p0))) || ((bits .andNot .i64 p2 (d_latheref01_Flags p0)) != 0)) then
   (0, 3)
  else bif (p0 == 1) then
    ((d_latheref01_flagged p0 p1 p2 p3 p4).1, (d_latheref01_flagged p0 p1 p2 p3 p4).2)
   else bif (p0 == 2) then
     ((d_latheref01_flagged p0 p1 p2 p3 p4).1, (d_latheref01_flagged p0 p1 p2 p3 p4).2)
    else bif (p0 == 3) then
      ((d_latheref01_flagged p0 p1 p2 p3 p4).1, (d_latheref01_flagged p0 p1 p2 p3 p4).2)
     else bif (p0 == 11) then
       ((d_latheref01_flagged p0 p1 p2 p3 p4).1, (d_latheref01_flagged p0 p1 p2 p3 p4).2)
      else bif (p0 == 4) then
        ((d_latheref01_divided p0 p1 p2 p3 p4).1, (d_latheref01_divided p0 p1 p2 p3 p4).2)
       else bif (p0 == 5) then
         ((d_latheref01_divided p0 p1 p2 p3 p4).1, (d_latheref01_divided p0 p1 p2 p3 p4).2)
        else bif (p0 == 6) then
          ((d_latheref01_divided p0 p1 p2 p3 p4).1, (d_latheref01_divided p0 p1 p2 p3 p4).2)
         else bif (p0 == 7) then
           ((d_latheref01_divided p0 p1 p2 p3 p4).1, (d_latheref01_divided p0 p1 p2 p3 p4).2)
          else bif (p0 == 8) then
            ((d_latheref01_bitwise p0 p1 p3 p4), 0)
           else bif (p0 == 9) then
             ((d_latheref01_bitwise p0 p1 p3 p4), 0)
            else bif (p0 == 10) then
              ((d_latheref01_bitwise p0 p1 p3 p4), 0)
             else bif (p0 == 12) then
               ((d_latheref01_right p0 p1 p2 p3 p4).1, (d_latheref01_right p0 p1 p2 p3 p4).2)
              else bif (p0 == 13) then
                ((d_latheref01_right p0 p1 p2 p3 p4).1, (d_latheref01_right p0 p1 p2 p3 p4).2)
               else bif (d_latheref01_compared p0 p1 p3 p4) then
                 (1, 0)
                else (0, 0)
theorem latheref01_Apply_V (p0 : Int) (p1 : Int) (p2 : Int) (p3 : Int) (p4 : Int) (hb : 0 ≤ p4 ∧ p4 < 18446744073709551616) : SpecV Try.prog 53 [.int .i64 p0, .int .i64 p1, .int .i64 p2, .int .u64 p3, .int .u64 p4] (Value.tuple #[Value.int .u64 (d_latheref01_Apply p0 p1 p2 p3 p4).1, Value.int .i64 (d_latheref01_Apply p0 p1 p2 p3 p4).2]) := by
  refine SpecV.enter Try.func53 rfl (n := 86) Try.ntmps53 (Nat.le_of_ble_eq_true rfl) (l := [(0, _, _), (1, _, _), (2, _, _), (3, _, _), (4, _, _)]) rfl ?_
  intro w
  refine SC.seq (fun K1 hK1 => SC.region ?_)
  refine SL.step (PS.assign rfl tt rfl rfl) ?_
  refine SL.step (PS.assign rfl tt rfl rfl) ?_
  refine SL.keep (l' := [(0, _, _), (1, _, _), (2, _, _), (3, _, _), (4, _, _)]) ⟨rfl, rfl, rfl, rfl, rfl, trivial⟩ ?_
  refine SL.nil (SE.thenK hK1 (SC.seq (fun K2 hK2 => SC.region ?_)))
  refine SL.step (PS.move rfl tt rfl rfl) ?_
  refine SL.callV (vs := [_]) Try.call45 ⟨⟨_, rfl, tt⟩, trivial⟩ (fun hg => latheref01_width_V p1 ) rfl rfl ?_
  refine SL.step (PS.assign rfl tt rfl rfl) ?_
  refine SL.keep (l' := [(12, _, _), (0, _, _), (1, _, _), (2, _, _), (3, _, _), (4, _, _)]) ⟨rfl, rfl, rfl, rfl, rfl, rfl, trivial⟩ ?_
  refine SL.nil (SE.thenK hK2 (SC.seq (fun K3 hK3 => SC.seq (fun K4 hK4 => SC.region ?_))))
  refine SL.step (PS.move rfl tt rfl rfl) ?_
  refine SL.step (PS.not rfl tt rfl rfl) ?_
  refine SL.step (PS.move rfl tt rfl rfl) ?_
  refine SL.step (PS.move rfl tt rfl rfl) ?_
  refine SL.step (PS.lss rfl (fun h => h) rfl tt rfl rfl) ?_
  refine SL.step (PS.pick_or rfl tt rfl (fun h h2 => pk_or h h2) rfl rfl) ?_
  refine SL.step (PS.move rfl tt rfl rfl) ?_
  refine SL.step (PS.move rfl tt rfl rfl) ?_
  refine SL.step (PS.gtr rfl (fun h => h) rfl tt rfl rfl) ?_
  refine SL.step (PS.pick_or rfl tt rfl (fun h h2 => pk_or h h2) rfl rfl) ?_
  refine SL.step (PS.move rfl tt rfl rfl) ?_
  refine SL.step (PS.move rfl tt rfl rfl) ?_
  refine SL.step (PS.move rfl tt rfl rfl) ?_
  refine SL.callV (vs := [_]) Try.call41 ⟨⟨_, rfl, (fun h => h)⟩, trivial⟩ (fun hg => latheref01_Flags_V p0 ) rfl rfl ?_
  refine SL.step (PS.andNot rfl (fun h => h) rfl (fun h => h) rfl rfl) ?_
  refine SL.step (PS.neq rfl (fun h => h) rfl tt rfl rfl) ?_
  refine SL.step (PS.pick_or rfl tt rfl (fun h h2 => pk_or h h2) rfl rfl) ?_
  refine SL.keep (l' := [(32, _, _), (0, _, _), (1, _, _), (2, _, _), (3, _, _), (4, _, _)]) ⟨rfl, rfl, rfl, rfl, rfl, rfl, trivial⟩ ?_
  refine SL.nil (SE.thenK hK4 ?_)
  refine SC.cond rfl (fun c32 => ?_) (fun c32 => ?_)
  ·
   refine SC.seq (fun K5 hK5 => SC.region ?_)
   refine SL.step (PS.assign rfl tt rfl rfl) ?_
   refine SL.step (PS.assign rfl tt rfl rfl) ?_
   refine SL.keep (l' := [(11, _, _), (10, _, _)]) ⟨rfl, rfl, trivial⟩ ?_
   refine SL.nil (SE.thenK hK5 (SC.ret (SE.then_ret ?_)))
   exact finV2 rfl rfl rfl (fun _ _ => congrArg (fun z : Int × Int => Value.tuple #[Value.int .u64 z.1, Value.int .i64 z.2]) (show (d_latheref01_Apply p0 p1 p2 p3 p4) = ((0, 3) : Int × Int) from (bifT c32)).symm)
  ·
   have c32n := c32
   try simp only [width_iff, width_not, Bool.and_eq_true, Bool.or_eq_true, decide_eq_true_eq, Bool.true_and, Bool.not_eq_true', Bool.not_eq_false', beq_iff_eq, bne_iff_ne, decide_eq_false_iff_not, beq_eq_false_iff_ne, bne_eq_false_iff_eq, ne_eq, Bool.or_eq_false_iff, Bool.and_eq_false_iff] at c32n
   refine SC.skip (SE.thenK hK3 (SC.seq (fun K6 hK6 => SC.seq (fun K7 hK7 => SC.region ?_))))
   refine SL.step (PS.move rfl tt rfl rfl) ?_
   refine SL.keep (l' := [(33, _, _), (0, _, _), (1, _, _), (2, _, _), (3, _, _), (4, _, _)]) ⟨rfl, rfl, rfl, rfl, rfl, rfl, trivial⟩ ?_
   refine SL.nil (SE.thenK hK7 (SC.block (SC.seq (fun K8 hK8 => SC.seq (fun K9 hK9 => SC.region ?_)))))
   refine SL.step (PS.eql rfl tt rfl tt rfl rfl) ?_
   refine SL.step (PS.assign rfl tt rfl rfl) ?_
   refine SL.keep (l' := [(34, _, _), (33, _, _), (0, _, _), (1, _, _), (2, _, _), (3, _, _), (4, _, _)]) ⟨rfl, rfl, rfl, rfl, rfl, rfl, rfl, trivial⟩ ?_
   refine SL.nil (SE.thenK hK9 ?_)
   refine SC.cond rfl (fun c34 => ?_) (fun c34 => ?_)
   ·
    have c34n := c34
    try simp only [width_iff, width_not, Bool.and_eq_true, Bool.or_eq_true, decide_eq_true_eq, Bool.true_and, Bool.not_eq_true', Bool.not_eq_false', beq_iff_eq, bne_iff_ne, decide_eq_false_iff_not, beq_eq_false_iff_ne, bne_eq_false_iff_eq, ne_eq, Bool.or_eq_false_iff, Bool.and_eq_false_iff] at c34n
    refine SC.skip (SE.thenK hK8 (SC.cond_t rfl c34 (SC.seq (fun K10 hK10 => SC.region ?_))))
    refine SL.step (PS.move rfl tt rfl rfl) ?_
    refine SL.step (PS.move rfl tt rfl rfl) ?_
    refine SL.step (PS.move rfl tt rfl rfl) ?_
    refine SL.step (PS.move rfl tt rfl rfl) ?_
    refine SL.step (PS.move rfl tt rfl rfl) ?_
    refine SL.callV (vs := [_, _, _, _, _]) Try.call58 ⟨⟨_, rfl, tt⟩, ⟨_, rfl, tt⟩, ⟨_, rfl, tt⟩, ⟨_, rfl, tt⟩, ⟨_, rfl, tt⟩, trivial⟩ (fun hg => latheref01_flagged_V p0 p1 p2 p3 p4 (by omega) (by omega) (by omega)) rfl rfl ?_
    refine SL.step (PS.extract rfl tt rfl rfl rfl) ?_
    refine SL.step (PS.extract rfl tt rfl rfl rfl) ?_
    refine SL.step (PS.assign rfl tt rfl rfl) ?_
    refine SL.step (PS.assign rfl tt rfl rfl) ?_
    refine SL.keep (l' := [(11, _, _), (10, _, _)]) ⟨rfl, rfl, trivial⟩ ?_
    refine SL.nil (SE.thenK hK10 (SC.ret (SE.block_ret (SE.then_ret ?_))))
    exact finV2 rfl rfl rfl (fun _ _ => congrArg (fun z : Int × Int => Value.tuple #[Value.int .u64 z.1, Value.int .i64 z.2]) (show (d_latheref01_Apply p0 p1 p2 p3 p4) = (((d_latheref01_flagged p0 p1 p2 p3 p4).1, (d_latheref01_flagged p0 p1 p2 p3 p4).2) : Int × Int) from ((bifF c32).trans (bifT c34))).symm)
   ·
    have c34n := c34
    try simp only [width_iff, width_not, Bool.and_eq_true, Bool.or_eq_true, decide_eq_true_eq, Bool.true_and, Bool.not_eq_true', Bool.not_eq_false', beq_iff_eq, bne_iff_ne, decide_eq_false_iff_not, beq_eq_false_iff_ne, bne_eq_false_iff_eq, ne_eq, Bool.or_eq_false_iff, Bool.and_eq_false_iff] at c34n
    refine SC.seq (fun K11 hK11 => SC.region ?_)
    refine SL.step (PS.eql rfl tt rfl tt rfl rfl) ?_
    refine SL.step (PS.assign rfl tt rfl rfl) ?_
    refine SL.keep (l' := [(34, _, _), (33, _, _), (0, _, _), (1, _, _), (2, _, _), (3, _, _), (4, _, _)]) ⟨rfl, rfl, rfl, rfl, rfl, rfl, rfl, trivial⟩ ?_
    refine SL.nil (SE.thenK hK11 ?_)
    refine SC.cond rfl (fun c34a => ?_) (fun c34a => ?_)
    ·
     have c34an := c34a
     try simp only [width_iff, width_not, Bool.and_eq_true, Bool.or_eq_true, decide_eq_true_eq, Bool.true_and, Bool.not_eq_true', Bool.not_eq_false', beq_iff_eq, bne_iff_ne, decide_eq_false_iff_not, beq_eq_false_iff_ne, bne_eq_false_iff_eq, ne_eq, Bool.or_eq_false_iff, Bool.and_eq_false_iff] at c34an
     refine SC.skip (SE.thenK hK8 (SC.cond_t rfl c34a (SC.seq (fun K12 hK12 => SC.region ?_))))
     refine SL.step (PS.move rfl tt rfl rfl) ?_
     refine SL.step (PS.move rfl tt rfl rfl) ?_
     refine SL.step (PS.move rfl tt rfl rfl) ?_
     refine SL.step (PS.move rfl tt rfl rfl) ?_
     refine SL.step (PS.move rfl tt rfl rfl) ?_
     refine SL.callV (vs := [_, _, _, _, _]) Try.call58 ⟨⟨_, rfl, tt⟩, ⟨_, rfl, tt⟩, ⟨_, rfl, tt⟩, ⟨_, rfl, tt⟩, ⟨_, rfl, tt⟩, trivial⟩ (fun hg => latheref01_flagged_V p0 p1 p2 p3 p4 (by omega) (by omega) (by omega)) rfl rfl ?_
     refine SL.step (PS.extract rfl tt rfl rfl rfl) ?_
     refine SL.step (PS.extract rfl tt rfl rfl rfl) ?_
     refine SL.step (PS.assign rfl tt rfl rfl) ?_
     refine SL.step (PS.assign rfl tt rfl rfl) ?_
     refine SL.keep (l' := [(11, _, _), (10, _, _)]) ⟨rfl, rfl, trivial⟩ ?_
     refine SL.nil (SE.thenK hK12 (SC.ret (SE.block_ret (SE.then_ret ?_))))
     exact finV2 rfl rfl rfl (fun _ _ => congrArg (fun z : Int × Int => Value.tuple #[Value.int .u64 z.1, Value.int .i64 z.2]) (show (d_latheref01_Apply p0 p1 p2 p3 p4) = (((d_latheref01_flagged p0 p1 p2 p3 p4).1, (d_latheref01_flagged p0 p1 p2 p3 p4).2) : Int × Int) from ((bifF c32).trans ((bifF c34).trans (bifT c34a)))).symm)
    ·
     have c34an := c34a
     try simp only [width_iff, width_not, Bool.and_eq_true, Bool.or_eq_true, decide_eq_true_eq, Bool.true_and, Bool.not_eq_true', Bool.not_eq_false', beq_iff_eq, bne_iff_ne, decide_eq_false_iff_not, beq_eq_false_iff_ne, bne_eq_false_iff_eq, ne_eq, Bool.or_eq_false_iff, Bool.and_eq_false_iff] at c34an
     refine SC.seq (fun K13 hK13 => SC.region ?_)
     refine SL.step (PS.eql rfl tt rfl tt rfl rfl) ?_
     refine SL.step (PS.assign rfl tt rfl rfl) ?_
     refine SL.keep (l' := [(34, _, _), (33, _, _), (0, _, _), (1, _, _), (2, _, _), (3, _, _), (4, _, _)]) ⟨rfl, rfl, rfl, rfl, rfl, rfl, rfl, trivial⟩ ?_
     refine SL.nil (SE.thenK hK13 ?_)
     refine SC.cond rfl (fun c34b => ?_) (fun c34b => ?_)
     ·
      have c34bn := c34b
      try simp only [width_iff, width_not, Bool.and_eq_true, Bool.or_eq_true, decide_eq_true_eq, Bool.true_and, Bool.not_eq_true', Bool.not_eq_false', beq_iff_eq, bne_iff_ne, decide_eq_false_iff_not, beq_eq_false_iff_ne, bne_eq_false_iff_eq, ne_eq, Bool.or_eq_false_iff, Bool.and_eq_false_iff] at c34bn
      refine SC.skip (SE.thenK hK8 (SC.cond_t rfl c34b (SC.seq (fun K14 hK14 => SC.region ?_))))
      refine SL.step (PS.move rfl tt rfl rfl) ?_
      refine SL.step (PS.move rfl tt rfl rfl) ?_
      refine SL.step (PS.move rfl tt rfl rfl) ?_
      refine SL.step (PS.move rfl tt rfl rfl) ?_
      refine SL.step (PS.move rfl tt rfl rfl) ?_
      refine SL.callV (vs := [_, _, _, _, _]) Try.call58 ⟨⟨_, rfl, tt⟩, ⟨_, rfl, tt⟩, ⟨_, rfl, tt⟩, ⟨_, rfl, tt⟩, ⟨_, rfl, tt⟩, trivial⟩ (fun hg => latheref01_flagged_V p0 p1 p2 p3 p4 (by omega) (by omega) (by omega)) rfl rfl ?_
      refine SL.step (PS.extract rfl tt rfl rfl rfl) ?_
      refine SL.step (PS.extract rfl tt rfl rfl rfl) ?_
      refine SL.step (PS.assign rfl tt rfl rfl) ?_
      refine SL.step (PS.assign rfl tt rfl rfl) ?_
      refine SL.keep (l' := [(11, _, _), (10, _, _)]) ⟨rfl, rfl, trivial⟩ ?_
      refine SL.nil (SE.thenK hK14 (SC.ret (SE.block_ret (SE.then_ret ?_))))
      exact finV2 rfl rfl rfl (fun _ _ => congrArg (fun z : Int × Int => Value.tuple #[Value.int .u64 z.1, Value.int .i64 z.2]) (show (d_latheref01_Apply p0 p1 p2 p3 p4) = (((d_latheref01_flagged p0 p1 p2 p3 p4).1, (d_latheref01_flagged p0 p1 p2 p3 p4).2) : Int × Int) from ((bifF c32).trans ((bifF c34).trans ((bifF c34a).trans (bifT c34b))))).symm)
     ·
      have c34bn := c34b
      try simp only [width_iff, width_not, Bool.and_eq_true, Bool.or_eq_true, decide_eq_true_eq, Bool.true_and, Bool.not_eq_true', Bool.not_eq_false', beq_iff_eq, bne_iff_ne, decide_eq_false_iff_not, beq_eq_false_iff_ne, bne_eq_false_iff_eq, ne_eq, Bool.or_eq_false_iff, Bool.and_eq_false_iff] at c34bn
      refine SC.region ?_
      refine SL.step (PS.eql rfl tt rfl tt rfl rfl) ?_
      refine SL.step (PS.assign rfl tt rfl rfl) ?_
      refine SL.keep (l' := [(34, _, _), (33, _, _), (0, _, _), (1, _, _), (2, _, _), (3, _, _), (4, _, _)]) ⟨rfl, rfl, rfl, rfl, rfl, rfl, rfl, trivial⟩ ?_
      refine SL.nil (SE.thenK hK8 ?_)
      refine SC.cond rfl (fun c34c => ?_) (fun c34c => ?_)
      ·
       have c34cn := c34c
       try simp only [width_iff, width_not, Bool.and_eq_true, Bool.or_eq_true, decide_eq_true_eq, Bool.true_and, Bool.not_eq_true', Bool.not_eq_false', beq_iff_eq, bne_iff_ne, decide_eq_false_iff_not, beq_eq_false_iff_ne, bne_eq_false_iff_eq, ne_eq, Bool.or_eq_false_iff, Bool.and_eq_false_iff] at c34cn
       refine SC.seq (fun K15 hK15 => SC.region ?_)
       refine SL.step (PS.move rfl tt rfl rfl) ?_
       refine SL.step (PS.move rfl tt rfl rfl) ?_
       refine SL.step (PS.move rfl tt rfl rfl) ?_
       refine SL.step (PS.move rfl tt rfl rfl) ?_
       refine SL.step (PS.move rfl tt rfl rfl) ?_
       refine SL.callV (vs := [_, _, _, _, _]) Try.call58 ⟨⟨_, rfl, tt⟩, ⟨_, rfl, tt⟩, ⟨_, rfl, tt⟩, ⟨_, rfl, tt⟩, ⟨_, rfl, tt⟩, trivial⟩ (fun hg => latheref01_flagged_V p0 p1 p2 p3 p4 (by omega) (by omega) (by omega)) rfl rfl ?_
       refine SL.step (PS.extract rfl tt rfl rfl rfl) ?_
       refine SL.step (PS.extract rfl tt rfl rfl rfl) ?_
       refine SL.step (PS.assign rfl tt rfl rfl) ?_
       refine SL.step (PS.assign rfl tt rfl rfl) ?_
       refine SL.keep (l' := [(11, _, _), (10, _, _)]) ⟨rfl, rfl, trivial⟩ ?_
       refine SL.nil (SE.thenK hK15 (SC.ret (SE.block_ret (SE.then_ret ?_))))
       exact finV2 rfl rfl rfl (fun _ _ => congrArg (fun z : Int × Int => Value.tuple #[Value.int .u64 z.1, Value.int .i64 z.2]) (show (d_latheref01_Apply p0 p1 p2 p3 p4) = (((d_latheref01_flagged p0 p1 p2 p3 p4).1, (d_latheref01_flagged p0 p1 p2 p3 p4).2) : Int × Int) from ((bifF c32).trans ((bifF c34).trans ((bifF c34a).trans ((bifF c34b).trans (bifT c34c)))))).symm)
      ·
       have c34cn := c34c
       try simp only [width_iff, width_not, Bool.and_eq_true, Bool.or_eq_true, decide_eq_true_eq, Bool.true_and, Bool.not_eq_true', Bool.not_eq_false', beq_iff_eq, bne_iff_ne, decide_eq_false_iff_not, beq_eq_false_iff_ne, bne_eq_false_iff_eq, ne_eq, Bool.or_eq_false_iff, Bool.and_eq_false_iff] at c34cn
       refine SC.seq (fun K16 hK16 => SC.seq (fun K17 hK17 => SC.region ?_))
       refine SL.step (PS.eql rfl tt rfl tt rfl rfl) ?_
       refine SL.step (PS.assign rfl tt rfl rfl) ?_
       refine SL.keep (l' := [(47, _, _), (33, _, _), (0, _, _), (1, _, _), (2, _, _), (3, _, _), (4, _, _)]) ⟨rfl, rfl, rfl, rfl, rfl, rfl, rfl, trivial⟩ ?_
       refine SL.nil (SE.thenK hK17 ?_)
       refine SC.cond rfl (fun c47 => ?_) (fun c47 => ?_)
       ·
        have c47n := c47
        try simp only [width_iff, width_not, Bool.and_eq_true, Bool.or_eq_true, decide_eq_true_eq, Bool.true_and, Bool.not_eq_true', Bool.not_eq_false', beq_iff_eq, bne_iff_ne, decide_eq_false_iff_not, beq_eq_false_iff_ne, bne_eq_false_iff_eq, ne_eq, Bool.or_eq_false_iff, Bool.and_eq_false_iff] at c47n
        refine SC.skip (SE.thenK hK16 (SC.cond_t rfl c47 (SC.seq (fun K18 hK18 => SC.region ?_))))
        refine SL.step (PS.move rfl tt rfl rfl) ?_
        refine SL.step (PS.move rfl tt rfl rfl) ?_
        refine SL.step (PS.move rfl tt rfl rfl) ?_
        refine SL.step (PS.move rfl tt rfl rfl) ?_
        refine SL.step (PS.move rfl tt rfl rfl) ?_
        refine SL.callV (vs := [_, _, _, _, _]) Try.call59 ⟨⟨_, rfl, tt⟩, ⟨_, rfl, tt⟩, ⟨_, rfl, tt⟩, ⟨_, rfl, tt⟩, ⟨_, rfl, tt⟩, trivial⟩ (fun hg => latheref01_divided_V p0 p1 p2 p3 p4 (by omega) (by omega)) rfl rfl ?_
        refine SL.step (PS.extract rfl tt rfl rfl rfl) ?_
        refine SL.step (PS.extract rfl tt rfl rfl rfl) ?_
        refine SL.step (PS.assign rfl tt rfl rfl) ?_
        refine SL.step (PS.assign rfl tt rfl rfl) ?_
        refine SL.keep (l' := [(11, _, _), (10, _, _)]) ⟨rfl, rfl, trivial⟩ ?_
        refine SL.nil (SE.thenK hK18 (SC.ret (SE.block_ret (SE.then_ret ?_))))
        exact finV2 rfl rfl rfl (fun _ _ => congrArg (fun z : Int × Int => Value.tuple #[Value.int .u64 z.1, Value.int .i64 z.2]) (show (d_latheref01_Apply p0 p1 p2 p3 p4) = (((d_latheref01_divided p0 p1 p2 p3 p4).1, (d_latheref01_divided p0 p1 p2 p3 p4).2) : Int × Int) from ((bifF c32).trans ((bifF c34).trans ((bifF c34a).trans ((bifF c34b).trans ((bifF c34c).trans (bifT c47))))))).symm)
       ·
        have c47n := c47
        try simp only [width_iff, width_not, Bool.and_eq_true, Bool.or_eq_true, decide_eq_true_eq, Bool.true_and, Bool.not_eq_true', Bool.not_eq_false', beq_iff_eq, bne_iff_ne, decide_eq_false_iff_not, beq_eq_false_iff_ne, bne_eq_false_iff_eq, ne_eq, Bool.or_eq_false_iff, Bool.and_eq_false_iff] at c47n
        refine SC.seq (fun K19 hK19 => SC.region ?_)
        refine SL.step (PS.eql rfl tt rfl tt rfl rfl) ?_
        refine SL.step (PS.assign rfl tt rfl rfl) ?_
        refine SL.keep (l' := [(47, _, _), (33, _, _), (0, _, _), (1, _, _), (2, _, _), (3, _, _), (4, _, _)]) ⟨rfl, rfl, rfl, rfl, rfl, rfl, rfl, trivial⟩ ?_
        refine SL.nil (SE.thenK hK19 ?_)
        refine SC.cond rfl (fun c47a => ?_) (fun c47a => ?_)
        ·
         have c47an := c47a
         try simp only [width_iff, width_not, Bool.and_eq_true, Bool.or_eq_true, decide_eq_true_eq, Bool.true_and, Bool.not_eq_true', Bool.not_eq_false', beq_iff_eq, bne_iff_ne, decide_eq_false_iff_not, beq_eq_false_iff_ne, bne_eq_false_iff_eq, ne_eq, Bool.or_eq_false_iff, Bool.and_eq_false_iff] at c47an
         refine SC.skip (SE.thenK hK16 (SC.cond_t rfl c47a (SC.seq (fun K20 hK20 => SC.region ?_))))
         refine SL.step (PS.move rfl tt rfl rfl) ?_
         refine SL.step (PS.move rfl tt rfl rfl) ?_
         refine SL.step (PS.move rfl tt rfl rfl) ?_
         refine SL.step (PS.move rfl tt rfl rfl) ?_
         refine SL.step (PS.move rfl tt rfl rfl) ?_
         refine SL.callV (vs := [_, _, _, _, _]) Try.call59 ⟨⟨_, rfl, tt⟩, ⟨_, rfl, tt⟩, ⟨_, rfl, tt⟩, ⟨_, rfl, tt⟩, ⟨_, rfl, tt⟩, trivial⟩ (fun hg => latheref01_divided_V p0 p1 p2 p3 p4 (by omega) (by omega)) rfl rfl ?_
         refine SL.step (PS.extract rfl tt rfl rfl rfl) ?_
         refine SL.step (PS.extract rfl tt rfl rfl rfl) ?_
         refine SL.step (PS.assign rfl tt rfl rfl) ?_
         refine SL.step (PS.assign rfl tt rfl rfl) ?_
         refine SL.keep (l' := [(11, _, _), (10, _, _)]) ⟨rfl, rfl, trivial⟩ ?_
         refine SL.nil (SE.thenK hK20 (SC.ret (SE.block_ret (SE.then_ret ?_))))
         exact finV2 rfl rfl rfl (fun _ _ => congrArg (fun z : Int × Int => Value.tuple #[Value.int .u64 z.1, Value.int .i64 z.2]) (show (d_latheref01_Apply p0 p1 p2 p3 p4) = (((d_latheref01_divided p0 p1 p2 p3 p4).1, (d_latheref01_divided p0 p1 p2 p3 p4).2) : Int × Int) from ((bifF c32).trans ((bifF c34).trans ((bifF c34a).trans ((bifF c34b).trans ((bifF c34c).trans ((bifF c47).trans (bifT c47a)))))))).symm)
        ·
         have c47an := c47a
         try simp only [width_iff, width_not, Bool.and_eq_true, Bool.or_eq_true, decide_eq_true_eq, Bool.true_and, Bool.not_eq_true', Bool.not_eq_false', beq_iff_eq, bne_iff_ne, decide_eq_false_iff_not, beq_eq_false_iff_ne, bne_eq_false_iff_eq, ne_eq, Bool.or_eq_false_iff, Bool.and_eq_false_iff] at c47an
         refine SC.seq (fun K21 hK21 => SC.region ?_)
         refine SL.step (PS.eql rfl tt rfl tt rfl rfl) ?_
         refine SL.step (PS.assign rfl tt rfl rfl) ?_
         refine SL.keep (l' := [(47, _, _), (33, _, _), (0, _, _), (1, _, _), (2, _, _), (3, _, _), (4, _, _)]) ⟨rfl, rfl, rfl, rfl, rfl, rfl, rfl, trivial⟩ ?_
         refine SL.nil (SE.thenK hK21 ?_)
         refine SC.cond rfl (fun c47b => ?_) (fun c47b => ?_)
         ·
          have c47bn := c47b
          try simp only [width_iff, width_not, Bool.and_eq_true, Bool.or_eq_true, decide_eq_true_eq, Bool.true_and, Bool.not_eq_true', Bool.not_eq_false', beq_iff_eq, bne_iff_ne, decide_eq_false_iff_not, beq_eq_false_iff_ne, bne_eq_false_iff_eq, ne_eq, Bool.or_eq_false_iff, Bool.and_eq_false_iff] at c47bn
          refine SC.skip (SE.thenK hK16 (SC.cond_t rfl c47b (SC.seq (fun K22 hK22 => SC.region ?_))))
          refine SL.step (PS.move rfl tt rfl rfl) ?_
          refine SL.step (PS.move rfl tt rfl rfl) ?_
          refine SL.step (PS.move rfl tt rfl rfl) ?_
          refine SL.step (PS.move rfl tt rfl rfl) ?_
          refine SL.step (PS.move rfl tt rfl rfl) ?_
          refine SL.callV (vs := [_, _, _, _, _]) Try.call59 ⟨⟨_, rfl, tt⟩, ⟨_, rfl, tt⟩, ⟨_, rfl, tt⟩, ⟨_, rfl, tt⟩, ⟨_, rfl, tt⟩, trivial⟩ (fun hg => latheref01_divided_V p0 p1 p2 p3 p4 (by omega) (by omega)) rfl rfl ?_
          refine SL.step (PS.extract rfl tt rfl rfl rfl) ?_
          refine SL.step (PS.extract rfl tt rfl rfl rfl) ?_
          refine SL.step (PS.assign rfl tt rfl rfl) ?_
          refine SL.step (PS.assign rfl tt rfl rfl) ?_
          refine SL.keep (l' := [(11, _, _), (10, _, _)]) ⟨rfl, rfl, trivial⟩ ?_
          refine SL.nil (SE.thenK hK22 (SC.ret (SE.block_ret (SE.then_ret ?_))))
          exact finV2 rfl rfl rfl (fun _ _ => congrArg (fun z : Int × Int => Value.tuple #[Value.int .u64 z.1, Value.int .i64 z.2]) (show (d_latheref01_Apply p0 p1 p2 p3 p4) = (((d_latheref01_divided p0 p1 p2 p3 p4).1, (d_latheref01_divided p0 p1 p2 p3 p4).2) : Int × Int) from ((bifF c32).trans ((bifF c34).trans ((bifF c34a).trans ((bifF c34b).trans ((bifF c34c).trans ((bifF c47).trans ((bifF c47a).trans (bifT c47b))))))))).symm)
         ·
          have c47bn := c47b
          try simp only [width_iff, width_not, Bool.and_eq_true, Bool.or_eq_true, decide_eq_true_eq, Bool.true_and, Bool.not_eq_true', Bool.not_eq_false', beq_iff_eq, bne_iff_ne, decide_eq_false_iff_not, beq_eq_false_iff_ne, bne_eq_false_iff_eq, ne_eq, Bool.or_eq_false_iff, Bool.and_eq_false_iff] at c47bn
          refine SC.region ?_
          refine SL.step (PS.eql rfl tt rfl tt rfl rfl) ?_
          refine SL.step (PS.assign rfl tt rfl rfl) ?_
          refine SL.keep (l' := [(47, _, _), (33, _, _), (0, _, _), (1, _, _), (2, _, _), (3, _, _), (4, _, _)]) ⟨rfl, rfl, rfl, rfl, rfl, rfl, rfl, trivial⟩ ?_
          refine SL.nil (SE.thenK hK16 ?_)
          refine SC.cond rfl (fun c47c => ?_) (fun c47c => ?_)
          ·
           have c47cn := c47c
           try simp only [width_iff, width_not, Bool.and_eq_true, Bool.or_eq_true, decide_eq_true_eq, Bool.true_and, Bool.not_eq_true', Bool.not_eq_false', beq_iff_eq, bne_iff_ne, decide_eq_false_iff_not, beq_eq_false_iff_ne, bne_eq_false_iff_eq, ne_eq, Bool.or_eq_false_iff, Bool.and_eq_false_iff] at c47cn
           refine SC.seq (fun K23 hK23 => SC.region ?_)
           refine SL.step (PS.move rfl tt rfl rfl) ?_
           refine SL.step (PS.move rfl tt rfl rfl) ?_
           refine SL.step (PS.move rfl tt rfl rfl) ?_
           refine SL.step (PS.move rfl tt rfl rfl) ?_
           refine SL.step (PS.move rfl tt rfl rfl) ?_
           refine SL.callV (vs := [_, _, _, _, _]) Try.call59 ⟨⟨_, rfl, tt⟩, ⟨_, rfl, tt⟩, ⟨_, rfl, tt⟩, ⟨_, rfl, tt⟩, ⟨_, rfl, tt⟩, trivial⟩ (fun hg => latheref01_divided_V p0 p1 p2 p3 p4 (by omega) (by omega)) rfl rfl ?_
           refine SL.step (PS.extract rfl tt rfl rfl rfl) ?_
           refine SL.step (PS.extract rfl tt rfl rfl rfl) ?_
           refine SL.step (PS.assign rfl tt rfl rfl) ?_
           refine SL.step (PS.assign rfl tt rfl rfl) ?_
           refine SL.keep (l' := [(11, _, _), (10, _, _)]) ⟨rfl, rfl, trivial⟩ ?_
           refine SL.nil (SE.thenK hK23 (SC.ret (SE.block_ret (SE.then_ret ?_))))
           exact finV2 rfl rfl rfl (fun _ _ => congrArg (fun z : Int × Int => Value.tuple #[Value.int .u64 z.1, Value.int .i64 z.2]) (show (d_latheref01_Apply p0 p1 p2 p3 p4) = (((d_latheref01_divided p0 p1 p2 p3 p4).1, (d_latheref01_divided p0 p1 p2 p3 p4).2) : Int × Int) from ((bifF c32).trans ((bifF c34).trans ((bifF c34a).trans ((bifF c34b).trans ((bifF c34c).trans ((bifF c47).trans ((bifF c47a).trans ((bifF c47b).trans (bifT c47c)))))))))).symm)
          ·
           have c47cn := c47c
           try simp only [width_iff, width_not, Bool.and_eq_true, Bool.or_eq_true, decide_eq_true_eq, Bool.true_and, Bool.not_eq_true', Bool.not_eq_false', beq_iff_eq, bne_iff_ne, decide_eq_false_iff_not, beq_eq_false_iff_ne, bne_eq_false_iff_eq, ne_eq, Bool.or_eq_false_iff, Bool.and_eq_false_iff] at c47cn
           refine SC.seq (fun K24 hK24 => SC.seq (fun K25 hK25 => SC.region ?_))
           refine SL.step (PS.eql rfl tt rfl tt rfl rfl) ?_
           refine SL.step (PS.assign rfl tt rfl rfl) ?_
           refine SL.keep (l' := [(60, _, _), (33, _, _), (0, _, _), (1, _, _), (2, _, _), (3, _, _), (4, _, _)]) ⟨rfl, rfl, rfl, rfl, rfl, rfl, rfl, trivial⟩ ?_
           refine SL.nil (SE.thenK hK25 ?_)
           refine SC.cond rfl (fun c60 => ?_) (fun c60 => ?_)
           ·
            have c60n := c60
            try simp only [width_iff, width_not, Bool.and_eq_true, Bool.or_eq_true, decide_eq_true_eq, Bool.true_and, Bool.not_eq_true', Bool.not_eq_false', beq_iff_eq, bne_iff_ne, decide_eq_false_iff_not, beq_eq_false_iff_ne, bne_eq_false_iff_eq, ne_eq, Bool.or_eq_false_iff, Bool.and_eq_false_iff] at c60n
            refine SC.skip (SE.thenK hK24 (SC.cond_t rfl c60 (SC.seq (fun K26 hK26 => SC.region ?_))))
            refine SL.step (PS.move rfl tt rfl rfl) ?_
            refine SL.step (PS.move rfl tt rfl rfl) ?_
            refine SL.step (PS.move rfl tt rfl rfl) ?_
            refine SL.step (PS.move rfl tt rfl rfl) ?_
            refine SL.callV (vs := [_, _, _, _]) Try.call60 ⟨⟨_, rfl, tt⟩, ⟨_, rfl, tt⟩, ⟨_, rfl, tt⟩, ⟨_, rfl, tt⟩, trivial⟩ (fun hg => latheref01_bitwise_V p0 p1 p3 p4 (by omega)) rfl rfl ?_
            refine SL.step (PS.assign rfl tt rfl rfl) ?_
            refine SL.step (PS.assign rfl tt rfl rfl) ?_
            refine SL.keep (l' := [(11, _, _), (10, _, _)]) ⟨rfl, rfl, trivial⟩ ?_
            refine SL.nil (SE.thenK hK26 (SC.ret (SE.block_ret (SE.then_ret ?_))))
            exact finV2 rfl rfl rfl (fun _ _ => congrArg (fun z : Int × Int => Value.tuple #[Value.int .u64 z.1, Value.int .i64 z.2]) (show (d_latheref01_Apply p0 p1 p2 p3 p4) = (((d_latheref01_bitwise p0 p1 p3 p4), 0) : Int × Int) from ((bifF c32).trans ((bifF c34).trans ((bifF c34a).trans ((bifF c34b).trans ((bifF c34c).trans ((bifF c47).trans ((bifF c47a).trans ((bifF c47b).trans ((bifF c47c).trans (bifT c60))))))))))).symm)
           ·
            have c60n := c60
            try simp only [width_iff, width_not, Bool.and_eq_true, Bool.or_eq_true, decide_eq_true_eq, Bool.true_and, Bool.not_eq_true', Bool.not_eq_false', beq_iff_eq, bne_iff_ne, decide_eq_false_iff_not, beq_eq_false_iff_ne, bne_eq_false_iff_eq, ne_eq, Bool.or_eq_false_iff, Bool.and_eq_false_iff] at c60n
            refine SC.seq (fun K27 hK27 => SC.region ?_)
            refine SL.step (PS.eql rfl tt rfl tt rfl rfl) ?_
            refine SL.step (PS.assign rfl tt rfl rfl) ?_
            refine SL.keep (l' := [(60, _, _), (33, _, _), (0, _, _), (1, _, _), (2, _, _), (3, _, _), (4, _, _)]) ⟨rfl, rfl, rfl, rfl, rfl, rfl, rfl, trivial⟩ ?_
            refine SL.nil (SE.thenK hK27 ?_)
            refine SC.cond rfl (fun c60a => ?_) (fun c60a => ?_)
            ·
             have c60an := c60a
             try simp only [width_iff, width_not, Bool.and_eq_true, Bool.or_eq_true, decide_eq_true_eq, Bool.true_and, Bool.not_eq_true', Bool.not_eq_false', beq_iff_eq, bne_iff_ne, decide_eq_false_iff_not, beq_eq_false_iff_ne, bne_eq_false_iff_eq, ne_eq, Bool.or_eq_false_iff, Bool.and_eq_false_iff] at c60an
             refine SC.skip (SE.thenK hK24 (SC.cond_t rfl c60a (SC.seq (fun K28 hK28 => SC.region ?_))))
             refine SL.step (PS.move rfl tt rfl rfl) ?_
             refine SL.step (PS.move rfl tt rfl rfl) ?_
             refine SL.step (PS.move rfl tt rfl rfl) ?_
             refine SL.step (PS.move rfl tt rfl rfl) ?_
             refine SL.callV (vs := [_, _, _, _]) Try.call60 ⟨⟨_, rfl, tt⟩, ⟨_, rfl, tt⟩, ⟨_, rfl, tt⟩, ⟨_, rfl, tt⟩, trivial⟩ (fun hg => latheref01_bitwise_V p0 p1 p3 p4 (by omega)) rfl rfl ?_
             refine SL.step (PS.assign rfl tt rfl rfl) ?_
             refine SL.step (PS.assign rfl tt rfl rfl) ?_
             refine SL.keep (l' := [(11, _, _), (10, _, _)]) ⟨rfl, rfl, trivial⟩ ?_
             refine SL.nil (SE.thenK hK28 (SC.ret (SE.block_ret (SE.then_ret ?_))))
             exact finV2 rfl rfl rfl (fun _ _ => congrArg (fun z : Int × Int => Value.tuple #[Value.int .u64 z.1, Value.int .i64 z.2]) (show (d_latheref01_Apply p0 p1 p2 p3 p4) = (((d_latheref01_bitwise p0 p1 p3 p4), 0) : Int × Int) from ((bifF c32).trans ((bifF c34).trans ((bifF c34a).trans ((bifF c34b).trans ((bifF c34c).trans ((bifF c47).trans ((bifF c47a).trans ((bifF c47b).trans ((bifF c47c).trans ((bifF c60).trans (bifT c60a)))))))))))).symm)
            ·
             have c60an := c60a
             try simp only [width_iff, width_not, Bool.and_eq_true, Bool.or_eq_true, decide_eq_true_eq, Bool.true_and, Bool.not_eq_true', Bool.not_eq_false', beq_iff_eq, bne_iff_ne, decide_eq_false_iff_not, beq_eq_false_iff_ne, bne_eq_false_iff_eq, ne_eq, Bool.or_eq_false_iff, Bool.and_eq_false_iff] at c60an
             refine SC.region ?_
             refine SL.step (PS.eql rfl tt rfl tt rfl rfl) ?_
             refine SL.step (PS.assign rfl tt rfl rfl) ?_
             refine SL.keep (l' := [(60, _, _), (33, _, _), (0, _, _), (1, _, _), (2, _, _), (3, _, _), (4, _, _)]) ⟨rfl, rfl, rfl, rfl, rfl, rfl, rfl, trivial⟩ ?_
             refine SL.nil (SE.thenK hK24 ?_)
             refine SC.cond rfl (fun c60b => ?_) (fun c60b => ?_)
             ·
              have c60bn := c60b
              try simp only [width_iff, width_not, Bool.and_eq_true, Bool.or_eq_true, decide_eq_true_eq, Bool.true_and, Bool.not_eq_true', Bool.not_eq_false', beq_iff_eq, bne_iff_ne, decide_eq_false_iff_not, beq_eq_false_iff_ne, bne_eq_false_iff_eq, ne_eq, Bool.or_eq_false_iff, Bool.and_eq_false_iff] at c60bn
              refine SC.seq (fun K29 hK29 => SC.region ?_)
              refine SL.step (PS.move rfl tt rfl rfl) ?_
              refine SL.step (PS.move rfl tt rfl rfl) ?_
              refine SL.step (PS.move rfl tt rfl rfl) ?_
              refine SL.step (PS.move rfl tt rfl rfl) ?_
              refine SL.callV (vs := [_, _, _, _]) Try.call60 ⟨⟨_, rfl, tt⟩, ⟨_, rfl, tt⟩, ⟨_, rfl, tt⟩, ⟨_, rfl, tt⟩, trivial⟩ (fun hg => latheref01_bitwise_V p0 p1 p3 p4 (by omega)) rfl rfl ?_
              refine SL.step (PS.assign rfl tt rfl rfl) ?_
              refine SL.step (PS.assign rfl tt rfl rfl) ?_
              refine SL.keep (l' := [(11, _, _), (10, _, _)]) ⟨rfl, rfl, trivial⟩ ?_
              refine SL.nil (SE.thenK hK29 (SC.ret (SE.block_ret (SE.then_ret ?_))))
              exact finV2 rfl rfl rfl (fun _ _ => congrArg (fun z : Int × Int => Value.tuple #[Value.int .u64 z.1, Value.int .i64 z.2]) (show (d_latheref01_Apply p0 p1 p2 p3 p4) = (((d_latheref01_bitwise p0 p1 p3 p4), 0) : Int × Int) from ((bifF c32).trans ((bifF c34).trans ((bifF c34a).trans ((bifF c34b).trans ((bifF c34c).trans ((bifF c47).trans ((bifF c47a).trans ((bifF c47b).trans ((bifF c47c).trans ((bifF c60).trans ((bifF c60a).trans (bifT c60b))))))))))))).symm)
             ·
              have c60bn := c60b
              try simp only [width_iff, width_not, Bool.and_eq_true, Bool.or_eq_true, decide_eq_true_eq, Bool.true_and, Bool.not_eq_true', Bool.not_eq_false', beq_iff_eq, bne_iff_ne, decide_eq_false_iff_not, beq_eq_false_iff_ne, bne_eq_false_iff_eq, ne_eq, Bool.or_eq_false_iff, Bool.and_eq_false_iff] at c60bn
              refine SC.seq (fun K30 hK30 => SC.seq (fun K31 hK31 => SC.region ?_))
              refine SL.step (PS.eql rfl tt rfl tt rfl rfl) ?_
              refine SL.step (PS.assign rfl tt rfl rfl) ?_
              refine SL.keep (l' := [(69, _, _), (33, _, _), (0, _, _), (1, _, _), (2, _, _), (3, _, _), (4, _, _)]) ⟨rfl, rfl, rfl, rfl, rfl, rfl, rfl, trivial⟩ ?_
              refine SL.nil (SE.thenK hK31 ?_)
              refine SC.cond rfl (fun c69 => ?_) (fun c69 => ?_)
              ·
               have c69n := c69
               try simp only [width_iff, width_not, Bool.and_eq_true, Bool.or_eq_true, decide_eq_true_eq, Bool.true_and, Bool.not_eq_true', Bool.not_eq_false', beq_iff_eq, bne_iff_ne, decide_eq_false_iff_not, beq_eq_false_iff_ne, bne_eq_false_iff_eq, ne_eq, Bool.or_eq_false_iff, Bool.and_eq_false_iff] at c69n
               refine SC.skip (SE.thenK hK30 (SC.cond_t rfl c69 (SC.seq (fun K32 hK32 => SC.region ?_))))
               refine SL.step (PS.move rfl tt rfl rfl) ?_
               refine SL.step (PS.move rfl tt rfl rfl) ?_
               refine SL.step (PS.move rfl tt rfl rfl) ?_
               refine SL.step (PS.move rfl tt rfl rfl) ?_
               refine SL.step (PS.move rfl tt rfl rfl) ?_
               refine SL.callV (vs := [_, _, _, _, _]) Try.call61 ⟨⟨_, rfl, tt⟩, ⟨_, rfl, tt⟩, ⟨_, rfl, tt⟩, ⟨_, rfl, tt⟩, ⟨_, rfl, tt⟩, trivial⟩ (fun hg => latheref01_right_V p0 p1 p2 p3 p4 (by omega) (by omega)) rfl rfl ?_
               refine SL.step (PS.extract rfl tt rfl rfl rfl) ?_
               refine SL.step (PS.extract rfl tt rfl rfl rfl) ?_
               refine SL.step (PS.assign rfl tt rfl rfl) ?_
               refine SL.step (PS.assign rfl tt rfl rfl) ?_
               refine SL.keep (l' := [(11, _, _), (10, _, _)]) ⟨rfl, rfl, trivial⟩ ?_
               refine SL.nil (SE.thenK hK32 (SC.ret (SE.block_ret (SE.then_ret ?_))))
               exact finV2 rfl rfl rfl (fun _ _ => congrArg (fun z : Int × Int => Value.tuple #[Value.int .u64 z.1, Value.int .i64 z.2]) (show (d_latheref01_Apply p0 p1 p2 p3 p4) = (((d_latheref01_right p0 p1 p2 p3 p4).1, (d_latheref01_right p0 p1 p2 p3 p4).2) : Int × Int) from ((bifF c32).trans ((bifF c34).trans ((bifF c34a).trans ((bifF c34b).trans ((bifF c34c).trans ((bifF c47).trans ((bifF c47a).trans ((bifF c47b).trans ((bifF c47c).trans ((bifF c60).trans ((bifF c60a).trans ((bifF c60b).trans (bifT c69)))))))))))))).symm)
              ·
               have c69n := c69
               try simp only [width_iff, width_not, Bool.and_eq_true, Bool.or_eq_true, decide_eq_true_eq, Bool.true_and, Bool.not_eq_true', Bool.not_eq_false', beq_iff_eq, bne_iff_ne, decide_eq_false_iff_not, beq_eq_false_iff_ne, bne_eq_false_iff_eq, ne_eq, Bool.or_eq_false_iff, Bool.and_eq_false_iff] at c69n
               refine SC.region ?_
               refine SL.step (PS.eql rfl tt rfl tt rfl rfl) ?_
               refine SL.step (PS.assign rfl tt rfl rfl) ?_
               refine SL.keep (l' := [(69, _, _), (0, _, _), (1, _, _), (2, _, _), (3, _, _), (4, _, _)]) ⟨rfl, rfl, rfl, rfl, rfl, rfl, trivial⟩ ?_
               refine SL.nil (SE.thenK hK30 ?_)
               refine SC.cond rfl (fun c69a => ?_) (fun c69a => ?_)
               ·
                have c69an := c69a
                try simp only [width_iff, width_not, Bool.and_eq_true, Bool.or_eq_true, decide_eq_true_eq, Bool.true_and, Bool.not_eq_true', Bool.not_eq_false', beq_iff_eq, bne_iff_ne, decide_eq_false_iff_not, beq_eq_false_iff_ne, bne_eq_false_iff_eq, ne_eq, Bool.or_eq_false_iff, Bool.and_eq_false_iff] at c69an
                refine SC.seq (fun K33 hK33 => SC.region ?_)
                refine SL.step (PS.move rfl tt rfl rfl) ?_
                refine SL.step (PS.move rfl tt rfl rfl) ?_
                refine SL.step (PS.move rfl tt rfl rfl) ?_
                refine SL.step (PS.move rfl tt rfl rfl) ?_
                refine SL.step (PS.move rfl tt rfl rfl) ?_
                refine SL.callV (vs := [_, _, _, _, _]) Try.call61 ⟨⟨_, rfl, tt⟩, ⟨_, rfl, tt⟩, ⟨_, rfl, tt⟩, ⟨_, rfl, tt⟩, ⟨_, rfl, tt⟩, trivial⟩ (fun hg => latheref01_right_V p0 p1 p2 p3 p4 (by omega) (by omega)) rfl rfl ?_
                refine SL.step (PS.extract rfl tt rfl rfl rfl) ?_
                refine SL.step (PS.extract rfl tt rfl rfl rfl) ?_
                refine SL.step (PS.assign rfl tt rfl rfl) ?_
                refine SL.step (PS.assign rfl tt rfl rfl) ?_
                refine SL.keep (l' := [(11, _, _), (10, _, _)]) ⟨rfl, rfl, trivial⟩ ?_
                refine SL.nil (SE.thenK hK33 (SC.ret (SE.block_ret (SE.then_ret ?_))))
                exact finV2 rfl rfl rfl (fun _ _ => congrArg (fun z : Int × Int => Value.tuple #[Value.int .u64 z.1, Value.int .i64 z.2]) (show (d_latheref01_Apply p0 p1 p2 p3 p4) = (((d_latheref01_right p0 p1 p2 p3 p4).1, (d_latheref01_right p0 p1 p2 p3 p4).2) : Int × Int) from ((bifF c32).trans ((bifF c34).trans ((bifF c34a).trans ((bifF c34b).trans ((bifF c34c).trans ((bifF c47).trans ((bifF c47a).trans ((bifF c47b).trans ((bifF c47c).trans ((bifF c60).trans ((bifF c60a).trans ((bifF c60b).trans ((bifF c69).trans (bifT c69a))))))))))))))).symm)
               ·
                have c69an := c69a
                try simp only [width_iff, width_not, Bool.and_eq_true, Bool.or_eq_true, decide_eq_true_eq, Bool.true_and, Bool.not_eq_true', Bool.not_eq_false', beq_iff_eq, bne_iff_ne, decide_eq_false_iff_not, beq_eq_false_iff_ne, bne_eq_false_iff_eq, ne_eq, Bool.or_eq_false_iff, Bool.and_eq_false_iff] at c69an
                refine SC.skip (SE.block_normal (SE.thenK hK6 (SC.seq (fun K34 hK34 => SC.region ?_))))
                refine SL.step (PS.move rfl tt rfl rfl) ?_
                refine SL.step (PS.move rfl tt rfl rfl) ?_
                refine SL.step (PS.move rfl tt rfl rfl) ?_
                refine SL.step (PS.move rfl tt rfl rfl) ?_
                refine SL.callV (vs := [_, _, _, _]) Try.call62 ⟨⟨_, rfl, tt⟩, ⟨_, rfl, tt⟩, ⟨_, rfl, tt⟩, ⟨_, rfl, tt⟩, trivial⟩ (fun hg => latheref01_compared_V p0 p1 p3 p4 (by omega)) rfl rfl ?_
                refine SL.step (PS.assign rfl tt rfl rfl) ?_
                refine SL.keep (l' := [(13, _, _)]) ⟨rfl, trivial⟩ ?_
                refine SL.nil (SE.thenK hK34 (SC.seq (fun K35 hK35 => SC.seq (fun K36 hK36 => SC.region ?_))))
                refine SL.step (PS.move rfl tt rfl rfl) ?_
                refine SL.keep (l' := [(85, _, _)]) ⟨rfl, trivial⟩ ?_
                refine SL.nil (SE.thenK hK36 ?_)
                refine SC.cond rfl (fun c85 => ?_) (fun c85 => ?_)
                ·
                 refine SC.seq (fun K37 hK37 => SC.region ?_)
                 refine SL.step (PS.assign rfl tt rfl rfl) ?_
                 refine SL.step (PS.assign rfl tt rfl rfl) ?_
                 refine SL.keep (l' := [(11, _, _), (10, _, _)]) ⟨rfl, rfl, trivial⟩ ?_
                 refine SL.nil (SE.thenK hK37 (SC.ret (SE.then_ret ?_)))
                 exact finV2 rfl rfl rfl (fun _ _ => congrArg (fun z : Int × Int => Value.tuple #[Value.int .u64 z.1, Value.int .i64 z.2]) (show (d_latheref01_Apply p0 p1 p2 p3 p4) = ((1, 0) : Int × Int) from ((bifF c32).trans ((bifF c34).trans ((bifF c34a).trans ((bifF c34b).trans ((bifF c34c).trans ((bifF c47).trans ((bifF c47a).trans ((bifF c47b).trans ((bifF c47c).trans ((bifF c60).trans ((bifF c60a).trans ((bifF c60b).trans ((bifF c69).trans ((bifF c69a).trans (bifT c85)))))))))))))))).symm)
                ·
                 refine SC.skip (SE.thenK hK35 (SC.seq (fun K38 hK38 => SC.region ?_)))
                 refine SL.step (PS.assign rfl tt rfl rfl) ?_
                 refine SL.step (PS.assign rfl tt rfl rfl) ?_
                 refine SL.keep (l' := [(11, _, _), (10, _, _)]) ⟨rfl, rfl, trivial⟩ ?_
                 refine SL.nil (SE.thenK hK38 (SC.ret ?_))
                 exact finV2 rfl rfl rfl (fun _ _ => congrArg (fun z : Int × Int => Value.tuple #[Value.int .u64 z.1, Value.int .i64 z.2]) (show (d_latheref01_Apply p0 p1 p2 p3 p4) = ((0, 0) : Int × Int) from ((bifF c32).trans ((bifF c34).trans ((bifF c34a).trans ((bifF c34b).trans ((bifF c34c).trans ((bifF c47).trans ((bifF c47a).trans ((bifF c47b).trans ((bifF c47c).trans ((bifF c60).trans ((bifF c60a).trans ((bifF c60b).trans ((bifF c69).trans ((bifF c69a).trans (bifF c85)))))))))))))))).symm)
def d_latheref01_Mask (p0 : Int) : Int :=
  bif (!(d_latheref01_width p0)) then
   0
  else (d_latheref01_Cut p0 18446744073709551615)
theorem latheref01_Mask_V (p0 : Int)  : SpecV Try.prog 43 [.int .i64 p0] (Value.int .u64 (d_latheref01_Mask p0)) := by
  refine SpecV.enter Try.func43 rfl (n := 10) Try.ntmps43 (Nat.le_of_ble_eq_true rfl) (l := [(0, _, _)]) rfl ?_
  intro w
  refine SC.seq (fun K1 hK1 => SC.region ?_)
  refine SL.step (PS.assign rfl tt rfl rfl) ?_
  refine SL.keep (l' := [(0, _, _)]) ⟨rfl, trivial⟩ ?_
  refine SL.nil (SE.thenK hK1 (SC.seq (fun K2 hK2 => SC.region ?_)))
  refine SL.step (PS.move rfl tt rfl rfl) ?_
  refine SL.callV (vs := [_]) Try.call45 ⟨⟨_, rfl, tt⟩, trivial⟩ (fun hg => latheref01_width_V p0 ) rfl rfl ?_
  refine SL.step (PS.assign rfl tt rfl rfl) ?_
  refine SL.keep (l' := [(3, _, _), (0, _, _)]) ⟨rfl, rfl, trivial⟩ ?_
  refine SL.nil (SE.thenK hK2 (SC.seq (fun K3 hK3 => SC.seq (fun K4 hK4 => SC.region ?_))))
  refine SL.step (PS.move rfl tt rfl rfl) ?_
  refine SL.step (PS.not rfl tt rfl rfl) ?_
  refine SL.keep (l' := [(7, _, _), (0, _, _)]) ⟨rfl, rfl, trivial⟩ ?_
  refine SL.nil (SE.thenK hK4 ?_)
  refine SC.cond rfl (fun c7 => ?_) (fun c7 => ?_)
  ·
   refine SC.seq (fun K5 hK5 => SC.region ?_)
   refine SL.step (PS.assign rfl tt rfl rfl) ?_
   refine SL.keep (l' := [(2, _, _)]) ⟨rfl, trivial⟩ ?_
   refine SL.nil (SE.thenK hK5 (SC.ret (SE.then_ret ?_)))
   exact finV1 rfl rfl (fun _ _ => congrArg (fun z : Int => Value.int .u64 z) (show (d_latheref01_Mask p0) = (0 : Int) from (bifT c7)).symm)
  ·
   have c7n := c7
   try simp only [width_iff, width_not, Bool.and_eq_true, Bool.or_eq_true, decide_eq_true_eq, Bool.true_and, Bool.not_eq_true', Bool.not_eq_false', beq_iff_eq, bne_iff_ne, decide_eq_false_iff_not, beq_eq_false_iff_ne, bne_eq_false_iff_eq, ne_eq, Bool.or_eq_false_iff, Bool.and_eq_false_iff] at c7n
   refine SC.skip (SE.thenK hK3 (SC.seq (fun K6 hK6 => SC.region ?_)))
   refine SL.step (PS.move rfl tt rfl rfl) ?_
   refine SL.callV (vs := [_, _]) Try.call42 ⟨⟨_, rfl, tt⟩, ⟨_, rfl, tt⟩, trivial⟩ (fun hg => latheref01_Cut_V p0 18446744073709551615 (by omega)) rfl rfl ?_
   refine SL.step (PS.assign rfl tt rfl rfl) ?_
   refine SL.keep (l' := [(2, _, _)]) ⟨rfl, trivial⟩ ?_
   refine SL.nil (SE.thenK hK6 (SC.ret ?_))
   exact finV1 rfl rfl (fun _ _ => congrArg (fun z : Int => Value.int .u64 z) (show (d_latheref01_Mask p0) = ((d_latheref01_Cut p0 18446744073709551615) : Int) from (bifF c7)).symm)
end Go.Proofs.Ytffimfmicapaaaa
