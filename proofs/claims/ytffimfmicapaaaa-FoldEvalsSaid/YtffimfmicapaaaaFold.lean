/- Layer 15, one instruction: what the code computes. -/
import Derived.Test.YtffimfmicapaaaaPlU
import Derived.Test.YtffimfmicapaaaaEvalC
namespace Go.Proofs.Ytffimfmicapaaaa
open Go.RowKit
set_option linter.unusedVariables false
set_option linter.unusedSimpArgs false
set_option maxRecDepth 100000
set_option maxHeartbeats 4000000
open Pl (Vl)
def evalI (i : Ins) (xs : SlD Vl) : Vl × Int := Pl.eval i.op i.t i.n i.f xs.l
theorem evalI_S (p0 : Ins) (p1 : SlD Vl) (hf : -9223372036854775808 ≤ p0.f ∧ p0.f ≤ 9223372036854775807) : Spec Try.prog 9 [.agg [.int .i64 p0.op, .int .i64 p0.reg, .int .i64 p0.t, .int .i64 p0.n, .int .i64 p0.f, .slice p0.args.a p0.args.l.length p0.args.cap, .slice p0.to.a p0.to.l.length p0.to.cap].toArray, .slice p1.a p1.l.length p1.cap]
    (fun w => Dat.ok p1 w) (fun v _ => v = Value.tuple #[.agg [.int .i64 (evalI p0 p1).1.k, .int .u64 (evalI p0 p1).1.b, .int .i64 (evalI p0 p1).1.bl, .int .i64 (evalI p0 p1).1.off].toArray, .int .i64 (evalI p0 p1).2]) := by
  intro S w hr
  have h0 : Dat.ok p1 w := hr w (Nat.le_refl _) fun _ _ _ => rfl
  exact Eval_S ⟨p0.op, p0.reg, p0.t, p0.n, p0.f, (p0.args.a, p0.args.l.length, p0.args.cap), (p0.to.a, p0.to.l.length, p0.to.cap)⟩ p1.a p1.cap p1.l (fun x hx => (h0.el x hx).rg0) hf S w (hr.mono fun w h => h.sl)
theorem evalR_S (p0 : Ins) (p1 : SlD Vl) (hf : -9223372036854775808 ≤ p0.f ∧ p0.f ≤ 9223372036854775807) : Spec Try.prog 15 [.agg [.int .i64 p0.op, .int .i64 p0.reg, .int .i64 p0.t, .int .i64 p0.n, .int .i64 p0.f, .slice p0.args.a p0.args.l.length p0.args.cap, .slice p0.to.a p0.to.l.length p0.to.cap].toArray, .slice p1.a p1.l.length p1.cap]
    (fun w => Dat.ok p1 w) (fun v _ => v = Value.tuple #[.agg [.int .i64 (evalI p0 p1).1.k, .int .u64 (evalI p0 p1).1.b, .int .i64 (evalI p0 p1).1.bl, .int .i64 (evalI p0 p1).1.off].toArray, .int .i64 (evalI p0 p1).2]) := by
  intro S w hr
  have h0 : Dat.ok p1 w := hr w (Nat.le_refl _) fun _ _ _ => rfl
  have := latheref10_Eval_S p0 p1 S w hr
  rw [Pl.evalref_eq p0 p1 hf (fun x hx => (h0.el x hx).rg0)] at this
  exact this


def d_ir_Idle (p0 : Int) : Bool :=
  (((decide (1 ≤ p0)) && (decide (p0 ≤ 29))) && (p0 != 28))
theorem ir_Idle_V (p0 : Int)  : SpecV Try.prog 24 [.int .i64 p0] (Value.bool (d_ir_Idle p0)) := by
  refine SpecV.enter Try.func24 rfl (n := 13) Try.ntmps24 (Nat.le_of_ble_eq_true rfl) (l := [(0, _, _)]) rfl ?_
  intro w
  refine SC.seq (fun K1 hK1 => SC.region ?_)
  refine SL.step (PS.assign rfl tt rfl rfl) ?_
  refine SL.keep (l' := [(0, _, _)]) ⟨rfl, trivial⟩ ?_
  refine SL.nil (SE.thenK hK1 (SC.seq (fun K2 hK2 => SC.region ?_)))
  refine SL.step (PS.move rfl tt rfl rfl) ?_
  refine SL.step (PS.geq rfl tt rfl tt rfl rfl) ?_
  refine SL.step (PS.move rfl tt rfl rfl) ?_
  refine SL.step (PS.move rfl tt rfl rfl) ?_
  refine SL.step (PS.leq rfl (fun h => h) rfl tt rfl rfl) ?_
  refine SL.step (PS.pick_and rfl tt rfl (fun h h2 => pk_and h h2) rfl rfl) ?_
  refine SL.step (PS.move rfl tt rfl rfl) ?_
  refine SL.step (PS.move rfl tt rfl rfl) ?_
  refine SL.step (PS.neq rfl (fun h => h) rfl tt rfl rfl) ?_
  refine SL.step (PS.pick_and rfl tt rfl (fun h h2 => pk_and h h2) rfl rfl) ?_
  refine SL.step (PS.assign rfl tt rfl rfl) ?_
  refine SL.keep (l' := [(2, _, _)]) ⟨rfl, trivial⟩ ?_
  refine SL.nil (SE.thenK hK2 (SC.ret ?_))
  exact finV1 rfl rfl (fun _ _ => congrArg (fun z : Bool => Value.bool z) (show (d_ir_Idle p0) = ((((decide (1 ≤ p0)) && (decide (p0 ≤ 29))) && (p0 != 28)) : Bool) from rfl).symm)
def d_ir_Calm (p0 : Int) : Bool :=
  bif (p0 == 4) then
   false
  else bif (p0 == 5) then
    false
   else bif (p0 == 6) then
     false
    else bif (p0 == 7) then
      false
     else bif (p0 == 25) then
       false
      else bif (p0 == 26) then
        false
       else bif (p0 == 27) then
         false
        else (d_ir_Idle p0)
theorem ir_Calm_V (p0 : Int)  : SpecV Try.prog 10 [.int .i64 p0] (Value.bool (d_ir_Calm p0)) := by
  refine SpecV.enter Try.func10 rfl (n := 14) Try.ntmps10 (Nat.le_of_ble_eq_true rfl) (l := [(0, _, _)]) rfl ?_
  intro w
  refine SC.seq (fun K1 hK1 => SC.region ?_)
  refine SL.step (PS.assign rfl tt rfl rfl) ?_
  refine SL.keep (l' := [(0, _, _)]) ⟨rfl, trivial⟩ ?_
  refine SL.nil (SE.thenK hK1 (SC.seq (fun K2 hK2 => SC.seq (fun K3 hK3 => SC.region ?_))))
  refine SL.step (PS.move rfl tt rfl rfl) ?_
  refine SL.nil (SE.thenK hK3 (SC.block (SC.seq (fun K4 hK4 => SC.seq (fun K5 hK5 => SC.region ?_)))))
  refine SL.step (PS.eql rfl tt rfl tt rfl rfl) ?_
  refine SL.step (PS.assign rfl tt rfl rfl) ?_
  refine SL.keep (l' := [(4, _, _), (3, _, _), (0, _, _)]) ⟨rfl, rfl, rfl, trivial⟩ ?_
  refine SL.nil (SE.thenK hK5 ?_)
  refine SC.cond rfl (fun c4 => ?_) (fun c4 => ?_)
  ·
   refine SC.skip (SE.thenK hK4 (SC.cond_t rfl c4 (SC.seq (fun K6 hK6 => SC.region ?_))))
   refine SL.step (PS.assign rfl tt rfl rfl) ?_
   refine SL.keep (l' := [(2, _, _)]) ⟨rfl, trivial⟩ ?_
   refine SL.nil (SE.thenK hK6 (SC.ret (SE.block_ret (SE.then_ret ?_))))
   exact finV1 rfl rfl (fun _ _ => congrArg (fun z : Bool => Value.bool z) (show (d_ir_Calm p0) = (false : Bool) from (bifT c4)).symm)
  ·
   refine SC.seq (fun K7 hK7 => SC.region ?_)
   refine SL.step (PS.eql rfl tt rfl tt rfl rfl) ?_
   refine SL.step (PS.assign rfl tt rfl rfl) ?_
   refine SL.keep (l' := [(4, _, _), (3, _, _), (0, _, _)]) ⟨rfl, rfl, rfl, trivial⟩ ?_
   refine SL.nil (SE.thenK hK7 ?_)
   refine SC.cond rfl (fun c4a => ?_) (fun c4a => ?_)
   ·
    refine SC.skip (SE.thenK hK4 (SC.cond_t rfl c4a (SC.seq (fun K8 hK8 => SC.region ?_))))
    refine SL.step (PS.assign rfl tt rfl rfl) ?_
    refine SL.keep (l' := [(2, _, _)]) ⟨rfl, trivial⟩ ?_
    refine SL.nil (SE.thenK hK8 (SC.ret (SE.block_ret (SE.then_ret ?_))))
    exact finV1 rfl rfl (fun _ _ => congrArg (fun z : Bool => Value.bool z) (show (d_ir_Calm p0) = (false : Bool) from ((bifF c4).trans (bifT c4a))).symm)
   ·
    refine SC.seq (fun K9 hK9 => SC.region ?_)
    refine SL.step (PS.eql rfl tt rfl tt rfl rfl) ?_
    refine SL.step (PS.assign rfl tt rfl rfl) ?_
    refine SL.keep (l' := [(4, _, _), (3, _, _), (0, _, _)]) ⟨rfl, rfl, rfl, trivial⟩ ?_
    refine SL.nil (SE.thenK hK9 ?_)
    refine SC.cond rfl (fun c4b => ?_) (fun c4b => ?_)
    ·
     refine SC.skip (SE.thenK hK4 (SC.cond_t rfl c4b (SC.seq (fun K10 hK10 => SC.region ?_))))
     refine SL.step (PS.assign rfl tt rfl rfl) ?_
     refine SL.keep (l' := [(2, _, _)]) ⟨rfl, trivial⟩ ?_
     refine SL.nil (SE.thenK hK10 (SC.ret (SE.block_ret (SE.then_ret ?_))))
     exact finV1 rfl rfl (fun _ _ => congrArg (fun z : Bool => Value.bool z) (show (d_ir_Calm p0) = (false : Bool) from ((bifF c4).trans ((bifF c4a).trans (bifT c4b)))).symm)
    ·
     refine SC.seq (fun K11 hK11 => SC.region ?_)
     refine SL.step (PS.eql rfl tt rfl tt rfl rfl) ?_
     refine SL.step (PS.assign rfl tt rfl rfl) ?_
     refine SL.keep (l' := [(4, _, _), (3, _, _), (0, _, _)]) ⟨rfl, rfl, rfl, trivial⟩ ?_
     refine SL.nil (SE.thenK hK11 ?_)
     refine SC.cond rfl (fun c4c => ?_) (fun c4c => ?_)
     ·
      refine SC.skip (SE.thenK hK4 (SC.cond_t rfl c4c (SC.seq (fun K12 hK12 => SC.region ?_))))
      refine SL.step (PS.assign rfl tt rfl rfl) ?_
      refine SL.keep (l' := [(2, _, _)]) ⟨rfl, trivial⟩ ?_
      refine SL.nil (SE.thenK hK12 (SC.ret (SE.block_ret (SE.then_ret ?_))))
      exact finV1 rfl rfl (fun _ _ => congrArg (fun z : Bool => Value.bool z) (show (d_ir_Calm p0) = (false : Bool) from ((bifF c4).trans ((bifF c4a).trans ((bifF c4b).trans (bifT c4c))))).symm)
     ·
      refine SC.seq (fun K13 hK13 => SC.region ?_)
      refine SL.step (PS.eql rfl tt rfl tt rfl rfl) ?_
      refine SL.step (PS.assign rfl tt rfl rfl) ?_
      refine SL.keep (l' := [(4, _, _), (3, _, _), (0, _, _)]) ⟨rfl, rfl, rfl, trivial⟩ ?_
      refine SL.nil (SE.thenK hK13 ?_)
      refine SC.cond rfl (fun c4d => ?_) (fun c4d => ?_)
      ·
       refine SC.skip (SE.thenK hK4 (SC.cond_t rfl c4d (SC.seq (fun K14 hK14 => SC.region ?_))))
       refine SL.step (PS.assign rfl tt rfl rfl) ?_
       refine SL.keep (l' := [(2, _, _)]) ⟨rfl, trivial⟩ ?_
       refine SL.nil (SE.thenK hK14 (SC.ret (SE.block_ret (SE.then_ret ?_))))
       exact finV1 rfl rfl (fun _ _ => congrArg (fun z : Bool => Value.bool z) (show (d_ir_Calm p0) = (false : Bool) from ((bifF c4).trans ((bifF c4a).trans ((bifF c4b).trans ((bifF c4c).trans (bifT c4d)))))).symm)
      ·
       refine SC.seq (fun K15 hK15 => SC.region ?_)
       refine SL.step (PS.eql rfl tt rfl tt rfl rfl) ?_
       refine SL.step (PS.assign rfl tt rfl rfl) ?_
       refine SL.keep (l' := [(4, _, _), (3, _, _), (0, _, _)]) ⟨rfl, rfl, rfl, trivial⟩ ?_
       refine SL.nil (SE.thenK hK15 ?_)
       refine SC.cond rfl (fun c4e => ?_) (fun c4e => ?_)
       ·
        refine SC.skip (SE.thenK hK4 (SC.cond_t rfl c4e (SC.seq (fun K16 hK16 => SC.region ?_))))
        refine SL.step (PS.assign rfl tt rfl rfl) ?_
        refine SL.keep (l' := [(2, _, _)]) ⟨rfl, trivial⟩ ?_
        refine SL.nil (SE.thenK hK16 (SC.ret (SE.block_ret (SE.then_ret ?_))))
        exact finV1 rfl rfl (fun _ _ => congrArg (fun z : Bool => Value.bool z) (show (d_ir_Calm p0) = (false : Bool) from ((bifF c4).trans ((bifF c4a).trans ((bifF c4b).trans ((bifF c4c).trans ((bifF c4d).trans (bifT c4e))))))).symm)
       ·
        refine SC.region ?_
        refine SL.step (PS.eql rfl tt rfl tt rfl rfl) ?_
        refine SL.step (PS.assign rfl tt rfl rfl) ?_
        refine SL.keep (l' := [(4, _, _), (0, _, _)]) ⟨rfl, rfl, trivial⟩ ?_
        refine SL.nil (SE.thenK hK4 ?_)
        refine SC.cond rfl (fun c4f => ?_) (fun c4f => ?_)
        ·
         refine SC.seq (fun K17 hK17 => SC.region ?_)
         refine SL.step (PS.assign rfl tt rfl rfl) ?_
         refine SL.keep (l' := [(2, _, _)]) ⟨rfl, trivial⟩ ?_
         refine SL.nil (SE.thenK hK17 (SC.ret (SE.block_ret (SE.then_ret ?_))))
         exact finV1 rfl rfl (fun _ _ => congrArg (fun z : Bool => Value.bool z) (show (d_ir_Calm p0) = (false : Bool) from ((bifF c4).trans ((bifF c4a).trans ((bifF c4b).trans ((bifF c4c).trans ((bifF c4d).trans ((bifF c4e).trans (bifT c4f)))))))).symm)
        ·
         refine SC.skip (SE.block_normal (SE.thenK hK2 (SC.seq (fun K18 hK18 => SC.region ?_))))
         refine SL.step (PS.move rfl tt rfl rfl) ?_
         refine SL.callV (vs := [_]) Try.call24 ⟨⟨_, rfl, tt⟩, trivial⟩ (fun hg => ir_Idle_V p0 ) rfl rfl ?_
         refine SL.step (PS.assign rfl tt rfl rfl) ?_
         refine SL.keep (l' := [(2, _, _)]) ⟨rfl, trivial⟩ ?_
         refine SL.nil (SE.thenK hK18 (SC.ret ?_))
         exact finV1 rfl rfl (fun _ _ => congrArg (fun z : Bool => Value.bool z) (show (d_ir_Calm p0) = ((d_ir_Idle p0) : Bool) from ((bifF c4).trans ((bifF c4a).trans ((bifF c4b).trans ((bifF c4c).trans ((bifF c4d).trans ((bifF c4e).trans (bifF c4f)))))))).symm)
def d_ir_Result (p0 : Ins) : Int :=
  bif ((decide (14 ≤ p0.op)) && (decide (p0.op ≤ 19))) then
   1
  else bif ((p0.op == 26) || (p0.op == 29)) then
    65
   else bif (((p0.op == 28) || (decide (p0.op < 1))) || (decide (30 < p0.op))) then
     0
    else p0.t
theorem ir_Result_V (p0 : Ins)  : SpecV Try.prog 13 [.agg [.int .i64 p0.op, .int .i64 p0.reg, .int .i64 p0.t, .int .i64 p0.n, .int .i64 p0.f, .slice p0.args.a p0.args.l.length p0.args.cap, .slice p0.to.a p0.to.l.length p0.to.cap].toArray] (Value.int .i64 (d_ir_Result p0)) := by
  refine SpecV.enter Try.func13 rfl (n := 33) Try.ntmps13 (Nat.le_of_ble_eq_true rfl) (l := [(0, _, _)]) rfl ?_
  intro w
  refine SC.seq (fun K1 hK1 => SC.region ?_)
  refine SL.box (cs := [_, _, _, _, _, _, _]) rfl rfl rfl rfl rfl (fun b1 => ?_)
  refine SL.step (PS.assign rfl tt rfl rfl) ?_
  refine SL.keep (l' := [(1, _, _)]) ⟨rfl, trivial⟩ ?_
  refine SL.nil (SE.thenK hK1 (SC.seq (fun K2 hK2 => SC.seq (fun K3 hK3 => SC.region ?_))))
  refine SL.step (PS.fieldAddr rfl tt Try.fieldAt_25_0 rfl rfl) ?_
  refine SL.step (PS.load_own (k := 0) rfl tt rfl rfl rfl Try.isAgg3 rfl rfl) ?_
  refine SL.step (PS.assign rfl tt rfl rfl) ?_
  refine SL.keep (l' := [(3, _, _), (1, _, _)]) ⟨rfl, rfl, trivial⟩ ?_
  refine SL.nil (SE.thenK hK3 (SC.block (SC.seq (fun K4 hK4 => SC.region ?_))))
  refine SL.step (PS.move rfl tt rfl rfl) ?_
  refine SL.step (PS.geq rfl tt rfl tt rfl rfl) ?_
  refine SL.step (PS.move rfl tt rfl rfl) ?_
  refine SL.step (PS.move rfl tt rfl rfl) ?_
  refine SL.step (PS.leq rfl (fun h => h) rfl tt rfl rfl) ?_
  refine SL.step (PS.pick_and rfl tt rfl (fun h h2 => pk_and h h2) rfl rfl) ?_
  refine SL.step (PS.assign rfl tt rfl rfl) ?_
  refine SL.keep (l' := [(6, _, _), (3, _, _), (1, _, _)]) ⟨rfl, rfl, rfl, trivial⟩ ?_
  refine SL.nil (SE.thenK hK4 ?_)
  refine SC.cond rfl (fun c6 => ?_) (fun c6 => ?_)
  ·
   refine SC.seq (fun K5 hK5 => SC.region ?_)
   refine SL.step (PS.assign rfl tt rfl rfl) ?_
   refine SL.keep (l' := [(2, _, _)]) ⟨rfl, trivial⟩ ?_
   refine SL.nil (SE.thenK hK5 (SC.ret (SE.block_ret (SE.then_ret ?_))))
   exact finV1 rfl rfl (fun _ _ => congrArg (fun z : Int => Value.int .i64 z) (show (d_ir_Result p0) = (1 : Int) from (bifT c6)).symm)
  ·
   refine SC.seq (fun K6 hK6 => SC.region ?_)
   refine SL.step (PS.move rfl tt rfl rfl) ?_
   refine SL.step (PS.eql rfl tt rfl tt rfl rfl) ?_
   refine SL.step (PS.move rfl tt rfl rfl) ?_
   refine SL.step (PS.move rfl tt rfl rfl) ?_
   refine SL.step (PS.eql rfl (fun h => h) rfl tt rfl rfl) ?_
   refine SL.step (PS.pick_or rfl tt rfl (fun h h2 => pk_or h h2) rfl rfl) ?_
   refine SL.step (PS.assign rfl tt rfl rfl) ?_
   refine SL.keep (l' := [(13, _, _), (3, _, _), (1, _, _)]) ⟨rfl, rfl, rfl, trivial⟩ ?_
   refine SL.nil (SE.thenK hK6 ?_)
   refine SC.cond rfl (fun c13 => ?_) (fun c13 => ?_)
   ·
    refine SC.seq (fun K7 hK7 => SC.region ?_)
    refine SL.step (PS.assign rfl tt rfl rfl) ?_
    refine SL.keep (l' := [(2, _, _)]) ⟨rfl, trivial⟩ ?_
    refine SL.nil (SE.thenK hK7 (SC.ret (SE.block_ret (SE.then_ret ?_))))
    exact finV1 rfl rfl (fun _ _ => congrArg (fun z : Int => Value.int .i64 z) (show (d_ir_Result p0) = (65 : Int) from ((bifF c6).trans (bifT c13))).symm)
   ·
    refine SC.seq (fun K8 hK8 => SC.region ?_)
    refine SL.step (PS.move rfl tt rfl rfl) ?_
    refine SL.step (PS.eql rfl tt rfl tt rfl rfl) ?_
    refine SL.step (PS.move rfl tt rfl rfl) ?_
    refine SL.step (PS.move rfl tt rfl rfl) ?_
    refine SL.step (PS.lss rfl (fun h => h) rfl tt rfl rfl) ?_
    refine SL.step (PS.pick_or rfl tt rfl (fun h h2 => pk_or h h2) rfl rfl) ?_
    refine SL.step (PS.move rfl tt rfl rfl) ?_
    refine SL.step (PS.move rfl tt rfl rfl) ?_
    refine SL.step (PS.gtr rfl (fun h => h) rfl tt rfl rfl) ?_
    refine SL.step (PS.pick_or rfl tt rfl (fun h h2 => pk_or h h2) rfl rfl) ?_
    refine SL.step (PS.assign rfl tt rfl rfl) ?_
    refine SL.keep (l' := [(20, _, _), (1, _, _)]) ⟨rfl, rfl, trivial⟩ ?_
    refine SL.nil (SE.thenK hK8 ?_)
    refine SC.cond rfl (fun c20 => ?_) (fun c20 => ?_)
    ·
     refine SC.seq (fun K9 hK9 => SC.region ?_)
     refine SL.step (PS.assign rfl tt rfl rfl) ?_
     refine SL.keep (l' := [(2, _, _)]) ⟨rfl, trivial⟩ ?_
     refine SL.nil (SE.thenK hK9 (SC.ret (SE.block_ret (SE.then_ret ?_))))
     exact finV1 rfl rfl (fun _ _ => congrArg (fun z : Int => Value.int .i64 z) (show (d_ir_Result p0) = (0 : Int) from ((bifF c6).trans ((bifF c13).trans (bifT c20)))).symm)
    ·
     refine SC.skip (SE.block_normal (SE.thenK hK2 (SC.seq (fun K10 hK10 => SC.region ?_))))
     refine SL.step (PS.fieldAddr rfl tt Try.fieldAt_25_2 rfl rfl) ?_
     refine SL.step (PS.load_own (k := 0) rfl tt rfl rfl rfl Try.isAgg3 rfl rfl) ?_
     refine SL.step (PS.assign rfl tt rfl rfl) ?_
     refine SL.keep (l' := [(2, _, _)]) ⟨rfl, trivial⟩ ?_
     refine SL.nil (SE.thenK hK10 (SC.ret ?_))
     exact finV1 rfl rfl (fun _ _ => congrArg (fun z : Int => Value.int .i64 z) (show (d_ir_Result p0) = (p0.t : Int) from ((bifF c6).trans ((bifF c13).trans (bifF c20)))).symm)
def d_latheref02_Calm_R3 (p0 : Int) : Nat → Int → Sum (Bool) (Int)
  | 0, x4 => Sum.inr x4
  | k + 1, x4 =>
   bif (decide (x4 < (8 : Int))) then
    bif (([4, 5, 6, 7, 25, 26, 27, 28].getD (Int.toNat x4) Dat.d) == p0) then
     Sum.inl false
    else d_latheref02_Calm_R3 p0 k (x4 + 1)
   else Sum.inr x4
def d_latheref02_Calm (p0 : Int) : Bool :=
  thenL (d_latheref02_Calm_R3 p0 (((8 : Int) - 0).toNat + 1) 0) (fun x4e => ((decide (1 ≤ p0)) && (decide (p0 ≤ 29))))
theorem latheref02_Calm_V (p0 : Int)  : SpecV Try.prog 14 [.int .i64 p0] (Value.bool (d_latheref02_Calm p0)) := by
  refine SpecV.enter Try.func14 rfl (n := 24) Try.ntmps14 (Nat.le_of_ble_eq_true rfl) (l := [(0, _, _)]) rfl ?_
  intro w
  refine SC.seq (fun K1 hK1 => SC.region ?_)
  refine SL.step (PS.assign rfl tt rfl rfl) ?_
  refine SL.keep (l' := [(0, _, _)]) ⟨rfl, trivial⟩ ?_
  refine SL.nil (SE.thenK hK1 (SC.seq (fun K2 hK2 => SC.region ?_)))
  refine SL.buildSlice (us := [(0, _), (1, _), (2, _), (3, _), (4, _), (5, _), (6, _), (7, _)]) (cs := [_, _, _, _, _, _, _, _]) ⟨rfl, ⟨_, rfl, tt⟩, ⟨rfl, ⟨_, rfl, tt⟩, ⟨rfl, ⟨_, rfl, tt⟩, ⟨rfl, ⟨_, rfl, tt⟩, ⟨rfl, ⟨_, rfl, tt⟩, ⟨rfl, ⟨_, rfl, tt⟩, ⟨rfl, ⟨_, rfl, tt⟩, ⟨rfl, ⟨_, rfl, tt⟩, trivial⟩⟩⟩⟩⟩⟩⟩⟩ Try.underlying23 Try.sizeOf3 Try.zeroValue3 ⟨rfl, rfl, _, rfl, ⟨rfl, rfl, _, rfl, ⟨rfl, rfl, _, rfl, ⟨rfl, rfl, _, rfl, ⟨rfl, rfl, _, rfl, ⟨rfl, rfl, _, rfl, ⟨rfl, rfl, _, rfl, ⟨rfl, rfl, _, rfl, trivial⟩⟩⟩⟩⟩⟩⟩⟩ rfl (by decide) rfl rfl (fun b5 => ?_)
  refine SL.step (PS.assign rfl tt rfl rfl) ?_
  refine SL.keep (l' := [(3, _, _), (0, _, _)]) ⟨rfl, rfl, trivial⟩ ?_
  refine SL.nil (SE.thenK hK2 (SC.seq (fun K3 hK3 => SC.seq (fun K4 hK4 => SC.region ?_))))
  refine SL.step (PS.assign rfl tt rfl rfl) ?_
  refine SL.nil (SE.thenK hK4 (SC.block ?_))
  refine SC.loopF (fun ((k1, x4) : Nat × Int) => [(4, true, .int .i64 x4), (3, true, .slice (some ⟨b5, 0, none⟩) 8 8), (0, true, .int .i64 p0)]) (fun ((k1, x4) : Nat × Int) => [.blk b5 [.int .i64 4, .int .i64 5, .int .i64 6, .int .i64 7, .int .i64 25, .int .i64 26, .int .i64 27, .int .i64 28]]) (fun ((k1, x4) : Nat × Int) w => ((d_latheref02_Calm_R3 p0 k1 x4 = d_latheref02_Calm_R3 p0 (((8 : Int) - 0).toNat + 1) 0) ∧ (((8 : Int) - x4).toNat < k1) ∧ (0 ≤ x4) ∧ (x4 ≤ (8 : Int))) ∧ (True)) (fun q => q.1) (((8 : Int) - 0).toNat + 1, 0) ⟨rfl, rfl, rfl, trivial⟩ rfl (fun w h => ⟨⟨rfl, Nat.lt_succ_self _, by omega, by omega⟩, trivial⟩) (fun q => ?_)
  obtain ⟨k1, x4⟩ := q
  dsimp only
  refine SC.know (fun w h => h.2.1) (fun hp => ?_)
  obtain ⟨hL1, hm1, hi1_0, hi1_1⟩ := hp
  obtain ⟨k1p, rfl⟩ : ∃ j, k1 = j + 1 := ⟨k1 - 1, by omega⟩
  refine SC.seq (fun K5 hK5 => SC.seq (fun K6 hK6 => SC.region ?_))
  refine SL.step (PS.move rfl tt rfl rfl) ?_
  refine SL.step (PS.move rfl tt rfl rfl) ?_
  refine SL.step (PS.len_slice rfl tt Try.underlying23 rfl rfl) ?_
  refine SL.step (PS.lss rfl tt rfl tt rfl rfl) ?_
  refine SL.keep (l' := [(9, _, _), (4, _, _), (3, _, _), (0, _, _)]) ⟨rfl, rfl, rfl, rfl, trivial⟩ ?_
  refine SL.nil (SE.thenK hK6 ?_)
  refine SC.cond rfl (fun c9 => ?_) (fun c9 => ?_)
  ·
   have c9n := c9
   try simp only [Bool.and_eq_true, Bool.or_eq_true, decide_eq_true_eq, Bool.true_and, Bool.not_eq_true', Bool.not_eq_false', beq_iff_eq, bne_iff_ne, decide_eq_false_iff_not, beq_eq_false_iff_ne, bne_eq_false_iff_eq, ne_eq, Bool.or_eq_false_iff, Bool.and_eq_false_iff] at c9n
   refine SC.skip (SE.thenK hK5 (SC.seq (fun K7 hK7 => SC.block (SC.seq (fun K8 hK8 => SC.region ?_)))))
   refine SL.step (PS.move rfl tt rfl rfl) ?_
   refine SL.step (PS.move rfl tt rfl rfl) ?_
   refine SL.step (PS.indexS (α := Int) (xs := [4, 5, 6, 7, 25, 26, 27, 28]) rfl tt rfl tt Try.underlying23 Try.sizeOf3 (fun w hw _ => Sl.of_blk (xs := [4, 5, 6, 7, 25, 26, 27, 28]) Dat.len rfl (hw.ok _ (mem_nth (k := 0) rfl))) rfl (fun hg => by first | omega | (simp only [List.length_cons, List.length_nil]; omega) | (try simp only [Bool.and_eq_true, Bool.or_eq_true, decide_eq_true_eq, Bool.true_and, Bool.not_eq_true', beq_iff_eq, bne_iff_ne, decide_eq_false_iff_not, beq_eq_false_iff_ne, ne_eq] at hg; omega)) rfl rfl) ?_
   refine SL.step (PS.loadS1 (α := Int) (xs := [4, 5, 6, 7, 25, 26, 27, 28]) (m := x4) rfl tt (fun w hw _ => Sl.of_blk (xs := [4, 5, 6, 7, 25, 26, 27, 28]) Dat.len rfl (hw.ok _ (mem_nth (k := 0) rfl))) (fun hg => by first | omega | (simp only [List.length_cons, List.length_nil]; omega) | (try simp only [Bool.and_eq_true, Bool.or_eq_true, decide_eq_true_eq, Bool.true_and, Bool.not_eq_true', beq_iff_eq, bne_iff_ne, decide_eq_false_iff_not, beq_eq_false_iff_ne, ne_eq] at hg; omega)) rfl Try.isAgg3 rfl rfl) ?_
   refine SL.step (PS.move rfl tt rfl rfl) ?_
   refine SL.step (PS.eql rfl tt rfl tt rfl rfl) ?_
   refine SL.keep (l' := [(17, _, _), (4, _, _), (3, _, _), (0, _, _)]) ⟨rfl, rfl, rfl, rfl, trivial⟩ ?_
   refine SL.nil (SE.thenK hK8 ?_)
   refine SC.cond rfl (fun c17 => ?_) (fun c17 => ?_)
   ·
    refine SC.seq (fun K9 hK9 => SC.region ?_)
    refine SL.step (PS.assign rfl tt rfl rfl) ?_
    refine SL.keep (l' := [(2, _, _)]) ⟨rfl, trivial⟩ ?_
    refine SL.nil (SE.thenK hK9 (SC.ret (SE.block_ret (SE.then_ret (SE.then_ret (SE.block_ret (SE.then_ret ?_)))))))
    exact finV1 rfl rfl (fun _ _ => congrArg (fun z : Bool => Value.bool z) (show (d_latheref02_Calm p0) = (false : Bool) from (thenL_inl ((hL1.symm.trans (show d_latheref02_Calm_R3 p0 (k1p + 1) x4 = Sum.inl false from ((bifT c9).trans (bifT c17))))))).symm)
   ·
    have c17n := c17
    try simp only [Bool.and_eq_true, Bool.or_eq_true, decide_eq_true_eq, Bool.true_and, Bool.not_eq_true', Bool.not_eq_false', beq_iff_eq, bne_iff_ne, decide_eq_false_iff_not, beq_eq_false_iff_ne, bne_eq_false_iff_eq, ne_eq, Bool.or_eq_false_iff, Bool.and_eq_false_iff] at c17n
    refine SC.skip (SE.block_normal (SE.thenK hK7 (SC.region ?_)))
    refine SL.step (PS.move rfl tt rfl rfl) ?_
    refine SL.step (PS.add_in rfl tt rfl tt (fun _ => wr_i64 (by omega)) rfl rfl) ?_
    refine SL.step (PS.assign rfl tt rfl rfl) ?_
    refine SL.keep (l' := [(4, _, _), (3, _, _), (0, _, _)]) ⟨rfl, rfl, rfl, trivial⟩ ?_
    refine SL.nil ?_
    exact SE.againF (k1p, (x4 + 1)) ⟨rfl, rfl, rfl, trivial⟩ rfl (fun w h => And.intro (h.1) (And.intro ⟨((show d_latheref02_Calm_R3 p0 (k1p + 1) x4 = d_latheref02_Calm_R3 p0 k1p (x4 + 1) from ((bifT c9).trans (bifF c17))).symm.trans hL1), by (try dsimp only); omega, by (try dsimp only); omega, by (try dsimp only); omega⟩ (trivial))) (Nat.lt_succ_self _)
  ·
   refine SC.exit (SE.then_exit (SE.then_exit (SE.block_same (SE.thenK hK3 (SC.seq (fun K10 hK10 => SC.region ?_))))))
   refine SL.step (PS.move rfl tt rfl rfl) ?_
   refine SL.step (PS.geq rfl tt rfl tt rfl rfl) ?_
   refine SL.step (PS.move rfl tt rfl rfl) ?_
   refine SL.step (PS.move rfl tt rfl rfl) ?_
   refine SL.step (PS.leq rfl (fun h => h) rfl tt rfl rfl) ?_
   refine SL.step (PS.pick_and rfl tt rfl (fun h h2 => pk_and h h2) rfl rfl) ?_
   refine SL.step (PS.assign rfl tt rfl rfl) ?_
   refine SL.keep (l' := [(2, _, _)]) ⟨rfl, trivial⟩ ?_
   refine SL.nil (SE.thenK hK10 (SC.ret ?_))
   exact finV1 rfl rfl (fun _ _ => congrArg (fun z : Bool => Value.bool z) (show (d_latheref02_Calm p0) = (((decide (1 ≤ p0)) && (decide (p0 ≤ 29))) : Bool) from (thenL_inr (hL1.symm.trans (show d_latheref02_Calm_R3 p0 (k1p + 1) x4 = Sum.inr x4 from (bifF c9))))).symm)
def d_latheref02_Result (p0 : Ins) : Int :=
  bif ((decide (p0.op < 1)) || (decide (30 < p0.op))) then
   0
  else bif (p0.op == 14) then
    1
   else bif (p0.op == 15) then
     1
    else bif (p0.op == 16) then
      1
     else bif (p0.op == 17) then
       1
      else bif (p0.op == 18) then
        1
       else bif (p0.op == 19) then
         1
        else bif (p0.op == 26) then
          65
         else bif (p0.op == 29) then
           65
          else bif (p0.op == 28) then
            0
           else p0.t
theorem latheref02_Result_V (p0 : Ins)  : SpecV Try.prog 16 [.agg [.int .i64 p0.op, .int .i64 p0.reg, .int .i64 p0.t, .int .i64 p0.n, .int .i64 p0.f, .slice p0.args.a p0.args.l.length p0.args.cap, .slice p0.to.a p0.to.l.length p0.to.cap].toArray] (Value.int .i64 (d_latheref02_Result p0)) := by
  refine SpecV.enter Try.func16 rfl (n := 27) Try.ntmps16 (Nat.le_of_ble_eq_true rfl) (l := [(0, _, _)]) rfl ?_
  intro w
  refine SC.seq (fun K1 hK1 => SC.region ?_)
  refine SL.box (cs := [_, _, _, _, _, _, _]) rfl rfl rfl rfl rfl (fun b1 => ?_)
  refine SL.step (PS.assign rfl tt rfl rfl) ?_
  refine SL.keep (l' := [(1, _, _)]) ⟨rfl, trivial⟩ ?_
  refine SL.nil (SE.thenK hK1 (SC.seq (fun K2 hK2 => SC.region ?_)))
  refine SL.step (PS.fieldAddr rfl tt Try.fieldAt_25_0 rfl rfl) ?_
  refine SL.step (PS.load_own (k := 0) rfl tt rfl rfl rfl Try.isAgg3 rfl rfl) ?_
  refine SL.step (PS.assign rfl tt rfl rfl) ?_
  refine SL.keep (l' := [(3, _, _), (1, _, _)]) ⟨rfl, rfl, trivial⟩ ?_
  refine SL.nil (SE.thenK hK2 (SC.seq (fun K3 hK3 => SC.seq (fun K4 hK4 => SC.region ?_))))
  refine SL.step (PS.move rfl tt rfl rfl) ?_
  refine SL.step (PS.lss rfl tt rfl tt rfl rfl) ?_
  refine SL.step (PS.move rfl tt rfl rfl) ?_
  refine SL.step (PS.move rfl tt rfl rfl) ?_
  refine SL.step (PS.gtr rfl (fun h => h) rfl tt rfl rfl) ?_
  refine SL.step (PS.pick_or rfl tt rfl (fun h h2 => pk_or h h2) rfl rfl) ?_
  refine SL.keep (l' := [(11, _, _), (3, _, _), (1, _, _)]) ⟨rfl, rfl, rfl, trivial⟩ ?_
  refine SL.nil (SE.thenK hK4 ?_)
  refine SC.cond rfl (fun c11 => ?_) (fun c11 => ?_)
  ·
   refine SC.seq (fun K5 hK5 => SC.region ?_)
   refine SL.step (PS.assign rfl tt rfl rfl) ?_
   refine SL.keep (l' := [(2, _, _)]) ⟨rfl, trivial⟩ ?_
   refine SL.nil (SE.thenK hK5 (SC.ret (SE.then_ret ?_)))
   exact finV1 rfl rfl (fun _ _ => congrArg (fun z : Int => Value.int .i64 z) (show (d_latheref02_Result p0) = (0 : Int) from (bifT c11)).symm)
  ·
   refine SC.skip (SE.thenK hK3 (SC.seq (fun K6 hK6 => SC.seq (fun K7 hK7 => SC.region ?_))))
   refine SL.step (PS.move rfl tt rfl rfl) ?_
   refine SL.keep (l' := [(12, _, _), (1, _, _)]) ⟨rfl, rfl, trivial⟩ ?_
   refine SL.nil (SE.thenK hK7 (SC.block (SC.seq (fun K8 hK8 => SC.seq (fun K9 hK9 => SC.region ?_)))))
   refine SL.step (PS.eql rfl tt rfl tt rfl rfl) ?_
   refine SL.step (PS.assign rfl tt rfl rfl) ?_
   refine SL.keep (l' := [(13, _, _), (12, _, _), (1, _, _)]) ⟨rfl, rfl, rfl, trivial⟩ ?_
   refine SL.nil (SE.thenK hK9 ?_)
   refine SC.cond rfl (fun c13 => ?_) (fun c13 => ?_)
   ·
    refine SC.skip (SE.thenK hK8 (SC.cond_t rfl c13 (SC.seq (fun K10 hK10 => SC.region ?_))))
    refine SL.step (PS.assign rfl tt rfl rfl) ?_
    refine SL.keep (l' := [(2, _, _)]) ⟨rfl, trivial⟩ ?_
    refine SL.nil (SE.thenK hK10 (SC.ret (SE.block_ret (SE.then_ret ?_))))
    exact finV1 rfl rfl (fun _ _ => congrArg (fun z : Int => Value.int .i64 z) (show (d_latheref02_Result p0) = (1 : Int) from ((bifF c11).trans (bifT c13))).symm)
   ·
    refine SC.seq (fun K11 hK11 => SC.region ?_)
    refine SL.step (PS.eql rfl tt rfl tt rfl rfl) ?_
    refine SL.step (PS.assign rfl tt rfl rfl) ?_
    refine SL.keep (l' := [(13, _, _), (12, _, _), (1, _, _)]) ⟨rfl, rfl, rfl, trivial⟩ ?_
    refine SL.nil (SE.thenK hK11 ?_)
    refine SC.cond rfl (fun c13a => ?_) (fun c13a => ?_)
    ·
     refine SC.skip (SE.thenK hK8 (SC.cond_t rfl c13a (SC.seq (fun K12 hK12 => SC.region ?_))))
     refine SL.step (PS.assign rfl tt rfl rfl) ?_
     refine SL.keep (l' := [(2, _, _)]) ⟨rfl, trivial⟩ ?_
     refine SL.nil (SE.thenK hK12 (SC.ret (SE.block_ret (SE.then_ret ?_))))
     exact finV1 rfl rfl (fun _ _ => congrArg (fun z : Int => Value.int .i64 z) (show (d_latheref02_Result p0) = (1 : Int) from ((bifF c11).trans ((bifF c13).trans (bifT c13a)))).symm)
    ·
     refine SC.seq (fun K13 hK13 => SC.region ?_)
     refine SL.step (PS.eql rfl tt rfl tt rfl rfl) ?_
     refine SL.step (PS.assign rfl tt rfl rfl) ?_
     refine SL.keep (l' := [(13, _, _), (12, _, _), (1, _, _)]) ⟨rfl, rfl, rfl, trivial⟩ ?_
     refine SL.nil (SE.thenK hK13 ?_)
     refine SC.cond rfl (fun c13b => ?_) (fun c13b => ?_)
     ·
      refine SC.skip (SE.thenK hK8 (SC.cond_t rfl c13b (SC.seq (fun K14 hK14 => SC.region ?_))))
      refine SL.step (PS.assign rfl tt rfl rfl) ?_
      refine SL.keep (l' := [(2, _, _)]) ⟨rfl, trivial⟩ ?_
      refine SL.nil (SE.thenK hK14 (SC.ret (SE.block_ret (SE.then_ret ?_))))
      exact finV1 rfl rfl (fun _ _ => congrArg (fun z : Int => Value.int .i64 z) (show (d_latheref02_Result p0) = (1 : Int) from ((bifF c11).trans ((bifF c13).trans ((bifF c13a).trans (bifT c13b))))).symm)
     ·
      refine SC.seq (fun K15 hK15 => SC.region ?_)
      refine SL.step (PS.eql rfl tt rfl tt rfl rfl) ?_
      refine SL.step (PS.assign rfl tt rfl rfl) ?_
      refine SL.keep (l' := [(13, _, _), (12, _, _), (1, _, _)]) ⟨rfl, rfl, rfl, trivial⟩ ?_
      refine SL.nil (SE.thenK hK15 ?_)
      refine SC.cond rfl (fun c13c => ?_) (fun c13c => ?_)
      ·
       refine SC.skip (SE.thenK hK8 (SC.cond_t rfl c13c (SC.seq (fun K16 hK16 => SC.region ?_))))
       refine SL.step (PS.assign rfl tt rfl rfl) ?_
       refine SL.keep (l' := [(2, _, _)]) ⟨rfl, trivial⟩ ?_
       refine SL.nil (SE.thenK hK16 (SC.ret (SE.block_ret (SE.then_ret ?_))))
       exact finV1 rfl rfl (fun _ _ => congrArg (fun z : Int => Value.int .i64 z) (show (d_latheref02_Result p0) = (1 : Int) from ((bifF c11).trans ((bifF c13).trans ((bifF c13a).trans ((bifF c13b).trans (bifT c13c)))))).symm)
      ·
       refine SC.seq (fun K17 hK17 => SC.region ?_)
       refine SL.step (PS.eql rfl tt rfl tt rfl rfl) ?_
       refine SL.step (PS.assign rfl tt rfl rfl) ?_
       refine SL.keep (l' := [(13, _, _), (12, _, _), (1, _, _)]) ⟨rfl, rfl, rfl, trivial⟩ ?_
       refine SL.nil (SE.thenK hK17 ?_)
       refine SC.cond rfl (fun c13d => ?_) (fun c13d => ?_)
       ·
        refine SC.skip (SE.thenK hK8 (SC.cond_t rfl c13d (SC.seq (fun K18 hK18 => SC.region ?_))))
        refine SL.step (PS.assign rfl tt rfl rfl) ?_
        refine SL.keep (l' := [(2, _, _)]) ⟨rfl, trivial⟩ ?_
        refine SL.nil (SE.thenK hK18 (SC.ret (SE.block_ret (SE.then_ret ?_))))
        exact finV1 rfl rfl (fun _ _ => congrArg (fun z : Int => Value.int .i64 z) (show (d_latheref02_Result p0) = (1 : Int) from ((bifF c11).trans ((bifF c13).trans ((bifF c13a).trans ((bifF c13b).trans ((bifF c13c).trans (bifT c13d))))))).symm)
       ·
        refine SC.region ?_
        refine SL.step (PS.eql rfl tt rfl tt rfl rfl) ?_
        refine SL.step (PS.assign rfl tt rfl rfl) ?_
        refine SL.keep (l' := [(13, _, _), (12, _, _), (1, _, _)]) ⟨rfl, rfl, rfl, trivial⟩ ?_
        refine SL.nil (SE.thenK hK8 ?_)
        refine SC.cond rfl (fun c13e => ?_) (fun c13e => ?_)
        ·
         refine SC.seq (fun K19 hK19 => SC.region ?_)
         refine SL.step (PS.assign rfl tt rfl rfl) ?_
         refine SL.keep (l' := [(2, _, _)]) ⟨rfl, trivial⟩ ?_
         refine SL.nil (SE.thenK hK19 (SC.ret (SE.block_ret (SE.then_ret ?_))))
         exact finV1 rfl rfl (fun _ _ => congrArg (fun z : Int => Value.int .i64 z) (show (d_latheref02_Result p0) = (1 : Int) from ((bifF c11).trans ((bifF c13).trans ((bifF c13a).trans ((bifF c13b).trans ((bifF c13c).trans ((bifF c13d).trans (bifT c13e)))))))).symm)
        ·
         refine SC.seq (fun K20 hK20 => SC.seq (fun K21 hK21 => SC.region ?_))
         refine SL.step (PS.eql rfl tt rfl tt rfl rfl) ?_
         refine SL.step (PS.assign rfl tt rfl rfl) ?_
         refine SL.keep (l' := [(20, _, _), (12, _, _), (1, _, _)]) ⟨rfl, rfl, rfl, trivial⟩ ?_
         refine SL.nil (SE.thenK hK21 ?_)
         refine SC.cond rfl (fun c20 => ?_) (fun c20 => ?_)
         ·
          refine SC.skip (SE.thenK hK20 (SC.cond_t rfl c20 (SC.seq (fun K22 hK22 => SC.region ?_))))
          refine SL.step (PS.assign rfl tt rfl rfl) ?_
          refine SL.keep (l' := [(2, _, _)]) ⟨rfl, trivial⟩ ?_
          refine SL.nil (SE.thenK hK22 (SC.ret (SE.block_ret (SE.then_ret ?_))))
          exact finV1 rfl rfl (fun _ _ => congrArg (fun z : Int => Value.int .i64 z) (show (d_latheref02_Result p0) = (65 : Int) from ((bifF c11).trans ((bifF c13).trans ((bifF c13a).trans ((bifF c13b).trans ((bifF c13c).trans ((bifF c13d).trans ((bifF c13e).trans (bifT c20))))))))).symm)
         ·
          refine SC.region ?_
          refine SL.step (PS.eql rfl tt rfl tt rfl rfl) ?_
          refine SL.step (PS.assign rfl tt rfl rfl) ?_
          refine SL.keep (l' := [(20, _, _), (12, _, _), (1, _, _)]) ⟨rfl, rfl, rfl, trivial⟩ ?_
          refine SL.nil (SE.thenK hK20 ?_)
          refine SC.cond rfl (fun c20a => ?_) (fun c20a => ?_)
          ·
           refine SC.seq (fun K23 hK23 => SC.region ?_)
           refine SL.step (PS.assign rfl tt rfl rfl) ?_
           refine SL.keep (l' := [(2, _, _)]) ⟨rfl, trivial⟩ ?_
           refine SL.nil (SE.thenK hK23 (SC.ret (SE.block_ret (SE.then_ret ?_))))
           exact finV1 rfl rfl (fun _ _ => congrArg (fun z : Int => Value.int .i64 z) (show (d_latheref02_Result p0) = (65 : Int) from ((bifF c11).trans ((bifF c13).trans ((bifF c13a).trans ((bifF c13b).trans ((bifF c13c).trans ((bifF c13d).trans ((bifF c13e).trans ((bifF c20).trans (bifT c20a)))))))))).symm)
          ·
           refine SC.seq (fun K24 hK24 => SC.region ?_)
           refine SL.step (PS.eql rfl tt rfl tt rfl rfl) ?_
           refine SL.step (PS.assign rfl tt rfl rfl) ?_
           refine SL.keep (l' := [(23, _, _), (1, _, _)]) ⟨rfl, rfl, trivial⟩ ?_
           refine SL.nil (SE.thenK hK24 ?_)
           refine SC.cond rfl (fun c23 => ?_) (fun c23 => ?_)
           ·
            refine SC.seq (fun K25 hK25 => SC.region ?_)
            refine SL.step (PS.assign rfl tt rfl rfl) ?_
            refine SL.keep (l' := [(2, _, _)]) ⟨rfl, trivial⟩ ?_
            refine SL.nil (SE.thenK hK25 (SC.ret (SE.block_ret (SE.then_ret ?_))))
            exact finV1 rfl rfl (fun _ _ => congrArg (fun z : Int => Value.int .i64 z) (show (d_latheref02_Result p0) = (0 : Int) from ((bifF c11).trans ((bifF c13).trans ((bifF c13a).trans ((bifF c13b).trans ((bifF c13c).trans ((bifF c13d).trans ((bifF c13e).trans ((bifF c20).trans ((bifF c20a).trans (bifT c23))))))))))).symm)
           ·
            refine SC.skip (SE.block_normal (SE.thenK hK6 (SC.seq (fun K26 hK26 => SC.region ?_))))
            refine SL.step (PS.fieldAddr rfl tt Try.fieldAt_25_2 rfl rfl) ?_
            refine SL.step (PS.load_own (k := 0) rfl tt rfl rfl rfl Try.isAgg3 rfl rfl) ?_
            refine SL.step (PS.assign rfl tt rfl rfl) ?_
            refine SL.keep (l' := [(2, _, _)]) ⟨rfl, trivial⟩ ?_
            refine SL.nil (SE.thenK hK26 (SC.ret ?_))
            exact finV1 rfl rfl (fun _ _ => congrArg (fun z : Int => Value.int .i64 z) (show (d_latheref02_Result p0) = (p0.t : Int) from ((bifF c11).trans ((bifF c13).trans ((bifF c13a).trans ((bifF c13b).trans ((bifF c13c).trans ((bifF c13d).trans ((bifF c13e).trans ((bifF c20).trans ((bifF c20a).trans (bifF c23))))))))))).symm)
def d_fold_literal (p0 : Opd) : Vl × Bool :=
  bif (p0.k == 2) then
   ((⟨1, p0.b, 0, 0⟩ : Vl), true)
  else bif (p0.k == 3) then
    ((⟨0, 0, 0, 0⟩ : Vl), true)
   else bif (p0.k == 4) then
     ((⟨2, 0, (-1), 0⟩ : Vl), true)
    else bif (p0.k == 5) then
      ((⟨2, 0, p0.n, 0⟩ : Vl), true)
     else ((⟨0, 0, 0, 0⟩ : Vl), false)
theorem fold_literal_V (p0 : Opd)  : SpecV Try.prog 11 [.agg [.int .i64 p0.k, .int .i64 p0.n, .int .u64 p0.b].toArray] (Value.tuple #[Value.agg [.int .i64 (((d_fold_literal p0).1).k), .int .u64 (((d_fold_literal p0).1).b), .int .i64 (((d_fold_literal p0).1).bl), .int .i64 (((d_fold_literal p0).1).off)].toArray, Value.bool (d_fold_literal p0).2]) := by
  refine SpecV.enter Try.func11 rfl (n := 23) Try.ntmps11 (Nat.le_of_ble_eq_true rfl) (l := [(0, _, _)]) rfl ?_
  intro w
  refine SC.seq (fun K1 hK1 => SC.region ?_)
  refine SL.box (cs := [_, _, _]) rfl rfl rfl rfl rfl (fun b1 => ?_)
  refine SL.alloc (cs := [_, _, _, _]) Try.zeroValue35 rfl rfl rfl (fun b2 => ?_)
  refine SL.step (PS.assign rfl tt rfl rfl) ?_
  refine SL.keep (l' := [(2, _, _), (1, _, _)]) ⟨rfl, rfl, trivial⟩ ?_
  refine SL.nil (SE.thenK hK1 (SC.seq (fun K2 hK2 => SC.seq (fun K3 hK3 => SC.region ?_))))
  refine SL.step (PS.fieldAddr rfl tt Try.fieldAt_29_0 rfl rfl) ?_
  refine SL.step (PS.load_own (k := 1) rfl tt rfl rfl rfl Try.isAgg3 rfl rfl) ?_
  refine SL.keep (l' := [(5, _, _), (2, _, _), (1, _, _)]) ⟨rfl, rfl, rfl, trivial⟩ ?_
  refine SL.nil (SE.thenK hK3 (SC.block (SC.seq (fun K4 hK4 => SC.region ?_))))
  refine SL.step (PS.eql rfl tt rfl tt rfl rfl) ?_
  refine SL.step (PS.assign rfl tt rfl rfl) ?_
  refine SL.keep (l' := [(6, _, _), (5, _, _), (2, _, _), (1, _, _)]) ⟨rfl, rfl, rfl, rfl, trivial⟩ ?_
  refine SL.nil (SE.thenK hK4 ?_)
  refine SC.cond rfl (fun c6 => ?_) (fun c6 => ?_)
  ·
   refine SC.seq (fun K5 hK5 => SC.region ?_)
   refine SL.step (PS.fieldAddr rfl tt Try.fieldAt_29_2 rfl rfl) ?_
   refine SL.step (PS.load_own (k := 1) rfl tt rfl rfl rfl Try.isAgg27 rfl rfl) ?_
   refine SL.step (PS.build (us := [(0, _), (1, _)]) (vs := [_, _, _, _]) ⟨rfl, ⟨_, rfl, tt⟩, ⟨rfl, ⟨_, rfl, tt⟩, trivial⟩⟩ Try.underlying35 Try.zeroValue35 (Try.places_35 Try.underlying35) rfl rfl rfl) ?_
   refine SL.store_own (k := 0) (own' := [_, _]) (cs' := [_, _, _, _]) rfl rfl rfl rfl rfl rfl rfl Try.sizeOf35 rfl (Nat.le_of_ble_eq_true rfl) rfl rfl rfl rfl ?_
   refine SL.step (PS.assign rfl tt rfl rfl) ?_
   refine SL.keep (l' := [(3, _, _), (2, _, _)]) ⟨rfl, rfl, trivial⟩ ?_
   refine SL.nil (SE.thenK hK5 (SC.ret (SE.block_ret (SE.then_ret ?_))))
   exact finVct (k := 0) rfl Try.isAgg35 Try.sizeOf35 rfl rfl rfl rfl rfl (fun _ _ => congrArg (fun z : Vl × Bool => Value.tuple #[Value.agg [.int .i64 z.1.k, .int .u64 z.1.b, .int .i64 z.1.bl, .int .i64 z.1.off].toArray, Value.bool z.2]) (show (d_fold_literal p0) = (((⟨1, p0.b, 0, 0⟩ : Vl), true) : Vl × Bool) from (bifT c6)).symm)
  ·
   refine SC.seq (fun K6 hK6 => SC.region ?_)
   refine SL.step (PS.eql rfl tt rfl tt rfl rfl) ?_
   refine SL.step (PS.assign rfl tt rfl rfl) ?_
   refine SL.keep (l' := [(11, _, _), (5, _, _), (2, _, _), (1, _, _)]) ⟨rfl, rfl, rfl, rfl, trivial⟩ ?_
   refine SL.nil (SE.thenK hK6 ?_)
   refine SC.cond rfl (fun c11 => ?_) (fun c11 => ?_)
   ·
    refine SC.seq (fun K7 hK7 => SC.region ?_)
    refine SL.step (PS.build (us := []) (vs := [_, _, _, _]) trivial Try.underlying35 Try.zeroValue35 (Try.places_35 Try.underlying35) rfl rfl rfl) ?_
    refine SL.store_own (k := 0) (own' := [_, _]) (cs' := [_, _, _, _]) rfl rfl rfl rfl rfl rfl rfl Try.sizeOf35 rfl (Nat.le_of_ble_eq_true rfl) rfl rfl rfl rfl ?_
    refine SL.step (PS.assign rfl tt rfl rfl) ?_
    refine SL.keep (l' := [(3, _, _), (2, _, _)]) ⟨rfl, rfl, trivial⟩ ?_
    refine SL.nil (SE.thenK hK7 (SC.ret (SE.block_ret (SE.then_ret ?_))))
    exact finVct (k := 0) rfl Try.isAgg35 Try.sizeOf35 rfl rfl rfl rfl rfl (fun _ _ => congrArg (fun z : Vl × Bool => Value.tuple #[Value.agg [.int .i64 z.1.k, .int .u64 z.1.b, .int .i64 z.1.bl, .int .i64 z.1.off].toArray, Value.bool z.2]) (show (d_fold_literal p0) = (((⟨0, 0, 0, 0⟩ : Vl), true) : Vl × Bool) from ((bifF c6).trans (bifT c11))).symm)
   ·
    refine SC.seq (fun K8 hK8 => SC.region ?_)
    refine SL.step (PS.eql rfl tt rfl tt rfl rfl) ?_
    refine SL.step (PS.assign rfl tt rfl rfl) ?_
    refine SL.keep (l' := [(14, _, _), (5, _, _), (2, _, _), (1, _, _)]) ⟨rfl, rfl, rfl, rfl, trivial⟩ ?_
    refine SL.nil (SE.thenK hK8 ?_)
    refine SC.cond rfl (fun c14 => ?_) (fun c14 => ?_)
    ·
     refine SC.seq (fun K9 hK9 => SC.region ?_)
     refine SL.step (PS.build (us := [(0, _), (2, _)]) (vs := [_, _, _, _]) ⟨rfl, ⟨_, rfl, tt⟩, ⟨rfl, ⟨_, rfl, tt⟩, trivial⟩⟩ Try.underlying35 Try.zeroValue35 (Try.places_35 Try.underlying35) rfl rfl rfl) ?_
     refine SL.store_own (k := 0) (own' := [_, _]) (cs' := [_, _, _, _]) rfl rfl rfl rfl rfl rfl rfl Try.sizeOf35 rfl (Nat.le_of_ble_eq_true rfl) rfl rfl rfl rfl ?_
     refine SL.step (PS.assign rfl tt rfl rfl) ?_
     refine SL.keep (l' := [(3, _, _), (2, _, _)]) ⟨rfl, rfl, trivial⟩ ?_
     refine SL.nil (SE.thenK hK9 (SC.ret (SE.block_ret (SE.then_ret ?_))))
     exact finVct (k := 0) rfl Try.isAgg35 Try.sizeOf35 rfl rfl rfl rfl rfl (fun _ _ => congrArg (fun z : Vl × Bool => Value.tuple #[Value.agg [.int .i64 z.1.k, .int .u64 z.1.b, .int .i64 z.1.bl, .int .i64 z.1.off].toArray, Value.bool z.2]) (show (d_fold_literal p0) = (((⟨2, 0, (-1), 0⟩ : Vl), true) : Vl × Bool) from ((bifF c6).trans ((bifF c11).trans (bifT c14)))).symm)
    ·
     refine SC.seq (fun K10 hK10 => SC.region ?_)
     refine SL.step (PS.eql rfl tt rfl tt rfl rfl) ?_
     refine SL.step (PS.assign rfl tt rfl rfl) ?_
     refine SL.keep (l' := [(17, _, _), (2, _, _), (1, _, _)]) ⟨rfl, rfl, rfl, trivial⟩ ?_
     refine SL.nil (SE.thenK hK10 ?_)
     refine SC.cond rfl (fun c17 => ?_) (fun c17 => ?_)
     ·
      refine SC.seq (fun K11 hK11 => SC.region ?_)
      refine SL.step (PS.fieldAddr rfl tt Try.fieldAt_29_1 rfl rfl) ?_
      refine SL.step (PS.load_own (k := 1) rfl tt rfl rfl rfl Try.isAgg3 rfl rfl) ?_
      refine SL.step (PS.build (us := [(0, _), (2, _)]) (vs := [_, _, _, _]) ⟨rfl, ⟨_, rfl, tt⟩, ⟨rfl, ⟨_, rfl, tt⟩, trivial⟩⟩ Try.underlying35 Try.zeroValue35 (Try.places_35 Try.underlying35) rfl rfl rfl) ?_
      refine SL.store_own (k := 0) (own' := [_, _]) (cs' := [_, _, _, _]) rfl rfl rfl rfl rfl rfl rfl Try.sizeOf35 rfl (Nat.le_of_ble_eq_true rfl) rfl rfl rfl rfl ?_
      refine SL.step (PS.assign rfl tt rfl rfl) ?_
      refine SL.keep (l' := [(3, _, _), (2, _, _)]) ⟨rfl, rfl, trivial⟩ ?_
      refine SL.nil (SE.thenK hK11 (SC.ret (SE.block_ret (SE.then_ret ?_))))
      exact finVct (k := 0) rfl Try.isAgg35 Try.sizeOf35 rfl rfl rfl rfl rfl (fun _ _ => congrArg (fun z : Vl × Bool => Value.tuple #[Value.agg [.int .i64 z.1.k, .int .u64 z.1.b, .int .i64 z.1.bl, .int .i64 z.1.off].toArray, Value.bool z.2]) (show (d_fold_literal p0) = (((⟨2, 0, p0.n, 0⟩ : Vl), true) : Vl × Bool) from ((bifF c6).trans ((bifF c11).trans ((bifF c14).trans (bifT c17))))).symm)
     ·
      refine SC.skip (SE.block_normal (SE.thenK hK2 (SC.seq (fun K12 hK12 => SC.region ?_))))
      refine SL.step (PS.build (us := []) (vs := [_, _, _, _]) trivial Try.underlying35 Try.zeroValue35 (Try.places_35 Try.underlying35) rfl rfl rfl) ?_
      refine SL.store_own (k := 0) (own' := [_, _]) (cs' := [_, _, _, _]) rfl rfl rfl rfl rfl rfl rfl Try.sizeOf35 rfl (Nat.le_of_ble_eq_true rfl) rfl rfl rfl rfl ?_
      refine SL.step (PS.assign rfl tt rfl rfl) ?_
      refine SL.keep (l' := [(3, _, _), (2, _, _)]) ⟨rfl, rfl, trivial⟩ ?_
      refine SL.nil (SE.thenK hK12 (SC.ret ?_))
      exact finVct (k := 0) rfl Try.isAgg35 Try.sizeOf35 rfl rfl rfl rfl rfl (fun _ _ => congrArg (fun z : Vl × Bool => Value.tuple #[Value.agg [.int .i64 z.1.k, .int .u64 z.1.b, .int .i64 z.1.bl, .int .i64 z.1.off].toArray, Value.bool z.2]) (show (d_fold_literal p0) = (((⟨0, 0, 0, 0⟩ : Vl), false) : Vl × Bool) from ((bifF c6).trans ((bifF c11).trans ((bifF c14).trans (bifF c17))))).symm)
def d_fold_operand (p0 : Int) (p1 : Vl) : Opd × Bool :=
  bif (p1.k == 0) then
   ((⟨3, 0, 0⟩ : Opd), true)
  else bif (p1.k == 1) then
    ((⟨2, 0, p1.b⟩ : Opd), true)
   else bif ((p1.k == 3) && (p0 != 65)) then
     ((⟨2, 0, 0⟩ : Opd), true)
    else bif ((p1.k == 3) || ((p1.bl == (-1)) && (p1.off == 0))) then
      ((⟨4, 0, 0⟩ : Opd), true)
     else bif ((decide (0 ≤ p1.bl)) && (p1.off == 0)) then
       ((⟨5, p1.bl, 0⟩ : Opd), true)
      else ((⟨0, 0, 0⟩ : Opd), false)
theorem fold_operand_V (p0 : Int) (p1 : Vl)  : SpecV Try.prog 12 [.int .i64 p0, .agg [.int .i64 p1.k, .int .u64 p1.b, .int .i64 p1.bl, .int .i64 p1.off].toArray] (Value.tuple #[Value.agg [.int .i64 (((d_fold_operand p0 p1).1).k), .int .i64 (((d_fold_operand p0 p1).1).n), .int .u64 (((d_fold_operand p0 p1).1).b)].toArray, Value.bool (d_fold_operand p0 p1).2]) := by
  refine SpecV.enter Try.func12 rfl (n := 55) Try.ntmps12 (Nat.le_of_ble_eq_true rfl) (l := [(0, _, _), (1, _, _)]) rfl ?_
  intro w
  refine SC.seq (fun K1 hK1 => SC.region ?_)
  refine SL.box (cs := [_, _, _, _]) rfl rfl rfl rfl rfl (fun b3 => ?_)
  refine SL.alloc (cs := [_, _, _]) Try.zeroValue29 rfl rfl rfl (fun b4 => ?_)
  refine SL.step (PS.assign rfl tt rfl rfl) ?_
  refine SL.keep (l' := [(4, _, _), (3, _, _), (0, _, _)]) ⟨rfl, rfl, rfl, trivial⟩ ?_
  refine SL.nil (SE.thenK hK1 (SC.seq (fun K2 hK2 => SC.block (SC.seq (fun K3 hK3 => SC.region ?_)))))
  refine SL.step (PS.fieldAddr rfl tt Try.fieldAt_35_0 rfl rfl) ?_
  refine SL.step (PS.load_own (k := 1) rfl tt rfl rfl rfl Try.isAgg3 rfl rfl) ?_
  refine SL.step (PS.eql rfl tt rfl tt rfl rfl) ?_
  refine SL.step (PS.assign rfl tt rfl rfl) ?_
  refine SL.keep (l' := [(6, _, _), (4, _, _), (3, _, _), (0, _, _)]) ⟨rfl, rfl, rfl, rfl, trivial⟩ ?_
  refine SL.nil (SE.thenK hK3 ?_)
  refine SC.cond rfl (fun c6 => ?_) (fun c6 => ?_)
  ·
   refine SC.seq (fun K4 hK4 => SC.region ?_)
   refine SL.step (PS.build (us := [(0, _)]) (vs := [_, _, _]) ⟨rfl, ⟨_, rfl, tt⟩, trivial⟩ Try.underlying29 Try.zeroValue29 (Try.places_29 Try.underlying29) rfl rfl rfl) ?_
   refine SL.store_own (k := 0) (own' := [_, _]) (cs' := [_, _, _]) rfl rfl rfl rfl rfl rfl rfl Try.sizeOf29 rfl (Nat.le_of_ble_eq_true rfl) rfl rfl rfl rfl ?_
   refine SL.step (PS.assign rfl tt rfl rfl) ?_
   refine SL.keep (l' := [(5, _, _), (4, _, _)]) ⟨rfl, rfl, trivial⟩ ?_
   refine SL.nil (SE.thenK hK4 (SC.ret (SE.block_ret (SE.then_ret ?_))))
   exact finVct (k := 0) rfl Try.isAgg29 Try.sizeOf29 rfl rfl rfl rfl rfl (fun _ _ => congrArg (fun z : Opd × Bool => Value.tuple #[Value.agg [.int .i64 z.1.k, .int .i64 z.1.n, .int .u64 z.1.b].toArray, Value.bool z.2]) (show (d_fold_operand p0 p1) = (((⟨3, 0, 0⟩ : Opd), true) : Opd × Bool) from (bifT c6)).symm)
  ·
   refine SC.seq (fun K5 hK5 => SC.region ?_)
   refine SL.step (PS.fieldAddr rfl tt Try.fieldAt_35_0 rfl rfl) ?_
   refine SL.step (PS.load_own (k := 1) rfl tt rfl rfl rfl Try.isAgg3 rfl rfl) ?_
   refine SL.step (PS.eql rfl tt rfl tt rfl rfl) ?_
   refine SL.step (PS.assign rfl tt rfl rfl) ?_
   refine SL.keep (l' := [(11, _, _), (4, _, _), (3, _, _), (0, _, _)]) ⟨rfl, rfl, rfl, rfl, trivial⟩ ?_
   refine SL.nil (SE.thenK hK5 ?_)
   refine SC.cond rfl (fun c11 => ?_) (fun c11 => ?_)
   ·
    refine SC.seq (fun K6 hK6 => SC.region ?_)
    refine SL.step (PS.fieldAddr rfl tt Try.fieldAt_35_1 rfl rfl) ?_
    refine SL.step (PS.load_own (k := 1) rfl tt rfl rfl rfl Try.isAgg27 rfl rfl) ?_
    refine SL.step (PS.build (us := [(0, _), (2, _)]) (vs := [_, _, _]) ⟨rfl, ⟨_, rfl, tt⟩, ⟨rfl, ⟨_, rfl, tt⟩, trivial⟩⟩ Try.underlying29 Try.zeroValue29 (Try.places_29 Try.underlying29) rfl rfl rfl) ?_
    refine SL.store_own (k := 0) (own' := [_, _]) (cs' := [_, _, _]) rfl rfl rfl rfl rfl rfl rfl Try.sizeOf29 rfl (Nat.le_of_ble_eq_true rfl) rfl rfl rfl rfl ?_
    refine SL.step (PS.assign rfl tt rfl rfl) ?_
    refine SL.keep (l' := [(5, _, _), (4, _, _)]) ⟨rfl, rfl, trivial⟩ ?_
    refine SL.nil (SE.thenK hK6 (SC.ret (SE.block_ret (SE.then_ret ?_))))
    exact finVct (k := 0) rfl Try.isAgg29 Try.sizeOf29 rfl rfl rfl rfl rfl (fun _ _ => congrArg (fun z : Opd × Bool => Value.tuple #[Value.agg [.int .i64 z.1.k, .int .i64 z.1.n, .int .u64 z.1.b].toArray, Value.bool z.2]) (show (d_fold_operand p0 p1) = (((⟨2, 0, p1.b⟩ : Opd), true) : Opd × Bool) from ((bifF c6).trans (bifT c11))).symm)
   ·
    refine SC.seq (fun K7 hK7 => SC.region ?_)
    refine SL.step (PS.fieldAddr rfl tt Try.fieldAt_35_0 rfl rfl) ?_
    refine SL.step (PS.load_own (k := 1) rfl tt rfl rfl rfl Try.isAgg3 rfl rfl) ?_
    refine SL.step (PS.eql rfl tt rfl tt rfl rfl) ?_
    refine SL.step (PS.move rfl tt rfl rfl) ?_
    refine SL.step (PS.move rfl tt rfl rfl) ?_
    refine SL.step (PS.neq rfl (fun h => h) rfl tt rfl rfl) ?_
    refine SL.step (PS.pick_and rfl tt rfl (fun h h2 => pk_and h h2) rfl rfl) ?_
    refine SL.step (PS.assign rfl tt rfl rfl) ?_
    refine SL.keep (l' := [(18, _, _), (4, _, _), (3, _, _)]) ⟨rfl, rfl, rfl, trivial⟩ ?_
    refine SL.nil (SE.thenK hK7 ?_)
    refine SC.cond rfl (fun c18 => ?_) (fun c18 => ?_)
    ·
     refine SC.seq (fun K8 hK8 => SC.region ?_)
     refine SL.step (PS.build (us := [(0, _)]) (vs := [_, _, _]) ⟨rfl, ⟨_, rfl, tt⟩, trivial⟩ Try.underlying29 Try.zeroValue29 (Try.places_29 Try.underlying29) rfl rfl rfl) ?_
     refine SL.store_own (k := 0) (own' := [_, _]) (cs' := [_, _, _]) rfl rfl rfl rfl rfl rfl rfl Try.sizeOf29 rfl (Nat.le_of_ble_eq_true rfl) rfl rfl rfl rfl ?_
     refine SL.step (PS.assign rfl tt rfl rfl) ?_
     refine SL.keep (l' := [(5, _, _), (4, _, _)]) ⟨rfl, rfl, trivial⟩ ?_
     refine SL.nil (SE.thenK hK8 (SC.ret (SE.block_ret (SE.then_ret ?_))))
     exact finVct (k := 0) rfl Try.isAgg29 Try.sizeOf29 rfl rfl rfl rfl rfl (fun _ _ => congrArg (fun z : Opd × Bool => Value.tuple #[Value.agg [.int .i64 z.1.k, .int .i64 z.1.n, .int .u64 z.1.b].toArray, Value.bool z.2]) (show (d_fold_operand p0 p1) = (((⟨2, 0, 0⟩ : Opd), true) : Opd × Bool) from ((bifF c6).trans ((bifF c11).trans (bifT c18)))).symm)
    ·
     refine SC.seq (fun K9 hK9 => SC.region ?_)
     refine SL.step (PS.fieldAddr rfl tt Try.fieldAt_35_0 rfl rfl) ?_
     refine SL.step (PS.load_own (k := 1) rfl tt rfl rfl rfl Try.isAgg3 rfl rfl) ?_
     refine SL.step (PS.eql rfl tt rfl tt rfl rfl) ?_
     refine SL.step (PS.move rfl tt rfl rfl) ?_
     refine SL.step (PS.fieldAddr rfl tt Try.fieldAt_35_2 rfl rfl) ?_
     refine SL.step (PS.load_own (k := 1) rfl (fun h => h) rfl rfl rfl Try.isAgg3 rfl rfl) ?_
     refine SL.step (PS.eql rfl (fun h => h) rfl tt rfl rfl) ?_
     refine SL.step (PS.move rfl (fun h => h) rfl rfl) ?_
     refine SL.step (PS.fieldAddr rfl tt Try.fieldAt_35_3 rfl rfl) ?_
     refine SL.step (PS.load_own (k := 1) rfl (fun h => h) rfl rfl rfl Try.isAgg2 rfl rfl) ?_
     refine SL.step (PS.eql rfl (fun h => h) rfl tt rfl rfl) ?_
     refine SL.step (PS.pick_and rfl (fun h => h) rfl (fun h h2 => pk_and h h2) rfl rfl) ?_
     refine SL.step (PS.pick_or rfl tt rfl (fun h h2 => pk_or h h2) rfl rfl) ?_
     refine SL.step (PS.assign rfl tt rfl rfl) ?_
     refine SL.keep (l' := [(27, _, _), (4, _, _), (3, _, _)]) ⟨rfl, rfl, rfl, trivial⟩ ?_
     refine SL.nil (SE.thenK hK9 ?_)
     refine SC.cond rfl (fun c27 => ?_) (fun c27 => ?_)
     ·
      refine SC.seq (fun K10 hK10 => SC.region ?_)
      refine SL.step (PS.build (us := [(0, _)]) (vs := [_, _, _]) ⟨rfl, ⟨_, rfl, tt⟩, trivial⟩ Try.underlying29 Try.zeroValue29 (Try.places_29 Try.underlying29) rfl rfl rfl) ?_
      refine SL.store_own (k := 0) (own' := [_, _]) (cs' := [_, _, _]) rfl rfl rfl rfl rfl rfl rfl Try.sizeOf29 rfl (Nat.le_of_ble_eq_true rfl) rfl rfl rfl rfl ?_
      refine SL.step (PS.assign rfl tt rfl rfl) ?_
      refine SL.keep (l' := [(5, _, _), (4, _, _)]) ⟨rfl, rfl, trivial⟩ ?_
      refine SL.nil (SE.thenK hK10 (SC.ret (SE.block_ret (SE.then_ret ?_))))
      exact finVct (k := 0) rfl Try.isAgg29 Try.sizeOf29 rfl rfl rfl rfl rfl (fun _ _ => congrArg (fun z : Opd × Bool => Value.tuple #[Value.agg [.int .i64 z.1.k, .int .i64 z.1.n, .int .u64 z.1.b].toArray, Value.bool z.2]) (show (d_fold_operand p0 p1) = (((⟨4, 0, 0⟩ : Opd), true) : Opd × Bool) from ((bifF c6).trans ((bifF c11).trans ((bifF c18).trans (bifT c27))))).symm)
     ·
      refine SC.seq (fun K11 hK11 => SC.region ?_)
      refine SL.step (PS.fieldAddr rfl tt Try.fieldAt_35_2 rfl rfl) ?_
      refine SL.step (PS.load_own (k := 1) rfl tt rfl rfl rfl Try.isAgg3 rfl rfl) ?_
      refine SL.step (PS.geq rfl tt rfl tt rfl rfl) ?_
      refine SL.step (PS.move rfl tt rfl rfl) ?_
      refine SL.step (PS.fieldAddr rfl tt Try.fieldAt_35_3 rfl rfl) ?_
      refine SL.step (PS.load_own (k := 1) rfl (fun h => h) rfl rfl rfl Try.isAgg2 rfl rfl) ?_
      refine SL.step (PS.eql rfl (fun h => h) rfl tt rfl rfl) ?_
      refine SL.step (PS.pick_and rfl tt rfl (fun h h2 => pk_and h h2) rfl rfl) ?_
      refine SL.step (PS.assign rfl tt rfl rfl) ?_
      refine SL.keep (l' := [(42, _, _), (4, _, _), (3, _, _)]) ⟨rfl, rfl, rfl, trivial⟩ ?_
      refine SL.nil (SE.thenK hK11 ?_)
      refine SC.cond rfl (fun c42 => ?_) (fun c42 => ?_)
      ·
       refine SC.seq (fun K12 hK12 => SC.region ?_)
       refine SL.step (PS.fieldAddr rfl tt Try.fieldAt_35_2 rfl rfl) ?_
       refine SL.step (PS.load_own (k := 1) rfl tt rfl rfl rfl Try.isAgg3 rfl rfl) ?_
       refine SL.step (PS.build (us := [(0, _), (1, _)]) (vs := [_, _, _]) ⟨rfl, ⟨_, rfl, tt⟩, ⟨rfl, ⟨_, rfl, tt⟩, trivial⟩⟩ Try.underlying29 Try.zeroValue29 (Try.places_29 Try.underlying29) rfl rfl rfl) ?_
       refine SL.store_own (k := 0) (own' := [_, _]) (cs' := [_, _, _]) rfl rfl rfl rfl rfl rfl rfl Try.sizeOf29 rfl (Nat.le_of_ble_eq_true rfl) rfl rfl rfl rfl ?_
       refine SL.step (PS.assign rfl tt rfl rfl) ?_
       refine SL.keep (l' := [(5, _, _), (4, _, _)]) ⟨rfl, rfl, trivial⟩ ?_
       refine SL.nil (SE.thenK hK12 (SC.ret (SE.block_ret (SE.then_ret ?_))))
       exact finVct (k := 0) rfl Try.isAgg29 Try.sizeOf29 rfl rfl rfl rfl rfl (fun _ _ => congrArg (fun z : Opd × Bool => Value.tuple #[Value.agg [.int .i64 z.1.k, .int .i64 z.1.n, .int .u64 z.1.b].toArray, Value.bool z.2]) (show (d_fold_operand p0 p1) = (((⟨5, p1.bl, 0⟩ : Opd), true) : Opd × Bool) from ((bifF c6).trans ((bifF c11).trans ((bifF c18).trans ((bifF c27).trans (bifT c42)))))).symm)
      ·
       refine SC.skip (SE.block_normal (SE.thenK hK2 (SC.seq (fun K13 hK13 => SC.region ?_))))
       refine SL.step (PS.build (us := []) (vs := [_, _, _]) trivial Try.underlying29 Try.zeroValue29 (Try.places_29 Try.underlying29) rfl rfl rfl) ?_
       refine SL.store_own (k := 0) (own' := [_, _]) (cs' := [_, _, _]) rfl rfl rfl rfl rfl rfl rfl Try.sizeOf29 rfl (Nat.le_of_ble_eq_true rfl) rfl rfl rfl rfl ?_
       refine SL.step (PS.assign rfl tt rfl rfl) ?_
       refine SL.keep (l' := [(5, _, _), (4, _, _)]) ⟨rfl, rfl, trivial⟩ ?_
       refine SL.nil (SE.thenK hK13 (SC.ret ?_))
       exact finVct (k := 0) rfl Try.isAgg29 Try.sizeOf29 rfl rfl rfl rfl rfl (fun _ _ => congrArg (fun z : Opd × Bool => Value.tuple #[Value.agg [.int .i64 z.1.k, .int .i64 z.1.n, .int .u64 z.1.b].toArray, Value.bool z.2]) (show (d_fold_operand p0 p1) = (((⟨0, 0, 0⟩ : Opd), false) : Opd × Bool) from ((bifF c6).trans ((bifF c11).trans ((bifF c18).trans ((bifF c27).trans (bifF c42)))))).symm)
theorem lit_rg {v : Opd} (h : 0 ≤ v.b ∧ v.b < 18446744073709551616) : 0 ≤ (d_fold_literal v).1.b ∧ (d_fold_literal v).1.b < 18446744073709551616 := by
  unfold d_fold_literal
  simp only [Bool.cond_eq_ite]
  (repeat' split) <;> first | exact h | simp
def d_fold_Fold_R5 (p0 : Ins) : Nat → (List Vl) → Int → Int → Int → Int → Sum (Opd × Bool) (List Vl × Int × Int × Int × Int)
  | 0, l4, yb2_0, yb2_1, yb2_2, x19 => Sum.inr (l4, yb2_0, yb2_1, yb2_2, x19)
  | k + 1, l4, yb2_0, yb2_1, yb2_2, x19 =>
   bif (decide (x19 < (p0.args.l.length : Int))) then
    bif (!((d_fold_literal (p0.args.l.getD (Int.toNat x19) Dat.d)).2)) then
     Sum.inl ((⟨0, 0, 0⟩ : Opd), false)
    else d_fold_Fold_R5 p0 k (l4 ++ [((d_fold_literal (p0.args.l.getD (Int.toNat x19) Dat.d)).1)]) yb2_0 yb2_1 yb2_2 (x19 + 1)
   else Sum.inr (l4, yb2_0, yb2_1, yb2_2, x19)
def d_fold_Fold (p0 : Ins) : Opd × Bool :=
  bif (!(d_ir_Calm p0.op)) then
   ((⟨0, 0, 0⟩ : Opd), false)
  else thenL (d_fold_Fold_R5 p0 (((p0.args.l.length : Int) - 0).toNat + 1) ([] : List Vl) 0 0 0 0) (fun (l4e, yb2_0e, yb2_1e, yb2_2e, x19e) => bif ((evalI p0 (⟨none, 0, l4e⟩ : SlD Vl)).2 != 0) then
     ((⟨0, 0, 0⟩ : Opd), false)
    else (((d_fold_operand (d_ir_Result p0) ((evalI p0 (⟨none, 0, l4e⟩ : SlD Vl)).1)).1), (d_fold_operand (d_ir_Result p0) ((evalI p0 (⟨none, 0, l4e⟩ : SlD Vl)).1)).2))
theorem fold_Fold_S (p0 : Ins) (hn : p0.args.l.length ≤ 1000000) : Spec Try.prog 6 [.agg [.int .i64 p0.op, .int .i64 p0.reg, .int .i64 p0.t, .int .i64 p0.n, .int .i64 p0.f, .slice p0.args.a p0.args.l.length p0.args.cap, .slice p0.to.a p0.to.l.length p0.to.cap].toArray] (fun w => Dat.ok p0 w) (fun v _ => v = Value.tuple #[Value.agg [.int .i64 (((d_fold_Fold p0).1).k), .int .i64 (((d_fold_Fold p0).1).n), .int .u64 (((d_fold_Fold p0).1).b)].toArray, Value.bool (d_fold_Fold p0).2]) := by
  refine Spec.enter Try.func6 rfl (n := 51) Try.ntmps6 (Nat.le_of_ble_eq_true rfl) (l := [(0, _, _)]) rfl ?_
  intro S w
  refine SC.seq (fun K1 hK1 => ?_)
  refine SC.know (fun w h => h.rg0) (fun hf0 => ?_)
  refine SC.know (p := ∀ z ∈ p0.args.l, 0 ≤ z.b ∧ z.b < 18446744073709551616) (fun w h => fun z hz => (h.args.el z hz).rg0) (fun hpr => ?_)
  refine SC.region ?_
  refine SL.box (cs := [_, _, _, _, _, _, _]) rfl rfl rfl rfl rfl (fun b1 => ?_)
  refine SL.alloc (cs := [_, _, _]) Try.zeroValue29 rfl rfl rfl (fun b2 => ?_)
  refine SL.step (PS.assign rfl tt rfl rfl) ?_
  refine SL.keep (l' := [(2, _, _), (1, _, _)]) ⟨rfl, rfl, trivial⟩ ?_
  refine SL.nil (SE.thenK hK1 (SC.seq (fun K2 hK2 => SC.seq (fun K3 hK3 => SC.region ?_))))
  refine SL.step (PS.fieldAddr rfl tt Try.fieldAt_25_0 rfl rfl) ?_
  refine SL.step (PS.load_own (k := 1) rfl tt rfl rfl rfl Try.isAgg3 rfl rfl) ?_
  refine SL.callV (vs := [_]) Try.call10 ⟨⟨_, rfl, tt⟩, trivial⟩ (fun hg => ir_Calm_V p0.op ) rfl rfl ?_
  refine SL.step (PS.not rfl tt rfl rfl) ?_
  refine SL.keep (l' := [(14, _, _), (2, _, _), (1, _, _)]) ⟨rfl, rfl, rfl, trivial⟩ ?_
  refine SL.nil (SE.thenK hK3 ?_)
  refine SC.cond rfl (fun c14 => ?_) (fun c14 => ?_)
  ·
   refine SC.seq (fun K4 hK4 => SC.region ?_)
   refine SL.step (PS.build (us := []) (vs := [_, _, _]) trivial Try.underlying29 Try.zeroValue29 (Try.places_29 Try.underlying29) rfl rfl rfl) ?_
   refine SL.store_own (k := 0) (own' := [_, _]) (cs' := [_, _, _]) rfl rfl rfl rfl rfl rfl rfl Try.sizeOf29 rfl (Nat.le_of_ble_eq_true rfl) rfl rfl rfl rfl ?_
   refine SL.step (PS.assign rfl tt rfl rfl) ?_
   refine SL.keep (l' := [(3, _, _), (2, _, _)]) ⟨rfl, rfl, trivial⟩ ?_
   refine SL.nil (SE.thenK hK4 (SC.ret (SE.then_ret ?_)))
   exact finct (k := 0) rfl Try.isAgg29 Try.sizeOf29 rfl rfl rfl rfl rfl rfl (fun _ _ => congrArg (fun z : Opd × Bool => Value.tuple #[Value.agg [.int .i64 z.1.k, .int .i64 z.1.n, .int .u64 z.1.b].toArray, Value.bool z.2]) (show (d_fold_Fold p0) = (((⟨0, 0, 0⟩ : Opd), false) : Opd × Bool) from (bifT c14)).symm)
  ·
   have c14n := c14
   try simp only [Bool.and_eq_true, Bool.or_eq_true, decide_eq_true_eq, Bool.true_and, Bool.not_eq_true', Bool.not_eq_false', beq_iff_eq, bne_iff_ne, decide_eq_false_iff_not, beq_eq_false_iff_ne, bne_eq_false_iff_eq, ne_eq, Bool.or_eq_false_iff, Bool.and_eq_false_iff] at c14n
   refine SC.skip (SE.thenK hK2 (SC.seq (fun K5 hK5 => SC.region ?_)))
   refine SL.step (PS.assign rfl tt rfl rfl) ?_
   refine SL.row0 (Dat.sz Vl) (Dat.cells (α := Vl)) ?_
   refine SL.keep (l' := [(4, _, _), (2, _, _), (1, _, _)]) ⟨rfl, rfl, rfl, trivial⟩ ?_
   refine SL.nil (SE.thenK hK5 (SC.seq (fun K6 hK6 => SC.seq (fun K7 hK7 => SC.region ?_))))
   refine SL.step (PS.fieldAddr rfl tt Try.fieldAt_25_5 rfl rfl) ?_
   refine SL.step (PS.load_own (k := 2) rfl tt rfl rfl rfl Try.isAgg22 rfl rfl) ?_
   refine SL.step (PS.len_slice rfl tt Try.underlying22 rfl rfl) ?_
   refine SL.know (p := p0.args.l.length ≤ 9223372036854775807) (fun w h => (((h)).args).le) (fun hle2 => ?_)
   refine SL.step (PS.move rfl tt rfl rfl) ?_
   refine SL.keep (l' := [(19, _, _), (18, _, _), (17, _, _), (4, _, _), (2, _, _), (1, _, _)]) ⟨rfl, rfl, rfl, rfl, rfl, rfl, trivial⟩ ?_
   refine SL.nil (SE.thenK hK7 (SC.block ?_))
   refine SC.loopF (fun ((k1, l4, yb2_0, yb2_1, yb2_2, x19, o4, cap4) : Nat × List Vl × Int × Int × Int × Int × Option Nat × Nat) => [(19, true, .int .i64 x19), (18, true, .int .i64 (p0.args.l.length : Int)), (17, true, .slice p0.args.a p0.args.l.length p0.args.cap), (4, true, .slice (rowA o4) l4.length cap4), (2, true, .pointer (some ⟨b2, 0, none⟩)), (1, true, .pointer (some ⟨b1, 0, none⟩))]) (fun ((k1, l4, yb2_0, yb2_1, yb2_2, x19, o4, cap4) : Nat × List Vl × Int × Int × Int × Int × Option Nat × Nat) => [Rw o4 l4 cap4, .blk b2 [.int .i64 yb2_0, .int .i64 yb2_1, .int .u64 yb2_2], .blk b1 [.int .i64 p0.op, .int .i64 p0.reg, .int .i64 p0.t, .int .i64 p0.n, .int .i64 p0.f, .slice p0.args.a p0.args.l.length p0.args.cap, .slice p0.to.a p0.to.l.length p0.to.cap]]) (fun ((k1, l4, yb2_0, yb2_1, yb2_2, x19, o4, cap4) : Nat × List Vl × Int × Int × Int × Int × Option Nat × Nat) w => ((d_fold_Fold_R5 p0 k1 l4 yb2_0 yb2_1 yb2_2 x19 = d_fold_Fold_R5 p0 (((p0.args.l.length : Int) - 0).toNat + 1) ([] : List Vl) 0 0 0 0) ∧ (((p0.args.l.length : Int) - x19).toNat < k1) ∧ (0 ≤ x19) ∧ (x19 ≤ (p0.args.l.length : Int)) ∧ ((l4.length : Int) = x19)) ∧ ((∀ x ∈ l4, Dat.ok x w))) (fun q => q.1) (((p0.args.l.length : Int) - 0).toNat + 1, ([] : List Vl), 0, 0, 0, 0, none, 0) ⟨rfl, rfl, rfl, rfl, rfl, rfl, trivial⟩ rfl (fun w h => ⟨⟨rfl, Nat.lt_succ_self _, by omega, by omega, rfl⟩, (fun x hx => nomatch hx)⟩) (fun q => ?_)
   obtain ⟨k1, l4, yb2_0, yb2_1, yb2_2, x19, o4, cap4⟩ := q
   dsimp only
   refine SC.know (fun w h => h.2.1) (fun hp => ?_)
   obtain ⟨hL1, hm1, hi1_0, hi1_1, hi1_2⟩ := hp
   obtain ⟨k1p, rfl⟩ : ∃ j, k1 = j + 1 := ⟨k1 - 1, by omega⟩
   refine SC.seq (fun K8 hK8 => SC.region ?_)
   refine SL.step (PS.lss rfl tt rfl tt rfl rfl) ?_
   refine SL.nil (SE.thenK hK8 (SC.seq (fun K9 hK9 => ?_)))
   refine SC.cond rfl (fun c20 => ?_) (fun c20 => ?_)
   ·
    have c20n := c20
    try simp only [Bool.and_eq_true, Bool.or_eq_true, decide_eq_true_eq, Bool.true_and, Bool.not_eq_true', Bool.not_eq_false', beq_iff_eq, bne_iff_ne, decide_eq_false_iff_not, beq_eq_false_iff_ne, bne_eq_false_iff_eq, ne_eq, Bool.or_eq_false_iff, Bool.and_eq_false_iff] at c20n
    refine SC.skip (SE.thenK hK9 (SC.seq (fun K10 hK10 => SC.block (SC.seq (fun K11 hK11 => SC.region ?_)))))
    refine SL.step (PS.indexS (α := Opd) (xs := p0.args.l) rfl tt rfl tt Try.underlying22 Try.sizeOf29 (fun w hw hg => (((hw.now.1)).args).sl) rfl (fun hg => by first | omega | (simp only [List.length_cons, List.length_nil]; omega) | (try simp only [Bool.and_eq_true, Bool.or_eq_true, decide_eq_true_eq, Bool.true_and, Bool.not_eq_true', beq_iff_eq, bne_iff_ne, decide_eq_false_iff_not, beq_eq_false_iff_ne, ne_eq] at hg; omega)) rfl rfl) ?_
    refine SL.step (PS.loadS (α := Opd) (xs := p0.args.l) (m := x19) (vs := [.int .i64 ((p0.args.l.getD (Int.toNat x19) Dat.d).k), .int .i64 ((p0.args.l.getD (Int.toNat x19) Dat.d).n), .int .u64 ((p0.args.l.getD (Int.toNat x19) Dat.d).b)]) rfl tt (fun w hw hg => (((hw.now.1)).args).sl) (fun hg => by first | omega | (simp only [List.length_cons, List.length_nil]; omega) | (try simp only [Bool.and_eq_true, Bool.or_eq_true, decide_eq_true_eq, Bool.true_and, Bool.not_eq_true', beq_iff_eq, bne_iff_ne, decide_eq_false_iff_not, beq_eq_false_iff_ne, ne_eq] at hg; omega)) rfl Try.isAgg29 Try.sizeOf29 rfl rfl) ?_
    refine SL.alloc (cs := [_, _, _]) Try.zeroValue29 rfl rfl rfl (fun b6 => ?_)
    refine SL.store_own (k := 0) (own' := [_, _, _, _]) (cs' := [_, _, _]) rfl rfl rfl rfl rfl rfl rfl Try.sizeOf29 rfl (Nat.le_of_ble_eq_true rfl) rfl rfl rfl rfl ?_
    refine SL.keep (l' := [(6, _, _), (19, _, _), (18, _, _), (17, _, _), (4, _, _), (2, _, _), (1, _, _)]) ⟨rfl, rfl, rfl, rfl, rfl, rfl, rfl, trivial⟩ ?_
    refine SL.nil (SE.thenK hK11 (SC.seq (fun K12 hK12 => SC.region ?_)))
    refine SL.step (PS.load_own_agg (k := 0) (vs := [_, _, _]) rfl tt rfl rfl rfl rfl Try.isAgg29 Try.sizeOf29 rfl rfl) ?_
    refine SL.callV (vs := [_]) Try.call11 ⟨⟨_, rfl, tt⟩, trivial⟩ (fun hg => fold_literal_V (p0.args.l.getD (Int.toNat x19) Dat.d) ) rfl rfl ?_
    refine SL.step (PS.move rfl tt rfl rfl) ?_
    refine SL.step (PS.extract rfl tt rfl rfl rfl) ?_
    refine SL.step (PS.extract rfl tt rfl rfl rfl) ?_
    refine SL.alloc (cs := [_, _, _, _]) Try.zeroValue35 rfl rfl rfl (fun b7 => ?_)
    refine SL.store_own (k := 0) (own' := [_, _, _, _, _]) (cs' := [_, _, _, _]) rfl rfl rfl rfl rfl rfl rfl Try.sizeOf35 rfl (Nat.le_of_ble_eq_true rfl) rfl rfl rfl rfl ?_
    refine SL.step (PS.assign rfl tt rfl rfl) ?_
    refine SL.keep (l' := [(8, _, _), (7, _, _), (19, _, _), (18, _, _), (17, _, _), (4, _, _), (2, _, _), (1, _, _)]) ⟨rfl, rfl, rfl, rfl, rfl, rfl, rfl, rfl, trivial⟩ ?_
    refine SL.nil (SE.thenK hK12 (SC.seq (fun K13 hK13 => SC.seq (fun K14 hK14 => SC.region ?_))))
    refine SL.step (PS.move rfl tt rfl rfl) ?_
    refine SL.step (PS.not rfl tt rfl rfl) ?_
    refine SL.keep (l' := [(29, _, _), (7, _, _), (19, _, _), (18, _, _), (17, _, _), (4, _, _), (2, _, _), (1, _, _)]) ⟨rfl, rfl, rfl, rfl, rfl, rfl, rfl, rfl, trivial⟩ ?_
    refine SL.nil (SE.thenK hK14 ?_)
    refine SC.cond rfl (fun c29 => ?_) (fun c29 => ?_)
    ·
     refine SC.seq (fun K15 hK15 => SC.region ?_)
     refine SL.step (PS.build (us := []) (vs := [_, _, _]) trivial Try.underlying29 Try.zeroValue29 (Try.places_29 Try.underlying29) rfl rfl rfl) ?_
     refine SL.store_own (k := 3) (own' := [_, _, _, _, _]) (cs' := [_, _, _]) rfl rfl rfl rfl rfl rfl rfl Try.sizeOf29 rfl (Nat.le_of_ble_eq_true rfl) rfl rfl rfl rfl ?_
     refine SL.step (PS.assign rfl tt rfl rfl) ?_
     refine SL.keep (l' := [(3, _, _), (2, _, _)]) ⟨rfl, rfl, trivial⟩ ?_
     refine SL.nil (SE.thenK hK15 (SC.ret (SE.then_ret (SE.block_ret (SE.then_ret (SE.then_ret (SE.block_ret ?_)))))))
     refine SE.then_ret ?_
     exact finct (k := 3) rfl Try.isAgg29 Try.sizeOf29 rfl rfl rfl rfl rfl rfl (fun _ _ => congrArg (fun z : Opd × Bool => Value.tuple #[Value.agg [.int .i64 z.1.k, .int .i64 z.1.n, .int .u64 z.1.b].toArray, Value.bool z.2]) (show (d_fold_Fold p0) = (((⟨0, 0, 0⟩ : Opd), false) : Opd × Bool) from ((bifF c14).trans (thenL_inl ((hL1.symm.trans (show d_fold_Fold_R5 p0 (k1p + 1) l4 yb2_0 yb2_1 yb2_2 x19 = Sum.inl ((⟨0, 0, 0⟩ : Opd), false) from ((bifT c20).trans (bifT c29)))))))).symm)
    ·
     have c29n := c29
     try simp only [Bool.and_eq_true, Bool.or_eq_true, decide_eq_true_eq, Bool.true_and, Bool.not_eq_true', Bool.not_eq_false', beq_iff_eq, bne_iff_ne, decide_eq_false_iff_not, beq_eq_false_iff_ne, bne_eq_false_iff_eq, ne_eq, Bool.or_eq_false_iff, Bool.and_eq_false_iff] at c29n
     refine SC.skip (SE.thenK hK13 (SC.region ?_))
     refine SL.step (PS.move rfl tt rfl rfl) ?_
     refine SL.step (PS.load_own_agg (k := 0) (vs := [_, _, _, _]) rfl tt rfl rfl rfl rfl Try.isAgg35 Try.sizeOf35 rfl rfl) ?_
     refine SL.buildSlice (us := [(0, _)]) (cs := [_, _, _, _]) ⟨rfl, ⟨_, rfl, tt⟩, trivial⟩ Try.underlying33 Try.sizeOf35 Try.zeroValue35 ⟨rfl, rfl, _, rfl, trivial⟩ rfl (by decide) rfl rfl (fun b33 => ?_)
     refine SL.append1 (k := 2) (xs := l4) (y := ((d_fold_literal (p0.args.l.getD (Int.toNat x19) Dat.d)).1)) (cells := Dat.cells) rfl rfl rfl rfl Dat.len Dat.one Try.underlying33 Try.rowinfo_35 (by omega) (by omega) rfl rfl (fun o34 c34 => ?_)
     refine SL.own_eq (own' := [_, _, _, _, _]) rfl ?_
     refine SL.step (PS.assign rfl tt rfl rfl) ?_
     refine SL.keep (l' := [(4, _, _), (19, _, _), (18, _, _), (17, _, _), (2, _, _), (1, _, _)]) ⟨rfl, rfl, rfl, rfl, rfl, rfl, trivial⟩ ?_
     refine SL.nil (SE.block_normal (SE.thenK hK10 (SC.region ?_)))
     refine SL.step (PS.add_in rfl tt rfl tt (fun _ => wr_i64 (by omega)) rfl rfl) ?_
     refine SL.step (PS.move rfl tt rfl rfl) ?_
     refine SL.keep (l' := [(19, _, _), (4, _, _), (18, _, _), (17, _, _), (2, _, _), (1, _, _)]) ⟨rfl, rfl, rfl, rfl, rfl, rfl, trivial⟩ ?_
     refine SL.nil ?_
     refine SE.drop (own' := [_, _, _]) (List.Sublist.cons _ (List.Sublist.cons _ (List.Sublist.cons_cons _ (List.Sublist.cons_cons _ (List.Sublist.cons_cons _ List.Sublist.slnil))))) ?_
     exact SE.againF (k1p, (l4 ++ [((d_fold_literal (p0.args.l.getD (Int.toNat x19) Dat.d)).1)]), yb2_0, yb2_1, yb2_2, (x19 + 1), o34, c34) ⟨rfl, rfl, rfl, rfl, rfl, rfl, trivial⟩ rfl (fun w h => And.intro (h.1) (And.intro ⟨((show d_fold_Fold_R5 p0 (k1p + 1) l4 yb2_0 yb2_1 yb2_2 x19 = d_fold_Fold_R5 p0 k1p (l4 ++ [((d_fold_literal (p0.args.l.getD (Int.toNat x19) Dat.d)).1)]) yb2_0 yb2_1 yb2_2 (x19 + 1) from ((bifT c20).trans (bifF c29))).symm.trans hL1), by (try dsimp only); omega, by (try dsimp only); omega, by (try dsimp only); omega, by simp; omega⟩ ((all_snoc ((h.2.2)) (⟨(lit_rg (hpr _ (getD_mem (by omega))))⟩))))) (Nat.lt_succ_self _)
   ·
    have c20n := c20
    try simp only [Bool.and_eq_true, Bool.or_eq_true, decide_eq_true_eq, Bool.true_and, Bool.not_eq_true', Bool.not_eq_false', beq_iff_eq, bne_iff_ne, decide_eq_false_iff_not, beq_eq_false_iff_ne, bne_eq_false_iff_eq, ne_eq, Bool.or_eq_false_iff, Bool.and_eq_false_iff] at c20n
    refine SC.exit (SE.then_exit (SE.then_exit (SE.block_same (SE.thenK hK6 (SC.seq (fun K16 hK16 => SC.region ?_))))))
    refine SL.step (PS.load_own_agg (k := 2) (vs := [_, _, _, _, _, _, _]) rfl tt rfl rfl rfl rfl Try.isAgg25 Try.sizeOf25 rfl rfl) ?_
    refine SL.step (PS.move rfl tt rfl rfl) ?_
    refine SL.callR (vs := [_, _]) Try.call9 ⟨⟨_, rfl, tt⟩, ⟨_, rfl, tt⟩, trivial⟩ (fun hg => evalI_S p0 (⟨rowA o4, cap4, l4⟩ : SlD Vl) (by assumption)) (fun w h hok hg => (⟨Rw.sl (hok _ (mem_nth (k := 0) rfl)), (h.2.2), (show l4.length ≤ 9223372036854775807 by omega)⟩ : SlD.rd _ _)) rfl rfl ?_
    refine SL.step (PS.move rfl tt rfl rfl) ?_
    refine SL.step (PS.extract rfl tt rfl rfl rfl) ?_
    refine SL.step (PS.extract rfl tt rfl rfl rfl) ?_
    refine SL.alloc (cs := [_, _, _, _]) Try.zeroValue35 rfl rfl rfl (fun b9 => ?_)
    refine SL.store_own (k := 0) (own' := [_, _, _, _]) (cs' := [_, _, _, _]) rfl rfl rfl rfl rfl rfl rfl Try.sizeOf35 rfl (Nat.le_of_ble_eq_true rfl) rfl rfl rfl rfl ?_
    refine SL.step (PS.assign rfl tt rfl rfl) ?_
    refine SL.keep (l' := [(10, _, _), (9, _, _), (2, _, _), (1, _, _)]) ⟨rfl, rfl, rfl, rfl, trivial⟩ ?_
    refine SL.nil (SE.thenK hK16 (SC.seq (fun K17 hK17 => SC.seq (fun K18 hK18 => SC.region ?_))))
    refine SL.step (PS.move rfl tt rfl rfl) ?_
    refine SL.step (PS.neq rfl tt rfl tt rfl rfl) ?_
    refine SL.keep (l' := [(43, _, _), (9, _, _), (2, _, _), (1, _, _)]) ⟨rfl, rfl, rfl, rfl, trivial⟩ ?_
    refine SL.nil (SE.thenK hK18 ?_)
    refine SC.cond rfl (fun c43 => ?_) (fun c43 => ?_)
    ·
     refine SC.seq (fun K19 hK19 => SC.region ?_)
     refine SL.step (PS.build (us := []) (vs := [_, _, _]) trivial Try.underlying29 Try.zeroValue29 (Try.places_29 Try.underlying29) rfl rfl rfl) ?_
     refine SL.store_own (k := 2) (own' := [_, _, _, _]) (cs' := [_, _, _]) rfl rfl rfl rfl rfl rfl rfl Try.sizeOf29 rfl (Nat.le_of_ble_eq_true rfl) rfl rfl rfl rfl ?_
     refine SL.step (PS.assign rfl tt rfl rfl) ?_
     refine SL.keep (l' := [(3, _, _), (2, _, _)]) ⟨rfl, rfl, trivial⟩ ?_
     refine SL.nil (SE.thenK hK19 (SC.ret (SE.then_ret ?_)))
     exact finct (k := 2) rfl Try.isAgg29 Try.sizeOf29 rfl rfl rfl rfl rfl rfl (fun _ _ => congrArg (fun z : Opd × Bool => Value.tuple #[Value.agg [.int .i64 z.1.k, .int .i64 z.1.n, .int .u64 z.1.b].toArray, Value.bool z.2]) (show (d_fold_Fold p0) = (((⟨0, 0, 0⟩ : Opd), false) : Opd × Bool) from ((bifF c14).trans ((thenL_inr (hL1.symm.trans (show d_fold_Fold_R5 p0 (k1p + 1) l4 yb2_0 yb2_1 yb2_2 x19 = Sum.inr (l4, yb2_0, yb2_1, yb2_2, x19) from (bifF c20)))).trans (bifT c43)))).symm)
    ·
     refine SC.skip (SE.thenK hK17 (SC.seq (fun K20 hK20 => ?_)))
     refine SC.draw (S := SP _ _ _) 6 (by kernel_rfl) (by kernel_rfl) (fun _ h => h) ?_
     refine SD.take 0 rfl rfl (by kernel_rfl) (PS.load_own_agg (k := 3) (vs := [_, _, _, _, _, _, _]) rfl tt rfl rfl rfl rfl Try.isAgg25 Try.sizeOf25 rfl rfl) ?_
     refine SD.take 2 rfl rfl (by kernel_rfl) (PS.load_own_agg (k := 0) (vs := [_, _, _, _]) rfl tt rfl rfl rfl rfl Try.isAgg35 Try.sizeOf35 rfl rfl) ?_
     refine SD.one 1 rfl (by kernel_rfl) (fun inv1 => ?_)
     refine SL.callV (vs := [_]) Try.call13 ⟨⟨_, rfl, tt⟩, trivial⟩ (fun hg => ir_Result_V p0 ) rfl rfl ?_
     refine SL.nil ?_
     refine SE.next (fun _ h => h.drop (List.Sublist.refl _) (fun _ h => h)) inv1 ?_
     refine SD.one 3 rfl (by kernel_rfl) (fun inv3 => ?_)
     refine SL.callV (vs := [_, _]) Try.call12 ⟨⟨_, rfl, tt⟩, ⟨_, rfl, tt⟩, trivial⟩ (fun hg => fold_operand_V (d_ir_Result p0) ((evalI p0 (⟨rowA o4, cap4, l4⟩ : SlD Vl)).1) ) rfl rfl ?_
     refine SL.nil ?_
     refine SE.next (fun _ h => h.drop (List.Sublist.refl _) (fun _ h => h)) inv3 ?_
     refine SD.take 4 rfl rfl (by kernel_rfl) (PS.extract rfl tt rfl rfl rfl) ?_
     refine SD.take 5 rfl rfl (by kernel_rfl) (PS.extract rfl tt rfl rfl rfl) ?_
     clear inv1 inv3
     refine SD.tail (by kernel_rfl) (os := [_, _]) rfl ?_
     refine SL.store_own (k := 2) (own' := [_, _, _, _]) (cs' := [_, _, _]) rfl rfl rfl rfl rfl rfl rfl Try.sizeOf29 rfl (Nat.le_of_ble_eq_true rfl) rfl rfl rfl rfl ?_
     refine SL.step (PS.assign rfl tt rfl rfl) ?_
     refine SL.keep (l' := [(3, _, _), (2, _, _)]) ⟨rfl, rfl, trivial⟩ ?_
     refine SL.nil (SE.calm (SE.thenK hK20 (SC.ret ?_)))
     exact finct (k := 2) rfl Try.isAgg29 Try.sizeOf29 rfl rfl rfl rfl rfl rfl (fun _ _ => congrArg (fun z : Opd × Bool => Value.tuple #[Value.agg [.int .i64 z.1.k, .int .i64 z.1.n, .int .u64 z.1.b].toArray, Value.bool z.2]) (show (d_fold_Fold p0) = ((((d_fold_operand (d_ir_Result p0) ((evalI p0 (⟨rowA o4, cap4, l4⟩ : SlD Vl)).1)).1), (d_fold_operand (d_ir_Result p0) ((evalI p0 (⟨rowA o4, cap4, l4⟩ : SlD Vl)).1)).2) : Opd × Bool) from ((bifF c14).trans ((thenL_inr (hL1.symm.trans (show d_fold_Fold_R5 p0 (k1p + 1) l4 yb2_0 yb2_1 yb2_2 x19 = Sum.inr (l4, yb2_0, yb2_1, yb2_2, x19) from (bifF c20)))).trans (bifF c43)))).symm)
def d_latheref15_Fold_R7 (p0 : Ins) : Nat → (List Vl) → Int → Int → Int → Int → Sum (Opd × Bool) (List Vl × Int × Int × Int × Int)
  | 0, l6, yb2_0, yb2_1, yb2_2, x7 => Sum.inr (l6, yb2_0, yb2_1, yb2_2, x7)
  | k + 1, l6, yb2_0, yb2_1, yb2_2, x7 =>
   bif (decide (x7 < (p0.args.l.length : Int))) then
    bif ((p0.args.l.getD (Int.toNat x7) Dat.d).k == 2) then
     d_latheref15_Fold_R7 p0 k (l6 ++ [(⟨1, (p0.args.l.getD (Int.toNat x7) Dat.d).b, 0, 0⟩ : Vl)]) yb2_0 yb2_1 yb2_2 (x7 + 1)
    else bif ((p0.args.l.getD (Int.toNat x7) Dat.d).k == 3) then
      d_latheref15_Fold_R7 p0 k (l6 ++ [(⟨0, 0, 0, 0⟩ : Vl)]) yb2_0 yb2_1 yb2_2 (x7 + 1)
     else bif ((p0.args.l.getD (Int.toNat x7) Dat.d).k == 4) then
       d_latheref15_Fold_R7 p0 k (l6 ++ [(⟨2, 0, (-1), 0⟩ : Vl)]) yb2_0 yb2_1 yb2_2 (x7 + 1)
      else bif ((p0.args.l.getD (Int.toNat x7) Dat.d).k == 5) then
        d_latheref15_Fold_R7 p0 k (l6 ++ [(⟨2, 0, (p0.args.l.getD (Int.toNat x7) Dat.d).n, 0⟩ : Vl)]) yb2_0 yb2_1 yb2_2 (x7 + 1)
       else Sum.inl ((⟨0, 0, 0⟩ : Opd), false)
   else Sum.inr (l6, yb2_0, yb2_1, yb2_2, x7)
def d_latheref15_Fold (p0 : Ins) : Opd × Bool :=
  bif (!(d_latheref02_Calm p0.op)) then
   ((⟨0, 0, 0⟩ : Opd), false)
  else thenL (d_latheref15_Fold_R7 p0 (((p0.args.l.length : Int) - 0).toNat + 1) ([] : List Vl) 0 0 0 0) (fun (l6e, yb2_0e, yb2_1e, yb2_2e, x7e) => bif ((evalI p0 (⟨none, 0, l6e⟩ : SlD Vl)).2 != 0) then
     ((⟨0, 0, 0⟩ : Opd), false)
    else bif (((evalI p0 (⟨none, 0, l6e⟩ : SlD Vl)).1).k == 3) then
      bif ((d_latheref02_Result p0) == 65) then
       ((⟨4, 0, 0⟩ : Opd), true)
      else ((⟨2, 0, 0⟩ : Opd), true)
     else bif (((evalI p0 (⟨none, 0, l6e⟩ : SlD Vl)).1).k == 1) then
       ((⟨2, 0, ((evalI p0 (⟨none, 0, l6e⟩ : SlD Vl)).1).b⟩ : Opd), true)
      else bif (((evalI p0 (⟨none, 0, l6e⟩ : SlD Vl)).1).k == 0) then
        ((⟨3, 0, 0⟩ : Opd), true)
       else bif ((((evalI p0 (⟨none, 0, l6e⟩ : SlD Vl)).1).off == 0) && (((evalI p0 (⟨none, 0, l6e⟩ : SlD Vl)).1).bl == (-1))) then
         ((⟨4, 0, 0⟩ : Opd), true)
        else bif ((((evalI p0 (⟨none, 0, l6e⟩ : SlD Vl)).1).off == 0) && (decide (0 ≤ ((evalI p0 (⟨none, 0, l6e⟩ : SlD Vl)).1).bl))) then
          ((⟨5, ((evalI p0 (⟨none, 0, l6e⟩ : SlD Vl)).1).bl, 0⟩ : Opd), true)
         else ((⟨0, 0, 0⟩ : Opd), false))
theorem latheref15_Fold_S (p0 : Ins) (hn : p0.args.l.length ≤ 1000000) : Spec Try.prog 7 [.agg [.int .i64 p0.op, .int .i64 p0.reg, .int .i64 p0.t, .int .i64 p0.n, .int .i64 p0.f, .slice p0.args.a p0.args.l.length p0.args.cap, .slice p0.to.a p0.to.l.length p0.to.cap].toArray] (fun w => Dat.ok p0 w) (fun v _ => v = Value.tuple #[Value.agg [.int .i64 (((d_latheref15_Fold p0).1).k), .int .i64 (((d_latheref15_Fold p0).1).n), .int .u64 (((d_latheref15_Fold p0).1).b)].toArray, Value.bool (d_latheref15_Fold p0).2]) := by
  refine Spec.enter Try.func7 rfl (n := 108) Try.ntmps7 (Nat.le_of_ble_eq_true rfl) (l := [(0, _, _)]) rfl ?_
  intro S w
  refine SC.seq (fun K1 hK1 => ?_)
  refine SC.know (fun w h => h.rg0) (fun hf0 => ?_)
  refine SC.know (p := ∀ z ∈ p0.args.l, 0 ≤ z.b ∧ z.b < 18446744073709551616) (fun w h => fun z hz => (h.args.el z hz).rg0) (fun hpr => ?_)
  refine SC.region ?_
  refine SL.box (cs := [_, _, _, _, _, _, _]) rfl rfl rfl rfl rfl (fun b1 => ?_)
  refine SL.alloc (cs := [_, _, _]) Try.zeroValue29 rfl rfl rfl (fun b2 => ?_)
  refine SL.step (PS.assign rfl tt rfl rfl) ?_
  refine SL.keep (l' := [(2, _, _), (1, _, _)]) ⟨rfl, rfl, trivial⟩ ?_
  refine SL.nil (SE.thenK hK1 (SC.seq (fun K2 hK2 => SC.region ?_)))
  refine SL.alloc (cs := [_, _, _]) Try.zeroValue29 rfl rfl rfl (fun b4 => ?_)
  refine SL.nil (SE.thenK hK2 (SC.seq (fun K3 hK3 => SC.region ?_)))
  refine SL.step (PS.fieldAddr rfl tt Try.fieldAt_25_0 rfl rfl) ?_
  refine SL.step (PS.load_own (k := 2) rfl tt rfl rfl rfl Try.isAgg3 rfl rfl) ?_
  refine SL.callV (vs := [_]) Try.call14 ⟨⟨_, rfl, tt⟩, trivial⟩ (fun hg => latheref02_Calm_V p0.op ) rfl rfl ?_
  refine SL.step (PS.assign rfl tt rfl rfl) ?_
  refine SL.keep (l' := [(5, _, _), (4, _, _), (2, _, _), (1, _, _)]) ⟨rfl, rfl, rfl, rfl, trivial⟩ ?_
  refine SL.nil (SE.thenK hK3 (SC.seq (fun K4 hK4 => SC.seq (fun K5 hK5 => SC.region ?_))))
  refine SL.step (PS.move rfl tt rfl rfl) ?_
  refine SL.step (PS.not rfl tt rfl rfl) ?_
  refine SL.keep (l' := [(15, _, _), (4, _, _), (2, _, _), (1, _, _)]) ⟨rfl, rfl, rfl, rfl, trivial⟩ ?_
  refine SL.nil (SE.thenK hK5 ?_)
  refine SC.cond rfl (fun c15 => ?_) (fun c15 => ?_)
  ·
   refine SC.seq (fun K6 hK6 => SC.region ?_)
   refine SL.step (PS.load_own_agg (k := 0) (vs := [_, _, _]) rfl tt rfl rfl rfl rfl Try.isAgg29 Try.sizeOf29 rfl rfl) ?_
   refine SL.store_own (k := 1) (own' := [_, _, _]) (cs' := [_, _, _]) rfl rfl rfl rfl rfl rfl rfl Try.sizeOf29 rfl (Nat.le_of_ble_eq_true rfl) rfl rfl rfl rfl ?_
   refine SL.step (PS.assign rfl tt rfl rfl) ?_
   refine SL.keep (l' := [(3, _, _), (2, _, _)]) ⟨rfl, rfl, trivial⟩ ?_
   refine SL.nil (SE.thenK hK6 (SC.ret (SE.then_ret ?_)))
   exact finct (k := 1) rfl Try.isAgg29 Try.sizeOf29 rfl rfl rfl rfl rfl rfl (fun _ _ => congrArg (fun z : Opd × Bool => Value.tuple #[Value.agg [.int .i64 z.1.k, .int .i64 z.1.n, .int .u64 z.1.b].toArray, Value.bool z.2]) (show (d_latheref15_Fold p0) = (((⟨0, 0, 0⟩ : Opd), false) : Opd × Bool) from (bifT c15)).symm)
  ·
   have c15n := c15
   try simp only [Bool.and_eq_true, Bool.or_eq_true, decide_eq_true_eq, Bool.true_and, Bool.not_eq_true', Bool.not_eq_false', beq_iff_eq, bne_iff_ne, decide_eq_false_iff_not, beq_eq_false_iff_ne, bne_eq_false_iff_eq, ne_eq, Bool.or_eq_false_iff, Bool.and_eq_false_iff] at c15n
   refine SC.skip (SE.thenK hK4 (SC.seq (fun K7 hK7 => SC.region ?_)))
   refine SL.step (PS.assign rfl tt rfl rfl) ?_
   refine SL.row0 (Dat.sz Vl) (Dat.cells (α := Vl)) ?_
   refine SL.keep (l' := [(6, _, _), (4, _, _), (2, _, _), (1, _, _)]) ⟨rfl, rfl, rfl, rfl, trivial⟩ ?_
   refine SL.nil (SE.thenK hK7 (SC.seq (fun K8 hK8 => SC.seq (fun K9 hK9 => SC.region ?_))))
   refine SL.step (PS.assign rfl tt rfl rfl) ?_
   refine SL.nil (SE.thenK hK9 (SC.block ?_))
   refine SC.loopF (fun ((k1, l6, yb2_0, yb2_1, yb2_2, x7, o6, cap6) : Nat × List Vl × Int × Int × Int × Int × Option Nat × Nat) => [(7, true, .int .i64 x7), (6, true, .slice (rowA o6) l6.length cap6), (4, true, .pointer (some ⟨b4, 0, none⟩)), (2, true, .pointer (some ⟨b2, 0, none⟩)), (1, true, .pointer (some ⟨b1, 0, none⟩))]) (fun ((k1, l6, yb2_0, yb2_1, yb2_2, x7, o6, cap6) : Nat × List Vl × Int × Int × Int × Int × Option Nat × Nat) => [Rw o6 l6 cap6, .blk b4 [.int .i64 0, .int .i64 0, .int .u64 0], .blk b2 [.int .i64 yb2_0, .int .i64 yb2_1, .int .u64 yb2_2], .blk b1 [.int .i64 p0.op, .int .i64 p0.reg, .int .i64 p0.t, .int .i64 p0.n, .int .i64 p0.f, .slice p0.args.a p0.args.l.length p0.args.cap, .slice p0.to.a p0.to.l.length p0.to.cap]]) (fun ((k1, l6, yb2_0, yb2_1, yb2_2, x7, o6, cap6) : Nat × List Vl × Int × Int × Int × Int × Option Nat × Nat) w => ((d_latheref15_Fold_R7 p0 k1 l6 yb2_0 yb2_1 yb2_2 x7 = d_latheref15_Fold_R7 p0 (((p0.args.l.length : Int) - 0).toNat + 1) ([] : List Vl) 0 0 0 0) ∧ (((p0.args.l.length : Int) - x7).toNat < k1) ∧ (0 ≤ x7) ∧ (x7 ≤ (p0.args.l.length : Int)) ∧ ((l6.length : Int) = x7)) ∧ ((∀ x ∈ l6, Dat.ok x w))) (fun q => q.1) (((p0.args.l.length : Int) - 0).toNat + 1, ([] : List Vl), 0, 0, 0, 0, none, 0) ⟨rfl, rfl, rfl, rfl, rfl, trivial⟩ rfl (fun w h => ⟨⟨rfl, Nat.lt_succ_self _, by omega, by omega, rfl⟩, (fun x hx => nomatch hx)⟩) (fun q => ?_)
   obtain ⟨k1, l6, yb2_0, yb2_1, yb2_2, x7, o6, cap6⟩ := q
   dsimp only
   refine SC.know (fun w h => h.2.1) (fun hp => ?_)
   obtain ⟨hL1, hm1, hi1_0, hi1_1, hi1_2⟩ := hp
   obtain ⟨k1p, rfl⟩ : ∃ j, k1 = j + 1 := ⟨k1 - 1, by omega⟩
   refine SC.seq (fun K10 hK10 => SC.seq (fun K11 hK11 => SC.region ?_))
   refine SL.step (PS.move rfl tt rfl rfl) ?_
   refine SL.step (PS.fieldAddr rfl tt Try.fieldAt_25_5 rfl rfl) ?_
   refine SL.step (PS.load_own (k := 3) rfl tt rfl rfl rfl Try.isAgg22 rfl rfl) ?_
   refine SL.step (PS.len_slice rfl tt Try.underlying22 rfl rfl) ?_
   refine SL.know (p := p0.args.l.length ≤ 9223372036854775807) (fun w h => (((h.1)).args).le) (fun hle4 => ?_)
   refine SL.step (PS.lss rfl tt rfl tt rfl rfl) ?_
   refine SL.keep (l' := [(21, _, _), (7, _, _), (6, _, _), (4, _, _), (2, _, _), (1, _, _)]) ⟨rfl, rfl, rfl, rfl, rfl, rfl, trivial⟩ ?_
   refine SL.nil (SE.thenK hK11 ?_)
   refine SC.cond rfl (fun c21 => ?_) (fun c21 => ?_)
   ·
    have c21n := c21
    try simp only [Bool.and_eq_true, Bool.or_eq_true, decide_eq_true_eq, Bool.true_and, Bool.not_eq_true', Bool.not_eq_false', beq_iff_eq, bne_iff_ne, decide_eq_false_iff_not, beq_eq_false_iff_ne, bne_eq_false_iff_eq, ne_eq, Bool.or_eq_false_iff, Bool.and_eq_false_iff] at c21n
    refine SC.skip (SE.thenK hK10 (SC.seq (fun K12 hK12 => SC.block (SC.seq (fun K13 hK13 => SC.region ?_)))))
    refine SL.step (PS.fieldAddr rfl tt Try.fieldAt_25_5 rfl rfl) ?_
    refine SL.step (PS.load_own (k := 3) rfl tt rfl rfl rfl Try.isAgg22 rfl rfl) ?_
    refine SL.step (PS.move rfl tt rfl rfl) ?_
    refine SL.step (PS.indexS (α := Opd) (xs := p0.args.l) rfl tt rfl tt Try.underlying22 Try.sizeOf29 (fun w hw hg => (((hw.now.1)).args).sl) rfl (fun hg => by first | omega | (simp only [List.length_cons, List.length_nil]; omega) | (try simp only [Bool.and_eq_true, Bool.or_eq_true, decide_eq_true_eq, Bool.true_and, Bool.not_eq_true', beq_iff_eq, bne_iff_ne, decide_eq_false_iff_not, beq_eq_false_iff_ne, ne_eq] at hg; omega)) rfl rfl) ?_
    refine SL.step (PS.loadS (α := Opd) (xs := p0.args.l) (m := x7) (vs := [.int .i64 ((p0.args.l.getD (Int.toNat x7) Dat.d).k), .int .i64 ((p0.args.l.getD (Int.toNat x7) Dat.d).n), .int .u64 ((p0.args.l.getD (Int.toNat x7) Dat.d).b)]) rfl tt (fun w hw hg => (((hw.now.1)).args).sl) (fun hg => by first | omega | (simp only [List.length_cons, List.length_nil]; omega) | (try simp only [Bool.and_eq_true, Bool.or_eq_true, decide_eq_true_eq, Bool.true_and, Bool.not_eq_true', beq_iff_eq, bne_iff_ne, decide_eq_false_iff_not, beq_eq_false_iff_ne, ne_eq] at hg; omega)) rfl Try.isAgg29 Try.sizeOf29 rfl rfl) ?_
    refine SL.alloc (cs := [_, _, _]) Try.zeroValue29 rfl rfl rfl (fun b8 => ?_)
    refine SL.store_own (k := 0) (own' := [_, _, _, _, _]) (cs' := [_, _, _]) rfl rfl rfl rfl rfl rfl rfl Try.sizeOf29 rfl (Nat.le_of_ble_eq_true rfl) rfl rfl rfl rfl ?_
    refine SL.keep (l' := [(8, _, _), (7, _, _), (6, _, _), (4, _, _), (2, _, _), (1, _, _)]) ⟨rfl, rfl, rfl, rfl, rfl, rfl, trivial⟩ ?_
    refine SL.nil (SE.thenK hK13 (SC.seq (fun K14 hK14 => SC.region ?_)))
    refine SL.step (PS.fieldAddr rfl tt Try.fieldAt_29_0 rfl rfl) ?_
    refine SL.step (PS.load_own (k := 0) rfl tt rfl rfl rfl Try.isAgg3 rfl rfl) ?_
    refine SL.keep (l' := [(30, _, _), (8, _, _), (7, _, _), (6, _, _), (4, _, _), (2, _, _), (1, _, _)]) ⟨rfl, rfl, rfl, rfl, rfl, rfl, rfl, trivial⟩ ?_
    refine SL.nil (SE.thenK hK14 (SC.block (SC.seq (fun K15 hK15 => SC.region ?_))))
    refine SL.step (PS.eql rfl tt rfl tt rfl rfl) ?_
    refine SL.step (PS.assign rfl tt rfl rfl) ?_
    refine SL.keep (l' := [(32, _, _), (30, _, _), (8, _, _), (7, _, _), (6, _, _), (4, _, _), (2, _, _), (1, _, _)]) ⟨rfl, rfl, rfl, rfl, rfl, rfl, rfl, rfl, trivial⟩ ?_
    refine SL.nil (SE.thenK hK15 ?_)
    refine SC.cond rfl (fun c32 => ?_) (fun c32 => ?_)
    ·
     have c32n := c32
     try simp only [Bool.and_eq_true, Bool.or_eq_true, decide_eq_true_eq, Bool.true_and, Bool.not_eq_true', Bool.not_eq_false', beq_iff_eq, bne_iff_ne, decide_eq_false_iff_not, beq_eq_false_iff_ne, bne_eq_false_iff_eq, ne_eq, Bool.or_eq_false_iff, Bool.and_eq_false_iff] at c32n
     refine SC.region ?_
     refine SL.step (PS.move rfl tt rfl rfl) ?_
     refine SL.step (PS.fieldAddr rfl tt Try.fieldAt_29_2 rfl rfl) ?_
     refine SL.step (PS.load_own (k := 0) rfl tt rfl rfl rfl Try.isAgg27 rfl rfl) ?_
     refine SL.step (PS.build (us := [(0, _), (1, _)]) (vs := [_, _, _, _]) ⟨rfl, ⟨_, rfl, tt⟩, ⟨rfl, ⟨_, rfl, tt⟩, trivial⟩⟩ Try.underlying35 Try.zeroValue35 (Try.places_35 Try.underlying35) rfl rfl rfl) ?_
     refine SL.buildSlice (us := [(0, _)]) (cs := [_, _, _, _]) ⟨rfl, ⟨_, rfl, tt⟩, trivial⟩ Try.underlying33 Try.sizeOf35 Try.zeroValue35 ⟨rfl, rfl, _, rfl, trivial⟩ rfl (by decide) rfl rfl (fun b38 => ?_)
     refine SL.append1 (k := 1) (xs := l6) (y := (⟨1, (p0.args.l.getD (Int.toNat x7) Dat.d).b, 0, 0⟩ : Vl)) (cells := Dat.cells) rfl rfl rfl rfl Dat.len Dat.one Try.underlying33 Try.rowinfo_35 (by omega) (by omega) rfl rfl (fun o39 c39 => ?_)
     refine SL.own_eq (own' := [_, _, _, _, _]) rfl ?_
     refine SL.step (PS.assign rfl tt rfl rfl) ?_
     refine SL.keep (l' := [(6, _, _), (7, _, _), (4, _, _), (2, _, _), (1, _, _)]) ⟨rfl, rfl, rfl, rfl, rfl, trivial⟩ ?_
     refine SL.nil (SE.block_normal (SE.block_normal (SE.thenK hK12 (SC.region ?_))))
     refine SL.step (PS.move rfl tt rfl rfl) ?_
     refine SL.step (PS.add_in rfl tt rfl tt (fun _ => wr_i64 (by omega)) rfl rfl) ?_
     refine SL.step (PS.assign rfl tt rfl rfl) ?_
     refine SL.keep (l' := [(7, _, _), (6, _, _), (4, _, _), (2, _, _), (1, _, _)]) ⟨rfl, rfl, rfl, rfl, rfl, trivial⟩ ?_
     refine SL.nil ?_
     refine SE.drop (own' := [_, _, _, _]) (List.Sublist.cons _ (List.Sublist.cons_cons _ (List.Sublist.cons_cons _ (List.Sublist.cons_cons _ (List.Sublist.cons_cons _ List.Sublist.slnil))))) ?_
     exact SE.againF (k1p, (l6 ++ [(⟨1, (p0.args.l.getD (Int.toNat x7) Dat.d).b, 0, 0⟩ : Vl)]), yb2_0, yb2_1, yb2_2, (x7 + 1), o39, c39) ⟨rfl, rfl, rfl, rfl, rfl, trivial⟩ rfl (fun w h => And.intro (h.1) (And.intro ⟨((show d_latheref15_Fold_R7 p0 (k1p + 1) l6 yb2_0 yb2_1 yb2_2 x7 = d_latheref15_Fold_R7 p0 k1p (l6 ++ [(⟨1, (p0.args.l.getD (Int.toNat x7) Dat.d).b, 0, 0⟩ : Vl)]) yb2_0 yb2_1 yb2_2 (x7 + 1) from ((bifT c21).trans (bifT c32))).symm.trans hL1), by (try dsimp only); omega, by (try dsimp only); omega, by (try dsimp only); omega, by simp; omega⟩ ((all_snoc ((h.2.2)) (⟨(by first | exact hpr _ (getD_mem (by omega)) | simp)⟩))))) (Nat.lt_succ_self _)
    ·
     have c32n := c32
     try simp only [Bool.and_eq_true, Bool.or_eq_true, decide_eq_true_eq, Bool.true_and, Bool.not_eq_true', Bool.not_eq_false', beq_iff_eq, bne_iff_ne, decide_eq_false_iff_not, beq_eq_false_iff_ne, bne_eq_false_iff_eq, ne_eq, Bool.or_eq_false_iff, Bool.and_eq_false_iff] at c32n
     refine SC.seq (fun K16 hK16 => SC.region ?_)
     refine SL.step (PS.eql rfl tt rfl tt rfl rfl) ?_
     refine SL.step (PS.assign rfl tt rfl rfl) ?_
     refine SL.keep (l' := [(40, _, _), (30, _, _), (8, _, _), (7, _, _), (6, _, _), (4, _, _), (2, _, _), (1, _, _)]) ⟨rfl, rfl, rfl, rfl, rfl, rfl, rfl, rfl, trivial⟩ ?_
     refine SL.nil (SE.thenK hK16 ?_)
     refine SC.cond rfl (fun c40 => ?_) (fun c40 => ?_)
     ·
      have c40n := c40
      try simp only [Bool.and_eq_true, Bool.or_eq_true, decide_eq_true_eq, Bool.true_and, Bool.not_eq_true', Bool.not_eq_false', beq_iff_eq, bne_iff_ne, decide_eq_false_iff_not, beq_eq_false_iff_ne, bne_eq_false_iff_eq, ne_eq, Bool.or_eq_false_iff, Bool.and_eq_false_iff] at c40n
      refine SC.region ?_
      refine SL.step (PS.move rfl tt rfl rfl) ?_
      refine SL.step (PS.build (us := []) (vs := [_, _, _, _]) trivial Try.underlying35 Try.zeroValue35 (Try.places_35 Try.underlying35) rfl rfl rfl) ?_
      refine SL.buildSlice (us := [(0, _)]) (cs := [_, _, _, _]) ⟨rfl, ⟨_, rfl, tt⟩, trivial⟩ Try.underlying33 Try.sizeOf35 Try.zeroValue35 ⟨rfl, rfl, _, rfl, trivial⟩ rfl (by decide) rfl rfl (fun b44 => ?_)
      refine SL.append1 (k := 1) (xs := l6) (y := (⟨0, 0, 0, 0⟩ : Vl)) (cells := Dat.cells) rfl rfl rfl rfl Dat.len Dat.one Try.underlying33 Try.rowinfo_35 (by omega) (by omega) rfl rfl (fun o45 c45 => ?_)
      refine SL.own_eq (own' := [_, _, _, _, _]) rfl ?_
      refine SL.step (PS.assign rfl tt rfl rfl) ?_
      refine SL.keep (l' := [(6, _, _), (7, _, _), (4, _, _), (2, _, _), (1, _, _)]) ⟨rfl, rfl, rfl, rfl, rfl, trivial⟩ ?_
      refine SL.nil (SE.block_normal (SE.block_normal (SE.thenK hK12 (SC.region ?_))))
      refine SL.step (PS.move rfl tt rfl rfl) ?_
      refine SL.step (PS.add_in rfl tt rfl tt (fun _ => wr_i64 (by omega)) rfl rfl) ?_
      refine SL.step (PS.assign rfl tt rfl rfl) ?_
      refine SL.keep (l' := [(7, _, _), (6, _, _), (4, _, _), (2, _, _), (1, _, _)]) ⟨rfl, rfl, rfl, rfl, rfl, trivial⟩ ?_
      refine SL.nil ?_
      refine SE.drop (own' := [_, _, _, _]) (List.Sublist.cons _ (List.Sublist.cons_cons _ (List.Sublist.cons_cons _ (List.Sublist.cons_cons _ (List.Sublist.cons_cons _ List.Sublist.slnil))))) ?_
      exact SE.againF (k1p, (l6 ++ [(⟨0, 0, 0, 0⟩ : Vl)]), yb2_0, yb2_1, yb2_2, (x7 + 1), o45, c45) ⟨rfl, rfl, rfl, rfl, rfl, trivial⟩ rfl (fun w h => And.intro (h.1) (And.intro ⟨((show d_latheref15_Fold_R7 p0 (k1p + 1) l6 yb2_0 yb2_1 yb2_2 x7 = d_latheref15_Fold_R7 p0 k1p (l6 ++ [(⟨0, 0, 0, 0⟩ : Vl)]) yb2_0 yb2_1 yb2_2 (x7 + 1) from ((bifT c21).trans ((bifF c32).trans (bifT c40)))).symm.trans hL1), by (try dsimp only); omega, by (try dsimp only); omega, by (try dsimp only); omega, by simp; omega⟩ ((all_snoc ((h.2.2)) (⟨(by first | exact hpr _ (getD_mem (by omega)) | simp)⟩))))) (Nat.lt_succ_self _)
     ·
      have c40n := c40
      try simp only [Bool.and_eq_true, Bool.or_eq_true, decide_eq_true_eq, Bool.true_and, Bool.not_eq_true', Bool.not_eq_false', beq_iff_eq, bne_iff_ne, decide_eq_false_iff_not, beq_eq_false_iff_ne, bne_eq_false_iff_eq, ne_eq, Bool.or_eq_false_iff, Bool.and_eq_false_iff] at c40n
      refine SC.seq (fun K17 hK17 => SC.region ?_)
      refine SL.step (PS.eql rfl tt rfl tt rfl rfl) ?_
      refine SL.step (PS.assign rfl tt rfl rfl) ?_
      refine SL.keep (l' := [(46, _, _), (30, _, _), (8, _, _), (7, _, _), (6, _, _), (4, _, _), (2, _, _), (1, _, _)]) ⟨rfl, rfl, rfl, rfl, rfl, rfl, rfl, rfl, trivial⟩ ?_
      refine SL.nil (SE.thenK hK17 ?_)
      refine SC.cond rfl (fun c46 => ?_) (fun c46 => ?_)
      ·
       have c46n := c46
       try simp only [Bool.and_eq_true, Bool.or_eq_true, decide_eq_true_eq, Bool.true_and, Bool.not_eq_true', Bool.not_eq_false', beq_iff_eq, bne_iff_ne, decide_eq_false_iff_not, beq_eq_false_iff_ne, bne_eq_false_iff_eq, ne_eq, Bool.or_eq_false_iff, Bool.and_eq_false_iff] at c46n
       refine SC.region ?_
       refine SL.step (PS.move rfl tt rfl rfl) ?_
       refine SL.step (PS.build (us := [(0, _), (2, _)]) (vs := [_, _, _, _]) ⟨rfl, ⟨_, rfl, tt⟩, ⟨rfl, ⟨_, rfl, tt⟩, trivial⟩⟩ Try.underlying35 Try.zeroValue35 (Try.places_35 Try.underlying35) rfl rfl rfl) ?_
       refine SL.buildSlice (us := [(0, _)]) (cs := [_, _, _, _]) ⟨rfl, ⟨_, rfl, tt⟩, trivial⟩ Try.underlying33 Try.sizeOf35 Try.zeroValue35 ⟨rfl, rfl, _, rfl, trivial⟩ rfl (by decide) rfl rfl (fun b50 => ?_)
       refine SL.append1 (k := 1) (xs := l6) (y := (⟨2, 0, (-1), 0⟩ : Vl)) (cells := Dat.cells) rfl rfl rfl rfl Dat.len Dat.one Try.underlying33 Try.rowinfo_35 (by omega) (by omega) rfl rfl (fun o51 c51 => ?_)
       refine SL.own_eq (own' := [_, _, _, _, _]) rfl ?_
       refine SL.step (PS.assign rfl tt rfl rfl) ?_
       refine SL.keep (l' := [(6, _, _), (7, _, _), (4, _, _), (2, _, _), (1, _, _)]) ⟨rfl, rfl, rfl, rfl, rfl, trivial⟩ ?_
       refine SL.nil (SE.block_normal (SE.block_normal (SE.thenK hK12 (SC.region ?_))))
       refine SL.step (PS.move rfl tt rfl rfl) ?_
       refine SL.step (PS.add_in rfl tt rfl tt (fun _ => wr_i64 (by omega)) rfl rfl) ?_
       refine SL.step (PS.assign rfl tt rfl rfl) ?_
       refine SL.keep (l' := [(7, _, _), (6, _, _), (4, _, _), (2, _, _), (1, _, _)]) ⟨rfl, rfl, rfl, rfl, rfl, trivial⟩ ?_
       refine SL.nil ?_
       refine SE.drop (own' := [_, _, _, _]) (List.Sublist.cons _ (List.Sublist.cons_cons _ (List.Sublist.cons_cons _ (List.Sublist.cons_cons _ (List.Sublist.cons_cons _ List.Sublist.slnil))))) ?_
       exact SE.againF (k1p, (l6 ++ [(⟨2, 0, (-1), 0⟩ : Vl)]), yb2_0, yb2_1, yb2_2, (x7 + 1), o51, c51) ⟨rfl, rfl, rfl, rfl, rfl, trivial⟩ rfl (fun w h => And.intro (h.1) (And.intro ⟨((show d_latheref15_Fold_R7 p0 (k1p + 1) l6 yb2_0 yb2_1 yb2_2 x7 = d_latheref15_Fold_R7 p0 k1p (l6 ++ [(⟨2, 0, (-1), 0⟩ : Vl)]) yb2_0 yb2_1 yb2_2 (x7 + 1) from ((bifT c21).trans ((bifF c32).trans ((bifF c40).trans (bifT c46))))).symm.trans hL1), by (try dsimp only); omega, by (try dsimp only); omega, by (try dsimp only); omega, by simp; omega⟩ ((all_snoc ((h.2.2)) (⟨(by first | exact hpr _ (getD_mem (by omega)) | simp)⟩))))) (Nat.lt_succ_self _)
      ·
       have c46n := c46
       try simp only [Bool.and_eq_true, Bool.or_eq_true, decide_eq_true_eq, Bool.true_and, Bool.not_eq_true', Bool.not_eq_false', beq_iff_eq, bne_iff_ne, decide_eq_false_iff_not, beq_eq_false_iff_ne, bne_eq_false_iff_eq, ne_eq, Bool.or_eq_false_iff, Bool.and_eq_false_iff] at c46n
       refine SC.seq (fun K18 hK18 => SC.region ?_)
       refine SL.step (PS.eql rfl tt rfl tt rfl rfl) ?_
       refine SL.step (PS.assign rfl tt rfl rfl) ?_
       refine SL.keep (l' := [(52, _, _), (8, _, _), (7, _, _), (6, _, _), (4, _, _), (2, _, _), (1, _, _)]) ⟨rfl, rfl, rfl, rfl, rfl, rfl, rfl, trivial⟩ ?_
       refine SL.nil (SE.thenK hK18 ?_)
       refine SC.cond rfl (fun c52 => ?_) (fun c52 => ?_)
       ·
        have c52n := c52
        try simp only [Bool.and_eq_true, Bool.or_eq_true, decide_eq_true_eq, Bool.true_and, Bool.not_eq_true', Bool.not_eq_false', beq_iff_eq, bne_iff_ne, decide_eq_false_iff_not, beq_eq_false_iff_ne, bne_eq_false_iff_eq, ne_eq, Bool.or_eq_false_iff, Bool.and_eq_false_iff] at c52n
        refine SC.region ?_
        refine SL.step (PS.move rfl tt rfl rfl) ?_
        refine SL.step (PS.fieldAddr rfl tt Try.fieldAt_29_1 rfl rfl) ?_
        refine SL.step (PS.load_own (k := 0) rfl tt rfl rfl rfl Try.isAgg3 rfl rfl) ?_
        refine SL.step (PS.build (us := [(0, _), (2, _)]) (vs := [_, _, _, _]) ⟨rfl, ⟨_, rfl, tt⟩, ⟨rfl, ⟨_, rfl, tt⟩, trivial⟩⟩ Try.underlying35 Try.zeroValue35 (Try.places_35 Try.underlying35) rfl rfl rfl) ?_
        refine SL.buildSlice (us := [(0, _)]) (cs := [_, _, _, _]) ⟨rfl, ⟨_, rfl, tt⟩, trivial⟩ Try.underlying33 Try.sizeOf35 Try.zeroValue35 ⟨rfl, rfl, _, rfl, trivial⟩ rfl (by decide) rfl rfl (fun b58 => ?_)
        refine SL.append1 (k := 1) (xs := l6) (y := (⟨2, 0, (p0.args.l.getD (Int.toNat x7) Dat.d).n, 0⟩ : Vl)) (cells := Dat.cells) rfl rfl rfl rfl Dat.len Dat.one Try.underlying33 Try.rowinfo_35 (by omega) (by omega) rfl rfl (fun o59 c59 => ?_)
        refine SL.own_eq (own' := [_, _, _, _, _]) rfl ?_
        refine SL.step (PS.assign rfl tt rfl rfl) ?_
        refine SL.keep (l' := [(6, _, _), (7, _, _), (4, _, _), (2, _, _), (1, _, _)]) ⟨rfl, rfl, rfl, rfl, rfl, trivial⟩ ?_
        refine SL.nil (SE.block_normal (SE.block_normal (SE.thenK hK12 (SC.region ?_))))
        refine SL.step (PS.move rfl tt rfl rfl) ?_
        refine SL.step (PS.add_in rfl tt rfl tt (fun _ => wr_i64 (by omega)) rfl rfl) ?_
        refine SL.step (PS.assign rfl tt rfl rfl) ?_
        refine SL.keep (l' := [(7, _, _), (6, _, _), (4, _, _), (2, _, _), (1, _, _)]) ⟨rfl, rfl, rfl, rfl, rfl, trivial⟩ ?_
        refine SL.nil ?_
        refine SE.drop (own' := [_, _, _, _]) (List.Sublist.cons _ (List.Sublist.cons_cons _ (List.Sublist.cons_cons _ (List.Sublist.cons_cons _ (List.Sublist.cons_cons _ List.Sublist.slnil))))) ?_
        exact SE.againF (k1p, (l6 ++ [(⟨2, 0, (p0.args.l.getD (Int.toNat x7) Dat.d).n, 0⟩ : Vl)]), yb2_0, yb2_1, yb2_2, (x7 + 1), o59, c59) ⟨rfl, rfl, rfl, rfl, rfl, trivial⟩ rfl (fun w h => And.intro (h.1) (And.intro ⟨((show d_latheref15_Fold_R7 p0 (k1p + 1) l6 yb2_0 yb2_1 yb2_2 x7 = d_latheref15_Fold_R7 p0 k1p (l6 ++ [(⟨2, 0, (p0.args.l.getD (Int.toNat x7) Dat.d).n, 0⟩ : Vl)]) yb2_0 yb2_1 yb2_2 (x7 + 1) from ((bifT c21).trans ((bifF c32).trans ((bifF c40).trans ((bifF c46).trans (bifT c52)))))).symm.trans hL1), by (try dsimp only); omega, by (try dsimp only); omega, by (try dsimp only); omega, by simp; omega⟩ ((all_snoc ((h.2.2)) (⟨(by first | exact hpr _ (getD_mem (by omega)) | simp)⟩))))) (Nat.lt_succ_self _)
       ·
        refine SC.seq (fun K19 hK19 => SC.region ?_)
        refine SL.step (PS.load_own_agg (k := 2) (vs := [_, _, _]) rfl tt rfl rfl rfl rfl Try.isAgg29 Try.sizeOf29 rfl rfl) ?_
        refine SL.store_own (k := 3) (own' := [_, _, _, _, _]) (cs' := [_, _, _]) rfl rfl rfl rfl rfl rfl rfl Try.sizeOf29 rfl (Nat.le_of_ble_eq_true rfl) rfl rfl rfl rfl ?_
        refine SL.step (PS.assign rfl tt rfl rfl) ?_
        refine SL.keep (l' := [(3, _, _), (2, _, _)]) ⟨rfl, rfl, trivial⟩ ?_
        refine SL.nil (SE.thenK hK19 (SC.ret (SE.block_ret (SE.block_ret (SE.then_ret (SE.then_ret (SE.block_ret ?_)))))))
        refine SE.then_ret ?_
        exact finct (k := 3) rfl Try.isAgg29 Try.sizeOf29 rfl rfl rfl rfl rfl rfl (fun _ _ => congrArg (fun z : Opd × Bool => Value.tuple #[Value.agg [.int .i64 z.1.k, .int .i64 z.1.n, .int .u64 z.1.b].toArray, Value.bool z.2]) (show (d_latheref15_Fold p0) = (((⟨0, 0, 0⟩ : Opd), false) : Opd × Bool) from ((bifF c15).trans (thenL_inl ((hL1.symm.trans (show d_latheref15_Fold_R7 p0 (k1p + 1) l6 yb2_0 yb2_1 yb2_2 x7 = Sum.inl ((⟨0, 0, 0⟩ : Opd), false) from ((bifT c21).trans ((bifF c32).trans ((bifF c40).trans ((bifF c46).trans (bifF c52))))))))))).symm)
   ·
    have c21n := c21
    try simp only [Bool.and_eq_true, Bool.or_eq_true, decide_eq_true_eq, Bool.true_and, Bool.not_eq_true', Bool.not_eq_false', beq_iff_eq, bne_iff_ne, decide_eq_false_iff_not, beq_eq_false_iff_ne, bne_eq_false_iff_eq, ne_eq, Bool.or_eq_false_iff, Bool.and_eq_false_iff] at c21n
    refine SC.exit (SE.then_exit (SE.then_exit (SE.block_same (SE.thenK hK8 (SC.seq (fun K20 hK20 => SC.region ?_))))))
    refine SL.step (PS.load_own_agg (k := 3) (vs := [_, _, _, _, _, _, _]) rfl tt rfl rfl rfl rfl Try.isAgg25 Try.sizeOf25 rfl rfl) ?_
    refine SL.step (PS.move rfl tt rfl rfl) ?_
    refine SL.callR (vs := [_, _]) Try.call15 ⟨⟨_, rfl, tt⟩, ⟨_, rfl, tt⟩, trivial⟩ (fun hg => evalR_S p0 (⟨rowA o6, cap6, l6⟩ : SlD Vl) (by assumption)) (fun w h hok hg => (⟨Rw.sl (hok _ (mem_nth (k := 0) rfl)), (h.2.2), (show l6.length ≤ 9223372036854775807 by omega)⟩ : SlD.rd _ _)) rfl rfl ?_
    refine SL.step (PS.move rfl tt rfl rfl) ?_
    refine SL.step (PS.extract rfl tt rfl rfl rfl) ?_
    refine SL.step (PS.extract rfl tt rfl rfl rfl) ?_
    refine SL.alloc (cs := [_, _, _, _]) Try.zeroValue35 rfl rfl rfl (fun b9 => ?_)
    refine SL.store_own (k := 0) (own' := [_, _, _, _, _]) (cs' := [_, _, _, _]) rfl rfl rfl rfl rfl rfl rfl Try.sizeOf35 rfl (Nat.le_of_ble_eq_true rfl) rfl rfl rfl rfl ?_
    refine SL.step (PS.assign rfl tt rfl rfl) ?_
    refine SL.keep (l' := [(10, _, _), (9, _, _), (4, _, _), (2, _, _), (1, _, _)]) ⟨rfl, rfl, rfl, rfl, rfl, trivial⟩ ?_
    refine SL.nil (SE.thenK hK20 (SC.seq (fun K21 hK21 => SC.seq (fun K22 hK22 => SC.region ?_))))
    refine SL.step (PS.move rfl tt rfl rfl) ?_
    refine SL.step (PS.neq rfl tt rfl tt rfl rfl) ?_
    refine SL.keep (l' := [(67, _, _), (9, _, _), (4, _, _), (2, _, _), (1, _, _)]) ⟨rfl, rfl, rfl, rfl, rfl, trivial⟩ ?_
    refine SL.nil (SE.thenK hK22 ?_)
    refine SC.cond rfl (fun c67 => ?_) (fun c67 => ?_)
    ·
     refine SC.seq (fun K23 hK23 => SC.region ?_)
     refine SL.step (PS.load_own_agg (k := 2) (vs := [_, _, _]) rfl tt rfl rfl rfl rfl Try.isAgg29 Try.sizeOf29 rfl rfl) ?_
     refine SL.store_own (k := 3) (own' := [_, _, _, _, _]) (cs' := [_, _, _]) rfl rfl rfl rfl rfl rfl rfl Try.sizeOf29 rfl (Nat.le_of_ble_eq_true rfl) rfl rfl rfl rfl ?_
     refine SL.step (PS.assign rfl tt rfl rfl) ?_
     refine SL.keep (l' := [(3, _, _), (2, _, _)]) ⟨rfl, rfl, trivial⟩ ?_
     refine SL.nil (SE.thenK hK23 (SC.ret (SE.then_ret ?_)))
     exact finct (k := 3) rfl Try.isAgg29 Try.sizeOf29 rfl rfl rfl rfl rfl rfl (fun _ _ => congrArg (fun z : Opd × Bool => Value.tuple #[Value.agg [.int .i64 z.1.k, .int .i64 z.1.n, .int .u64 z.1.b].toArray, Value.bool z.2]) (show (d_latheref15_Fold p0) = (((⟨0, 0, 0⟩ : Opd), false) : Opd × Bool) from ((bifF c15).trans ((thenL_inr (hL1.symm.trans (show d_latheref15_Fold_R7 p0 (k1p + 1) l6 yb2_0 yb2_1 yb2_2 x7 = Sum.inr (l6, yb2_0, yb2_1, yb2_2, x7) from (bifF c21)))).trans (bifT c67)))).symm)
    ·
     refine SC.skip (SE.thenK hK21 (SC.seq (fun K24 hK24 => SC.seq (fun K25 hK25 => SC.region ?_))))
     refine SL.step (PS.fieldAddr rfl tt Try.fieldAt_35_0 rfl rfl) ?_
     refine SL.step (PS.load_own (k := 0) rfl tt rfl rfl rfl Try.isAgg3 rfl rfl) ?_
     refine SL.step (PS.eql rfl tt rfl tt rfl rfl) ?_
     refine SL.keep (l' := [(71, _, _), (9, _, _), (4, _, _), (2, _, _), (1, _, _)]) ⟨rfl, rfl, rfl, rfl, rfl, trivial⟩ ?_
     refine SL.nil (SE.thenK hK25 ?_)
     refine SC.cond rfl (fun c71 => ?_) (fun c71 => ?_)
     ·
      refine SC.seq (fun K26 hK26 => SC.seq (fun K27 hK27 => SC.region ?_))
      refine SL.step (PS.load_own_agg (k := 4) (vs := [_, _, _, _, _, _, _]) rfl tt rfl rfl rfl rfl Try.isAgg25 Try.sizeOf25 rfl rfl) ?_
      refine SL.callV (vs := [_]) Try.call16 ⟨⟨_, rfl, tt⟩, trivial⟩ (fun hg => latheref02_Result_V p0 ) rfl rfl ?_
      refine SL.step (PS.eql rfl tt rfl tt rfl rfl) ?_
      refine SL.keep (l' := [(74, _, _), (2, _, _)]) ⟨rfl, rfl, trivial⟩ ?_
      refine SL.nil (SE.thenK hK27 ?_)
      refine SC.cond rfl (fun c74 => ?_) (fun c74 => ?_)
      ·
       refine SC.seq (fun K28 hK28 => SC.region ?_)
       refine SL.step (PS.build (us := [(0, _)]) (vs := [_, _, _]) ⟨rfl, ⟨_, rfl, tt⟩, trivial⟩ Try.underlying29 Try.zeroValue29 (Try.places_29 Try.underlying29) rfl rfl rfl) ?_
       refine SL.store_own (k := 3) (own' := [_, _, _, _, _]) (cs' := [_, _, _]) rfl rfl rfl rfl rfl rfl rfl Try.sizeOf29 rfl (Nat.le_of_ble_eq_true rfl) rfl rfl rfl rfl ?_
       refine SL.step (PS.assign rfl tt rfl rfl) ?_
       refine SL.keep (l' := [(3, _, _), (2, _, _)]) ⟨rfl, rfl, trivial⟩ ?_
       refine SL.nil (SE.thenK hK28 (SC.ret (SE.then_ret (SE.then_ret ?_))))
       exact finct (k := 3) rfl Try.isAgg29 Try.sizeOf29 rfl rfl rfl rfl rfl rfl (fun _ _ => congrArg (fun z : Opd × Bool => Value.tuple #[Value.agg [.int .i64 z.1.k, .int .i64 z.1.n, .int .u64 z.1.b].toArray, Value.bool z.2]) (show (d_latheref15_Fold p0) = (((⟨4, 0, 0⟩ : Opd), true) : Opd × Bool) from ((bifF c15).trans ((thenL_inr (hL1.symm.trans (show d_latheref15_Fold_R7 p0 (k1p + 1) l6 yb2_0 yb2_1 yb2_2 x7 = Sum.inr (l6, yb2_0, yb2_1, yb2_2, x7) from (bifF c21)))).trans ((bifF c67).trans ((bifT c71).trans (bifT c74)))))).symm)
      ·
       refine SC.skip (SE.thenK hK26 (SC.seq (fun K29 hK29 => SC.region ?_)))
       refine SL.step (PS.build (us := [(0, _)]) (vs := [_, _, _]) ⟨rfl, ⟨_, rfl, tt⟩, trivial⟩ Try.underlying29 Try.zeroValue29 (Try.places_29 Try.underlying29) rfl rfl rfl) ?_
       refine SL.store_own (k := 3) (own' := [_, _, _, _, _]) (cs' := [_, _, _]) rfl rfl rfl rfl rfl rfl rfl Try.sizeOf29 rfl (Nat.le_of_ble_eq_true rfl) rfl rfl rfl rfl ?_
       refine SL.step (PS.assign rfl tt rfl rfl) ?_
       refine SL.keep (l' := [(3, _, _), (2, _, _)]) ⟨rfl, rfl, trivial⟩ ?_
       refine SL.nil (SE.thenK hK29 (SC.ret (SE.then_ret ?_)))
       exact finct (k := 3) rfl Try.isAgg29 Try.sizeOf29 rfl rfl rfl rfl rfl rfl (fun _ _ => congrArg (fun z : Opd × Bool => Value.tuple #[Value.agg [.int .i64 z.1.k, .int .i64 z.1.n, .int .u64 z.1.b].toArray, Value.bool z.2]) (show (d_latheref15_Fold p0) = (((⟨2, 0, 0⟩ : Opd), true) : Opd × Bool) from ((bifF c15).trans ((thenL_inr (hL1.symm.trans (show d_latheref15_Fold_R7 p0 (k1p + 1) l6 yb2_0 yb2_1 yb2_2 x7 = Sum.inr (l6, yb2_0, yb2_1, yb2_2, x7) from (bifF c21)))).trans ((bifF c67).trans ((bifT c71).trans (bifF c74)))))).symm)
     ·
      refine SC.skip (SE.thenK hK24 (SC.seq (fun K30 hK30 => SC.seq (fun K31 hK31 => SC.region ?_))))
      refine SL.step (PS.fieldAddr rfl tt Try.fieldAt_35_0 rfl rfl) ?_
      refine SL.step (PS.load_own (k := 0) rfl tt rfl rfl rfl Try.isAgg3 rfl rfl) ?_
      refine SL.step (PS.eql rfl tt rfl tt rfl rfl) ?_
      refine SL.keep (l' := [(79, _, _), (9, _, _), (4, _, _), (2, _, _)]) ⟨rfl, rfl, rfl, rfl, trivial⟩ ?_
      refine SL.nil (SE.thenK hK31 ?_)
      refine SC.cond rfl (fun c79 => ?_) (fun c79 => ?_)
      ·
       refine SC.seq (fun K32 hK32 => SC.region ?_)
       refine SL.step (PS.fieldAddr rfl tt Try.fieldAt_35_1 rfl rfl) ?_
       refine SL.step (PS.load_own (k := 0) rfl tt rfl rfl rfl Try.isAgg27 rfl rfl) ?_
       refine SL.step (PS.build (us := [(0, _), (2, _)]) (vs := [_, _, _]) ⟨rfl, ⟨_, rfl, tt⟩, ⟨rfl, ⟨_, rfl, tt⟩, trivial⟩⟩ Try.underlying29 Try.zeroValue29 (Try.places_29 Try.underlying29) rfl rfl rfl) ?_
       refine SL.store_own (k := 3) (own' := [_, _, _, _, _]) (cs' := [_, _, _]) rfl rfl rfl rfl rfl rfl rfl Try.sizeOf29 rfl (Nat.le_of_ble_eq_true rfl) rfl rfl rfl rfl ?_
       refine SL.step (PS.assign rfl tt rfl rfl) ?_
       refine SL.keep (l' := [(3, _, _), (2, _, _)]) ⟨rfl, rfl, trivial⟩ ?_
       refine SL.nil (SE.thenK hK32 (SC.ret (SE.then_ret ?_)))
       exact finct (k := 3) rfl Try.isAgg29 Try.sizeOf29 rfl rfl rfl rfl rfl rfl (fun _ _ => congrArg (fun z : Opd × Bool => Value.tuple #[Value.agg [.int .i64 z.1.k, .int .i64 z.1.n, .int .u64 z.1.b].toArray, Value.bool z.2]) (show (d_latheref15_Fold p0) = (((⟨2, 0, ((evalI p0 (⟨rowA o6, cap6, l6⟩ : SlD Vl)).1).b⟩ : Opd), true) : Opd × Bool) from ((bifF c15).trans ((thenL_inr (hL1.symm.trans (show d_latheref15_Fold_R7 p0 (k1p + 1) l6 yb2_0 yb2_1 yb2_2 x7 = Sum.inr (l6, yb2_0, yb2_1, yb2_2, x7) from (bifF c21)))).trans ((bifF c67).trans ((bifF c71).trans (bifT c79)))))).symm)
      ·
       refine SC.skip (SE.thenK hK30 (SC.seq (fun K33 hK33 => SC.seq (fun K34 hK34 => SC.region ?_))))
       refine SL.step (PS.fieldAddr rfl tt Try.fieldAt_35_0 rfl rfl) ?_
       refine SL.step (PS.load_own (k := 0) rfl tt rfl rfl rfl Try.isAgg3 rfl rfl) ?_
       refine SL.step (PS.eql rfl tt rfl tt rfl rfl) ?_
       refine SL.keep (l' := [(85, _, _), (9, _, _), (4, _, _), (2, _, _)]) ⟨rfl, rfl, rfl, rfl, trivial⟩ ?_
       refine SL.nil (SE.thenK hK34 ?_)
       refine SC.cond rfl (fun c85 => ?_) (fun c85 => ?_)
       ·
        refine SC.seq (fun K35 hK35 => SC.region ?_)
        refine SL.step (PS.build (us := [(0, _)]) (vs := [_, _, _]) ⟨rfl, ⟨_, rfl, tt⟩, trivial⟩ Try.underlying29 Try.zeroValue29 (Try.places_29 Try.underlying29) rfl rfl rfl) ?_
        refine SL.store_own (k := 3) (own' := [_, _, _, _, _]) (cs' := [_, _, _]) rfl rfl rfl rfl rfl rfl rfl Try.sizeOf29 rfl (Nat.le_of_ble_eq_true rfl) rfl rfl rfl rfl ?_
        refine SL.step (PS.assign rfl tt rfl rfl) ?_
        refine SL.keep (l' := [(3, _, _), (2, _, _)]) ⟨rfl, rfl, trivial⟩ ?_
        refine SL.nil (SE.thenK hK35 (SC.ret (SE.then_ret ?_)))
        exact finct (k := 3) rfl Try.isAgg29 Try.sizeOf29 rfl rfl rfl rfl rfl rfl (fun _ _ => congrArg (fun z : Opd × Bool => Value.tuple #[Value.agg [.int .i64 z.1.k, .int .i64 z.1.n, .int .u64 z.1.b].toArray, Value.bool z.2]) (show (d_latheref15_Fold p0) = (((⟨3, 0, 0⟩ : Opd), true) : Opd × Bool) from ((bifF c15).trans ((thenL_inr (hL1.symm.trans (show d_latheref15_Fold_R7 p0 (k1p + 1) l6 yb2_0 yb2_1 yb2_2 x7 = Sum.inr (l6, yb2_0, yb2_1, yb2_2, x7) from (bifF c21)))).trans ((bifF c67).trans ((bifF c71).trans ((bifF c79).trans (bifT c85))))))).symm)
       ·
        refine SC.skip (SE.thenK hK33 (SC.seq (fun K36 hK36 => SC.seq (fun K37 hK37 => SC.region ?_))))
        refine SL.step (PS.fieldAddr rfl tt Try.fieldAt_35_3 rfl rfl) ?_
        refine SL.step (PS.load_own (k := 0) rfl tt rfl rfl rfl Try.isAgg2 rfl rfl) ?_
        refine SL.step (PS.eql rfl tt rfl tt rfl rfl) ?_
        refine SL.step (PS.move rfl tt rfl rfl) ?_
        refine SL.step (PS.fieldAddr rfl tt Try.fieldAt_35_2 rfl rfl) ?_
        refine SL.step (PS.load_own (k := 0) rfl (fun h => h) rfl rfl rfl Try.isAgg3 rfl rfl) ?_
        refine SL.step (PS.eql rfl (fun h => h) rfl tt rfl rfl) ?_
        refine SL.step (PS.pick_and rfl tt rfl (fun h h2 => pk_and h h2) rfl rfl) ?_
        refine SL.keep (l' := [(94, _, _), (9, _, _), (4, _, _), (2, _, _)]) ⟨rfl, rfl, rfl, rfl, trivial⟩ ?_
        refine SL.nil (SE.thenK hK37 ?_)
        refine SC.cond rfl (fun c94 => ?_) (fun c94 => ?_)
        ·
         refine SC.seq (fun K38 hK38 => SC.region ?_)
         refine SL.step (PS.build (us := [(0, _)]) (vs := [_, _, _]) ⟨rfl, ⟨_, rfl, tt⟩, trivial⟩ Try.underlying29 Try.zeroValue29 (Try.places_29 Try.underlying29) rfl rfl rfl) ?_
         refine SL.store_own (k := 3) (own' := [_, _, _, _, _]) (cs' := [_, _, _]) rfl rfl rfl rfl rfl rfl rfl Try.sizeOf29 rfl (Nat.le_of_ble_eq_true rfl) rfl rfl rfl rfl ?_
         refine SL.step (PS.assign rfl tt rfl rfl) ?_
         refine SL.keep (l' := [(3, _, _), (2, _, _)]) ⟨rfl, rfl, trivial⟩ ?_
         refine SL.nil (SE.thenK hK38 (SC.ret (SE.then_ret ?_)))
         exact finct (k := 3) rfl Try.isAgg29 Try.sizeOf29 rfl rfl rfl rfl rfl rfl (fun _ _ => congrArg (fun z : Opd × Bool => Value.tuple #[Value.agg [.int .i64 z.1.k, .int .i64 z.1.n, .int .u64 z.1.b].toArray, Value.bool z.2]) (show (d_latheref15_Fold p0) = (((⟨4, 0, 0⟩ : Opd), true) : Opd × Bool) from ((bifF c15).trans ((thenL_inr (hL1.symm.trans (show d_latheref15_Fold_R7 p0 (k1p + 1) l6 yb2_0 yb2_1 yb2_2 x7 = Sum.inr (l6, yb2_0, yb2_1, yb2_2, x7) from (bifF c21)))).trans ((bifF c67).trans ((bifF c71).trans ((bifF c79).trans ((bifF c85).trans (bifT c94)))))))).symm)
        ·
         refine SC.skip (SE.thenK hK36 (SC.seq (fun K39 hK39 => SC.seq (fun K40 hK40 => SC.region ?_))))
         refine SL.step (PS.fieldAddr rfl tt Try.fieldAt_35_3 rfl rfl) ?_
         refine SL.step (PS.load_own (k := 0) rfl tt rfl rfl rfl Try.isAgg2 rfl rfl) ?_
         refine SL.step (PS.eql rfl tt rfl tt rfl rfl) ?_
         refine SL.step (PS.move rfl tt rfl rfl) ?_
         refine SL.step (PS.fieldAddr rfl tt Try.fieldAt_35_2 rfl rfl) ?_
         refine SL.step (PS.load_own (k := 0) rfl (fun h => h) rfl rfl rfl Try.isAgg3 rfl rfl) ?_
         refine SL.step (PS.geq rfl (fun h => h) rfl tt rfl rfl) ?_
         refine SL.step (PS.pick_and rfl tt rfl (fun h h2 => pk_and h h2) rfl rfl) ?_
         refine SL.keep (l' := [(103, _, _), (9, _, _), (4, _, _), (2, _, _)]) ⟨rfl, rfl, rfl, rfl, trivial⟩ ?_
         refine SL.nil (SE.thenK hK40 ?_)
         refine SC.cond rfl (fun c103 => ?_) (fun c103 => ?_)
         ·
          refine SC.seq (fun K41 hK41 => SC.region ?_)
          refine SL.step (PS.fieldAddr rfl tt Try.fieldAt_35_2 rfl rfl) ?_
          refine SL.step (PS.load_own (k := 0) rfl tt rfl rfl rfl Try.isAgg3 rfl rfl) ?_
          refine SL.step (PS.build (us := [(0, _), (1, _)]) (vs := [_, _, _]) ⟨rfl, ⟨_, rfl, tt⟩, ⟨rfl, ⟨_, rfl, tt⟩, trivial⟩⟩ Try.underlying29 Try.zeroValue29 (Try.places_29 Try.underlying29) rfl rfl rfl) ?_
          refine SL.store_own (k := 3) (own' := [_, _, _, _, _]) (cs' := [_, _, _]) rfl rfl rfl rfl rfl rfl rfl Try.sizeOf29 rfl (Nat.le_of_ble_eq_true rfl) rfl rfl rfl rfl ?_
          refine SL.step (PS.assign rfl tt rfl rfl) ?_
          refine SL.keep (l' := [(3, _, _), (2, _, _)]) ⟨rfl, rfl, trivial⟩ ?_
          refine SL.nil (SE.thenK hK41 (SC.ret (SE.then_ret ?_)))
          exact finct (k := 3) rfl Try.isAgg29 Try.sizeOf29 rfl rfl rfl rfl rfl rfl (fun _ _ => congrArg (fun z : Opd × Bool => Value.tuple #[Value.agg [.int .i64 z.1.k, .int .i64 z.1.n, .int .u64 z.1.b].toArray, Value.bool z.2]) (show (d_latheref15_Fold p0) = (((⟨5, ((evalI p0 (⟨rowA o6, cap6, l6⟩ : SlD Vl)).1).bl, 0⟩ : Opd), true) : Opd × Bool) from ((bifF c15).trans ((thenL_inr (hL1.symm.trans (show d_latheref15_Fold_R7 p0 (k1p + 1) l6 yb2_0 yb2_1 yb2_2 x7 = Sum.inr (l6, yb2_0, yb2_1, yb2_2, x7) from (bifF c21)))).trans ((bifF c67).trans ((bifF c71).trans ((bifF c79).trans ((bifF c85).trans ((bifF c94).trans (bifT c103))))))))).symm)
         ·
          refine SC.skip (SE.thenK hK39 (SC.seq (fun K42 hK42 => SC.region ?_)))
          refine SL.step (PS.load_own_agg (k := 2) (vs := [_, _, _]) rfl tt rfl rfl rfl rfl Try.isAgg29 Try.sizeOf29 rfl rfl) ?_
          refine SL.store_own (k := 3) (own' := [_, _, _, _, _]) (cs' := [_, _, _]) rfl rfl rfl rfl rfl rfl rfl Try.sizeOf29 rfl (Nat.le_of_ble_eq_true rfl) rfl rfl rfl rfl ?_
          refine SL.step (PS.assign rfl tt rfl rfl) ?_
          refine SL.keep (l' := [(3, _, _), (2, _, _)]) ⟨rfl, rfl, trivial⟩ ?_
          refine SL.nil (SE.thenK hK42 (SC.ret ?_))
          exact finct (k := 3) rfl Try.isAgg29 Try.sizeOf29 rfl rfl rfl rfl rfl rfl (fun _ _ => congrArg (fun z : Opd × Bool => Value.tuple #[Value.agg [.int .i64 z.1.k, .int .i64 z.1.n, .int .u64 z.1.b].toArray, Value.bool z.2]) (show (d_latheref15_Fold p0) = (((⟨0, 0, 0⟩ : Opd), false) : Opd × Bool) from ((bifF c15).trans ((thenL_inr (hL1.symm.trans (show d_latheref15_Fold_R7 p0 (k1p + 1) l6 yb2_0 yb2_1 yb2_2 x7 = Sum.inr (l6, yb2_0, yb2_1, yb2_2, x7) from (bifF c21)))).trans ((bifF c67).trans ((bifF c71).trans ((bifF c79).trans ((bifF c85).trans ((bifF c94).trans (bifF c103))))))))).symm)
end Go.Proofs.Ytffimfmicapaaaa
