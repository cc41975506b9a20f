/- The laws of layer 15 on one instruction. -/
import Derived.Test.YtffimfmicapaaaaFoldL
namespace Go.Proofs.Ytffimfmicapaaaa
open Go.RowKit
set_option linter.unusedVariables false
set_option linter.unusedSimpArgs false
set_option maxRecDepth 100000
set_option maxHeartbeats 4000000
open Pl (Vl)
def d_lathelaw15_FoldOne (p0 : Ins) : Bool :=
  bif (decide (1000 < (p0.args.l.length : Int))) then
   true
  else ((decide (((foldI p0).1) = ((foldI p0).1))) && ((foldI p0).2 == (foldI p0).2))
theorem lathelaw15_FoldOne_S (p0 : Ins)  : Spec Try.prog 3 [.agg [.int .i64 p0.op, .int .i64 p0.reg, .int .i64 p0.t, .int .i64 p0.n, .int .i64 p0.f, .slice p0.args.a p0.args.l.length p0.args.cap, .slice p0.to.a p0.to.l.length p0.to.cap].toArray] (fun w => Dat.ok p0 w) (fun v _ => v = Value.bool (d_lathelaw15_FoldOne p0)) := by
  refine Spec.enter Try.func3 rfl (n := 31) Try.ntmps3 (Nat.le_of_ble_eq_true rfl) (l := [(0, _, _)]) rfl ?_
  intro S w
  refine SC.seq (fun K1 hK1 => SC.region ?_)
  refine SL.box (cs := [_, _, _, _, _, _, _]) rfl rfl rfl rfl rfl (fun b1 => ?_)
  refine SL.step (PS.assign rfl tt rfl rfl) ?_
  refine SL.keep (l' := [(1, _, _)]) ⟨rfl, trivial⟩ ?_
  refine SL.nil (SE.thenK hK1 (SC.seq (fun K2 hK2 => SC.seq (fun K3 hK3 => SC.region ?_))))
  refine SL.callV (vs := []) Try.call5 trivial (fun hg => lathelaw15_lives_V  ) rfl rfl ?_
  refine SL.step (PS.not rfl tt rfl rfl) ?_
  refine SL.keep (l' := [(8, _, _), (1, _, _)]) ⟨rfl, rfl, trivial⟩ ?_
  refine SL.nil (SE.thenK hK3 ?_)
  refine SC.cond_f rfl (by rw [lives15]; rfl) ?_
  refine SC.skip (SE.thenK hK2 (SC.seq (fun K4 hK4 => SC.seq (fun K5 hK5 => SC.region ?_))))
  refine SL.step (PS.fieldAddr rfl tt Try.fieldAt_25_5 rfl rfl) ?_
  refine SL.step (PS.load_own (k := 0) rfl tt rfl rfl rfl Try.isAgg22 rfl rfl) ?_
  refine SL.step (PS.len_slice rfl tt Try.underlying22 rfl rfl) ?_
  refine SL.know (p := p0.args.l.length ≤ 9223372036854775807) (fun w h => (((h)).args).le) (fun hle2 => ?_)
  refine SL.step (PS.gtr rfl tt rfl tt rfl rfl) ?_
  refine SL.keep (l' := [(12, _, _), (1, _, _)]) ⟨rfl, rfl, trivial⟩ ?_
  refine SL.nil (SE.thenK hK5 ?_)
  refine SC.cond rfl (fun c12 => ?_) (fun c12 => ?_)
  ·
   refine SC.seq (fun K6 hK6 => SC.region ?_)
   refine SL.step (PS.assign rfl tt rfl rfl) ?_
   refine SL.keep (l' := [(2, _, _)]) ⟨rfl, trivial⟩ ?_
   refine SL.nil (SE.thenK hK6 (SC.ret (SE.then_ret ?_)))
   exact fin1 rfl rfl rfl (fun _ _ => congrArg (fun z : Bool => Value.bool z) (show (d_lathelaw15_FoldOne p0) = (true : Bool) from (bifT c12)).symm)
  ·
   have c12n := c12
   try simp only [Bool.and_eq_true, Bool.or_eq_true, decide_eq_true_eq, Bool.true_and, Bool.not_eq_true', Bool.not_eq_false', beq_iff_eq, bne_iff_ne, decide_eq_false_iff_not, beq_eq_false_iff_ne, bne_eq_false_iff_eq, ne_eq, Bool.or_eq_false_iff, Bool.and_eq_false_iff] at c12n
   refine SC.skip (SE.thenK hK4 (SC.seq (fun K7 hK7 => SC.region ?_)))
   refine SL.step (PS.load_own_agg (k := 0) (vs := [_, _, _, _, _, _, _]) rfl tt rfl rfl rfl rfl Try.isAgg25 Try.sizeOf25 rfl rfl) ?_
   refine SL.callR (vs := [_]) Try.call6 ⟨⟨_, rfl, tt⟩, trivial⟩ (fun hg => foldI_S p0 (by first | omega | exact Nat.le_of_ble_eq_true rfl)) (fun w h hok hg => (h)) rfl rfl ?_
   refine SL.step (PS.move rfl tt rfl rfl) ?_
   refine SL.step (PS.extract rfl tt rfl rfl rfl) ?_
   refine SL.step (PS.extract rfl tt rfl rfl rfl) ?_
   refine SL.alloc (cs := [_, _, _]) Try.zeroValue29 rfl rfl rfl (fun b3 => ?_)
   refine SL.store_own (k := 0) (own' := [_, _]) (cs' := [_, _, _]) rfl rfl rfl rfl rfl rfl rfl Try.sizeOf29 rfl (Nat.le_of_ble_eq_true rfl) rfl rfl rfl rfl ?_
   refine SL.step (PS.assign rfl tt rfl rfl) ?_
   refine SL.keep (l' := [(4, _, _), (3, _, _), (1, _, _)]) ⟨rfl, rfl, rfl, trivial⟩ ?_
   refine SL.nil (SE.thenK hK7 (SC.seq (fun K8 hK8 => SC.region ?_)))
   refine SL.step (PS.load_own_agg (k := 1) (vs := [_, _, _, _, _, _, _]) rfl tt rfl rfl rfl rfl Try.isAgg25 Try.sizeOf25 rfl rfl) ?_
   refine SL.callR (vs := [_]) Try.call7 ⟨⟨_, rfl, tt⟩, trivial⟩ (fun hg => foldR_S p0 (by first | omega | exact Nat.le_of_ble_eq_true rfl)) (fun w h hok hg => (h)) rfl rfl ?_
   refine SL.step (PS.move rfl tt rfl rfl) ?_
   refine SL.step (PS.extract rfl tt rfl rfl rfl) ?_
   refine SL.step (PS.extract rfl tt rfl rfl rfl) ?_
   refine SL.alloc (cs := [_, _, _]) Try.zeroValue29 rfl rfl rfl (fun b5 => ?_)
   refine SL.store_own (k := 0) (own' := [_, _, _]) (cs' := [_, _, _]) rfl rfl rfl rfl rfl rfl rfl Try.sizeOf29 rfl (Nat.le_of_ble_eq_true rfl) rfl rfl rfl rfl ?_
   refine SL.step (PS.assign rfl tt rfl rfl) ?_
   refine SL.keep (l' := [(6, _, _), (5, _, _), (4, _, _), (3, _, _)]) ⟨rfl, rfl, rfl, rfl, trivial⟩ ?_
   refine SL.nil (SE.thenK hK8 (SC.seq (fun K9 hK9 => SC.region ?_)))
   refine SL.step (PS.load_own_agg (k := 1) (vs := [_, _, _]) rfl tt rfl rfl rfl rfl Try.isAgg29 Try.sizeOf29 rfl rfl) ?_
   refine SL.step (PS.load_own_agg (k := 0) (vs := [_, _, _]) rfl tt rfl rfl rfl rfl Try.isAgg29 Try.sizeOf29 rfl rfl) ?_
   refine SL.step (PS.eqlA (u := .agg [.int .i64 (((foldI p0).1).k), .int .i64 (((foldI p0).1).n), .int .u64 (((foldI p0).1).b)].toArray) (v := .agg [.int .i64 (((foldI p0).1).k), .int .i64 (((foldI p0).1).n), .int .u64 (((foldI p0).1).b)].toArray) rfl tt rfl tt (fun x y w => Opd_eql x y ((foldI p0).1) ((foldI p0).1) w) rfl rfl) ?_
   refine SL.step (PS.move rfl tt rfl rfl) ?_
   refine SL.step (PS.move rfl tt rfl rfl) ?_
   refine SL.step (PS.move rfl tt rfl rfl) ?_
   refine SL.step (PS.eqlB rfl (fun h => h) rfl (fun h => h) Try.underlying4 rfl rfl) ?_
   refine SL.step (PS.pick_and rfl tt rfl (fun h h2 => pk_and h h2) rfl rfl) ?_
   refine SL.step (PS.assign rfl tt rfl rfl) ?_
   refine SL.keep (l' := [(2, _, _)]) ⟨rfl, trivial⟩ ?_
   refine SL.nil (SE.thenK hK9 (SC.ret ?_))
   exact fin1 rfl rfl rfl (fun _ _ => congrArg (fun z : Bool => Value.bool z) (show (d_lathelaw15_FoldOne p0) = (((decide (((foldI p0).1) = ((foldI p0).1))) && ((foldI p0).2 == (foldI p0).2)) : Bool) from (bifF c12)).symm)
theorem foldOne_law (p : Ins) : d_lathelaw15_FoldOne p = true := by
  unfold d_lathelaw15_FoldOne
  cases decide (1000 < (p.args.l.length : Int))
  · simp
  · rfl
theorem FoldOne_S (p0 : Ins) : Spec Try.prog 3 [.agg (Dat.cells p0).toArray] (fun w => Dat.ok p0 w) (fun v _ => v = .bool true) := by
  have := lathelaw15_FoldOne_S p0
  rw [foldOne_law] at this; exact this
end Go.Proofs.Ytffimfmicapaaaa
