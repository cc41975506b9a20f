/- The laws of layer 10: what the program's statements compute. -/
import Derived.Test.YtdiimckjmggjlaaEvalL
namespace Go.Proofs.Ytdiimckjmggjlaa
open Go.RowKit
set_option linter.unusedVariables false
set_option linter.unusedSimpArgs false
set_option maxRecDepth 100000
set_option maxHeartbeats 4000000
open Pl (Vl)
theorem EvalFlags_S (i : In) (A : Option Addr) (c : Nat) (xs : List Vl) (hx : ∀ x ∈ xs, 0 ≤ x.b ∧ x.b < 18446744073709551616) (hf : -9223372036854775808 ≤ i.f ∧ i.f ≤ 9223372036854775807) :
    Spec Try.prog 5 [i.val, .slice A xs.length c] (Sl 4 Vl.cells A xs) (fun v _ => v = .bool true) := by
  refine Spec.enter Try.func5 rfl (n := 43) Try.ntmps5 (Nat.le_of_ble_eq_true rfl) (l := [(0, _, _), (1, _, _)]) rfl ?_
  intro S w
  refine SC.seq (fun K1 hK1 => ?_)
  refine SC.region ?_
  refine SL.box (cs := [_, _, _, _, _, _, _]) rfl rfl rfl rfl rfl (fun b2 => ?_)
  refine SL.step (PS.assign rfl (fun _ => rfl) rfl rfl) ?_
  refine SL.keep (l' := [(2, _, _), (1, _, _)]) ⟨rfl, rfl, trivial⟩ ?_
  refine SL.nil ?_
  refine SE.thenK hK1 ?_
  refine SC.seq (fun K2 hK2 => ?_)
  refine SC.seq (fun K3 hK3 => ?_)
  refine SC.region ?_
  refine SL.callV (vs := []) Try.call8 trivial (fun hg => lives_V) rfl rfl ?_
  refine SL.step (PS.not rfl (fun _ => rfl) rfl rfl) ?_
  refine SL.keep (l' := [(11, _, _), (2, _, _), (1, _, _)]) ⟨rfl, rfl, rfl, trivial⟩ ?_
  refine SL.nil ?_
  refine SE.thenK hK3 ?_
  refine SC.cond_f rfl (rfl) ?_
  refine SC.skip ?_
  refine SE.thenK hK2 ?_
  refine SC.seq (fun K4 hK4 => ?_)
  refine SC.seq (fun K5 hK5 => ?_)
  refine SC.region ?_
  refine SL.step (PS.move rfl (fun _ => rfl) rfl rfl) ?_
  refine SL.step (PS.len_slice rfl (fun _ => rfl) Try.underlying26 rfl rfl) ?_
  refine SL.step (PS.gtr rfl (fun _ => rfl) rfl (fun _ => rfl) rfl rfl) ?_
  refine SL.keep (l' := [(14, _, _), (2, _, _), (1, _, _)]) ⟨rfl, rfl, rfl, trivial⟩ ?_
  refine SL.nil ?_
  refine SE.thenK hK5 ?_
  refine SC.cond rfl (fun c14 => ?_) (fun c14 => ?_)
  ·
    refine SC.seq (fun K6 hK6 => ?_)
    refine SC.region ?_
    refine SL.step (PS.assign rfl (fun _ => rfl) rfl rfl) ?_
    refine SL.keep (l' := [(4, _, _)]) ⟨rfl, trivial⟩ ?_
    refine SL.nil ?_
    refine SE.thenK hK6 ?_
    refine SC.ret ?_
    refine SE.then_ret ?_
    exact fin1 rfl rfl rfl (fun _ _ => rfl)
  ·
    refine SC.skip ?_
    refine SE.thenK hK4 ?_
    refine SC.seq (fun K7 hK7 => ?_)
    refine SC.region ?_
    refine SL.step (PS.load_own_agg (k := 0) (vs := [_, _, _, _, _, _, _]) rfl (fun _ => rfl) rfl rfl rfl rfl Try.isAgg25 Try.sizeOf25 rfl rfl) ?_
    refine SL.step (PS.move rfl (fun _ => rfl) rfl rfl) ?_
    refine SL.callQ (vs := [_, _]) Try.call9 ⟨⟨_, rfl, (fun _ => rfl)⟩, ⟨_, rfl, (fun _ => rfl)⟩, trivial⟩ (fun hg => Eval_S ⟨_, _, _, _, _, (_, _, _), (_, _, _)⟩ _ _ xs hx hf) (fun w h _ _ => h) rfl rfl (fun vt18 hvt18 => ?_)
    obtain ⟨pt18, hpt18, rfl⟩ := out_ex (hvt18 rfl)
    clear hvt18
    simp only at hpt18
    refine SL.step (PS.move rfl (fun _ => rfl) rfl rfl) ?_
    refine SL.step (PS.extract rfl (fun _ => rfl) rfl rfl rfl) ?_
    refine SL.step (PS.extract rfl (fun _ => rfl) rfl rfl rfl) ?_
    refine SL.alloc (cs := [_, _, _, _]) Try.zeroValue30 rfl rfl rfl (fun b5 => ?_)
    first | refine SL.store_own (k := 0) (own' := [_, _]) (cs' := [_, _, _, _]) rfl rfl rfl rfl rfl rfl rfl Try.sizeOf30 rfl (Nat.le_of_ble_eq_true rfl) rfl rfl rfl rfl ?_ | refine SL.store_own (k := 1) (own' := [_, _]) (cs' := [_, _, _, _, _, _, _]) rfl rfl rfl rfl rfl rfl rfl Try.sizeOf30 rfl (Nat.le_of_ble_eq_true rfl) rfl rfl rfl rfl ?_
    refine SL.step (PS.assign rfl (fun _ => rfl) rfl rfl) ?_
    refine SL.keep (l' := [(6, _, _), (5, _, _), (2, _, _), (1, _, _)]) ⟨rfl, rfl, rfl, rfl, trivial⟩ ?_
    refine SL.nil ?_
    refine SE.thenK hK7 ?_
    refine SC.seq (fun K8 hK8 => ?_)
    refine SC.region ?_
    first | refine SL.step (PS.load_own_agg (k := 0) (vs := [_, _, _, _, _, _, _]) rfl (fun _ => rfl) rfl rfl rfl rfl Try.isAgg25 Try.sizeOf25 rfl rfl) ?_ | refine SL.step (PS.load_own_agg (k := 1) (vs := [_, _, _, _, _, _, _]) rfl (fun _ => rfl) rfl rfl rfl rfl Try.isAgg25 Try.sizeOf25 rfl rfl) ?_
    refine SL.alloc (cs := [_, _, _, _, _, _, _]) Try.zeroValue25 rfl rfl rfl (fun b7 => ?_)
    first | refine SL.store_own (k := 0) (own' := [_, _, _]) (cs' := [_, _, _, _, _, _, _]) rfl rfl rfl rfl rfl rfl rfl Try.sizeOf25 rfl (Nat.le_of_ble_eq_true rfl) rfl rfl rfl rfl ?_ | refine SL.store_own (k := 1) (own' := [_, _, _]) (cs' := [_, _, _, _]) rfl rfl rfl rfl rfl rfl rfl Try.sizeOf25 rfl (Nat.le_of_ble_eq_true rfl) rfl rfl rfl rfl ?_ | refine SL.store_own (k := 2) (own' := [_, _, _]) (cs' := [_, _, _, _, _, _, _]) rfl rfl rfl rfl rfl rfl rfl Try.sizeOf25 rfl (Nat.le_of_ble_eq_true rfl) rfl rfl rfl rfl ?_
    refine SL.keep (l' := [(7, _, _), (6, _, _), (5, _, _), (1, _, _)]) ⟨rfl, rfl, rfl, rfl, trivial⟩ ?_
    refine SL.nil ?_
    refine SE.thenK hK8 ?_
    refine SC.seq (fun K9 hK9 => ?_)
    refine SC.region ?_
    refine SL.step (PS.fieldAddr rfl (fun _ => rfl) Try.fieldAt_25_4 rfl rfl) ?_
    first | refine SL.store_own (k := 0) (own' := [_, _, _]) (cs' := [_, _, _, _, _, _, _]) rfl rfl rfl rfl rfl rfl rfl Try.sizeOf3 rfl (Nat.le_of_ble_eq_true rfl) rfl rfl rfl rfl ?_ | refine SL.store_own (k := 1) (own' := [_, _, _]) (cs' := [_, _, _, _]) rfl rfl rfl rfl rfl rfl rfl Try.sizeOf3 rfl (Nat.le_of_ble_eq_true rfl) rfl rfl rfl rfl ?_ | refine SL.store_own (k := 2) (own' := [_, _, _]) (cs' := [_, _, _, _, _, _, _]) rfl rfl rfl rfl rfl rfl rfl Try.sizeOf3 rfl (Nat.le_of_ble_eq_true rfl) rfl rfl rfl rfl ?_
    refine SL.keep (l' := [(7, _, _), (6, _, _), (5, _, _), (1, _, _)]) ⟨rfl, rfl, rfl, rfl, trivial⟩ ?_
    refine SL.nil ?_
    refine SE.thenK hK9 ?_
    refine SC.seq (fun K10 hK10 => ?_)
    refine SC.region ?_
    first | refine SL.step (PS.load_own_agg (k := 0) (vs := [_, _, _, _, _, _, _]) rfl (fun _ => rfl) rfl rfl rfl rfl Try.isAgg25 Try.sizeOf25 rfl rfl) ?_ | refine SL.step (PS.load_own_agg (k := 1) (vs := [_, _, _, _, _, _, _]) rfl (fun _ => rfl) rfl rfl rfl rfl Try.isAgg25 Try.sizeOf25 rfl rfl) ?_ | refine SL.step (PS.load_own_agg (k := 2) (vs := [_, _, _, _, _, _, _]) rfl (fun _ => rfl) rfl rfl rfl rfl Try.isAgg25 Try.sizeOf25 rfl rfl) ?_
    refine SL.step (PS.move rfl (fun _ => rfl) rfl rfl) ?_
    refine SL.callQ (vs := [_, _]) Try.call9 ⟨⟨_, rfl, (fun _ => rfl)⟩, ⟨_, rfl, (fun _ => rfl)⟩, trivial⟩ (fun hg => Eval_S ⟨_, _, _, _, 0, (_, _, _), (_, _, _)⟩ _ _ xs hx f0) (fun w h _ _ => h) rfl rfl (fun vt26 hvt26 => ?_)
    obtain ⟨pt26, hpt26, rfl⟩ := out_ex (hvt26 rfl)
    clear hvt26
    simp only at hpt26
    refine SL.step (PS.move rfl (fun _ => rfl) rfl rfl) ?_
    refine SL.step (PS.extract rfl (fun _ => rfl) rfl rfl rfl) ?_
    refine SL.step (PS.extract rfl (fun _ => rfl) rfl rfl rfl) ?_
    refine SL.alloc (cs := [_, _, _, _]) Try.zeroValue30 rfl rfl rfl (fun b8 => ?_)
    first | refine SL.store_own (k := 0) (own' := [_, _, _, _]) (cs' := [_, _, _, _]) rfl rfl rfl rfl rfl rfl rfl Try.sizeOf30 rfl (Nat.le_of_ble_eq_true rfl) rfl rfl rfl rfl ?_ | refine SL.store_own (k := 1) (own' := [_, _, _, _]) (cs' := [_, _, _, _, _, _, _]) rfl rfl rfl rfl rfl rfl rfl Try.sizeOf30 rfl (Nat.le_of_ble_eq_true rfl) rfl rfl rfl rfl ?_ | refine SL.store_own (k := 2) (own' := [_, _, _, _]) (cs' := [_, _, _, _]) rfl rfl rfl rfl rfl rfl rfl Try.sizeOf30 rfl (Nat.le_of_ble_eq_true rfl) rfl rfl rfl rfl ?_ | refine SL.store_own (k := 3) (own' := [_, _, _, _]) (cs' := [_, _, _, _, _, _, _]) rfl rfl rfl rfl rfl rfl rfl Try.sizeOf30 rfl (Nat.le_of_ble_eq_true rfl) rfl rfl rfl rfl ?_
    refine SL.step (PS.assign rfl (fun _ => rfl) rfl rfl) ?_
    refine SL.keep (l' := [(9, _, _), (8, _, _), (6, _, _), (5, _, _)]) ⟨rfl, rfl, rfl, rfl, trivial⟩ ?_
    refine SL.nil ?_
    refine SE.thenK hK10 ?_
    refine SC.seq (fun K11 hK11 => ?_)
    refine SC.seq (fun K12 hK12 => ?_)
    refine SC.region ?_
    refine SL.step (PS.move rfl (fun _ => rfl) rfl rfl) ?_
    refine SL.step (PS.eql rfl (fun _ => rfl) rfl (fun _ => rfl) rfl rfl) ?_
    refine SL.keep (l' := [(30, _, _), (9, _, _), (8, _, _), (6, _, _), (5, _, _)]) ⟨rfl, rfl, rfl, rfl, rfl, trivial⟩ ?_
    refine SL.nil ?_
    refine SE.thenK hK12 ?_
    refine SC.cond rfl (fun c30 => ?_) (fun c30 => ?_)
    ·
      refine SC.seq (fun K13 hK13 => ?_)
      refine SC.region ?_
      refine SL.step (PS.assign rfl (fun _ => rfl) rfl rfl) ?_
      refine SL.keep (l' := [(4, _, _)]) ⟨rfl, trivial⟩ ?_
      refine SL.nil ?_
      refine SE.thenK hK13 ?_
      refine SC.ret ?_
      refine SE.then_ret ?_
      exact fin1 rfl rfl rfl (fun _ _ => rfl)
    ·
      refine SC.skip ?_
      refine SE.thenK hK11 ?_
      refine SC.seq (fun K14 hK14 => ?_)
      refine SC.region ?_
      refine SL.step (PS.move rfl (fun _ => rfl) rfl rfl) ?_
      refine SL.step (PS.move rfl (fun _ => rfl) rfl rfl) ?_
      refine SL.step (PS.eql rfl (fun _ => rfl) rfl (fun _ => rfl) rfl rfl) ?_
      refine SL.step (PS.move rfl (fun _ => rfl) rfl rfl) ?_
      refine SL.step (PS.move rfl (fun _ => rfl) rfl rfl) ?_
      refine SL.step (PS.neq rfl (fun h => h) rfl (fun _ => rfl) rfl rfl) ?_
      refine SL.step (PS.move rfl (fun h => h) rfl rfl) ?_
      first | refine SL.step (PS.load_own_agg (k := 0) (vs := [_, _, _, _]) rfl (fun _ => rfl) rfl rfl rfl rfl Try.isAgg30 Try.sizeOf30 rfl rfl) ?_ | refine SL.step (PS.load_own_agg (k := 1) (vs := [_, _, _, _]) rfl (fun _ => rfl) rfl rfl rfl rfl Try.isAgg30 Try.sizeOf30 rfl rfl) ?_ | refine SL.step (PS.load_own_agg (k := 2) (vs := [_, _, _, _]) rfl (fun _ => rfl) rfl rfl rfl rfl Try.isAgg30 Try.sizeOf30 rfl rfl) ?_ | refine SL.step (PS.load_own_agg (k := 3) (vs := [_, _, _, _]) rfl (fun _ => rfl) rfl rfl rfl rfl Try.isAgg30 Try.sizeOf30 rfl rfl) ?_
      first | refine SL.step (PS.load_own_agg (k := 0) (vs := [_, _, _, _]) rfl (fun _ => rfl) rfl rfl rfl rfl Try.isAgg30 Try.sizeOf30 rfl rfl) ?_ | refine SL.step (PS.load_own_agg (k := 1) (vs := [_, _, _, _]) rfl (fun _ => rfl) rfl rfl rfl rfl Try.isAgg30 Try.sizeOf30 rfl rfl) ?_ | refine SL.step (PS.load_own_agg (k := 2) (vs := [_, _, _, _]) rfl (fun _ => rfl) rfl rfl rfl rfl Try.isAgg30 Try.sizeOf30 rfl rfl) ?_ | refine SL.step (PS.load_own_agg (k := 3) (vs := [_, _, _, _]) rfl (fun _ => rfl) rfl rfl rfl rfl Try.isAgg30 Try.sizeOf30 rfl rfl) ?_
      refine SL.callV (vs := [_, _]) Try.call12 ⟨⟨_, rfl, (fun h => h)⟩, ⟨_, rfl, (fun h => h)⟩, trivial⟩ (fun hg => better_V _ _) rfl rfl ?_
      refine SL.step (PS.pick_or rfl (fun h => h) rfl (fun h h2 => pk_or h h2) rfl rfl) ?_
      refine SL.step (PS.pick_and rfl (fun _ => rfl) rfl (fun h h2 => pk_and h h2) rfl rfl) ?_
      refine SL.step (PS.assign rfl (fun _ => rfl) rfl rfl) ?_
      refine SL.keep (l' := [(4, _, _)]) ⟨rfl, trivial⟩ ?_
      refine SL.nil ?_
      refine SE.thenK hK14 ?_
      refine SC.ret ?_
      exact fin1 rfl rfl rfl (fun _ _ => by subst hpt18 hpt26; exact congrArg Value.bool (Pl.flags_law c30))
theorem EvalCommutes_S (i : In) (x y : Vl) (hx : Bd x) (hy : Bd y) (hf : -9223372036854775808 ≤ i.f ∧ i.f ≤ 9223372036854775807) :
    Spec Try.prog 6 [i.val, x.val, y.val] (fun _ => True) (fun v _ => v = .bool true) := by
  refine Spec.enter Try.func6 rfl (n := 47) Try.ntmps6 (Nat.le_of_ble_eq_true rfl) (l := [(0, _, _), (1, _, _), (2, _, _)]) rfl ?_
  intro S w
  refine SC.seq (fun K1 hK1 => ?_)
  refine SC.region ?_
  refine SL.box (cs := [_, _, _, _, _, _, _]) rfl rfl rfl rfl rfl (fun b3 => ?_)
  refine SL.box (cs := [_, _, _, _]) rfl rfl rfl rfl rfl (fun b4 => ?_)
  refine SL.box (cs := [_, _, _, _]) rfl rfl rfl rfl rfl (fun b5 => ?_)
  refine SL.step (PS.assign rfl (fun _ => rfl) rfl rfl) ?_
  refine SL.keep (l' := [(5, _, _), (4, _, _), (3, _, _)]) ⟨rfl, rfl, rfl, trivial⟩ ?_
  refine SL.nil ?_
  refine SE.thenK hK1 ?_
  refine SC.seq (fun K2 hK2 => ?_)
  refine SC.seq (fun K3 hK3 => ?_)
  refine SC.region ?_
  refine SL.callV (vs := []) Try.call8 trivial (fun hg => lives_V) rfl rfl ?_
  refine SL.step (PS.not rfl (fun _ => rfl) rfl rfl) ?_
  refine SL.keep (l' := [(12, _, _), (5, _, _), (4, _, _), (3, _, _)]) ⟨rfl, rfl, rfl, rfl, trivial⟩ ?_
  refine SL.nil ?_
  refine SE.thenK hK3 ?_
  refine SC.cond_f rfl (rfl) ?_
  refine SC.skip ?_
  refine SE.thenK hK2 ?_
  refine SC.seq (fun K4 hK4 => ?_)
  refine SC.seq (fun K5 hK5 => ?_)
  refine SC.region ?_
  refine SL.step (PS.fieldAddr rfl (fun _ => rfl) Try.fieldAt_25_0 rfl rfl) ?_
  first | refine SL.step (PS.load_own (k := 0) rfl (fun _ => rfl) rfl rfl rfl Try.isAgg3 rfl rfl) ?_ | refine SL.step (PS.load_own (k := 1) rfl (fun _ => rfl) rfl rfl rfl Try.isAgg3 rfl rfl) ?_ | refine SL.step (PS.load_own (k := 2) rfl (fun _ => rfl) rfl rfl rfl Try.isAgg3 rfl rfl) ?_
  refine SL.keep (l' := [(14, _, _), (5, _, _), (4, _, _), (3, _, _)]) ⟨rfl, rfl, rfl, rfl, trivial⟩ ?_
  refine SL.nil ?_
  refine SE.thenK hK5 ?_
  refine SC.block ?_
  refine SC.seq (fun K6 hK6 => ?_)
  refine SC.seq (fun K7 hK7 => ?_)
  refine SC.region ?_
  refine SL.step (PS.eql rfl (fun _ => rfl) rfl (fun _ => rfl) rfl rfl) ?_
  refine SL.step (PS.assign rfl (fun _ => rfl) rfl rfl) ?_
  refine SL.keep (l' := [(15, _, _), (14, _, _), (5, _, _), (4, _, _), (3, _, _)]) ⟨rfl, rfl, rfl, rfl, rfl, trivial⟩ ?_
  refine SL.nil ?_
  refine SE.thenK hK7 ?_
  refine SC.cond rfl (fun c15 => ?_) (fun c15 => ?_)
  ·
    refine SC.skip ?_
    refine SE.thenK hK6 ?_
    refine SC.cond_t rfl c15 ?_
    refine SC.skip ?_
    refine SE.block_normal ?_
    refine SE.thenK hK4 ?_
    refine SC.seq (fun K8 hK8 => ?_)
    refine SC.region ?_
    first | refine SL.step (PS.load_own_agg (k := 0) (vs := [_, _, _, _, _, _, _]) rfl (fun _ => rfl) rfl rfl rfl rfl Try.isAgg25 Try.sizeOf25 rfl rfl) ?_ | refine SL.step (PS.load_own_agg (k := 1) (vs := [_, _, _, _, _, _, _]) rfl (fun _ => rfl) rfl rfl rfl rfl Try.isAgg25 Try.sizeOf25 rfl rfl) ?_ | refine SL.step (PS.load_own_agg (k := 2) (vs := [_, _, _, _, _, _, _]) rfl (fun _ => rfl) rfl rfl rfl rfl Try.isAgg25 Try.sizeOf25 rfl rfl) ?_
    first | refine SL.step (PS.load_own_agg (k := 0) (vs := [_, _, _, _]) rfl (fun _ => rfl) rfl rfl rfl rfl Try.isAgg30 Try.sizeOf30 rfl rfl) ?_ | refine SL.step (PS.load_own_agg (k := 1) (vs := [_, _, _, _]) rfl (fun _ => rfl) rfl rfl rfl rfl Try.isAgg30 Try.sizeOf30 rfl rfl) ?_ | refine SL.step (PS.load_own_agg (k := 2) (vs := [_, _, _, _]) rfl (fun _ => rfl) rfl rfl rfl rfl Try.isAgg30 Try.sizeOf30 rfl rfl) ?_
    first | refine SL.step (PS.load_own_agg (k := 0) (vs := [_, _, _, _]) rfl (fun _ => rfl) rfl rfl rfl rfl Try.isAgg30 Try.sizeOf30 rfl rfl) ?_ | refine SL.step (PS.load_own_agg (k := 1) (vs := [_, _, _, _]) rfl (fun _ => rfl) rfl rfl rfl rfl Try.isAgg30 Try.sizeOf30 rfl rfl) ?_ | refine SL.step (PS.load_own_agg (k := 2) (vs := [_, _, _, _]) rfl (fun _ => rfl) rfl rfl rfl rfl Try.isAgg30 Try.sizeOf30 rfl rfl) ?_
    refine SL.buildSlice (us := [(0, _), (1, _)]) (cs := [_, _, _, _, _, _, _, _]) ⟨rfl, ⟨_, rfl, (fun _ => rfl)⟩, ⟨rfl, ⟨_, rfl, (fun _ => rfl)⟩, trivial⟩⟩ Try.underlying26 Try.sizeOf30 Try.zeroValue30 ⟨rfl, rfl, _, rfl, ⟨rfl, rfl, _, rfl, trivial⟩⟩ rfl (by decide) rfl rfl (fun b27 => ?_)
    refine SL.callQ (vs := [_, _]) Try.call9 ⟨⟨_, rfl, (fun _ => rfl)⟩, ⟨_, rfl, (fun _ => rfl)⟩, trivial⟩ (fun hg => Eval_S ⟨_, _, _, _, _, (_, _, _), (_, _, _)⟩ _ _ [x, y] (bnd2 hx hy) hf) (fun w h hok _ => Sl.of_blk cells_len rfl (own_get hok (k := 0) rfl)) rfl rfl (fun vt28 hvt28 => ?_)
    obtain ⟨pt28, hpt28, rfl⟩ := out_ex (hvt28 rfl)
    clear hvt28
    simp only at hpt28
    refine SL.step (PS.move rfl (fun _ => rfl) rfl rfl) ?_
    refine SL.step (PS.extract rfl (fun _ => rfl) rfl rfl rfl) ?_
    refine SL.step (PS.extract rfl (fun _ => rfl) rfl rfl rfl) ?_
    refine SL.alloc (cs := [_, _, _, _]) Try.zeroValue30 rfl rfl rfl (fun b7 => ?_)
    first | refine SL.store_own (k := 0) (own' := [_, _, _, _, _]) (cs' := [_, _, _, _]) rfl rfl rfl rfl rfl rfl rfl Try.sizeOf30 rfl (Nat.le_of_ble_eq_true rfl) rfl rfl rfl rfl ?_ | refine SL.store_own (k := 1) (own' := [_, _, _, _, _]) (cs' := [_, _, _, _, _, _, _, _]) rfl rfl rfl rfl rfl rfl rfl Try.sizeOf30 rfl (Nat.le_of_ble_eq_true rfl) rfl rfl rfl rfl ?_ | refine SL.store_own (k := 2) (own' := [_, _, _, _, _]) (cs' := [_, _, _, _]) rfl rfl rfl rfl rfl rfl rfl Try.sizeOf30 rfl (Nat.le_of_ble_eq_true rfl) rfl rfl rfl rfl ?_ | refine SL.store_own (k := 3) (own' := [_, _, _, _, _]) (cs' := [_, _, _, _]) rfl rfl rfl rfl rfl rfl rfl Try.sizeOf30 rfl (Nat.le_of_ble_eq_true rfl) rfl rfl rfl rfl ?_ | refine SL.store_own (k := 4) (own' := [_, _, _, _, _]) (cs' := [_, _, _, _, _, _, _]) rfl rfl rfl rfl rfl rfl rfl Try.sizeOf30 rfl (Nat.le_of_ble_eq_true rfl) rfl rfl rfl rfl ?_
    refine SL.step (PS.assign rfl (fun _ => rfl) rfl rfl) ?_
    refine SL.keep (l' := [(8, _, _), (7, _, _), (5, _, _), (4, _, _), (3, _, _)]) ⟨rfl, rfl, rfl, rfl, rfl, trivial⟩ ?_
    refine SL.nil ?_
    refine SE.thenK hK8 ?_
    refine SC.seq (fun K9 hK9 => ?_)
    refine SC.region ?_
    first | refine SL.step (PS.load_own_agg (k := 0) (vs := [_, _, _, _, _, _, _]) rfl (fun _ => rfl) rfl rfl rfl rfl Try.isAgg25 Try.sizeOf25 rfl rfl) ?_ | refine SL.step (PS.load_own_agg (k := 1) (vs := [_, _, _, _, _, _, _]) rfl (fun _ => rfl) rfl rfl rfl rfl Try.isAgg25 Try.sizeOf25 rfl rfl) ?_ | refine SL.step (PS.load_own_agg (k := 2) (vs := [_, _, _, _, _, _, _]) rfl (fun _ => rfl) rfl rfl rfl rfl Try.isAgg25 Try.sizeOf25 rfl rfl) ?_ | refine SL.step (PS.load_own_agg (k := 3) (vs := [_, _, _, _, _, _, _]) rfl (fun _ => rfl) rfl rfl rfl rfl Try.isAgg25 Try.sizeOf25 rfl rfl) ?_ | refine SL.step (PS.load_own_agg (k := 4) (vs := [_, _, _, _, _, _, _]) rfl (fun _ => rfl) rfl rfl rfl rfl Try.isAgg25 Try.sizeOf25 rfl rfl) ?_
    first | refine SL.step (PS.load_own_agg (k := 0) (vs := [_, _, _, _]) rfl (fun _ => rfl) rfl rfl rfl rfl Try.isAgg30 Try.sizeOf30 rfl rfl) ?_ | refine SL.step (PS.load_own_agg (k := 1) (vs := [_, _, _, _]) rfl (fun _ => rfl) rfl rfl rfl rfl Try.isAgg30 Try.sizeOf30 rfl rfl) ?_ | refine SL.step (PS.load_own_agg (k := 2) (vs := [_, _, _, _]) rfl (fun _ => rfl) rfl rfl rfl rfl Try.isAgg30 Try.sizeOf30 rfl rfl) ?_ | refine SL.step (PS.load_own_agg (k := 3) (vs := [_, _, _, _]) rfl (fun _ => rfl) rfl rfl rfl rfl Try.isAgg30 Try.sizeOf30 rfl rfl) ?_ | refine SL.step (PS.load_own_agg (k := 4) (vs := [_, _, _, _]) rfl (fun _ => rfl) rfl rfl rfl rfl Try.isAgg30 Try.sizeOf30 rfl rfl) ?_
    first | refine SL.step (PS.load_own_agg (k := 0) (vs := [_, _, _, _]) rfl (fun _ => rfl) rfl rfl rfl rfl Try.isAgg30 Try.sizeOf30 rfl rfl) ?_ | refine SL.step (PS.load_own_agg (k := 1) (vs := [_, _, _, _]) rfl (fun _ => rfl) rfl rfl rfl rfl Try.isAgg30 Try.sizeOf30 rfl rfl) ?_ | refine SL.step (PS.load_own_agg (k := 2) (vs := [_, _, _, _]) rfl (fun _ => rfl) rfl rfl rfl rfl Try.isAgg30 Try.sizeOf30 rfl rfl) ?_ | refine SL.step (PS.load_own_agg (k := 3) (vs := [_, _, _, _]) rfl (fun _ => rfl) rfl rfl rfl rfl Try.isAgg30 Try.sizeOf30 rfl rfl) ?_ | refine SL.step (PS.load_own_agg (k := 4) (vs := [_, _, _, _]) rfl (fun _ => rfl) rfl rfl rfl rfl Try.isAgg30 Try.sizeOf30 rfl rfl) ?_
    refine SL.buildSlice (us := [(0, _), (1, _)]) (cs := [_, _, _, _, _, _, _, _]) ⟨rfl, ⟨_, rfl, (fun _ => rfl)⟩, ⟨rfl, ⟨_, rfl, (fun _ => rfl)⟩, trivial⟩⟩ Try.underlying26 Try.sizeOf30 Try.zeroValue30 ⟨rfl, rfl, _, rfl, ⟨rfl, rfl, _, rfl, trivial⟩⟩ rfl (by decide) rfl rfl (fun b35 => ?_)
    refine SL.callQ (vs := [_, _]) Try.call9 ⟨⟨_, rfl, (fun _ => rfl)⟩, ⟨_, rfl, (fun _ => rfl)⟩, trivial⟩ (fun hg => Eval_S ⟨_, _, _, _, _, (_, _, _), (_, _, _)⟩ _ _ [y, x] (bnd2 hy hx) hf) (fun w h hok _ => Sl.of_blk cells_len rfl (own_get hok (k := 0) rfl)) rfl rfl (fun vt36 hvt36 => ?_)
    obtain ⟨pt36, hpt36, rfl⟩ := out_ex (hvt36 rfl)
    clear hvt36
    simp only at hpt36
    refine SL.step (PS.move rfl (fun _ => rfl) rfl rfl) ?_
    refine SL.step (PS.extract rfl (fun _ => rfl) rfl rfl rfl) ?_
    refine SL.step (PS.extract rfl (fun _ => rfl) rfl rfl rfl) ?_
    refine SL.alloc (cs := [_, _, _, _]) Try.zeroValue30 rfl rfl rfl (fun b9 => ?_)
    first | refine SL.store_own (k := 0) (own' := [_, _, _, _, _, _, _]) (cs' := [_, _, _, _]) rfl rfl rfl rfl rfl rfl rfl Try.sizeOf30 rfl (Nat.le_of_ble_eq_true rfl) rfl rfl rfl rfl ?_ | refine SL.store_own (k := 1) (own' := [_, _, _, _, _, _, _]) (cs' := [_, _, _, _, _, _, _, _]) rfl rfl rfl rfl rfl rfl rfl Try.sizeOf30 rfl (Nat.le_of_ble_eq_true rfl) rfl rfl rfl rfl ?_ | refine SL.store_own (k := 2) (own' := [_, _, _, _, _, _, _]) (cs' := [_, _, _, _]) rfl rfl rfl rfl rfl rfl rfl Try.sizeOf30 rfl (Nat.le_of_ble_eq_true rfl) rfl rfl rfl rfl ?_ | refine SL.store_own (k := 3) (own' := [_, _, _, _, _, _, _]) (cs' := [_, _, _, _, _, _, _, _]) rfl rfl rfl rfl rfl rfl rfl Try.sizeOf30 rfl (Nat.le_of_ble_eq_true rfl) rfl rfl rfl rfl ?_ | refine SL.store_own (k := 4) (own' := [_, _, _, _, _, _, _]) (cs' := [_, _, _, _]) rfl rfl rfl rfl rfl rfl rfl Try.sizeOf30 rfl (Nat.le_of_ble_eq_true rfl) rfl rfl rfl rfl ?_ | refine SL.store_own (k := 5) (own' := [_, _, _, _, _, _, _]) (cs' := [_, _, _, _]) rfl rfl rfl rfl rfl rfl rfl Try.sizeOf30 rfl (Nat.le_of_ble_eq_true rfl) rfl rfl rfl rfl ?_ | refine SL.store_own (k := 6) (own' := [_, _, _, _, _, _, _]) (cs' := [_, _, _, _, _, _, _]) rfl rfl rfl rfl rfl rfl rfl Try.sizeOf30 rfl (Nat.le_of_ble_eq_true rfl) rfl rfl rfl rfl ?_
    refine SL.step (PS.assign rfl (fun _ => rfl) rfl rfl) ?_
    refine SL.keep (l' := [(10, _, _), (9, _, _), (8, _, _), (7, _, _)]) ⟨rfl, rfl, rfl, rfl, trivial⟩ ?_
    refine SL.nil ?_
    refine SE.thenK hK9 ?_
    refine SC.seq (fun K10 hK10 => ?_)
    refine SC.region ?_
    first | refine SL.step (PS.load_own_agg (k := 0) (vs := [_, _, _, _]) rfl (fun _ => rfl) rfl rfl rfl rfl Try.isAgg30 Try.sizeOf30 rfl rfl) ?_ | refine SL.step (PS.load_own_agg (k := 1) (vs := [_, _, _, _]) rfl (fun _ => rfl) rfl rfl rfl rfl Try.isAgg30 Try.sizeOf30 rfl rfl) ?_ | refine SL.step (PS.load_own_agg (k := 2) (vs := [_, _, _, _]) rfl (fun _ => rfl) rfl rfl rfl rfl Try.isAgg30 Try.sizeOf30 rfl rfl) ?_ | refine SL.step (PS.load_own_agg (k := 3) (vs := [_, _, _, _]) rfl (fun _ => rfl) rfl rfl rfl rfl Try.isAgg30 Try.sizeOf30 rfl rfl) ?_ | refine SL.step (PS.load_own_agg (k := 4) (vs := [_, _, _, _]) rfl (fun _ => rfl) rfl rfl rfl rfl Try.isAgg30 Try.sizeOf30 rfl rfl) ?_ | refine SL.step (PS.load_own_agg (k := 5) (vs := [_, _, _, _]) rfl (fun _ => rfl) rfl rfl rfl rfl Try.isAgg30 Try.sizeOf30 rfl rfl) ?_ | refine SL.step (PS.load_own_agg (k := 6) (vs := [_, _, _, _]) rfl (fun _ => rfl) rfl rfl rfl rfl Try.isAgg30 Try.sizeOf30 rfl rfl) ?_
    first | refine SL.step (PS.load_own_agg (k := 0) (vs := [_, _, _, _]) rfl (fun _ => rfl) rfl rfl rfl rfl Try.isAgg30 Try.sizeOf30 rfl rfl) ?_ | refine SL.step (PS.load_own_agg (k := 1) (vs := [_, _, _, _]) rfl (fun _ => rfl) rfl rfl rfl rfl Try.isAgg30 Try.sizeOf30 rfl rfl) ?_ | refine SL.step (PS.load_own_agg (k := 2) (vs := [_, _, _, _]) rfl (fun _ => rfl) rfl rfl rfl rfl Try.isAgg30 Try.sizeOf30 rfl rfl) ?_ | refine SL.step (PS.load_own_agg (k := 3) (vs := [_, _, _, _]) rfl (fun _ => rfl) rfl rfl rfl rfl Try.isAgg30 Try.sizeOf30 rfl rfl) ?_ | refine SL.step (PS.load_own_agg (k := 4) (vs := [_, _, _, _]) rfl (fun _ => rfl) rfl rfl rfl rfl Try.isAgg30 Try.sizeOf30 rfl rfl) ?_ | refine SL.step (PS.load_own_agg (k := 5) (vs := [_, _, _, _]) rfl (fun _ => rfl) rfl rfl rfl rfl Try.isAgg30 Try.sizeOf30 rfl rfl) ?_ | refine SL.step (PS.load_own_agg (k := 6) (vs := [_, _, _, _]) rfl (fun _ => rfl) rfl rfl rfl rfl Try.isAgg30 Try.sizeOf30 rfl rfl) ?_
    refine SL.step (PS.eqlA rfl (fun _ => rfl) rfl (fun _ => rfl) (by intro x y w; first | exact val_eql x y _ _ w | exact val_eql x y ⟨_, _, _, _⟩ _ w | exact val_eql x y _ ⟨_, _, _, _⟩ w | exact val_eql x y ⟨_, _, _, _⟩ ⟨_, _, _, _⟩ w) rfl rfl) ?_
    refine SL.step (PS.move rfl (fun _ => rfl) rfl rfl) ?_
    refine SL.step (PS.move rfl (fun _ => rfl) rfl rfl) ?_
    refine SL.step (PS.move rfl (fun _ => rfl) rfl rfl) ?_
    refine SL.step (PS.eql rfl (fun h => h) rfl (fun h => h) rfl rfl) ?_
    refine SL.step (PS.pick_and rfl (fun _ => rfl) rfl (fun h h2 => pk_and h h2) rfl rfl) ?_
    refine SL.step (PS.assign rfl (fun _ => rfl) rfl rfl) ?_
    refine SL.keep (l' := [(6, _, _)]) ⟨rfl, trivial⟩ ?_
    refine SL.nil ?_
    refine SE.thenK hK10 ?_
    refine SC.ret ?_
    exact fin1 rfl rfl rfl (fun _ _ => congrArg Value.bool (Pl.commute_law hpt28 hpt36 (by simp only [Pl.comm, *, Bool.true_or, Bool.or_true, Bool.false_or])))
  ·
    refine SC.seq (fun K11 hK11 => ?_)
    refine SC.region ?_
    refine SL.step (PS.eql rfl (fun _ => rfl) rfl (fun _ => rfl) rfl rfl) ?_
    refine SL.step (PS.assign rfl (fun _ => rfl) rfl rfl) ?_
    refine SL.keep (l' := [(15, _, _), (14, _, _), (5, _, _), (4, _, _), (3, _, _)]) ⟨rfl, rfl, rfl, rfl, rfl, trivial⟩ ?_
    refine SL.nil ?_
    refine SE.thenK hK11 ?_
    refine SC.cond rfl (fun c15b => ?_) (fun c15b => ?_)
    ·
      refine SC.skip ?_
      refine SE.thenK hK6 ?_
      refine SC.cond_t rfl c15b ?_
      refine SC.skip ?_
      refine SE.block_normal ?_
      refine SE.thenK hK4 ?_
      refine SC.seq (fun K12 hK12 => ?_)
      refine SC.region ?_
      first | refine SL.step (PS.load_own_agg (k := 0) (vs := [_, _, _, _, _, _, _]) rfl (fun _ => rfl) rfl rfl rfl rfl Try.isAgg25 Try.sizeOf25 rfl rfl) ?_ | refine SL.step (PS.load_own_agg (k := 1) (vs := [_, _, _, _, _, _, _]) rfl (fun _ => rfl) rfl rfl rfl rfl Try.isAgg25 Try.sizeOf25 rfl rfl) ?_ | refine SL.step (PS.load_own_agg (k := 2) (vs := [_, _, _, _, _, _, _]) rfl (fun _ => rfl) rfl rfl rfl rfl Try.isAgg25 Try.sizeOf25 rfl rfl) ?_
      first | refine SL.step (PS.load_own_agg (k := 0) (vs := [_, _, _, _]) rfl (fun _ => rfl) rfl rfl rfl rfl Try.isAgg30 Try.sizeOf30 rfl rfl) ?_ | refine SL.step (PS.load_own_agg (k := 1) (vs := [_, _, _, _]) rfl (fun _ => rfl) rfl rfl rfl rfl Try.isAgg30 Try.sizeOf30 rfl rfl) ?_ | refine SL.step (PS.load_own_agg (k := 2) (vs := [_, _, _, _]) rfl (fun _ => rfl) rfl rfl rfl rfl Try.isAgg30 Try.sizeOf30 rfl rfl) ?_
      first | refine SL.step (PS.load_own_agg (k := 0) (vs := [_, _, _, _]) rfl (fun _ => rfl) rfl rfl rfl rfl Try.isAgg30 Try.sizeOf30 rfl rfl) ?_ | refine SL.step (PS.load_own_agg (k := 1) (vs := [_, _, _, _]) rfl (fun _ => rfl) rfl rfl rfl rfl Try.isAgg30 Try.sizeOf30 rfl rfl) ?_ | refine SL.step (PS.load_own_agg (k := 2) (vs := [_, _, _, _]) rfl (fun _ => rfl) rfl rfl rfl rfl Try.isAgg30 Try.sizeOf30 rfl rfl) ?_
      refine SL.buildSlice (us := [(0, _), (1, _)]) (cs := [_, _, _, _, _, _, _, _]) ⟨rfl, ⟨_, rfl, (fun _ => rfl)⟩, ⟨rfl, ⟨_, rfl, (fun _ => rfl)⟩, trivial⟩⟩ Try.underlying26 Try.sizeOf30 Try.zeroValue30 ⟨rfl, rfl, _, rfl, ⟨rfl, rfl, _, rfl, trivial⟩⟩ rfl (by decide) rfl rfl (fun b27 => ?_)
      refine SL.callQ (vs := [_, _]) Try.call9 ⟨⟨_, rfl, (fun _ => rfl)⟩, ⟨_, rfl, (fun _ => rfl)⟩, trivial⟩ (fun hg => Eval_S ⟨_, _, _, _, _, (_, _, _), (_, _, _)⟩ _ _ [x, y] (bnd2 hx hy) hf) (fun w h hok _ => Sl.of_blk cells_len rfl (own_get hok (k := 0) rfl)) rfl rfl (fun vt28 hvt28 => ?_)
      obtain ⟨pt28, hpt28, rfl⟩ := out_ex (hvt28 rfl)
      clear hvt28
      simp only at hpt28
      refine SL.step (PS.move rfl (fun _ => rfl) rfl rfl) ?_
      refine SL.step (PS.extract rfl (fun _ => rfl) rfl rfl rfl) ?_
      refine SL.step (PS.extract rfl (fun _ => rfl) rfl rfl rfl) ?_
      refine SL.alloc (cs := [_, _, _, _]) Try.zeroValue30 rfl rfl rfl (fun b7 => ?_)
      first | refine SL.store_own (k := 0) (own' := [_, _, _, _, _]) (cs' := [_, _, _, _]) rfl rfl rfl rfl rfl rfl rfl Try.sizeOf30 rfl (Nat.le_of_ble_eq_true rfl) rfl rfl rfl rfl ?_ | refine SL.store_own (k := 1) (own' := [_, _, _, _, _]) (cs' := [_, _, _, _, _, _, _, _]) rfl rfl rfl rfl rfl rfl rfl Try.sizeOf30 rfl (Nat.le_of_ble_eq_true rfl) rfl rfl rfl rfl ?_ | refine SL.store_own (k := 2) (own' := [_, _, _, _, _]) (cs' := [_, _, _, _]) rfl rfl rfl rfl rfl rfl rfl Try.sizeOf30 rfl (Nat.le_of_ble_eq_true rfl) rfl rfl rfl rfl ?_ | refine SL.store_own (k := 3) (own' := [_, _, _, _, _]) (cs' := [_, _, _, _]) rfl rfl rfl rfl rfl rfl rfl Try.sizeOf30 rfl (Nat.le_of_ble_eq_true rfl) rfl rfl rfl rfl ?_ | refine SL.store_own (k := 4) (own' := [_, _, _, _, _]) (cs' := [_, _, _, _, _, _, _]) rfl rfl rfl rfl rfl rfl rfl Try.sizeOf30 rfl (Nat.le_of_ble_eq_true rfl) rfl rfl rfl rfl ?_
      refine SL.step (PS.assign rfl (fun _ => rfl) rfl rfl) ?_
      refine SL.keep (l' := [(8, _, _), (7, _, _), (5, _, _), (4, _, _), (3, _, _)]) ⟨rfl, rfl, rfl, rfl, rfl, trivial⟩ ?_
      refine SL.nil ?_
      refine SE.thenK hK12 ?_
      refine SC.seq (fun K13 hK13 => ?_)
      refine SC.region ?_
      first | refine SL.step (PS.load_own_agg (k := 0) (vs := [_, _, _, _, _, _, _]) rfl (fun _ => rfl) rfl rfl rfl rfl Try.isAgg25 Try.sizeOf25 rfl rfl) ?_ | refine SL.step (PS.load_own_agg (k := 1) (vs := [_, _, _, _, _, _, _]) rfl (fun _ => rfl) rfl rfl rfl rfl Try.isAgg25 Try.sizeOf25 rfl rfl) ?_ | refine SL.step (PS.load_own_agg (k := 2) (vs := [_, _, _, _, _, _, _]) rfl (fun _ => rfl) rfl rfl rfl rfl Try.isAgg25 Try.sizeOf25 rfl rfl) ?_ | refine SL.step (PS.load_own_agg (k := 3) (vs := [_, _, _, _, _, _, _]) rfl (fun _ => rfl) rfl rfl rfl rfl Try.isAgg25 Try.sizeOf25 rfl rfl) ?_ | refine SL.step (PS.load_own_agg (k := 4) (vs := [_, _, _, _, _, _, _]) rfl (fun _ => rfl) rfl rfl rfl rfl Try.isAgg25 Try.sizeOf25 rfl rfl) ?_
      first | refine SL.step (PS.load_own_agg (k := 0) (vs := [_, _, _, _]) rfl (fun _ => rfl) rfl rfl rfl rfl Try.isAgg30 Try.sizeOf30 rfl rfl) ?_ | refine SL.step (PS.load_own_agg (k := 1) (vs := [_, _, _, _]) rfl (fun _ => rfl) rfl rfl rfl rfl Try.isAgg30 Try.sizeOf30 rfl rfl) ?_ | refine SL.step (PS.load_own_agg (k := 2) (vs := [_, _, _, _]) rfl (fun _ => rfl) rfl rfl rfl rfl Try.isAgg30 Try.sizeOf30 rfl rfl) ?_ | refine SL.step (PS.load_own_agg (k := 3) (vs := [_, _, _, _]) rfl (fun _ => rfl) rfl rfl rfl rfl Try.isAgg30 Try.sizeOf30 rfl rfl) ?_ | refine SL.step (PS.load_own_agg (k := 4) (vs := [_, _, _, _]) rfl (fun _ => rfl) rfl rfl rfl rfl Try.isAgg30 Try.sizeOf30 rfl rfl) ?_
      first | refine SL.step (PS.load_own_agg (k := 0) (vs := [_, _, _, _]) rfl (fun _ => rfl) rfl rfl rfl rfl Try.isAgg30 Try.sizeOf30 rfl rfl) ?_ | refine SL.step (PS.load_own_agg (k := 1) (vs := [_, _, _, _]) rfl (fun _ => rfl) rfl rfl rfl rfl Try.isAgg30 Try.sizeOf30 rfl rfl) ?_ | refine SL.step (PS.load_own_agg (k := 2) (vs := [_, _, _, _]) rfl (fun _ => rfl) rfl rfl rfl rfl Try.isAgg30 Try.sizeOf30 rfl rfl) ?_ | refine SL.step (PS.load_own_agg (k := 3) (vs := [_, _, _, _]) rfl (fun _ => rfl) rfl rfl rfl rfl Try.isAgg30 Try.sizeOf30 rfl rfl) ?_ | refine SL.step (PS.load_own_agg (k := 4) (vs := [_, _, _, _]) rfl (fun _ => rfl) rfl rfl rfl rfl Try.isAgg30 Try.sizeOf30 rfl rfl) ?_
      refine SL.buildSlice (us := [(0, _), (1, _)]) (cs := [_, _, _, _, _, _, _, _]) ⟨rfl, ⟨_, rfl, (fun _ => rfl)⟩, ⟨rfl, ⟨_, rfl, (fun _ => rfl)⟩, trivial⟩⟩ Try.underlying26 Try.sizeOf30 Try.zeroValue30 ⟨rfl, rfl, _, rfl, ⟨rfl, rfl, _, rfl, trivial⟩⟩ rfl (by decide) rfl rfl (fun b35 => ?_)
      refine SL.callQ (vs := [_, _]) Try.call9 ⟨⟨_, rfl, (fun _ => rfl)⟩, ⟨_, rfl, (fun _ => rfl)⟩, trivial⟩ (fun hg => Eval_S ⟨_, _, _, _, _, (_, _, _), (_, _, _)⟩ _ _ [y, x] (bnd2 hy hx) hf) (fun w h hok _ => Sl.of_blk cells_len rfl (own_get hok (k := 0) rfl)) rfl rfl (fun vt36 hvt36 => ?_)
      obtain ⟨pt36, hpt36, rfl⟩ := out_ex (hvt36 rfl)
      clear hvt36
      simp only at hpt36
      refine SL.step (PS.move rfl (fun _ => rfl) rfl rfl) ?_
      refine SL.step (PS.extract rfl (fun _ => rfl) rfl rfl rfl) ?_
      refine SL.step (PS.extract rfl (fun _ => rfl) rfl rfl rfl) ?_
      refine SL.alloc (cs := [_, _, _, _]) Try.zeroValue30 rfl rfl rfl (fun b9 => ?_)
      first | refine SL.store_own (k := 0) (own' := [_, _, _, _, _, _, _]) (cs' := [_, _, _, _]) rfl rfl rfl rfl rfl rfl rfl Try.sizeOf30 rfl (Nat.le_of_ble_eq_true rfl) rfl rfl rfl rfl ?_ | refine SL.store_own (k := 1) (own' := [_, _, _, _, _, _, _]) (cs' := [_, _, _, _, _, _, _, _]) rfl rfl rfl rfl rfl rfl rfl Try.sizeOf30 rfl (Nat.le_of_ble_eq_true rfl) rfl rfl rfl rfl ?_ | refine SL.store_own (k := 2) (own' := [_, _, _, _, _, _, _]) (cs' := [_, _, _, _]) rfl rfl rfl rfl rfl rfl rfl Try.sizeOf30 rfl (Nat.le_of_ble_eq_true rfl) rfl rfl rfl rfl ?_ | refine SL.store_own (k := 3) (own' := [_, _, _, _, _, _, _]) (cs' := [_, _, _, _, _, _, _, _]) rfl rfl rfl rfl rfl rfl rfl Try.sizeOf30 rfl (Nat.le_of_ble_eq_true rfl) rfl rfl rfl rfl ?_ | refine SL.store_own (k := 4) (own' := [_, _, _, _, _, _, _]) (cs' := [_, _, _, _]) rfl rfl rfl rfl rfl rfl rfl Try.sizeOf30 rfl (Nat.le_of_ble_eq_true rfl) rfl rfl rfl rfl ?_ | refine SL.store_own (k := 5) (own' := [_, _, _, _, _, _, _]) (cs' := [_, _, _, _]) rfl rfl rfl rfl rfl rfl rfl Try.sizeOf30 rfl (Nat.le_of_ble_eq_true rfl) rfl rfl rfl rfl ?_ | refine SL.store_own (k := 6) (own' := [_, _, _, _, _, _, _]) (cs' := [_, _, _, _, _, _, _]) rfl rfl rfl rfl rfl rfl rfl Try.sizeOf30 rfl (Nat.le_of_ble_eq_true rfl) rfl rfl rfl rfl ?_
      refine SL.step (PS.assign rfl (fun _ => rfl) rfl rfl) ?_
      refine SL.keep (l' := [(10, _, _), (9, _, _), (8, _, _), (7, _, _)]) ⟨rfl, rfl, rfl, rfl, trivial⟩ ?_
      refine SL.nil ?_
      refine SE.thenK hK13 ?_
      refine SC.seq (fun K14 hK14 => ?_)
      refine SC.region ?_
      first | refine SL.step (PS.load_own_agg (k := 0) (vs := [_, _, _, _]) rfl (fun _ => rfl) rfl rfl rfl rfl Try.isAgg30 Try.sizeOf30 rfl rfl) ?_ | refine SL.step (PS.load_own_agg (k := 1) (vs := [_, _, _, _]) rfl (fun _ => rfl) rfl rfl rfl rfl Try.isAgg30 Try.sizeOf30 rfl rfl) ?_ | refine SL.step (PS.load_own_agg (k := 2) (vs := [_, _, _, _]) rfl (fun _ => rfl) rfl rfl rfl rfl Try.isAgg30 Try.sizeOf30 rfl rfl) ?_ | refine SL.step (PS.load_own_agg (k := 3) (vs := [_, _, _, _]) rfl (fun _ => rfl) rfl rfl rfl rfl Try.isAgg30 Try.sizeOf30 rfl rfl) ?_ | refine SL.step (PS.load_own_agg (k := 4) (vs := [_, _, _, _]) rfl (fun _ => rfl) rfl rfl rfl rfl Try.isAgg30 Try.sizeOf30 rfl rfl) ?_ | refine SL.step (PS.load_own_agg (k := 5) (vs := [_, _, _, _]) rfl (fun _ => rfl) rfl rfl rfl rfl Try.isAgg30 Try.sizeOf30 rfl rfl) ?_ | refine SL.step (PS.load_own_agg (k := 6) (vs := [_, _, _, _]) rfl (fun _ => rfl) rfl rfl rfl rfl Try.isAgg30 Try.sizeOf30 rfl rfl) ?_
      first | refine SL.step (PS.load_own_agg (k := 0) (vs := [_, _, _, _]) rfl (fun _ => rfl) rfl rfl rfl rfl Try.isAgg30 Try.sizeOf30 rfl rfl) ?_ | refine SL.step (PS.load_own_agg (k := 1) (vs := [_, _, _, _]) rfl (fun _ => rfl) rfl rfl rfl rfl Try.isAgg30 Try.sizeOf30 rfl rfl) ?_ | refine SL.step (PS.load_own_agg (k := 2) (vs := [_, _, _, _]) rfl (fun _ => rfl) rfl rfl rfl rfl Try.isAgg30 Try.sizeOf30 rfl rfl) ?_ | refine SL.step (PS.load_own_agg (k := 3) (vs := [_, _, _, _]) rfl (fun _ => rfl) rfl rfl rfl rfl Try.isAgg30 Try.sizeOf30 rfl rfl) ?_ | refine SL.step (PS.load_own_agg (k := 4) (vs := [_, _, _, _]) rfl (fun _ => rfl) rfl rfl rfl rfl Try.isAgg30 Try.sizeOf30 rfl rfl) ?_ | refine SL.step (PS.load_own_agg (k := 5) (vs := [_, _, _, _]) rfl (fun _ => rfl) rfl rfl rfl rfl Try.isAgg30 Try.sizeOf30 rfl rfl) ?_ | refine SL.step (PS.load_own_agg (k := 6) (vs := [_, _, _, _]) rfl (fun _ => rfl) rfl rfl rfl rfl Try.isAgg30 Try.sizeOf30 rfl rfl) ?_
      refine SL.step (PS.eqlA rfl (fun _ => rfl) rfl (fun _ => rfl) (by intro x y w; first | exact val_eql x y _ _ w | exact val_eql x y ⟨_, _, _, _⟩ _ w | exact val_eql x y _ ⟨_, _, _, _⟩ w | exact val_eql x y ⟨_, _, _, _⟩ ⟨_, _, _, _⟩ w) rfl rfl) ?_
      refine SL.step (PS.move rfl (fun _ => rfl) rfl rfl) ?_
      refine SL.step (PS.move rfl (fun _ => rfl) rfl rfl) ?_
      refine SL.step (PS.move rfl (fun _ => rfl) rfl rfl) ?_
      refine SL.step (PS.eql rfl (fun h => h) rfl (fun h => h) rfl rfl) ?_
      refine SL.step (PS.pick_and rfl (fun _ => rfl) rfl (fun h h2 => pk_and h h2) rfl rfl) ?_
      refine SL.step (PS.assign rfl (fun _ => rfl) rfl rfl) ?_
      refine SL.keep (l' := [(6, _, _)]) ⟨rfl, trivial⟩ ?_
      refine SL.nil ?_
      refine SE.thenK hK14 ?_
      refine SC.ret ?_
      exact fin1 rfl rfl rfl (fun _ _ => congrArg Value.bool (Pl.commute_law hpt28 hpt36 (by simp only [Pl.comm, *, Bool.true_or, Bool.or_true, Bool.false_or])))
    ·
      refine SC.seq (fun K15 hK15 => ?_)
      refine SC.region ?_
      refine SL.step (PS.eql rfl (fun _ => rfl) rfl (fun _ => rfl) rfl rfl) ?_
      refine SL.step (PS.assign rfl (fun _ => rfl) rfl rfl) ?_
      refine SL.keep (l' := [(15, _, _), (14, _, _), (5, _, _), (4, _, _), (3, _, _)]) ⟨rfl, rfl, rfl, rfl, rfl, trivial⟩ ?_
      refine SL.nil ?_
      refine SE.thenK hK15 ?_
      refine SC.cond rfl (fun c15c => ?_) (fun c15c => ?_)
      ·
        refine SC.skip ?_
        refine SE.thenK hK6 ?_
        refine SC.cond_t rfl c15c ?_
        refine SC.skip ?_
        refine SE.block_normal ?_
        refine SE.thenK hK4 ?_
        refine SC.seq (fun K16 hK16 => ?_)
        refine SC.region ?_
        first | refine SL.step (PS.load_own_agg (k := 0) (vs := [_, _, _, _, _, _, _]) rfl (fun _ => rfl) rfl rfl rfl rfl Try.isAgg25 Try.sizeOf25 rfl rfl) ?_ | refine SL.step (PS.load_own_agg (k := 1) (vs := [_, _, _, _, _, _, _]) rfl (fun _ => rfl) rfl rfl rfl rfl Try.isAgg25 Try.sizeOf25 rfl rfl) ?_ | refine SL.step (PS.load_own_agg (k := 2) (vs := [_, _, _, _, _, _, _]) rfl (fun _ => rfl) rfl rfl rfl rfl Try.isAgg25 Try.sizeOf25 rfl rfl) ?_
        first | refine SL.step (PS.load_own_agg (k := 0) (vs := [_, _, _, _]) rfl (fun _ => rfl) rfl rfl rfl rfl Try.isAgg30 Try.sizeOf30 rfl rfl) ?_ | refine SL.step (PS.load_own_agg (k := 1) (vs := [_, _, _, _]) rfl (fun _ => rfl) rfl rfl rfl rfl Try.isAgg30 Try.sizeOf30 rfl rfl) ?_ | refine SL.step (PS.load_own_agg (k := 2) (vs := [_, _, _, _]) rfl (fun _ => rfl) rfl rfl rfl rfl Try.isAgg30 Try.sizeOf30 rfl rfl) ?_
        first | refine SL.step (PS.load_own_agg (k := 0) (vs := [_, _, _, _]) rfl (fun _ => rfl) rfl rfl rfl rfl Try.isAgg30 Try.sizeOf30 rfl rfl) ?_ | refine SL.step (PS.load_own_agg (k := 1) (vs := [_, _, _, _]) rfl (fun _ => rfl) rfl rfl rfl rfl Try.isAgg30 Try.sizeOf30 rfl rfl) ?_ | refine SL.step (PS.load_own_agg (k := 2) (vs := [_, _, _, _]) rfl (fun _ => rfl) rfl rfl rfl rfl Try.isAgg30 Try.sizeOf30 rfl rfl) ?_
        refine SL.buildSlice (us := [(0, _), (1, _)]) (cs := [_, _, _, _, _, _, _, _]) ⟨rfl, ⟨_, rfl, (fun _ => rfl)⟩, ⟨rfl, ⟨_, rfl, (fun _ => rfl)⟩, trivial⟩⟩ Try.underlying26 Try.sizeOf30 Try.zeroValue30 ⟨rfl, rfl, _, rfl, ⟨rfl, rfl, _, rfl, trivial⟩⟩ rfl (by decide) rfl rfl (fun b27 => ?_)
        refine SL.callQ (vs := [_, _]) Try.call9 ⟨⟨_, rfl, (fun _ => rfl)⟩, ⟨_, rfl, (fun _ => rfl)⟩, trivial⟩ (fun hg => Eval_S ⟨_, _, _, _, _, (_, _, _), (_, _, _)⟩ _ _ [x, y] (bnd2 hx hy) hf) (fun w h hok _ => Sl.of_blk cells_len rfl (own_get hok (k := 0) rfl)) rfl rfl (fun vt28 hvt28 => ?_)
        obtain ⟨pt28, hpt28, rfl⟩ := out_ex (hvt28 rfl)
        clear hvt28
        simp only at hpt28
        refine SL.step (PS.move rfl (fun _ => rfl) rfl rfl) ?_
        refine SL.step (PS.extract rfl (fun _ => rfl) rfl rfl rfl) ?_
        refine SL.step (PS.extract rfl (fun _ => rfl) rfl rfl rfl) ?_
        refine SL.alloc (cs := [_, _, _, _]) Try.zeroValue30 rfl rfl rfl (fun b7 => ?_)
        first | refine SL.store_own (k := 0) (own' := [_, _, _, _, _]) (cs' := [_, _, _, _]) rfl rfl rfl rfl rfl rfl rfl Try.sizeOf30 rfl (Nat.le_of_ble_eq_true rfl) rfl rfl rfl rfl ?_ | refine SL.store_own (k := 1) (own' := [_, _, _, _, _]) (cs' := [_, _, _, _, _, _, _, _]) rfl rfl rfl rfl rfl rfl rfl Try.sizeOf30 rfl (Nat.le_of_ble_eq_true rfl) rfl rfl rfl rfl ?_ | refine SL.store_own (k := 2) (own' := [_, _, _, _, _]) (cs' := [_, _, _, _]) rfl rfl rfl rfl rfl rfl rfl Try.sizeOf30 rfl (Nat.le_of_ble_eq_true rfl) rfl rfl rfl rfl ?_ | refine SL.store_own (k := 3) (own' := [_, _, _, _, _]) (cs' := [_, _, _, _]) rfl rfl rfl rfl rfl rfl rfl Try.sizeOf30 rfl (Nat.le_of_ble_eq_true rfl) rfl rfl rfl rfl ?_ | refine SL.store_own (k := 4) (own' := [_, _, _, _, _]) (cs' := [_, _, _, _, _, _, _]) rfl rfl rfl rfl rfl rfl rfl Try.sizeOf30 rfl (Nat.le_of_ble_eq_true rfl) rfl rfl rfl rfl ?_
        refine SL.step (PS.assign rfl (fun _ => rfl) rfl rfl) ?_
        refine SL.keep (l' := [(8, _, _), (7, _, _), (5, _, _), (4, _, _), (3, _, _)]) ⟨rfl, rfl, rfl, rfl, rfl, trivial⟩ ?_
        refine SL.nil ?_
        refine SE.thenK hK16 ?_
        refine SC.seq (fun K17 hK17 => ?_)
        refine SC.region ?_
        first | refine SL.step (PS.load_own_agg (k := 0) (vs := [_, _, _, _, _, _, _]) rfl (fun _ => rfl) rfl rfl rfl rfl Try.isAgg25 Try.sizeOf25 rfl rfl) ?_ | refine SL.step (PS.load_own_agg (k := 1) (vs := [_, _, _, _, _, _, _]) rfl (fun _ => rfl) rfl rfl rfl rfl Try.isAgg25 Try.sizeOf25 rfl rfl) ?_ | refine SL.step (PS.load_own_agg (k := 2) (vs := [_, _, _, _, _, _, _]) rfl (fun _ => rfl) rfl rfl rfl rfl Try.isAgg25 Try.sizeOf25 rfl rfl) ?_ | refine SL.step (PS.load_own_agg (k := 3) (vs := [_, _, _, _, _, _, _]) rfl (fun _ => rfl) rfl rfl rfl rfl Try.isAgg25 Try.sizeOf25 rfl rfl) ?_ | refine SL.step (PS.load_own_agg (k := 4) (vs := [_, _, _, _, _, _, _]) rfl (fun _ => rfl) rfl rfl rfl rfl Try.isAgg25 Try.sizeOf25 rfl rfl) ?_
        first | refine SL.step (PS.load_own_agg (k := 0) (vs := [_, _, _, _]) rfl (fun _ => rfl) rfl rfl rfl rfl Try.isAgg30 Try.sizeOf30 rfl rfl) ?_ | refine SL.step (PS.load_own_agg (k := 1) (vs := [_, _, _, _]) rfl (fun _ => rfl) rfl rfl rfl rfl Try.isAgg30 Try.sizeOf30 rfl rfl) ?_ | refine SL.step (PS.load_own_agg (k := 2) (vs := [_, _, _, _]) rfl (fun _ => rfl) rfl rfl rfl rfl Try.isAgg30 Try.sizeOf30 rfl rfl) ?_ | refine SL.step (PS.load_own_agg (k := 3) (vs := [_, _, _, _]) rfl (fun _ => rfl) rfl rfl rfl rfl Try.isAgg30 Try.sizeOf30 rfl rfl) ?_ | refine SL.step (PS.load_own_agg (k := 4) (vs := [_, _, _, _]) rfl (fun _ => rfl) rfl rfl rfl rfl Try.isAgg30 Try.sizeOf30 rfl rfl) ?_
        first | refine SL.step (PS.load_own_agg (k := 0) (vs := [_, _, _, _]) rfl (fun _ => rfl) rfl rfl rfl rfl Try.isAgg30 Try.sizeOf30 rfl rfl) ?_ | refine SL.step (PS.load_own_agg (k := 1) (vs := [_, _, _, _]) rfl (fun _ => rfl) rfl rfl rfl rfl Try.isAgg30 Try.sizeOf30 rfl rfl) ?_ | refine SL.step (PS.load_own_agg (k := 2) (vs := [_, _, _, _]) rfl (fun _ => rfl) rfl rfl rfl rfl Try.isAgg30 Try.sizeOf30 rfl rfl) ?_ | refine SL.step (PS.load_own_agg (k := 3) (vs := [_, _, _, _]) rfl (fun _ => rfl) rfl rfl rfl rfl Try.isAgg30 Try.sizeOf30 rfl rfl) ?_ | refine SL.step (PS.load_own_agg (k := 4) (vs := [_, _, _, _]) rfl (fun _ => rfl) rfl rfl rfl rfl Try.isAgg30 Try.sizeOf30 rfl rfl) ?_
        refine SL.buildSlice (us := [(0, _), (1, _)]) (cs := [_, _, _, _, _, _, _, _]) ⟨rfl, ⟨_, rfl, (fun _ => rfl)⟩, ⟨rfl, ⟨_, rfl, (fun _ => rfl)⟩, trivial⟩⟩ Try.underlying26 Try.sizeOf30 Try.zeroValue30 ⟨rfl, rfl, _, rfl, ⟨rfl, rfl, _, rfl, trivial⟩⟩ rfl (by decide) rfl rfl (fun b35 => ?_)
        refine SL.callQ (vs := [_, _]) Try.call9 ⟨⟨_, rfl, (fun _ => rfl)⟩, ⟨_, rfl, (fun _ => rfl)⟩, trivial⟩ (fun hg => Eval_S ⟨_, _, _, _, _, (_, _, _), (_, _, _)⟩ _ _ [y, x] (bnd2 hy hx) hf) (fun w h hok _ => Sl.of_blk cells_len rfl (own_get hok (k := 0) rfl)) rfl rfl (fun vt36 hvt36 => ?_)
        obtain ⟨pt36, hpt36, rfl⟩ := out_ex (hvt36 rfl)
        clear hvt36
        simp only at hpt36
        refine SL.step (PS.move rfl (fun _ => rfl) rfl rfl) ?_
        refine SL.step (PS.extract rfl (fun _ => rfl) rfl rfl rfl) ?_
        refine SL.step (PS.extract rfl (fun _ => rfl) rfl rfl rfl) ?_
        refine SL.alloc (cs := [_, _, _, _]) Try.zeroValue30 rfl rfl rfl (fun b9 => ?_)
        first | refine SL.store_own (k := 0) (own' := [_, _, _, _, _, _, _]) (cs' := [_, _, _, _]) rfl rfl rfl rfl rfl rfl rfl Try.sizeOf30 rfl (Nat.le_of_ble_eq_true rfl) rfl rfl rfl rfl ?_ | refine SL.store_own (k := 1) (own' := [_, _, _, _, _, _, _]) (cs' := [_, _, _, _, _, _, _, _]) rfl rfl rfl rfl rfl rfl rfl Try.sizeOf30 rfl (Nat.le_of_ble_eq_true rfl) rfl rfl rfl rfl ?_ | refine SL.store_own (k := 2) (own' := [_, _, _, _, _, _, _]) (cs' := [_, _, _, _]) rfl rfl rfl rfl rfl rfl rfl Try.sizeOf30 rfl (Nat.le_of_ble_eq_true rfl) rfl rfl rfl rfl ?_ | refine SL.store_own (k := 3) (own' := [_, _, _, _, _, _, _]) (cs' := [_, _, _, _, _, _, _, _]) rfl rfl rfl rfl rfl rfl rfl Try.sizeOf30 rfl (Nat.le_of_ble_eq_true rfl) rfl rfl rfl rfl ?_ | refine SL.store_own (k := 4) (own' := [_, _, _, _, _, _, _]) (cs' := [_, _, _, _]) rfl rfl rfl rfl rfl rfl rfl Try.sizeOf30 rfl (Nat.le_of_ble_eq_true rfl) rfl rfl rfl rfl ?_ | refine SL.store_own (k := 5) (own' := [_, _, _, _, _, _, _]) (cs' := [_, _, _, _]) rfl rfl rfl rfl rfl rfl rfl Try.sizeOf30 rfl (Nat.le_of_ble_eq_true rfl) rfl rfl rfl rfl ?_ | refine SL.store_own (k := 6) (own' := [_, _, _, _, _, _, _]) (cs' := [_, _, _, _, _, _, _]) rfl rfl rfl rfl rfl rfl rfl Try.sizeOf30 rfl (Nat.le_of_ble_eq_true rfl) rfl rfl rfl rfl ?_
        refine SL.step (PS.assign rfl (fun _ => rfl) rfl rfl) ?_
        refine SL.keep (l' := [(10, _, _), (9, _, _), (8, _, _), (7, _, _)]) ⟨rfl, rfl, rfl, rfl, trivial⟩ ?_
        refine SL.nil ?_
        refine SE.thenK hK17 ?_
        refine SC.seq (fun K18 hK18 => ?_)
        refine SC.region ?_
        first | refine SL.step (PS.load_own_agg (k := 0) (vs := [_, _, _, _]) rfl (fun _ => rfl) rfl rfl rfl rfl Try.isAgg30 Try.sizeOf30 rfl rfl) ?_ | refine SL.step (PS.load_own_agg (k := 1) (vs := [_, _, _, _]) rfl (fun _ => rfl) rfl rfl rfl rfl Try.isAgg30 Try.sizeOf30 rfl rfl) ?_ | refine SL.step (PS.load_own_agg (k := 2) (vs := [_, _, _, _]) rfl (fun _ => rfl) rfl rfl rfl rfl Try.isAgg30 Try.sizeOf30 rfl rfl) ?_ | refine SL.step (PS.load_own_agg (k := 3) (vs := [_, _, _, _]) rfl (fun _ => rfl) rfl rfl rfl rfl Try.isAgg30 Try.sizeOf30 rfl rfl) ?_ | refine SL.step (PS.load_own_agg (k := 4) (vs := [_, _, _, _]) rfl (fun _ => rfl) rfl rfl rfl rfl Try.isAgg30 Try.sizeOf30 rfl rfl) ?_ | refine SL.step (PS.load_own_agg (k := 5) (vs := [_, _, _, _]) rfl (fun _ => rfl) rfl rfl rfl rfl Try.isAgg30 Try.sizeOf30 rfl rfl) ?_ | refine SL.step (PS.load_own_agg (k := 6) (vs := [_, _, _, _]) rfl (fun _ => rfl) rfl rfl rfl rfl Try.isAgg30 Try.sizeOf30 rfl rfl) ?_
        first | refine SL.step (PS.load_own_agg (k := 0) (vs := [_, _, _, _]) rfl (fun _ => rfl) rfl rfl rfl rfl Try.isAgg30 Try.sizeOf30 rfl rfl) ?_ | refine SL.step (PS.load_own_agg (k := 1) (vs := [_, _, _, _]) rfl (fun _ => rfl) rfl rfl rfl rfl Try.isAgg30 Try.sizeOf30 rfl rfl) ?_ | refine SL.step (PS.load_own_agg (k := 2) (vs := [_, _, _, _]) rfl (fun _ => rfl) rfl rfl rfl rfl Try.isAgg30 Try.sizeOf30 rfl rfl) ?_ | refine SL.step (PS.load_own_agg (k := 3) (vs := [_, _, _, _]) rfl (fun _ => rfl) rfl rfl rfl rfl Try.isAgg30 Try.sizeOf30 rfl rfl) ?_ | refine SL.step (PS.load_own_agg (k := 4) (vs := [_, _, _, _]) rfl (fun _ => rfl) rfl rfl rfl rfl Try.isAgg30 Try.sizeOf30 rfl rfl) ?_ | refine SL.step (PS.load_own_agg (k := 5) (vs := [_, _, _, _]) rfl (fun _ => rfl) rfl rfl rfl rfl Try.isAgg30 Try.sizeOf30 rfl rfl) ?_ | refine SL.step (PS.load_own_agg (k := 6) (vs := [_, _, _, _]) rfl (fun _ => rfl) rfl rfl rfl rfl Try.isAgg30 Try.sizeOf30 rfl rfl) ?_
        refine SL.step (PS.eqlA rfl (fun _ => rfl) rfl (fun _ => rfl) (by intro x y w; first | exact val_eql x y _ _ w | exact val_eql x y ⟨_, _, _, _⟩ _ w | exact val_eql x y _ ⟨_, _, _, _⟩ w | exact val_eql x y ⟨_, _, _, _⟩ ⟨_, _, _, _⟩ w) rfl rfl) ?_
        refine SL.step (PS.move rfl (fun _ => rfl) rfl rfl) ?_
        refine SL.step (PS.move rfl (fun _ => rfl) rfl rfl) ?_
        refine SL.step (PS.move rfl (fun _ => rfl) rfl rfl) ?_
        refine SL.step (PS.eql rfl (fun h => h) rfl (fun h => h) rfl rfl) ?_
        refine SL.step (PS.pick_and rfl (fun _ => rfl) rfl (fun h h2 => pk_and h h2) rfl rfl) ?_
        refine SL.step (PS.assign rfl (fun _ => rfl) rfl rfl) ?_
        refine SL.keep (l' := [(6, _, _)]) ⟨rfl, trivial⟩ ?_
        refine SL.nil ?_
        refine SE.thenK hK18 ?_
        refine SC.ret ?_
        exact fin1 rfl rfl rfl (fun _ _ => congrArg Value.bool (Pl.commute_law hpt28 hpt36 (by simp only [Pl.comm, *, Bool.true_or, Bool.or_true, Bool.false_or])))
      ·
        refine SC.seq (fun K19 hK19 => ?_)
        refine SC.region ?_
        refine SL.step (PS.eql rfl (fun _ => rfl) rfl (fun _ => rfl) rfl rfl) ?_
        refine SL.step (PS.assign rfl (fun _ => rfl) rfl rfl) ?_
        refine SL.keep (l' := [(15, _, _), (14, _, _), (5, _, _), (4, _, _), (3, _, _)]) ⟨rfl, rfl, rfl, rfl, rfl, trivial⟩ ?_
        refine SL.nil ?_
        refine SE.thenK hK19 ?_
        refine SC.cond rfl (fun c15d => ?_) (fun c15d => ?_)
        ·
          refine SC.skip ?_
          refine SE.thenK hK6 ?_
          refine SC.cond_t rfl c15d ?_
          refine SC.skip ?_
          refine SE.block_normal ?_
          refine SE.thenK hK4 ?_
          refine SC.seq (fun K20 hK20 => ?_)
          refine SC.region ?_
          first | refine SL.step (PS.load_own_agg (k := 0) (vs := [_, _, _, _, _, _, _]) rfl (fun _ => rfl) rfl rfl rfl rfl Try.isAgg25 Try.sizeOf25 rfl rfl) ?_ | refine SL.step (PS.load_own_agg (k := 1) (vs := [_, _, _, _, _, _, _]) rfl (fun _ => rfl) rfl rfl rfl rfl Try.isAgg25 Try.sizeOf25 rfl rfl) ?_ | refine SL.step (PS.load_own_agg (k := 2) (vs := [_, _, _, _, _, _, _]) rfl (fun _ => rfl) rfl rfl rfl rfl Try.isAgg25 Try.sizeOf25 rfl rfl) ?_
          first | refine SL.step (PS.load_own_agg (k := 0) (vs := [_, _, _, _]) rfl (fun _ => rfl) rfl rfl rfl rfl Try.isAgg30 Try.sizeOf30 rfl rfl) ?_ | refine SL.step (PS.load_own_agg (k := 1) (vs := [_, _, _, _]) rfl (fun _ => rfl) rfl rfl rfl rfl Try.isAgg30 Try.sizeOf30 rfl rfl) ?_ | refine SL.step (PS.load_own_agg (k := 2) (vs := [_, _, _, _]) rfl (fun _ => rfl) rfl rfl rfl rfl Try.isAgg30 Try.sizeOf30 rfl rfl) ?_
          first | refine SL.step (PS.load_own_agg (k := 0) (vs := [_, _, _, _]) rfl (fun _ => rfl) rfl rfl rfl rfl Try.isAgg30 Try.sizeOf30 rfl rfl) ?_ | refine SL.step (PS.load_own_agg (k := 1) (vs := [_, _, _, _]) rfl (fun _ => rfl) rfl rfl rfl rfl Try.isAgg30 Try.sizeOf30 rfl rfl) ?_ | refine SL.step (PS.load_own_agg (k := 2) (vs := [_, _, _, _]) rfl (fun _ => rfl) rfl rfl rfl rfl Try.isAgg30 Try.sizeOf30 rfl rfl) ?_
          refine SL.buildSlice (us := [(0, _), (1, _)]) (cs := [_, _, _, _, _, _, _, _]) ⟨rfl, ⟨_, rfl, (fun _ => rfl)⟩, ⟨rfl, ⟨_, rfl, (fun _ => rfl)⟩, trivial⟩⟩ Try.underlying26 Try.sizeOf30 Try.zeroValue30 ⟨rfl, rfl, _, rfl, ⟨rfl, rfl, _, rfl, trivial⟩⟩ rfl (by decide) rfl rfl (fun b27 => ?_)
          refine SL.callQ (vs := [_, _]) Try.call9 ⟨⟨_, rfl, (fun _ => rfl)⟩, ⟨_, rfl, (fun _ => rfl)⟩, trivial⟩ (fun hg => Eval_S ⟨_, _, _, _, _, (_, _, _), (_, _, _)⟩ _ _ [x, y] (bnd2 hx hy) hf) (fun w h hok _ => Sl.of_blk cells_len rfl (own_get hok (k := 0) rfl)) rfl rfl (fun vt28 hvt28 => ?_)
          obtain ⟨pt28, hpt28, rfl⟩ := out_ex (hvt28 rfl)
          clear hvt28
          simp only at hpt28
          refine SL.step (PS.move rfl (fun _ => rfl) rfl rfl) ?_
          refine SL.step (PS.extract rfl (fun _ => rfl) rfl rfl rfl) ?_
          refine SL.step (PS.extract rfl (fun _ => rfl) rfl rfl rfl) ?_
          refine SL.alloc (cs := [_, _, _, _]) Try.zeroValue30 rfl rfl rfl (fun b7 => ?_)
          first | refine SL.store_own (k := 0) (own' := [_, _, _, _, _]) (cs' := [_, _, _, _]) rfl rfl rfl rfl rfl rfl rfl Try.sizeOf30 rfl (Nat.le_of_ble_eq_true rfl) rfl rfl rfl rfl ?_ | refine SL.store_own (k := 1) (own' := [_, _, _, _, _]) (cs' := [_, _, _, _, _, _, _, _]) rfl rfl rfl rfl rfl rfl rfl Try.sizeOf30 rfl (Nat.le_of_ble_eq_true rfl) rfl rfl rfl rfl ?_ | refine SL.store_own (k := 2) (own' := [_, _, _, _, _]) (cs' := [_, _, _, _]) rfl rfl rfl rfl rfl rfl rfl Try.sizeOf30 rfl (Nat.le_of_ble_eq_true rfl) rfl rfl rfl rfl ?_ | refine SL.store_own (k := 3) (own' := [_, _, _, _, _]) (cs' := [_, _, _, _]) rfl rfl rfl rfl rfl rfl rfl Try.sizeOf30 rfl (Nat.le_of_ble_eq_true rfl) rfl rfl rfl rfl ?_ | refine SL.store_own (k := 4) (own' := [_, _, _, _, _]) (cs' := [_, _, _, _, _, _, _]) rfl rfl rfl rfl rfl rfl rfl Try.sizeOf30 rfl (Nat.le_of_ble_eq_true rfl) rfl rfl rfl rfl ?_
          refine SL.step (PS.assign rfl (fun _ => rfl) rfl rfl) ?_
          refine SL.keep (l' := [(8, _, _), (7, _, _), (5, _, _), (4, _, _), (3, _, _)]) ⟨rfl, rfl, rfl, rfl, rfl, trivial⟩ ?_
          refine SL.nil ?_
          refine SE.thenK hK20 ?_
          refine SC.seq (fun K21 hK21 => ?_)
          refine SC.region ?_
          first | refine SL.step (PS.load_own_agg (k := 0) (vs := [_, _, _, _, _, _, _]) rfl (fun _ => rfl) rfl rfl rfl rfl Try.isAgg25 Try.sizeOf25 rfl rfl) ?_ | refine SL.step (PS.load_own_agg (k := 1) (vs := [_, _, _, _, _, _, _]) rfl (fun _ => rfl) rfl rfl rfl rfl Try.isAgg25 Try.sizeOf25 rfl rfl) ?_ | refine SL.step (PS.load_own_agg (k := 2) (vs := [_, _, _, _, _, _, _]) rfl (fun _ => rfl) rfl rfl rfl rfl Try.isAgg25 Try.sizeOf25 rfl rfl) ?_ | refine SL.step (PS.load_own_agg (k := 3) (vs := [_, _, _, _, _, _, _]) rfl (fun _ => rfl) rfl rfl rfl rfl Try.isAgg25 Try.sizeOf25 rfl rfl) ?_ | refine SL.step (PS.load_own_agg (k := 4) (vs := [_, _, _, _, _, _, _]) rfl (fun _ => rfl) rfl rfl rfl rfl Try.isAgg25 Try.sizeOf25 rfl rfl) ?_
          first | refine SL.step (PS.load_own_agg (k := 0) (vs := [_, _, _, _]) rfl (fun _ => rfl) rfl rfl rfl rfl Try.isAgg30 Try.sizeOf30 rfl rfl) ?_ | refine SL.step (PS.load_own_agg (k := 1) (vs := [_, _, _, _]) rfl (fun _ => rfl) rfl rfl rfl rfl Try.isAgg30 Try.sizeOf30 rfl rfl) ?_ | refine SL.step (PS.load_own_agg (k := 2) (vs := [_, _, _, _]) rfl (fun _ => rfl) rfl rfl rfl rfl Try.isAgg30 Try.sizeOf30 rfl rfl) ?_ | refine SL.step (PS.load_own_agg (k := 3) (vs := [_, _, _, _]) rfl (fun _ => rfl) rfl rfl rfl rfl Try.isAgg30 Try.sizeOf30 rfl rfl) ?_ | refine SL.step (PS.load_own_agg (k := 4) (vs := [_, _, _, _]) rfl (fun _ => rfl) rfl rfl rfl rfl Try.isAgg30 Try.sizeOf30 rfl rfl) ?_
          first | refine SL.step (PS.load_own_agg (k := 0) (vs := [_, _, _, _]) rfl (fun _ => rfl) rfl rfl rfl rfl Try.isAgg30 Try.sizeOf30 rfl rfl) ?_ | refine SL.step (PS.load_own_agg (k := 1) (vs := [_, _, _, _]) rfl (fun _ => rfl) rfl rfl rfl rfl Try.isAgg30 Try.sizeOf30 rfl rfl) ?_ | refine SL.step (PS.load_own_agg (k := 2) (vs := [_, _, _, _]) rfl (fun _ => rfl) rfl rfl rfl rfl Try.isAgg30 Try.sizeOf30 rfl rfl) ?_ | refine SL.step (PS.load_own_agg (k := 3) (vs := [_, _, _, _]) rfl (fun _ => rfl) rfl rfl rfl rfl Try.isAgg30 Try.sizeOf30 rfl rfl) ?_ | refine SL.step (PS.load_own_agg (k := 4) (vs := [_, _, _, _]) rfl (fun _ => rfl) rfl rfl rfl rfl Try.isAgg30 Try.sizeOf30 rfl rfl) ?_
          refine SL.buildSlice (us := [(0, _), (1, _)]) (cs := [_, _, _, _, _, _, _, _]) ⟨rfl, ⟨_, rfl, (fun _ => rfl)⟩, ⟨rfl, ⟨_, rfl, (fun _ => rfl)⟩, trivial⟩⟩ Try.underlying26 Try.sizeOf30 Try.zeroValue30 ⟨rfl, rfl, _, rfl, ⟨rfl, rfl, _, rfl, trivial⟩⟩ rfl (by decide) rfl rfl (fun b35 => ?_)
          refine SL.callQ (vs := [_, _]) Try.call9 ⟨⟨_, rfl, (fun _ => rfl)⟩, ⟨_, rfl, (fun _ => rfl)⟩, trivial⟩ (fun hg => Eval_S ⟨_, _, _, _, _, (_, _, _), (_, _, _)⟩ _ _ [y, x] (bnd2 hy hx) hf) (fun w h hok _ => Sl.of_blk cells_len rfl (own_get hok (k := 0) rfl)) rfl rfl (fun vt36 hvt36 => ?_)
          obtain ⟨pt36, hpt36, rfl⟩ := out_ex (hvt36 rfl)
          clear hvt36
          simp only at hpt36
          refine SL.step (PS.move rfl (fun _ => rfl) rfl rfl) ?_
          refine SL.step (PS.extract rfl (fun _ => rfl) rfl rfl rfl) ?_
          refine SL.step (PS.extract rfl (fun _ => rfl) rfl rfl rfl) ?_
          refine SL.alloc (cs := [_, _, _, _]) Try.zeroValue30 rfl rfl rfl (fun b9 => ?_)
          first | refine SL.store_own (k := 0) (own' := [_, _, _, _, _, _, _]) (cs' := [_, _, _, _]) rfl rfl rfl rfl rfl rfl rfl Try.sizeOf30 rfl (Nat.le_of_ble_eq_true rfl) rfl rfl rfl rfl ?_ | refine SL.store_own (k := 1) (own' := [_, _, _, _, _, _, _]) (cs' := [_, _, _, _, _, _, _, _]) rfl rfl rfl rfl rfl rfl rfl Try.sizeOf30 rfl (Nat.le_of_ble_eq_true rfl) rfl rfl rfl rfl ?_ | refine SL.store_own (k := 2) (own' := [_, _, _, _, _, _, _]) (cs' := [_, _, _, _]) rfl rfl rfl rfl rfl rfl rfl Try.sizeOf30 rfl (Nat.le_of_ble_eq_true rfl) rfl rfl rfl rfl ?_ | refine SL.store_own (k := 3) (own' := [_, _, _, _, _, _, _]) (cs' := [_, _, _, _, _, _, _, _]) rfl rfl rfl rfl rfl rfl rfl Try.sizeOf30 rfl (Nat.le_of_ble_eq_true rfl) rfl rfl rfl rfl ?_ | refine SL.store_own (k := 4) (own' := [_, _, _, _, _, _, _]) (cs' := [_, _, _, _]) rfl rfl rfl rfl rfl rfl rfl Try.sizeOf30 rfl (Nat.le_of_ble_eq_true rfl) rfl rfl rfl rfl ?_ | refine SL.store_own (k := 5) (own' := [_, _, _, _, _, _, _]) (cs' := [_, _, _, _]) rfl rfl rfl rfl rfl rfl rfl Try.sizeOf30 rfl (Nat.le_of_ble_eq_true rfl) rfl rfl rfl rfl ?_ | refine SL.store_own (k := 6) (own' := [_, _, _, _, _, _, _]) (cs' := [_, _, _, _, _, _, _]) rfl rfl rfl rfl rfl rfl rfl Try.sizeOf30 rfl (Nat.le_of_ble_eq_true rfl) rfl rfl rfl rfl ?_
          refine SL.step (PS.assign rfl (fun _ => rfl) rfl rfl) ?_
          refine SL.keep (l' := [(10, _, _), (9, _, _), (8, _, _), (7, _, _)]) ⟨rfl, rfl, rfl, rfl, trivial⟩ ?_
          refine SL.nil ?_
          refine SE.thenK hK21 ?_
          refine SC.seq (fun K22 hK22 => ?_)
          refine SC.region ?_
          first | refine SL.step (PS.load_own_agg (k := 0) (vs := [_, _, _, _]) rfl (fun _ => rfl) rfl rfl rfl rfl Try.isAgg30 Try.sizeOf30 rfl rfl) ?_ | refine SL.step (PS.load_own_agg (k := 1) (vs := [_, _, _, _]) rfl (fun _ => rfl) rfl rfl rfl rfl Try.isAgg30 Try.sizeOf30 rfl rfl) ?_ | refine SL.step (PS.load_own_agg (k := 2) (vs := [_, _, _, _]) rfl (fun _ => rfl) rfl rfl rfl rfl Try.isAgg30 Try.sizeOf30 rfl rfl) ?_ | refine SL.step (PS.load_own_agg (k := 3) (vs := [_, _, _, _]) rfl (fun _ => rfl) rfl rfl rfl rfl Try.isAgg30 Try.sizeOf30 rfl rfl) ?_ | refine SL.step (PS.load_own_agg (k := 4) (vs := [_, _, _, _]) rfl (fun _ => rfl) rfl rfl rfl rfl Try.isAgg30 Try.sizeOf30 rfl rfl) ?_ | refine SL.step (PS.load_own_agg (k := 5) (vs := [_, _, _, _]) rfl (fun _ => rfl) rfl rfl rfl rfl Try.isAgg30 Try.sizeOf30 rfl rfl) ?_ | refine SL.step (PS.load_own_agg (k := 6) (vs := [_, _, _, _]) rfl (fun _ => rfl) rfl rfl rfl rfl Try.isAgg30 Try.sizeOf30 rfl rfl) ?_
          first | refine SL.step (PS.load_own_agg (k := 0) (vs := [_, _, _, _]) rfl (fun _ => rfl) rfl rfl rfl rfl Try.isAgg30 Try.sizeOf30 rfl rfl) ?_ | refine SL.step (PS.load_own_agg (k := 1) (vs := [_, _, _, _]) rfl (fun _ => rfl) rfl rfl rfl rfl Try.isAgg30 Try.sizeOf30 rfl rfl) ?_ | refine SL.step (PS.load_own_agg (k := 2) (vs := [_, _, _, _]) rfl (fun _ => rfl) rfl rfl rfl rfl Try.isAgg30 Try.sizeOf30 rfl rfl) ?_ | refine SL.step (PS.load_own_agg (k := 3) (vs := [_, _, _, _]) rfl (fun _ => rfl) rfl rfl rfl rfl Try.isAgg30 Try.sizeOf30 rfl rfl) ?_ | refine SL.step (PS.load_own_agg (k := 4) (vs := [_, _, _, _]) rfl (fun _ => rfl) rfl rfl rfl rfl Try.isAgg30 Try.sizeOf30 rfl rfl) ?_ | refine SL.step (PS.load_own_agg (k := 5) (vs := [_, _, _, _]) rfl (fun _ => rfl) rfl rfl rfl rfl Try.isAgg30 Try.sizeOf30 rfl rfl) ?_ | refine SL.step (PS.load_own_agg (k := 6) (vs := [_, _, _, _]) rfl (fun _ => rfl) rfl rfl rfl rfl Try.isAgg30 Try.sizeOf30 rfl rfl) ?_
          refine SL.step (PS.eqlA rfl (fun _ => rfl) rfl (fun _ => rfl) (by intro x y w; first | exact val_eql x y _ _ w | exact val_eql x y ⟨_, _, _, _⟩ _ w | exact val_eql x y _ ⟨_, _, _, _⟩ w | exact val_eql x y ⟨_, _, _, _⟩ ⟨_, _, _, _⟩ w) rfl rfl) ?_
          refine SL.step (PS.move rfl (fun _ => rfl) rfl rfl) ?_
          refine SL.step (PS.move rfl (fun _ => rfl) rfl rfl) ?_
          refine SL.step (PS.move rfl (fun _ => rfl) rfl rfl) ?_
          refine SL.step (PS.eql rfl (fun h => h) rfl (fun h => h) rfl rfl) ?_
          refine SL.step (PS.pick_and rfl (fun _ => rfl) rfl (fun h h2 => pk_and h h2) rfl rfl) ?_
          refine SL.step (PS.assign rfl (fun _ => rfl) rfl rfl) ?_
          refine SL.keep (l' := [(6, _, _)]) ⟨rfl, trivial⟩ ?_
          refine SL.nil ?_
          refine SE.thenK hK22 ?_
          refine SC.ret ?_
          exact fin1 rfl rfl rfl (fun _ _ => congrArg Value.bool (Pl.commute_law hpt28 hpt36 (by simp only [Pl.comm, *, Bool.true_or, Bool.or_true, Bool.false_or])))
        ·
          refine SC.seq (fun K23 hK23 => ?_)
          refine SC.region ?_
          refine SL.step (PS.eql rfl (fun _ => rfl) rfl (fun _ => rfl) rfl rfl) ?_
          refine SL.step (PS.assign rfl (fun _ => rfl) rfl rfl) ?_
          refine SL.keep (l' := [(15, _, _), (14, _, _), (5, _, _), (4, _, _), (3, _, _)]) ⟨rfl, rfl, rfl, rfl, rfl, trivial⟩ ?_
          refine SL.nil ?_
          refine SE.thenK hK23 ?_
          refine SC.cond rfl (fun c15e => ?_) (fun c15e => ?_)
          ·
            refine SC.skip ?_
            refine SE.thenK hK6 ?_
            refine SC.cond_t rfl c15e ?_
            refine SC.skip ?_
            refine SE.block_normal ?_
            refine SE.thenK hK4 ?_
            refine SC.seq (fun K24 hK24 => ?_)
            refine SC.region ?_
            first | refine SL.step (PS.load_own_agg (k := 0) (vs := [_, _, _, _, _, _, _]) rfl (fun _ => rfl) rfl rfl rfl rfl Try.isAgg25 Try.sizeOf25 rfl rfl) ?_ | refine SL.step (PS.load_own_agg (k := 1) (vs := [_, _, _, _, _, _, _]) rfl (fun _ => rfl) rfl rfl rfl rfl Try.isAgg25 Try.sizeOf25 rfl rfl) ?_ | refine SL.step (PS.load_own_agg (k := 2) (vs := [_, _, _, _, _, _, _]) rfl (fun _ => rfl) rfl rfl rfl rfl Try.isAgg25 Try.sizeOf25 rfl rfl) ?_
            first | refine SL.step (PS.load_own_agg (k := 0) (vs := [_, _, _, _]) rfl (fun _ => rfl) rfl rfl rfl rfl Try.isAgg30 Try.sizeOf30 rfl rfl) ?_ | refine SL.step (PS.load_own_agg (k := 1) (vs := [_, _, _, _]) rfl (fun _ => rfl) rfl rfl rfl rfl Try.isAgg30 Try.sizeOf30 rfl rfl) ?_ | refine SL.step (PS.load_own_agg (k := 2) (vs := [_, _, _, _]) rfl (fun _ => rfl) rfl rfl rfl rfl Try.isAgg30 Try.sizeOf30 rfl rfl) ?_
            first | refine SL.step (PS.load_own_agg (k := 0) (vs := [_, _, _, _]) rfl (fun _ => rfl) rfl rfl rfl rfl Try.isAgg30 Try.sizeOf30 rfl rfl) ?_ | refine SL.step (PS.load_own_agg (k := 1) (vs := [_, _, _, _]) rfl (fun _ => rfl) rfl rfl rfl rfl Try.isAgg30 Try.sizeOf30 rfl rfl) ?_ | refine SL.step (PS.load_own_agg (k := 2) (vs := [_, _, _, _]) rfl (fun _ => rfl) rfl rfl rfl rfl Try.isAgg30 Try.sizeOf30 rfl rfl) ?_
            refine SL.buildSlice (us := [(0, _), (1, _)]) (cs := [_, _, _, _, _, _, _, _]) ⟨rfl, ⟨_, rfl, (fun _ => rfl)⟩, ⟨rfl, ⟨_, rfl, (fun _ => rfl)⟩, trivial⟩⟩ Try.underlying26 Try.sizeOf30 Try.zeroValue30 ⟨rfl, rfl, _, rfl, ⟨rfl, rfl, _, rfl, trivial⟩⟩ rfl (by decide) rfl rfl (fun b27 => ?_)
            refine SL.callQ (vs := [_, _]) Try.call9 ⟨⟨_, rfl, (fun _ => rfl)⟩, ⟨_, rfl, (fun _ => rfl)⟩, trivial⟩ (fun hg => Eval_S ⟨_, _, _, _, _, (_, _, _), (_, _, _)⟩ _ _ [x, y] (bnd2 hx hy) hf) (fun w h hok _ => Sl.of_blk cells_len rfl (own_get hok (k := 0) rfl)) rfl rfl (fun vt28 hvt28 => ?_)
            obtain ⟨pt28, hpt28, rfl⟩ := out_ex (hvt28 rfl)
            clear hvt28
            simp only at hpt28
            refine SL.step (PS.move rfl (fun _ => rfl) rfl rfl) ?_
            refine SL.step (PS.extract rfl (fun _ => rfl) rfl rfl rfl) ?_
            refine SL.step (PS.extract rfl (fun _ => rfl) rfl rfl rfl) ?_
            refine SL.alloc (cs := [_, _, _, _]) Try.zeroValue30 rfl rfl rfl (fun b7 => ?_)
            first | refine SL.store_own (k := 0) (own' := [_, _, _, _, _]) (cs' := [_, _, _, _]) rfl rfl rfl rfl rfl rfl rfl Try.sizeOf30 rfl (Nat.le_of_ble_eq_true rfl) rfl rfl rfl rfl ?_ | refine SL.store_own (k := 1) (own' := [_, _, _, _, _]) (cs' := [_, _, _, _, _, _, _, _]) rfl rfl rfl rfl rfl rfl rfl Try.sizeOf30 rfl (Nat.le_of_ble_eq_true rfl) rfl rfl rfl rfl ?_ | refine SL.store_own (k := 2) (own' := [_, _, _, _, _]) (cs' := [_, _, _, _]) rfl rfl rfl rfl rfl rfl rfl Try.sizeOf30 rfl (Nat.le_of_ble_eq_true rfl) rfl rfl rfl rfl ?_ | refine SL.store_own (k := 3) (own' := [_, _, _, _, _]) (cs' := [_, _, _, _]) rfl rfl rfl rfl rfl rfl rfl Try.sizeOf30 rfl (Nat.le_of_ble_eq_true rfl) rfl rfl rfl rfl ?_ | refine SL.store_own (k := 4) (own' := [_, _, _, _, _]) (cs' := [_, _, _, _, _, _, _]) rfl rfl rfl rfl rfl rfl rfl Try.sizeOf30 rfl (Nat.le_of_ble_eq_true rfl) rfl rfl rfl rfl ?_
            refine SL.step (PS.assign rfl (fun _ => rfl) rfl rfl) ?_
            refine SL.keep (l' := [(8, _, _), (7, _, _), (5, _, _), (4, _, _), (3, _, _)]) ⟨rfl, rfl, rfl, rfl, rfl, trivial⟩ ?_
            refine SL.nil ?_
            refine SE.thenK hK24 ?_
            refine SC.seq (fun K25 hK25 => ?_)
            refine SC.region ?_
            first | refine SL.step (PS.load_own_agg (k := 0) (vs := [_, _, _, _, _, _, _]) rfl (fun _ => rfl) rfl rfl rfl rfl Try.isAgg25 Try.sizeOf25 rfl rfl) ?_ | refine SL.step (PS.load_own_agg (k := 1) (vs := [_, _, _, _, _, _, _]) rfl (fun _ => rfl) rfl rfl rfl rfl Try.isAgg25 Try.sizeOf25 rfl rfl) ?_ | refine SL.step (PS.load_own_agg (k := 2) (vs := [_, _, _, _, _, _, _]) rfl (fun _ => rfl) rfl rfl rfl rfl Try.isAgg25 Try.sizeOf25 rfl rfl) ?_ | refine SL.step (PS.load_own_agg (k := 3) (vs := [_, _, _, _, _, _, _]) rfl (fun _ => rfl) rfl rfl rfl rfl Try.isAgg25 Try.sizeOf25 rfl rfl) ?_ | refine SL.step (PS.load_own_agg (k := 4) (vs := [_, _, _, _, _, _, _]) rfl (fun _ => rfl) rfl rfl rfl rfl Try.isAgg25 Try.sizeOf25 rfl rfl) ?_
            first | refine SL.step (PS.load_own_agg (k := 0) (vs := [_, _, _, _]) rfl (fun _ => rfl) rfl rfl rfl rfl Try.isAgg30 Try.sizeOf30 rfl rfl) ?_ | refine SL.step (PS.load_own_agg (k := 1) (vs := [_, _, _, _]) rfl (fun _ => rfl) rfl rfl rfl rfl Try.isAgg30 Try.sizeOf30 rfl rfl) ?_ | refine SL.step (PS.load_own_agg (k := 2) (vs := [_, _, _, _]) rfl (fun _ => rfl) rfl rfl rfl rfl Try.isAgg30 Try.sizeOf30 rfl rfl) ?_ | refine SL.step (PS.load_own_agg (k := 3) (vs := [_, _, _, _]) rfl (fun _ => rfl) rfl rfl rfl rfl Try.isAgg30 Try.sizeOf30 rfl rfl) ?_ | refine SL.step (PS.load_own_agg (k := 4) (vs := [_, _, _, _]) rfl (fun _ => rfl) rfl rfl rfl rfl Try.isAgg30 Try.sizeOf30 rfl rfl) ?_
            first | refine SL.step (PS.load_own_agg (k := 0) (vs := [_, _, _, _]) rfl (fun _ => rfl) rfl rfl rfl rfl Try.isAgg30 Try.sizeOf30 rfl rfl) ?_ | refine SL.step (PS.load_own_agg (k := 1) (vs := [_, _, _, _]) rfl (fun _ => rfl) rfl rfl rfl rfl Try.isAgg30 Try.sizeOf30 rfl rfl) ?_ | refine SL.step (PS.load_own_agg (k := 2) (vs := [_, _, _, _]) rfl (fun _ => rfl) rfl rfl rfl rfl Try.isAgg30 Try.sizeOf30 rfl rfl) ?_ | refine SL.step (PS.load_own_agg (k := 3) (vs := [_, _, _, _]) rfl (fun _ => rfl) rfl rfl rfl rfl Try.isAgg30 Try.sizeOf30 rfl rfl) ?_ | refine SL.step (PS.load_own_agg (k := 4) (vs := [_, _, _, _]) rfl (fun _ => rfl) rfl rfl rfl rfl Try.isAgg30 Try.sizeOf30 rfl rfl) ?_
            refine SL.buildSlice (us := [(0, _), (1, _)]) (cs := [_, _, _, _, _, _, _, _]) ⟨rfl, ⟨_, rfl, (fun _ => rfl)⟩, ⟨rfl, ⟨_, rfl, (fun _ => rfl)⟩, trivial⟩⟩ Try.underlying26 Try.sizeOf30 Try.zeroValue30 ⟨rfl, rfl, _, rfl, ⟨rfl, rfl, _, rfl, trivial⟩⟩ rfl (by decide) rfl rfl (fun b35 => ?_)
            refine SL.callQ (vs := [_, _]) Try.call9 ⟨⟨_, rfl, (fun _ => rfl)⟩, ⟨_, rfl, (fun _ => rfl)⟩, trivial⟩ (fun hg => Eval_S ⟨_, _, _, _, _, (_, _, _), (_, _, _)⟩ _ _ [y, x] (bnd2 hy hx) hf) (fun w h hok _ => Sl.of_blk cells_len rfl (own_get hok (k := 0) rfl)) rfl rfl (fun vt36 hvt36 => ?_)
            obtain ⟨pt36, hpt36, rfl⟩ := out_ex (hvt36 rfl)
            clear hvt36
            simp only at hpt36
            refine SL.step (PS.move rfl (fun _ => rfl) rfl rfl) ?_
            refine SL.step (PS.extract rfl (fun _ => rfl) rfl rfl rfl) ?_
            refine SL.step (PS.extract rfl (fun _ => rfl) rfl rfl rfl) ?_
            refine SL.alloc (cs := [_, _, _, _]) Try.zeroValue30 rfl rfl rfl (fun b9 => ?_)
            first | refine SL.store_own (k := 0) (own' := [_, _, _, _, _, _, _]) (cs' := [_, _, _, _]) rfl rfl rfl rfl rfl rfl rfl Try.sizeOf30 rfl (Nat.le_of_ble_eq_true rfl) rfl rfl rfl rfl ?_ | refine SL.store_own (k := 1) (own' := [_, _, _, _, _, _, _]) (cs' := [_, _, _, _, _, _, _, _]) rfl rfl rfl rfl rfl rfl rfl Try.sizeOf30 rfl (Nat.le_of_ble_eq_true rfl) rfl rfl rfl rfl ?_ | refine SL.store_own (k := 2) (own' := [_, _, _, _, _, _, _]) (cs' := [_, _, _, _]) rfl rfl rfl rfl rfl rfl rfl Try.sizeOf30 rfl (Nat.le_of_ble_eq_true rfl) rfl rfl rfl rfl ?_ | refine SL.store_own (k := 3) (own' := [_, _, _, _, _, _, _]) (cs' := [_, _, _, _, _, _, _, _]) rfl rfl rfl rfl rfl rfl rfl Try.sizeOf30 rfl (Nat.le_of_ble_eq_true rfl) rfl rfl rfl rfl ?_ | refine SL.store_own (k := 4) (own' := [_, _, _, _, _, _, _]) (cs' := [_, _, _, _]) rfl rfl rfl rfl rfl rfl rfl Try.sizeOf30 rfl (Nat.le_of_ble_eq_true rfl) rfl rfl rfl rfl ?_ | refine SL.store_own (k := 5) (own' := [_, _, _, _, _, _, _]) (cs' := [_, _, _, _]) rfl rfl rfl rfl rfl rfl rfl Try.sizeOf30 rfl (Nat.le_of_ble_eq_true rfl) rfl rfl rfl rfl ?_ | refine SL.store_own (k := 6) (own' := [_, _, _, _, _, _, _]) (cs' := [_, _, _, _, _, _, _]) rfl rfl rfl rfl rfl rfl rfl Try.sizeOf30 rfl (Nat.le_of_ble_eq_true rfl) rfl rfl rfl rfl ?_
            refine SL.step (PS.assign rfl (fun _ => rfl) rfl rfl) ?_
            refine SL.keep (l' := [(10, _, _), (9, _, _), (8, _, _), (7, _, _)]) ⟨rfl, rfl, rfl, rfl, trivial⟩ ?_
            refine SL.nil ?_
            refine SE.thenK hK25 ?_
            refine SC.seq (fun K26 hK26 => ?_)
            refine SC.region ?_
            first | refine SL.step (PS.load_own_agg (k := 0) (vs := [_, _, _, _]) rfl (fun _ => rfl) rfl rfl rfl rfl Try.isAgg30 Try.sizeOf30 rfl rfl) ?_ | refine SL.step (PS.load_own_agg (k := 1) (vs := [_, _, _, _]) rfl (fun _ => rfl) rfl rfl rfl rfl Try.isAgg30 Try.sizeOf30 rfl rfl) ?_ | refine SL.step (PS.load_own_agg (k := 2) (vs := [_, _, _, _]) rfl (fun _ => rfl) rfl rfl rfl rfl Try.isAgg30 Try.sizeOf30 rfl rfl) ?_ | refine SL.step (PS.load_own_agg (k := 3) (vs := [_, _, _, _]) rfl (fun _ => rfl) rfl rfl rfl rfl Try.isAgg30 Try.sizeOf30 rfl rfl) ?_ | refine SL.step (PS.load_own_agg (k := 4) (vs := [_, _, _, _]) rfl (fun _ => rfl) rfl rfl rfl rfl Try.isAgg30 Try.sizeOf30 rfl rfl) ?_ | refine SL.step (PS.load_own_agg (k := 5) (vs := [_, _, _, _]) rfl (fun _ => rfl) rfl rfl rfl rfl Try.isAgg30 Try.sizeOf30 rfl rfl) ?_ | refine SL.step (PS.load_own_agg (k := 6) (vs := [_, _, _, _]) rfl (fun _ => rfl) rfl rfl rfl rfl Try.isAgg30 Try.sizeOf30 rfl rfl) ?_
            first | refine SL.step (PS.load_own_agg (k := 0) (vs := [_, _, _, _]) rfl (fun _ => rfl) rfl rfl rfl rfl Try.isAgg30 Try.sizeOf30 rfl rfl) ?_ | refine SL.step (PS.load_own_agg (k := 1) (vs := [_, _, _, _]) rfl (fun _ => rfl) rfl rfl rfl rfl Try.isAgg30 Try.sizeOf30 rfl rfl) ?_ | refine SL.step (PS.load_own_agg (k := 2) (vs := [_, _, _, _]) rfl (fun _ => rfl) rfl rfl rfl rfl Try.isAgg30 Try.sizeOf30 rfl rfl) ?_ | refine SL.step (PS.load_own_agg (k := 3) (vs := [_, _, _, _]) rfl (fun _ => rfl) rfl rfl rfl rfl Try.isAgg30 Try.sizeOf30 rfl rfl) ?_ | refine SL.step (PS.load_own_agg (k := 4) (vs := [_, _, _, _]) rfl (fun _ => rfl) rfl rfl rfl rfl Try.isAgg30 Try.sizeOf30 rfl rfl) ?_ | refine SL.step (PS.load_own_agg (k := 5) (vs := [_, _, _, _]) rfl (fun _ => rfl) rfl rfl rfl rfl Try.isAgg30 Try.sizeOf30 rfl rfl) ?_ | refine SL.step (PS.load_own_agg (k := 6) (vs := [_, _, _, _]) rfl (fun _ => rfl) rfl rfl rfl rfl Try.isAgg30 Try.sizeOf30 rfl rfl) ?_
            refine SL.step (PS.eqlA rfl (fun _ => rfl) rfl (fun _ => rfl) (by intro x y w; first | exact val_eql x y _ _ w | exact val_eql x y ⟨_, _, _, _⟩ _ w | exact val_eql x y _ ⟨_, _, _, _⟩ w | exact val_eql x y ⟨_, _, _, _⟩ ⟨_, _, _, _⟩ w) rfl rfl) ?_
            refine SL.step (PS.move rfl (fun _ => rfl) rfl rfl) ?_
            refine SL.step (PS.move rfl (fun _ => rfl) rfl rfl) ?_
            refine SL.step (PS.move rfl (fun _ => rfl) rfl rfl) ?_
            refine SL.step (PS.eql rfl (fun h => h) rfl (fun h => h) rfl rfl) ?_
            refine SL.step (PS.pick_and rfl (fun _ => rfl) rfl (fun h h2 => pk_and h h2) rfl rfl) ?_
            refine SL.step (PS.assign rfl (fun _ => rfl) rfl rfl) ?_
            refine SL.keep (l' := [(6, _, _)]) ⟨rfl, trivial⟩ ?_
            refine SL.nil ?_
            refine SE.thenK hK26 ?_
            refine SC.ret ?_
            exact fin1 rfl rfl rfl (fun _ _ => congrArg Value.bool (Pl.commute_law hpt28 hpt36 (by simp only [Pl.comm, *, Bool.true_or, Bool.or_true, Bool.false_or])))
          ·
            refine SC.seq (fun K27 hK27 => ?_)
            refine SC.region ?_
            refine SL.step (PS.eql rfl (fun _ => rfl) rfl (fun _ => rfl) rfl rfl) ?_
            refine SL.step (PS.assign rfl (fun _ => rfl) rfl rfl) ?_
            refine SL.keep (l' := [(15, _, _), (14, _, _), (5, _, _), (4, _, _), (3, _, _)]) ⟨rfl, rfl, rfl, rfl, rfl, trivial⟩ ?_
            refine SL.nil ?_
            refine SE.thenK hK27 ?_
            refine SC.cond rfl (fun c15f => ?_) (fun c15f => ?_)
            ·
              refine SC.skip ?_
              refine SE.thenK hK6 ?_
              refine SC.cond_t rfl c15f ?_
              refine SC.skip ?_
              refine SE.block_normal ?_
              refine SE.thenK hK4 ?_
              refine SC.seq (fun K28 hK28 => ?_)
              refine SC.region ?_
              first | refine SL.step (PS.load_own_agg (k := 0) (vs := [_, _, _, _, _, _, _]) rfl (fun _ => rfl) rfl rfl rfl rfl Try.isAgg25 Try.sizeOf25 rfl rfl) ?_ | refine SL.step (PS.load_own_agg (k := 1) (vs := [_, _, _, _, _, _, _]) rfl (fun _ => rfl) rfl rfl rfl rfl Try.isAgg25 Try.sizeOf25 rfl rfl) ?_ | refine SL.step (PS.load_own_agg (k := 2) (vs := [_, _, _, _, _, _, _]) rfl (fun _ => rfl) rfl rfl rfl rfl Try.isAgg25 Try.sizeOf25 rfl rfl) ?_
              first | refine SL.step (PS.load_own_agg (k := 0) (vs := [_, _, _, _]) rfl (fun _ => rfl) rfl rfl rfl rfl Try.isAgg30 Try.sizeOf30 rfl rfl) ?_ | refine SL.step (PS.load_own_agg (k := 1) (vs := [_, _, _, _]) rfl (fun _ => rfl) rfl rfl rfl rfl Try.isAgg30 Try.sizeOf30 rfl rfl) ?_ | refine SL.step (PS.load_own_agg (k := 2) (vs := [_, _, _, _]) rfl (fun _ => rfl) rfl rfl rfl rfl Try.isAgg30 Try.sizeOf30 rfl rfl) ?_
              first | refine SL.step (PS.load_own_agg (k := 0) (vs := [_, _, _, _]) rfl (fun _ => rfl) rfl rfl rfl rfl Try.isAgg30 Try.sizeOf30 rfl rfl) ?_ | refine SL.step (PS.load_own_agg (k := 1) (vs := [_, _, _, _]) rfl (fun _ => rfl) rfl rfl rfl rfl Try.isAgg30 Try.sizeOf30 rfl rfl) ?_ | refine SL.step (PS.load_own_agg (k := 2) (vs := [_, _, _, _]) rfl (fun _ => rfl) rfl rfl rfl rfl Try.isAgg30 Try.sizeOf30 rfl rfl) ?_
              refine SL.buildSlice (us := [(0, _), (1, _)]) (cs := [_, _, _, _, _, _, _, _]) ⟨rfl, ⟨_, rfl, (fun _ => rfl)⟩, ⟨rfl, ⟨_, rfl, (fun _ => rfl)⟩, trivial⟩⟩ Try.underlying26 Try.sizeOf30 Try.zeroValue30 ⟨rfl, rfl, _, rfl, ⟨rfl, rfl, _, rfl, trivial⟩⟩ rfl (by decide) rfl rfl (fun b27 => ?_)
              refine SL.callQ (vs := [_, _]) Try.call9 ⟨⟨_, rfl, (fun _ => rfl)⟩, ⟨_, rfl, (fun _ => rfl)⟩, trivial⟩ (fun hg => Eval_S ⟨_, _, _, _, _, (_, _, _), (_, _, _)⟩ _ _ [x, y] (bnd2 hx hy) hf) (fun w h hok _ => Sl.of_blk cells_len rfl (own_get hok (k := 0) rfl)) rfl rfl (fun vt28 hvt28 => ?_)
              obtain ⟨pt28, hpt28, rfl⟩ := out_ex (hvt28 rfl)
              clear hvt28
              simp only at hpt28
              refine SL.step (PS.move rfl (fun _ => rfl) rfl rfl) ?_
              refine SL.step (PS.extract rfl (fun _ => rfl) rfl rfl rfl) ?_
              refine SL.step (PS.extract rfl (fun _ => rfl) rfl rfl rfl) ?_
              refine SL.alloc (cs := [_, _, _, _]) Try.zeroValue30 rfl rfl rfl (fun b7 => ?_)
              first | refine SL.store_own (k := 0) (own' := [_, _, _, _, _]) (cs' := [_, _, _, _]) rfl rfl rfl rfl rfl rfl rfl Try.sizeOf30 rfl (Nat.le_of_ble_eq_true rfl) rfl rfl rfl rfl ?_ | refine SL.store_own (k := 1) (own' := [_, _, _, _, _]) (cs' := [_, _, _, _, _, _, _, _]) rfl rfl rfl rfl rfl rfl rfl Try.sizeOf30 rfl (Nat.le_of_ble_eq_true rfl) rfl rfl rfl rfl ?_ | refine SL.store_own (k := 2) (own' := [_, _, _, _, _]) (cs' := [_, _, _, _]) rfl rfl rfl rfl rfl rfl rfl Try.sizeOf30 rfl (Nat.le_of_ble_eq_true rfl) rfl rfl rfl rfl ?_ | refine SL.store_own (k := 3) (own' := [_, _, _, _, _]) (cs' := [_, _, _, _]) rfl rfl rfl rfl rfl rfl rfl Try.sizeOf30 rfl (Nat.le_of_ble_eq_true rfl) rfl rfl rfl rfl ?_ | refine SL.store_own (k := 4) (own' := [_, _, _, _, _]) (cs' := [_, _, _, _, _, _, _]) rfl rfl rfl rfl rfl rfl rfl Try.sizeOf30 rfl (Nat.le_of_ble_eq_true rfl) rfl rfl rfl rfl ?_
              refine SL.step (PS.assign rfl (fun _ => rfl) rfl rfl) ?_
              refine SL.keep (l' := [(8, _, _), (7, _, _), (5, _, _), (4, _, _), (3, _, _)]) ⟨rfl, rfl, rfl, rfl, rfl, trivial⟩ ?_
              refine SL.nil ?_
              refine SE.thenK hK28 ?_
              refine SC.seq (fun K29 hK29 => ?_)
              refine SC.region ?_
              first | refine SL.step (PS.load_own_agg (k := 0) (vs := [_, _, _, _, _, _, _]) rfl (fun _ => rfl) rfl rfl rfl rfl Try.isAgg25 Try.sizeOf25 rfl rfl) ?_ | refine SL.step (PS.load_own_agg (k := 1) (vs := [_, _, _, _, _, _, _]) rfl (fun _ => rfl) rfl rfl rfl rfl Try.isAgg25 Try.sizeOf25 rfl rfl) ?_ | refine SL.step (PS.load_own_agg (k := 2) (vs := [_, _, _, _, _, _, _]) rfl (fun _ => rfl) rfl rfl rfl rfl Try.isAgg25 Try.sizeOf25 rfl rfl) ?_ | refine SL.step (PS.load_own_agg (k := 3) (vs := [_, _, _, _, _, _, _]) rfl (fun _ => rfl) rfl rfl rfl rfl Try.isAgg25 Try.sizeOf25 rfl rfl) ?_ | refine SL.step (PS.load_own_agg (k := 4) (vs := [_, _, _, _, _, _, _]) rfl (fun _ => rfl) rfl rfl rfl rfl Try.isAgg25 Try.sizeOf25 rfl rfl) ?_
              first | refine SL.step (PS.load_own_agg (k := 0) (vs := [_, _, _, _]) rfl (fun _ => rfl) rfl rfl rfl rfl Try.isAgg30 Try.sizeOf30 rfl rfl) ?_ | refine SL.step (PS.load_own_agg (k := 1) (vs := [_, _, _, _]) rfl (fun _ => rfl) rfl rfl rfl rfl Try.isAgg30 Try.sizeOf30 rfl rfl) ?_ | refine SL.step (PS.load_own_agg (k := 2) (vs := [_, _, _, _]) rfl (fun _ => rfl) rfl rfl rfl rfl Try.isAgg30 Try.sizeOf30 rfl rfl) ?_ | refine SL.step (PS.load_own_agg (k := 3) (vs := [_, _, _, _]) rfl (fun _ => rfl) rfl rfl rfl rfl Try.isAgg30 Try.sizeOf30 rfl rfl) ?_ | refine SL.step (PS.load_own_agg (k := 4) (vs := [_, _, _, _]) rfl (fun _ => rfl) rfl rfl rfl rfl Try.isAgg30 Try.sizeOf30 rfl rfl) ?_
              first | refine SL.step (PS.load_own_agg (k := 0) (vs := [_, _, _, _]) rfl (fun _ => rfl) rfl rfl rfl rfl Try.isAgg30 Try.sizeOf30 rfl rfl) ?_ | refine SL.step (PS.load_own_agg (k := 1) (vs := [_, _, _, _]) rfl (fun _ => rfl) rfl rfl rfl rfl Try.isAgg30 Try.sizeOf30 rfl rfl) ?_ | refine SL.step (PS.load_own_agg (k := 2) (vs := [_, _, _, _]) rfl (fun _ => rfl) rfl rfl rfl rfl Try.isAgg30 Try.sizeOf30 rfl rfl) ?_ | refine SL.step (PS.load_own_agg (k := 3) (vs := [_, _, _, _]) rfl (fun _ => rfl) rfl rfl rfl rfl Try.isAgg30 Try.sizeOf30 rfl rfl) ?_ | refine SL.step (PS.load_own_agg (k := 4) (vs := [_, _, _, _]) rfl (fun _ => rfl) rfl rfl rfl rfl Try.isAgg30 Try.sizeOf30 rfl rfl) ?_
              refine SL.buildSlice (us := [(0, _), (1, _)]) (cs := [_, _, _, _, _, _, _, _]) ⟨rfl, ⟨_, rfl, (fun _ => rfl)⟩, ⟨rfl, ⟨_, rfl, (fun _ => rfl)⟩, trivial⟩⟩ Try.underlying26 Try.sizeOf30 Try.zeroValue30 ⟨rfl, rfl, _, rfl, ⟨rfl, rfl, _, rfl, trivial⟩⟩ rfl (by decide) rfl rfl (fun b35 => ?_)
              refine SL.callQ (vs := [_, _]) Try.call9 ⟨⟨_, rfl, (fun _ => rfl)⟩, ⟨_, rfl, (fun _ => rfl)⟩, trivial⟩ (fun hg => Eval_S ⟨_, _, _, _, _, (_, _, _), (_, _, _)⟩ _ _ [y, x] (bnd2 hy hx) hf) (fun w h hok _ => Sl.of_blk cells_len rfl (own_get hok (k := 0) rfl)) rfl rfl (fun vt36 hvt36 => ?_)
              obtain ⟨pt36, hpt36, rfl⟩ := out_ex (hvt36 rfl)
              clear hvt36
              simp only at hpt36
              refine SL.step (PS.move rfl (fun _ => rfl) rfl rfl) ?_
              refine SL.step (PS.extract rfl (fun _ => rfl) rfl rfl rfl) ?_
              refine SL.step (PS.extract rfl (fun _ => rfl) rfl rfl rfl) ?_
              refine SL.alloc (cs := [_, _, _, _]) Try.zeroValue30 rfl rfl rfl (fun b9 => ?_)
              first | refine SL.store_own (k := 0) (own' := [_, _, _, _, _, _, _]) (cs' := [_, _, _, _]) rfl rfl rfl rfl rfl rfl rfl Try.sizeOf30 rfl (Nat.le_of_ble_eq_true rfl) rfl rfl rfl rfl ?_ | refine SL.store_own (k := 1) (own' := [_, _, _, _, _, _, _]) (cs' := [_, _, _, _, _, _, _, _]) rfl rfl rfl rfl rfl rfl rfl Try.sizeOf30 rfl (Nat.le_of_ble_eq_true rfl) rfl rfl rfl rfl ?_ | refine SL.store_own (k := 2) (own' := [_, _, _, _, _, _, _]) (cs' := [_, _, _, _]) rfl rfl rfl rfl rfl rfl rfl Try.sizeOf30 rfl (Nat.le_of_ble_eq_true rfl) rfl rfl rfl rfl ?_ | refine SL.store_own (k := 3) (own' := [_, _, _, _, _, _, _]) (cs' := [_, _, _, _, _, _, _, _]) rfl rfl rfl rfl rfl rfl rfl Try.sizeOf30 rfl (Nat.le_of_ble_eq_true rfl) rfl rfl rfl rfl ?_ | refine SL.store_own (k := 4) (own' := [_, _, _, _, _, _, _]) (cs' := [_, _, _, _]) rfl rfl rfl rfl rfl rfl rfl Try.sizeOf30 rfl (Nat.le_of_ble_eq_true rfl) rfl rfl rfl rfl ?_ | refine SL.store_own (k := 5) (own' := [_, _, _, _, _, _, _]) (cs' := [_, _, _, _]) rfl rfl rfl rfl rfl rfl rfl Try.sizeOf30 rfl (Nat.le_of_ble_eq_true rfl) rfl rfl rfl rfl ?_ | refine SL.store_own (k := 6) (own' := [_, _, _, _, _, _, _]) (cs' := [_, _, _, _, _, _, _]) rfl rfl rfl rfl rfl rfl rfl Try.sizeOf30 rfl (Nat.le_of_ble_eq_true rfl) rfl rfl rfl rfl ?_
              refine SL.step (PS.assign rfl (fun _ => rfl) rfl rfl) ?_
              refine SL.keep (l' := [(10, _, _), (9, _, _), (8, _, _), (7, _, _)]) ⟨rfl, rfl, rfl, rfl, trivial⟩ ?_
              refine SL.nil ?_
              refine SE.thenK hK29 ?_
              refine SC.seq (fun K30 hK30 => ?_)
              refine SC.region ?_
              first | refine SL.step (PS.load_own_agg (k := 0) (vs := [_, _, _, _]) rfl (fun _ => rfl) rfl rfl rfl rfl Try.isAgg30 Try.sizeOf30 rfl rfl) ?_ | refine SL.step (PS.load_own_agg (k := 1) (vs := [_, _, _, _]) rfl (fun _ => rfl) rfl rfl rfl rfl Try.isAgg30 Try.sizeOf30 rfl rfl) ?_ | refine SL.step (PS.load_own_agg (k := 2) (vs := [_, _, _, _]) rfl (fun _ => rfl) rfl rfl rfl rfl Try.isAgg30 Try.sizeOf30 rfl rfl) ?_ | refine SL.step (PS.load_own_agg (k := 3) (vs := [_, _, _, _]) rfl (fun _ => rfl) rfl rfl rfl rfl Try.isAgg30 Try.sizeOf30 rfl rfl) ?_ | refine SL.step (PS.load_own_agg (k := 4) (vs := [_, _, _, _]) rfl (fun _ => rfl) rfl rfl rfl rfl Try.isAgg30 Try.sizeOf30 rfl rfl) ?_ | refine SL.step (PS.load_own_agg (k := 5) (vs := [_, _, _, _]) rfl (fun _ => rfl) rfl rfl rfl rfl Try.isAgg30 Try.sizeOf30 rfl rfl) ?_ | refine SL.step (PS.load_own_agg (k := 6) (vs := [_, _, _, _]) rfl (fun _ => rfl) rfl rfl rfl rfl Try.isAgg30 Try.sizeOf30 rfl rfl) ?_
              first | refine SL.step (PS.load_own_agg (k := 0) (vs := [_, _, _, _]) rfl (fun _ => rfl) rfl rfl rfl rfl Try.isAgg30 Try.sizeOf30 rfl rfl) ?_ | refine SL.step (PS.load_own_agg (k := 1) (vs := [_, _, _, _]) rfl (fun _ => rfl) rfl rfl rfl rfl Try.isAgg30 Try.sizeOf30 rfl rfl) ?_ | refine SL.step (PS.load_own_agg (k := 2) (vs := [_, _, _, _]) rfl (fun _ => rfl) rfl rfl rfl rfl Try.isAgg30 Try.sizeOf30 rfl rfl) ?_ | refine SL.step (PS.load_own_agg (k := 3) (vs := [_, _, _, _]) rfl (fun _ => rfl) rfl rfl rfl rfl Try.isAgg30 Try.sizeOf30 rfl rfl) ?_ | refine SL.step (PS.load_own_agg (k := 4) (vs := [_, _, _, _]) rfl (fun _ => rfl) rfl rfl rfl rfl Try.isAgg30 Try.sizeOf30 rfl rfl) ?_ | refine SL.step (PS.load_own_agg (k := 5) (vs := [_, _, _, _]) rfl (fun _ => rfl) rfl rfl rfl rfl Try.isAgg30 Try.sizeOf30 rfl rfl) ?_ | refine SL.step (PS.load_own_agg (k := 6) (vs := [_, _, _, _]) rfl (fun _ => rfl) rfl rfl rfl rfl Try.isAgg30 Try.sizeOf30 rfl rfl) ?_
              refine SL.step (PS.eqlA rfl (fun _ => rfl) rfl (fun _ => rfl) (by intro x y w; first | exact val_eql x y _ _ w | exact val_eql x y ⟨_, _, _, _⟩ _ w | exact val_eql x y _ ⟨_, _, _, _⟩ w | exact val_eql x y ⟨_, _, _, _⟩ ⟨_, _, _, _⟩ w) rfl rfl) ?_
              refine SL.step (PS.move rfl (fun _ => rfl) rfl rfl) ?_
              refine SL.step (PS.move rfl (fun _ => rfl) rfl rfl) ?_
              refine SL.step (PS.move rfl (fun _ => rfl) rfl rfl) ?_
              refine SL.step (PS.eql rfl (fun h => h) rfl (fun h => h) rfl rfl) ?_
              refine SL.step (PS.pick_and rfl (fun _ => rfl) rfl (fun h h2 => pk_and h h2) rfl rfl) ?_
              refine SL.step (PS.assign rfl (fun _ => rfl) rfl rfl) ?_
              refine SL.keep (l' := [(6, _, _)]) ⟨rfl, trivial⟩ ?_
              refine SL.nil ?_
              refine SE.thenK hK30 ?_
              refine SC.ret ?_
              exact fin1 rfl rfl rfl (fun _ _ => congrArg Value.bool (Pl.commute_law hpt28 hpt36 (by simp only [Pl.comm, *, Bool.true_or, Bool.or_true, Bool.false_or])))
            ·
              refine SC.region ?_
              refine SL.step (PS.eql rfl (fun _ => rfl) rfl (fun _ => rfl) rfl rfl) ?_
              refine SL.step (PS.assign rfl (fun _ => rfl) rfl rfl) ?_
              refine SL.keep (l' := [(15, _, _), (5, _, _), (4, _, _), (3, _, _)]) ⟨rfl, rfl, rfl, rfl, trivial⟩ ?_
              refine SL.nil ?_
              refine SE.thenK hK6 ?_
              refine SC.cond rfl (fun c15g => ?_) (fun c15g => ?_)
              ·
                refine SC.skip ?_
                refine SE.block_normal ?_
                refine SE.thenK hK4 ?_
                refine SC.seq (fun K31 hK31 => ?_)
                refine SC.region ?_
                first | refine SL.step (PS.load_own_agg (k := 0) (vs := [_, _, _, _, _, _, _]) rfl (fun _ => rfl) rfl rfl rfl rfl Try.isAgg25 Try.sizeOf25 rfl rfl) ?_ | refine SL.step (PS.load_own_agg (k := 1) (vs := [_, _, _, _, _, _, _]) rfl (fun _ => rfl) rfl rfl rfl rfl Try.isAgg25 Try.sizeOf25 rfl rfl) ?_ | refine SL.step (PS.load_own_agg (k := 2) (vs := [_, _, _, _, _, _, _]) rfl (fun _ => rfl) rfl rfl rfl rfl Try.isAgg25 Try.sizeOf25 rfl rfl) ?_
                first | refine SL.step (PS.load_own_agg (k := 0) (vs := [_, _, _, _]) rfl (fun _ => rfl) rfl rfl rfl rfl Try.isAgg30 Try.sizeOf30 rfl rfl) ?_ | refine SL.step (PS.load_own_agg (k := 1) (vs := [_, _, _, _]) rfl (fun _ => rfl) rfl rfl rfl rfl Try.isAgg30 Try.sizeOf30 rfl rfl) ?_ | refine SL.step (PS.load_own_agg (k := 2) (vs := [_, _, _, _]) rfl (fun _ => rfl) rfl rfl rfl rfl Try.isAgg30 Try.sizeOf30 rfl rfl) ?_
                first | refine SL.step (PS.load_own_agg (k := 0) (vs := [_, _, _, _]) rfl (fun _ => rfl) rfl rfl rfl rfl Try.isAgg30 Try.sizeOf30 rfl rfl) ?_ | refine SL.step (PS.load_own_agg (k := 1) (vs := [_, _, _, _]) rfl (fun _ => rfl) rfl rfl rfl rfl Try.isAgg30 Try.sizeOf30 rfl rfl) ?_ | refine SL.step (PS.load_own_agg (k := 2) (vs := [_, _, _, _]) rfl (fun _ => rfl) rfl rfl rfl rfl Try.isAgg30 Try.sizeOf30 rfl rfl) ?_
                refine SL.buildSlice (us := [(0, _), (1, _)]) (cs := [_, _, _, _, _, _, _, _]) ⟨rfl, ⟨_, rfl, (fun _ => rfl)⟩, ⟨rfl, ⟨_, rfl, (fun _ => rfl)⟩, trivial⟩⟩ Try.underlying26 Try.sizeOf30 Try.zeroValue30 ⟨rfl, rfl, _, rfl, ⟨rfl, rfl, _, rfl, trivial⟩⟩ rfl (by decide) rfl rfl (fun b27 => ?_)
                refine SL.callQ (vs := [_, _]) Try.call9 ⟨⟨_, rfl, (fun _ => rfl)⟩, ⟨_, rfl, (fun _ => rfl)⟩, trivial⟩ (fun hg => Eval_S ⟨_, _, _, _, _, (_, _, _), (_, _, _)⟩ _ _ [x, y] (bnd2 hx hy) hf) (fun w h hok _ => Sl.of_blk cells_len rfl (own_get hok (k := 0) rfl)) rfl rfl (fun vt28 hvt28 => ?_)
                obtain ⟨pt28, hpt28, rfl⟩ := out_ex (hvt28 rfl)
                clear hvt28
                simp only at hpt28
                refine SL.step (PS.move rfl (fun _ => rfl) rfl rfl) ?_
                refine SL.step (PS.extract rfl (fun _ => rfl) rfl rfl rfl) ?_
                refine SL.step (PS.extract rfl (fun _ => rfl) rfl rfl rfl) ?_
                refine SL.alloc (cs := [_, _, _, _]) Try.zeroValue30 rfl rfl rfl (fun b7 => ?_)
                first | refine SL.store_own (k := 0) (own' := [_, _, _, _, _]) (cs' := [_, _, _, _]) rfl rfl rfl rfl rfl rfl rfl Try.sizeOf30 rfl (Nat.le_of_ble_eq_true rfl) rfl rfl rfl rfl ?_ | refine SL.store_own (k := 1) (own' := [_, _, _, _, _]) (cs' := [_, _, _, _, _, _, _, _]) rfl rfl rfl rfl rfl rfl rfl Try.sizeOf30 rfl (Nat.le_of_ble_eq_true rfl) rfl rfl rfl rfl ?_ | refine SL.store_own (k := 2) (own' := [_, _, _, _, _]) (cs' := [_, _, _, _]) rfl rfl rfl rfl rfl rfl rfl Try.sizeOf30 rfl (Nat.le_of_ble_eq_true rfl) rfl rfl rfl rfl ?_ | refine SL.store_own (k := 3) (own' := [_, _, _, _, _]) (cs' := [_, _, _, _]) rfl rfl rfl rfl rfl rfl rfl Try.sizeOf30 rfl (Nat.le_of_ble_eq_true rfl) rfl rfl rfl rfl ?_ | refine SL.store_own (k := 4) (own' := [_, _, _, _, _]) (cs' := [_, _, _, _, _, _, _]) rfl rfl rfl rfl rfl rfl rfl Try.sizeOf30 rfl (Nat.le_of_ble_eq_true rfl) rfl rfl rfl rfl ?_
                refine SL.step (PS.assign rfl (fun _ => rfl) rfl rfl) ?_
                refine SL.keep (l' := [(8, _, _), (7, _, _), (5, _, _), (4, _, _), (3, _, _)]) ⟨rfl, rfl, rfl, rfl, rfl, trivial⟩ ?_
                refine SL.nil ?_
                refine SE.thenK hK31 ?_
                refine SC.seq (fun K32 hK32 => ?_)
                refine SC.region ?_
                first | refine SL.step (PS.load_own_agg (k := 0) (vs := [_, _, _, _, _, _, _]) rfl (fun _ => rfl) rfl rfl rfl rfl Try.isAgg25 Try.sizeOf25 rfl rfl) ?_ | refine SL.step (PS.load_own_agg (k := 1) (vs := [_, _, _, _, _, _, _]) rfl (fun _ => rfl) rfl rfl rfl rfl Try.isAgg25 Try.sizeOf25 rfl rfl) ?_ | refine SL.step (PS.load_own_agg (k := 2) (vs := [_, _, _, _, _, _, _]) rfl (fun _ => rfl) rfl rfl rfl rfl Try.isAgg25 Try.sizeOf25 rfl rfl) ?_ | refine SL.step (PS.load_own_agg (k := 3) (vs := [_, _, _, _, _, _, _]) rfl (fun _ => rfl) rfl rfl rfl rfl Try.isAgg25 Try.sizeOf25 rfl rfl) ?_ | refine SL.step (PS.load_own_agg (k := 4) (vs := [_, _, _, _, _, _, _]) rfl (fun _ => rfl) rfl rfl rfl rfl Try.isAgg25 Try.sizeOf25 rfl rfl) ?_
                first | refine SL.step (PS.load_own_agg (k := 0) (vs := [_, _, _, _]) rfl (fun _ => rfl) rfl rfl rfl rfl Try.isAgg30 Try.sizeOf30 rfl rfl) ?_ | refine SL.step (PS.load_own_agg (k := 1) (vs := [_, _, _, _]) rfl (fun _ => rfl) rfl rfl rfl rfl Try.isAgg30 Try.sizeOf30 rfl rfl) ?_ | refine SL.step (PS.load_own_agg (k := 2) (vs := [_, _, _, _]) rfl (fun _ => rfl) rfl rfl rfl rfl Try.isAgg30 Try.sizeOf30 rfl rfl) ?_ | refine SL.step (PS.load_own_agg (k := 3) (vs := [_, _, _, _]) rfl (fun _ => rfl) rfl rfl rfl rfl Try.isAgg30 Try.sizeOf30 rfl rfl) ?_ | refine SL.step (PS.load_own_agg (k := 4) (vs := [_, _, _, _]) rfl (fun _ => rfl) rfl rfl rfl rfl Try.isAgg30 Try.sizeOf30 rfl rfl) ?_
                first | refine SL.step (PS.load_own_agg (k := 0) (vs := [_, _, _, _]) rfl (fun _ => rfl) rfl rfl rfl rfl Try.isAgg30 Try.sizeOf30 rfl rfl) ?_ | refine SL.step (PS.load_own_agg (k := 1) (vs := [_, _, _, _]) rfl (fun _ => rfl) rfl rfl rfl rfl Try.isAgg30 Try.sizeOf30 rfl rfl) ?_ | refine SL.step (PS.load_own_agg (k := 2) (vs := [_, _, _, _]) rfl (fun _ => rfl) rfl rfl rfl rfl Try.isAgg30 Try.sizeOf30 rfl rfl) ?_ | refine SL.step (PS.load_own_agg (k := 3) (vs := [_, _, _, _]) rfl (fun _ => rfl) rfl rfl rfl rfl Try.isAgg30 Try.sizeOf30 rfl rfl) ?_ | refine SL.step (PS.load_own_agg (k := 4) (vs := [_, _, _, _]) rfl (fun _ => rfl) rfl rfl rfl rfl Try.isAgg30 Try.sizeOf30 rfl rfl) ?_
                refine SL.buildSlice (us := [(0, _), (1, _)]) (cs := [_, _, _, _, _, _, _, _]) ⟨rfl, ⟨_, rfl, (fun _ => rfl)⟩, ⟨rfl, ⟨_, rfl, (fun _ => rfl)⟩, trivial⟩⟩ Try.underlying26 Try.sizeOf30 Try.zeroValue30 ⟨rfl, rfl, _, rfl, ⟨rfl, rfl, _, rfl, trivial⟩⟩ rfl (by decide) rfl rfl (fun b35 => ?_)
                refine SL.callQ (vs := [_, _]) Try.call9 ⟨⟨_, rfl, (fun _ => rfl)⟩, ⟨_, rfl, (fun _ => rfl)⟩, trivial⟩ (fun hg => Eval_S ⟨_, _, _, _, _, (_, _, _), (_, _, _)⟩ _ _ [y, x] (bnd2 hy hx) hf) (fun w h hok _ => Sl.of_blk cells_len rfl (own_get hok (k := 0) rfl)) rfl rfl (fun vt36 hvt36 => ?_)
                obtain ⟨pt36, hpt36, rfl⟩ := out_ex (hvt36 rfl)
                clear hvt36
                simp only at hpt36
                refine SL.step (PS.move rfl (fun _ => rfl) rfl rfl) ?_
                refine SL.step (PS.extract rfl (fun _ => rfl) rfl rfl rfl) ?_
                refine SL.step (PS.extract rfl (fun _ => rfl) rfl rfl rfl) ?_
                refine SL.alloc (cs := [_, _, _, _]) Try.zeroValue30 rfl rfl rfl (fun b9 => ?_)
                first | refine SL.store_own (k := 0) (own' := [_, _, _, _, _, _, _]) (cs' := [_, _, _, _]) rfl rfl rfl rfl rfl rfl rfl Try.sizeOf30 rfl (Nat.le_of_ble_eq_true rfl) rfl rfl rfl rfl ?_ | refine SL.store_own (k := 1) (own' := [_, _, _, _, _, _, _]) (cs' := [_, _, _, _, _, _, _, _]) rfl rfl rfl rfl rfl rfl rfl Try.sizeOf30 rfl (Nat.le_of_ble_eq_true rfl) rfl rfl rfl rfl ?_ | refine SL.store_own (k := 2) (own' := [_, _, _, _, _, _, _]) (cs' := [_, _, _, _]) rfl rfl rfl rfl rfl rfl rfl Try.sizeOf30 rfl (Nat.le_of_ble_eq_true rfl) rfl rfl rfl rfl ?_ | refine SL.store_own (k := 3) (own' := [_, _, _, _, _, _, _]) (cs' := [_, _, _, _, _, _, _, _]) rfl rfl rfl rfl rfl rfl rfl Try.sizeOf30 rfl (Nat.le_of_ble_eq_true rfl) rfl rfl rfl rfl ?_ | refine SL.store_own (k := 4) (own' := [_, _, _, _, _, _, _]) (cs' := [_, _, _, _]) rfl rfl rfl rfl rfl rfl rfl Try.sizeOf30 rfl (Nat.le_of_ble_eq_true rfl) rfl rfl rfl rfl ?_ | refine SL.store_own (k := 5) (own' := [_, _, _, _, _, _, _]) (cs' := [_, _, _, _]) rfl rfl rfl rfl rfl rfl rfl Try.sizeOf30 rfl (Nat.le_of_ble_eq_true rfl) rfl rfl rfl rfl ?_ | refine SL.store_own (k := 6) (own' := [_, _, _, _, _, _, _]) (cs' := [_, _, _, _, _, _, _]) rfl rfl rfl rfl rfl rfl rfl Try.sizeOf30 rfl (Nat.le_of_ble_eq_true rfl) rfl rfl rfl rfl ?_
                refine SL.step (PS.assign rfl (fun _ => rfl) rfl rfl) ?_
                refine SL.keep (l' := [(10, _, _), (9, _, _), (8, _, _), (7, _, _)]) ⟨rfl, rfl, rfl, rfl, trivial⟩ ?_
                refine SL.nil ?_
                refine SE.thenK hK32 ?_
                refine SC.seq (fun K33 hK33 => ?_)
                refine SC.region ?_
                first | refine SL.step (PS.load_own_agg (k := 0) (vs := [_, _, _, _]) rfl (fun _ => rfl) rfl rfl rfl rfl Try.isAgg30 Try.sizeOf30 rfl rfl) ?_ | refine SL.step (PS.load_own_agg (k := 1) (vs := [_, _, _, _]) rfl (fun _ => rfl) rfl rfl rfl rfl Try.isAgg30 Try.sizeOf30 rfl rfl) ?_ | refine SL.step (PS.load_own_agg (k := 2) (vs := [_, _, _, _]) rfl (fun _ => rfl) rfl rfl rfl rfl Try.isAgg30 Try.sizeOf30 rfl rfl) ?_ | refine SL.step (PS.load_own_agg (k := 3) (vs := [_, _, _, _]) rfl (fun _ => rfl) rfl rfl rfl rfl Try.isAgg30 Try.sizeOf30 rfl rfl) ?_ | refine SL.step (PS.load_own_agg (k := 4) (vs := [_, _, _, _]) rfl (fun _ => rfl) rfl rfl rfl rfl Try.isAgg30 Try.sizeOf30 rfl rfl) ?_ | refine SL.step (PS.load_own_agg (k := 5) (vs := [_, _, _, _]) rfl (fun _ => rfl) rfl rfl rfl rfl Try.isAgg30 Try.sizeOf30 rfl rfl) ?_ | refine SL.step (PS.load_own_agg (k := 6) (vs := [_, _, _, _]) rfl (fun _ => rfl) rfl rfl rfl rfl Try.isAgg30 Try.sizeOf30 rfl rfl) ?_
                first | refine SL.step (PS.load_own_agg (k := 0) (vs := [_, _, _, _]) rfl (fun _ => rfl) rfl rfl rfl rfl Try.isAgg30 Try.sizeOf30 rfl rfl) ?_ | refine SL.step (PS.load_own_agg (k := 1) (vs := [_, _, _, _]) rfl (fun _ => rfl) rfl rfl rfl rfl Try.isAgg30 Try.sizeOf30 rfl rfl) ?_ | refine SL.step (PS.load_own_agg (k := 2) (vs := [_, _, _, _]) rfl (fun _ => rfl) rfl rfl rfl rfl Try.isAgg30 Try.sizeOf30 rfl rfl) ?_ | refine SL.step (PS.load_own_agg (k := 3) (vs := [_, _, _, _]) rfl (fun _ => rfl) rfl rfl rfl rfl Try.isAgg30 Try.sizeOf30 rfl rfl) ?_ | refine SL.step (PS.load_own_agg (k := 4) (vs := [_, _, _, _]) rfl (fun _ => rfl) rfl rfl rfl rfl Try.isAgg30 Try.sizeOf30 rfl rfl) ?_ | refine SL.step (PS.load_own_agg (k := 5) (vs := [_, _, _, _]) rfl (fun _ => rfl) rfl rfl rfl rfl Try.isAgg30 Try.sizeOf30 rfl rfl) ?_ | refine SL.step (PS.load_own_agg (k := 6) (vs := [_, _, _, _]) rfl (fun _ => rfl) rfl rfl rfl rfl Try.isAgg30 Try.sizeOf30 rfl rfl) ?_
                refine SL.step (PS.eqlA rfl (fun _ => rfl) rfl (fun _ => rfl) (by intro x y w; first | exact val_eql x y _ _ w | exact val_eql x y ⟨_, _, _, _⟩ _ w | exact val_eql x y _ ⟨_, _, _, _⟩ w | exact val_eql x y ⟨_, _, _, _⟩ ⟨_, _, _, _⟩ w) rfl rfl) ?_
                refine SL.step (PS.move rfl (fun _ => rfl) rfl rfl) ?_
                refine SL.step (PS.move rfl (fun _ => rfl) rfl rfl) ?_
                refine SL.step (PS.move rfl (fun _ => rfl) rfl rfl) ?_
                refine SL.step (PS.eql rfl (fun h => h) rfl (fun h => h) rfl rfl) ?_
                refine SL.step (PS.pick_and rfl (fun _ => rfl) rfl (fun h h2 => pk_and h h2) rfl rfl) ?_
                refine SL.step (PS.assign rfl (fun _ => rfl) rfl rfl) ?_
                refine SL.keep (l' := [(6, _, _)]) ⟨rfl, trivial⟩ ?_
                refine SL.nil ?_
                refine SE.thenK hK33 ?_
                refine SC.ret ?_
                exact fin1 rfl rfl rfl (fun _ _ => congrArg Value.bool (Pl.commute_law hpt28 hpt36 (by simp only [Pl.comm, *, Bool.true_or, Bool.or_true, Bool.false_or])))
              ·
                refine SC.seq (fun K34 hK34 => ?_)
                refine SC.region ?_
                refine SL.step (PS.assign rfl (fun _ => rfl) rfl rfl) ?_
                refine SL.keep (l' := [(6, _, _)]) ⟨rfl, trivial⟩ ?_
                refine SL.nil ?_
                refine SE.thenK hK34 ?_
                refine SC.ret ?_
                refine SE.block_ret ?_
                refine SE.then_ret ?_
                exact fin1 rfl rfl rfl (fun _ _ => rfl)
theorem EvalFreezes_S (t : Int) (v : Vl) (hv : Bd v) :
    Spec Try.prog 4 [.int .i64 t, v.val] (fun _ => True) (fun v _ => v = .bool true) := by
  refine Spec.enter Try.func4 rfl (n := 93) Try.ntmps4 (Nat.le_of_ble_eq_true rfl) (l := [(0, _, _), (1, _, _)]) rfl ?_
  intro S w
  refine SC.seq (fun K1 hK1 => ?_)
  refine SC.region ?_
  refine SL.box (cs := [_, _, _, _]) rfl rfl rfl rfl rfl (fun b3 => ?_)
  refine SL.step (PS.assign rfl (fun _ => rfl) rfl rfl) ?_
  refine SL.keep (l' := [(3, _, _), (0, _, _)]) ⟨rfl, rfl, trivial⟩ ?_
  refine SL.nil ?_
  refine SE.thenK hK1 ?_
  refine SC.seq (fun K2 hK2 => ?_)
  refine SC.seq (fun K3 hK3 => ?_)
  refine SC.region ?_
  refine SL.callV (vs := []) Try.call8 trivial (fun hg => lives_V) rfl rfl ?_
  refine SL.step (PS.not rfl (fun _ => rfl) rfl rfl) ?_
  refine SL.keep (l' := [(13, _, _), (3, _, _), (0, _, _)]) ⟨rfl, rfl, rfl, trivial⟩ ?_
  refine SL.nil ?_
  refine SE.thenK hK3 ?_
  refine SC.cond_f rfl (rfl) ?_
  refine SC.skip ?_
  refine SE.thenK hK2 ?_
  refine SC.seq (fun K4 hK4 => ?_)
  refine SC.region ?_
  refine SL.step (PS.move rfl (fun _ => rfl) rfl rfl) ?_
  refine SL.step (PS.build (us := [(0, _), (2, _)]) (vs := [_, _, _, _, _, _, _]) ⟨rfl, ⟨_, rfl, (fun _ => rfl)⟩, ⟨rfl, ⟨_, rfl, (fun _ => rfl)⟩, trivial⟩⟩ Try.underlying25 Try.zeroValue25 (Try.places_25 Try.underlying25) rfl rfl rfl) ?_
  refine SL.alloc (cs := [_, _, _, _, _, _, _]) Try.zeroValue25 rfl rfl rfl (fun b5 => ?_)
  first | refine SL.store_own (k := 0) (own' := [_, _]) (cs' := [_, _, _, _, _, _, _]) rfl rfl rfl rfl rfl rfl rfl Try.sizeOf25 rfl (Nat.le_of_ble_eq_true rfl) rfl rfl rfl rfl ?_ | refine SL.store_own (k := 1) (own' := [_, _]) (cs' := [_, _, _, _]) rfl rfl rfl rfl rfl rfl rfl Try.sizeOf25 rfl (Nat.le_of_ble_eq_true rfl) rfl rfl rfl rfl ?_
  refine SL.keep (l' := [(5, _, _), (3, _, _), (0, _, _)]) ⟨rfl, rfl, rfl, trivial⟩ ?_
  refine SL.nil ?_
  refine SE.thenK hK4 ?_
  refine SC.seq (fun K5 hK5 => ?_)
  refine SC.region ?_
  first | refine SL.step (PS.load_own_agg (k := 0) (vs := [_, _, _, _, _, _, _]) rfl (fun _ => rfl) rfl rfl rfl rfl Try.isAgg25 Try.sizeOf25 rfl rfl) ?_ | refine SL.step (PS.load_own_agg (k := 1) (vs := [_, _, _, _, _, _, _]) rfl (fun _ => rfl) rfl rfl rfl rfl Try.isAgg25 Try.sizeOf25 rfl rfl) ?_
  first | refine SL.step (PS.load_own_agg (k := 0) (vs := [_, _, _, _]) rfl (fun _ => rfl) rfl rfl rfl rfl Try.isAgg30 Try.sizeOf30 rfl rfl) ?_ | refine SL.step (PS.load_own_agg (k := 1) (vs := [_, _, _, _]) rfl (fun _ => rfl) rfl rfl rfl rfl Try.isAgg30 Try.sizeOf30 rfl rfl) ?_
  refine SL.buildSlice (us := [(0, _)]) (cs := [_, _, _, _]) ⟨rfl, ⟨_, rfl, (fun _ => rfl)⟩, trivial⟩ Try.underlying26 Try.sizeOf30 Try.zeroValue30 ⟨rfl, rfl, _, rfl, trivial⟩ rfl (by decide) rfl rfl (fun b19 => ?_)
  refine SL.callQ (vs := [_, _]) Try.call9 ⟨⟨_, rfl, (fun _ => rfl)⟩, ⟨_, rfl, (fun _ => rfl)⟩, trivial⟩ (fun hg => Eval_S ⟨_, _, _, _, _, (_, _, _), (_, _, _)⟩ _ _ [v] (bnd1 hv) f0) (fun w h hok _ => Sl.of_blk cells_len rfl (own_get hok (k := 0) rfl)) rfl rfl (fun vt20 hvt20 => ?_)
  obtain ⟨pt20, hpt20, rfl⟩ := out_ex (hvt20 rfl)
  clear hvt20
  simp only at hpt20
  refine SL.step (PS.move rfl (fun _ => rfl) rfl rfl) ?_
  refine SL.step (PS.extract rfl (fun _ => rfl) rfl rfl rfl) ?_
  refine SL.step (PS.extract rfl (fun _ => rfl) rfl rfl rfl) ?_
  refine SL.alloc (cs := [_, _, _, _]) Try.zeroValue30 rfl rfl rfl (fun b6 => ?_)
  first | refine SL.store_own (k := 0) (own' := [_, _, _, _]) (cs' := [_, _, _, _]) rfl rfl rfl rfl rfl rfl rfl Try.sizeOf30 rfl (Nat.le_of_ble_eq_true rfl) rfl rfl rfl rfl ?_ | refine SL.store_own (k := 1) (own' := [_, _, _, _]) (cs' := [_, _, _, _]) rfl rfl rfl rfl rfl rfl rfl Try.sizeOf30 rfl (Nat.le_of_ble_eq_true rfl) rfl rfl rfl rfl ?_ | refine SL.store_own (k := 2) (own' := [_, _, _, _]) (cs' := [_, _, _, _, _, _, _]) rfl rfl rfl rfl rfl rfl rfl Try.sizeOf30 rfl (Nat.le_of_ble_eq_true rfl) rfl rfl rfl rfl ?_ | refine SL.store_own (k := 3) (own' := [_, _, _, _]) (cs' := [_, _, _, _]) rfl rfl rfl rfl rfl rfl rfl Try.sizeOf30 rfl (Nat.le_of_ble_eq_true rfl) rfl rfl rfl rfl ?_
  refine SL.step (PS.assign rfl (fun _ => rfl) rfl rfl) ?_
  refine SL.keep (l' := [(7, _, _), (6, _, _), (5, _, _), (3, _, _), (0, _, _)]) ⟨rfl, rfl, rfl, rfl, rfl, trivial⟩ ?_
  refine SL.nil ?_
  refine SE.thenK hK5 ?_
  refine SC.seq (fun K6 hK6 => ?_)
  refine SC.seq (fun K7 hK7 => ?_)
  refine SC.region ?_
  refine SL.step (PS.move rfl (fun _ => rfl) rfl rfl) ?_
  refine SL.step (PS.lss rfl (fun _ => rfl) rfl (fun _ => rfl) rfl rfl) ?_
  refine SL.step (PS.move rfl (fun _ => rfl) rfl rfl) ?_
  refine SL.step (PS.move rfl (fun _ => rfl) rfl rfl) ?_
  refine SL.step (PS.gtr rfl (fun h => h) rfl (fun _ => rfl) rfl rfl) ?_
  refine SL.step (PS.pick_or rfl (fun _ => rfl) rfl (fun h h2 => pk_or h h2) rfl rfl) ?_
  refine SL.keep (l' := [(28, _, _), (7, _, _), (6, _, _), (5, _, _), (3, _, _), (0, _, _)]) ⟨rfl, rfl, rfl, rfl, rfl, rfl, trivial⟩ ?_
  refine SL.nil ?_
  refine SE.thenK hK7 ?_
  refine SC.cond rfl (fun c28 => ?_) (fun c28 => ?_)
  ·
    refine SC.seq (fun K8 hK8 => ?_)
    refine SC.region ?_
    refine SL.step (PS.move rfl (fun _ => rfl) rfl rfl) ?_
    refine SL.step (PS.eql rfl (fun _ => rfl) rfl (fun _ => rfl) rfl rfl) ?_
    refine SL.step (PS.move rfl (fun _ => rfl) rfl rfl) ?_
    first | refine SL.step (PS.load_own_agg (k := 0) (vs := [_, _, _, _]) rfl (fun _ => rfl) rfl rfl rfl rfl Try.isAgg30 Try.sizeOf30 rfl rfl) ?_ | refine SL.step (PS.load_own_agg (k := 1) (vs := [_, _, _, _]) rfl (fun _ => rfl) rfl rfl rfl rfl Try.isAgg30 Try.sizeOf30 rfl rfl) ?_ | refine SL.step (PS.load_own_agg (k := 2) (vs := [_, _, _, _]) rfl (fun _ => rfl) rfl rfl rfl rfl Try.isAgg30 Try.sizeOf30 rfl rfl) ?_ | refine SL.step (PS.load_own_agg (k := 3) (vs := [_, _, _, _]) rfl (fun _ => rfl) rfl rfl rfl rfl Try.isAgg30 Try.sizeOf30 rfl rfl) ?_
    refine SL.step (PS.build (us := []) (vs := [_, _, _, _]) trivial Try.underlying30 Try.zeroValue30 (Try.places_30 Try.underlying30) rfl rfl rfl) ?_
    refine SL.step (PS.eqlA rfl (fun h => h) rfl (fun h => h) (by intro x y w; first | exact val_eql x y _ _ w | exact val_eql x y ⟨_, _, _, _⟩ _ w | exact val_eql x y _ ⟨_, _, _, _⟩ w | exact val_eql x y ⟨_, _, _, _⟩ ⟨_, _, _, _⟩ w) rfl rfl) ?_
    refine SL.step (PS.pick_and rfl (fun _ => rfl) rfl (fun h h2 => pk_and h h2) rfl rfl) ?_
    refine SL.step (PS.assign rfl (fun _ => rfl) rfl rfl) ?_
    refine SL.keep (l' := [(4, _, _)]) ⟨rfl, trivial⟩ ?_
    refine SL.nil ?_
    refine SE.thenK hK8 ?_
    refine SC.ret ?_
    refine SE.then_ret ?_
    exact fin1 rfl rfl rfl (fun _ _ => by rw [Pl.eval_24_not _ (by simp at c28; omega)] at hpt20; subst hpt20; rfl)
  ·
    refine SC.skip ?_
    refine SE.thenK hK6 ?_
    refine SC.seq (fun K9 hK9 => ?_)
    refine SC.region ?_
    first | refine SL.step (PS.load_own_agg (k := 0) (vs := [_, _, _, _, _, _, _]) rfl (fun _ => rfl) rfl rfl rfl rfl Try.isAgg25 Try.sizeOf25 rfl rfl) ?_ | refine SL.step (PS.load_own_agg (k := 1) (vs := [_, _, _, _, _, _, _]) rfl (fun _ => rfl) rfl rfl rfl rfl Try.isAgg25 Try.sizeOf25 rfl rfl) ?_ | refine SL.step (PS.load_own_agg (k := 2) (vs := [_, _, _, _, _, _, _]) rfl (fun _ => rfl) rfl rfl rfl rfl Try.isAgg25 Try.sizeOf25 rfl rfl) ?_ | refine SL.step (PS.load_own_agg (k := 3) (vs := [_, _, _, _, _, _, _]) rfl (fun _ => rfl) rfl rfl rfl rfl Try.isAgg25 Try.sizeOf25 rfl rfl) ?_
    first | refine SL.step (PS.load_own_agg (k := 0) (vs := [_, _, _, _]) rfl (fun _ => rfl) rfl rfl rfl rfl Try.isAgg30 Try.sizeOf30 rfl rfl) ?_ | refine SL.step (PS.load_own_agg (k := 1) (vs := [_, _, _, _]) rfl (fun _ => rfl) rfl rfl rfl rfl Try.isAgg30 Try.sizeOf30 rfl rfl) ?_ | refine SL.step (PS.load_own_agg (k := 2) (vs := [_, _, _, _]) rfl (fun _ => rfl) rfl rfl rfl rfl Try.isAgg30 Try.sizeOf30 rfl rfl) ?_ | refine SL.step (PS.load_own_agg (k := 3) (vs := [_, _, _, _]) rfl (fun _ => rfl) rfl rfl rfl rfl Try.isAgg30 Try.sizeOf30 rfl rfl) ?_
    refine SL.buildSlice (us := [(0, _)]) (cs := [_, _, _, _]) ⟨rfl, ⟨_, rfl, (fun _ => rfl)⟩, trivial⟩ Try.underlying26 Try.sizeOf30 Try.zeroValue30 ⟨rfl, rfl, _, rfl, trivial⟩ rfl (by decide) rfl rfl (fun b39 => ?_)
    refine SL.callQ (vs := [_, _]) Try.call9 ⟨⟨_, rfl, (fun _ => rfl)⟩, ⟨_, rfl, (fun _ => rfl)⟩, trivial⟩ (fun hg => Eval_S ⟨_, _, _, _, _, (_, _, _), (_, _, _)⟩ _ _ [pt20.1] (bnd1 (hpt20 ▸ Pl.eval_rg _ _ _ _ _)) f0) (fun w h hok _ => Sl.of_blk cells_len rfl (own_get hok (k := 0) rfl)) rfl rfl (fun vt40 hvt40 => ?_)
    obtain ⟨pt40, hpt40, rfl⟩ := out_ex (hvt40 rfl)
    clear hvt40
    simp only at hpt40
    refine SL.step (PS.move rfl (fun _ => rfl) rfl rfl) ?_
    refine SL.step (PS.extract rfl (fun _ => rfl) rfl rfl rfl) ?_
    refine SL.step (PS.extract rfl (fun _ => rfl) rfl rfl rfl) ?_
    refine SL.alloc (cs := [_, _, _, _]) Try.zeroValue30 rfl rfl rfl (fun b8 => ?_)
    first | refine SL.store_own (k := 0) (own' := [_, _, _, _, _, _]) (cs' := [_, _, _, _]) rfl rfl rfl rfl rfl rfl rfl Try.sizeOf30 rfl (Nat.le_of_ble_eq_true rfl) rfl rfl rfl rfl ?_ | refine SL.store_own (k := 1) (own' := [_, _, _, _, _, _]) (cs' := [_, _, _, _]) rfl rfl rfl rfl rfl rfl rfl Try.sizeOf30 rfl (Nat.le_of_ble_eq_true rfl) rfl rfl rfl rfl ?_ | refine SL.store_own (k := 2) (own' := [_, _, _, _, _, _]) (cs' := [_, _, _, _]) rfl rfl rfl rfl rfl rfl rfl Try.sizeOf30 rfl (Nat.le_of_ble_eq_true rfl) rfl rfl rfl rfl ?_ | refine SL.store_own (k := 3) (own' := [_, _, _, _, _, _]) (cs' := [_, _, _, _]) rfl rfl rfl rfl rfl rfl rfl Try.sizeOf30 rfl (Nat.le_of_ble_eq_true rfl) rfl rfl rfl rfl ?_ | refine SL.store_own (k := 4) (own' := [_, _, _, _, _, _]) (cs' := [_, _, _, _, _, _, _]) rfl rfl rfl rfl rfl rfl rfl Try.sizeOf30 rfl (Nat.le_of_ble_eq_true rfl) rfl rfl rfl rfl ?_ | refine SL.store_own (k := 5) (own' := [_, _, _, _, _, _]) (cs' := [_, _, _, _]) rfl rfl rfl rfl rfl rfl rfl Try.sizeOf30 rfl (Nat.le_of_ble_eq_true rfl) rfl rfl rfl rfl ?_
    refine SL.step (PS.assign rfl (fun _ => rfl) rfl rfl) ?_
    refine SL.keep (l' := [(9, _, _), (8, _, _), (7, _, _), (6, _, _), (3, _, _), (0, _, _)]) ⟨rfl, rfl, rfl, rfl, rfl, rfl, trivial⟩ ?_
    refine SL.nil ?_
    refine SE.thenK hK9 ?_
    refine SC.seq (fun K10 hK10 => ?_)
    refine SC.region ?_
    refine SL.step (PS.move rfl (fun _ => rfl) rfl rfl) ?_
    refine SL.step (PS.build (us := [(0, _), (2, _)]) (vs := [_, _, _, _, _, _, _]) ⟨rfl, ⟨_, rfl, (fun _ => rfl)⟩, ⟨rfl, ⟨_, rfl, (fun _ => rfl)⟩, trivial⟩⟩ Try.underlying25 Try.zeroValue25 (Try.places_25 Try.underlying25) rfl rfl rfl) ?_
    refine SL.step (PS.build (us := [(0, _), (1, _)]) (vs := [_, _, _, _]) ⟨rfl, ⟨_, rfl, (fun _ => rfl)⟩, ⟨rfl, ⟨_, rfl, (fun _ => rfl)⟩, trivial⟩⟩ Try.underlying30 Try.zeroValue30 (Try.places_30 Try.underlying30) rfl rfl rfl) ?_
    first | refine SL.step (PS.load_own_agg (k := 0) (vs := [_, _, _, _]) rfl (fun _ => rfl) rfl rfl rfl rfl Try.isAgg30 Try.sizeOf30 rfl rfl) ?_ | refine SL.step (PS.load_own_agg (k := 1) (vs := [_, _, _, _]) rfl (fun _ => rfl) rfl rfl rfl rfl Try.isAgg30 Try.sizeOf30 rfl rfl) ?_ | refine SL.step (PS.load_own_agg (k := 2) (vs := [_, _, _, _]) rfl (fun _ => rfl) rfl rfl rfl rfl Try.isAgg30 Try.sizeOf30 rfl rfl) ?_ | refine SL.step (PS.load_own_agg (k := 3) (vs := [_, _, _, _]) rfl (fun _ => rfl) rfl rfl rfl rfl Try.isAgg30 Try.sizeOf30 rfl rfl) ?_ | refine SL.step (PS.load_own_agg (k := 4) (vs := [_, _, _, _]) rfl (fun _ => rfl) rfl rfl rfl rfl Try.isAgg30 Try.sizeOf30 rfl rfl) ?_ | refine SL.step (PS.load_own_agg (k := 5) (vs := [_, _, _, _]) rfl (fun _ => rfl) rfl rfl rfl rfl Try.isAgg30 Try.sizeOf30 rfl rfl) ?_
    refine SL.step (PS.build (us := []) (vs := [_, _, _, _]) trivial Try.underlying30 Try.zeroValue30 (Try.places_30 Try.underlying30) rfl rfl rfl) ?_
    refine SL.buildSlice (us := [(0, _), (1, _), (2, _)]) (cs := [_, _, _, _, _, _, _, _, _, _, _, _]) ⟨rfl, ⟨_, rfl, (fun _ => rfl)⟩, ⟨rfl, ⟨_, rfl, (fun _ => rfl)⟩, ⟨rfl, ⟨_, rfl, (fun _ => rfl)⟩, trivial⟩⟩⟩ Try.underlying26 Try.sizeOf30 Try.zeroValue30 ⟨rfl, rfl, _, rfl, ⟨rfl, rfl, _, rfl, ⟨rfl, rfl, _, rfl, trivial⟩⟩⟩ rfl (by decide) rfl rfl (fun b49 => ?_)
    refine SL.callQ (vs := [_, _]) Try.call9 ⟨⟨_, rfl, (fun _ => rfl)⟩, ⟨_, rfl, (fun _ => rfl)⟩, trivial⟩ (fun hg => Eval_S ⟨_, _, _, _, _, (_, _, _), (_, _, _)⟩ _ _ [⟨1, 1, 0, 0⟩, v, Vl.zero] (bnd3 (by unfold Bd Pl.Rg; decide) hv (by unfold Bd Pl.Rg; decide)) f0) (fun w h hok _ => Sl.of_blk cells_len rfl (own_get hok (k := 0) rfl)) rfl rfl (fun vt50 hvt50 => ?_)
    obtain ⟨pt50, hpt50, rfl⟩ := out_ex (hvt50 rfl)
    clear hvt50
    simp only at hpt50
    refine SL.step (PS.move rfl (fun _ => rfl) rfl rfl) ?_
    refine SL.step (PS.extract rfl (fun _ => rfl) rfl rfl rfl) ?_
    refine SL.step (PS.extract rfl (fun _ => rfl) rfl rfl rfl) ?_
    refine SL.alloc (cs := [_, _, _, _]) Try.zeroValue30 rfl rfl rfl (fun b10 => ?_)
    first | refine SL.store_own (k := 0) (own' := [_, _, _, _, _, _, _, _]) (cs' := [_, _, _, _]) rfl rfl rfl rfl rfl rfl rfl Try.sizeOf30 rfl (Nat.le_of_ble_eq_true rfl) rfl rfl rfl rfl ?_ | refine SL.store_own (k := 1) (own' := [_, _, _, _, _, _, _, _]) (cs' := [_, _, _, _, _, _, _, _, _, _, _, _]) rfl rfl rfl rfl rfl rfl rfl Try.sizeOf30 rfl (Nat.le_of_ble_eq_true rfl) rfl rfl rfl rfl ?_ | refine SL.store_own (k := 2) (own' := [_, _, _, _, _, _, _, _]) (cs' := [_, _, _, _]) rfl rfl rfl rfl rfl rfl rfl Try.sizeOf30 rfl (Nat.le_of_ble_eq_true rfl) rfl rfl rfl rfl ?_ | refine SL.store_own (k := 3) (own' := [_, _, _, _, _, _, _, _]) (cs' := [_, _, _, _]) rfl rfl rfl rfl rfl rfl rfl Try.sizeOf30 rfl (Nat.le_of_ble_eq_true rfl) rfl rfl rfl rfl ?_ | refine SL.store_own (k := 4) (own' := [_, _, _, _, _, _, _, _]) (cs' := [_, _, _, _]) rfl rfl rfl rfl rfl rfl rfl Try.sizeOf30 rfl (Nat.le_of_ble_eq_true rfl) rfl rfl rfl rfl ?_ | refine SL.store_own (k := 5) (own' := [_, _, _, _, _, _, _, _]) (cs' := [_, _, _, _]) rfl rfl rfl rfl rfl rfl rfl Try.sizeOf30 rfl (Nat.le_of_ble_eq_true rfl) rfl rfl rfl rfl ?_ | refine SL.store_own (k := 6) (own' := [_, _, _, _, _, _, _, _]) (cs' := [_, _, _, _, _, _, _]) rfl rfl rfl rfl rfl rfl rfl Try.sizeOf30 rfl (Nat.le_of_ble_eq_true rfl) rfl rfl rfl rfl ?_ | refine SL.store_own (k := 7) (own' := [_, _, _, _, _, _, _, _]) (cs' := [_, _, _, _]) rfl rfl rfl rfl rfl rfl rfl Try.sizeOf30 rfl (Nat.le_of_ble_eq_true rfl) rfl rfl rfl rfl ?_
    refine SL.step (PS.assign rfl (fun _ => rfl) rfl rfl) ?_
    refine SL.keep (l' := [(11, _, _), (10, _, _), (9, _, _), (8, _, _), (7, _, _), (6, _, _)]) ⟨rfl, rfl, rfl, rfl, rfl, rfl, trivial⟩ ?_
    refine SL.nil ?_
    refine SE.thenK hK10 ?_
    refine SC.seq (fun K11 hK11 => ?_)
    refine SC.region ?_
    refine SL.step (PS.move rfl (fun _ => rfl) rfl rfl) ?_
    refine SL.step (PS.eql rfl (fun _ => rfl) rfl (fun _ => rfl) rfl rfl) ?_
    refine SL.step (PS.move rfl (fun _ => rfl) rfl rfl) ?_
    refine SL.step (PS.move rfl (fun _ => rfl) rfl rfl) ?_
    refine SL.step (PS.eql rfl (fun h => h) rfl (fun _ => rfl) rfl rfl) ?_
    refine SL.step (PS.pick_and rfl (fun _ => rfl) rfl (fun h h2 => pk_and h h2) rfl rfl) ?_
    refine SL.step (PS.move rfl (fun _ => rfl) rfl rfl) ?_
    refine SL.step (PS.move rfl (fun _ => rfl) rfl rfl) ?_
    refine SL.step (PS.eql rfl (fun h => h) rfl (fun _ => rfl) rfl rfl) ?_
    refine SL.step (PS.pick_and rfl (fun _ => rfl) rfl (fun h h2 => pk_and h h2) rfl rfl) ?_
    refine SL.step (PS.move rfl (fun _ => rfl) rfl rfl) ?_
    refine SL.step (PS.fieldAddr rfl (fun _ => rfl) Try.fieldAt_30_0 rfl rfl) ?_
    first | refine SL.step (PS.load_own (k := 0) rfl (fun h => h) rfl rfl rfl Try.isAgg3 rfl rfl) ?_ | refine SL.step (PS.load_own (k := 1) rfl (fun h => h) rfl rfl rfl Try.isAgg3 rfl rfl) ?_ | refine SL.step (PS.load_own (k := 2) rfl (fun h => h) rfl rfl rfl Try.isAgg3 rfl rfl) ?_ | refine SL.step (PS.load_own (k := 3) rfl (fun h => h) rfl rfl rfl Try.isAgg3 rfl rfl) ?_ | refine SL.step (PS.load_own (k := 4) rfl (fun h => h) rfl rfl rfl Try.isAgg3 rfl rfl) ?_ | refine SL.step (PS.load_own (k := 5) rfl (fun h => h) rfl rfl rfl Try.isAgg3 rfl rfl) ?_ | refine SL.step (PS.load_own (k := 6) rfl (fun h => h) rfl rfl rfl Try.isAgg3 rfl rfl) ?_ | refine SL.step (PS.load_own (k := 7) rfl (fun h => h) rfl rfl rfl Try.isAgg3 rfl rfl) ?_
    refine SL.step (PS.neq rfl (fun h => h) rfl (fun _ => rfl) rfl rfl) ?_
    refine SL.step (PS.pick_and rfl (fun _ => rfl) rfl (fun h h2 => pk_and h h2) rfl rfl) ?_
    refine SL.step (PS.move rfl (fun _ => rfl) rfl rfl) ?_
    first | refine SL.step (PS.load_own_agg (k := 0) (vs := [_, _, _, _]) rfl (fun _ => rfl) rfl rfl rfl rfl Try.isAgg30 Try.sizeOf30 rfl rfl) ?_ | refine SL.step (PS.load_own_agg (k := 1) (vs := [_, _, _, _]) rfl (fun _ => rfl) rfl rfl rfl rfl Try.isAgg30 Try.sizeOf30 rfl rfl) ?_ | refine SL.step (PS.load_own_agg (k := 2) (vs := [_, _, _, _]) rfl (fun _ => rfl) rfl rfl rfl rfl Try.isAgg30 Try.sizeOf30 rfl rfl) ?_ | refine SL.step (PS.load_own_agg (k := 3) (vs := [_, _, _, _]) rfl (fun _ => rfl) rfl rfl rfl rfl Try.isAgg30 Try.sizeOf30 rfl rfl) ?_ | refine SL.step (PS.load_own_agg (k := 4) (vs := [_, _, _, _]) rfl (fun _ => rfl) rfl rfl rfl rfl Try.isAgg30 Try.sizeOf30 rfl rfl) ?_ | refine SL.step (PS.load_own_agg (k := 5) (vs := [_, _, _, _]) rfl (fun _ => rfl) rfl rfl rfl rfl Try.isAgg30 Try.sizeOf30 rfl rfl) ?_ | refine SL.step (PS.load_own_agg (k := 6) (vs := [_, _, _, _]) rfl (fun _ => rfl) rfl rfl rfl rfl Try.isAgg30 Try.sizeOf30 rfl rfl) ?_ | refine SL.step (PS.load_own_agg (k := 7) (vs := [_, _, _, _]) rfl (fun _ => rfl) rfl rfl rfl rfl Try.isAgg30 Try.sizeOf30 rfl rfl) ?_
    first | refine SL.step (PS.load_own_agg (k := 0) (vs := [_, _, _, _]) rfl (fun _ => rfl) rfl rfl rfl rfl Try.isAgg30 Try.sizeOf30 rfl rfl) ?_ | refine SL.step (PS.load_own_agg (k := 1) (vs := [_, _, _, _]) rfl (fun _ => rfl) rfl rfl rfl rfl Try.isAgg30 Try.sizeOf30 rfl rfl) ?_ | refine SL.step (PS.load_own_agg (k := 2) (vs := [_, _, _, _]) rfl (fun _ => rfl) rfl rfl rfl rfl Try.isAgg30 Try.sizeOf30 rfl rfl) ?_ | refine SL.step (PS.load_own_agg (k := 3) (vs := [_, _, _, _]) rfl (fun _ => rfl) rfl rfl rfl rfl Try.isAgg30 Try.sizeOf30 rfl rfl) ?_ | refine SL.step (PS.load_own_agg (k := 4) (vs := [_, _, _, _]) rfl (fun _ => rfl) rfl rfl rfl rfl Try.isAgg30 Try.sizeOf30 rfl rfl) ?_ | refine SL.step (PS.load_own_agg (k := 5) (vs := [_, _, _, _]) rfl (fun _ => rfl) rfl rfl rfl rfl Try.isAgg30 Try.sizeOf30 rfl rfl) ?_ | refine SL.step (PS.load_own_agg (k := 6) (vs := [_, _, _, _]) rfl (fun _ => rfl) rfl rfl rfl rfl Try.isAgg30 Try.sizeOf30 rfl rfl) ?_ | refine SL.step (PS.load_own_agg (k := 7) (vs := [_, _, _, _]) rfl (fun _ => rfl) rfl rfl rfl rfl Try.isAgg30 Try.sizeOf30 rfl rfl) ?_
    refine SL.step (PS.eqlA rfl (fun h => h) rfl (fun h => h) (by intro x y w; first | exact val_eql x y _ _ w | exact val_eql x y ⟨_, _, _, _⟩ _ w | exact val_eql x y _ ⟨_, _, _, _⟩ w | exact val_eql x y ⟨_, _, _, _⟩ ⟨_, _, _, _⟩ w) rfl rfl) ?_
    refine SL.step (PS.pick_and rfl (fun _ => rfl) rfl (fun h h2 => pk_and h h2) rfl rfl) ?_
    refine SL.step (PS.move rfl (fun _ => rfl) rfl rfl) ?_
    refine SL.step (PS.fieldAddr rfl (fun _ => rfl) Try.fieldAt_30_0 rfl rfl) ?_
    first | refine SL.step (PS.load_own (k := 0) rfl (fun h => h) rfl rfl rfl Try.isAgg3 rfl rfl) ?_ | refine SL.step (PS.load_own (k := 1) rfl (fun h => h) rfl rfl rfl Try.isAgg3 rfl rfl) ?_ | refine SL.step (PS.load_own (k := 2) rfl (fun h => h) rfl rfl rfl Try.isAgg3 rfl rfl) ?_ | refine SL.step (PS.load_own (k := 3) rfl (fun h => h) rfl rfl rfl Try.isAgg3 rfl rfl) ?_ | refine SL.step (PS.load_own (k := 4) rfl (fun h => h) rfl rfl rfl Try.isAgg3 rfl rfl) ?_ | refine SL.step (PS.load_own (k := 5) rfl (fun h => h) rfl rfl rfl Try.isAgg3 rfl rfl) ?_ | refine SL.step (PS.load_own (k := 6) rfl (fun h => h) rfl rfl rfl Try.isAgg3 rfl rfl) ?_ | refine SL.step (PS.load_own (k := 7) rfl (fun h => h) rfl rfl rfl Try.isAgg3 rfl rfl) ?_
    refine SL.step (PS.neq rfl (fun h => h) rfl (fun _ => rfl) rfl rfl) ?_
    refine SL.step (PS.move rfl (fun h => h) rfl rfl) ?_
    refine SL.step (PS.fieldAddr rfl (fun _ => rfl) Try.fieldAt_30_0 rfl rfl) ?_
    first | refine SL.step (PS.load_own (k := 0) rfl (fun h => h) rfl rfl rfl Try.isAgg3 rfl rfl) ?_ | refine SL.step (PS.load_own (k := 1) rfl (fun h => h) rfl rfl rfl Try.isAgg3 rfl rfl) ?_ | refine SL.step (PS.load_own (k := 2) rfl (fun h => h) rfl rfl rfl Try.isAgg3 rfl rfl) ?_ | refine SL.step (PS.load_own (k := 3) rfl (fun h => h) rfl rfl rfl Try.isAgg3 rfl rfl) ?_ | refine SL.step (PS.load_own (k := 4) rfl (fun h => h) rfl rfl rfl Try.isAgg3 rfl rfl) ?_ | refine SL.step (PS.load_own (k := 5) rfl (fun h => h) rfl rfl rfl Try.isAgg3 rfl rfl) ?_ | refine SL.step (PS.load_own (k := 6) rfl (fun h => h) rfl rfl rfl Try.isAgg3 rfl rfl) ?_ | refine SL.step (PS.load_own (k := 7) rfl (fun h => h) rfl rfl rfl Try.isAgg3 rfl rfl) ?_
    refine SL.step (PS.eql rfl (fun h => h) rfl (fun _ => rfl) rfl rfl) ?_
    refine SL.step (PS.pick_or rfl (fun h => h) rfl (fun h h2 => pk_or h h2) rfl rfl) ?_
    refine SL.step (PS.pick_and rfl (fun _ => rfl) rfl (fun h h2 => pk_and h h2) rfl rfl) ?_
    refine SL.step (PS.move rfl (fun _ => rfl) rfl rfl) ?_
    refine SL.step (PS.fieldAddr rfl (fun _ => rfl) Try.fieldAt_30_0 rfl rfl) ?_
    first | refine SL.step (PS.load_own (k := 0) rfl (fun h => h) rfl rfl rfl Try.isAgg3 rfl rfl) ?_ | refine SL.step (PS.load_own (k := 1) rfl (fun h => h) rfl rfl rfl Try.isAgg3 rfl rfl) ?_ | refine SL.step (PS.load_own (k := 2) rfl (fun h => h) rfl rfl rfl Try.isAgg3 rfl rfl) ?_ | refine SL.step (PS.load_own (k := 3) rfl (fun h => h) rfl rfl rfl Try.isAgg3 rfl rfl) ?_ | refine SL.step (PS.load_own (k := 4) rfl (fun h => h) rfl rfl rfl Try.isAgg3 rfl rfl) ?_ | refine SL.step (PS.load_own (k := 5) rfl (fun h => h) rfl rfl rfl Try.isAgg3 rfl rfl) ?_ | refine SL.step (PS.load_own (k := 6) rfl (fun h => h) rfl rfl rfl Try.isAgg3 rfl rfl) ?_ | refine SL.step (PS.load_own (k := 7) rfl (fun h => h) rfl rfl rfl Try.isAgg3 rfl rfl) ?_
    refine SL.step (PS.eql rfl (fun h => h) rfl (fun _ => rfl) rfl rfl) ?_
    refine SL.step (PS.move rfl (fun h => h) rfl rfl) ?_
    first | refine SL.step (PS.load_own_agg (k := 0) (vs := [_, _, _, _]) rfl (fun _ => rfl) rfl rfl rfl rfl Try.isAgg30 Try.sizeOf30 rfl rfl) ?_ | refine SL.step (PS.load_own_agg (k := 1) (vs := [_, _, _, _]) rfl (fun _ => rfl) rfl rfl rfl rfl Try.isAgg30 Try.sizeOf30 rfl rfl) ?_ | refine SL.step (PS.load_own_agg (k := 2) (vs := [_, _, _, _]) rfl (fun _ => rfl) rfl rfl rfl rfl Try.isAgg30 Try.sizeOf30 rfl rfl) ?_ | refine SL.step (PS.load_own_agg (k := 3) (vs := [_, _, _, _]) rfl (fun _ => rfl) rfl rfl rfl rfl Try.isAgg30 Try.sizeOf30 rfl rfl) ?_ | refine SL.step (PS.load_own_agg (k := 4) (vs := [_, _, _, _]) rfl (fun _ => rfl) rfl rfl rfl rfl Try.isAgg30 Try.sizeOf30 rfl rfl) ?_ | refine SL.step (PS.load_own_agg (k := 5) (vs := [_, _, _, _]) rfl (fun _ => rfl) rfl rfl rfl rfl Try.isAgg30 Try.sizeOf30 rfl rfl) ?_ | refine SL.step (PS.load_own_agg (k := 6) (vs := [_, _, _, _]) rfl (fun _ => rfl) rfl rfl rfl rfl Try.isAgg30 Try.sizeOf30 rfl rfl) ?_ | refine SL.step (PS.load_own_agg (k := 7) (vs := [_, _, _, _]) rfl (fun _ => rfl) rfl rfl rfl rfl Try.isAgg30 Try.sizeOf30 rfl rfl) ?_
    first | refine SL.step (PS.load_own_agg (k := 0) (vs := [_, _, _, _]) rfl (fun _ => rfl) rfl rfl rfl rfl Try.isAgg30 Try.sizeOf30 rfl rfl) ?_ | refine SL.step (PS.load_own_agg (k := 1) (vs := [_, _, _, _]) rfl (fun _ => rfl) rfl rfl rfl rfl Try.isAgg30 Try.sizeOf30 rfl rfl) ?_ | refine SL.step (PS.load_own_agg (k := 2) (vs := [_, _, _, _]) rfl (fun _ => rfl) rfl rfl rfl rfl Try.isAgg30 Try.sizeOf30 rfl rfl) ?_ | refine SL.step (PS.load_own_agg (k := 3) (vs := [_, _, _, _]) rfl (fun _ => rfl) rfl rfl rfl rfl Try.isAgg30 Try.sizeOf30 rfl rfl) ?_ | refine SL.step (PS.load_own_agg (k := 4) (vs := [_, _, _, _]) rfl (fun _ => rfl) rfl rfl rfl rfl Try.isAgg30 Try.sizeOf30 rfl rfl) ?_ | refine SL.step (PS.load_own_agg (k := 5) (vs := [_, _, _, _]) rfl (fun _ => rfl) rfl rfl rfl rfl Try.isAgg30 Try.sizeOf30 rfl rfl) ?_ | refine SL.step (PS.load_own_agg (k := 6) (vs := [_, _, _, _]) rfl (fun _ => rfl) rfl rfl rfl rfl Try.isAgg30 Try.sizeOf30 rfl rfl) ?_ | refine SL.step (PS.load_own_agg (k := 7) (vs := [_, _, _, _]) rfl (fun _ => rfl) rfl rfl rfl rfl Try.isAgg30 Try.sizeOf30 rfl rfl) ?_
    refine SL.step (PS.eqlA rfl (fun h => h) rfl (fun h => h) (by intro x y w; first | exact val_eql x y _ _ w | exact val_eql x y ⟨_, _, _, _⟩ _ w | exact val_eql x y _ ⟨_, _, _, _⟩ w | exact val_eql x y ⟨_, _, _, _⟩ ⟨_, _, _, _⟩ w) rfl rfl) ?_
    refine SL.step (PS.pick_or rfl (fun h => h) rfl (fun h h2 => pk_or h h2) rfl rfl) ?_
    refine SL.step (PS.pick_and rfl (fun _ => rfl) rfl (fun h h2 => pk_and h h2) rfl rfl) ?_
    refine SL.step (PS.assign rfl (fun _ => rfl) rfl rfl) ?_
    refine SL.keep (l' := [(4, _, _)]) ⟨rfl, trivial⟩ ?_
    refine SL.nil ?_
    refine SE.thenK hK11 ?_
    refine SC.ret ?_
    exact fin1 rfl rfl rfl (fun _ _ => congrArg Value.bool (Pl.freeze_law (by simp at c28; omega) hpt20 hpt40 hpt50))
end Go.Proofs.Ytdiimckjmggjlaa
