/- EvalChains: what its code computes. -/
import Derived.Test.YtdiimckjmggjlaaEvalL
import Derived.Test.YtdiimckjmggjlaaPlH
namespace Go.Proofs.Ytdiimckjmggjlaa
open Go.RowKit
set_option linter.unusedVariables false
set_option linter.unusedSimpArgs false
set_option maxRecDepth 100000
set_option maxHeartbeats 4000000
open Pl (Vl)
theorem one_V (op p q : Int) (x : Vl) (hx : Bd x) : SpecV Try.prog 13 [.int .i64 op, .int .i64 p, .int .i64 q, x.val] (Pl.one op p q x).val := by
  refine SpecV.enter Try.func13 rfl (n := 25) Try.ntmps13 (Nat.le_of_ble_eq_true rfl) (l := [(0, _, _), (1, _, _), (2, _, _), (3, _, _)]) rfl ?_
  intro w
  refine SC.seq (fun K1 hK1 => ?_)
  refine SC.region ?_
  refine SL.box (cs := [_, _, _, _]) rfl rfl rfl rfl rfl (fun b7 => ?_)
  refine SL.alloc (cs := [_, _, _, _]) Try.zeroValue30 rfl rfl rfl (fun b8 => ?_)
  refine SL.keep (l' := [(8, _, _), (7, _, _), (0, _, _), (1, _, _), (2, _, _)]) ⟨rfl, rfl, rfl, rfl, rfl, trivial⟩ ?_
  refine SL.nil ?_
  refine SE.thenK hK1 ?_
  refine SC.seq (fun K2 hK2 => ?_)
  refine SC.region ?_
  refine SL.step (PS.move rfl (fun _ => rfl) rfl rfl) ?_
  refine SL.step (PS.move rfl (fun _ => rfl) rfl rfl) ?_
  refine SL.step (PS.move rfl (fun _ => rfl) rfl rfl) ?_
  refine SL.step (PS.build (us := [(0, _), (3, _), (2, _)]) (vs := [_, _, _, _, _, _, _]) ⟨rfl, ⟨_, rfl, (fun _ => rfl)⟩, ⟨rfl, ⟨_, rfl, (fun _ => rfl)⟩, ⟨rfl, ⟨_, rfl, (fun _ => rfl)⟩, trivial⟩⟩⟩ Try.underlying25 Try.zeroValue25 (Try.places_25 Try.underlying25) rfl rfl rfl) ?_
  first | refine SL.step (PS.load_own_agg (k := 0) (vs := [_, _, _, _]) rfl (fun _ => rfl) rfl rfl rfl rfl Try.isAgg30 Try.sizeOf30 rfl rfl) ?_ | refine SL.step (PS.load_own_agg (k := 1) (vs := [_, _, _, _]) rfl (fun _ => rfl) rfl rfl rfl rfl Try.isAgg30 Try.sizeOf30 rfl rfl) ?_
  refine SL.buildSlice (us := [(0, _)]) (cs := [_, _, _, _]) ⟨rfl, ⟨_, rfl, (fun _ => rfl)⟩, trivial⟩ Try.underlying26 Try.sizeOf30 Try.zeroValue30 ⟨rfl, rfl, _, rfl, trivial⟩ rfl (by decide) rfl rfl (fun b17 => ?_)
  refine SL.callQ (vs := [_, _]) Try.call9 ⟨⟨_, rfl, (fun _ => rfl)⟩, ⟨_, rfl, (fun _ => rfl)⟩, trivial⟩ (fun hg => Eval_S ⟨_, _, _, _, _, (_, _, _), (_, _, _)⟩ _ _ [x] (bnd1 hx) f0) (fun w h hok _ => Sl.of_blk cells_len rfl (own_get hok (k := 0) rfl)) rfl rfl (fun vt18 hvt18 => ?_)
  obtain ⟨pt18, hpt18, rfl⟩ := out_ex (hvt18 rfl)
  clear hvt18
  simp only at hpt18
  refine SL.step (PS.move rfl (fun _ => rfl) rfl rfl) ?_
  refine SL.step (PS.extract rfl (fun _ => rfl) rfl rfl rfl) ?_
  refine SL.step (PS.extract rfl (fun _ => rfl) rfl rfl rfl) ?_
  refine SL.alloc (cs := [_, _, _, _]) Try.zeroValue30 rfl rfl rfl (fun b9 => ?_)
  first | refine SL.store_own (k := 0) (own' := [_, _, _, _]) (cs' := [_, _, _, _]) rfl rfl rfl rfl rfl rfl rfl Try.sizeOf30 rfl (Nat.le_of_ble_eq_true rfl) rfl rfl rfl rfl ?_ | refine SL.store_own (k := 1) (own' := [_, _, _, _]) (cs' := [_, _, _, _]) rfl rfl rfl rfl rfl rfl rfl Try.sizeOf30 rfl (Nat.le_of_ble_eq_true rfl) rfl rfl rfl rfl ?_ | refine SL.store_own (k := 2) (own' := [_, _, _, _]) (cs' := [_, _, _, _]) rfl rfl rfl rfl rfl rfl rfl Try.sizeOf30 rfl (Nat.le_of_ble_eq_true rfl) rfl rfl rfl rfl ?_ | refine SL.store_own (k := 3) (own' := [_, _, _, _]) (cs' := [_, _, _, _]) rfl rfl rfl rfl rfl rfl rfl Try.sizeOf30 rfl (Nat.le_of_ble_eq_true rfl) rfl rfl rfl rfl ?_
  refine SL.step (PS.assign rfl (fun _ => rfl) rfl rfl) ?_
  refine SL.keep (l' := [(10, _, _), (9, _, _), (8, _, _)]) ⟨rfl, rfl, rfl, trivial⟩ ?_
  refine SL.nil ?_
  refine SE.thenK hK2 ?_
  refine SC.seq (fun K3 hK3 => ?_)
  refine SC.seq (fun K4 hK4 => ?_)
  refine SC.region ?_
  refine SL.step (PS.move rfl (fun _ => rfl) rfl rfl) ?_
  refine SL.step (PS.neq rfl (fun _ => rfl) rfl (fun _ => rfl) rfl rfl) ?_
  refine SL.keep (l' := [(22, _, _), (9, _, _), (8, _, _)]) ⟨rfl, rfl, rfl, trivial⟩ ?_
  refine SL.nil ?_
  refine SE.thenK hK4 ?_
  refine SC.cond rfl (fun c22 => ?_) (fun c22 => ?_)
  ·
    refine SC.seq (fun K5 hK5 => ?_)
    refine SC.region ?_
    refine SL.step (PS.build (us := [(0, _)]) (vs := [_, _, _, _]) ⟨rfl, ⟨_, rfl, (fun _ => rfl)⟩, trivial⟩ Try.underlying30 Try.zeroValue30 (Try.places_30 Try.underlying30) rfl rfl rfl) ?_
    first | refine SL.store_own (k := 0) (own' := [_, _, _, _]) (cs' := [_, _, _, _]) rfl rfl rfl rfl rfl rfl rfl Try.sizeOf30 rfl (Nat.le_of_ble_eq_true rfl) rfl rfl rfl rfl ?_ | refine SL.store_own (k := 1) (own' := [_, _, _, _]) (cs' := [_, _, _, _]) rfl rfl rfl rfl rfl rfl rfl Try.sizeOf30 rfl (Nat.le_of_ble_eq_true rfl) rfl rfl rfl rfl ?_ | refine SL.store_own (k := 2) (own' := [_, _, _, _]) (cs' := [_, _, _, _]) rfl rfl rfl rfl rfl rfl rfl Try.sizeOf30 rfl (Nat.le_of_ble_eq_true rfl) rfl rfl rfl rfl ?_ | refine SL.store_own (k := 3) (own' := [_, _, _, _]) (cs' := [_, _, _, _]) rfl rfl rfl rfl rfl rfl rfl Try.sizeOf30 rfl (Nat.le_of_ble_eq_true rfl) rfl rfl rfl rfl ?_
    refine SL.keep (l' := [(8, _, _)]) ⟨rfl, trivial⟩ ?_
    refine SL.nil ?_
    refine SE.thenK hK5 ?_
    refine SC.ret ?_
    refine SE.then_ret ?_
    exact finVc (k := 2) rfl Try.isAgg30 Try.sizeOf30 rfl rfl rfl rfl (fun _ _ => by simp only [Pl.one, ← hpt18, c22, cond_true, cond_false]; rfl)
  ·
    refine SC.skip ?_
    refine SE.thenK hK3 ?_
    refine SC.seq (fun K6 hK6 => ?_)
    refine SC.region ?_
    first | refine SL.step (PS.load_own_agg (k := 0) (vs := [_, _, _, _]) rfl (fun _ => rfl) rfl rfl rfl rfl Try.isAgg30 Try.sizeOf30 rfl rfl) ?_ | refine SL.step (PS.load_own_agg (k := 1) (vs := [_, _, _, _]) rfl (fun _ => rfl) rfl rfl rfl rfl Try.isAgg30 Try.sizeOf30 rfl rfl) ?_ | refine SL.step (PS.load_own_agg (k := 2) (vs := [_, _, _, _]) rfl (fun _ => rfl) rfl rfl rfl rfl Try.isAgg30 Try.sizeOf30 rfl rfl) ?_ | refine SL.step (PS.load_own_agg (k := 3) (vs := [_, _, _, _]) rfl (fun _ => rfl) rfl rfl rfl rfl Try.isAgg30 Try.sizeOf30 rfl rfl) ?_
    first | refine SL.store_own (k := 0) (own' := [_, _, _, _]) (cs' := [_, _, _, _]) rfl rfl rfl rfl rfl rfl rfl Try.sizeOf30 rfl (Nat.le_of_ble_eq_true rfl) rfl rfl rfl rfl ?_ | refine SL.store_own (k := 1) (own' := [_, _, _, _]) (cs' := [_, _, _, _]) rfl rfl rfl rfl rfl rfl rfl Try.sizeOf30 rfl (Nat.le_of_ble_eq_true rfl) rfl rfl rfl rfl ?_ | refine SL.store_own (k := 2) (own' := [_, _, _, _]) (cs' := [_, _, _, _]) rfl rfl rfl rfl rfl rfl rfl Try.sizeOf30 rfl (Nat.le_of_ble_eq_true rfl) rfl rfl rfl rfl ?_ | refine SL.store_own (k := 3) (own' := [_, _, _, _]) (cs' := [_, _, _, _]) rfl rfl rfl rfl rfl rfl rfl Try.sizeOf30 rfl (Nat.le_of_ble_eq_true rfl) rfl rfl rfl rfl ?_
    refine SL.keep (l' := [(8, _, _)]) ⟨rfl, trivial⟩ ?_
    refine SL.nil ?_
    refine SE.thenK hK6 ?_
    refine SC.ret ?_
    exact finVc (k := 2) rfl Try.isAgg30 Try.sizeOf30 rfl rfl rfl rfl (fun _ _ => by simp only [Pl.one, ← hpt18, c22, cond_true, cond_false]; rfl)
theorem rem_rg {n : Int} (a : Int) (hn : 0 < n) : 0 ≤ (IntKind.u64.wrap a).tmod n ∧ (IntKind.u64.wrap a).tmod n < n := by
  have h : 0 ≤ IntKind.u64.wrap a := by rw [IntKind.wrap_u64]; omega
  rw [Int.tmod_eq_emod_of_nonneg h]
  exact ⟨Int.emod_nonneg _ (by omega), Int.emod_lt_of_pos _ hn⟩
theorem EvalChains_S (op t u v : Int) (x : Vl) (hx : Bd x) :
    Spec Try.prog 7 [.int .i64 op, .int .i64 t, .int .i64 u, .int .i64 v, x.val] (fun _ => True) (fun v _ => v = .bool true) := by
  refine Spec.enter Try.func7 rfl (n := 90) Try.ntmps7 (Nat.le_of_ble_eq_true rfl) (l := [(0, _, _), (1, _, _), (2, _, _), (3, _, _), (4, _, _)]) rfl ?_
  intro S w
  refine SC.seq (fun K1 hK1 => ?_)
  refine SC.region ?_
  refine SL.box (cs := [_, _, _, _]) rfl rfl rfl rfl rfl (fun b9 => ?_)
  refine SL.step (PS.assign rfl (fun _ => rfl) rfl rfl) ?_
  refine SL.keep (l' := [(9, _, _), (0, _, _), (1, _, _), (2, _, _), (3, _, _)]) ⟨rfl, rfl, rfl, rfl, rfl, trivial⟩ ?_
  refine SL.nil ?_
  refine SE.thenK hK1 ?_
  refine SC.seq (fun K2 hK2 => ?_)
  refine SC.seq (fun K3 hK3 => ?_)
  refine SC.region ?_
  refine SL.callV (vs := []) Try.call8 trivial (fun hg => lives_V) rfl rfl ?_
  refine SL.step (PS.not rfl (fun _ => rfl) rfl rfl) ?_
  refine SL.keep (l' := [(14, _, _), (9, _, _), (0, _, _), (1, _, _), (2, _, _), (3, _, _)]) ⟨rfl, rfl, rfl, rfl, rfl, rfl, trivial⟩ ?_
  refine SL.nil ?_
  refine SE.thenK hK3 ?_
  refine SC.cond_f rfl (rfl) ?_
  refine SC.skip ?_
  refine SE.thenK hK2 ?_
  refine SC.seq (fun K4 hK4 => ?_)
  refine SC.region ?_
  refine SL.step (PS.move rfl (fun _ => rfl) rfl rfl) ?_
  refine SL.step (PS.conv rfl (fun _ => rfl) Try.underlying3 Try.underlying40 rfl rfl) ?_
  refine SL.step (PS.rem rfl (fun _ => rfl) rfl (fun _ => rfl) (fun _ => by omega) rfl rfl) ?_
  obtain ⟨z17, hz17, h17⟩ : ∃ z : Int, (IntKind.u64.wrap op).tmod (2) = z ∧ 0 ≤ z ∧ z < 2 := ⟨_, rfl, rem_rg _ (by omega)⟩
  rw [hz17]
  refine SL.step (PS.conv rfl (fun _ => rfl) Try.underlying40 Try.underlying3 rfl rfl) ?_
  rw [wr_i64 (by omega)]
  first | refine SL.step (PS.add_in rfl (fun _ => rfl) rfl (fun _ => rfl) (fun _ => wr_i64 (by omega)) rfl rfl) ?_ | refine SL.step (PS.add rfl (fun _ => rfl) rfl (fun _ => rfl) rfl rfl) ?_
  refine SL.step (PS.assign rfl (fun _ => rfl) rfl rfl) ?_
  refine SL.keep (l' := [(0, _, _), (9, _, _), (1, _, _), (2, _, _), (3, _, _)]) ⟨rfl, rfl, rfl, rfl, rfl, trivial⟩ ?_
  refine SL.nil ?_
  refine SE.thenK hK4 ?_
  refine SC.seq (fun K5 hK5 => ?_)
  refine SC.region ?_
  refine SL.step (PS.move rfl (fun _ => rfl) rfl rfl) ?_
  refine SL.step (PS.conv rfl (fun _ => rfl) Try.underlying3 Try.underlying40 rfl rfl) ?_
  refine SL.step (PS.rem rfl (fun _ => rfl) rfl (fun _ => rfl) (fun _ => by omega) rfl rfl) ?_
  obtain ⟨z22, hz22, h22⟩ : ∃ z : Int, (IntKind.u64.wrap t).tmod (62) = z ∧ 0 ≤ z ∧ z < 62 := ⟨_, rfl, rem_rg _ (by omega)⟩
  rw [hz22]
  refine SL.step (PS.conv rfl (fun _ => rfl) Try.underlying40 Try.underlying3 rfl rfl) ?_
  rw [wr_i64 (by omega)]
  first | refine SL.step (PS.add_in rfl (fun _ => rfl) rfl (fun _ => rfl) (fun _ => wr_i64 (by omega)) rfl rfl) ?_ | refine SL.step (PS.add rfl (fun _ => rfl) rfl (fun _ => rfl) rfl rfl) ?_
  refine SL.step (PS.assign rfl (fun _ => rfl) rfl rfl) ?_
  refine SL.keep (l' := [(1, _, _), (0, _, _), (9, _, _), (2, _, _), (3, _, _)]) ⟨rfl, rfl, rfl, rfl, rfl, trivial⟩ ?_
  refine SL.nil ?_
  refine SE.thenK hK5 ?_
  refine SC.seq (fun K6 hK6 => ?_)
  refine SC.region ?_
  refine SL.step (PS.move rfl (fun _ => rfl) rfl rfl) ?_
  first | refine SL.step (PS.add_in rfl (fun _ => rfl) rfl (fun _ => rfl) (fun _ => wr_i64 (by omega)) rfl rfl) ?_ | refine SL.step (PS.add rfl (fun _ => rfl) rfl (fun _ => rfl) rfl rfl) ?_
  refine SL.step (PS.move rfl (fun _ => rfl) rfl rfl) ?_
  refine SL.step (PS.conv rfl (fun _ => rfl) Try.underlying3 Try.underlying40 rfl rfl) ?_
  refine SL.step (PS.move rfl (fun _ => rfl) rfl rfl) ?_
  first | refine SL.step (PS.sub_in rfl (fun _ => rfl) rfl (fun _ => rfl) (fun _ => wr_i64 (by omega)) rfl rfl) ?_ | refine SL.step (PS.sub rfl (fun _ => rfl) rfl (fun _ => rfl) rfl rfl) ?_
  refine SL.step (PS.conv rfl (fun _ => rfl) Try.underlying3 Try.underlying40 rfl rfl) ?_
  rw [wr_u64 (by omega)]
  refine SL.step (PS.rem rfl (fun _ => rfl) rfl (fun _ => rfl) (fun _ => by omega) rfl rfl) ?_
  obtain ⟨z32, hz32, h32⟩ : ∃ z : Int, (IntKind.u64.wrap u).tmod (63 - (1 + z22)) = z ∧ 0 ≤ z ∧ z < 63 - (1 + z22) := ⟨_, rfl, rem_rg _ (by omega)⟩
  rw [hz32]
  refine SL.step (PS.conv rfl (fun _ => rfl) Try.underlying40 Try.underlying3 rfl rfl) ?_
  rw [wr_i64 (by omega)]
  first | refine SL.step (PS.add_in rfl (fun _ => rfl) rfl (fun _ => rfl) (fun _ => wr_i64 (by omega)) rfl rfl) ?_ | refine SL.step (PS.add rfl (fun _ => rfl) rfl (fun _ => rfl) rfl rfl) ?_
  refine SL.step (PS.assign rfl (fun _ => rfl) rfl rfl) ?_
  refine SL.keep (l' := [(2, _, _), (1, _, _), (0, _, _), (9, _, _), (3, _, _)]) ⟨rfl, rfl, rfl, rfl, rfl, trivial⟩ ?_
  refine SL.nil ?_
  refine SE.thenK hK6 ?_
  refine SC.seq (fun K7 hK7 => ?_)
  refine SC.region ?_
  refine SL.step (PS.move rfl (fun _ => rfl) rfl rfl) ?_
  first | refine SL.step (PS.add_in rfl (fun _ => rfl) rfl (fun _ => rfl) (fun _ => wr_i64 (by omega)) rfl rfl) ?_ | refine SL.step (PS.add rfl (fun _ => rfl) rfl (fun _ => rfl) rfl rfl) ?_
  refine SL.step (PS.move rfl (fun _ => rfl) rfl rfl) ?_
  refine SL.step (PS.conv rfl (fun _ => rfl) Try.underlying3 Try.underlying40 rfl rfl) ?_
  refine SL.step (PS.move rfl (fun _ => rfl) rfl rfl) ?_
  first | refine SL.step (PS.sub_in rfl (fun _ => rfl) rfl (fun _ => rfl) (fun _ => wr_i64 (by omega)) rfl rfl) ?_ | refine SL.step (PS.sub rfl (fun _ => rfl) rfl (fun _ => rfl) rfl rfl) ?_
  refine SL.step (PS.conv rfl (fun _ => rfl) Try.underlying3 Try.underlying40 rfl rfl) ?_
  rw [wr_u64 (by omega)]
  refine SL.step (PS.rem rfl (fun _ => rfl) rfl (fun _ => rfl) (fun _ => by omega) rfl rfl) ?_
  obtain ⟨z42, hz42, h42⟩ : ∃ z : Int, (IntKind.u64.wrap v).tmod (64 - (1 + z22 + 1 + z32)) = z ∧ 0 ≤ z ∧ z < 64 - (1 + z22 + 1 + z32) := ⟨_, rfl, rem_rg _ (by omega)⟩
  rw [hz42]
  refine SL.step (PS.conv rfl (fun _ => rfl) Try.underlying40 Try.underlying3 rfl rfl) ?_
  rw [wr_i64 (by omega)]
  first | refine SL.step (PS.add_in rfl (fun _ => rfl) rfl (fun _ => rfl) (fun _ => wr_i64 (by omega)) rfl rfl) ?_ | refine SL.step (PS.add rfl (fun _ => rfl) rfl (fun _ => rfl) rfl rfl) ?_
  refine SL.step (PS.assign rfl (fun _ => rfl) rfl rfl) ?_
  refine SL.keep (l' := [(3, _, _), (2, _, _), (1, _, _), (0, _, _), (9, _, _)]) ⟨rfl, rfl, rfl, rfl, rfl, trivial⟩ ?_
  refine SL.nil ?_
  refine SE.thenK hK7 ?_
  refine SC.seq (fun K8 hK8 => ?_)
  refine SC.region ?_
  refine SL.step (PS.assign rfl (fun _ => rfl) rfl rfl) ?_
  refine SL.nil ?_
  refine SE.thenK hK8 ?_
  refine SC.seq (fun K9 hK9 => ?_)
  refine SC.region ?_
  refine SL.step (PS.move rfl (fun _ => rfl) rfl rfl) ?_
  refine SL.step (PS.move rfl (fun _ => rfl) rfl rfl) ?_
  refine SL.step (PS.move rfl (fun _ => rfl) rfl rfl) ?_
  refine SL.step (PS.move rfl (fun _ => rfl) rfl rfl) ?_
  refine SL.step (PS.move rfl (fun _ => rfl) rfl rfl) ?_
  refine SL.step (PS.move rfl (fun _ => rfl) rfl rfl) ?_
  refine SL.step (PS.move rfl (fun _ => rfl) rfl rfl) ?_
  refine SL.step (PS.move rfl (fun _ => rfl) rfl rfl) ?_
  refine SL.step (PS.load_own_agg (k := 0) (vs := [_, _, _, _]) rfl (fun _ => rfl) rfl rfl rfl rfl Try.isAgg30 Try.sizeOf30 rfl rfl) ?_
  refine SL.callVT (vs := [_, _, _, _]) rfl (fun _ => rfl) Try.call13 ⟨⟨_, rfl, (fun _ => rfl)⟩, ⟨_, rfl, (fun _ => rfl)⟩, ⟨_, rfl, (fun _ => rfl)⟩, ⟨_, rfl, (fun _ => rfl)⟩, trivial⟩ (fun hg => one_V _ _ _ x hx) rfl rfl ?_
  refine SL.callVT (vs := [_, _, _, _]) rfl (fun _ => rfl) Try.call13 ⟨⟨_, rfl, (fun _ => rfl)⟩, ⟨_, rfl, (fun _ => rfl)⟩, ⟨_, rfl, (fun _ => rfl)⟩, ⟨_, rfl, (fun _ => rfl)⟩, trivial⟩ (fun hg => one_V _ _ _ _ (Pl.one_rg _ _ _ _)) rfl rfl ?_
  refine SL.alloc (cs := [_, _, _, _]) Try.zeroValue30 rfl rfl rfl (fun b12 => ?_)
  first | refine SL.store_own (k := 0) (own' := [_, _]) (cs' := [_, _, _, _]) rfl rfl rfl rfl rfl rfl rfl Try.sizeOf30 rfl (Nat.le_of_ble_eq_true rfl) rfl rfl rfl rfl ?_ | refine SL.store_own (k := 1) (own' := [_, _]) (cs' := [_, _, _, _]) rfl rfl rfl rfl rfl rfl rfl Try.sizeOf30 rfl (Nat.le_of_ble_eq_true rfl) rfl rfl rfl rfl ?_
  refine SL.keep (l' := [(12, _, _), (11, _, _), (3, _, _), (2, _, _), (1, _, _), (0, _, _), (9, _, _)]) ⟨rfl, rfl, rfl, rfl, rfl, rfl, rfl, trivial⟩ ?_
  refine SL.nil ?_
  refine SE.thenK hK9 ?_
  refine SC.seq (fun K10 hK10 => ?_)
  refine SC.draw (S := SP _ _ _) 35 (by kernel_rfl) (by kernel_rfl) (fun _ h => h) ?_
  first | refine SD.take 0 rfl rfl (by kernel_rfl) (PS.load_own_agg (k := 0) (vs := [_, _, _, _]) rfl (fun _ => rfl) rfl rfl rfl rfl Try.isAgg30 Try.sizeOf30 rfl rfl) ?_ | refine SD.take 0 rfl rfl (by kernel_rfl) (PS.load_own_agg (k := 1) (vs := [_, _, _, _]) rfl (fun _ => rfl) rfl rfl rfl rfl Try.isAgg30 Try.sizeOf30 rfl rfl) ?_
  refine SD.take 1 rfl rfl (by kernel_rfl) (PS.move rfl (fun _ => rfl) rfl rfl) ?_
  refine SD.take 2 rfl rfl (by kernel_rfl) (PS.move rfl (fun _ => rfl) rfl rfl) ?_
  refine SD.take 3 rfl rfl (by kernel_rfl) (PS.move rfl (fun _ => rfl) rfl rfl) ?_
  refine SD.take 4 rfl rfl (by kernel_rfl) (PS.move rfl (fun _ => rfl) rfl rfl) ?_
  first | refine SD.take 5 rfl rfl (by kernel_rfl) (PS.load_own_agg (k := 0) (vs := [_, _, _, _]) rfl (fun _ => rfl) rfl rfl rfl rfl Try.isAgg30 Try.sizeOf30 rfl rfl) ?_ | refine SD.take 5 rfl rfl (by kernel_rfl) (PS.load_own_agg (k := 1) (vs := [_, _, _, _]) rfl (fun _ => rfl) rfl rfl rfl rfl Try.isAgg30 Try.sizeOf30 rfl rfl) ?_
  refine SD.one 6 rfl (by kernel_rfl) (fun inv6 => ?_)
  refine SL.callVT (vs := [_, _, _, _]) rfl (fun _ => rfl) Try.call13 ⟨⟨_, rfl, (fun _ => rfl)⟩, ⟨_, rfl, (fun _ => rfl)⟩, ⟨_, rfl, (fun _ => rfl)⟩, ⟨_, rfl, (fun _ => rfl)⟩, trivial⟩ (fun hg => one_V _ _ _ x hx) rfl rfl ?_
  refine SL.nil ?_
  refine SE.next (fun _ h => h.drop (List.Sublist.refl _) (fun _ h => h)) inv6 ?_
  refine SD.take 7 rfl rfl (by kernel_rfl) (PS.eqlA rfl (fun _ => rfl) rfl (fun _ => rfl) (by intro x y w; first | exact val_eql x y _ _ w | exact val_eql x y ⟨_, _, _, _⟩ _ w | exact val_eql x y _ ⟨_, _, _, _⟩ w | exact val_eql x y ⟨_, _, _, _⟩ ⟨_, _, _, _⟩ w) rfl rfl) ?_
  refine SD.take 8 rfl rfl (by kernel_rfl) (PS.move rfl (fun _ => rfl) rfl rfl) ?_
  refine SD.take 9 rfl rfl (by kernel_rfl) (PS.move rfl (fun _ => rfl) rfl rfl) ?_
  refine SD.take 10 rfl rfl (by kernel_rfl) (PS.move rfl (fun _ => rfl) rfl rfl) ?_
  refine SD.take 11 rfl rfl (by kernel_rfl) (PS.move rfl (fun _ => rfl) rfl rfl) ?_
  first | refine SD.take 12 rfl rfl (by kernel_rfl) (PS.load_own_agg (k := 0) (vs := [_, _, _, _]) rfl (fun _ => rfl) rfl rfl rfl rfl Try.isAgg30 Try.sizeOf30 rfl rfl) ?_ | refine SD.take 12 rfl rfl (by kernel_rfl) (PS.load_own_agg (k := 1) (vs := [_, _, _, _]) rfl (fun _ => rfl) rfl rfl rfl rfl Try.isAgg30 Try.sizeOf30 rfl rfl) ?_
  refine SD.take 14 rfl rfl (by kernel_rfl) (PS.move rfl (fun _ => rfl) rfl rfl) ?_
  first | refine SD.take 15 rfl rfl (by kernel_rfl) (PS.load_own_agg (k := 0) (vs := [_, _, _, _]) rfl (fun _ => rfl) rfl rfl rfl rfl Try.isAgg30 Try.sizeOf30 rfl rfl) ?_ | refine SD.take 15 rfl rfl (by kernel_rfl) (PS.load_own_agg (k := 1) (vs := [_, _, _, _]) rfl (fun _ => rfl) rfl rfl rfl rfl Try.isAgg30 Try.sizeOf30 rfl rfl) ?_
  refine SD.one 13 rfl (by kernel_rfl) (fun inv13 => ?_)
  refine SL.callVT (vs := [_, _, _, _]) rfl (fun h => h) Try.call13 ⟨⟨_, rfl, (fun _ => rfl)⟩, ⟨_, rfl, (fun h => h)⟩, ⟨_, rfl, (fun h => h)⟩, ⟨_, rfl, (fun h => h)⟩, trivial⟩ (fun hg => one_V _ _ _ ⟨_, _, _, _⟩ (Pl.one_rg _ _ _ _)) rfl rfl ?_
  refine SL.nil ?_
  refine SE.next (fun _ h => h.drop (List.Sublist.refl _) (fun _ h => h)) inv13 ?_
  refine SD.one 16 rfl (by kernel_rfl) (fun inv16 => ?_)
  refine SL.callV (vs := [_, _]) Try.call11 ⟨⟨_, rfl, (fun h => h)⟩, ⟨_, rfl, (fun h => h)⟩, trivial⟩ (fun hg => read_V _ x hx) rfl rfl ?_
  refine SL.nil ?_
  refine SE.next (fun _ h => h.drop (List.Sublist.refl _) (fun _ h => h)) inv16 ?_
  refine SD.take 17 rfl rfl (by kernel_rfl) (PS.eqlA rfl (fun h => h) rfl (fun h => h) (by intro x y w; first | exact val_eql x y _ _ w | exact val_eql x y ⟨_, _, _, _⟩ _ w | exact val_eql x y _ ⟨_, _, _, _⟩ w | exact val_eql x y ⟨_, _, _, _⟩ ⟨_, _, _, _⟩ w) rfl rfl) ?_
  refine SD.take 18 rfl rfl (by kernel_rfl) (PS.pick_and rfl (fun _ => rfl) rfl (fun h h2 => pk_and h h2) rfl rfl) ?_
  refine SD.take 19 rfl rfl (by kernel_rfl) (PS.move rfl (fun _ => rfl) rfl rfl) ?_
  refine SD.take 20 rfl rfl (by kernel_rfl) (PS.move rfl (fun _ => rfl) rfl rfl) ?_
  refine SD.take 21 rfl rfl (by kernel_rfl) (PS.move rfl (fun _ => rfl) rfl rfl) ?_
  refine SD.take 22 rfl rfl (by kernel_rfl) (PS.move rfl (fun _ => rfl) rfl rfl) ?_
  refine SD.take 23 rfl rfl (by kernel_rfl) (PS.move rfl (fun _ => rfl) rfl rfl) ?_
  refine SD.take 24 rfl rfl (by kernel_rfl) (PS.move rfl (fun _ => rfl) rfl rfl) ?_
  refine SD.take 25 rfl rfl (by kernel_rfl) (PS.move rfl (fun _ => rfl) rfl rfl) ?_
  first | refine SD.take 26 rfl rfl (by kernel_rfl) (PS.load_own_agg (k := 0) (vs := [_, _, _, _]) rfl (fun _ => rfl) rfl rfl rfl rfl Try.isAgg30 Try.sizeOf30 rfl rfl) ?_ | refine SD.take 26 rfl rfl (by kernel_rfl) (PS.load_own_agg (k := 1) (vs := [_, _, _, _]) rfl (fun _ => rfl) rfl rfl rfl rfl Try.isAgg30 Try.sizeOf30 rfl rfl) ?_
  refine SD.take 29 rfl rfl (by kernel_rfl) (PS.move rfl (fun _ => rfl) rfl rfl) ?_
  first | refine SD.take 30 rfl rfl (by kernel_rfl) (PS.load_own_agg (k := 0) (vs := [_, _, _, _]) rfl (fun _ => rfl) rfl rfl rfl rfl Try.isAgg30 Try.sizeOf30 rfl rfl) ?_ | refine SD.take 30 rfl rfl (by kernel_rfl) (PS.load_own_agg (k := 1) (vs := [_, _, _, _]) rfl (fun _ => rfl) rfl rfl rfl rfl Try.isAgg30 Try.sizeOf30 rfl rfl) ?_
  refine SD.one 27 rfl (by kernel_rfl) (fun inv27 => ?_)
  refine SL.callVT (vs := [_, _, _, _]) rfl (fun h => h) Try.call13 ⟨⟨_, rfl, (fun _ => rfl)⟩, ⟨_, rfl, (fun h => h)⟩, ⟨_, rfl, (fun h => h)⟩, ⟨_, rfl, (fun h => h)⟩, trivial⟩ (fun hg => one_V _ _ _ ⟨_, _, _, _⟩ (Pl.one_rg _ _ _ _)) rfl rfl ?_
  refine SL.nil ?_
  refine SE.next (fun _ h => h.drop (List.Sublist.refl _) (fun _ h => h)) inv27 ?_
  refine SD.one 28 rfl (by kernel_rfl) (fun inv28 => ?_)
  refine SL.callVT (vs := [_, _, _, _]) rfl (fun h => h) Try.call13 ⟨⟨_, rfl, (fun _ => rfl)⟩, ⟨_, rfl, (fun h => h)⟩, ⟨_, rfl, (fun h => h)⟩, ⟨_, rfl, (fun h => h)⟩, trivial⟩ (fun hg => one_V _ _ _ _ (Pl.one_rg _ _ _ _)) rfl rfl ?_
  refine SL.nil ?_
  refine SE.next (fun _ h => h.drop (List.Sublist.refl _) (fun _ h => h)) inv28 ?_
  refine SD.one 31 rfl (by kernel_rfl) (fun inv31 => ?_)
  refine SL.callV (vs := [_, _]) Try.call11 ⟨⟨_, rfl, (fun h => h)⟩, ⟨_, rfl, (fun h => h)⟩, trivial⟩ (fun hg => read_V _ x hx) rfl rfl ?_
  refine SL.nil ?_
  refine SE.next (fun _ h => h.drop (List.Sublist.refl _) (fun _ h => h)) inv31 ?_
  refine SD.take 32 rfl rfl (by kernel_rfl) (PS.eqlA rfl (fun h => h) rfl (fun h => h) (by intro x y w; first | exact val_eql x y _ _ w | exact val_eql x y ⟨_, _, _, _⟩ _ w | exact val_eql x y _ ⟨_, _, _, _⟩ w | exact val_eql x y ⟨_, _, _, _⟩ ⟨_, _, _, _⟩ w) rfl rfl) ?_
  refine SD.take 33 rfl rfl (by kernel_rfl) (PS.pick_and rfl (fun _ => rfl) rfl (fun h h2 => pk_and h h2) rfl rfl) ?_
  refine SD.take 34 rfl rfl (by kernel_rfl) (PS.assign rfl (fun _ => rfl) rfl rfl) ?_
  clear inv6 inv13 inv16 inv27 inv28 inv31
  refine SD.tail (by kernel_rfl) (os := []) rfl ?_
  refine SL.keep (l' := [(10, _, _)]) ⟨rfl, trivial⟩ ?_
  refine SL.nil ?_
  refine SE.calm ?_
  refine SE.thenK hK10 ?_
  refine SC.ret ?_
  exact fin1 rfl rfl rfl (fun _ _ => congrArg Value.bool (Pl.chain_law (op := 20 + z17) (t := 1 + z22) (u := 1 + z22 + 1 + z32) (w := 1 + z22 + 1 + z32 + 1 + z42) (by omega) (by omega) (by omega) (by omega) (by omega)))
end Go.Proofs.Ytdiimckjmggjlaa
