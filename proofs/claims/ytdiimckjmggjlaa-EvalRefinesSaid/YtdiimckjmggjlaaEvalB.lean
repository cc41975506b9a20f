/- Contract of clear: it may write what it is handed. -/
import Derived.Test.YtdiimckjmggjlaaEvalA
namespace Go.Proofs.Ytdiimckjmggjlaa
open Go.RowKit
set_option linter.unusedVariables false
set_option linter.unusedSimpArgs false
open Pl (Vl)

/-- A value and an end. -/
def outV (p : Vl × Int) : Value := .tuple #[p.1.val, .int .i64 p.2]
theorem outV_eq {p : Vl × Int} {v : Vl} {e : Int} (h : p = (v, e)) : Value.tuple #[v.val, .int .i64 e] = outV p := by rw [h]; rfl
theorem clear2_G (i : In) (bl c : Nat) (a b : Vl) (hb : 0 ≤ b.b ∧ b.b < 18446744073709551616) (ha : 0 ≤ a.b ∧ a.b < 18446744073709551616) (hf : -9223372036854775808 ≤ i.f ∧ i.f ≤ 9223372036854775807) :
    SpecG Try.prog 20 [i.val, .slice (some ⟨bl, 0, none⟩) 2 c] [.blk bl [.int .i64 a.k, .int .u64 a.b, .int .i64 a.bl, .int .i64 a.off, .int .i64 b.k, .int .u64 b.b, .int .i64 b.bl, .int .i64 b.off]]
      (fun _ => True) (fun _ => []) (fun v _ => v = outV (Pl.clear i.op i.t i.n i.f a b)) := by
  refine SpecG.enter Try.func20 rfl (n := 94) Try.ntmps20 (Nat.le_of_ble_eq_true rfl) (l := [(0, _, _), (1, _, _)]) rfl ?_
  intro S w
  refine SC.seq (fun K1 hK1 => ?_)
  refine SC.region ?_
  refine SL.box (cs := [_, _, _, _, _, _, _]) rfl rfl rfl rfl rfl (fun b2 => ?_)
  refine SL.alloc (cs := [_, _, _, _]) Try.zeroValue30 rfl rfl rfl (fun b4 => ?_)
  refine SL.step (PS.assign rfl (fun _ => rfl) rfl rfl) ?_
  refine SL.keep (l' := [(4, _, _), (2, _, _), (1, _, _)]) ⟨rfl, rfl, rfl, trivial⟩ ?_
  refine SL.nil ?_
  refine SE.thenK hK1 ?_
  refine SC.seq (fun K2 hK2 => ?_)
  refine SC.block ?_
  refine SC.seq (fun K3 hK3 => ?_)
  refine SC.region ?_
  refine SL.step (PS.fieldAddr rfl (fun _ => rfl) Try.fieldAt_25_0 rfl rfl) ?_
  first | refine SL.step (PS.load_own (k := 0) rfl (fun _ => rfl) rfl rfl rfl Try.isAgg3 rfl rfl) ?_ | refine SL.step (PS.load_own (k := 1) rfl (fun _ => rfl) rfl rfl rfl Try.isAgg3 rfl rfl) ?_ | refine SL.step (PS.load_own (k := 2) rfl (fun _ => rfl) rfl rfl rfl Try.isAgg3 rfl rfl) ?_
  refine SL.step (PS.eql rfl (fun _ => rfl) rfl (fun _ => rfl) rfl rfl) ?_
  refine SL.step (PS.assign rfl (fun _ => rfl) rfl rfl) ?_
  refine SL.keep (l' := [(10, _, _), (4, _, _), (2, _, _), (1, _, _)]) ⟨rfl, rfl, rfl, rfl, trivial⟩ ?_
  refine SL.nil ?_
  refine SE.thenK hK3 ?_
  refine SC.cond rfl (fun c10 => ?_) (fun c10 => ?_)
  ·
    refine SC.seq (fun K4 hK4 => ?_)
    refine SC.draw (S := SP _ _ _) 12 (by kernel_rfl) (by kernel_rfl) (fun _ h => h) ?_
    refine SD.take 0 rfl rfl (by kernel_rfl) (PS.move rfl (fun _ => rfl) rfl rfl) ?_
    refine SD.take 1 rfl rfl (by kernel_rfl) (PS.indexAddr rfl (fun _ => rfl) rfl (fun _ => rfl) Try.underlying26 Try.sizeOf30 (fun _ _ _ => by omega) rfl rfl) ?_
    refine SD.take 2 rfl rfl (by kernel_rfl) (PS.fieldAddr rfl (fun _ => rfl) Try.fieldAt_30_3 rfl rfl) ?_
    first | refine SD.take 3 rfl rfl (by kernel_rfl) (PS.load_own (k := 0) rfl (fun _ => rfl) rfl rfl rfl Try.isAgg2 rfl rfl) ?_ | refine SD.take 3 rfl rfl (by kernel_rfl) (PS.load_own (k := 1) rfl (fun _ => rfl) rfl rfl rfl Try.isAgg2 rfl rfl) ?_ | refine SD.take 3 rfl rfl (by kernel_rfl) (PS.load_own (k := 2) rfl (fun _ => rfl) rfl rfl rfl Try.isAgg2 rfl rfl) ?_
    refine SD.take 4 rfl rfl (by kernel_rfl) (PS.move rfl (fun _ => rfl) rfl rfl) ?_
    refine SD.take 5 rfl rfl (by kernel_rfl) (PS.indexAddr rfl (fun _ => rfl) rfl (fun _ => rfl) Try.underlying26 Try.sizeOf30 (fun _ _ _ => by omega) rfl rfl) ?_
    refine SD.take 6 rfl rfl (by kernel_rfl) (PS.fieldAddr rfl (fun _ => rfl) Try.fieldAt_30_1 rfl rfl) ?_
    first | refine SD.take 7 rfl rfl (by kernel_rfl) (PS.load_own (k := 0) rfl (fun _ => rfl) rfl rfl rfl Try.isAgg28 rfl rfl) ?_ | refine SD.take 7 rfl rfl (by kernel_rfl) (PS.load_own (k := 1) rfl (fun _ => rfl) rfl rfl rfl Try.isAgg28 rfl rfl) ?_ | refine SD.take 7 rfl rfl (by kernel_rfl) (PS.load_own (k := 2) rfl (fun _ => rfl) rfl rfl rfl Try.isAgg28 rfl rfl) ?_
    refine SD.take 8 rfl rfl (by kernel_rfl) (PS.conv rfl (fun _ => rfl) Try.underlying28 Try.underlying2 rfl rfl) ?_
    first | refine SD.take 9 rfl rfl (by kernel_rfl) (PS.add_in rfl (fun _ => rfl) rfl (fun _ => rfl) (fun _ => wr_i64 (by omega)) rfl rfl) ?_ | refine SD.take 9 rfl rfl (by kernel_rfl) (PS.add rfl (fun _ => rfl) rfl (fun _ => rfl) rfl rfl) ?_
    refine SD.take 10 rfl rfl (by kernel_rfl) (PS.indexAddr rfl (fun _ => rfl) rfl (fun _ => rfl) Try.underlying26 Try.sizeOf30 (fun _ _ _ => by omega) rfl rfl) ?_
    refine SD.take 11 rfl rfl (by kernel_rfl) (PS.fieldAddr rfl (fun _ => rfl) Try.fieldAt_30_3 rfl rfl) ?_
    refine SD.tail (by kernel_rfl) (os := [_]) rfl ?_
    first | refine SL.store_own (k := 0) (own' := [_, _, _]) (cs' := [_, _, _, _]) rfl rfl rfl rfl rfl rfl rfl Try.sizeOf2 rfl (Nat.le_of_ble_eq_true rfl) rfl rfl rfl rfl ?_ | refine SL.store_own (k := 1) (own' := [_, _, _]) (cs' := [_, _, _, _, _, _, _]) rfl rfl rfl rfl rfl rfl rfl Try.sizeOf2 rfl (Nat.le_of_ble_eq_true rfl) rfl rfl rfl rfl ?_ | refine SL.store_own (k := 2) (own' := [_, _, _]) (cs' := [_, _, _, _, _, _, _, _]) rfl rfl rfl rfl rfl rfl rfl Try.sizeOf2 rfl (Nat.le_of_ble_eq_true rfl) rfl rfl rfl rfl ?_
    refine SL.keep (l' := [(4, _, _), (1, _, _)]) ⟨rfl, rfl, trivial⟩ ?_
    refine SL.nil ?_
    refine SE.calm ?_
    refine SE.thenK hK4 ?_
    refine SC.seq (fun K5 hK5 => ?_)
    refine SC.region ?_
    refine SL.step (PS.move rfl (fun _ => rfl) rfl rfl) ?_
    refine SL.step (PS.indexAddr rfl (fun _ => rfl) rfl (fun _ => rfl) Try.underlying26 Try.sizeOf30 (fun _ _ _ => by omega) rfl rfl) ?_
    first | refine SL.step (PS.load_own_agg (k := 0) (vs := [_, _, _, _]) rfl (fun _ => rfl) rfl rfl rfl rfl Try.isAgg30 Try.sizeOf30 rfl rfl) ?_ | refine SL.step (PS.load_own_agg (k := 1) (vs := [_, _, _, _]) rfl (fun _ => rfl) rfl rfl rfl rfl Try.isAgg30 Try.sizeOf30 rfl rfl) ?_ | refine SL.step (PS.load_own_agg (k := 2) (vs := [_, _, _, _]) rfl (fun _ => rfl) rfl rfl rfl rfl Try.isAgg30 Try.sizeOf30 rfl rfl) ?_
    first | refine SL.store_own (k := 0) (own' := [_, _, _]) (cs' := [_, _, _, _]) rfl rfl rfl rfl rfl rfl rfl Try.sizeOf30 rfl (Nat.le_of_ble_eq_true rfl) rfl rfl rfl rfl ?_ | refine SL.store_own (k := 1) (own' := [_, _, _]) (cs' := [_, _, _, _, _, _, _]) rfl rfl rfl rfl rfl rfl rfl Try.sizeOf30 rfl (Nat.le_of_ble_eq_true rfl) rfl rfl rfl rfl ?_ | refine SL.store_own (k := 2) (own' := [_, _, _]) (cs' := [_, _, _, _, _, _, _, _]) rfl rfl rfl rfl rfl rfl rfl Try.sizeOf30 rfl (Nat.le_of_ble_eq_true rfl) rfl rfl rfl rfl ?_
    refine SL.step (PS.assign rfl (fun _ => rfl) rfl rfl) ?_
    refine SL.keep (l' := [(5, _, _), (4, _, _)]) ⟨rfl, rfl, trivial⟩ ?_
    refine SL.nil ?_
    refine SE.thenK hK5 ?_
    refine SC.ret ?_
    refine SE.block_ret ?_
    refine SE.then_ret ?_
    exact finGct (k := 0) rfl Try.isAgg30 Try.sizeOf30 rfl rfl rfl rfl rfl rfl rfl (fun _ _ => by simp only [Pl.clear, *, cond_true, cond_false]; rfl)
  ·
    refine SC.seq (fun K6 hK6 => ?_)
    refine SC.region ?_
    refine SL.step (PS.fieldAddr rfl (fun _ => rfl) Try.fieldAt_25_0 rfl rfl) ?_
    first | refine SL.step (PS.load_own (k := 0) rfl (fun _ => rfl) rfl rfl rfl Try.isAgg3 rfl rfl) ?_ | refine SL.step (PS.load_own (k := 1) rfl (fun _ => rfl) rfl rfl rfl Try.isAgg3 rfl rfl) ?_ | refine SL.step (PS.load_own (k := 2) rfl (fun _ => rfl) rfl rfl rfl Try.isAgg3 rfl rfl) ?_
    refine SL.step (PS.geq rfl (fun _ => rfl) rfl (fun _ => rfl) rfl rfl) ?_
    refine SL.step (PS.assign rfl (fun _ => rfl) rfl rfl) ?_
    refine SL.keep (l' := [(29, _, _), (4, _, _), (2, _, _), (1, _, _)]) ⟨rfl, rfl, rfl, rfl, trivial⟩ ?_
    refine SL.nil ?_
    refine SE.thenK hK6 ?_
    refine SC.cond rfl (fun c29 => ?_) (fun c29 => ?_)
    ·
      refine SC.seq (fun K7 hK7 => ?_)
      refine SC.draw (S := SP _ _ _) 16 (by kernel_rfl) (by kernel_rfl) (fun _ h => h) ?_
      refine SD.take 0 rfl rfl (by kernel_rfl) (PS.fieldAddr rfl (fun _ => rfl) Try.fieldAt_25_0 rfl rfl) ?_
      first | refine SD.take 1 rfl rfl (by kernel_rfl) (PS.load_own (k := 0) rfl (fun _ => rfl) rfl rfl rfl Try.isAgg3 rfl rfl) ?_ | refine SD.take 1 rfl rfl (by kernel_rfl) (PS.load_own (k := 1) rfl (fun _ => rfl) rfl rfl rfl Try.isAgg3 rfl rfl) ?_ | refine SD.take 1 rfl rfl (by kernel_rfl) (PS.load_own (k := 2) rfl (fun _ => rfl) rfl rfl rfl Try.isAgg3 rfl rfl) ?_
      refine SD.take 2 rfl rfl (by kernel_rfl) (PS.fieldAddr rfl (fun _ => rfl) Try.fieldAt_25_3 rfl rfl) ?_
      first | refine SD.take 3 rfl rfl (by kernel_rfl) (PS.load_own (k := 0) rfl (fun _ => rfl) rfl rfl rfl Try.isAgg3 rfl rfl) ?_ | refine SD.take 3 rfl rfl (by kernel_rfl) (PS.load_own (k := 1) rfl (fun _ => rfl) rfl rfl rfl Try.isAgg3 rfl rfl) ?_ | refine SD.take 3 rfl rfl (by kernel_rfl) (PS.load_own (k := 2) rfl (fun _ => rfl) rfl rfl rfl Try.isAgg3 rfl rfl) ?_
      refine SD.take 4 rfl rfl (by kernel_rfl) (PS.fieldAddr rfl (fun _ => rfl) Try.fieldAt_25_2 rfl rfl) ?_
      first | refine SD.take 5 rfl rfl (by kernel_rfl) (PS.load_own (k := 0) rfl (fun _ => rfl) rfl rfl rfl Try.isAgg3 rfl rfl) ?_ | refine SD.take 5 rfl rfl (by kernel_rfl) (PS.load_own (k := 1) rfl (fun _ => rfl) rfl rfl rfl Try.isAgg3 rfl rfl) ?_ | refine SD.take 5 rfl rfl (by kernel_rfl) (PS.load_own (k := 2) rfl (fun _ => rfl) rfl rfl rfl Try.isAgg3 rfl rfl) ?_
      refine SD.take 6 rfl rfl (by kernel_rfl) (PS.move rfl (fun _ => rfl) rfl rfl) ?_
      refine SD.take 7 rfl rfl (by kernel_rfl) (PS.indexAddr rfl (fun _ => rfl) rfl (fun _ => rfl) Try.underlying26 Try.sizeOf30 (fun _ _ _ => by omega) rfl rfl) ?_
      refine SD.take 8 rfl rfl (by kernel_rfl) (PS.fieldAddr rfl (fun _ => rfl) Try.fieldAt_30_1 rfl rfl) ?_
      first | refine SD.take 9 rfl rfl (by kernel_rfl) (PS.load_own (k := 0) rfl (fun _ => rfl) rfl rfl rfl Try.isAgg28 rfl rfl) ?_ | refine SD.take 9 rfl rfl (by kernel_rfl) (PS.load_own (k := 1) rfl (fun _ => rfl) rfl rfl rfl Try.isAgg28 rfl rfl) ?_ | refine SD.take 9 rfl rfl (by kernel_rfl) (PS.load_own (k := 2) rfl (fun _ => rfl) rfl rfl rfl Try.isAgg28 rfl rfl) ?_
      refine SD.one 10 rfl (by kernel_rfl) (fun inv10 => ?_)
      refine SL.callV (vs := [_, _, _, _]) Try.call22 ⟨⟨_, rfl, (fun _ => rfl)⟩, ⟨_, rfl, (fun _ => rfl)⟩, ⟨_, rfl, (fun _ => rfl)⟩, ⟨_, rfl, (fun _ => rfl)⟩, trivial⟩ (fun hg => convert_V _ _ _ _ (by omega) (by omega)) rfl rfl ?_
      refine SL.nil ?_
      refine SE.next (fun _ h => h.drop (List.Sublist.refl _) (fun _ h => h)) inv10 ?_
      refine SD.take 11 rfl rfl (by kernel_rfl) (PS.move rfl (fun _ => rfl) rfl rfl) ?_
      refine SD.take 12 rfl rfl (by kernel_rfl) (PS.extract rfl (fun _ => rfl) rfl rfl rfl) ?_
      refine SD.take 13 rfl rfl (by kernel_rfl) (PS.extract rfl (fun _ => rfl) rfl rfl rfl) ?_
      refine SD.take 14 rfl rfl (by kernel_rfl) (PS.assign rfl (fun _ => rfl) rfl rfl) ?_
      refine SD.take 15 rfl rfl (by kernel_rfl) (PS.assign rfl (fun _ => rfl) rfl rfl) ?_
      clear inv10
      refine SD.tail (by kernel_rfl) (os := []) rfl ?_
      refine SL.keep (l' := [(6, _, _), (4, _, _)]) ⟨rfl, rfl, trivial⟩ ?_
      refine SL.nil ?_
      refine SE.calm ?_
      refine SE.thenK hK7 ?_
      refine SC.seq (fun K8 hK8 => ?_)
      refine SC.region ?_
      refine SL.step (PS.move rfl (fun _ => rfl) rfl rfl) ?_
      refine SL.callV (vs := [_]) Try.call25 ⟨⟨_, rfl, (fun _ => rfl)⟩, trivial⟩ (fun hg => number_V _) rfl rfl ?_
      first | refine SL.store_own (k := 0) (own' := [_, _, _]) (cs' := [_, _, _, _]) rfl rfl rfl rfl rfl rfl rfl Try.sizeOf30 rfl (Nat.le_of_ble_eq_true rfl) rfl rfl rfl rfl ?_ | refine SL.store_own (k := 1) (own' := [_, _, _]) (cs' := [_, _, _, _, _, _, _]) rfl rfl rfl rfl rfl rfl rfl Try.sizeOf30 rfl (Nat.le_of_ble_eq_true rfl) rfl rfl rfl rfl ?_ | refine SL.store_own (k := 2) (own' := [_, _, _]) (cs' := [_, _, _, _, _, _, _, _]) rfl rfl rfl rfl rfl rfl rfl Try.sizeOf30 rfl (Nat.le_of_ble_eq_true rfl) rfl rfl rfl rfl ?_
      refine SL.step (PS.assign rfl (fun _ => rfl) rfl rfl) ?_
      refine SL.keep (l' := [(5, _, _), (4, _, _)]) ⟨rfl, rfl, trivial⟩ ?_
      refine SL.nil ?_
      refine SE.thenK hK8 ?_
      refine SC.ret ?_
      refine SE.block_ret ?_
      refine SE.then_ret ?_
      exact finGct (k := 0) rfl Try.isAgg30 Try.sizeOf30 rfl rfl rfl rfl rfl rfl rfl (fun _ _ => by simp only [Pl.clear, *, cond_true, cond_false]; rfl)
    ·
      refine SC.seq (fun K9 hK9 => ?_)
      refine SC.region ?_
      refine SL.step (PS.fieldAddr rfl (fun _ => rfl) Try.fieldAt_25_2 rfl rfl) ?_
      first | refine SL.step (PS.load_own (k := 0) rfl (fun _ => rfl) rfl rfl rfl Try.isAgg3 rfl rfl) ?_ | refine SL.step (PS.load_own (k := 1) rfl (fun _ => rfl) rfl rfl rfl Try.isAgg3 rfl rfl) ?_ | refine SL.step (PS.load_own (k := 2) rfl (fun _ => rfl) rfl rfl rfl Try.isAgg3 rfl rfl) ?_
      refine SL.step (PS.eql rfl (fun _ => rfl) rfl (fun _ => rfl) rfl rfl) ?_
      refine SL.step (PS.assign rfl (fun _ => rfl) rfl rfl) ?_
      refine SL.keep (l' := [(49, _, _), (4, _, _), (2, _, _), (1, _, _)]) ⟨rfl, rfl, rfl, rfl, trivial⟩ ?_
      refine SL.nil ?_
      refine SE.thenK hK9 ?_
      refine SC.cond rfl (fun c49 => ?_) (fun c49 => ?_)
      ·
        refine SC.seq (fun K10 hK10 => ?_)
        refine SC.seq (fun K11 hK11 => ?_)
        refine SC.draw (S := SP _ _ _) 11 (by kernel_rfl) (by kernel_rfl) (fun _ h => h) ?_
        refine SD.take 0 rfl rfl (by kernel_rfl) (PS.move rfl (fun _ => rfl) rfl rfl) ?_
        refine SD.take 1 rfl rfl (by kernel_rfl) (PS.indexAddr rfl (fun _ => rfl) rfl (fun _ => rfl) Try.underlying26 Try.sizeOf30 (fun _ _ _ => by omega) rfl rfl) ?_
        first | refine SD.take 2 rfl rfl (by kernel_rfl) (PS.load_own_agg (k := 0) (vs := [_, _, _, _]) rfl (fun _ => rfl) rfl rfl rfl rfl Try.isAgg30 Try.sizeOf30 rfl rfl) ?_ | refine SD.take 2 rfl rfl (by kernel_rfl) (PS.load_own_agg (k := 1) (vs := [_, _, _, _]) rfl (fun _ => rfl) rfl rfl rfl rfl Try.isAgg30 Try.sizeOf30 rfl rfl) ?_ | refine SD.take 2 rfl rfl (by kernel_rfl) (PS.load_own_agg (k := 2) (vs := [_, _, _, _]) rfl (fun _ => rfl) rfl rfl rfl rfl Try.isAgg30 Try.sizeOf30 rfl rfl) ?_
        refine SD.take 3 rfl rfl (by kernel_rfl) (PS.move rfl (fun _ => rfl) rfl rfl) ?_
        refine SD.take 4 rfl rfl (by kernel_rfl) (PS.indexAddr rfl (fun _ => rfl) rfl (fun _ => rfl) Try.underlying26 Try.sizeOf30 (fun _ _ _ => by omega) rfl rfl) ?_
        first | refine SD.take 5 rfl rfl (by kernel_rfl) (PS.load_own_agg (k := 0) (vs := [_, _, _, _]) rfl (fun _ => rfl) rfl rfl rfl rfl Try.isAgg30 Try.sizeOf30 rfl rfl) ?_ | refine SD.take 5 rfl rfl (by kernel_rfl) (PS.load_own_agg (k := 1) (vs := [_, _, _, _]) rfl (fun _ => rfl) rfl rfl rfl rfl Try.isAgg30 Try.sizeOf30 rfl rfl) ?_ | refine SD.take 5 rfl rfl (by kernel_rfl) (PS.load_own_agg (k := 2) (vs := [_, _, _, _]) rfl (fun _ => rfl) rfl rfl rfl rfl Try.isAgg30 Try.sizeOf30 rfl rfl) ?_
        refine SD.take 6 rfl rfl (by kernel_rfl) (PS.eqlA rfl (fun _ => rfl) rfl (fun _ => rfl) (by intro x y w; first | exact val_eql x y _ _ w | exact val_eql x y ⟨_, _, _, _⟩ _ w | exact val_eql x y _ ⟨_, _, _, _⟩ w | exact val_eql x y ⟨_, _, _, _⟩ ⟨_, _, _, _⟩ w) rfl rfl) ?_
        refine SD.take 7 rfl rfl (by kernel_rfl) (PS.fieldAddr rfl (fun _ => rfl) Try.fieldAt_25_0 rfl rfl) ?_
        first | refine SD.take 8 rfl rfl (by kernel_rfl) (PS.load_own (k := 0) rfl (fun _ => rfl) rfl rfl rfl Try.isAgg3 rfl rfl) ?_ | refine SD.take 8 rfl rfl (by kernel_rfl) (PS.load_own (k := 1) rfl (fun _ => rfl) rfl rfl rfl Try.isAgg3 rfl rfl) ?_ | refine SD.take 8 rfl rfl (by kernel_rfl) (PS.load_own (k := 2) rfl (fun _ => rfl) rfl rfl rfl Try.isAgg3 rfl rfl) ?_
        refine SD.take 9 rfl rfl (by kernel_rfl) (PS.eql rfl (fun _ => rfl) rfl (fun _ => rfl) rfl rfl) ?_
        refine SD.take 10 rfl rfl (by kernel_rfl) (PS.eqlB rfl (fun _ => rfl) rfl (fun _ => rfl) Try.underlying4 rfl rfl) ?_
        refine SD.tail (by kernel_rfl) (os := []) rfl ?_
        refine SL.keep (l' := [(63, _, _), (4, _, _)]) ⟨rfl, rfl, trivial⟩ ?_
        refine SL.nil ?_
        refine SE.calm ?_
        refine SE.thenK hK11 ?_
        refine SC.cond rfl (fun c63 => ?_) (fun c63 => ?_)
        ·
          refine SC.seq (fun K12 hK12 => ?_)
          refine SC.region ?_
          refine SL.callV (vs := [_]) Try.call25 ⟨⟨_, rfl, (fun _ => rfl)⟩, trivial⟩ (fun hg => number_V _) rfl rfl ?_
          first | refine SL.store_own (k := 0) (own' := [_, _, _]) (cs' := [_, _, _, _]) rfl rfl rfl rfl rfl rfl rfl Try.sizeOf30 rfl (Nat.le_of_ble_eq_true rfl) rfl rfl rfl rfl ?_ | refine SL.store_own (k := 1) (own' := [_, _, _]) (cs' := [_, _, _, _, _, _, _]) rfl rfl rfl rfl rfl rfl rfl Try.sizeOf30 rfl (Nat.le_of_ble_eq_true rfl) rfl rfl rfl rfl ?_ | refine SL.store_own (k := 2) (own' := [_, _, _]) (cs' := [_, _, _, _, _, _, _, _]) rfl rfl rfl rfl rfl rfl rfl Try.sizeOf30 rfl (Nat.le_of_ble_eq_true rfl) rfl rfl rfl rfl ?_
          refine SL.step (PS.assign rfl (fun _ => rfl) rfl rfl) ?_
          refine SL.keep (l' := [(5, _, _), (4, _, _)]) ⟨rfl, rfl, trivial⟩ ?_
          refine SL.nil ?_
          refine SE.thenK hK12 ?_
          refine SC.ret ?_
          refine SE.then_ret ?_
          refine SE.block_ret ?_
          refine SE.then_ret ?_
          exact finGct (k := 0) rfl Try.isAgg30 Try.sizeOf30 rfl rfl rfl rfl rfl rfl rfl (fun _ _ => by simp only [Pl.clear, *, cond_true, cond_false]; rfl)
        ·
          refine SC.skip ?_
          refine SE.thenK hK10 ?_
          refine SC.seq (fun K13 hK13 => ?_)
          refine SC.region ?_
          refine SL.callV (vs := [_]) Try.call25 ⟨⟨_, rfl, (fun _ => rfl)⟩, trivial⟩ (fun hg => number_V _) rfl rfl ?_
          first | refine SL.store_own (k := 0) (own' := [_, _, _]) (cs' := [_, _, _, _]) rfl rfl rfl rfl rfl rfl rfl Try.sizeOf30 rfl (Nat.le_of_ble_eq_true rfl) rfl rfl rfl rfl ?_ | refine SL.store_own (k := 1) (own' := [_, _, _]) (cs' := [_, _, _, _, _, _, _]) rfl rfl rfl rfl rfl rfl rfl Try.sizeOf30 rfl (Nat.le_of_ble_eq_true rfl) rfl rfl rfl rfl ?_ | refine SL.store_own (k := 2) (own' := [_, _, _]) (cs' := [_, _, _, _, _, _, _, _]) rfl rfl rfl rfl rfl rfl rfl Try.sizeOf30 rfl (Nat.le_of_ble_eq_true rfl) rfl rfl rfl rfl ?_
          refine SL.step (PS.assign rfl (fun _ => rfl) rfl rfl) ?_
          refine SL.keep (l' := [(5, _, _), (4, _, _)]) ⟨rfl, rfl, trivial⟩ ?_
          refine SL.nil ?_
          refine SE.thenK hK13 ?_
          refine SC.ret ?_
          refine SE.block_ret ?_
          refine SE.then_ret ?_
          exact finGct (k := 0) rfl Try.isAgg30 Try.sizeOf30 rfl rfl rfl rfl rfl rfl rfl (fun _ _ => by simp only [Pl.clear, *, cond_true, cond_false]; rfl)
      ·
        refine SC.skip ?_
        refine SE.block_normal ?_
        refine SE.thenK hK2 ?_
        refine SC.seq (fun K14 hK14 => ?_)
        refine SC.draw (S := SP _ _ _) 20 (by kernel_rfl) (by kernel_rfl) (fun _ h => h) ?_
        refine SD.take 0 rfl rfl (by kernel_rfl) (PS.fieldAddr rfl (fun _ => rfl) Try.fieldAt_25_0 rfl rfl) ?_
        first | refine SD.take 1 rfl rfl (by kernel_rfl) (PS.load_own (k := 0) rfl (fun _ => rfl) rfl rfl rfl Try.isAgg3 rfl rfl) ?_ | refine SD.take 1 rfl rfl (by kernel_rfl) (PS.load_own (k := 1) rfl (fun _ => rfl) rfl rfl rfl Try.isAgg3 rfl rfl) ?_ | refine SD.take 1 rfl rfl (by kernel_rfl) (PS.load_own (k := 2) rfl (fun _ => rfl) rfl rfl rfl Try.isAgg3 rfl rfl) ?_
        refine SD.take 2 rfl rfl (by kernel_rfl) (PS.fieldAddr rfl (fun _ => rfl) Try.fieldAt_25_2 rfl rfl) ?_
        first | refine SD.take 3 rfl rfl (by kernel_rfl) (PS.load_own (k := 0) rfl (fun _ => rfl) rfl rfl rfl Try.isAgg3 rfl rfl) ?_ | refine SD.take 3 rfl rfl (by kernel_rfl) (PS.load_own (k := 1) rfl (fun _ => rfl) rfl rfl rfl Try.isAgg3 rfl rfl) ?_ | refine SD.take 3 rfl rfl (by kernel_rfl) (PS.load_own (k := 2) rfl (fun _ => rfl) rfl rfl rfl Try.isAgg3 rfl rfl) ?_
        refine SD.take 4 rfl rfl (by kernel_rfl) (PS.fieldAddr rfl (fun _ => rfl) Try.fieldAt_25_4 rfl rfl) ?_
        first | refine SD.take 5 rfl rfl (by kernel_rfl) (PS.load_own (k := 0) rfl (fun _ => rfl) rfl rfl rfl Try.isAgg3 rfl rfl) ?_ | refine SD.take 5 rfl rfl (by kernel_rfl) (PS.load_own (k := 1) rfl (fun _ => rfl) rfl rfl rfl Try.isAgg3 rfl rfl) ?_ | refine SD.take 5 rfl rfl (by kernel_rfl) (PS.load_own (k := 2) rfl (fun _ => rfl) rfl rfl rfl Try.isAgg3 rfl rfl) ?_
        refine SD.take 6 rfl rfl (by kernel_rfl) (PS.move rfl (fun _ => rfl) rfl rfl) ?_
        refine SD.take 7 rfl rfl (by kernel_rfl) (PS.indexAddr rfl (fun _ => rfl) rfl (fun _ => rfl) Try.underlying26 Try.sizeOf30 (fun _ _ _ => by omega) rfl rfl) ?_
        refine SD.take 8 rfl rfl (by kernel_rfl) (PS.fieldAddr rfl (fun _ => rfl) Try.fieldAt_30_1 rfl rfl) ?_
        first | refine SD.take 9 rfl rfl (by kernel_rfl) (PS.load_own (k := 0) rfl (fun _ => rfl) rfl rfl rfl Try.isAgg28 rfl rfl) ?_ | refine SD.take 9 rfl rfl (by kernel_rfl) (PS.load_own (k := 1) rfl (fun _ => rfl) rfl rfl rfl Try.isAgg28 rfl rfl) ?_ | refine SD.take 9 rfl rfl (by kernel_rfl) (PS.load_own (k := 2) rfl (fun _ => rfl) rfl rfl rfl Try.isAgg28 rfl rfl) ?_
        refine SD.take 10 rfl rfl (by kernel_rfl) (PS.move rfl (fun _ => rfl) rfl rfl) ?_
        refine SD.take 11 rfl rfl (by kernel_rfl) (PS.indexAddr rfl (fun _ => rfl) rfl (fun _ => rfl) Try.underlying26 Try.sizeOf30 (fun _ _ _ => by omega) rfl rfl) ?_
        refine SD.take 12 rfl rfl (by kernel_rfl) (PS.fieldAddr rfl (fun _ => rfl) Try.fieldAt_30_1 rfl rfl) ?_
        first | refine SD.take 13 rfl rfl (by kernel_rfl) (PS.load_own (k := 0) rfl (fun _ => rfl) rfl rfl rfl Try.isAgg28 rfl rfl) ?_ | refine SD.take 13 rfl rfl (by kernel_rfl) (PS.load_own (k := 1) rfl (fun _ => rfl) rfl rfl rfl Try.isAgg28 rfl rfl) ?_ | refine SD.take 13 rfl rfl (by kernel_rfl) (PS.load_own (k := 2) rfl (fun _ => rfl) rfl rfl rfl Try.isAgg28 rfl rfl) ?_
        refine SD.one 14 rfl (by kernel_rfl) (fun inv14 => ?_)
        refine SL.callV (vs := [_, _, _, _, _]) Try.call26 ⟨⟨_, rfl, (fun _ => rfl)⟩, ⟨_, rfl, (fun _ => rfl)⟩, ⟨_, rfl, (fun _ => rfl)⟩, ⟨_, rfl, (fun _ => rfl)⟩, ⟨_, rfl, (fun _ => rfl)⟩, trivial⟩ (fun hg => apply_V _ _ _ _ _ (by omega) (by omega) (by omega) (by omega) (by omega) (by omega)) rfl rfl ?_
        refine SL.nil ?_
        refine SE.next (fun _ h => h.drop (List.Sublist.refl _) (fun _ h => h)) inv14 ?_
        refine SD.take 15 rfl rfl (by kernel_rfl) (PS.move rfl (fun _ => rfl) rfl rfl) ?_
        refine SD.take 16 rfl rfl (by kernel_rfl) (PS.extract rfl (fun _ => rfl) rfl rfl rfl) ?_
        refine SD.take 17 rfl rfl (by kernel_rfl) (PS.extract rfl (fun _ => rfl) rfl rfl rfl) ?_
        refine SD.take 18 rfl rfl (by kernel_rfl) (PS.assign rfl (fun _ => rfl) rfl rfl) ?_
        refine SD.take 19 rfl rfl (by kernel_rfl) (PS.assign rfl (fun _ => rfl) rfl rfl) ?_
        clear inv14
        refine SD.tail (by kernel_rfl) (os := []) rfl ?_
        refine SL.keep (l' := [(9, _, _), (8, _, _), (4, _, _)]) ⟨rfl, rfl, rfl, trivial⟩ ?_
        refine SL.nil ?_
        refine SE.calm ?_
        refine SE.thenK hK14 ?_
        refine SC.seq (fun K15 hK15 => ?_)
        refine SC.seq (fun K16 hK16 => ?_)
        refine SC.region ?_
        refine SL.step (PS.move rfl (fun _ => rfl) rfl rfl) ?_
        refine SL.nil ?_
        refine SE.thenK hK16 ?_
        refine SC.block ?_
        refine SC.seq (fun K17 hK17 => ?_)
        refine SC.region ?_
        refine SL.step (PS.eql rfl (fun _ => rfl) rfl (fun _ => rfl) rfl rfl) ?_
        refine SL.step (PS.assign rfl (fun _ => rfl) rfl rfl) ?_
        refine SL.keep (l' := [(85, _, _), (84, _, _), (9, _, _), (8, _, _), (4, _, _)]) ⟨rfl, rfl, rfl, rfl, rfl, trivial⟩ ?_
        refine SL.nil ?_
        refine SE.thenK hK17 ?_
        refine SC.cond rfl (fun c85 => ?_) (fun c85 => ?_)
        ·
          refine SC.seq (fun K18 hK18 => ?_)
          refine SC.region ?_
          refine SL.step (PS.move rfl (fun _ => rfl) rfl rfl) ?_
          refine SL.callV (vs := [_]) Try.call25 ⟨⟨_, rfl, (fun _ => rfl)⟩, trivial⟩ (fun hg => number_V _) rfl rfl ?_
          first | refine SL.store_own (k := 0) (own' := [_, _, _]) (cs' := [_, _, _, _]) rfl rfl rfl rfl rfl rfl rfl Try.sizeOf30 rfl (Nat.le_of_ble_eq_true rfl) rfl rfl rfl rfl ?_ | refine SL.store_own (k := 1) (own' := [_, _, _]) (cs' := [_, _, _, _, _, _, _]) rfl rfl rfl rfl rfl rfl rfl Try.sizeOf30 rfl (Nat.le_of_ble_eq_true rfl) rfl rfl rfl rfl ?_ | refine SL.store_own (k := 2) (own' := [_, _, _]) (cs' := [_, _, _, _, _, _, _, _]) rfl rfl rfl rfl rfl rfl rfl Try.sizeOf30 rfl (Nat.le_of_ble_eq_true rfl) rfl rfl rfl rfl ?_
          refine SL.step (PS.assign rfl (fun _ => rfl) rfl rfl) ?_
          refine SL.keep (l' := [(5, _, _), (4, _, _)]) ⟨rfl, rfl, trivial⟩ ?_
          refine SL.nil ?_
          refine SE.thenK hK18 ?_
          refine SC.ret ?_
          refine SE.block_ret ?_
          refine SE.then_ret ?_
          exact finGct (k := 0) rfl Try.isAgg30 Try.sizeOf30 rfl rfl rfl rfl rfl rfl rfl (fun _ _ => by simp only [Pl.clear, *, cond_true, cond_false]; rfl)
        ·
          refine SC.seq (fun K19 hK19 => ?_)
          refine SC.region ?_
          refine SL.step (PS.eql rfl (fun _ => rfl) rfl (fun _ => rfl) rfl rfl) ?_
          refine SL.step (PS.assign rfl (fun _ => rfl) rfl rfl) ?_
          refine SL.keep (l' := [(89, _, _), (9, _, _), (4, _, _)]) ⟨rfl, rfl, rfl, trivial⟩ ?_
          refine SL.nil ?_
          refine SE.thenK hK19 ?_
          refine SC.cond rfl (fun c89 => ?_) (fun c89 => ?_)
          ·
            refine SC.seq (fun K20 hK20 => ?_)
            refine SC.region ?_
            refine SL.step (PS.build (us := []) (vs := [_, _, _, _]) trivial Try.underlying30 Try.zeroValue30 (Try.places_30 Try.underlying30) rfl rfl rfl) ?_
            first | refine SL.store_own (k := 0) (own' := [_, _, _]) (cs' := [_, _, _, _]) rfl rfl rfl rfl rfl rfl rfl Try.sizeOf30 rfl (Nat.le_of_ble_eq_true rfl) rfl rfl rfl rfl ?_ | refine SL.store_own (k := 1) (own' := [_, _, _]) (cs' := [_, _, _, _, _, _, _]) rfl rfl rfl rfl rfl rfl rfl Try.sizeOf30 rfl (Nat.le_of_ble_eq_true rfl) rfl rfl rfl rfl ?_ | refine SL.store_own (k := 2) (own' := [_, _, _]) (cs' := [_, _, _, _, _, _, _, _]) rfl rfl rfl rfl rfl rfl rfl Try.sizeOf30 rfl (Nat.le_of_ble_eq_true rfl) rfl rfl rfl rfl ?_
            refine SL.step (PS.assign rfl (fun _ => rfl) rfl rfl) ?_
            refine SL.keep (l' := [(5, _, _), (4, _, _)]) ⟨rfl, rfl, trivial⟩ ?_
            refine SL.nil ?_
            refine SE.thenK hK20 ?_
            refine SC.ret ?_
            refine SE.block_ret ?_
            refine SE.then_ret ?_
            exact finGct (k := 0) rfl Try.isAgg30 Try.sizeOf30 rfl rfl rfl rfl rfl rfl rfl (fun _ _ => by simp only [Pl.clear, *, cond_true, cond_false]; rfl)
          ·
            refine SC.skip ?_
            refine SE.block_normal ?_
            refine SE.thenK hK15 ?_
            refine SC.seq (fun K21 hK21 => ?_)
            refine SC.region ?_
            refine SL.step (PS.build (us := []) (vs := [_, _, _, _]) trivial Try.underlying30 Try.zeroValue30 (Try.places_30 Try.underlying30) rfl rfl rfl) ?_
            refine SL.step (PS.move rfl (fun _ => rfl) rfl rfl) ?_
            first | refine SL.store_own (k := 0) (own' := [_, _, _]) (cs' := [_, _, _, _]) rfl rfl rfl rfl rfl rfl rfl Try.sizeOf30 rfl (Nat.le_of_ble_eq_true rfl) rfl rfl rfl rfl ?_ | refine SL.store_own (k := 1) (own' := [_, _, _]) (cs' := [_, _, _, _, _, _, _]) rfl rfl rfl rfl rfl rfl rfl Try.sizeOf30 rfl (Nat.le_of_ble_eq_true rfl) rfl rfl rfl rfl ?_ | refine SL.store_own (k := 2) (own' := [_, _, _]) (cs' := [_, _, _, _, _, _, _, _]) rfl rfl rfl rfl rfl rfl rfl Try.sizeOf30 rfl (Nat.le_of_ble_eq_true rfl) rfl rfl rfl rfl ?_
            refine SL.step (PS.assign rfl (fun _ => rfl) rfl rfl) ?_
            refine SL.keep (l' := [(5, _, _), (4, _, _)]) ⟨rfl, rfl, trivial⟩ ?_
            refine SL.nil ?_
            refine SE.thenK hK21 ?_
            refine SC.ret ?_
            exact finGct (k := 0) rfl Try.isAgg30 Try.sizeOf30 rfl rfl rfl rfl rfl rfl rfl (fun _ _ => by simp only [Pl.clear, *, cond_true, cond_false]; rfl)
theorem clear1_G (i : In) (bl c : Nat) (a b : Vl) (ha : 0 ≤ a.b ∧ a.b < 18446744073709551616) (h29 : (i.op == 29) = false) (h20 : decide (20 ≤ i.op) = true) :
    SpecG Try.prog 20 [i.val, .slice (some ⟨bl, 0, none⟩) 1 c] [.blk bl [.int .i64 a.k, .int .u64 a.b, .int .i64 a.bl, .int .i64 a.off]]
      (fun _ => True) (fun _ => []) (fun v _ => v = outV (Pl.clear i.op i.t i.n i.f a b)) := by
  refine SpecG.enter Try.func20 rfl (n := 94) Try.ntmps20 (Nat.le_of_ble_eq_true rfl) (l := [(0, _, _), (1, _, _)]) rfl ?_
  intro S w
  refine SC.seq (fun K1 hK1 => ?_)
  refine SC.region ?_
  refine SL.box (cs := [_, _, _, _, _, _, _]) rfl rfl rfl rfl rfl (fun b2 => ?_)
  refine SL.alloc (cs := [_, _, _, _]) Try.zeroValue30 rfl rfl rfl (fun b4 => ?_)
  refine SL.step (PS.assign rfl (fun _ => rfl) rfl rfl) ?_
  refine SL.keep (l' := [(4, _, _), (2, _, _), (1, _, _)]) ⟨rfl, rfl, rfl, trivial⟩ ?_
  refine SL.nil ?_
  refine SE.thenK hK1 ?_
  refine SC.seq (fun K2 hK2 => ?_)
  refine SC.block ?_
  refine SC.seq (fun K3 hK3 => ?_)
  refine SC.region ?_
  refine SL.step (PS.fieldAddr rfl (fun _ => rfl) Try.fieldAt_25_0 rfl rfl) ?_
  first | refine SL.step (PS.load_own (k := 0) rfl (fun _ => rfl) rfl rfl rfl Try.isAgg3 rfl rfl) ?_ | refine SL.step (PS.load_own (k := 1) rfl (fun _ => rfl) rfl rfl rfl Try.isAgg3 rfl rfl) ?_ | refine SL.step (PS.load_own (k := 2) rfl (fun _ => rfl) rfl rfl rfl Try.isAgg3 rfl rfl) ?_
  refine SL.step (PS.eql rfl (fun _ => rfl) rfl (fun _ => rfl) rfl rfl) ?_
  refine SL.step (PS.assign rfl (fun _ => rfl) rfl rfl) ?_
  refine SL.keep (l' := [(10, _, _), (4, _, _), (2, _, _), (1, _, _)]) ⟨rfl, rfl, rfl, rfl, trivial⟩ ?_
  refine SL.nil ?_
  refine SE.thenK hK3 ?_
  refine SC.cond_f rfl (h29) ?_
  refine SC.seq (fun K4 hK4 => ?_)
  refine SC.region ?_
  refine SL.step (PS.fieldAddr rfl (fun _ => rfl) Try.fieldAt_25_0 rfl rfl) ?_
  first | refine SL.step (PS.load_own (k := 0) rfl (fun _ => rfl) rfl rfl rfl Try.isAgg3 rfl rfl) ?_ | refine SL.step (PS.load_own (k := 1) rfl (fun _ => rfl) rfl rfl rfl Try.isAgg3 rfl rfl) ?_ | refine SL.step (PS.load_own (k := 2) rfl (fun _ => rfl) rfl rfl rfl Try.isAgg3 rfl rfl) ?_
  refine SL.step (PS.geq rfl (fun _ => rfl) rfl (fun _ => rfl) rfl rfl) ?_
  refine SL.step (PS.assign rfl (fun _ => rfl) rfl rfl) ?_
  refine SL.keep (l' := [(29, _, _), (4, _, _), (2, _, _), (1, _, _)]) ⟨rfl, rfl, rfl, rfl, trivial⟩ ?_
  refine SL.nil ?_
  refine SE.thenK hK4 ?_
  refine SC.cond_t rfl (h20) ?_
  refine SC.seq (fun K5 hK5 => ?_)
  refine SC.draw (S := SP _ _ _) 16 (by kernel_rfl) (by kernel_rfl) (fun _ h => h) ?_
  refine SD.take 0 rfl rfl (by kernel_rfl) (PS.fieldAddr rfl (fun _ => rfl) Try.fieldAt_25_0 rfl rfl) ?_
  first | refine SD.take 1 rfl rfl (by kernel_rfl) (PS.load_own (k := 0) rfl (fun _ => rfl) rfl rfl rfl Try.isAgg3 rfl rfl) ?_ | refine SD.take 1 rfl rfl (by kernel_rfl) (PS.load_own (k := 1) rfl (fun _ => rfl) rfl rfl rfl Try.isAgg3 rfl rfl) ?_ | refine SD.take 1 rfl rfl (by kernel_rfl) (PS.load_own (k := 2) rfl (fun _ => rfl) rfl rfl rfl Try.isAgg3 rfl rfl) ?_
  refine SD.take 2 rfl rfl (by kernel_rfl) (PS.fieldAddr rfl (fun _ => rfl) Try.fieldAt_25_3 rfl rfl) ?_
  first | refine SD.take 3 rfl rfl (by kernel_rfl) (PS.load_own (k := 0) rfl (fun _ => rfl) rfl rfl rfl Try.isAgg3 rfl rfl) ?_ | refine SD.take 3 rfl rfl (by kernel_rfl) (PS.load_own (k := 1) rfl (fun _ => rfl) rfl rfl rfl Try.isAgg3 rfl rfl) ?_ | refine SD.take 3 rfl rfl (by kernel_rfl) (PS.load_own (k := 2) rfl (fun _ => rfl) rfl rfl rfl Try.isAgg3 rfl rfl) ?_
  refine SD.take 4 rfl rfl (by kernel_rfl) (PS.fieldAddr rfl (fun _ => rfl) Try.fieldAt_25_2 rfl rfl) ?_
  first | refine SD.take 5 rfl rfl (by kernel_rfl) (PS.load_own (k := 0) rfl (fun _ => rfl) rfl rfl rfl Try.isAgg3 rfl rfl) ?_ | refine SD.take 5 rfl rfl (by kernel_rfl) (PS.load_own (k := 1) rfl (fun _ => rfl) rfl rfl rfl Try.isAgg3 rfl rfl) ?_ | refine SD.take 5 rfl rfl (by kernel_rfl) (PS.load_own (k := 2) rfl (fun _ => rfl) rfl rfl rfl Try.isAgg3 rfl rfl) ?_
  refine SD.take 6 rfl rfl (by kernel_rfl) (PS.move rfl (fun _ => rfl) rfl rfl) ?_
  refine SD.take 7 rfl rfl (by kernel_rfl) (PS.indexAddr rfl (fun _ => rfl) rfl (fun _ => rfl) Try.underlying26 Try.sizeOf30 (fun _ _ _ => by omega) rfl rfl) ?_
  refine SD.take 8 rfl rfl (by kernel_rfl) (PS.fieldAddr rfl (fun _ => rfl) Try.fieldAt_30_1 rfl rfl) ?_
  first | refine SD.take 9 rfl rfl (by kernel_rfl) (PS.load_own (k := 0) rfl (fun _ => rfl) rfl rfl rfl Try.isAgg28 rfl rfl) ?_ | refine SD.take 9 rfl rfl (by kernel_rfl) (PS.load_own (k := 1) rfl (fun _ => rfl) rfl rfl rfl Try.isAgg28 rfl rfl) ?_ | refine SD.take 9 rfl rfl (by kernel_rfl) (PS.load_own (k := 2) rfl (fun _ => rfl) rfl rfl rfl Try.isAgg28 rfl rfl) ?_
  refine SD.one 10 rfl (by kernel_rfl) (fun inv10 => ?_)
  refine SL.callV (vs := [_, _, _, _]) Try.call22 ⟨⟨_, rfl, (fun _ => rfl)⟩, ⟨_, rfl, (fun _ => rfl)⟩, ⟨_, rfl, (fun _ => rfl)⟩, ⟨_, rfl, (fun _ => rfl)⟩, trivial⟩ (fun hg => convert_V _ _ _ _ (by omega) (by omega)) rfl rfl ?_
  refine SL.nil ?_
  refine SE.next (fun _ h => h.drop (List.Sublist.refl _) (fun _ h => h)) inv10 ?_
  refine SD.take 11 rfl rfl (by kernel_rfl) (PS.move rfl (fun _ => rfl) rfl rfl) ?_
  refine SD.take 12 rfl rfl (by kernel_rfl) (PS.extract rfl (fun _ => rfl) rfl rfl rfl) ?_
  refine SD.take 13 rfl rfl (by kernel_rfl) (PS.extract rfl (fun _ => rfl) rfl rfl rfl) ?_
  refine SD.take 14 rfl rfl (by kernel_rfl) (PS.assign rfl (fun _ => rfl) rfl rfl) ?_
  refine SD.take 15 rfl rfl (by kernel_rfl) (PS.assign rfl (fun _ => rfl) rfl rfl) ?_
  clear inv10
  refine SD.tail (by kernel_rfl) (os := []) rfl ?_
  refine SL.keep (l' := [(6, _, _), (4, _, _)]) ⟨rfl, rfl, trivial⟩ ?_
  refine SL.nil ?_
  refine SE.calm ?_
  refine SE.thenK hK5 ?_
  refine SC.seq (fun K6 hK6 => ?_)
  refine SC.region ?_
  refine SL.step (PS.move rfl (fun _ => rfl) rfl rfl) ?_
  refine SL.callV (vs := [_]) Try.call25 ⟨⟨_, rfl, (fun _ => rfl)⟩, trivial⟩ (fun hg => number_V _) rfl rfl ?_
  first | refine SL.store_own (k := 0) (own' := [_, _, _]) (cs' := [_, _, _, _]) rfl rfl rfl rfl rfl rfl rfl Try.sizeOf30 rfl (Nat.le_of_ble_eq_true rfl) rfl rfl rfl rfl ?_ | refine SL.store_own (k := 1) (own' := [_, _, _]) (cs' := [_, _, _, _, _, _, _]) rfl rfl rfl rfl rfl rfl rfl Try.sizeOf30 rfl (Nat.le_of_ble_eq_true rfl) rfl rfl rfl rfl ?_ | refine SL.store_own (k := 2) (own' := [_, _, _]) (cs' := [_, _, _, _]) rfl rfl rfl rfl rfl rfl rfl Try.sizeOf30 rfl (Nat.le_of_ble_eq_true rfl) rfl rfl rfl rfl ?_
  refine SL.step (PS.assign rfl (fun _ => rfl) rfl rfl) ?_
  refine SL.keep (l' := [(5, _, _), (4, _, _)]) ⟨rfl, rfl, trivial⟩ ?_
  refine SL.nil ?_
  refine SE.thenK hK6 ?_
  refine SC.ret ?_
  refine SE.block_ret ?_
  refine SE.then_ret ?_
  exact finGct (k := 0) rfl Try.isAgg30 Try.sizeOf30 rfl rfl rfl rfl rfl rfl rfl (fun _ _ => by simp only [Pl.clear, *, cond_true, cond_false]; rfl)

end Go.Proofs.Ytdiimckjmggjlaa
