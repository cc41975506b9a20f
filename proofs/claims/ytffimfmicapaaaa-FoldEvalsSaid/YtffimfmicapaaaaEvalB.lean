/- Contract of clear: it may write what it is handed. -/
import Derived.Test.YtffimfmicapaaaaEvalA
namespace Go.Proofs.Ytffimfmicapaaaa
open Go.RowKit
set_option linter.unusedVariables false
set_option linter.unusedSimpArgs false
open Pl (Vl)

/-- A value and an end. -/
def outV (p : Vl × Int) : Value := .tuple #[p.1.val, .int .i64 p.2]
theorem outV_eq {p : Vl × Int} {v : Vl} {e : Int} (h : p = (v, e)) : Value.tuple #[v.val, .int .i64 e] = outV p := by rw [h]; rfl
theorem clear2_G (i : In) (bl c : Nat) (a b : Vl) (hb : 0 ≤ b.b ∧ b.b < 18446744073709551616) (ha : 0 ≤ a.b ∧ a.b < 18446744073709551616) (hf : -9223372036854775808 ≤ i.f ∧ i.f ≤ 9223372036854775807) :
    SpecG Try.prog 23 [i.val, .slice (some ⟨bl, 0, none⟩) 2 c] [.blk bl [.int .i64 a.k, .int .u64 a.b, .int .i64 a.bl, .int .i64 a.off, .int .i64 b.k, .int .u64 b.b, .int .i64 b.bl, .int .i64 b.off]]
      (fun _ => True) (fun _ => []) (fun v _ => v = outV (Pl.clear i.op i.t i.n i.f a b)) := by
  refine SpecG.enter Try.func23 rfl (n := 94) Try.ntmps23 (Nat.le_of_ble_eq_true rfl) (l := [(0, _, _), (1, _, _)]) rfl ?_
  intro S w
  refine SC.seq (fun K1 hK1 => SC.region ?_)
  refine SL.box (cs := [_, _, _, _, _, _, _]) rfl rfl rfl rfl rfl (fun b2 => ?_)
  refine SL.alloc (cs := [_, _, _, _]) Try.zeroValue35 rfl rfl rfl (fun b4 => ?_)
  refine SL.step (PS.assign rfl tt rfl rfl) ?_
  refine SL.keep (l' := [(4, _, _), (2, _, _), (1, _, _)]) ⟨rfl, rfl, rfl, trivial⟩ ?_
  refine SL.nil (SE.thenK hK1 (SC.seq (fun K2 hK2 => SC.block (SC.seq (fun K3 hK3 => SC.region ?_)))))
  refine SL.step (PS.fieldAddr rfl tt Try.fieldAt_25_0 rfl rfl) ?_
  first | refine SL.step (PS.load_own (k := 0) rfl tt rfl rfl rfl Try.isAgg3 rfl rfl) ?_ | refine SL.step (PS.load_own (k := 1) rfl tt rfl rfl rfl Try.isAgg3 rfl rfl) ?_ | refine SL.step (PS.load_own (k := 2) rfl tt rfl rfl rfl Try.isAgg3 rfl rfl) ?_
  refine SL.step (PS.eql rfl tt rfl tt rfl rfl) ?_
  refine SL.step (PS.assign rfl tt rfl rfl) ?_
  refine SL.keep (l' := [(10, _, _), (4, _, _), (2, _, _), (1, _, _)]) ⟨rfl, rfl, rfl, rfl, trivial⟩ ?_
  refine SL.nil (SE.thenK hK3 ?_)
  refine SC.cond rfl (fun c10 => ?_) (fun c10 => ?_)
  ·
   refine SC.seq (fun K4 hK4 => ?_)
   refine SC.draw (S := SP _ _ _) 12 (by kernel_rfl) (by kernel_rfl) (fun _ h => h) ?_
   refine SD.take 0 rfl rfl (by kernel_rfl) (PS.move rfl tt rfl rfl) ?_
   refine SD.take 1 rfl rfl (by kernel_rfl) (PS.indexAddr rfl tt rfl tt Try.underlying33 Try.sizeOf35 (fun _ _ _ => by omega) rfl rfl) ?_
   refine SD.take 2 rfl rfl (by kernel_rfl) (PS.fieldAddr rfl tt Try.fieldAt_35_3 rfl rfl) ?_
   first | refine SD.take 3 rfl rfl (by kernel_rfl) (PS.load_own (k := 0) rfl tt rfl rfl rfl Try.isAgg2 rfl rfl) ?_ | refine SD.take 3 rfl rfl (by kernel_rfl) (PS.load_own (k := 1) rfl tt rfl rfl rfl Try.isAgg2 rfl rfl) ?_ | refine SD.take 3 rfl rfl (by kernel_rfl) (PS.load_own (k := 2) rfl tt rfl rfl rfl Try.isAgg2 rfl rfl) ?_
   refine SD.take 4 rfl rfl (by kernel_rfl) (PS.move rfl tt rfl rfl) ?_
   refine SD.take 5 rfl rfl (by kernel_rfl) (PS.indexAddr rfl tt rfl tt Try.underlying33 Try.sizeOf35 (fun _ _ _ => by omega) rfl rfl) ?_
   refine SD.take 6 rfl rfl (by kernel_rfl) (PS.fieldAddr rfl tt Try.fieldAt_35_1 rfl rfl) ?_
   first | refine SD.take 7 rfl rfl (by kernel_rfl) (PS.load_own (k := 0) rfl tt rfl rfl rfl Try.isAgg27 rfl rfl) ?_ | refine SD.take 7 rfl rfl (by kernel_rfl) (PS.load_own (k := 1) rfl tt rfl rfl rfl Try.isAgg27 rfl rfl) ?_ | refine SD.take 7 rfl rfl (by kernel_rfl) (PS.load_own (k := 2) rfl tt rfl rfl rfl Try.isAgg27 rfl rfl) ?_
   refine SD.take 8 rfl rfl (by kernel_rfl) (PS.conv rfl tt Try.underlying27 Try.underlying2 rfl rfl) ?_
   first | refine SD.take 9 rfl rfl (by kernel_rfl) (PS.add_in rfl tt rfl tt (fun _ => wr_i64 (by omega)) rfl rfl) ?_ | refine SD.take 9 rfl rfl (by kernel_rfl) (PS.add rfl tt rfl tt rfl rfl) ?_
   refine SD.take 10 rfl rfl (by kernel_rfl) (PS.indexAddr rfl tt rfl tt Try.underlying33 Try.sizeOf35 (fun _ _ _ => by omega) rfl rfl) ?_
   refine SD.take 11 rfl rfl (by kernel_rfl) (PS.fieldAddr rfl tt Try.fieldAt_35_3 rfl rfl) ?_
   refine SD.tail (by kernel_rfl) (os := [_]) rfl ?_
   first | refine SL.store_own (k := 0) (own' := [_, _, _]) (cs' := [_, _, _, _]) rfl rfl rfl rfl rfl rfl rfl Try.sizeOf2 rfl (Nat.le_of_ble_eq_true rfl) rfl rfl rfl rfl ?_ | refine SL.store_own (k := 1) (own' := [_, _, _]) (cs' := [_, _, _, _, _, _, _]) rfl rfl rfl rfl rfl rfl rfl Try.sizeOf2 rfl (Nat.le_of_ble_eq_true rfl) rfl rfl rfl rfl ?_ | refine SL.store_own (k := 2) (own' := [_, _, _]) (cs' := [_, _, _, _, _, _, _, _]) rfl rfl rfl rfl rfl rfl rfl Try.sizeOf2 rfl (Nat.le_of_ble_eq_true rfl) rfl rfl rfl rfl ?_
   refine SL.keep (l' := [(4, _, _), (1, _, _)]) ⟨rfl, rfl, trivial⟩ ?_
   refine SL.nil (SE.calm (SE.thenK hK4 (SC.seq (fun K5 hK5 => SC.region ?_))))
   refine SL.step (PS.move rfl tt rfl rfl) ?_
   refine SL.step (PS.indexAddr rfl tt rfl tt Try.underlying33 Try.sizeOf35 (fun _ _ _ => by omega) rfl rfl) ?_
   first | refine SL.step (PS.load_own_agg (k := 0) (vs := [_, _, _, _]) rfl tt rfl rfl rfl rfl Try.isAgg35 Try.sizeOf35 rfl rfl) ?_ | refine SL.step (PS.load_own_agg (k := 1) (vs := [_, _, _, _]) rfl tt rfl rfl rfl rfl Try.isAgg35 Try.sizeOf35 rfl rfl) ?_ | refine SL.step (PS.load_own_agg (k := 2) (vs := [_, _, _, _]) rfl tt rfl rfl rfl rfl Try.isAgg35 Try.sizeOf35 rfl rfl) ?_
   first | refine SL.store_own (k := 0) (own' := [_, _, _]) (cs' := [_, _, _, _]) rfl rfl rfl rfl rfl rfl rfl Try.sizeOf35 rfl (Nat.le_of_ble_eq_true rfl) rfl rfl rfl rfl ?_ | refine SL.store_own (k := 1) (own' := [_, _, _]) (cs' := [_, _, _, _, _, _, _]) rfl rfl rfl rfl rfl rfl rfl Try.sizeOf35 rfl (Nat.le_of_ble_eq_true rfl) rfl rfl rfl rfl ?_ | refine SL.store_own (k := 2) (own' := [_, _, _]) (cs' := [_, _, _, _, _, _, _, _]) rfl rfl rfl rfl rfl rfl rfl Try.sizeOf35 rfl (Nat.le_of_ble_eq_true rfl) rfl rfl rfl rfl ?_
   refine SL.step (PS.assign rfl tt rfl rfl) ?_
   refine SL.keep (l' := [(5, _, _), (4, _, _)]) ⟨rfl, rfl, trivial⟩ ?_
   refine SL.nil (SE.thenK hK5 (SC.ret (SE.block_ret (SE.then_ret ?_))))
   exact finGct (k := 0) rfl Try.isAgg35 Try.sizeOf35 rfl rfl rfl rfl rfl rfl rfl (fun _ _ => by simp only [Pl.clear, *, cond_true, cond_false]; rfl)
  ·
   refine SC.seq (fun K6 hK6 => SC.region ?_)
   refine SL.step (PS.fieldAddr rfl tt Try.fieldAt_25_0 rfl rfl) ?_
   first | refine SL.step (PS.load_own (k := 0) rfl tt rfl rfl rfl Try.isAgg3 rfl rfl) ?_ | refine SL.step (PS.load_own (k := 1) rfl tt rfl rfl rfl Try.isAgg3 rfl rfl) ?_ | refine SL.step (PS.load_own (k := 2) rfl tt rfl rfl rfl Try.isAgg3 rfl rfl) ?_
   refine SL.step (PS.geq rfl tt rfl tt rfl rfl) ?_
   refine SL.step (PS.assign rfl tt rfl rfl) ?_
   refine SL.keep (l' := [(29, _, _), (4, _, _), (2, _, _), (1, _, _)]) ⟨rfl, rfl, rfl, rfl, trivial⟩ ?_
   refine SL.nil (SE.thenK hK6 ?_)
   refine SC.cond rfl (fun c29 => ?_) (fun c29 => ?_)
   ·
    refine SC.seq (fun K7 hK7 => ?_)
    refine SC.draw (S := SP _ _ _) 16 (by kernel_rfl) (by kernel_rfl) (fun _ h => h) ?_
    refine SD.take 0 rfl rfl (by kernel_rfl) (PS.fieldAddr rfl tt Try.fieldAt_25_0 rfl rfl) ?_
    first | refine SD.take 1 rfl rfl (by kernel_rfl) (PS.load_own (k := 0) rfl tt rfl rfl rfl Try.isAgg3 rfl rfl) ?_ | refine SD.take 1 rfl rfl (by kernel_rfl) (PS.load_own (k := 1) rfl tt rfl rfl rfl Try.isAgg3 rfl rfl) ?_ | refine SD.take 1 rfl rfl (by kernel_rfl) (PS.load_own (k := 2) rfl tt rfl rfl rfl Try.isAgg3 rfl rfl) ?_
    refine SD.take 2 rfl rfl (by kernel_rfl) (PS.fieldAddr rfl tt Try.fieldAt_25_3 rfl rfl) ?_
    first | refine SD.take 3 rfl rfl (by kernel_rfl) (PS.load_own (k := 0) rfl tt rfl rfl rfl Try.isAgg3 rfl rfl) ?_ | refine SD.take 3 rfl rfl (by kernel_rfl) (PS.load_own (k := 1) rfl tt rfl rfl rfl Try.isAgg3 rfl rfl) ?_ | refine SD.take 3 rfl rfl (by kernel_rfl) (PS.load_own (k := 2) rfl tt rfl rfl rfl Try.isAgg3 rfl rfl) ?_
    refine SD.take 4 rfl rfl (by kernel_rfl) (PS.fieldAddr rfl tt Try.fieldAt_25_2 rfl rfl) ?_
    first | refine SD.take 5 rfl rfl (by kernel_rfl) (PS.load_own (k := 0) rfl tt rfl rfl rfl Try.isAgg3 rfl rfl) ?_ | refine SD.take 5 rfl rfl (by kernel_rfl) (PS.load_own (k := 1) rfl tt rfl rfl rfl Try.isAgg3 rfl rfl) ?_ | refine SD.take 5 rfl rfl (by kernel_rfl) (PS.load_own (k := 2) rfl tt rfl rfl rfl Try.isAgg3 rfl rfl) ?_
    refine SD.take 6 rfl rfl (by kernel_rfl) (PS.move rfl tt rfl rfl) ?_
    refine SD.take 7 rfl rfl (by kernel_rfl) (PS.indexAddr rfl tt rfl tt Try.underlying33 Try.sizeOf35 (fun _ _ _ => by omega) rfl rfl) ?_
    refine SD.take 8 rfl rfl (by kernel_rfl) (PS.fieldAddr rfl tt Try.fieldAt_35_1 rfl rfl) ?_
    first | refine SD.take 9 rfl rfl (by kernel_rfl) (PS.load_own (k := 0) rfl tt rfl rfl rfl Try.isAgg27 rfl rfl) ?_ | refine SD.take 9 rfl rfl (by kernel_rfl) (PS.load_own (k := 1) rfl tt rfl rfl rfl Try.isAgg27 rfl rfl) ?_ | refine SD.take 9 rfl rfl (by kernel_rfl) (PS.load_own (k := 2) rfl tt rfl rfl rfl Try.isAgg27 rfl rfl) ?_
    refine SD.one 10 rfl (by kernel_rfl) (fun inv10 => ?_)
    refine SL.callV (vs := [_, _, _, _]) Try.call36 ⟨⟨_, rfl, tt⟩, ⟨_, rfl, tt⟩, ⟨_, rfl, tt⟩, ⟨_, rfl, tt⟩, trivial⟩ (fun hg => convert_V _ _ _ _ (by omega) (by omega)) rfl rfl ?_
    refine SL.nil ?_
    refine SE.next (fun _ h => h.drop (List.Sublist.refl _) (fun _ h => h)) inv10 ?_
    refine SD.take 11 rfl rfl (by kernel_rfl) (PS.move rfl tt rfl rfl) ?_
    refine SD.take 12 rfl rfl (by kernel_rfl) (PS.extract rfl tt rfl rfl rfl) ?_
    refine SD.take 13 rfl rfl (by kernel_rfl) (PS.extract rfl tt rfl rfl rfl) ?_
    refine SD.take 14 rfl rfl (by kernel_rfl) (PS.assign rfl tt rfl rfl) ?_
    refine SD.take 15 rfl rfl (by kernel_rfl) (PS.assign rfl tt rfl rfl) ?_
    clear inv10
    refine SD.tail (by kernel_rfl) (os := []) rfl ?_
    refine SL.keep (l' := [(6, _, _), (4, _, _)]) ⟨rfl, rfl, trivial⟩ ?_
    refine SL.nil (SE.calm (SE.thenK hK7 (SC.seq (fun K8 hK8 => SC.region ?_))))
    refine SL.step (PS.move rfl tt rfl rfl) ?_
    refine SL.callV (vs := [_]) Try.call39 ⟨⟨_, rfl, tt⟩, trivial⟩ (fun hg => number_V _) rfl rfl ?_
    first | refine SL.store_own (k := 0) (own' := [_, _, _]) (cs' := [_, _, _, _]) rfl rfl rfl rfl rfl rfl rfl Try.sizeOf35 rfl (Nat.le_of_ble_eq_true rfl) rfl rfl rfl rfl ?_ | refine SL.store_own (k := 1) (own' := [_, _, _]) (cs' := [_, _, _, _, _, _, _]) rfl rfl rfl rfl rfl rfl rfl Try.sizeOf35 rfl (Nat.le_of_ble_eq_true rfl) rfl rfl rfl rfl ?_ | refine SL.store_own (k := 2) (own' := [_, _, _]) (cs' := [_, _, _, _, _, _, _, _]) rfl rfl rfl rfl rfl rfl rfl Try.sizeOf35 rfl (Nat.le_of_ble_eq_true rfl) rfl rfl rfl rfl ?_
    refine SL.step (PS.assign rfl tt rfl rfl) ?_
    refine SL.keep (l' := [(5, _, _), (4, _, _)]) ⟨rfl, rfl, trivial⟩ ?_
    refine SL.nil (SE.thenK hK8 (SC.ret (SE.block_ret (SE.then_ret ?_))))
    exact finGct (k := 0) rfl Try.isAgg35 Try.sizeOf35 rfl rfl rfl rfl rfl rfl rfl (fun _ _ => by simp only [Pl.clear, *, cond_true, cond_false]; rfl)
   ·
    refine SC.seq (fun K9 hK9 => SC.region ?_)
    refine SL.step (PS.fieldAddr rfl tt Try.fieldAt_25_2 rfl rfl) ?_
    first | refine SL.step (PS.load_own (k := 0) rfl tt rfl rfl rfl Try.isAgg3 rfl rfl) ?_ | refine SL.step (PS.load_own (k := 1) rfl tt rfl rfl rfl Try.isAgg3 rfl rfl) ?_ | refine SL.step (PS.load_own (k := 2) rfl tt rfl rfl rfl Try.isAgg3 rfl rfl) ?_
    refine SL.step (PS.eql rfl tt rfl tt rfl rfl) ?_
    refine SL.step (PS.assign rfl tt rfl rfl) ?_
    refine SL.keep (l' := [(49, _, _), (4, _, _), (2, _, _), (1, _, _)]) ⟨rfl, rfl, rfl, rfl, trivial⟩ ?_
    refine SL.nil (SE.thenK hK9 ?_)
    refine SC.cond rfl (fun c49 => ?_) (fun c49 => ?_)
    ·
     refine SC.seq (fun K10 hK10 => SC.seq (fun K11 hK11 => ?_))
     refine SC.draw (S := SP _ _ _) 11 (by kernel_rfl) (by kernel_rfl) (fun _ h => h) ?_
     refine SD.take 0 rfl rfl (by kernel_rfl) (PS.move rfl tt rfl rfl) ?_
     refine SD.take 1 rfl rfl (by kernel_rfl) (PS.indexAddr rfl tt rfl tt Try.underlying33 Try.sizeOf35 (fun _ _ _ => by omega) rfl rfl) ?_
     first | refine SD.take 2 rfl rfl (by kernel_rfl) (PS.load_own_agg (k := 0) (vs := [_, _, _, _]) rfl tt rfl rfl rfl rfl Try.isAgg35 Try.sizeOf35 rfl rfl) ?_ | refine SD.take 2 rfl rfl (by kernel_rfl) (PS.load_own_agg (k := 1) (vs := [_, _, _, _]) rfl tt rfl rfl rfl rfl Try.isAgg35 Try.sizeOf35 rfl rfl) ?_ | refine SD.take 2 rfl rfl (by kernel_rfl) (PS.load_own_agg (k := 2) (vs := [_, _, _, _]) rfl tt rfl rfl rfl rfl Try.isAgg35 Try.sizeOf35 rfl rfl) ?_
     refine SD.take 3 rfl rfl (by kernel_rfl) (PS.move rfl tt rfl rfl) ?_
     refine SD.take 4 rfl rfl (by kernel_rfl) (PS.indexAddr rfl tt rfl tt Try.underlying33 Try.sizeOf35 (fun _ _ _ => by omega) rfl rfl) ?_
     first | refine SD.take 5 rfl rfl (by kernel_rfl) (PS.load_own_agg (k := 0) (vs := [_, _, _, _]) rfl tt rfl rfl rfl rfl Try.isAgg35 Try.sizeOf35 rfl rfl) ?_ | refine SD.take 5 rfl rfl (by kernel_rfl) (PS.load_own_agg (k := 1) (vs := [_, _, _, _]) rfl tt rfl rfl rfl rfl Try.isAgg35 Try.sizeOf35 rfl rfl) ?_ | refine SD.take 5 rfl rfl (by kernel_rfl) (PS.load_own_agg (k := 2) (vs := [_, _, _, _]) rfl tt rfl rfl rfl rfl Try.isAgg35 Try.sizeOf35 rfl rfl) ?_
     refine SD.take 6 rfl rfl (by kernel_rfl) (PS.eqlA rfl tt rfl tt (by intro x y w; first | exact val_eql x y _ _ w | exact val_eql x y ⟨_, _, _, _⟩ _ w | exact val_eql x y _ ⟨_, _, _, _⟩ w | exact val_eql x y ⟨_, _, _, _⟩ ⟨_, _, _, _⟩ w) rfl rfl) ?_
     refine SD.take 7 rfl rfl (by kernel_rfl) (PS.fieldAddr rfl tt Try.fieldAt_25_0 rfl rfl) ?_
     first | refine SD.take 8 rfl rfl (by kernel_rfl) (PS.load_own (k := 0) rfl tt rfl rfl rfl Try.isAgg3 rfl rfl) ?_ | refine SD.take 8 rfl rfl (by kernel_rfl) (PS.load_own (k := 1) rfl tt rfl rfl rfl Try.isAgg3 rfl rfl) ?_ | refine SD.take 8 rfl rfl (by kernel_rfl) (PS.load_own (k := 2) rfl tt rfl rfl rfl Try.isAgg3 rfl rfl) ?_
     refine SD.take 9 rfl rfl (by kernel_rfl) (PS.eql rfl tt rfl tt rfl rfl) ?_
     refine SD.take 10 rfl rfl (by kernel_rfl) (PS.eqlB rfl tt rfl tt Try.underlying4 rfl rfl) ?_
     refine SD.tail (by kernel_rfl) (os := []) rfl ?_
     refine SL.keep (l' := [(63, _, _), (4, _, _)]) ⟨rfl, rfl, trivial⟩ ?_
     refine SL.nil (SE.calm (SE.thenK hK11 ?_))
     refine SC.cond rfl (fun c63 => ?_) (fun c63 => ?_)
     ·
      refine SC.seq (fun K12 hK12 => SC.region ?_)
      refine SL.callV (vs := [_]) Try.call39 ⟨⟨_, rfl, tt⟩, trivial⟩ (fun hg => number_V _) rfl rfl ?_
      first | refine SL.store_own (k := 0) (own' := [_, _, _]) (cs' := [_, _, _, _]) rfl rfl rfl rfl rfl rfl rfl Try.sizeOf35 rfl (Nat.le_of_ble_eq_true rfl) rfl rfl rfl rfl ?_ | refine SL.store_own (k := 1) (own' := [_, _, _]) (cs' := [_, _, _, _, _, _, _]) rfl rfl rfl rfl rfl rfl rfl Try.sizeOf35 rfl (Nat.le_of_ble_eq_true rfl) rfl rfl rfl rfl ?_ | refine SL.store_own (k := 2) (own' := [_, _, _]) (cs' := [_, _, _, _, _, _, _, _]) rfl rfl rfl rfl rfl rfl rfl Try.sizeOf35 rfl (Nat.le_of_ble_eq_true rfl) rfl rfl rfl rfl ?_
      refine SL.step (PS.assign rfl tt rfl rfl) ?_
      refine SL.keep (l' := [(5, _, _), (4, _, _)]) ⟨rfl, rfl, trivial⟩ ?_
      refine SL.nil (SE.thenK hK12 (SC.ret (SE.then_ret (SE.block_ret (SE.then_ret ?_)))))
      exact finGct (k := 0) rfl Try.isAgg35 Try.sizeOf35 rfl rfl rfl rfl rfl rfl rfl (fun _ _ => by simp only [Pl.clear, *, cond_true, cond_false]; rfl)
     ·
      refine SC.skip (SE.thenK hK10 (SC.seq (fun K13 hK13 => SC.region ?_)))
      refine SL.callV (vs := [_]) Try.call39 ⟨⟨_, rfl, tt⟩, trivial⟩ (fun hg => number_V _) rfl rfl ?_
      first | refine SL.store_own (k := 0) (own' := [_, _, _]) (cs' := [_, _, _, _]) rfl rfl rfl rfl rfl rfl rfl Try.sizeOf35 rfl (Nat.le_of_ble_eq_true rfl) rfl rfl rfl rfl ?_ | refine SL.store_own (k := 1) (own' := [_, _, _]) (cs' := [_, _, _, _, _, _, _]) rfl rfl rfl rfl rfl rfl rfl Try.sizeOf35 rfl (Nat.le_of_ble_eq_true rfl) rfl rfl rfl rfl ?_ | refine SL.store_own (k := 2) (own' := [_, _, _]) (cs' := [_, _, _, _, _, _, _, _]) rfl rfl rfl rfl rfl rfl rfl Try.sizeOf35 rfl (Nat.le_of_ble_eq_true rfl) rfl rfl rfl rfl ?_
      refine SL.step (PS.assign rfl tt rfl rfl) ?_
      refine SL.keep (l' := [(5, _, _), (4, _, _)]) ⟨rfl, rfl, trivial⟩ ?_
      refine SL.nil (SE.thenK hK13 (SC.ret (SE.block_ret (SE.then_ret ?_))))
      exact finGct (k := 0) rfl Try.isAgg35 Try.sizeOf35 rfl rfl rfl rfl rfl rfl rfl (fun _ _ => by simp only [Pl.clear, *, cond_true, cond_false]; rfl)
    ·
     refine SC.skip (SE.block_normal (SE.thenK hK2 (SC.seq (fun K14 hK14 => ?_))))
     refine SC.draw (S := SP _ _ _) 20 (by kernel_rfl) (by kernel_rfl) (fun _ h => h) ?_
     refine SD.take 0 rfl rfl (by kernel_rfl) (PS.fieldAddr rfl tt Try.fieldAt_25_0 rfl rfl) ?_
     first | refine SD.take 1 rfl rfl (by kernel_rfl) (PS.load_own (k := 0) rfl tt rfl rfl rfl Try.isAgg3 rfl rfl) ?_ | refine SD.take 1 rfl rfl (by kernel_rfl) (PS.load_own (k := 1) rfl tt rfl rfl rfl Try.isAgg3 rfl rfl) ?_ | refine SD.take 1 rfl rfl (by kernel_rfl) (PS.load_own (k := 2) rfl tt rfl rfl rfl Try.isAgg3 rfl rfl) ?_
     refine SD.take 2 rfl rfl (by kernel_rfl) (PS.fieldAddr rfl tt Try.fieldAt_25_2 rfl rfl) ?_
     first | refine SD.take 3 rfl rfl (by kernel_rfl) (PS.load_own (k := 0) rfl tt rfl rfl rfl Try.isAgg3 rfl rfl) ?_ | refine SD.take 3 rfl rfl (by kernel_rfl) (PS.load_own (k := 1) rfl tt rfl rfl rfl Try.isAgg3 rfl rfl) ?_ | refine SD.take 3 rfl rfl (by kernel_rfl) (PS.load_own (k := 2) rfl tt rfl rfl rfl Try.isAgg3 rfl rfl) ?_
     refine SD.take 4 rfl rfl (by kernel_rfl) (PS.fieldAddr rfl tt Try.fieldAt_25_4 rfl rfl) ?_
     first | refine SD.take 5 rfl rfl (by kernel_rfl) (PS.load_own (k := 0) rfl tt rfl rfl rfl Try.isAgg3 rfl rfl) ?_ | refine SD.take 5 rfl rfl (by kernel_rfl) (PS.load_own (k := 1) rfl tt rfl rfl rfl Try.isAgg3 rfl rfl) ?_ | refine SD.take 5 rfl rfl (by kernel_rfl) (PS.load_own (k := 2) rfl tt rfl rfl rfl Try.isAgg3 rfl rfl) ?_
     refine SD.take 6 rfl rfl (by kernel_rfl) (PS.move rfl tt rfl rfl) ?_
     refine SD.take 7 rfl rfl (by kernel_rfl) (PS.indexAddr rfl tt rfl tt Try.underlying33 Try.sizeOf35 (fun _ _ _ => by omega) rfl rfl) ?_
     refine SD.take 8 rfl rfl (by kernel_rfl) (PS.fieldAddr rfl tt Try.fieldAt_35_1 rfl rfl) ?_
     first | refine SD.take 9 rfl rfl (by kernel_rfl) (PS.load_own (k := 0) rfl tt rfl rfl rfl Try.isAgg27 rfl rfl) ?_ | refine SD.take 9 rfl rfl (by kernel_rfl) (PS.load_own (k := 1) rfl tt rfl rfl rfl Try.isAgg27 rfl rfl) ?_ | refine SD.take 9 rfl rfl (by kernel_rfl) (PS.load_own (k := 2) rfl tt rfl rfl rfl Try.isAgg27 rfl rfl) ?_
     refine SD.take 10 rfl rfl (by kernel_rfl) (PS.move rfl tt rfl rfl) ?_
     refine SD.take 11 rfl rfl (by kernel_rfl) (PS.indexAddr rfl tt rfl tt Try.underlying33 Try.sizeOf35 (fun _ _ _ => by omega) rfl rfl) ?_
     refine SD.take 12 rfl rfl (by kernel_rfl) (PS.fieldAddr rfl tt Try.fieldAt_35_1 rfl rfl) ?_
     first | refine SD.take 13 rfl rfl (by kernel_rfl) (PS.load_own (k := 0) rfl tt rfl rfl rfl Try.isAgg27 rfl rfl) ?_ | refine SD.take 13 rfl rfl (by kernel_rfl) (PS.load_own (k := 1) rfl tt rfl rfl rfl Try.isAgg27 rfl rfl) ?_ | refine SD.take 13 rfl rfl (by kernel_rfl) (PS.load_own (k := 2) rfl tt rfl rfl rfl Try.isAgg27 rfl rfl) ?_
     refine SD.one 14 rfl (by kernel_rfl) (fun inv14 => ?_)
     refine SL.callV (vs := [_, _, _, _, _]) Try.call40 ⟨⟨_, rfl, tt⟩, ⟨_, rfl, tt⟩, ⟨_, rfl, tt⟩, ⟨_, rfl, tt⟩, ⟨_, rfl, tt⟩, trivial⟩ (fun hg => apply_V _ _ _ _ _ (by omega) (by omega) (by omega) (by omega) (by omega) (by omega)) rfl rfl ?_
     refine SL.nil ?_
     refine SE.next (fun _ h => h.drop (List.Sublist.refl _) (fun _ h => h)) inv14 ?_
     refine SD.take 15 rfl rfl (by kernel_rfl) (PS.move rfl tt rfl rfl) ?_
     refine SD.take 16 rfl rfl (by kernel_rfl) (PS.extract rfl tt rfl rfl rfl) ?_
     refine SD.take 17 rfl rfl (by kernel_rfl) (PS.extract rfl tt rfl rfl rfl) ?_
     refine SD.take 18 rfl rfl (by kernel_rfl) (PS.assign rfl tt rfl rfl) ?_
     refine SD.take 19 rfl rfl (by kernel_rfl) (PS.assign rfl tt rfl rfl) ?_
     clear inv14
     refine SD.tail (by kernel_rfl) (os := []) rfl ?_
     refine SL.keep (l' := [(9, _, _), (8, _, _), (4, _, _)]) ⟨rfl, rfl, rfl, trivial⟩ ?_
     refine SL.nil (SE.calm (SE.thenK hK14 (SC.seq (fun K15 hK15 => SC.seq (fun K16 hK16 => SC.region ?_)))))
     refine SL.step (PS.move rfl tt rfl rfl) ?_
     refine SL.nil (SE.thenK hK16 (SC.block (SC.seq (fun K17 hK17 => SC.region ?_))))
     refine SL.step (PS.eql rfl tt rfl tt rfl rfl) ?_
     refine SL.step (PS.assign rfl tt rfl rfl) ?_
     refine SL.keep (l' := [(85, _, _), (84, _, _), (9, _, _), (8, _, _), (4, _, _)]) ⟨rfl, rfl, rfl, rfl, rfl, trivial⟩ ?_
     refine SL.nil (SE.thenK hK17 ?_)
     refine SC.cond rfl (fun c85 => ?_) (fun c85 => ?_)
     ·
      refine SC.seq (fun K18 hK18 => SC.region ?_)
      refine SL.step (PS.move rfl tt rfl rfl) ?_
      refine SL.callV (vs := [_]) Try.call39 ⟨⟨_, rfl, tt⟩, trivial⟩ (fun hg => number_V _) rfl rfl ?_
      first | refine SL.store_own (k := 0) (own' := [_, _, _]) (cs' := [_, _, _, _]) rfl rfl rfl rfl rfl rfl rfl Try.sizeOf35 rfl (Nat.le_of_ble_eq_true rfl) rfl rfl rfl rfl ?_ | refine SL.store_own (k := 1) (own' := [_, _, _]) (cs' := [_, _, _, _, _, _, _]) rfl rfl rfl rfl rfl rfl rfl Try.sizeOf35 rfl (Nat.le_of_ble_eq_true rfl) rfl rfl rfl rfl ?_ | refine SL.store_own (k := 2) (own' := [_, _, _]) (cs' := [_, _, _, _, _, _, _, _]) rfl rfl rfl rfl rfl rfl rfl Try.sizeOf35 rfl (Nat.le_of_ble_eq_true rfl) rfl rfl rfl rfl ?_
      refine SL.step (PS.assign rfl tt rfl rfl) ?_
      refine SL.keep (l' := [(5, _, _), (4, _, _)]) ⟨rfl, rfl, trivial⟩ ?_
      refine SL.nil (SE.thenK hK18 (SC.ret (SE.block_ret (SE.then_ret ?_))))
      exact finGct (k := 0) rfl Try.isAgg35 Try.sizeOf35 rfl rfl rfl rfl rfl rfl rfl (fun _ _ => by simp only [Pl.clear, *, cond_true, cond_false]; rfl)
     ·
      refine SC.seq (fun K19 hK19 => SC.region ?_)
      refine SL.step (PS.eql rfl tt rfl tt rfl rfl) ?_
      refine SL.step (PS.assign rfl tt rfl rfl) ?_
      refine SL.keep (l' := [(89, _, _), (9, _, _), (4, _, _)]) ⟨rfl, rfl, rfl, trivial⟩ ?_
      refine SL.nil (SE.thenK hK19 ?_)
      refine SC.cond rfl (fun c89 => ?_) (fun c89 => ?_)
      ·
       refine SC.seq (fun K20 hK20 => SC.region ?_)
       refine SL.step (PS.build (us := []) (vs := [_, _, _, _]) trivial Try.underlying35 Try.zeroValue35 (Try.places_35 Try.underlying35) rfl rfl rfl) ?_
       first | refine SL.store_own (k := 0) (own' := [_, _, _]) (cs' := [_, _, _, _]) rfl rfl rfl rfl rfl rfl rfl Try.sizeOf35 rfl (Nat.le_of_ble_eq_true rfl) rfl rfl rfl rfl ?_ | refine SL.store_own (k := 1) (own' := [_, _, _]) (cs' := [_, _, _, _, _, _, _]) rfl rfl rfl rfl rfl rfl rfl Try.sizeOf35 rfl (Nat.le_of_ble_eq_true rfl) rfl rfl rfl rfl ?_ | refine SL.store_own (k := 2) (own' := [_, _, _]) (cs' := [_, _, _, _, _, _, _, _]) rfl rfl rfl rfl rfl rfl rfl Try.sizeOf35 rfl (Nat.le_of_ble_eq_true rfl) rfl rfl rfl rfl ?_
       refine SL.step (PS.assign rfl tt rfl rfl) ?_
       refine SL.keep (l' := [(5, _, _), (4, _, _)]) ⟨rfl, rfl, trivial⟩ ?_
       refine SL.nil (SE.thenK hK20 (SC.ret (SE.block_ret (SE.then_ret ?_))))
       exact finGct (k := 0) rfl Try.isAgg35 Try.sizeOf35 rfl rfl rfl rfl rfl rfl rfl (fun _ _ => by simp only [Pl.clear, *, cond_true, cond_false]; rfl)
      ·
       refine SC.skip (SE.block_normal (SE.thenK hK15 (SC.seq (fun K21 hK21 => SC.region ?_))))
       refine SL.step (PS.build (us := []) (vs := [_, _, _, _]) trivial Try.underlying35 Try.zeroValue35 (Try.places_35 Try.underlying35) rfl rfl rfl) ?_
       refine SL.step (PS.move rfl tt rfl rfl) ?_
       first | refine SL.store_own (k := 0) (own' := [_, _, _]) (cs' := [_, _, _, _]) rfl rfl rfl rfl rfl rfl rfl Try.sizeOf35 rfl (Nat.le_of_ble_eq_true rfl) rfl rfl rfl rfl ?_ | refine SL.store_own (k := 1) (own' := [_, _, _]) (cs' := [_, _, _, _, _, _, _]) rfl rfl rfl rfl rfl rfl rfl Try.sizeOf35 rfl (Nat.le_of_ble_eq_true rfl) rfl rfl rfl rfl ?_ | refine SL.store_own (k := 2) (own' := [_, _, _]) (cs' := [_, _, _, _, _, _, _, _]) rfl rfl rfl rfl rfl rfl rfl Try.sizeOf35 rfl (Nat.le_of_ble_eq_true rfl) rfl rfl rfl rfl ?_
       refine SL.step (PS.assign rfl tt rfl rfl) ?_
       refine SL.keep (l' := [(5, _, _), (4, _, _)]) ⟨rfl, rfl, trivial⟩ ?_
       refine SL.nil (SE.thenK hK21 (SC.ret ?_))
       exact finGct (k := 0) rfl Try.isAgg35 Try.sizeOf35 rfl rfl rfl rfl rfl rfl rfl (fun _ _ => by simp only [Pl.clear, *, cond_true, cond_false]; rfl)
theorem clear1_G (i : In) (bl c : Nat) (a b : Vl) (ha : 0 ≤ a.b ∧ a.b < 18446744073709551616) (h29 : (i.op == 29) = false) (h20 : decide (20 ≤ i.op) = true) :
    SpecG Try.prog 23 [i.val, .slice (some ⟨bl, 0, none⟩) 1 c] [.blk bl [.int .i64 a.k, .int .u64 a.b, .int .i64 a.bl, .int .i64 a.off]]
      (fun _ => True) (fun _ => []) (fun v _ => v = outV (Pl.clear i.op i.t i.n i.f a b)) := by
  refine SpecG.enter Try.func23 rfl (n := 94) Try.ntmps23 (Nat.le_of_ble_eq_true rfl) (l := [(0, _, _), (1, _, _)]) rfl ?_
  intro S w
  refine SC.seq (fun K1 hK1 => SC.region ?_)
  refine SL.box (cs := [_, _, _, _, _, _, _]) rfl rfl rfl rfl rfl (fun b2 => ?_)
  refine SL.alloc (cs := [_, _, _, _]) Try.zeroValue35 rfl rfl rfl (fun b4 => ?_)
  refine SL.step (PS.assign rfl tt rfl rfl) ?_
  refine SL.keep (l' := [(4, _, _), (2, _, _), (1, _, _)]) ⟨rfl, rfl, rfl, trivial⟩ ?_
  refine SL.nil (SE.thenK hK1 (SC.seq (fun K2 hK2 => SC.block (SC.seq (fun K3 hK3 => SC.region ?_)))))
  refine SL.step (PS.fieldAddr rfl tt Try.fieldAt_25_0 rfl rfl) ?_
  first | refine SL.step (PS.load_own (k := 0) rfl tt rfl rfl rfl Try.isAgg3 rfl rfl) ?_ | refine SL.step (PS.load_own (k := 1) rfl tt rfl rfl rfl Try.isAgg3 rfl rfl) ?_ | refine SL.step (PS.load_own (k := 2) rfl tt rfl rfl rfl Try.isAgg3 rfl rfl) ?_
  refine SL.step (PS.eql rfl tt rfl tt rfl rfl) ?_
  refine SL.step (PS.assign rfl tt rfl rfl) ?_
  refine SL.keep (l' := [(10, _, _), (4, _, _), (2, _, _), (1, _, _)]) ⟨rfl, rfl, rfl, rfl, trivial⟩ ?_
  refine SL.nil (SE.thenK hK3 ?_)
  refine SC.cond_f rfl (h29) ?_
  refine SC.seq (fun K4 hK4 => SC.region ?_)
  refine SL.step (PS.fieldAddr rfl tt Try.fieldAt_25_0 rfl rfl) ?_
  first | refine SL.step (PS.load_own (k := 0) rfl tt rfl rfl rfl Try.isAgg3 rfl rfl) ?_ | refine SL.step (PS.load_own (k := 1) rfl tt rfl rfl rfl Try.isAgg3 rfl rfl) ?_ | refine SL.step (PS.load_own (k := 2) rfl tt rfl rfl rfl Try.isAgg3 rfl rfl) ?_
  refine SL.step (PS.geq rfl tt rfl tt rfl rfl) ?_
  refine SL.step (PS.assign rfl tt rfl rfl) ?_
  refine SL.keep (l' := [(29, _, _), (4, _, _), (2, _, _), (1, _, _)]) ⟨rfl, rfl, rfl, rfl, trivial⟩ ?_
  refine SL.nil (SE.thenK hK4 ?_)
  refine SC.cond_t rfl (h20) ?_
  refine SC.seq (fun K5 hK5 => ?_)
  refine SC.draw (S := SP _ _ _) 16 (by kernel_rfl) (by kernel_rfl) (fun _ h => h) ?_
  refine SD.take 0 rfl rfl (by kernel_rfl) (PS.fieldAddr rfl tt Try.fieldAt_25_0 rfl rfl) ?_
  first | refine SD.take 1 rfl rfl (by kernel_rfl) (PS.load_own (k := 0) rfl tt rfl rfl rfl Try.isAgg3 rfl rfl) ?_ | refine SD.take 1 rfl rfl (by kernel_rfl) (PS.load_own (k := 1) rfl tt rfl rfl rfl Try.isAgg3 rfl rfl) ?_ | refine SD.take 1 rfl rfl (by kernel_rfl) (PS.load_own (k := 2) rfl tt rfl rfl rfl Try.isAgg3 rfl rfl) ?_
  refine SD.take 2 rfl rfl (by kernel_rfl) (PS.fieldAddr rfl tt Try.fieldAt_25_3 rfl rfl) ?_
  first | refine SD.take 3 rfl rfl (by kernel_rfl) (PS.load_own (k := 0) rfl tt rfl rfl rfl Try.isAgg3 rfl rfl) ?_ | refine SD.take 3 rfl rfl (by kernel_rfl) (PS.load_own (k := 1) rfl tt rfl rfl rfl Try.isAgg3 rfl rfl) ?_ | refine SD.take 3 rfl rfl (by kernel_rfl) (PS.load_own (k := 2) rfl tt rfl rfl rfl Try.isAgg3 rfl rfl) ?_
  refine SD.take 4 rfl rfl (by kernel_rfl) (PS.fieldAddr rfl tt Try.fieldAt_25_2 rfl rfl) ?_
  first | refine SD.take 5 rfl rfl (by kernel_rfl) (PS.load_own (k := 0) rfl tt rfl rfl rfl Try.isAgg3 rfl rfl) ?_ | refine SD.take 5 rfl rfl (by kernel_rfl) (PS.load_own (k := 1) rfl tt rfl rfl rfl Try.isAgg3 rfl rfl) ?_ | refine SD.take 5 rfl rfl (by kernel_rfl) (PS.load_own (k := 2) rfl tt rfl rfl rfl Try.isAgg3 rfl rfl) ?_
  refine SD.take 6 rfl rfl (by kernel_rfl) (PS.move rfl tt rfl rfl) ?_
  refine SD.take 7 rfl rfl (by kernel_rfl) (PS.indexAddr rfl tt rfl tt Try.underlying33 Try.sizeOf35 (fun _ _ _ => by omega) rfl rfl) ?_
  refine SD.take 8 rfl rfl (by kernel_rfl) (PS.fieldAddr rfl tt Try.fieldAt_35_1 rfl rfl) ?_
  first | refine SD.take 9 rfl rfl (by kernel_rfl) (PS.load_own (k := 0) rfl tt rfl rfl rfl Try.isAgg27 rfl rfl) ?_ | refine SD.take 9 rfl rfl (by kernel_rfl) (PS.load_own (k := 1) rfl tt rfl rfl rfl Try.isAgg27 rfl rfl) ?_ | refine SD.take 9 rfl rfl (by kernel_rfl) (PS.load_own (k := 2) rfl tt rfl rfl rfl Try.isAgg27 rfl rfl) ?_
  refine SD.one 10 rfl (by kernel_rfl) (fun inv10 => ?_)
  refine SL.callV (vs := [_, _, _, _]) Try.call36 ⟨⟨_, rfl, tt⟩, ⟨_, rfl, tt⟩, ⟨_, rfl, tt⟩, ⟨_, rfl, tt⟩, trivial⟩ (fun hg => convert_V _ _ _ _ (by omega) (by omega)) rfl rfl ?_
  refine SL.nil ?_
  refine SE.next (fun _ h => h.drop (List.Sublist.refl _) (fun _ h => h)) inv10 ?_
  refine SD.take 11 rfl rfl (by kernel_rfl) (PS.move rfl tt rfl rfl) ?_
  refine SD.take 12 rfl rfl (by kernel_rfl) (PS.extract rfl tt rfl rfl rfl) ?_
  refine SD.take 13 rfl rfl (by kernel_rfl) (PS.extract rfl tt rfl rfl rfl) ?_
  refine SD.take 14 rfl rfl (by kernel_rfl) (PS.assign rfl tt rfl rfl) ?_
  refine SD.take 15 rfl rfl (by kernel_rfl) (PS.assign rfl tt rfl rfl) ?_
  clear inv10
  refine SD.tail (by kernel_rfl) (os := []) rfl ?_
  refine SL.keep (l' := [(6, _, _), (4, _, _)]) ⟨rfl, rfl, trivial⟩ ?_
  refine SL.nil (SE.calm (SE.thenK hK5 (SC.seq (fun K6 hK6 => SC.region ?_))))
  refine SL.step (PS.move rfl tt rfl rfl) ?_
  refine SL.callV (vs := [_]) Try.call39 ⟨⟨_, rfl, tt⟩, trivial⟩ (fun hg => number_V _) rfl rfl ?_
  first | refine SL.store_own (k := 0) (own' := [_, _, _]) (cs' := [_, _, _, _]) rfl rfl rfl rfl rfl rfl rfl Try.sizeOf35 rfl (Nat.le_of_ble_eq_true rfl) rfl rfl rfl rfl ?_ | refine SL.store_own (k := 1) (own' := [_, _, _]) (cs' := [_, _, _, _, _, _, _]) rfl rfl rfl rfl rfl rfl rfl Try.sizeOf35 rfl (Nat.le_of_ble_eq_true rfl) rfl rfl rfl rfl ?_ | refine SL.store_own (k := 2) (own' := [_, _, _]) (cs' := [_, _, _, _]) rfl rfl rfl rfl rfl rfl rfl Try.sizeOf35 rfl (Nat.le_of_ble_eq_true rfl) rfl rfl rfl rfl ?_
  refine SL.step (PS.assign rfl tt rfl rfl) ?_
  refine SL.keep (l' := [(5, _, _), (4, _, _)]) ⟨rfl, rfl, trivial⟩ ?_
  refine SL.nil (SE.thenK hK6 (SC.ret (SE.block_ret (SE.then_ret ?_))))
  exact finGct (k := 0) rfl Try.isAgg35 Try.sizeOf35 rfl rfl rfl rfl rfl rfl rfl (fun _ _ => by simp only [Pl.clear, *, cond_true, cond_false]; rfl)

end Go.Proofs.Ytffimfmicapaaaa
