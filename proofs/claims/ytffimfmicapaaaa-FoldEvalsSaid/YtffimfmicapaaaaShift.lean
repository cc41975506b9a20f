/- Contract of shift. -/
import Derived.Test.YtffimfmicapaaaaDiv
namespace Go.Proofs.Ytffimfmicapaaaa
open Go.RowKit
set_option linter.unusedVariables false

theorem shift_far (op : Int) (n : Nat) (f a b : Int) (hn' : n ≤ 64) (hk : (n : Int) ≤ b) :
    SpecV Try.prog 52 [.int .i64 op, .int .i64 n, .int .i64 f, .int .u64 a, .int .u64 b] (pairV (Pl.shift op n f a b)) := by
  have hw : IntKind.u64.wrap (n : Int) = n := wr_u64 (by omega)
  refine SpecV.enter Try.func52 rfl (n := 89) Try.ntmps52 (Nat.le_of_ble_eq_true rfl) (l := [(0, _, _), (1, _, _), (2, _, _), (3, _, _), (4, _, _)]) rfl ?_
  intro w
  refine SC.seq (fun K1 hK1 => SC.region ?_)
  refine SL.step (PS.assign rfl tt rfl rfl) ?_
  refine SL.step (PS.assign rfl tt rfl rfl) ?_
  refine SL.keep (l' := [(0, _, _), (1, _, _), (2, _, _), (3, _, _), (4, _, _)]) ⟨rfl, rfl, rfl, rfl, rfl, trivial⟩ ?_
  refine SL.nil (SE.thenK hK1 (SC.seq (fun K2 hK2 => SC.seq (fun K3 hK3 => SC.region ?_))))
  refine SL.step (PS.move rfl tt rfl rfl) ?_
  refine SL.step (PS.move rfl tt rfl rfl) ?_
  refine SL.step (PS.conv rfl tt Try.underlying3 Try.underlying27 rfl rfl) ?_
  refine SL.step (PS.geq rfl tt rfl tt rfl rfl) ?_
  refine SL.keep (l' := [(17, _, _), (0, _, _), (1, _, _), (2, _, _), (3, _, _), (4, _, _)]) ⟨rfl, rfl, rfl, rfl, rfl, rfl, trivial⟩ ?_
  refine SL.nil (SE.thenK hK3 ?_)
  refine SC.cond_t rfl (by rw [hw]; simpa using hk) ?_
  refine SC.seq (fun K4 hK4 => SC.region ?_)
  refine SL.step (PS.assign rfl tt rfl rfl) ?_
  refine SL.step (PS.assign rfl tt rfl rfl) ?_
  refine SL.keep (l' := [(11, _, _), (10, _, _)]) ⟨rfl, rfl, trivial⟩ ?_
  refine SL.nil (SE.thenK hK4 (SC.ret (SE.then_ret ?_)))
  exact finV2 rfl rfl rfl (fun _ _ => pairV_eq (if_pos hk))
theorem shift_l (n k : Nat) (f a : Int) (hn : 1 ≤ n) (hn' : n ≤ 64) (ha : 0 ≤ a) (ha' : a < 2 ^ n) (hk : k < n) (hf : f = 0 ∨ f = 1 ∨ f = 2 ∨ f = 3) :
    SpecV Try.prog 52 [.int .i64 11, .int .i64 n, .int .i64 f, .int .u64 a, .int .u64 k] (pairV (Pl.shift 11 n f a k)) := by
  have hw : IntKind.u64.wrap (n : Int) = n := wr_u64 (by omega)
  refine SpecV.enter Try.func52 rfl (n := 89) Try.ntmps52 (Nat.le_of_ble_eq_true rfl) (l := [(0, _, _), (1, _, _), (2, _, _), (3, _, _), (4, _, _)]) rfl ?_
  intro w
  refine SC.seq (fun K1 hK1 => SC.region ?_)
  refine SL.step (PS.assign rfl tt rfl rfl) ?_
  refine SL.step (PS.assign rfl tt rfl rfl) ?_
  refine SL.keep (l' := [(0, _, _), (1, _, _), (2, _, _), (3, _, _), (4, _, _)]) ⟨rfl, rfl, rfl, rfl, rfl, trivial⟩ ?_
  refine SL.nil (SE.thenK hK1 (SC.seq (fun K2 hK2 => SC.seq (fun K3 hK3 => SC.region ?_))))
  refine SL.step (PS.move rfl tt rfl rfl) ?_
  refine SL.step (PS.move rfl tt rfl rfl) ?_
  refine SL.step (PS.conv rfl tt Try.underlying3 Try.underlying27 rfl rfl) ?_
  refine SL.step (PS.geq rfl tt rfl tt rfl rfl) ?_
  refine SL.keep (l' := [(17, _, _), (0, _, _), (1, _, _), (2, _, _), (3, _, _), (4, _, _)]) ⟨rfl, rfl, rfl, rfl, rfl, rfl, trivial⟩ ?_
  refine SL.nil (SE.thenK hK3 ?_)
  refine SC.cond_f rfl (by rw [hw]; simp; omega) ?_
  refine SC.skip (SE.thenK hK2 (SC.seq (fun K4 hK4 => SC.region ?_)))
  refine SL.step (PS.assign rfl tt rfl rfl) ?_
  refine SL.keep (l' := [(0, _, _), (1, _, _), (2, _, _), (3, _, _), (4, _, _)]) ⟨rfl, rfl, rfl, rfl, rfl, trivial⟩ ?_
  refine SL.nil (SE.thenK hK4 (SC.seq (fun K5 hK5 => SC.region ?_)))
  refine SL.step (PS.assign rfl tt rfl rfl) ?_
  refine SL.keep (l' := [(0, _, _), (1, _, _), (2, _, _), (3, _, _), (4, _, _)]) ⟨rfl, rfl, rfl, rfl, rfl, trivial⟩ ?_
  refine SL.nil (SE.thenK hK5 (SC.seq (fun K6 hK6 => SC.seq (fun K7 hK7 => SC.region ?_))))
  refine SL.step (PS.move rfl tt rfl rfl) ?_
  refine SL.keep (l' := [(18, _, _), (1, _, _), (2, _, _), (3, _, _), (4, _, _)]) ⟨rfl, rfl, rfl, rfl, rfl, trivial⟩ ?_
  refine SL.nil (SE.thenK hK7 (SC.block (SC.seq (fun K8 hK8 => SC.region ?_))))
  refine SL.step (PS.eql rfl tt rfl tt rfl rfl) ?_
  refine SL.step (PS.assign rfl tt rfl rfl) ?_
  refine SL.keep (l' := [(38, _, _), (18, _, _), (1, _, _), (2, _, _), (3, _, _), (4, _, _)]) ⟨rfl, rfl, rfl, rfl, rfl, rfl, trivial⟩ ?_
  refine SL.nil (SE.thenK hK8 ?_)
  refine SC.cond_t rfl (rfl) ?_
  refine SC.seq (fun K9 hK9 => SC.region ?_)
  refine SL.step (PS.move rfl tt rfl rfl) ?_
  refine SL.step (PS.move rfl tt rfl rfl) ?_
  refine SL.step (PS.shl rfl tt rfl tt (by first | omega | (simp only [IntKind.wrap_i64, IntKind.wrap_u64]; omega)) rfl rfl) ?_
  refine SL.step (PS.move rfl tt rfl rfl) ?_
  refine SL.callV (vs := [_]) Try.call37 ⟨⟨_, rfl, tt⟩, trivial⟩ (fun hg => mask_V _) rfl rfl ?_
  refine SL.step (PS.and rfl tt rfl tt rfl rfl) ?_
  refine SL.step (PS.assign rfl tt rfl rfl) ?_
  refine SL.keep (l' := [(12, _, _), (1, _, _), (2, _, _), (3, _, _), (4, _, _)]) ⟨rfl, rfl, rfl, rfl, rfl, trivial⟩ ?_
  refine SL.nil (SE.thenK hK9 (SC.region ?_))
  refine SL.step (PS.move rfl tt rfl rfl) ?_
  refine SL.step (PS.and rfl tt rfl tt rfl rfl) ?_
  refine SL.step (PS.neq rfl tt rfl tt rfl rfl) ?_
  refine SL.step (PS.move rfl tt rfl rfl) ?_
  refine SL.step (PS.move rfl tt rfl rfl) ?_
  refine SL.step (PS.move rfl tt rfl rfl) ?_
  refine SL.step (PS.shr rfl (fun h => h) rfl (fun h => h) (by first | omega | (simp only [IntKind.wrap_i64, IntKind.wrap_u64]; omega)) rfl rfl) ?_
  refine SL.step (PS.move rfl tt rfl rfl) ?_
  refine SL.step (PS.neq rfl (fun h => h) rfl (fun h => h) rfl rfl) ?_
  refine SL.step (PS.pick_and rfl tt rfl (fun h h2 => pk_and h h2) rfl rfl) ?_
  refine SL.step (PS.move rfl tt rfl rfl) ?_
  refine SL.step (PS.move rfl tt rfl rfl) ?_
  refine SL.step (PS.and rfl (fun h => h) rfl tt rfl rfl) ?_
  refine SL.step (PS.neq rfl (fun h => h) rfl tt rfl rfl) ?_
  refine SL.step (PS.move rfl (fun h => h) rfl rfl) ?_
  refine SL.step (PS.move rfl tt rfl rfl) ?_
  refine SL.step (PS.move rfl tt rfl rfl) ?_
  refine SL.callV (vs := [_, _]) Try.call49 ⟨⟨_, rfl, (fun h => h)⟩, ⟨_, rfl, (fun h => h)⟩, trivial⟩ (fun hg => signed_V _ _) rfl rfl ?_
  refine SL.step (PS.move rfl tt rfl rfl) ?_
  refine SL.step (PS.shr rfl (fun h => h) rfl (fun h => h) (by first | omega | (simp only [IntKind.wrap_i64, IntKind.wrap_u64]; omega)) rfl rfl) ?_
  refine SL.step (PS.move rfl tt rfl rfl) ?_
  refine SL.step (PS.move rfl tt rfl rfl) ?_
  refine SL.callV (vs := [_, _]) Try.call49 ⟨⟨_, rfl, (fun h => h)⟩, ⟨_, rfl, (fun h => h)⟩, trivial⟩ (fun hg => signed_V _ _) rfl rfl ?_
  refine SL.step (PS.neq rfl (fun h => h) rfl (fun h => h) rfl rfl) ?_
  refine SL.step (PS.pick_and rfl (fun h => h) rfl (fun h h2 => pk_and h h2) rfl rfl) ?_
  refine SL.step (PS.pick_or rfl tt rfl (fun h h2 => pk_or h h2) rfl rfl) ?_
  refine SL.step (PS.assign rfl tt rfl rfl) ?_
  refine SL.keep (l' := [(13, _, _), (12, _, _)]) ⟨rfl, rfl, trivial⟩ ?_
  refine SL.nil (SE.block_normal (SE.thenK hK6 (SC.seq (fun K10 hK10 => SC.seq (fun K11 hK11 => SC.region ?_)))))
  refine SL.step (PS.move rfl tt rfl rfl) ?_
  refine SL.keep (l' := [(87, _, _), (12, _, _)]) ⟨rfl, rfl, trivial⟩ ?_
  refine SL.nil (SE.thenK hK11 ?_)
  refine SC.cond rfl (fun c87 => ?_) (fun c87 => ?_)
  ·
   rw [Pl.nuw_eq hf, Pl.nsw_eq hf, Pl.min_u hk hn', Pl.min_i hk hn', Pl.and_mask_wrap hn hn', Pl.signed_in hn hn', Pl.signed_in hn hn', Pl.shl_u hk ha, Pl.shl_s hn hn' hk] at c87
   refine SC.seq (fun K12 hK12 => SC.region ?_)
   refine SL.step (PS.assign rfl tt rfl rfl) ?_
   refine SL.step (PS.assign rfl tt rfl rfl) ?_
   refine SL.keep (l' := [(11, _, _), (10, _, _)]) ⟨rfl, rfl, trivial⟩ ?_
   refine SL.nil (SE.thenK hK12 (SC.ret (SE.then_ret ?_)))
   first | exact finV2 rfl rfl rfl (fun _ _ => pairV_eq (Pl.shift_l1 hk c87)) | exact finV2 rfl rfl rfl (fun _ _ => pairV_eq (by rw [Pl.shift_l0 hk c87, Pl.min_u hk hn', Pl.and_mask_wrap hn hn']))
  ·
   rw [Pl.nuw_eq hf, Pl.nsw_eq hf, Pl.min_u hk hn', Pl.min_i hk hn', Pl.and_mask_wrap hn hn', Pl.signed_in hn hn', Pl.signed_in hn hn', Pl.shl_u hk ha, Pl.shl_s hn hn' hk] at c87
   refine SC.skip (SE.thenK hK10 (SC.seq (fun K13 hK13 => SC.region ?_)))
   refine SL.step (PS.move rfl tt rfl rfl) ?_
   refine SL.step (PS.assign rfl tt rfl rfl) ?_
   refine SL.step (PS.assign rfl tt rfl rfl) ?_
   refine SL.keep (l' := [(11, _, _), (10, _, _)]) ⟨rfl, rfl, trivial⟩ ?_
   refine SL.nil (SE.thenK hK13 (SC.ret ?_))
   first | exact finV2 rfl rfl rfl (fun _ _ => pairV_eq (Pl.shift_l1 hk c87)) | exact finV2 rfl rfl rfl (fun _ _ => pairV_eq (by rw [Pl.shift_l0 hk c87, Pl.min_u hk hn', Pl.and_mask_wrap hn hn']))
theorem shift_r (n k : Nat) (f a : Int) (hn : 1 ≤ n) (hn' : n ≤ 64) (ha : 0 ≤ a) (ha' : a < 2 ^ n) (hk : k < n) (hf : f = 0 ∨ f = 4) :
    SpecV Try.prog 52 [.int .i64 12, .int .i64 n, .int .i64 f, .int .u64 a, .int .u64 k] (pairV (Pl.shift 12 n f a k)) := by
  have hw : IntKind.u64.wrap (n : Int) = n := wr_u64 (by omega)
  refine SpecV.enter Try.func52 rfl (n := 89) Try.ntmps52 (Nat.le_of_ble_eq_true rfl) (l := [(0, _, _), (1, _, _), (2, _, _), (3, _, _), (4, _, _)]) rfl ?_
  intro w
  refine SC.seq (fun K1 hK1 => SC.region ?_)
  refine SL.step (PS.assign rfl tt rfl rfl) ?_
  refine SL.step (PS.assign rfl tt rfl rfl) ?_
  refine SL.keep (l' := [(0, _, _), (1, _, _), (2, _, _), (3, _, _), (4, _, _)]) ⟨rfl, rfl, rfl, rfl, rfl, trivial⟩ ?_
  refine SL.nil (SE.thenK hK1 (SC.seq (fun K2 hK2 => SC.seq (fun K3 hK3 => SC.region ?_))))
  refine SL.step (PS.move rfl tt rfl rfl) ?_
  refine SL.step (PS.move rfl tt rfl rfl) ?_
  refine SL.step (PS.conv rfl tt Try.underlying3 Try.underlying27 rfl rfl) ?_
  refine SL.step (PS.geq rfl tt rfl tt rfl rfl) ?_
  refine SL.keep (l' := [(17, _, _), (0, _, _), (1, _, _), (2, _, _), (3, _, _), (4, _, _)]) ⟨rfl, rfl, rfl, rfl, rfl, rfl, trivial⟩ ?_
  refine SL.nil (SE.thenK hK3 ?_)
  refine SC.cond_f rfl (by rw [hw]; simp; omega) ?_
  refine SC.skip (SE.thenK hK2 (SC.seq (fun K4 hK4 => SC.region ?_)))
  refine SL.step (PS.assign rfl tt rfl rfl) ?_
  refine SL.keep (l' := [(0, _, _), (1, _, _), (2, _, _), (3, _, _), (4, _, _)]) ⟨rfl, rfl, rfl, rfl, rfl, trivial⟩ ?_
  refine SL.nil (SE.thenK hK4 (SC.seq (fun K5 hK5 => SC.region ?_)))
  refine SL.step (PS.assign rfl tt rfl rfl) ?_
  refine SL.keep (l' := [(0, _, _), (1, _, _), (2, _, _), (3, _, _), (4, _, _)]) ⟨rfl, rfl, rfl, rfl, rfl, trivial⟩ ?_
  refine SL.nil (SE.thenK hK5 (SC.seq (fun K6 hK6 => SC.seq (fun K7 hK7 => SC.region ?_))))
  refine SL.step (PS.move rfl tt rfl rfl) ?_
  refine SL.keep (l' := [(18, _, _), (1, _, _), (2, _, _), (3, _, _), (4, _, _)]) ⟨rfl, rfl, rfl, rfl, rfl, trivial⟩ ?_
  refine SL.nil (SE.thenK hK7 (SC.block (SC.seq (fun K8 hK8 => SC.region ?_))))
  refine SL.step (PS.eql rfl tt rfl tt rfl rfl) ?_
  refine SL.step (PS.assign rfl tt rfl rfl) ?_
  refine SL.keep (l' := [(38, _, _), (18, _, _), (1, _, _), (2, _, _), (3, _, _), (4, _, _)]) ⟨rfl, rfl, rfl, rfl, rfl, rfl, trivial⟩ ?_
  refine SL.nil (SE.thenK hK8 ?_)
  refine SC.cond_f rfl (rfl) ?_
  refine SC.seq (fun K9 hK9 => SC.region ?_)
  refine SL.step (PS.eql rfl tt rfl tt rfl rfl) ?_
  refine SL.step (PS.assign rfl tt rfl rfl) ?_
  refine SL.keep (l' := [(72, _, _), (1, _, _), (2, _, _), (3, _, _), (4, _, _)]) ⟨rfl, rfl, rfl, rfl, rfl, trivial⟩ ?_
  refine SL.nil (SE.thenK hK9 ?_)
  refine SC.cond_t rfl (rfl) ?_
  refine SC.seq (fun K10 hK10 => SC.region ?_)
  refine SL.step (PS.move rfl tt rfl rfl) ?_
  refine SL.step (PS.move rfl tt rfl rfl) ?_
  refine SL.step (PS.shr rfl tt rfl tt (by first | omega | (simp only [IntKind.wrap_i64, IntKind.wrap_u64]; omega)) rfl rfl) ?_
  refine SL.step (PS.assign rfl tt rfl rfl) ?_
  refine SL.keep (l' := [(12, _, _), (2, _, _), (3, _, _), (4, _, _)]) ⟨rfl, rfl, rfl, rfl, trivial⟩ ?_
  refine SL.nil (SE.thenK hK10 (SC.region ?_))
  refine SL.step (PS.move rfl tt rfl rfl) ?_
  refine SL.step (PS.and rfl tt rfl tt rfl rfl) ?_
  refine SL.step (PS.neq rfl tt rfl tt rfl rfl) ?_
  refine SL.step (PS.move rfl tt rfl rfl) ?_
  refine SL.step (PS.move rfl tt rfl rfl) ?_
  refine SL.step (PS.move rfl tt rfl rfl) ?_
  refine SL.step (PS.shl rfl (fun h => h) rfl (fun h => h) (by first | omega | (simp only [IntKind.wrap_i64, IntKind.wrap_u64]; omega)) rfl rfl) ?_
  refine SL.step (PS.move rfl tt rfl rfl) ?_
  refine SL.step (PS.neq rfl (fun h => h) rfl (fun h => h) rfl rfl) ?_
  refine SL.step (PS.pick_and rfl tt rfl (fun h h2 => pk_and h h2) rfl rfl) ?_
  refine SL.step (PS.assign rfl tt rfl rfl) ?_
  refine SL.keep (l' := [(13, _, _), (12, _, _)]) ⟨rfl, rfl, trivial⟩ ?_
  refine SL.nil (SE.block_normal (SE.thenK hK6 (SC.seq (fun K11 hK11 => SC.seq (fun K12 hK12 => SC.region ?_)))))
  refine SL.step (PS.move rfl tt rfl rfl) ?_
  refine SL.keep (l' := [(87, _, _), (12, _, _)]) ⟨rfl, rfl, trivial⟩ ?_
  refine SL.nil (SE.thenK hK12 ?_)
  refine SC.cond rfl (fun c87 => ?_) (fun c87 => ?_)
  ·
   rw [Pl.exact_eq hf, Pl.min_u hk hn', Pl.lshr_x hn' hk ha ha'] at c87
   refine SC.seq (fun K13 hK13 => SC.region ?_)
   refine SL.step (PS.assign rfl tt rfl rfl) ?_
   refine SL.step (PS.assign rfl tt rfl rfl) ?_
   refine SL.keep (l' := [(11, _, _), (10, _, _)]) ⟨rfl, rfl, trivial⟩ ?_
   refine SL.nil (SE.thenK hK13 (SC.ret (SE.then_ret ?_)))
   first | exact finV2 rfl rfl rfl (fun _ _ => pairV_eq (Pl.shift_r1 hk (by omega) c87)) | exact finV2 rfl rfl rfl (fun _ _ => pairV_eq (by rw [Pl.shift_r0 hk (by omega) c87, Pl.min_u hk hn']; rfl))
  ·
   rw [Pl.exact_eq hf, Pl.min_u hk hn', Pl.lshr_x hn' hk ha ha'] at c87
   refine SC.skip (SE.thenK hK11 (SC.seq (fun K14 hK14 => SC.region ?_)))
   refine SL.step (PS.move rfl tt rfl rfl) ?_
   refine SL.step (PS.assign rfl tt rfl rfl) ?_
   refine SL.step (PS.assign rfl tt rfl rfl) ?_
   refine SL.keep (l' := [(11, _, _), (10, _, _)]) ⟨rfl, rfl, trivial⟩ ?_
   refine SL.nil (SE.thenK hK14 (SC.ret ?_))
   first | exact finV2 rfl rfl rfl (fun _ _ => pairV_eq (Pl.shift_r1 hk (by omega) c87)) | exact finV2 rfl rfl rfl (fun _ _ => pairV_eq (by rw [Pl.shift_r0 hk (by omega) c87, Pl.min_u hk hn']; rfl))
theorem shift_a (n k : Nat) (f a : Int) (hn : 1 ≤ n) (hn' : n ≤ 64) (ha : 0 ≤ a) (ha' : a < 2 ^ n) (hk : k < n) (hf : f = 0 ∨ f = 4) :
    SpecV Try.prog 52 [.int .i64 13, .int .i64 n, .int .i64 f, .int .u64 a, .int .u64 k] (pairV (Pl.shift 13 n f a k)) := by
  have hw : IntKind.u64.wrap (n : Int) = n := wr_u64 (by omega)
  refine SpecV.enter Try.func52 rfl (n := 89) Try.ntmps52 (Nat.le_of_ble_eq_true rfl) (l := [(0, _, _), (1, _, _), (2, _, _), (3, _, _), (4, _, _)]) rfl ?_
  intro w
  refine SC.seq (fun K1 hK1 => SC.region ?_)
  refine SL.step (PS.assign rfl tt rfl rfl) ?_
  refine SL.step (PS.assign rfl tt rfl rfl) ?_
  refine SL.keep (l' := [(0, _, _), (1, _, _), (2, _, _), (3, _, _), (4, _, _)]) ⟨rfl, rfl, rfl, rfl, rfl, trivial⟩ ?_
  refine SL.nil (SE.thenK hK1 (SC.seq (fun K2 hK2 => SC.seq (fun K3 hK3 => SC.region ?_))))
  refine SL.step (PS.move rfl tt rfl rfl) ?_
  refine SL.step (PS.move rfl tt rfl rfl) ?_
  refine SL.step (PS.conv rfl tt Try.underlying3 Try.underlying27 rfl rfl) ?_
  refine SL.step (PS.geq rfl tt rfl tt rfl rfl) ?_
  refine SL.keep (l' := [(17, _, _), (0, _, _), (1, _, _), (2, _, _), (3, _, _), (4, _, _)]) ⟨rfl, rfl, rfl, rfl, rfl, rfl, trivial⟩ ?_
  refine SL.nil (SE.thenK hK3 ?_)
  refine SC.cond_f rfl (by rw [hw]; simp; omega) ?_
  refine SC.skip (SE.thenK hK2 (SC.seq (fun K4 hK4 => SC.region ?_)))
  refine SL.step (PS.assign rfl tt rfl rfl) ?_
  refine SL.keep (l' := [(0, _, _), (1, _, _), (2, _, _), (3, _, _), (4, _, _)]) ⟨rfl, rfl, rfl, rfl, rfl, trivial⟩ ?_
  refine SL.nil (SE.thenK hK4 (SC.seq (fun K5 hK5 => SC.region ?_)))
  refine SL.step (PS.assign rfl tt rfl rfl) ?_
  refine SL.keep (l' := [(0, _, _), (1, _, _), (2, _, _), (3, _, _), (4, _, _)]) ⟨rfl, rfl, rfl, rfl, rfl, trivial⟩ ?_
  refine SL.nil (SE.thenK hK5 (SC.seq (fun K6 hK6 => SC.seq (fun K7 hK7 => SC.region ?_))))
  refine SL.step (PS.move rfl tt rfl rfl) ?_
  refine SL.keep (l' := [(18, _, _), (1, _, _), (2, _, _), (3, _, _), (4, _, _)]) ⟨rfl, rfl, rfl, rfl, rfl, trivial⟩ ?_
  refine SL.nil (SE.thenK hK7 (SC.block (SC.seq (fun K8 hK8 => SC.region ?_))))
  refine SL.step (PS.eql rfl tt rfl tt rfl rfl) ?_
  refine SL.step (PS.assign rfl tt rfl rfl) ?_
  refine SL.keep (l' := [(38, _, _), (18, _, _), (1, _, _), (2, _, _), (3, _, _), (4, _, _)]) ⟨rfl, rfl, rfl, rfl, rfl, rfl, trivial⟩ ?_
  refine SL.nil (SE.thenK hK8 ?_)
  refine SC.cond_f rfl (rfl) ?_
  refine SC.seq (fun K9 hK9 => SC.region ?_)
  refine SL.step (PS.eql rfl tt rfl tt rfl rfl) ?_
  refine SL.step (PS.assign rfl tt rfl rfl) ?_
  refine SL.keep (l' := [(72, _, _), (1, _, _), (2, _, _), (3, _, _), (4, _, _)]) ⟨rfl, rfl, rfl, rfl, rfl, trivial⟩ ?_
  refine SL.nil (SE.thenK hK9 ?_)
  refine SC.cond_f rfl (rfl) ?_
  refine SC.seq (fun K10 hK10 => SC.region ?_)
  refine SL.step (PS.move rfl tt rfl rfl) ?_
  refine SL.step (PS.move rfl tt rfl rfl) ?_
  refine SL.callV (vs := [_, _]) Try.call49 ⟨⟨_, rfl, tt⟩, ⟨_, rfl, tt⟩, trivial⟩ (fun hg => signed_V _ _) rfl rfl ?_
  refine SL.step (PS.move rfl tt rfl rfl) ?_
  refine SL.step (PS.shr rfl tt rfl tt (by first | omega | (simp only [IntKind.wrap_i64, IntKind.wrap_u64]; omega)) rfl rfl) ?_
  refine SL.step (PS.conv rfl tt Try.underlying2 Try.underlying27 rfl rfl) ?_
  refine SL.step (PS.assign rfl tt rfl rfl) ?_
  refine SL.keep (l' := [(12, _, _), (1, _, _), (2, _, _), (3, _, _), (4, _, _)]) ⟨rfl, rfl, rfl, rfl, rfl, trivial⟩ ?_
  refine SL.nil (SE.thenK hK10 (SC.region ?_))
  refine SL.step (PS.move rfl tt rfl rfl) ?_
  refine SL.step (PS.and rfl tt rfl tt rfl rfl) ?_
  refine SL.step (PS.neq rfl tt rfl tt rfl rfl) ?_
  refine SL.step (PS.move rfl tt rfl rfl) ?_
  refine SL.step (PS.move rfl tt rfl rfl) ?_
  refine SL.step (PS.move rfl tt rfl rfl) ?_
  refine SL.step (PS.shl rfl (fun h => h) rfl (fun h => h) (by first | omega | (simp only [IntKind.wrap_i64, IntKind.wrap_u64]; omega)) rfl rfl) ?_
  refine SL.step (PS.move rfl tt rfl rfl) ?_
  refine SL.callV (vs := [_]) Try.call37 ⟨⟨_, rfl, (fun h => h)⟩, trivial⟩ (fun hg => mask_V _) rfl rfl ?_
  refine SL.step (PS.and rfl (fun h => h) rfl (fun h => h) rfl rfl) ?_
  refine SL.step (PS.move rfl tt rfl rfl) ?_
  refine SL.step (PS.neq rfl (fun h => h) rfl (fun h => h) rfl rfl) ?_
  refine SL.step (PS.pick_and rfl tt rfl (fun h h2 => pk_and h h2) rfl rfl) ?_
  refine SL.step (PS.assign rfl tt rfl rfl) ?_
  refine SL.keep (l' := [(13, _, _), (12, _, _)]) ⟨rfl, rfl, trivial⟩ ?_
  refine SL.nil (SE.block_normal (SE.thenK hK6 (SC.seq (fun K11 hK11 => SC.seq (fun K12 hK12 => SC.region ?_)))))
  refine SL.step (PS.move rfl tt rfl rfl) ?_
  refine SL.keep (l' := [(87, _, _), (12, _, _)]) ⟨rfl, rfl, trivial⟩ ?_
  refine SL.nil (SE.thenK hK12 ?_)
  refine SC.cond rfl (fun c87 => ?_) (fun c87 => ?_)
  ·
   rw [Pl.exact_eq hf, Pl.min_u hk hn', Pl.min_i hk hn', Pl.and_mask_wrap hn hn', Pl.signed_in hn hn', Pl.ashr_x hn' hk ha ha'] at c87
   refine SC.seq (fun K13 hK13 => SC.region ?_)
   refine SL.step (PS.assign rfl tt rfl rfl) ?_
   refine SL.step (PS.assign rfl tt rfl rfl) ?_
   refine SL.keep (l' := [(11, _, _), (10, _, _)]) ⟨rfl, rfl, trivial⟩ ?_
   refine SL.nil (SE.thenK hK13 (SC.ret (SE.then_ret ?_)))
   first | exact finV2 rfl rfl rfl (fun _ _ => pairV_eq (Pl.shift_r1 hk (by omega) c87)) | exact finV2 rfl rfl rfl (fun _ _ => pairV_eq (by rw [Pl.shift_r0 hk (by omega) c87, Pl.min_i hk hn', Pl.signed_in hn hn', IntKind.wrap_u64]; rfl))
  ·
   rw [Pl.exact_eq hf, Pl.min_u hk hn', Pl.min_i hk hn', Pl.and_mask_wrap hn hn', Pl.signed_in hn hn', Pl.ashr_x hn' hk ha ha'] at c87
   refine SC.skip (SE.thenK hK11 (SC.seq (fun K14 hK14 => SC.region ?_)))
   refine SL.step (PS.move rfl tt rfl rfl) ?_
   refine SL.step (PS.assign rfl tt rfl rfl) ?_
   refine SL.step (PS.assign rfl tt rfl rfl) ?_
   refine SL.keep (l' := [(11, _, _), (10, _, _)]) ⟨rfl, rfl, trivial⟩ ?_
   refine SL.nil (SE.thenK hK14 (SC.ret ?_))
   first | exact finV2 rfl rfl rfl (fun _ _ => pairV_eq (Pl.shift_r1 hk (by omega) c87)) | exact finV2 rfl rfl rfl (fun _ _ => pairV_eq (by rw [Pl.shift_r0 hk (by omega) c87, Pl.min_i hk hn', Pl.signed_in hn hn', IntKind.wrap_u64]; rfl))
theorem shift_V (op : Int) (n : Nat) (f a b : Int) (ho : op = 11 ∨ op = 12 ∨ op = 13) (hn : 1 ≤ n) (hn' : n ≤ 64) (ha : 0 ≤ a) (ha' : a < 2 ^ n) (hb : 0 ≤ b) (hf : (op = 11 → f = 0 ∨ f = 1 ∨ f = 2 ∨ f = 3) ∧ (op ≠ 11 → f = 0 ∨ f = 4)) :
    SpecV Try.prog 52 [.int .i64 op, .int .i64 n, .int .i64 f, .int .u64 a, .int .u64 b] (pairV (Pl.shift op n f a b)) := by
  by_cases hk : (n : Int) ≤ b
  · exact shift_far op n f a b hn' hk
  · obtain ⟨k, rfl⟩ := Int.eq_ofNat_of_zero_le hb
    rcases ho with rfl | rfl | rfl
    · exact shift_l n k f a hn hn' ha ha' (by omega) (hf.1 rfl)
    · exact shift_r n k f a hn hn' ha ha' (by omega) (hf.2 (by omega))
    · exact shift_a n k f a hn hn' ha ha' (by omega) (hf.2 (by omega))
end Go.Proofs.Ytffimfmicapaaaa
