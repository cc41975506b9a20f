/- Contract of Apply. -/
import Derived.Test.YtffimfmicapaaaaShift
import Derived.Test.YtffimfmicapaaaaTy
namespace Go.Proofs.Ytffimfmicapaaaa
open Go.RowKit
set_option linter.unusedVariables false
theorem bif10 (b : Bool) : (bif b then (1 : Int) else 0) % 2 = bif b then 1 else 0 := by cases b <;> rfl

theorem apply_ring (op : Int) (n : Nat) (f a b : Int) (ho : op = 1 ∨ op = 2 ∨ op = 3) (hn : 1 ≤ n) (hn' : n ≤ 64) (ha : 0 ≤ a) (ha' : a < 18446744073709551616) (hb : 0 ≤ b) (hb' : b < 18446744073709551616) (hg : Pl.badA op n f = false) (hf : f = 0 ∨ f = 1 ∨ f = 2 ∨ f = 3) :
    SpecV Try.prog 40 [.int .i64 op, .int .i64 n, .int .i64 f, .int .u64 a, .int .u64 b] (pairV (Pl.apply op n f a b)) := by
  have ea := Pl.and_mask hn hn' ha ha'
  have eb := Pl.and_mask hn hn' hb hb'
  have ma := Pl.mod_range n a
  have mb := Pl.mod_range n b
  have hp := Pl.pow_le_int hn'
  rw [Pl.apply_ok hg, Pl.core_ring (by omega)]
  have rr := Pl.ring_range op n f (a % 2 ^ n) (b % 2 ^ n)
  refine SpecV.enter Try.func40 rfl (n := 130) Try.ntmps40 (Nat.le_of_ble_eq_true rfl) (l := [(0, _, _), (1, _, _), (2, _, _), (3, _, _), (4, _, _)]) rfl ?_
  intro w
  refine SC.seq (fun K1 hK1 => SC.region ?_)
  refine SL.step (PS.assign rfl tt rfl rfl) ?_
  refine SL.step (PS.assign rfl tt rfl rfl) ?_
  refine SL.keep (l' := [(0, _, _), (1, _, _), (2, _, _), (3, _, _), (4, _, _)]) ⟨rfl, rfl, rfl, rfl, rfl, trivial⟩ ?_
  refine SL.nil (SE.thenK hK1 (SC.seq (fun K2 hK2 => SC.region ?_)))
  refine SL.step (PS.move rfl tt rfl rfl) ?_
  refine SL.callV (vs := [_]) Try.call37 ⟨⟨_, rfl, tt⟩, trivial⟩ (fun hg => mask_V _) rfl rfl ?_
  refine SL.step (PS.assign rfl tt rfl rfl) ?_
  refine SL.keep (l' := [(12, _, _), (0, _, _), (1, _, _), (2, _, _), (3, _, _), (4, _, _)]) ⟨rfl, rfl, rfl, rfl, rfl, rfl, trivial⟩ ?_
  refine SL.nil (SE.thenK hK2 (SC.seq (fun K3 hK3 => SC.seq (fun K4 hK4 => SC.region ?_))))
  refine SL.step (PS.move rfl tt rfl rfl) ?_
  refine SL.step (PS.eql rfl tt rfl tt rfl rfl) ?_
  refine SL.step (PS.move rfl tt rfl rfl) ?_
  refine SL.step (PS.move rfl tt rfl rfl) ?_
  refine SL.step (PS.lss rfl (fun h => h) rfl tt rfl rfl) ?_
  refine SL.step (PS.pick_or rfl tt rfl (fun h h2 => pk_or h h2) rfl rfl) ?_
  refine SL.step (PS.move rfl tt rfl rfl) ?_
  refine SL.step (PS.move rfl tt rfl rfl) ?_
  refine SL.step (PS.gtr rfl (fun h => h) rfl tt rfl rfl) ?_
  refine SL.step (PS.pick_or rfl tt rfl (fun h h2 => pk_or h h2) rfl rfl) ?_
  refine SL.step (PS.move rfl tt rfl rfl) ?_
  refine SL.step (PS.move rfl tt rfl rfl) ?_
  refine SL.step (PS.move rfl tt rfl rfl) ?_
  refine SL.callV (vs := [_]) Try.call35 ⟨⟨_, rfl, (fun h => h)⟩, trivial⟩ (fun hg => flags_V _) rfl rfl ?_
  refine SL.step (PS.andNot rfl (fun h => h) rfl (fun h => h) rfl rfl) ?_
  refine SL.step (PS.neq rfl (fun h => h) rfl tt rfl rfl) ?_
  refine SL.step (PS.pick_or rfl tt rfl (fun h h2 => pk_or h h2) rfl rfl) ?_
  refine SL.keep (l' := [(35, _, _), (12, _, _), (0, _, _), (1, _, _), (2, _, _), (3, _, _), (4, _, _)]) ⟨rfl, rfl, rfl, rfl, rfl, rfl, rfl, trivial⟩ ?_
  refine SL.nil (SE.thenK hK4 ?_)
  refine SC.cond_f rfl (hg) ?_
  refine SC.skip (SE.thenK hK3 (SC.seq (fun K5 hK5 => SC.region ?_)))
  refine SL.step (PS.move rfl tt rfl rfl) ?_
  refine SL.step (PS.move rfl tt rfl rfl) ?_
  refine SL.step (PS.and rfl tt rfl tt rfl rfl) ?_
  refine SL.step (PS.move rfl tt rfl rfl) ?_
  refine SL.step (PS.move rfl tt rfl rfl) ?_
  refine SL.step (PS.and rfl tt rfl tt rfl rfl) ?_
  refine SL.step (PS.assign rfl tt rfl rfl) ?_
  refine SL.step (PS.assign rfl tt rfl rfl) ?_
  refine SL.keep (l' := [(4, _, _), (3, _, _), (12, _, _), (0, _, _), (1, _, _), (2, _, _)]) ⟨rfl, rfl, rfl, rfl, rfl, rfl, trivial⟩ ?_
  refine SL.nil (SE.thenK hK5 (SC.seq (fun K6 hK6 => SC.region ?_)))
  refine SL.step (PS.assign rfl tt rfl rfl) ?_
  refine SL.nil (SE.thenK hK6 (SC.seq (fun K7 hK7 => SC.region ?_)))
  refine SL.step (PS.assign rfl tt rfl rfl) ?_
  refine SL.nil (SE.thenK hK7 (SC.seq (fun K8 hK8 => SC.block (SC.seq (fun K9 hK9 => SC.region ?_)))))
  refine SL.step (PS.move rfl tt rfl rfl) ?_
  refine SL.step (PS.leq rfl tt rfl tt rfl rfl) ?_
  refine SL.step (PS.assign rfl tt rfl rfl) ?_
  refine SL.keep (l' := [(71, _, _), (14, _, _), (13, _, _), (4, _, _), (3, _, _), (12, _, _), (0, _, _), (1, _, _), (2, _, _)]) ⟨rfl, rfl, rfl, rfl, rfl, rfl, rfl, rfl, rfl, trivial⟩ ?_
  refine SL.nil (SE.thenK hK9 ?_)
  refine SC.cond_t rfl (by simp; omega) ?_
  refine SC.region ?_
  refine SL.step (PS.move rfl tt rfl rfl) ?_
  refine SL.step (PS.move rfl tt rfl rfl) ?_
  refine SL.step (PS.move rfl tt rfl rfl) ?_
  refine SL.step (PS.move rfl tt rfl rfl) ?_
  refine SL.step (PS.move rfl tt rfl rfl) ?_
  refine SL.callV (vs := [_, _, _, _, _]) Try.call50 ⟨⟨_, rfl, tt⟩, ⟨_, rfl, tt⟩, ⟨_, rfl, tt⟩, ⟨_, rfl, tt⟩, ⟨_, rfl, tt⟩, trivial⟩ (fun hg => ring_V _ n _ _ _ ho hn hn' (by rw [ea]; exact ma.1) (by rw [ea]; exact ma.2) (by rw [eb]; exact mb.1) (by rw [eb]; exact mb.2) hf) rfl rfl ?_
  refine SL.step (PS.move rfl tt rfl rfl) ?_
  refine SL.step (PS.extract rfl tt rfl rfl rfl) ?_
  refine SL.step (PS.extract rfl tt rfl rfl rfl) ?_
  refine SL.step (PS.assign rfl tt rfl rfl) ?_
  refine SL.step (PS.assign rfl tt rfl rfl) ?_
  refine SL.keep (l' := [(14, _, _), (13, _, _), (12, _, _)]) ⟨rfl, rfl, rfl, trivial⟩ ?_
  refine SL.nil (SE.block_normal (SE.thenK hK8 (SC.seq (fun K10 hK10 => SC.seq (fun K11 hK11 => SC.region ?_)))))
  refine SL.step (PS.move rfl tt rfl rfl) ?_
  refine SL.step (PS.neq rfl tt rfl tt rfl rfl) ?_
  refine SL.keep (l' := [(125, _, _), (14, _, _), (13, _, _), (12, _, _)]) ⟨rfl, rfl, rfl, rfl, trivial⟩ ?_
  refine SL.nil (SE.thenK hK11 ?_)
  refine SC.cond rfl (fun c125 => ?_) (fun c125 => ?_)
  ·
   rw [ea, eb] at c125
   refine SC.seq (fun K12 hK12 => SC.region ?_)
   refine SL.step (PS.move rfl tt rfl rfl) ?_
   refine SL.step (PS.assign rfl tt rfl rfl) ?_
   refine SL.step (PS.assign rfl tt rfl rfl) ?_
   refine SL.keep (l' := [(11, _, _), (10, _, _)]) ⟨rfl, rfl, trivial⟩ ?_
   refine SL.nil (SE.thenK hK12 (SC.ret (SE.then_ret ?_)))
   first | exact finV2 rfl rfl rfl (fun _ _ => pairV_eq (by rw [ea, eb]; exact Pl.cutR_t c125)) | exact finV2 rfl rfl rfl (fun _ _ => pairV_eq (by rw [Pl.cutR_f c125, ea, eb, Pl.and_mask hn hn' rr.1 rr.2]))
  ·
   rw [ea, eb] at c125
   refine SC.skip (SE.thenK hK10 (SC.seq (fun K13 hK13 => SC.region ?_)))
   refine SL.step (PS.move rfl tt rfl rfl) ?_
   refine SL.step (PS.move rfl tt rfl rfl) ?_
   refine SL.step (PS.and rfl tt rfl tt rfl rfl) ?_
   refine SL.step (PS.assign rfl tt rfl rfl) ?_
   refine SL.step (PS.assign rfl tt rfl rfl) ?_
   refine SL.keep (l' := [(11, _, _), (10, _, _)]) ⟨rfl, rfl, trivial⟩ ?_
   refine SL.nil (SE.thenK hK13 (SC.ret ?_))
   first | exact finV2 rfl rfl rfl (fun _ _ => pairV_eq (by rw [ea, eb]; exact Pl.cutR_t c125)) | exact finV2 rfl rfl rfl (fun _ _ => pairV_eq (by rw [Pl.cutR_f c125, ea, eb, Pl.and_mask hn hn' rr.1 rr.2]))
theorem apply_div (op : Int) (n : Nat) (f a b : Int) (ho : op = 4 ∨ op = 5 ∨ op = 6 ∨ op = 7) (hn : 1 ≤ n) (hn' : n ≤ 64) (ha : 0 ≤ a) (ha' : a < 18446744073709551616) (hb : 0 ≤ b) (hb' : b < 18446744073709551616) (hg : Pl.badA op n f = false) (hf : f = 0 ∨ f = 4 ∧ op ≤ 5) :
    SpecV Try.prog 40 [.int .i64 op, .int .i64 n, .int .i64 f, .int .u64 a, .int .u64 b] (pairV (Pl.apply op n f a b)) := by
  have ea := Pl.and_mask hn hn' ha ha'
  have eb := Pl.and_mask hn hn' hb hb'
  have ma := Pl.mod_range n a
  have mb := Pl.mod_range n b
  have hp := Pl.pow_le_int hn'
  rw [Pl.apply_ok hg, Pl.core_div (by omega) (by omega)]
  have rr := Pl.div_range op n f (a % 2 ^ n) (b % 2 ^ n)
  refine SpecV.enter Try.func40 rfl (n := 130) Try.ntmps40 (Nat.le_of_ble_eq_true rfl) (l := [(0, _, _), (1, _, _), (2, _, _), (3, _, _), (4, _, _)]) rfl ?_
  intro w
  refine SC.seq (fun K1 hK1 => SC.region ?_)
  refine SL.step (PS.assign rfl tt rfl rfl) ?_
  refine SL.step (PS.assign rfl tt rfl rfl) ?_
  refine SL.keep (l' := [(0, _, _), (1, _, _), (2, _, _), (3, _, _), (4, _, _)]) ⟨rfl, rfl, rfl, rfl, rfl, trivial⟩ ?_
  refine SL.nil (SE.thenK hK1 (SC.seq (fun K2 hK2 => SC.region ?_)))
  refine SL.step (PS.move rfl tt rfl rfl) ?_
  refine SL.callV (vs := [_]) Try.call37 ⟨⟨_, rfl, tt⟩, trivial⟩ (fun hg => mask_V _) rfl rfl ?_
  refine SL.step (PS.assign rfl tt rfl rfl) ?_
  refine SL.keep (l' := [(12, _, _), (0, _, _), (1, _, _), (2, _, _), (3, _, _), (4, _, _)]) ⟨rfl, rfl, rfl, rfl, rfl, rfl, trivial⟩ ?_
  refine SL.nil (SE.thenK hK2 (SC.seq (fun K3 hK3 => SC.seq (fun K4 hK4 => SC.region ?_))))
  refine SL.step (PS.move rfl tt rfl rfl) ?_
  refine SL.step (PS.eql rfl tt rfl tt rfl rfl) ?_
  refine SL.step (PS.move rfl tt rfl rfl) ?_
  refine SL.step (PS.move rfl tt rfl rfl) ?_
  refine SL.step (PS.lss rfl (fun h => h) rfl tt rfl rfl) ?_
  refine SL.step (PS.pick_or rfl tt rfl (fun h h2 => pk_or h h2) rfl rfl) ?_
  refine SL.step (PS.move rfl tt rfl rfl) ?_
  refine SL.step (PS.move rfl tt rfl rfl) ?_
  refine SL.step (PS.gtr rfl (fun h => h) rfl tt rfl rfl) ?_
  refine SL.step (PS.pick_or rfl tt rfl (fun h h2 => pk_or h h2) rfl rfl) ?_
  refine SL.step (PS.move rfl tt rfl rfl) ?_
  refine SL.step (PS.move rfl tt rfl rfl) ?_
  refine SL.step (PS.move rfl tt rfl rfl) ?_
  refine SL.callV (vs := [_]) Try.call35 ⟨⟨_, rfl, (fun h => h)⟩, trivial⟩ (fun hg => flags_V _) rfl rfl ?_
  refine SL.step (PS.andNot rfl (fun h => h) rfl (fun h => h) rfl rfl) ?_
  refine SL.step (PS.neq rfl (fun h => h) rfl tt rfl rfl) ?_
  refine SL.step (PS.pick_or rfl tt rfl (fun h h2 => pk_or h h2) rfl rfl) ?_
  refine SL.keep (l' := [(35, _, _), (12, _, _), (0, _, _), (1, _, _), (2, _, _), (3, _, _), (4, _, _)]) ⟨rfl, rfl, rfl, rfl, rfl, rfl, rfl, trivial⟩ ?_
  refine SL.nil (SE.thenK hK4 ?_)
  refine SC.cond_f rfl (hg) ?_
  refine SC.skip (SE.thenK hK3 (SC.seq (fun K5 hK5 => SC.region ?_)))
  refine SL.step (PS.move rfl tt rfl rfl) ?_
  refine SL.step (PS.move rfl tt rfl rfl) ?_
  refine SL.step (PS.and rfl tt rfl tt rfl rfl) ?_
  refine SL.step (PS.move rfl tt rfl rfl) ?_
  refine SL.step (PS.move rfl tt rfl rfl) ?_
  refine SL.step (PS.and rfl tt rfl tt rfl rfl) ?_
  refine SL.step (PS.assign rfl tt rfl rfl) ?_
  refine SL.step (PS.assign rfl tt rfl rfl) ?_
  refine SL.keep (l' := [(4, _, _), (3, _, _), (12, _, _), (0, _, _), (1, _, _), (2, _, _)]) ⟨rfl, rfl, rfl, rfl, rfl, rfl, trivial⟩ ?_
  refine SL.nil (SE.thenK hK5 (SC.seq (fun K6 hK6 => SC.region ?_)))
  refine SL.step (PS.assign rfl tt rfl rfl) ?_
  refine SL.nil (SE.thenK hK6 (SC.seq (fun K7 hK7 => SC.region ?_)))
  refine SL.step (PS.assign rfl tt rfl rfl) ?_
  refine SL.nil (SE.thenK hK7 (SC.seq (fun K8 hK8 => SC.block (SC.seq (fun K9 hK9 => SC.region ?_)))))
  refine SL.step (PS.move rfl tt rfl rfl) ?_
  refine SL.step (PS.leq rfl tt rfl tt rfl rfl) ?_
  refine SL.step (PS.assign rfl tt rfl rfl) ?_
  refine SL.keep (l' := [(71, _, _), (14, _, _), (13, _, _), (4, _, _), (3, _, _), (12, _, _), (0, _, _), (1, _, _), (2, _, _)]) ⟨rfl, rfl, rfl, rfl, rfl, rfl, rfl, rfl, rfl, trivial⟩ ?_
  refine SL.nil (SE.thenK hK9 ?_)
  refine SC.cond_f rfl (by simp; omega) ?_
  refine SC.seq (fun K10 hK10 => SC.region ?_)
  refine SL.step (PS.move rfl tt rfl rfl) ?_
  refine SL.step (PS.leq rfl tt rfl tt rfl rfl) ?_
  refine SL.step (PS.assign rfl tt rfl rfl) ?_
  refine SL.keep (l' := [(83, _, _), (14, _, _), (13, _, _), (4, _, _), (3, _, _), (12, _, _), (0, _, _), (1, _, _), (2, _, _)]) ⟨rfl, rfl, rfl, rfl, rfl, rfl, rfl, rfl, rfl, trivial⟩ ?_
  refine SL.nil (SE.thenK hK10 ?_)
  refine SC.cond_t rfl (by simp; omega) ?_
  refine SC.region ?_
  refine SL.step (PS.move rfl tt rfl rfl) ?_
  refine SL.step (PS.move rfl tt rfl rfl) ?_
  refine SL.step (PS.move rfl tt rfl rfl) ?_
  refine SL.step (PS.move rfl tt rfl rfl) ?_
  refine SL.step (PS.move rfl tt rfl rfl) ?_
  refine SL.callV (vs := [_, _, _, _, _]) Try.call51 ⟨⟨_, rfl, tt⟩, ⟨_, rfl, tt⟩, ⟨_, rfl, tt⟩, ⟨_, rfl, tt⟩, ⟨_, rfl, tt⟩, trivial⟩ (fun hg => divide_V _ n _ _ _ ho hn hn' (by rw [ea]; exact ma.1) (by rw [ea]; exact ma.2) (by rw [eb]; exact mb.1) (by rw [eb]; exact mb.2) hf) rfl rfl ?_
  refine SL.step (PS.move rfl tt rfl rfl) ?_
  refine SL.step (PS.extract rfl tt rfl rfl rfl) ?_
  refine SL.step (PS.extract rfl tt rfl rfl rfl) ?_
  refine SL.step (PS.assign rfl tt rfl rfl) ?_
  refine SL.step (PS.assign rfl tt rfl rfl) ?_
  refine SL.keep (l' := [(14, _, _), (13, _, _), (12, _, _)]) ⟨rfl, rfl, rfl, trivial⟩ ?_
  refine SL.nil (SE.block_normal (SE.thenK hK8 (SC.seq (fun K11 hK11 => SC.seq (fun K12 hK12 => SC.region ?_)))))
  refine SL.step (PS.move rfl tt rfl rfl) ?_
  refine SL.step (PS.neq rfl tt rfl tt rfl rfl) ?_
  refine SL.keep (l' := [(125, _, _), (14, _, _), (13, _, _), (12, _, _)]) ⟨rfl, rfl, rfl, rfl, trivial⟩ ?_
  refine SL.nil (SE.thenK hK12 ?_)
  refine SC.cond rfl (fun c125 => ?_) (fun c125 => ?_)
  ·
   rw [ea, eb] at c125
   refine SC.seq (fun K13 hK13 => SC.region ?_)
   refine SL.step (PS.move rfl tt rfl rfl) ?_
   refine SL.step (PS.assign rfl tt rfl rfl) ?_
   refine SL.step (PS.assign rfl tt rfl rfl) ?_
   refine SL.keep (l' := [(11, _, _), (10, _, _)]) ⟨rfl, rfl, trivial⟩ ?_
   refine SL.nil (SE.thenK hK13 (SC.ret (SE.then_ret ?_)))
   first | exact finV2 rfl rfl rfl (fun _ _ => pairV_eq (by rw [ea, eb]; exact Pl.cutR_t c125)) | exact finV2 rfl rfl rfl (fun _ _ => pairV_eq (by rw [Pl.cutR_f c125, ea, eb, Pl.and_mask hn hn' rr.1 rr.2]))
  ·
   rw [ea, eb] at c125
   refine SC.skip (SE.thenK hK11 (SC.seq (fun K14 hK14 => SC.region ?_)))
   refine SL.step (PS.move rfl tt rfl rfl) ?_
   refine SL.step (PS.move rfl tt rfl rfl) ?_
   refine SL.step (PS.and rfl tt rfl tt rfl rfl) ?_
   refine SL.step (PS.assign rfl tt rfl rfl) ?_
   refine SL.step (PS.assign rfl tt rfl rfl) ?_
   refine SL.keep (l' := [(11, _, _), (10, _, _)]) ⟨rfl, rfl, trivial⟩ ?_
   refine SL.nil (SE.thenK hK14 (SC.ret ?_))
   first | exact finV2 rfl rfl rfl (fun _ _ => pairV_eq (by rw [ea, eb]; exact Pl.cutR_t c125)) | exact finV2 rfl rfl rfl (fun _ _ => pairV_eq (by rw [Pl.cutR_f c125, ea, eb, Pl.and_mask hn hn' rr.1 rr.2]))
theorem apply_shift (op : Int) (n : Nat) (f a b : Int) (ho : op = 11 ∨ op = 12 ∨ op = 13) (hn : 1 ≤ n) (hn' : n ≤ 64) (ha : 0 ≤ a) (ha' : a < 18446744073709551616) (hb : 0 ≤ b) (hb' : b < 18446744073709551616) (hg : Pl.badA op n f = false) (hf : (op = 11 → f = 0 ∨ f = 1 ∨ f = 2 ∨ f = 3) ∧ (op ≠ 11 → f = 0 ∨ f = 4)) :
    SpecV Try.prog 40 [.int .i64 op, .int .i64 n, .int .i64 f, .int .u64 a, .int .u64 b] (pairV (Pl.apply op n f a b)) := by
  have ea := Pl.and_mask hn hn' ha ha'
  have eb := Pl.and_mask hn hn' hb hb'
  have ma := Pl.mod_range n a
  have mb := Pl.mod_range n b
  have hp := Pl.pow_le_int hn'
  rw [Pl.apply_ok hg, Pl.core_shift (by omega) (by omega)]
  have rr := Pl.shift_range op f (b % 2 ^ n) hn' ma.1 (by omega)
  refine SpecV.enter Try.func40 rfl (n := 130) Try.ntmps40 (Nat.le_of_ble_eq_true rfl) (l := [(0, _, _), (1, _, _), (2, _, _), (3, _, _), (4, _, _)]) rfl ?_
  intro w
  refine SC.seq (fun K1 hK1 => SC.region ?_)
  refine SL.step (PS.assign rfl tt rfl rfl) ?_
  refine SL.step (PS.assign rfl tt rfl rfl) ?_
  refine SL.keep (l' := [(0, _, _), (1, _, _), (2, _, _), (3, _, _), (4, _, _)]) ⟨rfl, rfl, rfl, rfl, rfl, trivial⟩ ?_
  refine SL.nil (SE.thenK hK1 (SC.seq (fun K2 hK2 => SC.region ?_)))
  refine SL.step (PS.move rfl tt rfl rfl) ?_
  refine SL.callV (vs := [_]) Try.call37 ⟨⟨_, rfl, tt⟩, trivial⟩ (fun hg => mask_V _) rfl rfl ?_
  refine SL.step (PS.assign rfl tt rfl rfl) ?_
  refine SL.keep (l' := [(12, _, _), (0, _, _), (1, _, _), (2, _, _), (3, _, _), (4, _, _)]) ⟨rfl, rfl, rfl, rfl, rfl, rfl, trivial⟩ ?_
  refine SL.nil (SE.thenK hK2 (SC.seq (fun K3 hK3 => SC.seq (fun K4 hK4 => SC.region ?_))))
  refine SL.step (PS.move rfl tt rfl rfl) ?_
  refine SL.step (PS.eql rfl tt rfl tt rfl rfl) ?_
  refine SL.step (PS.move rfl tt rfl rfl) ?_
  refine SL.step (PS.move rfl tt rfl rfl) ?_
  refine SL.step (PS.lss rfl (fun h => h) rfl tt rfl rfl) ?_
  refine SL.step (PS.pick_or rfl tt rfl (fun h h2 => pk_or h h2) rfl rfl) ?_
  refine SL.step (PS.move rfl tt rfl rfl) ?_
  refine SL.step (PS.move rfl tt rfl rfl) ?_
  refine SL.step (PS.gtr rfl (fun h => h) rfl tt rfl rfl) ?_
  refine SL.step (PS.pick_or rfl tt rfl (fun h h2 => pk_or h h2) rfl rfl) ?_
  refine SL.step (PS.move rfl tt rfl rfl) ?_
  refine SL.step (PS.move rfl tt rfl rfl) ?_
  refine SL.step (PS.move rfl tt rfl rfl) ?_
  refine SL.callV (vs := [_]) Try.call35 ⟨⟨_, rfl, (fun h => h)⟩, trivial⟩ (fun hg => flags_V _) rfl rfl ?_
  refine SL.step (PS.andNot rfl (fun h => h) rfl (fun h => h) rfl rfl) ?_
  refine SL.step (PS.neq rfl (fun h => h) rfl tt rfl rfl) ?_
  refine SL.step (PS.pick_or rfl tt rfl (fun h h2 => pk_or h h2) rfl rfl) ?_
  refine SL.keep (l' := [(35, _, _), (12, _, _), (0, _, _), (1, _, _), (2, _, _), (3, _, _), (4, _, _)]) ⟨rfl, rfl, rfl, rfl, rfl, rfl, rfl, trivial⟩ ?_
  refine SL.nil (SE.thenK hK4 ?_)
  refine SC.cond_f rfl (hg) ?_
  refine SC.skip (SE.thenK hK3 (SC.seq (fun K5 hK5 => SC.region ?_)))
  refine SL.step (PS.move rfl tt rfl rfl) ?_
  refine SL.step (PS.move rfl tt rfl rfl) ?_
  refine SL.step (PS.and rfl tt rfl tt rfl rfl) ?_
  refine SL.step (PS.move rfl tt rfl rfl) ?_
  refine SL.step (PS.move rfl tt rfl rfl) ?_
  refine SL.step (PS.and rfl tt rfl tt rfl rfl) ?_
  refine SL.step (PS.assign rfl tt rfl rfl) ?_
  refine SL.step (PS.assign rfl tt rfl rfl) ?_
  refine SL.keep (l' := [(4, _, _), (3, _, _), (12, _, _), (0, _, _), (1, _, _), (2, _, _)]) ⟨rfl, rfl, rfl, rfl, rfl, rfl, trivial⟩ ?_
  refine SL.nil (SE.thenK hK5 (SC.seq (fun K6 hK6 => SC.region ?_)))
  refine SL.step (PS.assign rfl tt rfl rfl) ?_
  refine SL.nil (SE.thenK hK6 (SC.seq (fun K7 hK7 => SC.region ?_)))
  refine SL.step (PS.assign rfl tt rfl rfl) ?_
  refine SL.nil (SE.thenK hK7 (SC.seq (fun K8 hK8 => SC.block (SC.seq (fun K9 hK9 => SC.region ?_)))))
  refine SL.step (PS.move rfl tt rfl rfl) ?_
  refine SL.step (PS.leq rfl tt rfl tt rfl rfl) ?_
  refine SL.step (PS.assign rfl tt rfl rfl) ?_
  refine SL.keep (l' := [(71, _, _), (14, _, _), (13, _, _), (4, _, _), (3, _, _), (12, _, _), (0, _, _), (1, _, _), (2, _, _)]) ⟨rfl, rfl, rfl, rfl, rfl, rfl, rfl, rfl, rfl, trivial⟩ ?_
  refine SL.nil (SE.thenK hK9 ?_)
  refine SC.cond_f rfl (by simp; omega) ?_
  refine SC.seq (fun K10 hK10 => SC.region ?_)
  refine SL.step (PS.move rfl tt rfl rfl) ?_
  refine SL.step (PS.leq rfl tt rfl tt rfl rfl) ?_
  refine SL.step (PS.assign rfl tt rfl rfl) ?_
  refine SL.keep (l' := [(83, _, _), (14, _, _), (13, _, _), (4, _, _), (3, _, _), (12, _, _), (0, _, _), (1, _, _), (2, _, _)]) ⟨rfl, rfl, rfl, rfl, rfl, rfl, rfl, rfl, rfl, trivial⟩ ?_
  refine SL.nil (SE.thenK hK10 ?_)
  refine SC.cond_f rfl (by simp; omega) ?_
  refine SC.seq (fun K11 hK11 => SC.region ?_)
  refine SL.step (PS.move rfl tt rfl rfl) ?_
  refine SL.step (PS.leq rfl tt rfl tt rfl rfl) ?_
  refine SL.step (PS.assign rfl tt rfl rfl) ?_
  refine SL.keep (l' := [(95, _, _), (14, _, _), (13, _, _), (4, _, _), (3, _, _), (12, _, _), (0, _, _), (1, _, _), (2, _, _)]) ⟨rfl, rfl, rfl, rfl, rfl, rfl, rfl, rfl, rfl, trivial⟩ ?_
  refine SL.nil (SE.thenK hK11 ?_)
  refine SC.cond_f rfl (by simp; omega) ?_
  refine SC.seq (fun K12 hK12 => SC.region ?_)
  refine SL.step (PS.move rfl tt rfl rfl) ?_
  refine SL.step (PS.leq rfl tt rfl tt rfl rfl) ?_
  refine SL.step (PS.assign rfl tt rfl rfl) ?_
  refine SL.keep (l' := [(112, _, _), (14, _, _), (13, _, _), (4, _, _), (3, _, _), (12, _, _), (0, _, _), (1, _, _), (2, _, _)]) ⟨rfl, rfl, rfl, rfl, rfl, rfl, rfl, rfl, rfl, trivial⟩ ?_
  refine SL.nil (SE.thenK hK12 ?_)
  refine SC.cond_t rfl (by simp; omega) ?_
  refine SC.region ?_
  refine SL.step (PS.move rfl tt rfl rfl) ?_
  refine SL.step (PS.move rfl tt rfl rfl) ?_
  refine SL.step (PS.move rfl tt rfl rfl) ?_
  refine SL.step (PS.move rfl tt rfl rfl) ?_
  refine SL.step (PS.move rfl tt rfl rfl) ?_
  refine SL.callV (vs := [_, _, _, _, _]) Try.call52 ⟨⟨_, rfl, tt⟩, ⟨_, rfl, tt⟩, ⟨_, rfl, tt⟩, ⟨_, rfl, tt⟩, ⟨_, rfl, tt⟩, trivial⟩ (fun hg => shift_V _ n _ _ _ ho hn hn' (by rw [ea]; exact ma.1) (by rw [ea]; exact ma.2) (by rw [eb]; exact mb.1) hf) rfl rfl ?_
  refine SL.step (PS.move rfl tt rfl rfl) ?_
  refine SL.step (PS.extract rfl tt rfl rfl rfl) ?_
  refine SL.step (PS.extract rfl tt rfl rfl rfl) ?_
  refine SL.step (PS.assign rfl tt rfl rfl) ?_
  refine SL.step (PS.assign rfl tt rfl rfl) ?_
  refine SL.keep (l' := [(14, _, _), (13, _, _), (12, _, _)]) ⟨rfl, rfl, rfl, trivial⟩ ?_
  refine SL.nil (SE.block_normal (SE.thenK hK8 (SC.seq (fun K13 hK13 => SC.seq (fun K14 hK14 => SC.region ?_)))))
  refine SL.step (PS.move rfl tt rfl rfl) ?_
  refine SL.step (PS.neq rfl tt rfl tt rfl rfl) ?_
  refine SL.keep (l' := [(125, _, _), (14, _, _), (13, _, _), (12, _, _)]) ⟨rfl, rfl, rfl, rfl, trivial⟩ ?_
  refine SL.nil (SE.thenK hK14 ?_)
  refine SC.cond rfl (fun c125 => ?_) (fun c125 => ?_)
  ·
   rw [ea, eb] at c125
   refine SC.seq (fun K15 hK15 => SC.region ?_)
   refine SL.step (PS.move rfl tt rfl rfl) ?_
   refine SL.step (PS.assign rfl tt rfl rfl) ?_
   refine SL.step (PS.assign rfl tt rfl rfl) ?_
   refine SL.keep (l' := [(11, _, _), (10, _, _)]) ⟨rfl, rfl, trivial⟩ ?_
   refine SL.nil (SE.thenK hK15 (SC.ret (SE.then_ret ?_)))
   first | exact finV2 rfl rfl rfl (fun _ _ => pairV_eq (by rw [ea, eb]; exact Pl.cutR_t c125)) | exact finV2 rfl rfl rfl (fun _ _ => pairV_eq (by rw [Pl.cutR_f c125, ea, eb, Pl.and_mask hn hn' rr.1 rr.2]))
  ·
   rw [ea, eb] at c125
   refine SC.skip (SE.thenK hK13 (SC.seq (fun K16 hK16 => SC.region ?_)))
   refine SL.step (PS.move rfl tt rfl rfl) ?_
   refine SL.step (PS.move rfl tt rfl rfl) ?_
   refine SL.step (PS.and rfl tt rfl tt rfl rfl) ?_
   refine SL.step (PS.assign rfl tt rfl rfl) ?_
   refine SL.step (PS.assign rfl tt rfl rfl) ?_
   refine SL.keep (l' := [(11, _, _), (10, _, _)]) ⟨rfl, rfl, trivial⟩ ?_
   refine SL.nil (SE.thenK hK16 (SC.ret ?_))
   first | exact finV2 rfl rfl rfl (fun _ _ => pairV_eq (by rw [ea, eb]; exact Pl.cutR_t c125)) | exact finV2 rfl rfl rfl (fun _ _ => pairV_eq (by rw [Pl.cutR_f c125, ea, eb, Pl.and_mask hn hn' rr.1 rr.2]))
theorem apply_and (n : Nat) (f a b : Int) (hn : 1 ≤ n) (hn' : n ≤ 64) (ha : 0 ≤ a) (ha' : a < 18446744073709551616) (hb : 0 ≤ b) (hb' : b < 18446744073709551616) (hg : Pl.badA 8 n f = false) :
    SpecV Try.prog 40 [.int .i64 8, .int .i64 n, .int .i64 f, .int .u64 a, .int .u64 b] (pairV (Pl.apply 8 n f a b)) := by
  have ea := Pl.and_mask hn hn' ha ha'
  have eb := Pl.and_mask hn hn' hb hb'
  have ma := Pl.mod_range n a
  have mb := Pl.mod_range n b
  have hp := Pl.pow_le_int hn'
  rw [Pl.apply_ok hg, Pl.core_bit (by decide) (by decide)]
  have rr := Pl.bit_range (op := 8) ma.1 (by omega) mb.1 (by omega)
  refine SpecV.enter Try.func40 rfl (n := 130) Try.ntmps40 (Nat.le_of_ble_eq_true rfl) (l := [(0, _, _), (1, _, _), (2, _, _), (3, _, _), (4, _, _)]) rfl ?_
  intro w
  refine SC.seq (fun K1 hK1 => SC.region ?_)
  refine SL.step (PS.assign rfl tt rfl rfl) ?_
  refine SL.step (PS.assign rfl tt rfl rfl) ?_
  refine SL.keep (l' := [(0, _, _), (1, _, _), (2, _, _), (3, _, _), (4, _, _)]) ⟨rfl, rfl, rfl, rfl, rfl, trivial⟩ ?_
  refine SL.nil (SE.thenK hK1 (SC.seq (fun K2 hK2 => SC.region ?_)))
  refine SL.step (PS.move rfl tt rfl rfl) ?_
  refine SL.callV (vs := [_]) Try.call37 ⟨⟨_, rfl, tt⟩, trivial⟩ (fun hg => mask_V _) rfl rfl ?_
  refine SL.step (PS.assign rfl tt rfl rfl) ?_
  refine SL.keep (l' := [(12, _, _), (0, _, _), (1, _, _), (2, _, _), (3, _, _), (4, _, _)]) ⟨rfl, rfl, rfl, rfl, rfl, rfl, trivial⟩ ?_
  refine SL.nil (SE.thenK hK2 (SC.seq (fun K3 hK3 => SC.seq (fun K4 hK4 => SC.region ?_))))
  refine SL.step (PS.move rfl tt rfl rfl) ?_
  refine SL.step (PS.eql rfl tt rfl tt rfl rfl) ?_
  refine SL.step (PS.move rfl tt rfl rfl) ?_
  refine SL.step (PS.move rfl tt rfl rfl) ?_
  refine SL.step (PS.lss rfl (fun h => h) rfl tt rfl rfl) ?_
  refine SL.step (PS.pick_or rfl tt rfl (fun h h2 => pk_or h h2) rfl rfl) ?_
  refine SL.step (PS.move rfl tt rfl rfl) ?_
  refine SL.step (PS.move rfl tt rfl rfl) ?_
  refine SL.step (PS.gtr rfl (fun h => h) rfl tt rfl rfl) ?_
  refine SL.step (PS.pick_or rfl tt rfl (fun h h2 => pk_or h h2) rfl rfl) ?_
  refine SL.step (PS.move rfl tt rfl rfl) ?_
  refine SL.step (PS.move rfl tt rfl rfl) ?_
  refine SL.step (PS.move rfl tt rfl rfl) ?_
  refine SL.callV (vs := [_]) Try.call35 ⟨⟨_, rfl, (fun h => h)⟩, trivial⟩ (fun hg => flags_V _) rfl rfl ?_
  refine SL.step (PS.andNot rfl (fun h => h) rfl (fun h => h) rfl rfl) ?_
  refine SL.step (PS.neq rfl (fun h => h) rfl tt rfl rfl) ?_
  refine SL.step (PS.pick_or rfl tt rfl (fun h h2 => pk_or h h2) rfl rfl) ?_
  refine SL.keep (l' := [(35, _, _), (12, _, _), (0, _, _), (1, _, _), (2, _, _), (3, _, _), (4, _, _)]) ⟨rfl, rfl, rfl, rfl, rfl, rfl, rfl, trivial⟩ ?_
  refine SL.nil (SE.thenK hK4 ?_)
  refine SC.cond_f rfl (hg) ?_
  refine SC.skip (SE.thenK hK3 (SC.seq (fun K5 hK5 => SC.region ?_)))
  refine SL.step (PS.move rfl tt rfl rfl) ?_
  refine SL.step (PS.move rfl tt rfl rfl) ?_
  refine SL.step (PS.and rfl tt rfl tt rfl rfl) ?_
  refine SL.step (PS.move rfl tt rfl rfl) ?_
  refine SL.step (PS.move rfl tt rfl rfl) ?_
  refine SL.step (PS.and rfl tt rfl tt rfl rfl) ?_
  refine SL.step (PS.assign rfl tt rfl rfl) ?_
  refine SL.step (PS.assign rfl tt rfl rfl) ?_
  refine SL.keep (l' := [(4, _, _), (3, _, _), (12, _, _), (0, _, _), (1, _, _), (2, _, _)]) ⟨rfl, rfl, rfl, rfl, rfl, rfl, trivial⟩ ?_
  refine SL.nil (SE.thenK hK5 (SC.seq (fun K6 hK6 => SC.region ?_)))
  refine SL.step (PS.assign rfl tt rfl rfl) ?_
  refine SL.nil (SE.thenK hK6 (SC.seq (fun K7 hK7 => SC.region ?_)))
  refine SL.step (PS.assign rfl tt rfl rfl) ?_
  refine SL.nil (SE.thenK hK7 (SC.seq (fun K8 hK8 => SC.block (SC.seq (fun K9 hK9 => SC.region ?_)))))
  refine SL.step (PS.move rfl tt rfl rfl) ?_
  refine SL.step (PS.leq rfl tt rfl tt rfl rfl) ?_
  refine SL.step (PS.assign rfl tt rfl rfl) ?_
  refine SL.keep (l' := [(71, _, _), (14, _, _), (13, _, _), (4, _, _), (3, _, _), (12, _, _), (0, _, _), (1, _, _), (2, _, _)]) ⟨rfl, rfl, rfl, rfl, rfl, rfl, rfl, rfl, rfl, trivial⟩ ?_
  refine SL.nil (SE.thenK hK9 ?_)
  refine SC.cond_f rfl (rfl) ?_
  refine SC.seq (fun K10 hK10 => SC.region ?_)
  refine SL.step (PS.move rfl tt rfl rfl) ?_
  refine SL.step (PS.leq rfl tt rfl tt rfl rfl) ?_
  refine SL.step (PS.assign rfl tt rfl rfl) ?_
  refine SL.keep (l' := [(83, _, _), (14, _, _), (13, _, _), (4, _, _), (3, _, _), (12, _, _), (0, _, _), (1, _, _), (2, _, _)]) ⟨rfl, rfl, rfl, rfl, rfl, rfl, rfl, rfl, rfl, trivial⟩ ?_
  refine SL.nil (SE.thenK hK10 ?_)
  refine SC.cond_f rfl (rfl) ?_
  refine SC.seq (fun K11 hK11 => SC.region ?_)
  refine SL.step (PS.move rfl tt rfl rfl) ?_
  refine SL.step (PS.leq rfl tt rfl tt rfl rfl) ?_
  refine SL.step (PS.assign rfl tt rfl rfl) ?_
  refine SL.keep (l' := [(95, _, _), (14, _, _), (13, _, _), (4, _, _), (3, _, _), (12, _, _), (0, _, _), (1, _, _), (2, _, _)]) ⟨rfl, rfl, rfl, rfl, rfl, rfl, rfl, rfl, rfl, trivial⟩ ?_
  refine SL.nil (SE.thenK hK11 ?_)
  refine SC.cond_t rfl (rfl) ?_
  refine SC.region ?_
  refine SL.step (PS.move rfl tt rfl rfl) ?_
  refine SL.step (PS.move rfl tt rfl rfl) ?_
  refine SL.step (PS.and rfl tt rfl tt rfl rfl) ?_
  refine SL.step (PS.move rfl tt rfl rfl) ?_
  refine SL.step (PS.move rfl tt rfl rfl) ?_
  refine SL.step (PS.or rfl tt rfl tt rfl rfl) ?_
  refine SL.step (PS.move rfl tt rfl rfl) ?_
  refine SL.step (PS.move rfl tt rfl rfl) ?_
  refine SL.step (PS.xor rfl tt rfl tt rfl rfl) ?_
  refine SL.buildSlice (us := [(0, _), (1, _), (2, _)]) (cs := [_, _, _]) ⟨rfl, ⟨_, rfl, tt⟩, ⟨rfl, ⟨_, rfl, tt⟩, ⟨rfl, ⟨_, rfl, tt⟩, trivial⟩⟩⟩ Try.underlying69 Try.sizeOf27 Try.zeroValue27 ⟨rfl, rfl, _, rfl, ⟨rfl, rfl, _, rfl, ⟨rfl, rfl, _, rfl, trivial⟩⟩⟩ rfl (by decide) rfl rfl (fun b107 => ?_)
  refine SL.step (PS.move rfl tt rfl rfl) ?_
  first | refine SL.step (PS.sub_in rfl tt rfl tt (fun _ => wr_i64 (by omega)) rfl rfl) ?_ | refine SL.step (PS.sub rfl tt rfl tt rfl rfl) ?_
  refine SL.step (PS.indexAddr rfl tt rfl tt Try.underlying69 Try.sizeOf27 (fun _ _ _ => by omega) rfl rfl) ?_
  refine SL.step (PS.load_own (k := 0) rfl tt rfl rfl rfl Try.isAgg27 rfl rfl) ?_
  refine SL.step (PS.assign rfl tt rfl rfl) ?_
  refine SL.keep (l' := [(13, _, _), (14, _, _), (12, _, _)]) ⟨rfl, rfl, rfl, trivial⟩ ?_
  refine SL.nil (SE.block_normal (SE.thenK hK8 (SC.seq (fun K12 hK12 => SC.seq (fun K13 hK13 => SC.region ?_)))))
  refine SL.step (PS.move rfl tt rfl rfl) ?_
  refine SL.step (PS.neq rfl tt rfl tt rfl rfl) ?_
  refine SL.keep (l' := [(125, _, _), (13, _, _), (14, _, _), (12, _, _)]) ⟨rfl, rfl, rfl, rfl, trivial⟩ ?_
  refine SL.nil (SE.thenK hK13 ?_)
  refine SC.cond_f rfl (rfl) ?_
  refine SC.skip (SE.thenK hK12 (SC.seq (fun K14 hK14 => SC.region ?_)))
  refine SL.step (PS.move rfl tt rfl rfl) ?_
  refine SL.step (PS.move rfl tt rfl rfl) ?_
  refine SL.step (PS.and rfl tt rfl tt rfl rfl) ?_
  refine SL.step (PS.assign rfl tt rfl rfl) ?_
  refine SL.step (PS.assign rfl tt rfl rfl) ?_
  refine SL.keep (l' := [(11, _, _), (10, _, _)]) ⟨rfl, rfl, trivial⟩ ?_
  refine SL.nil (SE.thenK hK14 (SC.ret ?_))
  exact finV2 rfl rfl rfl (fun _ _ => pairV_eq (by rw [Pl.cutR_f rfl, ea, eb]; exact congrArg (fun z => (z, (0 : Int))) (Pl.and_mask hn hn' rr.1 rr.2).symm))
theorem apply_or (n : Nat) (f a b : Int) (hn : 1 ≤ n) (hn' : n ≤ 64) (ha : 0 ≤ a) (ha' : a < 18446744073709551616) (hb : 0 ≤ b) (hb' : b < 18446744073709551616) (hg : Pl.badA 9 n f = false) :
    SpecV Try.prog 40 [.int .i64 9, .int .i64 n, .int .i64 f, .int .u64 a, .int .u64 b] (pairV (Pl.apply 9 n f a b)) := by
  have ea := Pl.and_mask hn hn' ha ha'
  have eb := Pl.and_mask hn hn' hb hb'
  have ma := Pl.mod_range n a
  have mb := Pl.mod_range n b
  have hp := Pl.pow_le_int hn'
  rw [Pl.apply_ok hg, Pl.core_bit (by decide) (by decide)]
  have rr := Pl.bit_range (op := 9) ma.1 (by omega) mb.1 (by omega)
  refine SpecV.enter Try.func40 rfl (n := 130) Try.ntmps40 (Nat.le_of_ble_eq_true rfl) (l := [(0, _, _), (1, _, _), (2, _, _), (3, _, _), (4, _, _)]) rfl ?_
  intro w
  refine SC.seq (fun K1 hK1 => SC.region ?_)
  refine SL.step (PS.assign rfl tt rfl rfl) ?_
  refine SL.step (PS.assign rfl tt rfl rfl) ?_
  refine SL.keep (l' := [(0, _, _), (1, _, _), (2, _, _), (3, _, _), (4, _, _)]) ⟨rfl, rfl, rfl, rfl, rfl, trivial⟩ ?_
  refine SL.nil (SE.thenK hK1 (SC.seq (fun K2 hK2 => SC.region ?_)))
  refine SL.step (PS.move rfl tt rfl rfl) ?_
  refine SL.callV (vs := [_]) Try.call37 ⟨⟨_, rfl, tt⟩, trivial⟩ (fun hg => mask_V _) rfl rfl ?_
  refine SL.step (PS.assign rfl tt rfl rfl) ?_
  refine SL.keep (l' := [(12, _, _), (0, _, _), (1, _, _), (2, _, _), (3, _, _), (4, _, _)]) ⟨rfl, rfl, rfl, rfl, rfl, rfl, trivial⟩ ?_
  refine SL.nil (SE.thenK hK2 (SC.seq (fun K3 hK3 => SC.seq (fun K4 hK4 => SC.region ?_))))
  refine SL.step (PS.move rfl tt rfl rfl) ?_
  refine SL.step (PS.eql rfl tt rfl tt rfl rfl) ?_
  refine SL.step (PS.move rfl tt rfl rfl) ?_
  refine SL.step (PS.move rfl tt rfl rfl) ?_
  refine SL.step (PS.lss rfl (fun h => h) rfl tt rfl rfl) ?_
  refine SL.step (PS.pick_or rfl tt rfl (fun h h2 => pk_or h h2) rfl rfl) ?_
  refine SL.step (PS.move rfl tt rfl rfl) ?_
  refine SL.step (PS.move rfl tt rfl rfl) ?_
  refine SL.step (PS.gtr rfl (fun h => h) rfl tt rfl rfl) ?_
  refine SL.step (PS.pick_or rfl tt rfl (fun h h2 => pk_or h h2) rfl rfl) ?_
  refine SL.step (PS.move rfl tt rfl rfl) ?_
  refine SL.step (PS.move rfl tt rfl rfl) ?_
  refine SL.step (PS.move rfl tt rfl rfl) ?_
  refine SL.callV (vs := [_]) Try.call35 ⟨⟨_, rfl, (fun h => h)⟩, trivial⟩ (fun hg => flags_V _) rfl rfl ?_
  refine SL.step (PS.andNot rfl (fun h => h) rfl (fun h => h) rfl rfl) ?_
  refine SL.step (PS.neq rfl (fun h => h) rfl tt rfl rfl) ?_
  refine SL.step (PS.pick_or rfl tt rfl (fun h h2 => pk_or h h2) rfl rfl) ?_
  refine SL.keep (l' := [(35, _, _), (12, _, _), (0, _, _), (1, _, _), (2, _, _), (3, _, _), (4, _, _)]) ⟨rfl, rfl, rfl, rfl, rfl, rfl, rfl, trivial⟩ ?_
  refine SL.nil (SE.thenK hK4 ?_)
  refine SC.cond_f rfl (hg) ?_
  refine SC.skip (SE.thenK hK3 (SC.seq (fun K5 hK5 => SC.region ?_)))
  refine SL.step (PS.move rfl tt rfl rfl) ?_
  refine SL.step (PS.move rfl tt rfl rfl) ?_
  refine SL.step (PS.and rfl tt rfl tt rfl rfl) ?_
  refine SL.step (PS.move rfl tt rfl rfl) ?_
  refine SL.step (PS.move rfl tt rfl rfl) ?_
  refine SL.step (PS.and rfl tt rfl tt rfl rfl) ?_
  refine SL.step (PS.assign rfl tt rfl rfl) ?_
  refine SL.step (PS.assign rfl tt rfl rfl) ?_
  refine SL.keep (l' := [(4, _, _), (3, _, _), (12, _, _), (0, _, _), (1, _, _), (2, _, _)]) ⟨rfl, rfl, rfl, rfl, rfl, rfl, trivial⟩ ?_
  refine SL.nil (SE.thenK hK5 (SC.seq (fun K6 hK6 => SC.region ?_)))
  refine SL.step (PS.assign rfl tt rfl rfl) ?_
  refine SL.nil (SE.thenK hK6 (SC.seq (fun K7 hK7 => SC.region ?_)))
  refine SL.step (PS.assign rfl tt rfl rfl) ?_
  refine SL.nil (SE.thenK hK7 (SC.seq (fun K8 hK8 => SC.block (SC.seq (fun K9 hK9 => SC.region ?_)))))
  refine SL.step (PS.move rfl tt rfl rfl) ?_
  refine SL.step (PS.leq rfl tt rfl tt rfl rfl) ?_
  refine SL.step (PS.assign rfl tt rfl rfl) ?_
  refine SL.keep (l' := [(71, _, _), (14, _, _), (13, _, _), (4, _, _), (3, _, _), (12, _, _), (0, _, _), (1, _, _), (2, _, _)]) ⟨rfl, rfl, rfl, rfl, rfl, rfl, rfl, rfl, rfl, trivial⟩ ?_
  refine SL.nil (SE.thenK hK9 ?_)
  refine SC.cond_f rfl (rfl) ?_
  refine SC.seq (fun K10 hK10 => SC.region ?_)
  refine SL.step (PS.move rfl tt rfl rfl) ?_
  refine SL.step (PS.leq rfl tt rfl tt rfl rfl) ?_
  refine SL.step (PS.assign rfl tt rfl rfl) ?_
  refine SL.keep (l' := [(83, _, _), (14, _, _), (13, _, _), (4, _, _), (3, _, _), (12, _, _), (0, _, _), (1, _, _), (2, _, _)]) ⟨rfl, rfl, rfl, rfl, rfl, rfl, rfl, rfl, rfl, trivial⟩ ?_
  refine SL.nil (SE.thenK hK10 ?_)
  refine SC.cond_f rfl (rfl) ?_
  refine SC.seq (fun K11 hK11 => SC.region ?_)
  refine SL.step (PS.move rfl tt rfl rfl) ?_
  refine SL.step (PS.leq rfl tt rfl tt rfl rfl) ?_
  refine SL.step (PS.assign rfl tt rfl rfl) ?_
  refine SL.keep (l' := [(95, _, _), (14, _, _), (13, _, _), (4, _, _), (3, _, _), (12, _, _), (0, _, _), (1, _, _), (2, _, _)]) ⟨rfl, rfl, rfl, rfl, rfl, rfl, rfl, rfl, rfl, trivial⟩ ?_
  refine SL.nil (SE.thenK hK11 ?_)
  refine SC.cond_t rfl (rfl) ?_
  refine SC.region ?_
  refine SL.step (PS.move rfl tt rfl rfl) ?_
  refine SL.step (PS.move rfl tt rfl rfl) ?_
  refine SL.step (PS.and rfl tt rfl tt rfl rfl) ?_
  refine SL.step (PS.move rfl tt rfl rfl) ?_
  refine SL.step (PS.move rfl tt rfl rfl) ?_
  refine SL.step (PS.or rfl tt rfl tt rfl rfl) ?_
  refine SL.step (PS.move rfl tt rfl rfl) ?_
  refine SL.step (PS.move rfl tt rfl rfl) ?_
  refine SL.step (PS.xor rfl tt rfl tt rfl rfl) ?_
  refine SL.buildSlice (us := [(0, _), (1, _), (2, _)]) (cs := [_, _, _]) ⟨rfl, ⟨_, rfl, tt⟩, ⟨rfl, ⟨_, rfl, tt⟩, ⟨rfl, ⟨_, rfl, tt⟩, trivial⟩⟩⟩ Try.underlying69 Try.sizeOf27 Try.zeroValue27 ⟨rfl, rfl, _, rfl, ⟨rfl, rfl, _, rfl, ⟨rfl, rfl, _, rfl, trivial⟩⟩⟩ rfl (by decide) rfl rfl (fun b107 => ?_)
  refine SL.step (PS.move rfl tt rfl rfl) ?_
  first | refine SL.step (PS.sub_in rfl tt rfl tt (fun _ => wr_i64 (by omega)) rfl rfl) ?_ | refine SL.step (PS.sub rfl tt rfl tt rfl rfl) ?_
  refine SL.step (PS.indexAddr rfl tt rfl tt Try.underlying69 Try.sizeOf27 (fun _ _ _ => by omega) rfl rfl) ?_
  refine SL.step (PS.load_own (k := 0) rfl tt rfl rfl rfl Try.isAgg27 rfl rfl) ?_
  refine SL.step (PS.assign rfl tt rfl rfl) ?_
  refine SL.keep (l' := [(13, _, _), (14, _, _), (12, _, _)]) ⟨rfl, rfl, rfl, trivial⟩ ?_
  refine SL.nil (SE.block_normal (SE.thenK hK8 (SC.seq (fun K12 hK12 => SC.seq (fun K13 hK13 => SC.region ?_)))))
  refine SL.step (PS.move rfl tt rfl rfl) ?_
  refine SL.step (PS.neq rfl tt rfl tt rfl rfl) ?_
  refine SL.keep (l' := [(125, _, _), (13, _, _), (14, _, _), (12, _, _)]) ⟨rfl, rfl, rfl, rfl, trivial⟩ ?_
  refine SL.nil (SE.thenK hK13 ?_)
  refine SC.cond_f rfl (rfl) ?_
  refine SC.skip (SE.thenK hK12 (SC.seq (fun K14 hK14 => SC.region ?_)))
  refine SL.step (PS.move rfl tt rfl rfl) ?_
  refine SL.step (PS.move rfl tt rfl rfl) ?_
  refine SL.step (PS.and rfl tt rfl tt rfl rfl) ?_
  refine SL.step (PS.assign rfl tt rfl rfl) ?_
  refine SL.step (PS.assign rfl tt rfl rfl) ?_
  refine SL.keep (l' := [(11, _, _), (10, _, _)]) ⟨rfl, rfl, trivial⟩ ?_
  refine SL.nil (SE.thenK hK14 (SC.ret ?_))
  exact finV2 rfl rfl rfl (fun _ _ => pairV_eq (by rw [Pl.cutR_f rfl, ea, eb]; exact congrArg (fun z => (z, (0 : Int))) (Pl.and_mask hn hn' rr.1 rr.2).symm))
theorem apply_xor (n : Nat) (f a b : Int) (hn : 1 ≤ n) (hn' : n ≤ 64) (ha : 0 ≤ a) (ha' : a < 18446744073709551616) (hb : 0 ≤ b) (hb' : b < 18446744073709551616) (hg : Pl.badA 10 n f = false) :
    SpecV Try.prog 40 [.int .i64 10, .int .i64 n, .int .i64 f, .int .u64 a, .int .u64 b] (pairV (Pl.apply 10 n f a b)) := by
  have ea := Pl.and_mask hn hn' ha ha'
  have eb := Pl.and_mask hn hn' hb hb'
  have ma := Pl.mod_range n a
  have mb := Pl.mod_range n b
  have hp := Pl.pow_le_int hn'
  rw [Pl.apply_ok hg, Pl.core_bit (by decide) (by decide)]
  have rr := Pl.bit_range (op := 10) ma.1 (by omega) mb.1 (by omega)
  refine SpecV.enter Try.func40 rfl (n := 130) Try.ntmps40 (Nat.le_of_ble_eq_true rfl) (l := [(0, _, _), (1, _, _), (2, _, _), (3, _, _), (4, _, _)]) rfl ?_
  intro w
  refine SC.seq (fun K1 hK1 => SC.region ?_)
  refine SL.step (PS.assign rfl tt rfl rfl) ?_
  refine SL.step (PS.assign rfl tt rfl rfl) ?_
  refine SL.keep (l' := [(0, _, _), (1, _, _), (2, _, _), (3, _, _), (4, _, _)]) ⟨rfl, rfl, rfl, rfl, rfl, trivial⟩ ?_
  refine SL.nil (SE.thenK hK1 (SC.seq (fun K2 hK2 => SC.region ?_)))
  refine SL.step (PS.move rfl tt rfl rfl) ?_
  refine SL.callV (vs := [_]) Try.call37 ⟨⟨_, rfl, tt⟩, trivial⟩ (fun hg => mask_V _) rfl rfl ?_
  refine SL.step (PS.assign rfl tt rfl rfl) ?_
  refine SL.keep (l' := [(12, _, _), (0, _, _), (1, _, _), (2, _, _), (3, _, _), (4, _, _)]) ⟨rfl, rfl, rfl, rfl, rfl, rfl, trivial⟩ ?_
  refine SL.nil (SE.thenK hK2 (SC.seq (fun K3 hK3 => SC.seq (fun K4 hK4 => SC.region ?_))))
  refine SL.step (PS.move rfl tt rfl rfl) ?_
  refine SL.step (PS.eql rfl tt rfl tt rfl rfl) ?_
  refine SL.step (PS.move rfl tt rfl rfl) ?_
  refine SL.step (PS.move rfl tt rfl rfl) ?_
  refine SL.step (PS.lss rfl (fun h => h) rfl tt rfl rfl) ?_
  refine SL.step (PS.pick_or rfl tt rfl (fun h h2 => pk_or h h2) rfl rfl) ?_
  refine SL.step (PS.move rfl tt rfl rfl) ?_
  refine SL.step (PS.move rfl tt rfl rfl) ?_
  refine SL.step (PS.gtr rfl (fun h => h) rfl tt rfl rfl) ?_
  refine SL.step (PS.pick_or rfl tt rfl (fun h h2 => pk_or h h2) rfl rfl) ?_
  refine SL.step (PS.move rfl tt rfl rfl) ?_
  refine SL.step (PS.move rfl tt rfl rfl) ?_
  refine SL.step (PS.move rfl tt rfl rfl) ?_
  refine SL.callV (vs := [_]) Try.call35 ⟨⟨_, rfl, (fun h => h)⟩, trivial⟩ (fun hg => flags_V _) rfl rfl ?_
  refine SL.step (PS.andNot rfl (fun h => h) rfl (fun h => h) rfl rfl) ?_
  refine SL.step (PS.neq rfl (fun h => h) rfl tt rfl rfl) ?_
  refine SL.step (PS.pick_or rfl tt rfl (fun h h2 => pk_or h h2) rfl rfl) ?_
  refine SL.keep (l' := [(35, _, _), (12, _, _), (0, _, _), (1, _, _), (2, _, _), (3, _, _), (4, _, _)]) ⟨rfl, rfl, rfl, rfl, rfl, rfl, rfl, trivial⟩ ?_
  refine SL.nil (SE.thenK hK4 ?_)
  refine SC.cond_f rfl (hg) ?_
  refine SC.skip (SE.thenK hK3 (SC.seq (fun K5 hK5 => SC.region ?_)))
  refine SL.step (PS.move rfl tt rfl rfl) ?_
  refine SL.step (PS.move rfl tt rfl rfl) ?_
  refine SL.step (PS.and rfl tt rfl tt rfl rfl) ?_
  refine SL.step (PS.move rfl tt rfl rfl) ?_
  refine SL.step (PS.move rfl tt rfl rfl) ?_
  refine SL.step (PS.and rfl tt rfl tt rfl rfl) ?_
  refine SL.step (PS.assign rfl tt rfl rfl) ?_
  refine SL.step (PS.assign rfl tt rfl rfl) ?_
  refine SL.keep (l' := [(4, _, _), (3, _, _), (12, _, _), (0, _, _), (1, _, _), (2, _, _)]) ⟨rfl, rfl, rfl, rfl, rfl, rfl, trivial⟩ ?_
  refine SL.nil (SE.thenK hK5 (SC.seq (fun K6 hK6 => SC.region ?_)))
  refine SL.step (PS.assign rfl tt rfl rfl) ?_
  refine SL.nil (SE.thenK hK6 (SC.seq (fun K7 hK7 => SC.region ?_)))
  refine SL.step (PS.assign rfl tt rfl rfl) ?_
  refine SL.nil (SE.thenK hK7 (SC.seq (fun K8 hK8 => SC.block (SC.seq (fun K9 hK9 => SC.region ?_)))))
  refine SL.step (PS.move rfl tt rfl rfl) ?_
  refine SL.step (PS.leq rfl tt rfl tt rfl rfl) ?_
  refine SL.step (PS.assign rfl tt rfl rfl) ?_
  refine SL.keep (l' := [(71, _, _), (14, _, _), (13, _, _), (4, _, _), (3, _, _), (12, _, _), (0, _, _), (1, _, _), (2, _, _)]) ⟨rfl, rfl, rfl, rfl, rfl, rfl, rfl, rfl, rfl, trivial⟩ ?_
  refine SL.nil (SE.thenK hK9 ?_)
  refine SC.cond_f rfl (rfl) ?_
  refine SC.seq (fun K10 hK10 => SC.region ?_)
  refine SL.step (PS.move rfl tt rfl rfl) ?_
  refine SL.step (PS.leq rfl tt rfl tt rfl rfl) ?_
  refine SL.step (PS.assign rfl tt rfl rfl) ?_
  refine SL.keep (l' := [(83, _, _), (14, _, _), (13, _, _), (4, _, _), (3, _, _), (12, _, _), (0, _, _), (1, _, _), (2, _, _)]) ⟨rfl, rfl, rfl, rfl, rfl, rfl, rfl, rfl, rfl, trivial⟩ ?_
  refine SL.nil (SE.thenK hK10 ?_)
  refine SC.cond_f rfl (rfl) ?_
  refine SC.seq (fun K11 hK11 => SC.region ?_)
  refine SL.step (PS.move rfl tt rfl rfl) ?_
  refine SL.step (PS.leq rfl tt rfl tt rfl rfl) ?_
  refine SL.step (PS.assign rfl tt rfl rfl) ?_
  refine SL.keep (l' := [(95, _, _), (14, _, _), (13, _, _), (4, _, _), (3, _, _), (12, _, _), (0, _, _), (1, _, _), (2, _, _)]) ⟨rfl, rfl, rfl, rfl, rfl, rfl, rfl, rfl, rfl, trivial⟩ ?_
  refine SL.nil (SE.thenK hK11 ?_)
  refine SC.cond_t rfl (rfl) ?_
  refine SC.region ?_
  refine SL.step (PS.move rfl tt rfl rfl) ?_
  refine SL.step (PS.move rfl tt rfl rfl) ?_
  refine SL.step (PS.and rfl tt rfl tt rfl rfl) ?_
  refine SL.step (PS.move rfl tt rfl rfl) ?_
  refine SL.step (PS.move rfl tt rfl rfl) ?_
  refine SL.step (PS.or rfl tt rfl tt rfl rfl) ?_
  refine SL.step (PS.move rfl tt rfl rfl) ?_
  refine SL.step (PS.move rfl tt rfl rfl) ?_
  refine SL.step (PS.xor rfl tt rfl tt rfl rfl) ?_
  refine SL.buildSlice (us := [(0, _), (1, _), (2, _)]) (cs := [_, _, _]) ⟨rfl, ⟨_, rfl, tt⟩, ⟨rfl, ⟨_, rfl, tt⟩, ⟨rfl, ⟨_, rfl, tt⟩, trivial⟩⟩⟩ Try.underlying69 Try.sizeOf27 Try.zeroValue27 ⟨rfl, rfl, _, rfl, ⟨rfl, rfl, _, rfl, ⟨rfl, rfl, _, rfl, trivial⟩⟩⟩ rfl (by decide) rfl rfl (fun b107 => ?_)
  refine SL.step (PS.move rfl tt rfl rfl) ?_
  first | refine SL.step (PS.sub_in rfl tt rfl tt (fun _ => wr_i64 (by omega)) rfl rfl) ?_ | refine SL.step (PS.sub rfl tt rfl tt rfl rfl) ?_
  refine SL.step (PS.indexAddr rfl tt rfl tt Try.underlying69 Try.sizeOf27 (fun _ _ _ => by omega) rfl rfl) ?_
  refine SL.step (PS.load_own (k := 0) rfl tt rfl rfl rfl Try.isAgg27 rfl rfl) ?_
  refine SL.step (PS.assign rfl tt rfl rfl) ?_
  refine SL.keep (l' := [(13, _, _), (14, _, _), (12, _, _)]) ⟨rfl, rfl, rfl, trivial⟩ ?_
  refine SL.nil (SE.block_normal (SE.thenK hK8 (SC.seq (fun K12 hK12 => SC.seq (fun K13 hK13 => SC.region ?_)))))
  refine SL.step (PS.move rfl tt rfl rfl) ?_
  refine SL.step (PS.neq rfl tt rfl tt rfl rfl) ?_
  refine SL.keep (l' := [(125, _, _), (13, _, _), (14, _, _), (12, _, _)]) ⟨rfl, rfl, rfl, rfl, trivial⟩ ?_
  refine SL.nil (SE.thenK hK13 ?_)
  refine SC.cond_f rfl (rfl) ?_
  refine SC.skip (SE.thenK hK12 (SC.seq (fun K14 hK14 => SC.region ?_)))
  refine SL.step (PS.move rfl tt rfl rfl) ?_
  refine SL.step (PS.move rfl tt rfl rfl) ?_
  refine SL.step (PS.and rfl tt rfl tt rfl rfl) ?_
  refine SL.step (PS.assign rfl tt rfl rfl) ?_
  refine SL.step (PS.assign rfl tt rfl rfl) ?_
  refine SL.keep (l' := [(11, _, _), (10, _, _)]) ⟨rfl, rfl, trivial⟩ ?_
  refine SL.nil (SE.thenK hK14 (SC.ret ?_))
  exact finV2 rfl rfl rfl (fun _ _ => pairV_eq (by rw [Pl.cutR_f rfl, ea, eb]; exact congrArg (fun z => (z, (0 : Int))) (Pl.and_mask hn hn' rr.1 rr.2).symm))
theorem apply_c14 (n : Nat) (f a b : Int) (hn : 1 ≤ n) (hn' : n ≤ 64) (ha : 0 ≤ a) (ha' : a < 18446744073709551616) (hb : 0 ≤ b) (hb' : b < 18446744073709551616) (hg : Pl.badA 14 n f = false) :
    SpecV Try.prog 40 [.int .i64 14, .int .i64 n, .int .i64 f, .int .u64 a, .int .u64 b] (pairV (Pl.apply 14 n f a b)) := by
  have ea := Pl.and_mask hn hn' ha ha'
  have eb := Pl.and_mask hn hn' hb hb'
  have ma := Pl.mod_range n a
  have mb := Pl.mod_range n b
  have hp := Pl.pow_le_int hn'
  rw [Pl.apply_ok hg, Pl.core_cmp (by decide)]
  have rr := Pl.and_mask hn hn' (z := 1) (by decide) (by decide)
  have r0 := Pl.and_mask hn hn' (z := 0) (by decide) (by decide)
  refine SpecV.enter Try.func40 rfl (n := 130) Try.ntmps40 (Nat.le_of_ble_eq_true rfl) (l := [(0, _, _), (1, _, _), (2, _, _), (3, _, _), (4, _, _)]) rfl ?_
  intro w
  refine SC.seq (fun K1 hK1 => SC.region ?_)
  refine SL.step (PS.assign rfl tt rfl rfl) ?_
  refine SL.step (PS.assign rfl tt rfl rfl) ?_
  refine SL.keep (l' := [(0, _, _), (1, _, _), (2, _, _), (3, _, _), (4, _, _)]) ⟨rfl, rfl, rfl, rfl, rfl, trivial⟩ ?_
  refine SL.nil (SE.thenK hK1 (SC.seq (fun K2 hK2 => SC.region ?_)))
  refine SL.step (PS.move rfl tt rfl rfl) ?_
  refine SL.callV (vs := [_]) Try.call37 ⟨⟨_, rfl, tt⟩, trivial⟩ (fun hg => mask_V _) rfl rfl ?_
  refine SL.step (PS.assign rfl tt rfl rfl) ?_
  refine SL.keep (l' := [(12, _, _), (0, _, _), (1, _, _), (2, _, _), (3, _, _), (4, _, _)]) ⟨rfl, rfl, rfl, rfl, rfl, rfl, trivial⟩ ?_
  refine SL.nil (SE.thenK hK2 (SC.seq (fun K3 hK3 => SC.seq (fun K4 hK4 => SC.region ?_))))
  refine SL.step (PS.move rfl tt rfl rfl) ?_
  refine SL.step (PS.eql rfl tt rfl tt rfl rfl) ?_
  refine SL.step (PS.move rfl tt rfl rfl) ?_
  refine SL.step (PS.move rfl tt rfl rfl) ?_
  refine SL.step (PS.lss rfl (fun h => h) rfl tt rfl rfl) ?_
  refine SL.step (PS.pick_or rfl tt rfl (fun h h2 => pk_or h h2) rfl rfl) ?_
  refine SL.step (PS.move rfl tt rfl rfl) ?_
  refine SL.step (PS.move rfl tt rfl rfl) ?_
  refine SL.step (PS.gtr rfl (fun h => h) rfl tt rfl rfl) ?_
  refine SL.step (PS.pick_or rfl tt rfl (fun h h2 => pk_or h h2) rfl rfl) ?_
  refine SL.step (PS.move rfl tt rfl rfl) ?_
  refine SL.step (PS.move rfl tt rfl rfl) ?_
  refine SL.step (PS.move rfl tt rfl rfl) ?_
  refine SL.callV (vs := [_]) Try.call35 ⟨⟨_, rfl, (fun h => h)⟩, trivial⟩ (fun hg => flags_V _) rfl rfl ?_
  refine SL.step (PS.andNot rfl (fun h => h) rfl (fun h => h) rfl rfl) ?_
  refine SL.step (PS.neq rfl (fun h => h) rfl tt rfl rfl) ?_
  refine SL.step (PS.pick_or rfl tt rfl (fun h h2 => pk_or h h2) rfl rfl) ?_
  refine SL.keep (l' := [(35, _, _), (12, _, _), (0, _, _), (1, _, _), (2, _, _), (3, _, _), (4, _, _)]) ⟨rfl, rfl, rfl, rfl, rfl, rfl, rfl, trivial⟩ ?_
  refine SL.nil (SE.thenK hK4 ?_)
  refine SC.cond_f rfl (hg) ?_
  refine SC.skip (SE.thenK hK3 (SC.seq (fun K5 hK5 => SC.region ?_)))
  refine SL.step (PS.move rfl tt rfl rfl) ?_
  refine SL.step (PS.move rfl tt rfl rfl) ?_
  refine SL.step (PS.and rfl tt rfl tt rfl rfl) ?_
  refine SL.step (PS.move rfl tt rfl rfl) ?_
  refine SL.step (PS.move rfl tt rfl rfl) ?_
  refine SL.step (PS.and rfl tt rfl tt rfl rfl) ?_
  refine SL.step (PS.assign rfl tt rfl rfl) ?_
  refine SL.step (PS.assign rfl tt rfl rfl) ?_
  refine SL.keep (l' := [(4, _, _), (3, _, _), (12, _, _), (0, _, _), (1, _, _), (2, _, _)]) ⟨rfl, rfl, rfl, rfl, rfl, rfl, trivial⟩ ?_
  refine SL.nil (SE.thenK hK5 (SC.seq (fun K6 hK6 => SC.region ?_)))
  refine SL.step (PS.assign rfl tt rfl rfl) ?_
  refine SL.nil (SE.thenK hK6 (SC.seq (fun K7 hK7 => SC.region ?_)))
  refine SL.step (PS.assign rfl tt rfl rfl) ?_
  refine SL.nil (SE.thenK hK7 (SC.seq (fun K8 hK8 => SC.block (SC.seq (fun K9 hK9 => SC.region ?_)))))
  refine SL.step (PS.move rfl tt rfl rfl) ?_
  refine SL.step (PS.leq rfl tt rfl tt rfl rfl) ?_
  refine SL.step (PS.assign rfl tt rfl rfl) ?_
  refine SL.keep (l' := [(71, _, _), (14, _, _), (13, _, _), (4, _, _), (3, _, _), (12, _, _), (0, _, _), (1, _, _), (2, _, _)]) ⟨rfl, rfl, rfl, rfl, rfl, rfl, rfl, rfl, rfl, trivial⟩ ?_
  refine SL.nil (SE.thenK hK9 ?_)
  refine SC.cond_f rfl (rfl) ?_
  refine SC.seq (fun K10 hK10 => SC.region ?_)
  refine SL.step (PS.move rfl tt rfl rfl) ?_
  refine SL.step (PS.leq rfl tt rfl tt rfl rfl) ?_
  refine SL.step (PS.assign rfl tt rfl rfl) ?_
  refine SL.keep (l' := [(83, _, _), (14, _, _), (13, _, _), (4, _, _), (3, _, _), (12, _, _), (0, _, _), (1, _, _), (2, _, _)]) ⟨rfl, rfl, rfl, rfl, rfl, rfl, rfl, rfl, rfl, trivial⟩ ?_
  refine SL.nil (SE.thenK hK10 ?_)
  refine SC.cond_f rfl (rfl) ?_
  refine SC.seq (fun K11 hK11 => SC.region ?_)
  refine SL.step (PS.move rfl tt rfl rfl) ?_
  refine SL.step (PS.leq rfl tt rfl tt rfl rfl) ?_
  refine SL.step (PS.assign rfl tt rfl rfl) ?_
  refine SL.keep (l' := [(95, _, _), (14, _, _), (13, _, _), (4, _, _), (3, _, _), (12, _, _), (0, _, _), (1, _, _), (2, _, _)]) ⟨rfl, rfl, rfl, rfl, rfl, rfl, rfl, rfl, rfl, trivial⟩ ?_
  refine SL.nil (SE.thenK hK11 ?_)
  refine SC.cond_f rfl (rfl) ?_
  refine SC.seq (fun K12 hK12 => SC.region ?_)
  refine SL.step (PS.move rfl tt rfl rfl) ?_
  refine SL.step (PS.leq rfl tt rfl tt rfl rfl) ?_
  refine SL.step (PS.assign rfl tt rfl rfl) ?_
  refine SL.keep (l' := [(112, _, _), (14, _, _), (13, _, _), (4, _, _), (3, _, _), (12, _, _), (0, _, _), (1, _, _), (2, _, _)]) ⟨rfl, rfl, rfl, rfl, rfl, rfl, rfl, rfl, rfl, trivial⟩ ?_
  refine SL.nil (SE.thenK hK12 ?_)
  refine SC.cond_f rfl (rfl) ?_
  refine SC.seq (fun K13 hK13 => SC.region ?_)
  refine SL.step (PS.move rfl tt rfl rfl) ?_
  refine SL.step (PS.move rfl tt rfl rfl) ?_
  refine SL.callV (vs := [_, _]) Try.call49 ⟨⟨_, rfl, tt⟩, ⟨_, rfl, tt⟩, trivial⟩ (fun hg => signed_V _ _) rfl rfl ?_
  refine SL.step (PS.move rfl tt rfl rfl) ?_
  refine SL.step (PS.move rfl tt rfl rfl) ?_
  refine SL.callV (vs := [_, _]) Try.call49 ⟨⟨_, rfl, tt⟩, ⟨_, rfl, tt⟩, trivial⟩ (fun hg => signed_V _ _) rfl rfl ?_
  refine SL.step (PS.assign rfl tt rfl rfl) ?_
  refine SL.step (PS.assign rfl tt rfl rfl) ?_
  refine SL.keep (l' := [(16, _, _), (15, _, _), (14, _, _), (13, _, _), (4, _, _), (3, _, _), (12, _, _), (0, _, _)]) ⟨rfl, rfl, rfl, rfl, rfl, rfl, rfl, rfl, trivial⟩ ?_
  refine SL.nil (SE.thenK hK13 (SC.seq (fun K14 hK14 => SC.region ?_)))
  refine SL.step (PS.move rfl tt rfl rfl) ?_
  refine SL.step (PS.move rfl tt rfl rfl) ?_
  refine SL.step (PS.eql rfl tt rfl tt rfl rfl) ?_
  refine SL.step (PS.move rfl tt rfl rfl) ?_
  refine SL.step (PS.move rfl tt rfl rfl) ?_
  refine SL.step (PS.neq rfl tt rfl tt rfl rfl) ?_
  refine SL.step (PS.move rfl tt rfl rfl) ?_
  refine SL.step (PS.move rfl tt rfl rfl) ?_
  refine SL.step (PS.lss rfl tt rfl tt rfl rfl) ?_
  refine SL.step (PS.move rfl tt rfl rfl) ?_
  refine SL.step (PS.move rfl tt rfl rfl) ?_
  refine SL.step (PS.leq rfl tt rfl tt rfl rfl) ?_
  refine SL.step (PS.move rfl tt rfl rfl) ?_
  refine SL.step (PS.move rfl tt rfl rfl) ?_
  refine SL.step (PS.lss rfl tt rfl tt rfl rfl) ?_
  refine SL.step (PS.move rfl tt rfl rfl) ?_
  refine SL.step (PS.move rfl tt rfl rfl) ?_
  refine SL.step (PS.leq rfl tt rfl tt rfl rfl) ?_
  refine SL.buildSlice (us := [(0, _), (1, _), (2, _), (3, _), (4, _), (5, _)]) (cs := [_, _, _, _, _, _]) ⟨rfl, ⟨_, rfl, tt⟩, ⟨rfl, ⟨_, rfl, tt⟩, ⟨rfl, ⟨_, rfl, tt⟩, ⟨rfl, ⟨_, rfl, tt⟩, ⟨rfl, ⟨_, rfl, tt⟩, ⟨rfl, ⟨_, rfl, tt⟩, trivial⟩⟩⟩⟩⟩⟩ Try.underlying70 Try.sizeOf4 Try.zeroValue4 ⟨rfl, rfl, _, rfl, ⟨rfl, rfl, _, rfl, ⟨rfl, rfl, _, rfl, ⟨rfl, rfl, _, rfl, ⟨rfl, rfl, _, rfl, ⟨rfl, rfl, _, rfl, trivial⟩⟩⟩⟩⟩⟩ rfl (by decide) rfl rfl (fun b66 => ?_)
  refine SL.step (PS.move rfl tt rfl rfl) ?_
  first | refine SL.step (PS.sub_in rfl tt rfl tt (fun _ => wr_i64 (by omega)) rfl rfl) ?_ | refine SL.step (PS.sub rfl tt rfl tt rfl rfl) ?_
  refine SL.step (PS.indexAddr rfl tt rfl tt Try.underlying70 Try.sizeOf4 (fun _ _ _ => by omega) rfl rfl) ?_
  refine SL.step (PS.load_own (k := 0) rfl tt rfl rfl rfl Try.isAgg4 rfl rfl) ?_
  refine SL.keep (l' := [(70, _, _), (14, _, _), (13, _, _), (12, _, _)]) ⟨rfl, rfl, rfl, rfl, trivial⟩ ?_
  refine SL.nil (SE.thenK hK14 ?_)
  refine SC.cond rfl (fun c70 => ?_) (fun c70 => ?_)
  ·
   refine SC.region ?_
   refine SL.step (PS.assign rfl tt rfl rfl) ?_
   refine SL.keep (l' := [(13, _, _), (14, _, _), (12, _, _)]) ⟨rfl, rfl, rfl, trivial⟩ ?_
   refine SL.nil (SE.block_normal (SE.thenK hK8 (SC.seq (fun K15 hK15 => SC.seq (fun K16 hK16 => SC.region ?_)))))
   refine SL.step (PS.move rfl tt rfl rfl) ?_
   refine SL.step (PS.neq rfl tt rfl tt rfl rfl) ?_
   refine SL.keep (l' := [(125, _, _), (13, _, _), (14, _, _), (12, _, _)]) ⟨rfl, rfl, rfl, rfl, trivial⟩ ?_
   refine SL.nil (SE.thenK hK16 ?_)
   refine SC.cond_f rfl (rfl) ?_
   refine SC.skip (SE.thenK hK15 (SC.seq (fun K17 hK17 => SC.region ?_)))
   refine SL.step (PS.move rfl tt rfl rfl) ?_
   refine SL.step (PS.move rfl tt rfl rfl) ?_
   refine SL.step (PS.and rfl tt rfl tt rfl rfl) ?_
   refine SL.step (PS.assign rfl tt rfl rfl) ?_
   refine SL.step (PS.assign rfl tt rfl rfl) ?_
   refine SL.keep (l' := [(11, _, _), (10, _, _)]) ⟨rfl, rfl, trivial⟩ ?_
   refine SL.nil (SE.thenK hK17 (SC.ret ?_))
   first | exact finV2 rfl rfl rfl (fun _ _ => pairV_eq (by rw [ea, eb] at c70; rw [Pl.cutR_f rfl, rr, show Pl.cmp 14 n (a % 2 ^ n) (b % 2 ^ n) = true from c70]; rfl)) | exact finV2 rfl rfl rfl (fun _ _ => pairV_eq (by rw [ea, eb] at c70; rw [Pl.cutR_f rfl, r0, show Pl.cmp 14 n (a % 2 ^ n) (b % 2 ^ n) = false from c70]; rfl))
  ·
   refine SC.skip (SE.block_normal (SE.thenK hK8 (SC.seq (fun K18 hK18 => SC.seq (fun K19 hK19 => SC.region ?_)))))
   refine SL.step (PS.move rfl tt rfl rfl) ?_
   refine SL.step (PS.neq rfl tt rfl tt rfl rfl) ?_
   refine SL.keep (l' := [(125, _, _), (14, _, _), (13, _, _), (12, _, _)]) ⟨rfl, rfl, rfl, rfl, trivial⟩ ?_
   refine SL.nil (SE.thenK hK19 ?_)
   refine SC.cond_f rfl (rfl) ?_
   refine SC.skip (SE.thenK hK18 (SC.seq (fun K20 hK20 => SC.region ?_)))
   refine SL.step (PS.move rfl tt rfl rfl) ?_
   refine SL.step (PS.move rfl tt rfl rfl) ?_
   refine SL.step (PS.and rfl tt rfl tt rfl rfl) ?_
   refine SL.step (PS.assign rfl tt rfl rfl) ?_
   refine SL.step (PS.assign rfl tt rfl rfl) ?_
   refine SL.keep (l' := [(11, _, _), (10, _, _)]) ⟨rfl, rfl, trivial⟩ ?_
   refine SL.nil (SE.thenK hK20 (SC.ret ?_))
   first | exact finV2 rfl rfl rfl (fun _ _ => pairV_eq (by rw [ea, eb] at c70; rw [Pl.cutR_f rfl, rr, show Pl.cmp 14 n (a % 2 ^ n) (b % 2 ^ n) = true from c70]; rfl)) | exact finV2 rfl rfl rfl (fun _ _ => pairV_eq (by rw [ea, eb] at c70; rw [Pl.cutR_f rfl, r0, show Pl.cmp 14 n (a % 2 ^ n) (b % 2 ^ n) = false from c70]; rfl))
theorem apply_c15 (n : Nat) (f a b : Int) (hn : 1 ≤ n) (hn' : n ≤ 64) (ha : 0 ≤ a) (ha' : a < 18446744073709551616) (hb : 0 ≤ b) (hb' : b < 18446744073709551616) (hg : Pl.badA 15 n f = false) :
    SpecV Try.prog 40 [.int .i64 15, .int .i64 n, .int .i64 f, .int .u64 a, .int .u64 b] (pairV (Pl.apply 15 n f a b)) := by
  have ea := Pl.and_mask hn hn' ha ha'
  have eb := Pl.and_mask hn hn' hb hb'
  have ma := Pl.mod_range n a
  have mb := Pl.mod_range n b
  have hp := Pl.pow_le_int hn'
  rw [Pl.apply_ok hg, Pl.core_cmp (by decide)]
  have rr := Pl.and_mask hn hn' (z := 1) (by decide) (by decide)
  have r0 := Pl.and_mask hn hn' (z := 0) (by decide) (by decide)
  refine SpecV.enter Try.func40 rfl (n := 130) Try.ntmps40 (Nat.le_of_ble_eq_true rfl) (l := [(0, _, _), (1, _, _), (2, _, _), (3, _, _), (4, _, _)]) rfl ?_
  intro w
  refine SC.seq (fun K1 hK1 => SC.region ?_)
  refine SL.step (PS.assign rfl tt rfl rfl) ?_
  refine SL.step (PS.assign rfl tt rfl rfl) ?_
  refine SL.keep (l' := [(0, _, _), (1, _, _), (2, _, _), (3, _, _), (4, _, _)]) ⟨rfl, rfl, rfl, rfl, rfl, trivial⟩ ?_
  refine SL.nil (SE.thenK hK1 (SC.seq (fun K2 hK2 => SC.region ?_)))
  refine SL.step (PS.move rfl tt rfl rfl) ?_
  refine SL.callV (vs := [_]) Try.call37 ⟨⟨_, rfl, tt⟩, trivial⟩ (fun hg => mask_V _) rfl rfl ?_
  refine SL.step (PS.assign rfl tt rfl rfl) ?_
  refine SL.keep (l' := [(12, _, _), (0, _, _), (1, _, _), (2, _, _), (3, _, _), (4, _, _)]) ⟨rfl, rfl, rfl, rfl, rfl, rfl, trivial⟩ ?_
  refine SL.nil (SE.thenK hK2 (SC.seq (fun K3 hK3 => SC.seq (fun K4 hK4 => SC.region ?_))))
  refine SL.step (PS.move rfl tt rfl rfl) ?_
  refine SL.step (PS.eql rfl tt rfl tt rfl rfl) ?_
  refine SL.step (PS.move rfl tt rfl rfl) ?_
  refine SL.step (PS.move rfl tt rfl rfl) ?_
  refine SL.step (PS.lss rfl (fun h => h) rfl tt rfl rfl) ?_
  refine SL.step (PS.pick_or rfl tt rfl (fun h h2 => pk_or h h2) rfl rfl) ?_
  refine SL.step (PS.move rfl tt rfl rfl) ?_
  refine SL.step (PS.move rfl tt rfl rfl) ?_
  refine SL.step (PS.gtr rfl (fun h => h) rfl tt rfl rfl) ?_
  refine SL.step (PS.pick_or rfl tt rfl (fun h h2 => pk_or h h2) rfl rfl) ?_
  refine SL.step (PS.move rfl tt rfl rfl) ?_
  refine SL.step (PS.move rfl tt rfl rfl) ?_
  refine SL.step (PS.move rfl tt rfl rfl) ?_
  refine SL.callV (vs := [_]) Try.call35 ⟨⟨_, rfl, (fun h => h)⟩, trivial⟩ (fun hg => flags_V _) rfl rfl ?_
  refine SL.step (PS.andNot rfl (fun h => h) rfl (fun h => h) rfl rfl) ?_
  refine SL.step (PS.neq rfl (fun h => h) rfl tt rfl rfl) ?_
  refine SL.step (PS.pick_or rfl tt rfl (fun h h2 => pk_or h h2) rfl rfl) ?_
  refine SL.keep (l' := [(35, _, _), (12, _, _), (0, _, _), (1, _, _), (2, _, _), (3, _, _), (4, _, _)]) ⟨rfl, rfl, rfl, rfl, rfl, rfl, rfl, trivial⟩ ?_
  refine SL.nil (SE.thenK hK4 ?_)
  refine SC.cond_f rfl (hg) ?_
  refine SC.skip (SE.thenK hK3 (SC.seq (fun K5 hK5 => SC.region ?_)))
  refine SL.step (PS.move rfl tt rfl rfl) ?_
  refine SL.step (PS.move rfl tt rfl rfl) ?_
  refine SL.step (PS.and rfl tt rfl tt rfl rfl) ?_
  refine SL.step (PS.move rfl tt rfl rfl) ?_
  refine SL.step (PS.move rfl tt rfl rfl) ?_
  refine SL.step (PS.and rfl tt rfl tt rfl rfl) ?_
  refine SL.step (PS.assign rfl tt rfl rfl) ?_
  refine SL.step (PS.assign rfl tt rfl rfl) ?_
  refine SL.keep (l' := [(4, _, _), (3, _, _), (12, _, _), (0, _, _), (1, _, _), (2, _, _)]) ⟨rfl, rfl, rfl, rfl, rfl, rfl, trivial⟩ ?_
  refine SL.nil (SE.thenK hK5 (SC.seq (fun K6 hK6 => SC.region ?_)))
  refine SL.step (PS.assign rfl tt rfl rfl) ?_
  refine SL.nil (SE.thenK hK6 (SC.seq (fun K7 hK7 => SC.region ?_)))
  refine SL.step (PS.assign rfl tt rfl rfl) ?_
  refine SL.nil (SE.thenK hK7 (SC.seq (fun K8 hK8 => SC.block (SC.seq (fun K9 hK9 => SC.region ?_)))))
  refine SL.step (PS.move rfl tt rfl rfl) ?_
  refine SL.step (PS.leq rfl tt rfl tt rfl rfl) ?_
  refine SL.step (PS.assign rfl tt rfl rfl) ?_
  refine SL.keep (l' := [(71, _, _), (14, _, _), (13, _, _), (4, _, _), (3, _, _), (12, _, _), (0, _, _), (1, _, _), (2, _, _)]) ⟨rfl, rfl, rfl, rfl, rfl, rfl, rfl, rfl, rfl, trivial⟩ ?_
  refine SL.nil (SE.thenK hK9 ?_)
  refine SC.cond_f rfl (rfl) ?_
  refine SC.seq (fun K10 hK10 => SC.region ?_)
  refine SL.step (PS.move rfl tt rfl rfl) ?_
  refine SL.step (PS.leq rfl tt rfl tt rfl rfl) ?_
  refine SL.step (PS.assign rfl tt rfl rfl) ?_
  refine SL.keep (l' := [(83, _, _), (14, _, _), (13, _, _), (4, _, _), (3, _, _), (12, _, _), (0, _, _), (1, _, _), (2, _, _)]) ⟨rfl, rfl, rfl, rfl, rfl, rfl, rfl, rfl, rfl, trivial⟩ ?_
  refine SL.nil (SE.thenK hK10 ?_)
  refine SC.cond_f rfl (rfl) ?_
  refine SC.seq (fun K11 hK11 => SC.region ?_)
  refine SL.step (PS.move rfl tt rfl rfl) ?_
  refine SL.step (PS.leq rfl tt rfl tt rfl rfl) ?_
  refine SL.step (PS.assign rfl tt rfl rfl) ?_
  refine SL.keep (l' := [(95, _, _), (14, _, _), (13, _, _), (4, _, _), (3, _, _), (12, _, _), (0, _, _), (1, _, _), (2, _, _)]) ⟨rfl, rfl, rfl, rfl, rfl, rfl, rfl, rfl, rfl, trivial⟩ ?_
  refine SL.nil (SE.thenK hK11 ?_)
  refine SC.cond_f rfl (rfl) ?_
  refine SC.seq (fun K12 hK12 => SC.region ?_)
  refine SL.step (PS.move rfl tt rfl rfl) ?_
  refine SL.step (PS.leq rfl tt rfl tt rfl rfl) ?_
  refine SL.step (PS.assign rfl tt rfl rfl) ?_
  refine SL.keep (l' := [(112, _, _), (14, _, _), (13, _, _), (4, _, _), (3, _, _), (12, _, _), (0, _, _), (1, _, _), (2, _, _)]) ⟨rfl, rfl, rfl, rfl, rfl, rfl, rfl, rfl, rfl, trivial⟩ ?_
  refine SL.nil (SE.thenK hK12 ?_)
  refine SC.cond_f rfl (rfl) ?_
  refine SC.seq (fun K13 hK13 => SC.region ?_)
  refine SL.step (PS.move rfl tt rfl rfl) ?_
  refine SL.step (PS.move rfl tt rfl rfl) ?_
  refine SL.callV (vs := [_, _]) Try.call49 ⟨⟨_, rfl, tt⟩, ⟨_, rfl, tt⟩, trivial⟩ (fun hg => signed_V _ _) rfl rfl ?_
  refine SL.step (PS.move rfl tt rfl rfl) ?_
  refine SL.step (PS.move rfl tt rfl rfl) ?_
  refine SL.callV (vs := [_, _]) Try.call49 ⟨⟨_, rfl, tt⟩, ⟨_, rfl, tt⟩, trivial⟩ (fun hg => signed_V _ _) rfl rfl ?_
  refine SL.step (PS.assign rfl tt rfl rfl) ?_
  refine SL.step (PS.assign rfl tt rfl rfl) ?_
  refine SL.keep (l' := [(16, _, _), (15, _, _), (14, _, _), (13, _, _), (4, _, _), (3, _, _), (12, _, _), (0, _, _)]) ⟨rfl, rfl, rfl, rfl, rfl, rfl, rfl, rfl, trivial⟩ ?_
  refine SL.nil (SE.thenK hK13 (SC.seq (fun K14 hK14 => SC.region ?_)))
  refine SL.step (PS.move rfl tt rfl rfl) ?_
  refine SL.step (PS.move rfl tt rfl rfl) ?_
  refine SL.step (PS.eql rfl tt rfl tt rfl rfl) ?_
  refine SL.step (PS.move rfl tt rfl rfl) ?_
  refine SL.step (PS.move rfl tt rfl rfl) ?_
  refine SL.step (PS.neq rfl tt rfl tt rfl rfl) ?_
  refine SL.step (PS.move rfl tt rfl rfl) ?_
  refine SL.step (PS.move rfl tt rfl rfl) ?_
  refine SL.step (PS.lss rfl tt rfl tt rfl rfl) ?_
  refine SL.step (PS.move rfl tt rfl rfl) ?_
  refine SL.step (PS.move rfl tt rfl rfl) ?_
  refine SL.step (PS.leq rfl tt rfl tt rfl rfl) ?_
  refine SL.step (PS.move rfl tt rfl rfl) ?_
  refine SL.step (PS.move rfl tt rfl rfl) ?_
  refine SL.step (PS.lss rfl tt rfl tt rfl rfl) ?_
  refine SL.step (PS.move rfl tt rfl rfl) ?_
  refine SL.step (PS.move rfl tt rfl rfl) ?_
  refine SL.step (PS.leq rfl tt rfl tt rfl rfl) ?_
  refine SL.buildSlice (us := [(0, _), (1, _), (2, _), (3, _), (4, _), (5, _)]) (cs := [_, _, _, _, _, _]) ⟨rfl, ⟨_, rfl, tt⟩, ⟨rfl, ⟨_, rfl, tt⟩, ⟨rfl, ⟨_, rfl, tt⟩, ⟨rfl, ⟨_, rfl, tt⟩, ⟨rfl, ⟨_, rfl, tt⟩, ⟨rfl, ⟨_, rfl, tt⟩, trivial⟩⟩⟩⟩⟩⟩ Try.underlying70 Try.sizeOf4 Try.zeroValue4 ⟨rfl, rfl, _, rfl, ⟨rfl, rfl, _, rfl, ⟨rfl, rfl, _, rfl, ⟨rfl, rfl, _, rfl, ⟨rfl, rfl, _, rfl, ⟨rfl, rfl, _, rfl, trivial⟩⟩⟩⟩⟩⟩ rfl (by decide) rfl rfl (fun b66 => ?_)
  refine SL.step (PS.move rfl tt rfl rfl) ?_
  first | refine SL.step (PS.sub_in rfl tt rfl tt (fun _ => wr_i64 (by omega)) rfl rfl) ?_ | refine SL.step (PS.sub rfl tt rfl tt rfl rfl) ?_
  refine SL.step (PS.indexAddr rfl tt rfl tt Try.underlying70 Try.sizeOf4 (fun _ _ _ => by omega) rfl rfl) ?_
  refine SL.step (PS.load_own (k := 0) rfl tt rfl rfl rfl Try.isAgg4 rfl rfl) ?_
  refine SL.keep (l' := [(70, _, _), (14, _, _), (13, _, _), (12, _, _)]) ⟨rfl, rfl, rfl, rfl, trivial⟩ ?_
  refine SL.nil (SE.thenK hK14 ?_)
  refine SC.cond rfl (fun c70 => ?_) (fun c70 => ?_)
  ·
   refine SC.region ?_
   refine SL.step (PS.assign rfl tt rfl rfl) ?_
   refine SL.keep (l' := [(13, _, _), (14, _, _), (12, _, _)]) ⟨rfl, rfl, rfl, trivial⟩ ?_
   refine SL.nil (SE.block_normal (SE.thenK hK8 (SC.seq (fun K15 hK15 => SC.seq (fun K16 hK16 => SC.region ?_)))))
   refine SL.step (PS.move rfl tt rfl rfl) ?_
   refine SL.step (PS.neq rfl tt rfl tt rfl rfl) ?_
   refine SL.keep (l' := [(125, _, _), (13, _, _), (14, _, _), (12, _, _)]) ⟨rfl, rfl, rfl, rfl, trivial⟩ ?_
   refine SL.nil (SE.thenK hK16 ?_)
   refine SC.cond_f rfl (rfl) ?_
   refine SC.skip (SE.thenK hK15 (SC.seq (fun K17 hK17 => SC.region ?_)))
   refine SL.step (PS.move rfl tt rfl rfl) ?_
   refine SL.step (PS.move rfl tt rfl rfl) ?_
   refine SL.step (PS.and rfl tt rfl tt rfl rfl) ?_
   refine SL.step (PS.assign rfl tt rfl rfl) ?_
   refine SL.step (PS.assign rfl tt rfl rfl) ?_
   refine SL.keep (l' := [(11, _, _), (10, _, _)]) ⟨rfl, rfl, trivial⟩ ?_
   refine SL.nil (SE.thenK hK17 (SC.ret ?_))
   first | exact finV2 rfl rfl rfl (fun _ _ => pairV_eq (by rw [ea, eb] at c70; rw [Pl.cutR_f rfl, rr, show Pl.cmp 15 n (a % 2 ^ n) (b % 2 ^ n) = true from c70]; rfl)) | exact finV2 rfl rfl rfl (fun _ _ => pairV_eq (by rw [ea, eb] at c70; rw [Pl.cutR_f rfl, r0, show Pl.cmp 15 n (a % 2 ^ n) (b % 2 ^ n) = false from c70]; rfl))
  ·
   refine SC.skip (SE.block_normal (SE.thenK hK8 (SC.seq (fun K18 hK18 => SC.seq (fun K19 hK19 => SC.region ?_)))))
   refine SL.step (PS.move rfl tt rfl rfl) ?_
   refine SL.step (PS.neq rfl tt rfl tt rfl rfl) ?_
   refine SL.keep (l' := [(125, _, _), (14, _, _), (13, _, _), (12, _, _)]) ⟨rfl, rfl, rfl, rfl, trivial⟩ ?_
   refine SL.nil (SE.thenK hK19 ?_)
   refine SC.cond_f rfl (rfl) ?_
   refine SC.skip (SE.thenK hK18 (SC.seq (fun K20 hK20 => SC.region ?_)))
   refine SL.step (PS.move rfl tt rfl rfl) ?_
   refine SL.step (PS.move rfl tt rfl rfl) ?_
   refine SL.step (PS.and rfl tt rfl tt rfl rfl) ?_
   refine SL.step (PS.assign rfl tt rfl rfl) ?_
   refine SL.step (PS.assign rfl tt rfl rfl) ?_
   refine SL.keep (l' := [(11, _, _), (10, _, _)]) ⟨rfl, rfl, trivial⟩ ?_
   refine SL.nil (SE.thenK hK20 (SC.ret ?_))
   first | exact finV2 rfl rfl rfl (fun _ _ => pairV_eq (by rw [ea, eb] at c70; rw [Pl.cutR_f rfl, rr, show Pl.cmp 15 n (a % 2 ^ n) (b % 2 ^ n) = true from c70]; rfl)) | exact finV2 rfl rfl rfl (fun _ _ => pairV_eq (by rw [ea, eb] at c70; rw [Pl.cutR_f rfl, r0, show Pl.cmp 15 n (a % 2 ^ n) (b % 2 ^ n) = false from c70]; rfl))
theorem apply_c16 (n : Nat) (f a b : Int) (hn : 1 ≤ n) (hn' : n ≤ 64) (ha : 0 ≤ a) (ha' : a < 18446744073709551616) (hb : 0 ≤ b) (hb' : b < 18446744073709551616) (hg : Pl.badA 16 n f = false) :
    SpecV Try.prog 40 [.int .i64 16, .int .i64 n, .int .i64 f, .int .u64 a, .int .u64 b] (pairV (Pl.apply 16 n f a b)) := by
  have ea := Pl.and_mask hn hn' ha ha'
  have eb := Pl.and_mask hn hn' hb hb'
  have ma := Pl.mod_range n a
  have mb := Pl.mod_range n b
  have hp := Pl.pow_le_int hn'
  rw [Pl.apply_ok hg, Pl.core_cmp (by decide)]
  have rr := Pl.and_mask hn hn' (z := 1) (by decide) (by decide)
  have r0 := Pl.and_mask hn hn' (z := 0) (by decide) (by decide)
  refine SpecV.enter Try.func40 rfl (n := 130) Try.ntmps40 (Nat.le_of_ble_eq_true rfl) (l := [(0, _, _), (1, _, _), (2, _, _), (3, _, _), (4, _, _)]) rfl ?_
  intro w
  refine SC.seq (fun K1 hK1 => SC.region ?_)
  refine SL.step (PS.assign rfl tt rfl rfl) ?_
  refine SL.step (PS.assign rfl tt rfl rfl) ?_
  refine SL.keep (l' := [(0, _, _), (1, _, _), (2, _, _), (3, _, _), (4, _, _)]) ⟨rfl, rfl, rfl, rfl, rfl, trivial⟩ ?_
  refine SL.nil (SE.thenK hK1 (SC.seq (fun K2 hK2 => SC.region ?_)))
  refine SL.step (PS.move rfl tt rfl rfl) ?_
  refine SL.callV (vs := [_]) Try.call37 ⟨⟨_, rfl, tt⟩, trivial⟩ (fun hg => mask_V _) rfl rfl ?_
  refine SL.step (PS.assign rfl tt rfl rfl) ?_
  refine SL.keep (l' := [(12, _, _), (0, _, _), (1, _, _), (2, _, _), (3, _, _), (4, _, _)]) ⟨rfl, rfl, rfl, rfl, rfl, rfl, trivial⟩ ?_
  refine SL.nil (SE.thenK hK2 (SC.seq (fun K3 hK3 => SC.seq (fun K4 hK4 => SC.region ?_))))
  refine SL.step (PS.move rfl tt rfl rfl) ?_
  refine SL.step (PS.eql rfl tt rfl tt rfl rfl) ?_
  refine SL.step (PS.move rfl tt rfl rfl) ?_
  refine SL.step (PS.move rfl tt rfl rfl) ?_
  refine SL.step (PS.lss rfl (fun h => h) rfl tt rfl rfl) ?_
  refine SL.step (PS.pick_or rfl tt rfl (fun h h2 => pk_or h h2) rfl rfl) ?_
  refine SL.step (PS.move rfl tt rfl rfl) ?_
  refine SL.step (PS.move rfl tt rfl rfl) ?_
  refine SL.step (PS.gtr rfl (fun h => h) rfl tt rfl rfl) ?_
  refine SL.step (PS.pick_or rfl tt rfl (fun h h2 => pk_or h h2) rfl rfl) ?_
  refine SL.step (PS.move rfl tt rfl rfl) ?_
  refine SL.step (PS.move rfl tt rfl rfl) ?_
  refine SL.step (PS.move rfl tt rfl rfl) ?_
  refine SL.callV (vs := [_]) Try.call35 ⟨⟨_, rfl, (fun h => h)⟩, trivial⟩ (fun hg => flags_V _) rfl rfl ?_
  refine SL.step (PS.andNot rfl (fun h => h) rfl (fun h => h) rfl rfl) ?_
  refine SL.step (PS.neq rfl (fun h => h) rfl tt rfl rfl) ?_
  refine SL.step (PS.pick_or rfl tt rfl (fun h h2 => pk_or h h2) rfl rfl) ?_
  refine SL.keep (l' := [(35, _, _), (12, _, _), (0, _, _), (1, _, _), (2, _, _), (3, _, _), (4, _, _)]) ⟨rfl, rfl, rfl, rfl, rfl, rfl, rfl, trivial⟩ ?_
  refine SL.nil (SE.thenK hK4 ?_)
  refine SC.cond_f rfl (hg) ?_
  refine SC.skip (SE.thenK hK3 (SC.seq (fun K5 hK5 => SC.region ?_)))
  refine SL.step (PS.move rfl tt rfl rfl) ?_
  refine SL.step (PS.move rfl tt rfl rfl) ?_
  refine SL.step (PS.and rfl tt rfl tt rfl rfl) ?_
  refine SL.step (PS.move rfl tt rfl rfl) ?_
  refine SL.step (PS.move rfl tt rfl rfl) ?_
  refine SL.step (PS.and rfl tt rfl tt rfl rfl) ?_
  refine SL.step (PS.assign rfl tt rfl rfl) ?_
  refine SL.step (PS.assign rfl tt rfl rfl) ?_
  refine SL.keep (l' := [(4, _, _), (3, _, _), (12, _, _), (0, _, _), (1, _, _), (2, _, _)]) ⟨rfl, rfl, rfl, rfl, rfl, rfl, trivial⟩ ?_
  refine SL.nil (SE.thenK hK5 (SC.seq (fun K6 hK6 => SC.region ?_)))
  refine SL.step (PS.assign rfl tt rfl rfl) ?_
  refine SL.nil (SE.thenK hK6 (SC.seq (fun K7 hK7 => SC.region ?_)))
  refine SL.step (PS.assign rfl tt rfl rfl) ?_
  refine SL.nil (SE.thenK hK7 (SC.seq (fun K8 hK8 => SC.block (SC.seq (fun K9 hK9 => SC.region ?_)))))
  refine SL.step (PS.move rfl tt rfl rfl) ?_
  refine SL.step (PS.leq rfl tt rfl tt rfl rfl) ?_
  refine SL.step (PS.assign rfl tt rfl rfl) ?_
  refine SL.keep (l' := [(71, _, _), (14, _, _), (13, _, _), (4, _, _), (3, _, _), (12, _, _), (0, _, _), (1, _, _), (2, _, _)]) ⟨rfl, rfl, rfl, rfl, rfl, rfl, rfl, rfl, rfl, trivial⟩ ?_
  refine SL.nil (SE.thenK hK9 ?_)
  refine SC.cond_f rfl (rfl) ?_
  refine SC.seq (fun K10 hK10 => SC.region ?_)
  refine SL.step (PS.move rfl tt rfl rfl) ?_
  refine SL.step (PS.leq rfl tt rfl tt rfl rfl) ?_
  refine SL.step (PS.assign rfl tt rfl rfl) ?_
  refine SL.keep (l' := [(83, _, _), (14, _, _), (13, _, _), (4, _, _), (3, _, _), (12, _, _), (0, _, _), (1, _, _), (2, _, _)]) ⟨rfl, rfl, rfl, rfl, rfl, rfl, rfl, rfl, rfl, trivial⟩ ?_
  refine SL.nil (SE.thenK hK10 ?_)
  refine SC.cond_f rfl (rfl) ?_
  refine SC.seq (fun K11 hK11 => SC.region ?_)
  refine SL.step (PS.move rfl tt rfl rfl) ?_
  refine SL.step (PS.leq rfl tt rfl tt rfl rfl) ?_
  refine SL.step (PS.assign rfl tt rfl rfl) ?_
  refine SL.keep (l' := [(95, _, _), (14, _, _), (13, _, _), (4, _, _), (3, _, _), (12, _, _), (0, _, _), (1, _, _), (2, _, _)]) ⟨rfl, rfl, rfl, rfl, rfl, rfl, rfl, rfl, rfl, trivial⟩ ?_
  refine SL.nil (SE.thenK hK11 ?_)
  refine SC.cond_f rfl (rfl) ?_
  refine SC.seq (fun K12 hK12 => SC.region ?_)
  refine SL.step (PS.move rfl tt rfl rfl) ?_
  refine SL.step (PS.leq rfl tt rfl tt rfl rfl) ?_
  refine SL.step (PS.assign rfl tt rfl rfl) ?_
  refine SL.keep (l' := [(112, _, _), (14, _, _), (13, _, _), (4, _, _), (3, _, _), (12, _, _), (0, _, _), (1, _, _), (2, _, _)]) ⟨rfl, rfl, rfl, rfl, rfl, rfl, rfl, rfl, rfl, trivial⟩ ?_
  refine SL.nil (SE.thenK hK12 ?_)
  refine SC.cond_f rfl (rfl) ?_
  refine SC.seq (fun K13 hK13 => SC.region ?_)
  refine SL.step (PS.move rfl tt rfl rfl) ?_
  refine SL.step (PS.move rfl tt rfl rfl) ?_
  refine SL.callV (vs := [_, _]) Try.call49 ⟨⟨_, rfl, tt⟩, ⟨_, rfl, tt⟩, trivial⟩ (fun hg => signed_V _ _) rfl rfl ?_
  refine SL.step (PS.move rfl tt rfl rfl) ?_
  refine SL.step (PS.move rfl tt rfl rfl) ?_
  refine SL.callV (vs := [_, _]) Try.call49 ⟨⟨_, rfl, tt⟩, ⟨_, rfl, tt⟩, trivial⟩ (fun hg => signed_V _ _) rfl rfl ?_
  refine SL.step (PS.assign rfl tt rfl rfl) ?_
  refine SL.step (PS.assign rfl tt rfl rfl) ?_
  refine SL.keep (l' := [(16, _, _), (15, _, _), (14, _, _), (13, _, _), (4, _, _), (3, _, _), (12, _, _), (0, _, _)]) ⟨rfl, rfl, rfl, rfl, rfl, rfl, rfl, rfl, trivial⟩ ?_
  refine SL.nil (SE.thenK hK13 (SC.seq (fun K14 hK14 => SC.region ?_)))
  refine SL.step (PS.move rfl tt rfl rfl) ?_
  refine SL.step (PS.move rfl tt rfl rfl) ?_
  refine SL.step (PS.eql rfl tt rfl tt rfl rfl) ?_
  refine SL.step (PS.move rfl tt rfl rfl) ?_
  refine SL.step (PS.move rfl tt rfl rfl) ?_
  refine SL.step (PS.neq rfl tt rfl tt rfl rfl) ?_
  refine SL.step (PS.move rfl tt rfl rfl) ?_
  refine SL.step (PS.move rfl tt rfl rfl) ?_
  refine SL.step (PS.lss rfl tt rfl tt rfl rfl) ?_
  refine SL.step (PS.move rfl tt rfl rfl) ?_
  refine SL.step (PS.move rfl tt rfl rfl) ?_
  refine SL.step (PS.leq rfl tt rfl tt rfl rfl) ?_
  refine SL.step (PS.move rfl tt rfl rfl) ?_
  refine SL.step (PS.move rfl tt rfl rfl) ?_
  refine SL.step (PS.lss rfl tt rfl tt rfl rfl) ?_
  refine SL.step (PS.move rfl tt rfl rfl) ?_
  refine SL.step (PS.move rfl tt rfl rfl) ?_
  refine SL.step (PS.leq rfl tt rfl tt rfl rfl) ?_
  refine SL.buildSlice (us := [(0, _), (1, _), (2, _), (3, _), (4, _), (5, _)]) (cs := [_, _, _, _, _, _]) ⟨rfl, ⟨_, rfl, tt⟩, ⟨rfl, ⟨_, rfl, tt⟩, ⟨rfl, ⟨_, rfl, tt⟩, ⟨rfl, ⟨_, rfl, tt⟩, ⟨rfl, ⟨_, rfl, tt⟩, ⟨rfl, ⟨_, rfl, tt⟩, trivial⟩⟩⟩⟩⟩⟩ Try.underlying70 Try.sizeOf4 Try.zeroValue4 ⟨rfl, rfl, _, rfl, ⟨rfl, rfl, _, rfl, ⟨rfl, rfl, _, rfl, ⟨rfl, rfl, _, rfl, ⟨rfl, rfl, _, rfl, ⟨rfl, rfl, _, rfl, trivial⟩⟩⟩⟩⟩⟩ rfl (by decide) rfl rfl (fun b66 => ?_)
  refine SL.step (PS.move rfl tt rfl rfl) ?_
  first | refine SL.step (PS.sub_in rfl tt rfl tt (fun _ => wr_i64 (by omega)) rfl rfl) ?_ | refine SL.step (PS.sub rfl tt rfl tt rfl rfl) ?_
  refine SL.step (PS.indexAddr rfl tt rfl tt Try.underlying70 Try.sizeOf4 (fun _ _ _ => by omega) rfl rfl) ?_
  refine SL.step (PS.load_own (k := 0) rfl tt rfl rfl rfl Try.isAgg4 rfl rfl) ?_
  refine SL.keep (l' := [(70, _, _), (14, _, _), (13, _, _), (12, _, _)]) ⟨rfl, rfl, rfl, rfl, trivial⟩ ?_
  refine SL.nil (SE.thenK hK14 ?_)
  refine SC.cond rfl (fun c70 => ?_) (fun c70 => ?_)
  ·
   refine SC.region ?_
   refine SL.step (PS.assign rfl tt rfl rfl) ?_
   refine SL.keep (l' := [(13, _, _), (14, _, _), (12, _, _)]) ⟨rfl, rfl, rfl, trivial⟩ ?_
   refine SL.nil (SE.block_normal (SE.thenK hK8 (SC.seq (fun K15 hK15 => SC.seq (fun K16 hK16 => SC.region ?_)))))
   refine SL.step (PS.move rfl tt rfl rfl) ?_
   refine SL.step (PS.neq rfl tt rfl tt rfl rfl) ?_
   refine SL.keep (l' := [(125, _, _), (13, _, _), (14, _, _), (12, _, _)]) ⟨rfl, rfl, rfl, rfl, trivial⟩ ?_
   refine SL.nil (SE.thenK hK16 ?_)
   refine SC.cond_f rfl (rfl) ?_
   refine SC.skip (SE.thenK hK15 (SC.seq (fun K17 hK17 => SC.region ?_)))
   refine SL.step (PS.move rfl tt rfl rfl) ?_
   refine SL.step (PS.move rfl tt rfl rfl) ?_
   refine SL.step (PS.and rfl tt rfl tt rfl rfl) ?_
   refine SL.step (PS.assign rfl tt rfl rfl) ?_
   refine SL.step (PS.assign rfl tt rfl rfl) ?_
   refine SL.keep (l' := [(11, _, _), (10, _, _)]) ⟨rfl, rfl, trivial⟩ ?_
   refine SL.nil (SE.thenK hK17 (SC.ret ?_))
   first | exact finV2 rfl rfl rfl (fun _ _ => pairV_eq (by rw [ea, eb] at c70; rw [Pl.cutR_f rfl, rr, show Pl.cmp 16 n (a % 2 ^ n) (b % 2 ^ n) = true from c70]; rfl)) | exact finV2 rfl rfl rfl (fun _ _ => pairV_eq (by rw [ea, eb] at c70; rw [Pl.cutR_f rfl, r0, show Pl.cmp 16 n (a % 2 ^ n) (b % 2 ^ n) = false from c70]; rfl))
  ·
   refine SC.skip (SE.block_normal (SE.thenK hK8 (SC.seq (fun K18 hK18 => SC.seq (fun K19 hK19 => SC.region ?_)))))
   refine SL.step (PS.move rfl tt rfl rfl) ?_
   refine SL.step (PS.neq rfl tt rfl tt rfl rfl) ?_
   refine SL.keep (l' := [(125, _, _), (14, _, _), (13, _, _), (12, _, _)]) ⟨rfl, rfl, rfl, rfl, trivial⟩ ?_
   refine SL.nil (SE.thenK hK19 ?_)
   refine SC.cond_f rfl (rfl) ?_
   refine SC.skip (SE.thenK hK18 (SC.seq (fun K20 hK20 => SC.region ?_)))
   refine SL.step (PS.move rfl tt rfl rfl) ?_
   refine SL.step (PS.move rfl tt rfl rfl) ?_
   refine SL.step (PS.and rfl tt rfl tt rfl rfl) ?_
   refine SL.step (PS.assign rfl tt rfl rfl) ?_
   refine SL.step (PS.assign rfl tt rfl rfl) ?_
   refine SL.keep (l' := [(11, _, _), (10, _, _)]) ⟨rfl, rfl, trivial⟩ ?_
   refine SL.nil (SE.thenK hK20 (SC.ret ?_))
   first | exact finV2 rfl rfl rfl (fun _ _ => pairV_eq (by rw [ea, eb] at c70; rw [Pl.cutR_f rfl, rr, show Pl.cmp 16 n (a % 2 ^ n) (b % 2 ^ n) = true from c70]; rfl)) | exact finV2 rfl rfl rfl (fun _ _ => pairV_eq (by rw [ea, eb] at c70; rw [Pl.cutR_f rfl, r0, show Pl.cmp 16 n (a % 2 ^ n) (b % 2 ^ n) = false from c70]; rfl))
theorem apply_c17 (n : Nat) (f a b : Int) (hn : 1 ≤ n) (hn' : n ≤ 64) (ha : 0 ≤ a) (ha' : a < 18446744073709551616) (hb : 0 ≤ b) (hb' : b < 18446744073709551616) (hg : Pl.badA 17 n f = false) :
    SpecV Try.prog 40 [.int .i64 17, .int .i64 n, .int .i64 f, .int .u64 a, .int .u64 b] (pairV (Pl.apply 17 n f a b)) := by
  have ea := Pl.and_mask hn hn' ha ha'
  have eb := Pl.and_mask hn hn' hb hb'
  have ma := Pl.mod_range n a
  have mb := Pl.mod_range n b
  have hp := Pl.pow_le_int hn'
  rw [Pl.apply_ok hg, Pl.core_cmp (by decide)]
  have rr := Pl.and_mask hn hn' (z := 1) (by decide) (by decide)
  have r0 := Pl.and_mask hn hn' (z := 0) (by decide) (by decide)
  refine SpecV.enter Try.func40 rfl (n := 130) Try.ntmps40 (Nat.le_of_ble_eq_true rfl) (l := [(0, _, _), (1, _, _), (2, _, _), (3, _, _), (4, _, _)]) rfl ?_
  intro w
  refine SC.seq (fun K1 hK1 => SC.region ?_)
  refine SL.step (PS.assign rfl tt rfl rfl) ?_
  refine SL.step (PS.assign rfl tt rfl rfl) ?_
  refine SL.keep (l' := [(0, _, _), (1, _, _), (2, _, _), (3, _, _), (4, _, _)]) ⟨rfl, rfl, rfl, rfl, rfl, trivial⟩ ?_
  refine SL.nil (SE.thenK hK1 (SC.seq (fun K2 hK2 => SC.region ?_)))
  refine SL.step (PS.move rfl tt rfl rfl) ?_
  refine SL.callV (vs := [_]) Try.call37 ⟨⟨_, rfl, tt⟩, trivial⟩ (fun hg => mask_V _) rfl rfl ?_
  refine SL.step (PS.assign rfl tt rfl rfl) ?_
  refine SL.keep (l' := [(12, _, _), (0, _, _), (1, _, _), (2, _, _), (3, _, _), (4, _, _)]) ⟨rfl, rfl, rfl, rfl, rfl, rfl, trivial⟩ ?_
  refine SL.nil (SE.thenK hK2 (SC.seq (fun K3 hK3 => SC.seq (fun K4 hK4 => SC.region ?_))))
  refine SL.step (PS.move rfl tt rfl rfl) ?_
  refine SL.step (PS.eql rfl tt rfl tt rfl rfl) ?_
  refine SL.step (PS.move rfl tt rfl rfl) ?_
  refine SL.step (PS.move rfl tt rfl rfl) ?_
  refine SL.step (PS.lss rfl (fun h => h) rfl tt rfl rfl) ?_
  refine SL.step (PS.pick_or rfl tt rfl (fun h h2 => pk_or h h2) rfl rfl) ?_
  refine SL.step (PS.move rfl tt rfl rfl) ?_
  refine SL.step (PS.move rfl tt rfl rfl) ?_
  refine SL.step (PS.gtr rfl (fun h => h) rfl tt rfl rfl) ?_
  refine SL.step (PS.pick_or rfl tt rfl (fun h h2 => pk_or h h2) rfl rfl) ?_
  refine SL.step (PS.move rfl tt rfl rfl) ?_
  refine SL.step (PS.move rfl tt rfl rfl) ?_
  refine SL.step (PS.move rfl tt rfl rfl) ?_
  refine SL.callV (vs := [_]) Try.call35 ⟨⟨_, rfl, (fun h => h)⟩, trivial⟩ (fun hg => flags_V _) rfl rfl ?_
  refine SL.step (PS.andNot rfl (fun h => h) rfl (fun h => h) rfl rfl) ?_
  refine SL.step (PS.neq rfl (fun h => h) rfl tt rfl rfl) ?_
  refine SL.step (PS.pick_or rfl tt rfl (fun h h2 => pk_or h h2) rfl rfl) ?_
  refine SL.keep (l' := [(35, _, _), (12, _, _), (0, _, _), (1, _, _), (2, _, _), (3, _, _), (4, _, _)]) ⟨rfl, rfl, rfl, rfl, rfl, rfl, rfl, trivial⟩ ?_
  refine SL.nil (SE.thenK hK4 ?_)
  refine SC.cond_f rfl (hg) ?_
  refine SC.skip (SE.thenK hK3 (SC.seq (fun K5 hK5 => SC.region ?_)))
  refine SL.step (PS.move rfl tt rfl rfl) ?_
  refine SL.step (PS.move rfl tt rfl rfl) ?_
  refine SL.step (PS.and rfl tt rfl tt rfl rfl) ?_
  refine SL.step (PS.move rfl tt rfl rfl) ?_
  refine SL.step (PS.move rfl tt rfl rfl) ?_
  refine SL.step (PS.and rfl tt rfl tt rfl rfl) ?_
  refine SL.step (PS.assign rfl tt rfl rfl) ?_
  refine SL.step (PS.assign rfl tt rfl rfl) ?_
  refine SL.keep (l' := [(4, _, _), (3, _, _), (12, _, _), (0, _, _), (1, _, _), (2, _, _)]) ⟨rfl, rfl, rfl, rfl, rfl, rfl, trivial⟩ ?_
  refine SL.nil (SE.thenK hK5 (SC.seq (fun K6 hK6 => SC.region ?_)))
  refine SL.step (PS.assign rfl tt rfl rfl) ?_
  refine SL.nil (SE.thenK hK6 (SC.seq (fun K7 hK7 => SC.region ?_)))
  refine SL.step (PS.assign rfl tt rfl rfl) ?_
  refine SL.nil (SE.thenK hK7 (SC.seq (fun K8 hK8 => SC.block (SC.seq (fun K9 hK9 => SC.region ?_)))))
  refine SL.step (PS.move rfl tt rfl rfl) ?_
  refine SL.step (PS.leq rfl tt rfl tt rfl rfl) ?_
  refine SL.step (PS.assign rfl tt rfl rfl) ?_
  refine SL.keep (l' := [(71, _, _), (14, _, _), (13, _, _), (4, _, _), (3, _, _), (12, _, _), (0, _, _), (1, _, _), (2, _, _)]) ⟨rfl, rfl, rfl, rfl, rfl, rfl, rfl, rfl, rfl, trivial⟩ ?_
  refine SL.nil (SE.thenK hK9 ?_)
  refine SC.cond_f rfl (rfl) ?_
  refine SC.seq (fun K10 hK10 => SC.region ?_)
  refine SL.step (PS.move rfl tt rfl rfl) ?_
  refine SL.step (PS.leq rfl tt rfl tt rfl rfl) ?_
  refine SL.step (PS.assign rfl tt rfl rfl) ?_
  refine SL.keep (l' := [(83, _, _), (14, _, _), (13, _, _), (4, _, _), (3, _, _), (12, _, _), (0, _, _), (1, _, _), (2, _, _)]) ⟨rfl, rfl, rfl, rfl, rfl, rfl, rfl, rfl, rfl, trivial⟩ ?_
  refine SL.nil (SE.thenK hK10 ?_)
  refine SC.cond_f rfl (rfl) ?_
  refine SC.seq (fun K11 hK11 => SC.region ?_)
  refine SL.step (PS.move rfl tt rfl rfl) ?_
  refine SL.step (PS.leq rfl tt rfl tt rfl rfl) ?_
  refine SL.step (PS.assign rfl tt rfl rfl) ?_
  refine SL.keep (l' := [(95, _, _), (14, _, _), (13, _, _), (4, _, _), (3, _, _), (12, _, _), (0, _, _), (1, _, _), (2, _, _)]) ⟨rfl, rfl, rfl, rfl, rfl, rfl, rfl, rfl, rfl, trivial⟩ ?_
  refine SL.nil (SE.thenK hK11 ?_)
  refine SC.cond_f rfl (rfl) ?_
  refine SC.seq (fun K12 hK12 => SC.region ?_)
  refine SL.step (PS.move rfl tt rfl rfl) ?_
  refine SL.step (PS.leq rfl tt rfl tt rfl rfl) ?_
  refine SL.step (PS.assign rfl tt rfl rfl) ?_
  refine SL.keep (l' := [(112, _, _), (14, _, _), (13, _, _), (4, _, _), (3, _, _), (12, _, _), (0, _, _), (1, _, _), (2, _, _)]) ⟨rfl, rfl, rfl, rfl, rfl, rfl, rfl, rfl, rfl, trivial⟩ ?_
  refine SL.nil (SE.thenK hK12 ?_)
  refine SC.cond_f rfl (rfl) ?_
  refine SC.seq (fun K13 hK13 => SC.region ?_)
  refine SL.step (PS.move rfl tt rfl rfl) ?_
  refine SL.step (PS.move rfl tt rfl rfl) ?_
  refine SL.callV (vs := [_, _]) Try.call49 ⟨⟨_, rfl, tt⟩, ⟨_, rfl, tt⟩, trivial⟩ (fun hg => signed_V _ _) rfl rfl ?_
  refine SL.step (PS.move rfl tt rfl rfl) ?_
  refine SL.step (PS.move rfl tt rfl rfl) ?_
  refine SL.callV (vs := [_, _]) Try.call49 ⟨⟨_, rfl, tt⟩, ⟨_, rfl, tt⟩, trivial⟩ (fun hg => signed_V _ _) rfl rfl ?_
  refine SL.step (PS.assign rfl tt rfl rfl) ?_
  refine SL.step (PS.assign rfl tt rfl rfl) ?_
  refine SL.keep (l' := [(16, _, _), (15, _, _), (14, _, _), (13, _, _), (4, _, _), (3, _, _), (12, _, _), (0, _, _)]) ⟨rfl, rfl, rfl, rfl, rfl, rfl, rfl, rfl, trivial⟩ ?_
  refine SL.nil (SE.thenK hK13 (SC.seq (fun K14 hK14 => SC.region ?_)))
  refine SL.step (PS.move rfl tt rfl rfl) ?_
  refine SL.step (PS.move rfl tt rfl rfl) ?_
  refine SL.step (PS.eql rfl tt rfl tt rfl rfl) ?_
  refine SL.step (PS.move rfl tt rfl rfl) ?_
  refine SL.step (PS.move rfl tt rfl rfl) ?_
  refine SL.step (PS.neq rfl tt rfl tt rfl rfl) ?_
  refine SL.step (PS.move rfl tt rfl rfl) ?_
  refine SL.step (PS.move rfl tt rfl rfl) ?_
  refine SL.step (PS.lss rfl tt rfl tt rfl rfl) ?_
  refine SL.step (PS.move rfl tt rfl rfl) ?_
  refine SL.step (PS.move rfl tt rfl rfl) ?_
  refine SL.step (PS.leq rfl tt rfl tt rfl rfl) ?_
  refine SL.step (PS.move rfl tt rfl rfl) ?_
  refine SL.step (PS.move rfl tt rfl rfl) ?_
  refine SL.step (PS.lss rfl tt rfl tt rfl rfl) ?_
  refine SL.step (PS.move rfl tt rfl rfl) ?_
  refine SL.step (PS.move rfl tt rfl rfl) ?_
  refine SL.step (PS.leq rfl tt rfl tt rfl rfl) ?_
  refine SL.buildSlice (us := [(0, _), (1, _), (2, _), (3, _), (4, _), (5, _)]) (cs := [_, _, _, _, _, _]) ⟨rfl, ⟨_, rfl, tt⟩, ⟨rfl, ⟨_, rfl, tt⟩, ⟨rfl, ⟨_, rfl, tt⟩, ⟨rfl, ⟨_, rfl, tt⟩, ⟨rfl, ⟨_, rfl, tt⟩, ⟨rfl, ⟨_, rfl, tt⟩, trivial⟩⟩⟩⟩⟩⟩ Try.underlying70 Try.sizeOf4 Try.zeroValue4 ⟨rfl, rfl, _, rfl, ⟨rfl, rfl, _, rfl, ⟨rfl, rfl, _, rfl, ⟨rfl, rfl, _, rfl, ⟨rfl, rfl, _, rfl, ⟨rfl, rfl, _, rfl, trivial⟩⟩⟩⟩⟩⟩ rfl (by decide) rfl rfl (fun b66 => ?_)
  refine SL.step (PS.move rfl tt rfl rfl) ?_
  first | refine SL.step (PS.sub_in rfl tt rfl tt (fun _ => wr_i64 (by omega)) rfl rfl) ?_ | refine SL.step (PS.sub rfl tt rfl tt rfl rfl) ?_
  refine SL.step (PS.indexAddr rfl tt rfl tt Try.underlying70 Try.sizeOf4 (fun _ _ _ => by omega) rfl rfl) ?_
  refine SL.step (PS.load_own (k := 0) rfl tt rfl rfl rfl Try.isAgg4 rfl rfl) ?_
  refine SL.keep (l' := [(70, _, _), (14, _, _), (13, _, _), (12, _, _)]) ⟨rfl, rfl, rfl, rfl, trivial⟩ ?_
  refine SL.nil (SE.thenK hK14 ?_)
  refine SC.cond rfl (fun c70 => ?_) (fun c70 => ?_)
  ·
   refine SC.region ?_
   refine SL.step (PS.assign rfl tt rfl rfl) ?_
   refine SL.keep (l' := [(13, _, _), (14, _, _), (12, _, _)]) ⟨rfl, rfl, rfl, trivial⟩ ?_
   refine SL.nil (SE.block_normal (SE.thenK hK8 (SC.seq (fun K15 hK15 => SC.seq (fun K16 hK16 => SC.region ?_)))))
   refine SL.step (PS.move rfl tt rfl rfl) ?_
   refine SL.step (PS.neq rfl tt rfl tt rfl rfl) ?_
   refine SL.keep (l' := [(125, _, _), (13, _, _), (14, _, _), (12, _, _)]) ⟨rfl, rfl, rfl, rfl, trivial⟩ ?_
   refine SL.nil (SE.thenK hK16 ?_)
   refine SC.cond_f rfl (rfl) ?_
   refine SC.skip (SE.thenK hK15 (SC.seq (fun K17 hK17 => SC.region ?_)))
   refine SL.step (PS.move rfl tt rfl rfl) ?_
   refine SL.step (PS.move rfl tt rfl rfl) ?_
   refine SL.step (PS.and rfl tt rfl tt rfl rfl) ?_
   refine SL.step (PS.assign rfl tt rfl rfl) ?_
   refine SL.step (PS.assign rfl tt rfl rfl) ?_
   refine SL.keep (l' := [(11, _, _), (10, _, _)]) ⟨rfl, rfl, trivial⟩ ?_
   refine SL.nil (SE.thenK hK17 (SC.ret ?_))
   first | exact finV2 rfl rfl rfl (fun _ _ => pairV_eq (by rw [ea, eb] at c70; rw [Pl.cutR_f rfl, rr, show Pl.cmp 17 n (a % 2 ^ n) (b % 2 ^ n) = true from c70]; rfl)) | exact finV2 rfl rfl rfl (fun _ _ => pairV_eq (by rw [ea, eb] at c70; rw [Pl.cutR_f rfl, r0, show Pl.cmp 17 n (a % 2 ^ n) (b % 2 ^ n) = false from c70]; rfl))
  ·
   refine SC.skip (SE.block_normal (SE.thenK hK8 (SC.seq (fun K18 hK18 => SC.seq (fun K19 hK19 => SC.region ?_)))))
   refine SL.step (PS.move rfl tt rfl rfl) ?_
   refine SL.step (PS.neq rfl tt rfl tt rfl rfl) ?_
   refine SL.keep (l' := [(125, _, _), (14, _, _), (13, _, _), (12, _, _)]) ⟨rfl, rfl, rfl, rfl, trivial⟩ ?_
   refine SL.nil (SE.thenK hK19 ?_)
   refine SC.cond_f rfl (rfl) ?_
   refine SC.skip (SE.thenK hK18 (SC.seq (fun K20 hK20 => SC.region ?_)))
   refine SL.step (PS.move rfl tt rfl rfl) ?_
   refine SL.step (PS.move rfl tt rfl rfl) ?_
   refine SL.step (PS.and rfl tt rfl tt rfl rfl) ?_
   refine SL.step (PS.assign rfl tt rfl rfl) ?_
   refine SL.step (PS.assign rfl tt rfl rfl) ?_
   refine SL.keep (l' := [(11, _, _), (10, _, _)]) ⟨rfl, rfl, trivial⟩ ?_
   refine SL.nil (SE.thenK hK20 (SC.ret ?_))
   first | exact finV2 rfl rfl rfl (fun _ _ => pairV_eq (by rw [ea, eb] at c70; rw [Pl.cutR_f rfl, rr, show Pl.cmp 17 n (a % 2 ^ n) (b % 2 ^ n) = true from c70]; rfl)) | exact finV2 rfl rfl rfl (fun _ _ => pairV_eq (by rw [ea, eb] at c70; rw [Pl.cutR_f rfl, r0, show Pl.cmp 17 n (a % 2 ^ n) (b % 2 ^ n) = false from c70]; rfl))
theorem apply_c18 (n : Nat) (f a b : Int) (hn : 1 ≤ n) (hn' : n ≤ 64) (ha : 0 ≤ a) (ha' : a < 18446744073709551616) (hb : 0 ≤ b) (hb' : b < 18446744073709551616) (hg : Pl.badA 18 n f = false) :
    SpecV Try.prog 40 [.int .i64 18, .int .i64 n, .int .i64 f, .int .u64 a, .int .u64 b] (pairV (Pl.apply 18 n f a b)) := by
  have ea := Pl.and_mask hn hn' ha ha'
  have eb := Pl.and_mask hn hn' hb hb'
  have ma := Pl.mod_range n a
  have mb := Pl.mod_range n b
  have hp := Pl.pow_le_int hn'
  rw [Pl.apply_ok hg, Pl.core_cmp (by decide)]
  have rr := Pl.and_mask hn hn' (z := 1) (by decide) (by decide)
  have r0 := Pl.and_mask hn hn' (z := 0) (by decide) (by decide)
  refine SpecV.enter Try.func40 rfl (n := 130) Try.ntmps40 (Nat.le_of_ble_eq_true rfl) (l := [(0, _, _), (1, _, _), (2, _, _), (3, _, _), (4, _, _)]) rfl ?_
  intro w
  refine SC.seq (fun K1 hK1 => SC.region ?_)
  refine SL.step (PS.assign rfl tt rfl rfl) ?_
  refine SL.step (PS.assign rfl tt rfl rfl) ?_
  refine SL.keep (l' := [(0, _, _), (1, _, _), (2, _, _), (3, _, _), (4, _, _)]) ⟨rfl, rfl, rfl, rfl, rfl, trivial⟩ ?_
  refine SL.nil (SE.thenK hK1 (SC.seq (fun K2 hK2 => SC.region ?_)))
  refine SL.step (PS.move rfl tt rfl rfl) ?_
  refine SL.callV (vs := [_]) Try.call37 ⟨⟨_, rfl, tt⟩, trivial⟩ (fun hg => mask_V _) rfl rfl ?_
  refine SL.step (PS.assign rfl tt rfl rfl) ?_
  refine SL.keep (l' := [(12, _, _), (0, _, _), (1, _, _), (2, _, _), (3, _, _), (4, _, _)]) ⟨rfl, rfl, rfl, rfl, rfl, rfl, trivial⟩ ?_
  refine SL.nil (SE.thenK hK2 (SC.seq (fun K3 hK3 => SC.seq (fun K4 hK4 => SC.region ?_))))
  refine SL.step (PS.move rfl tt rfl rfl) ?_
  refine SL.step (PS.eql rfl tt rfl tt rfl rfl) ?_
  refine SL.step (PS.move rfl tt rfl rfl) ?_
  refine SL.step (PS.move rfl tt rfl rfl) ?_
  refine SL.step (PS.lss rfl (fun h => h) rfl tt rfl rfl) ?_
  refine SL.step (PS.pick_or rfl tt rfl (fun h h2 => pk_or h h2) rfl rfl) ?_
  refine SL.step (PS.move rfl tt rfl rfl) ?_
  refine SL.step (PS.move rfl tt rfl rfl) ?_
  refine SL.step (PS.gtr rfl (fun h => h) rfl tt rfl rfl) ?_
  refine SL.step (PS.pick_or rfl tt rfl (fun h h2 => pk_or h h2) rfl rfl) ?_
  refine SL.step (PS.move rfl tt rfl rfl) ?_
  refine SL.step (PS.move rfl tt rfl rfl) ?_
  refine SL.step (PS.move rfl tt rfl rfl) ?_
  refine SL.callV (vs := [_]) Try.call35 ⟨⟨_, rfl, (fun h => h)⟩, trivial⟩ (fun hg => flags_V _) rfl rfl ?_
  refine SL.step (PS.andNot rfl (fun h => h) rfl (fun h => h) rfl rfl) ?_
  refine SL.step (PS.neq rfl (fun h => h) rfl tt rfl rfl) ?_
  refine SL.step (PS.pick_or rfl tt rfl (fun h h2 => pk_or h h2) rfl rfl) ?_
  refine SL.keep (l' := [(35, _, _), (12, _, _), (0, _, _), (1, _, _), (2, _, _), (3, _, _), (4, _, _)]) ⟨rfl, rfl, rfl, rfl, rfl, rfl, rfl, trivial⟩ ?_
  refine SL.nil (SE.thenK hK4 ?_)
  refine SC.cond_f rfl (hg) ?_
  refine SC.skip (SE.thenK hK3 (SC.seq (fun K5 hK5 => SC.region ?_)))
  refine SL.step (PS.move rfl tt rfl rfl) ?_
  refine SL.step (PS.move rfl tt rfl rfl) ?_
  refine SL.step (PS.and rfl tt rfl tt rfl rfl) ?_
  refine SL.step (PS.move rfl tt rfl rfl) ?_
  refine SL.step (PS.move rfl tt rfl rfl) ?_
  refine SL.step (PS.and rfl tt rfl tt rfl rfl) ?_
  refine SL.step (PS.assign rfl tt rfl rfl) ?_
  refine SL.step (PS.assign rfl tt rfl rfl) ?_
  refine SL.keep (l' := [(4, _, _), (3, _, _), (12, _, _), (0, _, _), (1, _, _), (2, _, _)]) ⟨rfl, rfl, rfl, rfl, rfl, rfl, trivial⟩ ?_
  refine SL.nil (SE.thenK hK5 (SC.seq (fun K6 hK6 => SC.region ?_)))
  refine SL.step (PS.assign rfl tt rfl rfl) ?_
  refine SL.nil (SE.thenK hK6 (SC.seq (fun K7 hK7 => SC.region ?_)))
  refine SL.step (PS.assign rfl tt rfl rfl) ?_
  refine SL.nil (SE.thenK hK7 (SC.seq (fun K8 hK8 => SC.block (SC.seq (fun K9 hK9 => SC.region ?_)))))
  refine SL.step (PS.move rfl tt rfl rfl) ?_
  refine SL.step (PS.leq rfl tt rfl tt rfl rfl) ?_
  refine SL.step (PS.assign rfl tt rfl rfl) ?_
  refine SL.keep (l' := [(71, _, _), (14, _, _), (13, _, _), (4, _, _), (3, _, _), (12, _, _), (0, _, _), (1, _, _), (2, _, _)]) ⟨rfl, rfl, rfl, rfl, rfl, rfl, rfl, rfl, rfl, trivial⟩ ?_
  refine SL.nil (SE.thenK hK9 ?_)
  refine SC.cond_f rfl (rfl) ?_
  refine SC.seq (fun K10 hK10 => SC.region ?_)
  refine SL.step (PS.move rfl tt rfl rfl) ?_
  refine SL.step (PS.leq rfl tt rfl tt rfl rfl) ?_
  refine SL.step (PS.assign rfl tt rfl rfl) ?_
  refine SL.keep (l' := [(83, _, _), (14, _, _), (13, _, _), (4, _, _), (3, _, _), (12, _, _), (0, _, _), (1, _, _), (2, _, _)]) ⟨rfl, rfl, rfl, rfl, rfl, rfl, rfl, rfl, rfl, trivial⟩ ?_
  refine SL.nil (SE.thenK hK10 ?_)
  refine SC.cond_f rfl (rfl) ?_
  refine SC.seq (fun K11 hK11 => SC.region ?_)
  refine SL.step (PS.move rfl tt rfl rfl) ?_
  refine SL.step (PS.leq rfl tt rfl tt rfl rfl) ?_
  refine SL.step (PS.assign rfl tt rfl rfl) ?_
  refine SL.keep (l' := [(95, _, _), (14, _, _), (13, _, _), (4, _, _), (3, _, _), (12, _, _), (0, _, _), (1, _, _), (2, _, _)]) ⟨rfl, rfl, rfl, rfl, rfl, rfl, rfl, rfl, rfl, trivial⟩ ?_
  refine SL.nil (SE.thenK hK11 ?_)
  refine SC.cond_f rfl (rfl) ?_
  refine SC.seq (fun K12 hK12 => SC.region ?_)
  refine SL.step (PS.move rfl tt rfl rfl) ?_
  refine SL.step (PS.leq rfl tt rfl tt rfl rfl) ?_
  refine SL.step (PS.assign rfl tt rfl rfl) ?_
  refine SL.keep (l' := [(112, _, _), (14, _, _), (13, _, _), (4, _, _), (3, _, _), (12, _, _), (0, _, _), (1, _, _), (2, _, _)]) ⟨rfl, rfl, rfl, rfl, rfl, rfl, rfl, rfl, rfl, trivial⟩ ?_
  refine SL.nil (SE.thenK hK12 ?_)
  refine SC.cond_f rfl (rfl) ?_
  refine SC.seq (fun K13 hK13 => SC.region ?_)
  refine SL.step (PS.move rfl tt rfl rfl) ?_
  refine SL.step (PS.move rfl tt rfl rfl) ?_
  refine SL.callV (vs := [_, _]) Try.call49 ⟨⟨_, rfl, tt⟩, ⟨_, rfl, tt⟩, trivial⟩ (fun hg => signed_V _ _) rfl rfl ?_
  refine SL.step (PS.move rfl tt rfl rfl) ?_
  refine SL.step (PS.move rfl tt rfl rfl) ?_
  refine SL.callV (vs := [_, _]) Try.call49 ⟨⟨_, rfl, tt⟩, ⟨_, rfl, tt⟩, trivial⟩ (fun hg => signed_V _ _) rfl rfl ?_
  refine SL.step (PS.assign rfl tt rfl rfl) ?_
  refine SL.step (PS.assign rfl tt rfl rfl) ?_
  refine SL.keep (l' := [(16, _, _), (15, _, _), (14, _, _), (13, _, _), (4, _, _), (3, _, _), (12, _, _), (0, _, _)]) ⟨rfl, rfl, rfl, rfl, rfl, rfl, rfl, rfl, trivial⟩ ?_
  refine SL.nil (SE.thenK hK13 (SC.seq (fun K14 hK14 => SC.region ?_)))
  refine SL.step (PS.move rfl tt rfl rfl) ?_
  refine SL.step (PS.move rfl tt rfl rfl) ?_
  refine SL.step (PS.eql rfl tt rfl tt rfl rfl) ?_
  refine SL.step (PS.move rfl tt rfl rfl) ?_
  refine SL.step (PS.move rfl tt rfl rfl) ?_
  refine SL.step (PS.neq rfl tt rfl tt rfl rfl) ?_
  refine SL.step (PS.move rfl tt rfl rfl) ?_
  refine SL.step (PS.move rfl tt rfl rfl) ?_
  refine SL.step (PS.lss rfl tt rfl tt rfl rfl) ?_
  refine SL.step (PS.move rfl tt rfl rfl) ?_
  refine SL.step (PS.move rfl tt rfl rfl) ?_
  refine SL.step (PS.leq rfl tt rfl tt rfl rfl) ?_
  refine SL.step (PS.move rfl tt rfl rfl) ?_
  refine SL.step (PS.move rfl tt rfl rfl) ?_
  refine SL.step (PS.lss rfl tt rfl tt rfl rfl) ?_
  refine SL.step (PS.move rfl tt rfl rfl) ?_
  refine SL.step (PS.move rfl tt rfl rfl) ?_
  refine SL.step (PS.leq rfl tt rfl tt rfl rfl) ?_
  refine SL.buildSlice (us := [(0, _), (1, _), (2, _), (3, _), (4, _), (5, _)]) (cs := [_, _, _, _, _, _]) ⟨rfl, ⟨_, rfl, tt⟩, ⟨rfl, ⟨_, rfl, tt⟩, ⟨rfl, ⟨_, rfl, tt⟩, ⟨rfl, ⟨_, rfl, tt⟩, ⟨rfl, ⟨_, rfl, tt⟩, ⟨rfl, ⟨_, rfl, tt⟩, trivial⟩⟩⟩⟩⟩⟩ Try.underlying70 Try.sizeOf4 Try.zeroValue4 ⟨rfl, rfl, _, rfl, ⟨rfl, rfl, _, rfl, ⟨rfl, rfl, _, rfl, ⟨rfl, rfl, _, rfl, ⟨rfl, rfl, _, rfl, ⟨rfl, rfl, _, rfl, trivial⟩⟩⟩⟩⟩⟩ rfl (by decide) rfl rfl (fun b66 => ?_)
  refine SL.step (PS.move rfl tt rfl rfl) ?_
  first | refine SL.step (PS.sub_in rfl tt rfl tt (fun _ => wr_i64 (by omega)) rfl rfl) ?_ | refine SL.step (PS.sub rfl tt rfl tt rfl rfl) ?_
  refine SL.step (PS.indexAddr rfl tt rfl tt Try.underlying70 Try.sizeOf4 (fun _ _ _ => by omega) rfl rfl) ?_
  refine SL.step (PS.load_own (k := 0) rfl tt rfl rfl rfl Try.isAgg4 rfl rfl) ?_
  refine SL.keep (l' := [(70, _, _), (14, _, _), (13, _, _), (12, _, _)]) ⟨rfl, rfl, rfl, rfl, trivial⟩ ?_
  refine SL.nil (SE.thenK hK14 ?_)
  refine SC.cond rfl (fun c70 => ?_) (fun c70 => ?_)
  ·
   refine SC.region ?_
   refine SL.step (PS.assign rfl tt rfl rfl) ?_
   refine SL.keep (l' := [(13, _, _), (14, _, _), (12, _, _)]) ⟨rfl, rfl, rfl, trivial⟩ ?_
   refine SL.nil (SE.block_normal (SE.thenK hK8 (SC.seq (fun K15 hK15 => SC.seq (fun K16 hK16 => SC.region ?_)))))
   refine SL.step (PS.move rfl tt rfl rfl) ?_
   refine SL.step (PS.neq rfl tt rfl tt rfl rfl) ?_
   refine SL.keep (l' := [(125, _, _), (13, _, _), (14, _, _), (12, _, _)]) ⟨rfl, rfl, rfl, rfl, trivial⟩ ?_
   refine SL.nil (SE.thenK hK16 ?_)
   refine SC.cond_f rfl (rfl) ?_
   refine SC.skip (SE.thenK hK15 (SC.seq (fun K17 hK17 => SC.region ?_)))
   refine SL.step (PS.move rfl tt rfl rfl) ?_
   refine SL.step (PS.move rfl tt rfl rfl) ?_
   refine SL.step (PS.and rfl tt rfl tt rfl rfl) ?_
   refine SL.step (PS.assign rfl tt rfl rfl) ?_
   refine SL.step (PS.assign rfl tt rfl rfl) ?_
   refine SL.keep (l' := [(11, _, _), (10, _, _)]) ⟨rfl, rfl, trivial⟩ ?_
   refine SL.nil (SE.thenK hK17 (SC.ret ?_))
   first | exact finV2 rfl rfl rfl (fun _ _ => pairV_eq (by rw [ea, eb] at c70; rw [Pl.cutR_f rfl, rr, show Pl.cmp 18 n (a % 2 ^ n) (b % 2 ^ n) = true from by rw [Pl.signed_in hn hn', Pl.signed_in hn hn'] at c70; exact c70]; rfl)) | exact finV2 rfl rfl rfl (fun _ _ => pairV_eq (by rw [ea, eb] at c70; rw [Pl.cutR_f rfl, r0, show Pl.cmp 18 n (a % 2 ^ n) (b % 2 ^ n) = false from by rw [Pl.signed_in hn hn', Pl.signed_in hn hn'] at c70; exact c70]; rfl))
  ·
   refine SC.skip (SE.block_normal (SE.thenK hK8 (SC.seq (fun K18 hK18 => SC.seq (fun K19 hK19 => SC.region ?_)))))
   refine SL.step (PS.move rfl tt rfl rfl) ?_
   refine SL.step (PS.neq rfl tt rfl tt rfl rfl) ?_
   refine SL.keep (l' := [(125, _, _), (14, _, _), (13, _, _), (12, _, _)]) ⟨rfl, rfl, rfl, rfl, trivial⟩ ?_
   refine SL.nil (SE.thenK hK19 ?_)
   refine SC.cond_f rfl (rfl) ?_
   refine SC.skip (SE.thenK hK18 (SC.seq (fun K20 hK20 => SC.region ?_)))
   refine SL.step (PS.move rfl tt rfl rfl) ?_
   refine SL.step (PS.move rfl tt rfl rfl) ?_
   refine SL.step (PS.and rfl tt rfl tt rfl rfl) ?_
   refine SL.step (PS.assign rfl tt rfl rfl) ?_
   refine SL.step (PS.assign rfl tt rfl rfl) ?_
   refine SL.keep (l' := [(11, _, _), (10, _, _)]) ⟨rfl, rfl, trivial⟩ ?_
   refine SL.nil (SE.thenK hK20 (SC.ret ?_))
   first | exact finV2 rfl rfl rfl (fun _ _ => pairV_eq (by rw [ea, eb] at c70; rw [Pl.cutR_f rfl, rr, show Pl.cmp 18 n (a % 2 ^ n) (b % 2 ^ n) = true from by rw [Pl.signed_in hn hn', Pl.signed_in hn hn'] at c70; exact c70]; rfl)) | exact finV2 rfl rfl rfl (fun _ _ => pairV_eq (by rw [ea, eb] at c70; rw [Pl.cutR_f rfl, r0, show Pl.cmp 18 n (a % 2 ^ n) (b % 2 ^ n) = false from by rw [Pl.signed_in hn hn', Pl.signed_in hn hn'] at c70; exact c70]; rfl))
theorem apply_c19 (n : Nat) (f a b : Int) (hn : 1 ≤ n) (hn' : n ≤ 64) (ha : 0 ≤ a) (ha' : a < 18446744073709551616) (hb : 0 ≤ b) (hb' : b < 18446744073709551616) (hg : Pl.badA 19 n f = false) :
    SpecV Try.prog 40 [.int .i64 19, .int .i64 n, .int .i64 f, .int .u64 a, .int .u64 b] (pairV (Pl.apply 19 n f a b)) := by
  have ea := Pl.and_mask hn hn' ha ha'
  have eb := Pl.and_mask hn hn' hb hb'
  have ma := Pl.mod_range n a
  have mb := Pl.mod_range n b
  have hp := Pl.pow_le_int hn'
  rw [Pl.apply_ok hg, Pl.core_cmp (by decide)]
  have rr := Pl.and_mask hn hn' (z := 1) (by decide) (by decide)
  have r0 := Pl.and_mask hn hn' (z := 0) (by decide) (by decide)
  refine SpecV.enter Try.func40 rfl (n := 130) Try.ntmps40 (Nat.le_of_ble_eq_true rfl) (l := [(0, _, _), (1, _, _), (2, _, _), (3, _, _), (4, _, _)]) rfl ?_
  intro w
  refine SC.seq (fun K1 hK1 => SC.region ?_)
  refine SL.step (PS.assign rfl tt rfl rfl) ?_
  refine SL.step (PS.assign rfl tt rfl rfl) ?_
  refine SL.keep (l' := [(0, _, _), (1, _, _), (2, _, _), (3, _, _), (4, _, _)]) ⟨rfl, rfl, rfl, rfl, rfl, trivial⟩ ?_
  refine SL.nil (SE.thenK hK1 (SC.seq (fun K2 hK2 => SC.region ?_)))
  refine SL.step (PS.move rfl tt rfl rfl) ?_
  refine SL.callV (vs := [_]) Try.call37 ⟨⟨_, rfl, tt⟩, trivial⟩ (fun hg => mask_V _) rfl rfl ?_
  refine SL.step (PS.assign rfl tt rfl rfl) ?_
  refine SL.keep (l' := [(12, _, _), (0, _, _), (1, _, _), (2, _, _), (3, _, _), (4, _, _)]) ⟨rfl, rfl, rfl, rfl, rfl, rfl, trivial⟩ ?_
  refine SL.nil (SE.thenK hK2 (SC.seq (fun K3 hK3 => SC.seq (fun K4 hK4 => SC.region ?_))))
  refine SL.step (PS.move rfl tt rfl rfl) ?_
  refine SL.step (PS.eql rfl tt rfl tt rfl rfl) ?_
  refine SL.step (PS.move rfl tt rfl rfl) ?_
  refine SL.step (PS.move rfl tt rfl rfl) ?_
  refine SL.step (PS.lss rfl (fun h => h) rfl tt rfl rfl) ?_
  refine SL.step (PS.pick_or rfl tt rfl (fun h h2 => pk_or h h2) rfl rfl) ?_
  refine SL.step (PS.move rfl tt rfl rfl) ?_
  refine SL.step (PS.move rfl tt rfl rfl) ?_
  refine SL.step (PS.gtr rfl (fun h => h) rfl tt rfl rfl) ?_
  refine SL.step (PS.pick_or rfl tt rfl (fun h h2 => pk_or h h2) rfl rfl) ?_
  refine SL.step (PS.move rfl tt rfl rfl) ?_
  refine SL.step (PS.move rfl tt rfl rfl) ?_
  refine SL.step (PS.move rfl tt rfl rfl) ?_
  refine SL.callV (vs := [_]) Try.call35 ⟨⟨_, rfl, (fun h => h)⟩, trivial⟩ (fun hg => flags_V _) rfl rfl ?_
  refine SL.step (PS.andNot rfl (fun h => h) rfl (fun h => h) rfl rfl) ?_
  refine SL.step (PS.neq rfl (fun h => h) rfl tt rfl rfl) ?_
  refine SL.step (PS.pick_or rfl tt rfl (fun h h2 => pk_or h h2) rfl rfl) ?_
  refine SL.keep (l' := [(35, _, _), (12, _, _), (0, _, _), (1, _, _), (2, _, _), (3, _, _), (4, _, _)]) ⟨rfl, rfl, rfl, rfl, rfl, rfl, rfl, trivial⟩ ?_
  refine SL.nil (SE.thenK hK4 ?_)
  refine SC.cond_f rfl (hg) ?_
  refine SC.skip (SE.thenK hK3 (SC.seq (fun K5 hK5 => SC.region ?_)))
  refine SL.step (PS.move rfl tt rfl rfl) ?_
  refine SL.step (PS.move rfl tt rfl rfl) ?_
  refine SL.step (PS.and rfl tt rfl tt rfl rfl) ?_
  refine SL.step (PS.move rfl tt rfl rfl) ?_
  refine SL.step (PS.move rfl tt rfl rfl) ?_
  refine SL.step (PS.and rfl tt rfl tt rfl rfl) ?_
  refine SL.step (PS.assign rfl tt rfl rfl) ?_
  refine SL.step (PS.assign rfl tt rfl rfl) ?_
  refine SL.keep (l' := [(4, _, _), (3, _, _), (12, _, _), (0, _, _), (1, _, _), (2, _, _)]) ⟨rfl, rfl, rfl, rfl, rfl, rfl, trivial⟩ ?_
  refine SL.nil (SE.thenK hK5 (SC.seq (fun K6 hK6 => SC.region ?_)))
  refine SL.step (PS.assign rfl tt rfl rfl) ?_
  refine SL.nil (SE.thenK hK6 (SC.seq (fun K7 hK7 => SC.region ?_)))
  refine SL.step (PS.assign rfl tt rfl rfl) ?_
  refine SL.nil (SE.thenK hK7 (SC.seq (fun K8 hK8 => SC.block (SC.seq (fun K9 hK9 => SC.region ?_)))))
  refine SL.step (PS.move rfl tt rfl rfl) ?_
  refine SL.step (PS.leq rfl tt rfl tt rfl rfl) ?_
  refine SL.step (PS.assign rfl tt rfl rfl) ?_
  refine SL.keep (l' := [(71, _, _), (14, _, _), (13, _, _), (4, _, _), (3, _, _), (12, _, _), (0, _, _), (1, _, _), (2, _, _)]) ⟨rfl, rfl, rfl, rfl, rfl, rfl, rfl, rfl, rfl, trivial⟩ ?_
  refine SL.nil (SE.thenK hK9 ?_)
  refine SC.cond_f rfl (rfl) ?_
  refine SC.seq (fun K10 hK10 => SC.region ?_)
  refine SL.step (PS.move rfl tt rfl rfl) ?_
  refine SL.step (PS.leq rfl tt rfl tt rfl rfl) ?_
  refine SL.step (PS.assign rfl tt rfl rfl) ?_
  refine SL.keep (l' := [(83, _, _), (14, _, _), (13, _, _), (4, _, _), (3, _, _), (12, _, _), (0, _, _), (1, _, _), (2, _, _)]) ⟨rfl, rfl, rfl, rfl, rfl, rfl, rfl, rfl, rfl, trivial⟩ ?_
  refine SL.nil (SE.thenK hK10 ?_)
  refine SC.cond_f rfl (rfl) ?_
  refine SC.seq (fun K11 hK11 => SC.region ?_)
  refine SL.step (PS.move rfl tt rfl rfl) ?_
  refine SL.step (PS.leq rfl tt rfl tt rfl rfl) ?_
  refine SL.step (PS.assign rfl tt rfl rfl) ?_
  refine SL.keep (l' := [(95, _, _), (14, _, _), (13, _, _), (4, _, _), (3, _, _), (12, _, _), (0, _, _), (1, _, _), (2, _, _)]) ⟨rfl, rfl, rfl, rfl, rfl, rfl, rfl, rfl, rfl, trivial⟩ ?_
  refine SL.nil (SE.thenK hK11 ?_)
  refine SC.cond_f rfl (rfl) ?_
  refine SC.seq (fun K12 hK12 => SC.region ?_)
  refine SL.step (PS.move rfl tt rfl rfl) ?_
  refine SL.step (PS.leq rfl tt rfl tt rfl rfl) ?_
  refine SL.step (PS.assign rfl tt rfl rfl) ?_
  refine SL.keep (l' := [(112, _, _), (14, _, _), (13, _, _), (4, _, _), (3, _, _), (12, _, _), (0, _, _), (1, _, _), (2, _, _)]) ⟨rfl, rfl, rfl, rfl, rfl, rfl, rfl, rfl, rfl, trivial⟩ ?_
  refine SL.nil (SE.thenK hK12 ?_)
  refine SC.cond_f rfl (rfl) ?_
  refine SC.seq (fun K13 hK13 => SC.region ?_)
  refine SL.step (PS.move rfl tt rfl rfl) ?_
  refine SL.step (PS.move rfl tt rfl rfl) ?_
  refine SL.callV (vs := [_, _]) Try.call49 ⟨⟨_, rfl, tt⟩, ⟨_, rfl, tt⟩, trivial⟩ (fun hg => signed_V _ _) rfl rfl ?_
  refine SL.step (PS.move rfl tt rfl rfl) ?_
  refine SL.step (PS.move rfl tt rfl rfl) ?_
  refine SL.callV (vs := [_, _]) Try.call49 ⟨⟨_, rfl, tt⟩, ⟨_, rfl, tt⟩, trivial⟩ (fun hg => signed_V _ _) rfl rfl ?_
  refine SL.step (PS.assign rfl tt rfl rfl) ?_
  refine SL.step (PS.assign rfl tt rfl rfl) ?_
  refine SL.keep (l' := [(16, _, _), (15, _, _), (14, _, _), (13, _, _), (4, _, _), (3, _, _), (12, _, _), (0, _, _)]) ⟨rfl, rfl, rfl, rfl, rfl, rfl, rfl, rfl, trivial⟩ ?_
  refine SL.nil (SE.thenK hK13 (SC.seq (fun K14 hK14 => SC.region ?_)))
  refine SL.step (PS.move rfl tt rfl rfl) ?_
  refine SL.step (PS.move rfl tt rfl rfl) ?_
  refine SL.step (PS.eql rfl tt rfl tt rfl rfl) ?_
  refine SL.step (PS.move rfl tt rfl rfl) ?_
  refine SL.step (PS.move rfl tt rfl rfl) ?_
  refine SL.step (PS.neq rfl tt rfl tt rfl rfl) ?_
  refine SL.step (PS.move rfl tt rfl rfl) ?_
  refine SL.step (PS.move rfl tt rfl rfl) ?_
  refine SL.step (PS.lss rfl tt rfl tt rfl rfl) ?_
  refine SL.step (PS.move rfl tt rfl rfl) ?_
  refine SL.step (PS.move rfl tt rfl rfl) ?_
  refine SL.step (PS.leq rfl tt rfl tt rfl rfl) ?_
  refine SL.step (PS.move rfl tt rfl rfl) ?_
  refine SL.step (PS.move rfl tt rfl rfl) ?_
  refine SL.step (PS.lss rfl tt rfl tt rfl rfl) ?_
  refine SL.step (PS.move rfl tt rfl rfl) ?_
  refine SL.step (PS.move rfl tt rfl rfl) ?_
  refine SL.step (PS.leq rfl tt rfl tt rfl rfl) ?_
  refine SL.buildSlice (us := [(0, _), (1, _), (2, _), (3, _), (4, _), (5, _)]) (cs := [_, _, _, _, _, _]) ⟨rfl, ⟨_, rfl, tt⟩, ⟨rfl, ⟨_, rfl, tt⟩, ⟨rfl, ⟨_, rfl, tt⟩, ⟨rfl, ⟨_, rfl, tt⟩, ⟨rfl, ⟨_, rfl, tt⟩, ⟨rfl, ⟨_, rfl, tt⟩, trivial⟩⟩⟩⟩⟩⟩ Try.underlying70 Try.sizeOf4 Try.zeroValue4 ⟨rfl, rfl, _, rfl, ⟨rfl, rfl, _, rfl, ⟨rfl, rfl, _, rfl, ⟨rfl, rfl, _, rfl, ⟨rfl, rfl, _, rfl, ⟨rfl, rfl, _, rfl, trivial⟩⟩⟩⟩⟩⟩ rfl (by decide) rfl rfl (fun b66 => ?_)
  refine SL.step (PS.move rfl tt rfl rfl) ?_
  first | refine SL.step (PS.sub_in rfl tt rfl tt (fun _ => wr_i64 (by omega)) rfl rfl) ?_ | refine SL.step (PS.sub rfl tt rfl tt rfl rfl) ?_
  refine SL.step (PS.indexAddr rfl tt rfl tt Try.underlying70 Try.sizeOf4 (fun _ _ _ => by omega) rfl rfl) ?_
  refine SL.step (PS.load_own (k := 0) rfl tt rfl rfl rfl Try.isAgg4 rfl rfl) ?_
  refine SL.keep (l' := [(70, _, _), (14, _, _), (13, _, _), (12, _, _)]) ⟨rfl, rfl, rfl, rfl, trivial⟩ ?_
  refine SL.nil (SE.thenK hK14 ?_)
  refine SC.cond rfl (fun c70 => ?_) (fun c70 => ?_)
  ·
   refine SC.region ?_
   refine SL.step (PS.assign rfl tt rfl rfl) ?_
   refine SL.keep (l' := [(13, _, _), (14, _, _), (12, _, _)]) ⟨rfl, rfl, rfl, trivial⟩ ?_
   refine SL.nil (SE.block_normal (SE.thenK hK8 (SC.seq (fun K15 hK15 => SC.seq (fun K16 hK16 => SC.region ?_)))))
   refine SL.step (PS.move rfl tt rfl rfl) ?_
   refine SL.step (PS.neq rfl tt rfl tt rfl rfl) ?_
   refine SL.keep (l' := [(125, _, _), (13, _, _), (14, _, _), (12, _, _)]) ⟨rfl, rfl, rfl, rfl, trivial⟩ ?_
   refine SL.nil (SE.thenK hK16 ?_)
   refine SC.cond_f rfl (rfl) ?_
   refine SC.skip (SE.thenK hK15 (SC.seq (fun K17 hK17 => SC.region ?_)))
   refine SL.step (PS.move rfl tt rfl rfl) ?_
   refine SL.step (PS.move rfl tt rfl rfl) ?_
   refine SL.step (PS.and rfl tt rfl tt rfl rfl) ?_
   refine SL.step (PS.assign rfl tt rfl rfl) ?_
   refine SL.step (PS.assign rfl tt rfl rfl) ?_
   refine SL.keep (l' := [(11, _, _), (10, _, _)]) ⟨rfl, rfl, trivial⟩ ?_
   refine SL.nil (SE.thenK hK17 (SC.ret ?_))
   first | exact finV2 rfl rfl rfl (fun _ _ => pairV_eq (by rw [ea, eb] at c70; rw [Pl.cutR_f rfl, rr, show Pl.cmp 19 n (a % 2 ^ n) (b % 2 ^ n) = true from by rw [Pl.signed_in hn hn', Pl.signed_in hn hn'] at c70; exact c70]; rfl)) | exact finV2 rfl rfl rfl (fun _ _ => pairV_eq (by rw [ea, eb] at c70; rw [Pl.cutR_f rfl, r0, show Pl.cmp 19 n (a % 2 ^ n) (b % 2 ^ n) = false from by rw [Pl.signed_in hn hn', Pl.signed_in hn hn'] at c70; exact c70]; rfl))
  ·
   refine SC.skip (SE.block_normal (SE.thenK hK8 (SC.seq (fun K18 hK18 => SC.seq (fun K19 hK19 => SC.region ?_)))))
   refine SL.step (PS.move rfl tt rfl rfl) ?_
   refine SL.step (PS.neq rfl tt rfl tt rfl rfl) ?_
   refine SL.keep (l' := [(125, _, _), (14, _, _), (13, _, _), (12, _, _)]) ⟨rfl, rfl, rfl, rfl, trivial⟩ ?_
   refine SL.nil (SE.thenK hK19 ?_)
   refine SC.cond_f rfl (rfl) ?_
   refine SC.skip (SE.thenK hK18 (SC.seq (fun K20 hK20 => SC.region ?_)))
   refine SL.step (PS.move rfl tt rfl rfl) ?_
   refine SL.step (PS.move rfl tt rfl rfl) ?_
   refine SL.step (PS.and rfl tt rfl tt rfl rfl) ?_
   refine SL.step (PS.assign rfl tt rfl rfl) ?_
   refine SL.step (PS.assign rfl tt rfl rfl) ?_
   refine SL.keep (l' := [(11, _, _), (10, _, _)]) ⟨rfl, rfl, trivial⟩ ?_
   refine SL.nil (SE.thenK hK20 (SC.ret ?_))
   first | exact finV2 rfl rfl rfl (fun _ _ => pairV_eq (by rw [ea, eb] at c70; rw [Pl.cutR_f rfl, rr, show Pl.cmp 19 n (a % 2 ^ n) (b % 2 ^ n) = true from by rw [Pl.signed_in hn hn', Pl.signed_in hn hn'] at c70; exact c70]; rfl)) | exact finV2 rfl rfl rfl (fun _ _ => pairV_eq (by rw [ea, eb] at c70; rw [Pl.cutR_f rfl, r0, show Pl.cmp 19 n (a % 2 ^ n) (b % 2 ^ n) = false from by rw [Pl.signed_in hn hn', Pl.signed_in hn hn'] at c70; exact c70]; rfl))
theorem apply_V (op w f a b : Int) (hf : -9223372036854775808 ≤ f) (hf' : f ≤ 9223372036854775807) (ha : 0 ≤ a) (ha' : a < 18446744073709551616) (hb : 0 ≤ b) (hb' : b < 18446744073709551616) :
    SpecV Try.prog 40 [.int .i64 op, .int .i64 w, .int .i64 f, .int .u64 a, .int .u64 b] (pairV (Pl.apply op w f a b)) := by
  cases hg : Pl.badA op w f with
  | true =>
    rw [Pl.apply_bad hg]
    refine SpecV.enter Try.func40 rfl (n := 130) Try.ntmps40 (Nat.le_of_ble_eq_true rfl) (l := [(0, _, _), (1, _, _), (2, _, _), (3, _, _), (4, _, _)]) rfl ?_
    intro w
    refine SC.seq (fun K1 hK1 => SC.region ?_)
    refine SL.step (PS.assign rfl tt rfl rfl) ?_
    refine SL.step (PS.assign rfl tt rfl rfl) ?_
    refine SL.keep (l' := [(0, _, _), (1, _, _), (2, _, _), (3, _, _), (4, _, _)]) ⟨rfl, rfl, rfl, rfl, rfl, trivial⟩ ?_
    refine SL.nil (SE.thenK hK1 (SC.seq (fun K2 hK2 => SC.region ?_)))
    refine SL.step (PS.move rfl tt rfl rfl) ?_
    refine SL.callV (vs := [_]) Try.call37 ⟨⟨_, rfl, tt⟩, trivial⟩ (fun hg => mask_V _) rfl rfl ?_
    refine SL.step (PS.assign rfl tt rfl rfl) ?_
    refine SL.keep (l' := [(12, _, _), (0, _, _), (1, _, _), (2, _, _), (3, _, _), (4, _, _)]) ⟨rfl, rfl, rfl, rfl, rfl, rfl, trivial⟩ ?_
    refine SL.nil (SE.thenK hK2 (SC.seq (fun K3 hK3 => SC.seq (fun K4 hK4 => SC.region ?_))))
    refine SL.step (PS.move rfl tt rfl rfl) ?_
    refine SL.step (PS.eql rfl tt rfl tt rfl rfl) ?_
    refine SL.step (PS.move rfl tt rfl rfl) ?_
    refine SL.step (PS.move rfl tt rfl rfl) ?_
    refine SL.step (PS.lss rfl (fun h => h) rfl tt rfl rfl) ?_
    refine SL.step (PS.pick_or rfl tt rfl (fun h h2 => pk_or h h2) rfl rfl) ?_
    refine SL.step (PS.move rfl tt rfl rfl) ?_
    refine SL.step (PS.move rfl tt rfl rfl) ?_
    refine SL.step (PS.gtr rfl (fun h => h) rfl tt rfl rfl) ?_
    refine SL.step (PS.pick_or rfl tt rfl (fun h h2 => pk_or h h2) rfl rfl) ?_
    refine SL.step (PS.move rfl tt rfl rfl) ?_
    refine SL.step (PS.move rfl tt rfl rfl) ?_
    refine SL.step (PS.move rfl tt rfl rfl) ?_
    refine SL.callV (vs := [_]) Try.call35 ⟨⟨_, rfl, (fun h => h)⟩, trivial⟩ (fun hg => flags_V _) rfl rfl ?_
    refine SL.step (PS.andNot rfl (fun h => h) rfl (fun h => h) rfl rfl) ?_
    refine SL.step (PS.neq rfl (fun h => h) rfl tt rfl rfl) ?_
    refine SL.step (PS.pick_or rfl tt rfl (fun h h2 => pk_or h h2) rfl rfl) ?_
    refine SL.keep (l' := [(35, _, _), (12, _, _), (0, _, _), (1, _, _), (2, _, _), (3, _, _), (4, _, _)]) ⟨rfl, rfl, rfl, rfl, rfl, rfl, rfl, trivial⟩ ?_
    refine SL.nil (SE.thenK hK4 ?_)
    refine SC.cond_t rfl (hg) ?_
    refine SC.seq (fun K5 hK5 => SC.region ?_)
    refine SL.step (PS.assign rfl tt rfl rfl) ?_
    refine SL.step (PS.assign rfl tt rfl rfl) ?_
    refine SL.keep (l' := [(11, _, _), (10, _, _)]) ⟨rfl, rfl, trivial⟩ ?_
    refine SL.nil (SE.thenK hK5 (SC.ret (SE.then_ret ?_)))
    exact finV2 rfl rfl rfl (fun _ _ => rfl)
  | false =>
    obtain ⟨⟨n, rfl, hn, hn'⟩, h1, h2, h3⟩ := Pl.goodA hg
    have hc : op = 1 ∨ op = 2 ∨ op = 3 ∨ op = 4 ∨ op = 5 ∨ op = 6 ∨ op = 7 ∨ op = 8 ∨ op = 9 ∨ op = 10 ∨ op = 11 ∨ op = 12 ∨ op = 13 ∨ op = 14 ∨ op = 15 ∨ op = 16 ∨ op = 17 ∨ op = 18 ∨ op = 19 := by omega
    have f3 : (op = 1 ∨ op = 2 ∨ op = 3 ∨ op = 11) → f = 0 ∨ f = 1 ∨ f = 2 ∨ f = 3 := fun h => Pl.flags3 hf hf' (by rw [Pl.flags, if_pos h] at h3; exact h3)
    have f4 : (op = 4 ∨ op = 5 ∨ op = 12 ∨ op = 13) → f = 0 ∨ f = 4 := fun h => Pl.flags4 hf hf' (by rw [Pl.flags, if_neg (by omega), if_pos h] at h3; exact h3)
    have f0 : op ≠ 1 → op ≠ 2 → op ≠ 3 → op ≠ 11 → op ≠ 4 → op ≠ 5 → op ≠ 12 → op ≠ 13 → f = 0 := fun q1 q2 q3 q4 q5 q6 q7 q8 => Pl.flags0 hf hf' (by rw [Pl.flags, if_neg (by omega), if_neg (by omega)] at h3; exact h3)
    rcases (by omega : (op = 1 ∨ op = 2 ∨ op = 3) ∨ (op = 4 ∨ op = 5 ∨ op = 6 ∨ op = 7) ∨ op = 8 ∨ op = 9 ∨ op = 10 ∨ (op = 11 ∨ op = 12 ∨ op = 13) ∨ op = 14 ∨ op = 15 ∨ op = 16 ∨ op = 17 ∨ op = 18 ∨ op = 19) with h | h | rfl | rfl | rfl | h | rfl | rfl | rfl | rfl | rfl | rfl
    · exact apply_ring op n f a b h hn hn' ha ha' hb hb' hg (f3 (by omega))
    · refine apply_div op n f a b h hn hn' ha ha' hb hb' hg ?_
      by_cases c : op = 4 ∨ op = 5
      · rcases f4 (by omega) with h | h
        · exact .inl h
        · exact .inr ⟨h, by omega⟩
      · exact .inl (f0 (by omega) (by omega) (by omega) (by omega) (by omega) (by omega) (by omega) (by omega))
    · exact apply_and n f a b hn hn' ha ha' hb hb' hg
    · exact apply_or n f a b hn hn' ha ha' hb hb' hg
    · exact apply_xor n f a b hn hn' ha ha' hb hb' hg
    · exact apply_shift op n f a b h hn hn' ha ha' hb hb' hg ⟨fun h => f3 (by omega), fun h' => f4 (by omega)⟩
    · exact apply_c14 n f a b hn hn' ha ha' hb hb' hg
    · exact apply_c15 n f a b hn hn' ha ha' hb hb' hg
    · exact apply_c16 n f a b hn hn' ha ha' hb hb' hg
    · exact apply_c17 n f a b hn hn' ha ha' hb hb' hg
    · exact apply_c18 n f a b hn hn' ha ha' hb hb' hg
    · exact apply_c19 n f a b hn hn' ha ha' hb hb' hg
end Go.Proofs.Ytffimfmicapaaaa
