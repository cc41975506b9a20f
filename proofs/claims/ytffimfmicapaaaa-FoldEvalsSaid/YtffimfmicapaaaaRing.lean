/- Contracts of ring: sums, differences, products. -/
import Derived.Test.YtffimfmicapaaaaBits
namespace Go.Proofs.Ytffimfmicapaaaa
open Go.RowKit
set_option linter.unusedVariables false

/-- Two numbers as a pair of results: a word and how it ended. -/
def pairV (p : Int × Int) : Value := .tuple #[.int .u64 p.1, .int .i64 p.2]
theorem pairV_eq {p : Int × Int} {x y : Int} (h : p = (x, y)) : Value.tuple #[.int .u64 x, .int .i64 y] = pairV p := by rw [h]; rfl

theorem ring_add (n : Nat) (f a b : Int) (hn : 1 ≤ n) (hn' : n ≤ 64) (ha : 0 ≤ a) (ha' : a < 18446744073709551616) (hb : 0 ≤ b) (hb' : b < 18446744073709551616) (hf : f = 0 ∨ f = 1 ∨ f = 2 ∨ f = 3) :
    SpecV Try.prog 50 [.int .i64 1, .int .i64 n, .int .i64 f, .int .u64 a, .int .u64 b] (pairV (Pl.ring 1 n f a b)) := by
  refine SpecV.enter Try.func50 rfl (n := 159) Try.ntmps50 (Nat.le_of_ble_eq_true rfl) (l := [(0, _, _), (1, _, _), (2, _, _), (3, _, _), (4, _, _)]) rfl ?_
  intro w
  refine SC.seq (fun K1 hK1 => SC.region ?_)
  refine SL.step (PS.assign rfl tt rfl rfl) ?_
  refine SL.step (PS.assign rfl tt rfl rfl) ?_
  refine SL.keep (l' := [(0, _, _), (1, _, _), (2, _, _), (3, _, _), (4, _, _)]) ⟨rfl, rfl, rfl, rfl, rfl, trivial⟩ ?_
  refine SL.nil (SE.thenK hK1 (SC.seq (fun K2 hK2 => SC.region ?_)))
  refine SL.step (PS.move rfl tt rfl rfl) ?_
  refine SL.step (PS.move rfl tt rfl rfl) ?_
  refine SL.callV (vs := [_, _]) Try.call49 ⟨⟨_, rfl, tt⟩, ⟨_, rfl, tt⟩, trivial⟩ (fun hg => signed_V _ _) rfl rfl ?_
  refine SL.step (PS.move rfl tt rfl rfl) ?_
  refine SL.step (PS.move rfl tt rfl rfl) ?_
  refine SL.callV (vs := [_, _]) Try.call49 ⟨⟨_, rfl, tt⟩, ⟨_, rfl, tt⟩, trivial⟩ (fun hg => signed_V _ _) rfl rfl ?_
  refine SL.step (PS.assign rfl tt rfl rfl) ?_
  refine SL.step (PS.assign rfl tt rfl rfl) ?_
  refine SL.keep (l' := [(13, _, _), (12, _, _), (0, _, _), (1, _, _), (2, _, _), (3, _, _), (4, _, _)]) ⟨rfl, rfl, rfl, rfl, rfl, rfl, rfl, trivial⟩ ?_
  refine SL.nil (SE.thenK hK2 (SC.seq (fun K3 hK3 => SC.region ?_)))
  refine SL.step (PS.assign rfl tt rfl rfl) ?_
  refine SL.keep (l' := [(13, _, _), (12, _, _), (0, _, _), (1, _, _), (2, _, _), (3, _, _), (4, _, _)]) ⟨rfl, rfl, rfl, rfl, rfl, rfl, rfl, trivial⟩ ?_
  refine SL.nil (SE.thenK hK3 (SC.seq (fun K4 hK4 => SC.region ?_)))
  refine SL.step (PS.assign rfl tt rfl rfl) ?_
  refine SL.step (PS.assign rfl tt rfl rfl) ?_
  refine SL.nil (SE.thenK hK4 (SC.seq (fun K5 hK5 => SC.region ?_)))
  refine SL.step (PS.assign rfl tt rfl rfl) ?_
  refine SL.keep (l' := [(16, _, _), (15, _, _), (13, _, _), (12, _, _), (0, _, _), (1, _, _), (2, _, _), (3, _, _), (4, _, _)]) ⟨rfl, rfl, rfl, rfl, rfl, rfl, rfl, rfl, rfl, trivial⟩ ?_
  refine SL.nil (SE.thenK hK5 (SC.seq (fun K6 hK6 => SC.seq (fun K7 hK7 => SC.region ?_))))
  refine SL.step (PS.move rfl tt rfl rfl) ?_
  refine SL.keep (l' := [(30, _, _), (16, _, _), (15, _, _), (13, _, _), (12, _, _), (1, _, _), (2, _, _), (3, _, _), (4, _, _)]) ⟨rfl, rfl, rfl, rfl, rfl, rfl, rfl, rfl, rfl, trivial⟩ ?_
  refine SL.nil (SE.thenK hK7 (SC.block (SC.seq (fun K8 hK8 => SC.region ?_))))
  refine SL.step (PS.eql rfl tt rfl tt rfl rfl) ?_
  refine SL.step (PS.assign rfl tt rfl rfl) ?_
  refine SL.keep (l' := [(50, _, _), (30, _, _), (16, _, _), (15, _, _), (13, _, _), (12, _, _), (1, _, _), (2, _, _), (3, _, _), (4, _, _)]) ⟨rfl, rfl, rfl, rfl, rfl, rfl, rfl, rfl, rfl, rfl, trivial⟩ ?_
  refine SL.nil (SE.thenK hK8 ?_)
  refine SC.cond_t rfl (rfl) ?_
  refine SC.seq (fun K9 hK9 => SC.region ?_)
  refine SL.step (PS.move rfl tt rfl rfl) ?_
  refine SL.step (PS.move rfl tt rfl rfl) ?_
  refine SL.step (PS.ext (vs := [_, _, _]) ⟨⟨_, rfl, tt⟩, ⟨_, rfl, tt⟩, ⟨_, rfl, tt⟩, trivial⟩ (fun _ w => add64_run _ _ ha hb w) rfl rfl) ?_
  refine SL.step (PS.move rfl tt rfl rfl) ?_
  refine SL.step (PS.extract rfl tt rfl rfl rfl) ?_
  refine SL.step (PS.extract rfl tt rfl rfl rfl) ?_
  refine SL.step (PS.assign rfl tt rfl rfl) ?_
  refine SL.step (PS.assign rfl tt rfl rfl) ?_
  refine SL.keep (l' := [(19, _, _), (18, _, _), (16, _, _), (13, _, _), (12, _, _), (1, _, _), (2, _, _)]) ⟨rfl, rfl, rfl, rfl, rfl, rfl, rfl, trivial⟩ ?_
  refine SL.nil (SE.thenK hK9 (SC.seq (fun K10 hK10 => SC.region ?_)))
  refine SL.step (PS.move rfl tt rfl rfl) ?_
  refine SL.step (PS.move rfl tt rfl rfl) ?_
  refine SL.step (PS.eql rfl tt rfl tt rfl rfl) ?_
  refine SL.step (PS.move rfl tt rfl rfl) ?_
  refine SL.step (PS.move rfl tt rfl rfl) ?_
  refine SL.step (PS.move rfl tt rfl rfl) ?_
  refine SL.callV (vs := [_]) Try.call37 ⟨⟨_, rfl, (fun h => h)⟩, trivial⟩ (fun hg => mask_V _) rfl rfl ?_
  refine SL.step (PS.gtr rfl (fun h => h) rfl (fun h => h) rfl rfl) ?_
  refine SL.step (PS.pick_or rfl tt rfl (fun h h2 => pk_or h h2) rfl rfl) ?_
  refine SL.step (PS.assign rfl tt rfl rfl) ?_
  refine SL.step (PS.assign rfl tt rfl rfl) ?_
  refine SL.keep (l' := [(15, _, _), (14, _, _), (16, _, _), (13, _, _), (12, _, _), (1, _, _), (2, _, _)]) ⟨rfl, rfl, rfl, rfl, rfl, rfl, rfl, trivial⟩ ?_
  refine SL.nil (SE.thenK hK10 (SC.seq (fun K11 hK11 => SC.region ?_)))
  refine SL.step (PS.move rfl tt rfl rfl) ?_
  refine SL.step (PS.move rfl tt rfl rfl) ?_
  refine SL.step (PS.add rfl tt rfl tt rfl rfl) ?_
  refine SL.step (PS.assign rfl tt rfl rfl) ?_
  refine SL.keep (l' := [(20, _, _), (15, _, _), (14, _, _), (16, _, _), (13, _, _), (12, _, _), (1, _, _), (2, _, _)]) ⟨rfl, rfl, rfl, rfl, rfl, rfl, rfl, rfl, trivial⟩ ?_
  refine SL.nil (SE.thenK hK11 (SC.region ?_))
  refine SL.step (PS.move rfl tt rfl rfl) ?_
  refine SL.step (PS.gtr rfl tt rfl tt rfl rfl) ?_
  refine SL.step (PS.move rfl tt rfl rfl) ?_
  refine SL.step (PS.move rfl tt rfl rfl) ?_
  refine SL.step (PS.gtr rfl (fun h => h) rfl tt rfl rfl) ?_
  refine SL.step (PS.pick_and rfl tt rfl (fun h h2 => pk_and h h2) rfl rfl) ?_
  refine SL.step (PS.move rfl tt rfl rfl) ?_
  refine SL.step (PS.move rfl tt rfl rfl) ?_
  refine SL.step (PS.leq rfl (fun h => h) rfl tt rfl rfl) ?_
  refine SL.step (PS.pick_and rfl tt rfl (fun h h2 => pk_and h h2) rfl rfl) ?_
  refine SL.step (PS.move rfl tt rfl rfl) ?_
  refine SL.step (PS.move rfl tt rfl rfl) ?_
  refine SL.step (PS.lss rfl (fun h => h) rfl tt rfl rfl) ?_
  refine SL.step (PS.move rfl (fun h => h) rfl rfl) ?_
  refine SL.step (PS.move rfl tt rfl rfl) ?_
  refine SL.step (PS.lss rfl (fun h => h) rfl tt rfl rfl) ?_
  refine SL.step (PS.pick_and rfl (fun h => h) rfl (fun h h2 => pk_and h h2) rfl rfl) ?_
  refine SL.step (PS.move rfl (fun h => h) rfl rfl) ?_
  refine SL.step (PS.move rfl tt rfl rfl) ?_
  refine SL.step (PS.geq rfl (fun h => h) rfl tt rfl rfl) ?_
  refine SL.step (PS.pick_and rfl (fun h => h) rfl (fun h h2 => pk_and h h2) rfl rfl) ?_
  refine SL.step (PS.pick_or rfl tt rfl (fun h h2 => pk_or h h2) rfl rfl) ?_
  refine SL.step (PS.move rfl tt rfl rfl) ?_
  refine SL.step (PS.move rfl tt rfl rfl) ?_
  refine SL.step (PS.move rfl tt rfl rfl) ?_
  refine SL.step (PS.move rfl tt rfl rfl) ?_
  refine SL.step (PS.conv rfl (fun h => h) Try.underlying2 Try.underlying27 rfl rfl) ?_
  refine SL.callV (vs := [_, _]) Try.call49 ⟨⟨_, rfl, (fun h => h)⟩, ⟨_, rfl, (fun h => h)⟩, trivial⟩ (fun hg => signed_V _ _) rfl rfl ?_
  refine SL.step (PS.neq rfl (fun h => h) rfl (fun h => h) rfl rfl) ?_
  refine SL.step (PS.pick_or rfl tt rfl (fun h h2 => pk_or h h2) rfl rfl) ?_
  refine SL.step (PS.assign rfl tt rfl rfl) ?_
  refine SL.keep (l' := [(17, _, _), (15, _, _), (14, _, _), (16, _, _), (2, _, _)]) ⟨rfl, rfl, rfl, rfl, rfl, trivial⟩ ?_
  refine SL.nil (SE.block_normal (SE.thenK hK6 (SC.seq (fun K12 hK12 => SC.seq (fun K13 hK13 => SC.region ?_)))))
  refine SL.step (PS.move rfl tt rfl rfl) ?_
  refine SL.step (PS.and rfl tt rfl tt rfl rfl) ?_
  refine SL.step (PS.neq rfl tt rfl tt rfl rfl) ?_
  refine SL.step (PS.move rfl tt rfl rfl) ?_
  refine SL.step (PS.move rfl tt rfl rfl) ?_
  refine SL.step (PS.move rfl (fun h => h) rfl rfl) ?_
  refine SL.step (PS.move rfl tt rfl rfl) ?_
  refine SL.step (PS.pick_or rfl (fun h => h) rfl (fun h h2 => pk_or h h2) rfl rfl) ?_
  refine SL.step (PS.pick_and rfl tt rfl (fun h h2 => pk_and h h2) rfl rfl) ?_
  refine SL.step (PS.move rfl tt rfl rfl) ?_
  refine SL.step (PS.move rfl tt rfl rfl) ?_
  refine SL.step (PS.and rfl (fun h => h) rfl tt rfl rfl) ?_
  refine SL.step (PS.neq rfl (fun h => h) rfl tt rfl rfl) ?_
  refine SL.step (PS.move rfl (fun h => h) rfl rfl) ?_
  refine SL.step (PS.move rfl tt rfl rfl) ?_
  refine SL.step (PS.pick_and rfl (fun h => h) rfl (fun h h2 => pk_and h h2) rfl rfl) ?_
  refine SL.step (PS.pick_or rfl tt rfl (fun h h2 => pk_or h h2) rfl rfl) ?_
  refine SL.keep (l' := [(157, _, _), (14, _, _)]) ⟨rfl, rfl, trivial⟩ ?_
  refine SL.nil (SE.thenK hK13 ?_)
  refine SC.cond rfl (fun c157 => ?_) (fun c157 => ?_)
  ·
   refine SC.seq (fun K14 hK14 => ?_)
   rw [Pl.nuw_eq hf, Pl.nsw_eq hf, Bool.or_false, Pl.above_add hn hn' ha hb ha' hb', Pl.wraps_add hn hn'] at c157
   refine SC.region ?_
   refine SL.step (PS.assign rfl tt rfl rfl) ?_
   refine SL.step (PS.assign rfl tt rfl rfl) ?_
   refine SL.keep (l' := [(11, _, _), (10, _, _)]) ⟨rfl, rfl, trivial⟩ ?_
   refine SL.nil (SE.thenK hK14 (SC.ret (SE.then_ret ?_)))
   first | exact finV2 rfl rfl rfl (fun _ _ => pairV_eq (Pl.ring_t rfl rfl c157)) | exact finV2 rfl rfl rfl (fun _ _ => pairV_eq (Pl.ring_f rfl rfl c157))
  ·
   refine SC.skip (SE.thenK hK12 (SC.seq (fun K15 hK15 => ?_)))
   rw [Pl.nuw_eq hf, Pl.nsw_eq hf, Bool.or_false, Pl.above_add hn hn' ha hb ha' hb', Pl.wraps_add hn hn'] at c157
   refine SC.region ?_
   refine SL.step (PS.move rfl tt rfl rfl) ?_
   refine SL.step (PS.assign rfl tt rfl rfl) ?_
   refine SL.step (PS.assign rfl tt rfl rfl) ?_
   refine SL.keep (l' := [(11, _, _), (10, _, _)]) ⟨rfl, rfl, trivial⟩ ?_
   refine SL.nil (SE.thenK hK15 (SC.ret ?_))
   first | exact finV2 rfl rfl rfl (fun _ _ => pairV_eq (Pl.ring_t rfl rfl c157)) | exact finV2 rfl rfl rfl (fun _ _ => pairV_eq (Pl.ring_f rfl rfl c157))

theorem ring_sub (n : Nat) (f a b : Int) (hn : 1 ≤ n) (hn' : n ≤ 64) (hb : 0 ≤ b) (ha' : a < 2 ^ n) (hf : f = 0 ∨ f = 1 ∨ f = 2 ∨ f = 3) :
    SpecV Try.prog 50 [.int .i64 2, .int .i64 n, .int .i64 f, .int .u64 a, .int .u64 b] (pairV (Pl.ring 2 n f a b)) := by
  refine SpecV.enter Try.func50 rfl (n := 159) Try.ntmps50 (Nat.le_of_ble_eq_true rfl) (l := [(0, _, _), (1, _, _), (2, _, _), (3, _, _), (4, _, _)]) rfl ?_
  intro w
  refine SC.seq (fun K1 hK1 => SC.region ?_)
  refine SL.step (PS.assign rfl tt rfl rfl) ?_
  refine SL.step (PS.assign rfl tt rfl rfl) ?_
  refine SL.keep (l' := [(0, _, _), (1, _, _), (2, _, _), (3, _, _), (4, _, _)]) ⟨rfl, rfl, rfl, rfl, rfl, trivial⟩ ?_
  refine SL.nil (SE.thenK hK1 (SC.seq (fun K2 hK2 => SC.region ?_)))
  refine SL.step (PS.move rfl tt rfl rfl) ?_
  refine SL.step (PS.move rfl tt rfl rfl) ?_
  refine SL.callV (vs := [_, _]) Try.call49 ⟨⟨_, rfl, tt⟩, ⟨_, rfl, tt⟩, trivial⟩ (fun hg => signed_V _ _) rfl rfl ?_
  refine SL.step (PS.move rfl tt rfl rfl) ?_
  refine SL.step (PS.move rfl tt rfl rfl) ?_
  refine SL.callV (vs := [_, _]) Try.call49 ⟨⟨_, rfl, tt⟩, ⟨_, rfl, tt⟩, trivial⟩ (fun hg => signed_V _ _) rfl rfl ?_
  refine SL.step (PS.assign rfl tt rfl rfl) ?_
  refine SL.step (PS.assign rfl tt rfl rfl) ?_
  refine SL.keep (l' := [(13, _, _), (12, _, _), (0, _, _), (1, _, _), (2, _, _), (3, _, _), (4, _, _)]) ⟨rfl, rfl, rfl, rfl, rfl, rfl, rfl, trivial⟩ ?_
  refine SL.nil (SE.thenK hK2 (SC.seq (fun K3 hK3 => SC.region ?_)))
  refine SL.step (PS.assign rfl tt rfl rfl) ?_
  refine SL.keep (l' := [(13, _, _), (12, _, _), (0, _, _), (1, _, _), (2, _, _), (3, _, _), (4, _, _)]) ⟨rfl, rfl, rfl, rfl, rfl, rfl, rfl, trivial⟩ ?_
  refine SL.nil (SE.thenK hK3 (SC.seq (fun K4 hK4 => SC.region ?_)))
  refine SL.step (PS.assign rfl tt rfl rfl) ?_
  refine SL.step (PS.assign rfl tt rfl rfl) ?_
  refine SL.nil (SE.thenK hK4 (SC.seq (fun K5 hK5 => SC.region ?_)))
  refine SL.step (PS.assign rfl tt rfl rfl) ?_
  refine SL.keep (l' := [(16, _, _), (15, _, _), (13, _, _), (12, _, _), (0, _, _), (1, _, _), (2, _, _), (3, _, _), (4, _, _)]) ⟨rfl, rfl, rfl, rfl, rfl, rfl, rfl, rfl, rfl, trivial⟩ ?_
  refine SL.nil (SE.thenK hK5 (SC.seq (fun K6 hK6 => SC.seq (fun K7 hK7 => SC.region ?_))))
  refine SL.step (PS.move rfl tt rfl rfl) ?_
  refine SL.keep (l' := [(30, _, _), (16, _, _), (15, _, _), (13, _, _), (12, _, _), (1, _, _), (2, _, _), (3, _, _), (4, _, _)]) ⟨rfl, rfl, rfl, rfl, rfl, rfl, rfl, rfl, rfl, trivial⟩ ?_
  refine SL.nil (SE.thenK hK7 (SC.block (SC.seq (fun K8 hK8 => SC.region ?_))))
  refine SL.step (PS.eql rfl tt rfl tt rfl rfl) ?_
  refine SL.step (PS.assign rfl tt rfl rfl) ?_
  refine SL.keep (l' := [(50, _, _), (30, _, _), (16, _, _), (15, _, _), (13, _, _), (12, _, _), (1, _, _), (2, _, _), (3, _, _), (4, _, _)]) ⟨rfl, rfl, rfl, rfl, rfl, rfl, rfl, rfl, rfl, rfl, trivial⟩ ?_
  refine SL.nil (SE.thenK hK8 ?_)
  refine SC.cond_f rfl (rfl) ?_
  refine SC.seq (fun K9 hK9 => SC.region ?_)
  refine SL.step (PS.eql rfl tt rfl tt rfl rfl) ?_
  refine SL.step (PS.assign rfl tt rfl rfl) ?_
  refine SL.keep (l' := [(100, _, _), (16, _, _), (15, _, _), (13, _, _), (12, _, _), (1, _, _), (2, _, _), (3, _, _), (4, _, _)]) ⟨rfl, rfl, rfl, rfl, rfl, rfl, rfl, rfl, rfl, trivial⟩ ?_
  refine SL.nil (SE.thenK hK9 ?_)
  refine SC.cond_t rfl (rfl) ?_
  refine SC.seq (fun K10 hK10 => SC.region ?_)
  refine SL.step (PS.move rfl tt rfl rfl) ?_
  refine SL.step (PS.move rfl tt rfl rfl) ?_
  refine SL.step (PS.sub rfl tt rfl tt rfl rfl) ?_
  refine SL.step (PS.move rfl tt rfl rfl) ?_
  refine SL.step (PS.move rfl tt rfl rfl) ?_
  refine SL.step (PS.lss rfl tt rfl tt rfl rfl) ?_
  refine SL.step (PS.assign rfl tt rfl rfl) ?_
  refine SL.step (PS.assign rfl tt rfl rfl) ?_
  refine SL.keep (l' := [(16, _, _), (14, _, _), (15, _, _), (13, _, _), (12, _, _), (1, _, _), (2, _, _)]) ⟨rfl, rfl, rfl, rfl, rfl, rfl, rfl, trivial⟩ ?_
  refine SL.nil (SE.thenK hK10 (SC.seq (fun K11 hK11 => SC.region ?_)))
  refine SL.step (PS.move rfl tt rfl rfl) ?_
  refine SL.step (PS.move rfl tt rfl rfl) ?_
  refine SL.step (PS.sub rfl tt rfl tt rfl rfl) ?_
  refine SL.step (PS.assign rfl tt rfl rfl) ?_
  refine SL.keep (l' := [(21, _, _), (16, _, _), (14, _, _), (15, _, _), (13, _, _), (12, _, _), (1, _, _), (2, _, _)]) ⟨rfl, rfl, rfl, rfl, rfl, rfl, rfl, rfl, trivial⟩ ?_
  refine SL.nil (SE.thenK hK11 (SC.region ?_))
  refine SL.step (PS.move rfl tt rfl rfl) ?_
  refine SL.step (PS.geq rfl tt rfl tt rfl rfl) ?_
  refine SL.step (PS.move rfl tt rfl rfl) ?_
  refine SL.step (PS.move rfl tt rfl rfl) ?_
  refine SL.step (PS.lss rfl (fun h => h) rfl tt rfl rfl) ?_
  refine SL.step (PS.pick_and rfl tt rfl (fun h h2 => pk_and h h2) rfl rfl) ?_
  refine SL.step (PS.move rfl tt rfl rfl) ?_
  refine SL.step (PS.move rfl tt rfl rfl) ?_
  refine SL.step (PS.lss rfl (fun h => h) rfl tt rfl rfl) ?_
  refine SL.step (PS.pick_and rfl tt rfl (fun h h2 => pk_and h h2) rfl rfl) ?_
  refine SL.step (PS.move rfl tt rfl rfl) ?_
  refine SL.step (PS.move rfl tt rfl rfl) ?_
  refine SL.step (PS.lss rfl (fun h => h) rfl tt rfl rfl) ?_
  refine SL.step (PS.move rfl (fun h => h) rfl rfl) ?_
  refine SL.step (PS.move rfl tt rfl rfl) ?_
  refine SL.step (PS.gtr rfl (fun h => h) rfl tt rfl rfl) ?_
  refine SL.step (PS.pick_and rfl (fun h => h) rfl (fun h h2 => pk_and h h2) rfl rfl) ?_
  refine SL.step (PS.move rfl (fun h => h) rfl rfl) ?_
  refine SL.step (PS.move rfl tt rfl rfl) ?_
  refine SL.step (PS.geq rfl (fun h => h) rfl tt rfl rfl) ?_
  refine SL.step (PS.pick_and rfl (fun h => h) rfl (fun h h2 => pk_and h h2) rfl rfl) ?_
  refine SL.step (PS.pick_or rfl tt rfl (fun h h2 => pk_or h h2) rfl rfl) ?_
  refine SL.step (PS.move rfl tt rfl rfl) ?_
  refine SL.step (PS.move rfl tt rfl rfl) ?_
  refine SL.step (PS.move rfl tt rfl rfl) ?_
  refine SL.step (PS.move rfl tt rfl rfl) ?_
  refine SL.step (PS.conv rfl (fun h => h) Try.underlying2 Try.underlying27 rfl rfl) ?_
  refine SL.callV (vs := [_, _]) Try.call49 ⟨⟨_, rfl, (fun h => h)⟩, ⟨_, rfl, (fun h => h)⟩, trivial⟩ (fun hg => signed_V _ _) rfl rfl ?_
  refine SL.step (PS.neq rfl (fun h => h) rfl (fun h => h) rfl rfl) ?_
  refine SL.step (PS.pick_or rfl tt rfl (fun h h2 => pk_or h h2) rfl rfl) ?_
  refine SL.step (PS.assign rfl tt rfl rfl) ?_
  refine SL.keep (l' := [(17, _, _), (16, _, _), (14, _, _), (15, _, _), (2, _, _)]) ⟨rfl, rfl, rfl, rfl, rfl, trivial⟩ ?_
  refine SL.nil (SE.block_normal (SE.thenK hK6 (SC.seq (fun K12 hK12 => SC.seq (fun K13 hK13 => SC.region ?_)))))
  refine SL.step (PS.move rfl tt rfl rfl) ?_
  refine SL.step (PS.and rfl tt rfl tt rfl rfl) ?_
  refine SL.step (PS.neq rfl tt rfl tt rfl rfl) ?_
  refine SL.step (PS.move rfl tt rfl rfl) ?_
  refine SL.step (PS.move rfl tt rfl rfl) ?_
  refine SL.step (PS.move rfl (fun h => h) rfl rfl) ?_
  refine SL.step (PS.move rfl tt rfl rfl) ?_
  refine SL.step (PS.pick_or rfl (fun h => h) rfl (fun h h2 => pk_or h h2) rfl rfl) ?_
  refine SL.step (PS.pick_and rfl tt rfl (fun h h2 => pk_and h h2) rfl rfl) ?_
  refine SL.step (PS.move rfl tt rfl rfl) ?_
  refine SL.step (PS.move rfl tt rfl rfl) ?_
  refine SL.step (PS.and rfl (fun h => h) rfl tt rfl rfl) ?_
  refine SL.step (PS.neq rfl (fun h => h) rfl tt rfl rfl) ?_
  refine SL.step (PS.move rfl (fun h => h) rfl rfl) ?_
  refine SL.step (PS.move rfl tt rfl rfl) ?_
  refine SL.step (PS.pick_and rfl (fun h => h) rfl (fun h h2 => pk_and h h2) rfl rfl) ?_
  refine SL.step (PS.pick_or rfl tt rfl (fun h h2 => pk_or h h2) rfl rfl) ?_
  refine SL.keep (l' := [(157, _, _), (14, _, _)]) ⟨rfl, rfl, trivial⟩ ?_
  refine SL.nil (SE.thenK hK13 ?_)
  refine SC.cond rfl (fun c157 => ?_) (fun c157 => ?_)
  ·
   refine SC.seq (fun K14 hK14 => ?_)
   rw [Pl.nuw_eq hf, Pl.nsw_eq hf, Bool.false_or, Pl.below_sub hn hn' hb ha', Pl.wraps_sub hn hn'] at c157
   refine SC.region ?_
   refine SL.step (PS.assign rfl tt rfl rfl) ?_
   refine SL.step (PS.assign rfl tt rfl rfl) ?_
   refine SL.keep (l' := [(11, _, _), (10, _, _)]) ⟨rfl, rfl, trivial⟩ ?_
   refine SL.nil (SE.thenK hK14 (SC.ret (SE.then_ret ?_)))
   first | exact finV2 rfl rfl rfl (fun _ _ => pairV_eq (Pl.ring_t rfl rfl c157)) | exact finV2 rfl rfl rfl (fun _ _ => by rw [IntKind.wrap_u64]; exact pairV_eq (Pl.ring_f rfl rfl c157))
  ·
   refine SC.skip (SE.thenK hK12 (SC.seq (fun K15 hK15 => ?_)))
   rw [Pl.nuw_eq hf, Pl.nsw_eq hf, Bool.false_or, Pl.below_sub hn hn' hb ha', Pl.wraps_sub hn hn'] at c157
   refine SC.region ?_
   refine SL.step (PS.move rfl tt rfl rfl) ?_
   refine SL.step (PS.assign rfl tt rfl rfl) ?_
   refine SL.step (PS.assign rfl tt rfl rfl) ?_
   refine SL.keep (l' := [(11, _, _), (10, _, _)]) ⟨rfl, rfl, trivial⟩ ?_
   refine SL.nil (SE.thenK hK15 (SC.ret ?_))
   first | exact finV2 rfl rfl rfl (fun _ _ => pairV_eq (Pl.ring_t rfl rfl c157)) | exact finV2 rfl rfl rfl (fun _ _ => by rw [IntKind.wrap_u64]; exact pairV_eq (Pl.ring_f rfl rfl c157))

theorem ring_mul (n : Nat) (f a b : Int) (hn : 1 ≤ n) (hn' : n ≤ 64) (ha : 0 ≤ a) (ha' : a < 18446744073709551616) (hb : 0 ≤ b) (hb' : b < 18446744073709551616) (hf : f = 0 ∨ f = 1 ∨ f = 2 ∨ f = 3) :
    SpecV Try.prog 50 [.int .i64 3, .int .i64 n, .int .i64 f, .int .u64 a, .int .u64 b] (pairV (Pl.ring 3 n f a b)) := by
  have s1 := Pl.sgn_i64 hn hn' a
  have s2 := Pl.sgn_i64 hn hn' b
  have hp := Int.mul_nonneg ha hb
  refine SpecV.enter Try.func50 rfl (n := 159) Try.ntmps50 (Nat.le_of_ble_eq_true rfl) (l := [(0, _, _), (1, _, _), (2, _, _), (3, _, _), (4, _, _)]) rfl ?_
  intro w
  refine SC.seq (fun K1 hK1 => SC.region ?_)
  refine SL.step (PS.assign rfl tt rfl rfl) ?_
  refine SL.step (PS.assign rfl tt rfl rfl) ?_
  refine SL.keep (l' := [(0, _, _), (1, _, _), (2, _, _), (3, _, _), (4, _, _)]) ⟨rfl, rfl, rfl, rfl, rfl, trivial⟩ ?_
  refine SL.nil (SE.thenK hK1 (SC.seq (fun K2 hK2 => SC.region ?_)))
  refine SL.step (PS.move rfl tt rfl rfl) ?_
  refine SL.step (PS.move rfl tt rfl rfl) ?_
  refine SL.callV (vs := [_, _]) Try.call49 ⟨⟨_, rfl, tt⟩, ⟨_, rfl, tt⟩, trivial⟩ (fun hg => signed_V _ _) rfl rfl ?_
  refine SL.step (PS.move rfl tt rfl rfl) ?_
  refine SL.step (PS.move rfl tt rfl rfl) ?_
  refine SL.callV (vs := [_, _]) Try.call49 ⟨⟨_, rfl, tt⟩, ⟨_, rfl, tt⟩, trivial⟩ (fun hg => signed_V _ _) rfl rfl ?_
  refine SL.step (PS.assign rfl tt rfl rfl) ?_
  refine SL.step (PS.assign rfl tt rfl rfl) ?_
  refine SL.keep (l' := [(13, _, _), (12, _, _), (0, _, _), (1, _, _), (2, _, _), (3, _, _), (4, _, _)]) ⟨rfl, rfl, rfl, rfl, rfl, rfl, rfl, trivial⟩ ?_
  refine SL.nil (SE.thenK hK2 (SC.seq (fun K3 hK3 => SC.region ?_)))
  refine SL.step (PS.assign rfl tt rfl rfl) ?_
  refine SL.keep (l' := [(13, _, _), (12, _, _), (0, _, _), (1, _, _), (2, _, _), (3, _, _), (4, _, _)]) ⟨rfl, rfl, rfl, rfl, rfl, rfl, rfl, trivial⟩ ?_
  refine SL.nil (SE.thenK hK3 (SC.seq (fun K4 hK4 => SC.region ?_)))
  refine SL.step (PS.assign rfl tt rfl rfl) ?_
  refine SL.step (PS.assign rfl tt rfl rfl) ?_
  refine SL.nil (SE.thenK hK4 (SC.seq (fun K5 hK5 => SC.region ?_)))
  refine SL.step (PS.assign rfl tt rfl rfl) ?_
  refine SL.keep (l' := [(16, _, _), (15, _, _), (13, _, _), (12, _, _), (0, _, _), (1, _, _), (2, _, _), (3, _, _), (4, _, _)]) ⟨rfl, rfl, rfl, rfl, rfl, rfl, rfl, rfl, rfl, trivial⟩ ?_
  refine SL.nil (SE.thenK hK5 (SC.seq (fun K6 hK6 => SC.seq (fun K7 hK7 => SC.region ?_))))
  refine SL.step (PS.move rfl tt rfl rfl) ?_
  refine SL.keep (l' := [(30, _, _), (16, _, _), (15, _, _), (13, _, _), (12, _, _), (1, _, _), (2, _, _), (3, _, _), (4, _, _)]) ⟨rfl, rfl, rfl, rfl, rfl, rfl, rfl, rfl, rfl, trivial⟩ ?_
  refine SL.nil (SE.thenK hK7 (SC.block (SC.seq (fun K8 hK8 => SC.region ?_))))
  refine SL.step (PS.eql rfl tt rfl tt rfl rfl) ?_
  refine SL.step (PS.assign rfl tt rfl rfl) ?_
  refine SL.keep (l' := [(50, _, _), (30, _, _), (16, _, _), (15, _, _), (13, _, _), (12, _, _), (1, _, _), (2, _, _), (3, _, _), (4, _, _)]) ⟨rfl, rfl, rfl, rfl, rfl, rfl, rfl, rfl, rfl, rfl, trivial⟩ ?_
  refine SL.nil (SE.thenK hK8 ?_)
  refine SC.cond_f rfl (rfl) ?_
  refine SC.seq (fun K9 hK9 => SC.region ?_)
  refine SL.step (PS.eql rfl tt rfl tt rfl rfl) ?_
  refine SL.step (PS.assign rfl tt rfl rfl) ?_
  refine SL.keep (l' := [(100, _, _), (16, _, _), (15, _, _), (13, _, _), (12, _, _), (1, _, _), (2, _, _), (3, _, _), (4, _, _)]) ⟨rfl, rfl, rfl, rfl, rfl, rfl, rfl, rfl, rfl, trivial⟩ ?_
  refine SL.nil (SE.thenK hK9 ?_)
  refine SC.cond_f rfl (rfl) ?_
  refine SC.seq (fun K10 hK10 => SC.region ?_)
  refine SL.step (PS.move rfl tt rfl rfl) ?_
  refine SL.step (PS.move rfl tt rfl rfl) ?_
  refine SL.callV (vs := [_, _]) Try.call56 ⟨⟨_, rfl, tt⟩, ⟨_, rfl, tt⟩, trivial⟩ (fun hg => mul64_V _ _ ha ha' hb hb') rfl rfl ?_
  refine SL.step (PS.move rfl tt rfl rfl) ?_
  refine SL.step (PS.extract rfl tt rfl rfl rfl) ?_
  refine SL.step (PS.extract rfl tt rfl rfl rfl) ?_
  refine SL.step (PS.assign rfl tt rfl rfl) ?_
  refine SL.step (PS.assign rfl tt rfl rfl) ?_
  refine SL.keep (l' := [(23, _, _), (22, _, _), (16, _, _), (13, _, _), (12, _, _), (1, _, _), (2, _, _)]) ⟨rfl, rfl, rfl, rfl, rfl, rfl, rfl, trivial⟩ ?_
  refine SL.nil (SE.thenK hK10 (SC.seq (fun K11 hK11 => SC.region ?_)))
  refine SL.step (PS.move rfl tt rfl rfl) ?_
  refine SL.step (PS.move rfl tt rfl rfl) ?_
  refine SL.step (PS.neq rfl tt rfl tt rfl rfl) ?_
  refine SL.step (PS.move rfl tt rfl rfl) ?_
  refine SL.step (PS.move rfl tt rfl rfl) ?_
  refine SL.step (PS.move rfl tt rfl rfl) ?_
  refine SL.callV (vs := [_]) Try.call37 ⟨⟨_, rfl, (fun h => h)⟩, trivial⟩ (fun hg => mask_V _) rfl rfl ?_
  refine SL.step (PS.gtr rfl (fun h => h) rfl (fun h => h) rfl rfl) ?_
  refine SL.step (PS.pick_or rfl tt rfl (fun h h2 => pk_or h h2) rfl rfl) ?_
  refine SL.step (PS.assign rfl tt rfl rfl) ?_
  refine SL.step (PS.assign rfl tt rfl rfl) ?_
  refine SL.keep (l' := [(15, _, _), (14, _, _), (16, _, _), (13, _, _), (12, _, _), (1, _, _), (2, _, _)]) ⟨rfl, rfl, rfl, rfl, rfl, rfl, rfl, trivial⟩ ?_
  refine SL.nil (SE.thenK hK11 (SC.region ?_))
  refine SL.step (PS.move rfl tt rfl rfl) ?_
  refine SL.step (PS.move rfl tt rfl rfl) ?_
  refine SL.step (PS.move rfl tt rfl rfl) ?_
  refine SL.callV (vs := [_, _, _]) Try.call57 ⟨⟨_, rfl, tt⟩, ⟨_, rfl, tt⟩, ⟨_, rfl, tt⟩, trivial⟩ (fun hg => product_V _ _ _ hn hn' (by rw [Pl.signed_in hn hn']; omega) (by rw [Pl.signed_in hn hn']; omega) (by rw [Pl.signed_in hn hn']; omega) (by rw [Pl.signed_in hn hn']; omega)) rfl rfl ?_
  refine SL.step (PS.assign rfl tt rfl rfl) ?_
  refine SL.keep (l' := [(17, _, _), (15, _, _), (14, _, _), (16, _, _), (2, _, _)]) ⟨rfl, rfl, rfl, rfl, rfl, trivial⟩ ?_
  refine SL.nil (SE.block_normal (SE.thenK hK6 (SC.seq (fun K12 hK12 => SC.seq (fun K13 hK13 => SC.region ?_)))))
  refine SL.step (PS.move rfl tt rfl rfl) ?_
  refine SL.step (PS.and rfl tt rfl tt rfl rfl) ?_
  refine SL.step (PS.neq rfl tt rfl tt rfl rfl) ?_
  refine SL.step (PS.move rfl tt rfl rfl) ?_
  refine SL.step (PS.move rfl tt rfl rfl) ?_
  refine SL.step (PS.move rfl (fun h => h) rfl rfl) ?_
  refine SL.step (PS.move rfl tt rfl rfl) ?_
  refine SL.step (PS.pick_or rfl (fun h => h) rfl (fun h h2 => pk_or h h2) rfl rfl) ?_
  refine SL.step (PS.pick_and rfl tt rfl (fun h h2 => pk_and h h2) rfl rfl) ?_
  refine SL.step (PS.move rfl tt rfl rfl) ?_
  refine SL.step (PS.move rfl tt rfl rfl) ?_
  refine SL.step (PS.and rfl (fun h => h) rfl tt rfl rfl) ?_
  refine SL.step (PS.neq rfl (fun h => h) rfl tt rfl rfl) ?_
  refine SL.step (PS.move rfl (fun h => h) rfl rfl) ?_
  refine SL.step (PS.move rfl tt rfl rfl) ?_
  refine SL.step (PS.pick_and rfl (fun h => h) rfl (fun h h2 => pk_and h h2) rfl rfl) ?_
  refine SL.step (PS.pick_or rfl tt rfl (fun h h2 => pk_or h h2) rfl rfl) ?_
  refine SL.keep (l' := [(157, _, _), (14, _, _)]) ⟨rfl, rfl, trivial⟩ ?_
  refine SL.nil (SE.thenK hK13 ?_)
  refine SC.cond rfl (fun c157 => ?_) (fun c157 => ?_)
  ·
   refine SC.seq (fun K14 hK14 => ?_)
   rw [Pl.nuw_eq hf, Pl.nsw_eq hf, Bool.or_false, Pl.above_mul hn hn' hp, Pl.signed_in hn hn', Pl.signed_in hn hn'] at c157
   refine SC.region ?_
   refine SL.step (PS.assign rfl tt rfl rfl) ?_
   refine SL.step (PS.assign rfl tt rfl rfl) ?_
   refine SL.keep (l' := [(11, _, _), (10, _, _)]) ⟨rfl, rfl, trivial⟩ ?_
   refine SL.nil (SE.thenK hK14 (SC.ret (SE.then_ret ?_)))
   first | exact finV2 rfl rfl rfl (fun _ _ => pairV_eq (Pl.ring_t rfl rfl c157)) | exact finV2 rfl rfl rfl (fun _ _ => pairV_eq (Pl.ring_f rfl rfl c157))
  ·
   refine SC.skip (SE.thenK hK12 (SC.seq (fun K15 hK15 => ?_)))
   rw [Pl.nuw_eq hf, Pl.nsw_eq hf, Bool.or_false, Pl.above_mul hn hn' hp, Pl.signed_in hn hn', Pl.signed_in hn hn'] at c157
   refine SC.region ?_
   refine SL.step (PS.move rfl tt rfl rfl) ?_
   refine SL.step (PS.assign rfl tt rfl rfl) ?_
   refine SL.step (PS.assign rfl tt rfl rfl) ?_
   refine SL.keep (l' := [(11, _, _), (10, _, _)]) ⟨rfl, rfl, trivial⟩ ?_
   refine SL.nil (SE.thenK hK15 (SC.ret ?_))
   first | exact finV2 rfl rfl rfl (fun _ _ => pairV_eq (Pl.ring_t rfl rfl c157)) | exact finV2 rfl rfl rfl (fun _ _ => pairV_eq (Pl.ring_f rfl rfl c157))

theorem ring_V (op : Int) (n : Nat) (f a b : Int) (ho : op = 1 ∨ op = 2 ∨ op = 3) (hn : 1 ≤ n) (hn' : n ≤ 64) (ha : 0 ≤ a) (ha' : a < 2 ^ n) (hb : 0 ≤ b) (hb' : b < 2 ^ n) (hf : f = 0 ∨ f = 1 ∨ f = 2 ∨ f = 3) :
    SpecV Try.prog 50 [.int .i64 op, .int .i64 n, .int .i64 f, .int .u64 a, .int .u64 b] (pairV (Pl.ring op n f a b)) := by
  obtain ⟨M, h1, _, _, h2, hM, hle, _, _⟩ := Pl.dbl hn hn'
  rcases ho with rfl | rfl | rfl
  · exact ring_add n f a b hn hn' ha (by omega) hb (by omega) hf
  · exact ring_sub n f a b hn hn' hb ha' hf
  · exact ring_mul n f a b hn hn' ha (by omega) hb (by omega) hf
end Go.Proofs.Ytffimfmicapaaaa
