/- Contracts of Convert, count, Norm. -/
import Derived.Test.YtffimfmicapaaaaApply
namespace Go.Proofs.Ytffimfmicapaaaa
open Go.RowKit
set_option linter.unusedVariables false
open Pl (Vl)

def pairB (p : Int × Bool) : Value := .tuple #[.int .u64 p.1, .bool p.2]
theorem pairB_eq {p : Int × Bool} {x : Int} {y : Bool} (h : p = (x, y)) : Value.tuple #[.int .u64 x, .bool y] = pairB p := by rw [h]; rfl
theorem convert_V (op p q v : Int) (hv : 0 ≤ v) (hv' : v < 18446744073709551616) : SpecV Try.prog 36 [.int .i64 op, .int .i64 p, .int .i64 q, .int .u64 v] (pairB (Pl.conv op p q v)) := by
  refine SpecV.enter Try.func36 rfl (n := 57) Try.ntmps36 (Nat.le_of_ble_eq_true rfl) (l := [(0, _, _), (1, _, _), (2, _, _), (3, _, _)]) rfl ?_
  intro w
  refine SC.seq (fun K1 hK1 => SC.region ?_)
  refine SL.step (PS.assign rfl tt rfl rfl) ?_
  refine SL.step (PS.assign rfl tt rfl rfl) ?_
  refine SL.keep (l' := [(0, _, _), (1, _, _), (2, _, _), (3, _, _)]) ⟨rfl, rfl, rfl, rfl, trivial⟩ ?_
  refine SL.nil (SE.thenK hK1 (SC.seq (fun K2 hK2 => SC.seq (fun K3 hK3 => SC.region ?_))))
  refine SL.step (PS.move rfl tt rfl rfl) ?_
  refine SL.callV (vs := [_]) Try.call37 ⟨⟨_, rfl, tt⟩, trivial⟩ (fun hg => mask_V _) rfl rfl ?_
  refine SL.step (PS.eql rfl tt rfl tt rfl rfl) ?_
  refine SL.step (PS.move rfl tt rfl rfl) ?_
  refine SL.step (PS.move rfl tt rfl rfl) ?_
  refine SL.callV (vs := [_]) Try.call37 ⟨⟨_, rfl, (fun h => h)⟩, trivial⟩ (fun hg => mask_V _) rfl rfl ?_
  refine SL.step (PS.eql rfl (fun h => h) rfl tt rfl rfl) ?_
  refine SL.step (PS.pick_or rfl tt rfl (fun h h2 => pk_or h h2) rfl rfl) ?_
  refine SL.keep (l' := [(17, _, _), (0, _, _), (1, _, _), (2, _, _), (3, _, _)]) ⟨rfl, rfl, rfl, rfl, rfl, trivial⟩ ?_
  refine SL.nil (SE.thenK hK3 ?_)
  refine SC.cond rfl (fun c17 => ?_) (fun c17 => ?_)
  ·
   refine SC.seq (fun K4 hK4 => SC.region ?_)
   refine SL.step (PS.assign rfl tt rfl rfl) ?_
   refine SL.step (PS.assign rfl tt rfl rfl) ?_
   refine SL.keep (l' := [(9, _, _), (8, _, _)]) ⟨rfl, rfl, trivial⟩ ?_
   refine SL.nil (SE.thenK hK4 (SC.ret (SE.then_ret ?_)))
   first | exact finV2 rfl rfl rfl (fun _ _ => pairB_eq (Pl.conv_bad c17)) | exact finV2 rfl rfl rfl (fun _ _ => pairB_eq (by rw [Pl.conv_z c17 c18, Pl.and_maskI (Pl.nz (Pl.or_f c17).1) hv hv'])) | exact finV2 rfl rfl rfl (fun _ _ => pairB_eq (by rw [Pl.conv_s c17 c18 c30, Pl.signedI (Pl.nz (Pl.or_f c17).1), Pl.and_maskW (Pl.nz (Pl.or_f c17).2)])) | exact finV2 rfl rfl rfl (fun _ _ => pairB_eq (by rw [Pl.conv_t c17 c18 c30 c45, Pl.and_maskI (Pl.nz (Pl.or_f c17).2) hv hv'])) | exact finV2 rfl rfl rfl (fun _ _ => pairB_eq (Pl.conv_0 c18 c30 c45))
  ·
   refine SC.skip (SE.thenK hK2 (SC.seq (fun K5 hK5 => SC.block (SC.seq (fun K6 hK6 => SC.region ?_)))))
   refine SL.step (PS.move rfl tt rfl rfl) ?_
   refine SL.step (PS.eql rfl tt rfl tt rfl rfl) ?_
   refine SL.step (PS.move rfl tt rfl rfl) ?_
   refine SL.step (PS.move rfl tt rfl rfl) ?_
   refine SL.step (PS.move rfl tt rfl rfl) ?_
   refine SL.step (PS.lss rfl (fun h => h) rfl (fun h => h) rfl rfl) ?_
   refine SL.step (PS.pick_and rfl tt rfl (fun h h2 => pk_and h h2) rfl rfl) ?_
   refine SL.step (PS.assign rfl tt rfl rfl) ?_
   refine SL.keep (l' := [(18, _, _), (0, _, _), (1, _, _), (2, _, _), (3, _, _)]) ⟨rfl, rfl, rfl, rfl, rfl, trivial⟩ ?_
   refine SL.nil (SE.thenK hK6 ?_)
   refine SC.cond rfl (fun c18 => ?_) (fun c18 => ?_)
   ·
    refine SC.seq (fun K7 hK7 => SC.region ?_)
    refine SL.step (PS.move rfl tt rfl rfl) ?_
    refine SL.step (PS.move rfl tt rfl rfl) ?_
    refine SL.callV (vs := [_]) Try.call37 ⟨⟨_, rfl, tt⟩, trivial⟩ (fun hg => mask_V _) rfl rfl ?_
    refine SL.step (PS.and rfl tt rfl tt rfl rfl) ?_
    refine SL.step (PS.assign rfl tt rfl rfl) ?_
    refine SL.step (PS.assign rfl tt rfl rfl) ?_
    refine SL.keep (l' := [(9, _, _), (8, _, _)]) ⟨rfl, rfl, trivial⟩ ?_
    refine SL.nil (SE.thenK hK7 (SC.ret (SE.block_ret (SE.then_ret ?_))))
    first | exact finV2 rfl rfl rfl (fun _ _ => pairB_eq (Pl.conv_bad c17)) | exact finV2 rfl rfl rfl (fun _ _ => pairB_eq (by rw [Pl.conv_z c17 c18, Pl.and_maskI (Pl.nz (Pl.or_f c17).1) hv hv'])) | exact finV2 rfl rfl rfl (fun _ _ => pairB_eq (by rw [Pl.conv_s c17 c18 c30, Pl.signedI (Pl.nz (Pl.or_f c17).1), Pl.and_maskW (Pl.nz (Pl.or_f c17).2)])) | exact finV2 rfl rfl rfl (fun _ _ => pairB_eq (by rw [Pl.conv_t c17 c18 c30 c45, Pl.and_maskI (Pl.nz (Pl.or_f c17).2) hv hv'])) | exact finV2 rfl rfl rfl (fun _ _ => pairB_eq (Pl.conv_0 c18 c30 c45))
   ·
    refine SC.seq (fun K8 hK8 => SC.region ?_)
    refine SL.step (PS.move rfl tt rfl rfl) ?_
    refine SL.step (PS.eql rfl tt rfl tt rfl rfl) ?_
    refine SL.step (PS.move rfl tt rfl rfl) ?_
    refine SL.step (PS.move rfl tt rfl rfl) ?_
    refine SL.step (PS.move rfl tt rfl rfl) ?_
    refine SL.step (PS.lss rfl (fun h => h) rfl (fun h => h) rfl rfl) ?_
    refine SL.step (PS.pick_and rfl tt rfl (fun h h2 => pk_and h h2) rfl rfl) ?_
    refine SL.step (PS.assign rfl tt rfl rfl) ?_
    refine SL.keep (l' := [(30, _, _), (0, _, _), (1, _, _), (2, _, _), (3, _, _)]) ⟨rfl, rfl, rfl, rfl, rfl, trivial⟩ ?_
    refine SL.nil (SE.thenK hK8 ?_)
    refine SC.cond rfl (fun c30 => ?_) (fun c30 => ?_)
    ·
     refine SC.seq (fun K9 hK9 => SC.region ?_)
     refine SL.step (PS.move rfl tt rfl rfl) ?_
     refine SL.step (PS.move rfl tt rfl rfl) ?_
     refine SL.callV (vs := [_, _]) Try.call49 ⟨⟨_, rfl, tt⟩, ⟨_, rfl, tt⟩, trivial⟩ (fun hg => signed_V _ _) rfl rfl ?_
     refine SL.step (PS.conv rfl tt Try.underlying2 Try.underlying27 rfl rfl) ?_
     refine SL.step (PS.move rfl tt rfl rfl) ?_
     refine SL.callV (vs := [_]) Try.call37 ⟨⟨_, rfl, tt⟩, trivial⟩ (fun hg => mask_V _) rfl rfl ?_
     refine SL.step (PS.and rfl tt rfl tt rfl rfl) ?_
     refine SL.step (PS.assign rfl tt rfl rfl) ?_
     refine SL.step (PS.assign rfl tt rfl rfl) ?_
     refine SL.keep (l' := [(9, _, _), (8, _, _)]) ⟨rfl, rfl, trivial⟩ ?_
     refine SL.nil (SE.thenK hK9 (SC.ret (SE.block_ret (SE.then_ret ?_))))
     first | exact finV2 rfl rfl rfl (fun _ _ => pairB_eq (Pl.conv_bad c17)) | exact finV2 rfl rfl rfl (fun _ _ => pairB_eq (by rw [Pl.conv_z c17 c18, Pl.and_maskI (Pl.nz (Pl.or_f c17).1) hv hv'])) | exact finV2 rfl rfl rfl (fun _ _ => pairB_eq (by rw [Pl.conv_s c17 c18 c30, Pl.signedI (Pl.nz (Pl.or_f c17).1), Pl.and_maskW (Pl.nz (Pl.or_f c17).2)])) | exact finV2 rfl rfl rfl (fun _ _ => pairB_eq (by rw [Pl.conv_t c17 c18 c30 c45, Pl.and_maskI (Pl.nz (Pl.or_f c17).2) hv hv'])) | exact finV2 rfl rfl rfl (fun _ _ => pairB_eq (Pl.conv_0 c18 c30 c45))
    ·
     refine SC.seq (fun K10 hK10 => SC.region ?_)
     refine SL.step (PS.move rfl tt rfl rfl) ?_
     refine SL.step (PS.eql rfl tt rfl tt rfl rfl) ?_
     refine SL.step (PS.move rfl tt rfl rfl) ?_
     refine SL.step (PS.move rfl tt rfl rfl) ?_
     refine SL.step (PS.move rfl tt rfl rfl) ?_
     refine SL.step (PS.lss rfl (fun h => h) rfl (fun h => h) rfl rfl) ?_
     refine SL.step (PS.pick_and rfl tt rfl (fun h h2 => pk_and h h2) rfl rfl) ?_
     refine SL.step (PS.assign rfl tt rfl rfl) ?_
     refine SL.keep (l' := [(45, _, _), (2, _, _), (3, _, _)]) ⟨rfl, rfl, rfl, trivial⟩ ?_
     refine SL.nil (SE.thenK hK10 ?_)
     refine SC.cond rfl (fun c45 => ?_) (fun c45 => ?_)
     ·
      refine SC.seq (fun K11 hK11 => SC.region ?_)
      refine SL.step (PS.move rfl tt rfl rfl) ?_
      refine SL.step (PS.move rfl tt rfl rfl) ?_
      refine SL.callV (vs := [_]) Try.call37 ⟨⟨_, rfl, tt⟩, trivial⟩ (fun hg => mask_V _) rfl rfl ?_
      refine SL.step (PS.and rfl tt rfl tt rfl rfl) ?_
      refine SL.step (PS.assign rfl tt rfl rfl) ?_
      refine SL.step (PS.assign rfl tt rfl rfl) ?_
      refine SL.keep (l' := [(9, _, _), (8, _, _)]) ⟨rfl, rfl, trivial⟩ ?_
      refine SL.nil (SE.thenK hK11 (SC.ret (SE.block_ret (SE.then_ret ?_))))
      first | exact finV2 rfl rfl rfl (fun _ _ => pairB_eq (Pl.conv_bad c17)) | exact finV2 rfl rfl rfl (fun _ _ => pairB_eq (by rw [Pl.conv_z c17 c18, Pl.and_maskI (Pl.nz (Pl.or_f c17).1) hv hv'])) | exact finV2 rfl rfl rfl (fun _ _ => pairB_eq (by rw [Pl.conv_s c17 c18 c30, Pl.signedI (Pl.nz (Pl.or_f c17).1), Pl.and_maskW (Pl.nz (Pl.or_f c17).2)])) | exact finV2 rfl rfl rfl (fun _ _ => pairB_eq (by rw [Pl.conv_t c17 c18 c30 c45, Pl.and_maskI (Pl.nz (Pl.or_f c17).2) hv hv'])) | exact finV2 rfl rfl rfl (fun _ _ => pairB_eq (Pl.conv_0 c18 c30 c45))
     ·
      refine SC.skip (SE.block_normal (SE.thenK hK5 (SC.seq (fun K12 hK12 => SC.region ?_))))
      refine SL.step (PS.assign rfl tt rfl rfl) ?_
      refine SL.step (PS.assign rfl tt rfl rfl) ?_
      refine SL.keep (l' := [(9, _, _), (8, _, _)]) ⟨rfl, rfl, trivial⟩ ?_
      refine SL.nil (SE.thenK hK12 (SC.ret ?_))
      first | exact finV2 rfl rfl rfl (fun _ _ => pairB_eq (Pl.conv_bad c17)) | exact finV2 rfl rfl rfl (fun _ _ => pairB_eq (by rw [Pl.conv_z c17 c18, Pl.and_maskI (Pl.nz (Pl.or_f c17).1) hv hv'])) | exact finV2 rfl rfl rfl (fun _ _ => pairB_eq (by rw [Pl.conv_s c17 c18 c30, Pl.signedI (Pl.nz (Pl.or_f c17).1), Pl.and_maskW (Pl.nz (Pl.or_f c17).2)])) | exact finV2 rfl rfl rfl (fun _ _ => pairB_eq (by rw [Pl.conv_t c17 c18 c30 c45, Pl.and_maskI (Pl.nz (Pl.or_f c17).2) hv hv'])) | exact finV2 rfl rfl rfl (fun _ _ => pairB_eq (Pl.conv_0 c18 c30 c45))
theorem count_V (t : Int) : SpecV Try.prog 38 [.int .i64 t] (.int .i64 (Pl.count t)) := by
  refine SpecV.enter Try.func38 rfl (n := 16) Try.ntmps38 (Nat.le_of_ble_eq_true rfl) (l := [(0, _, _)]) rfl ?_
  intro w
  refine SC.seq (fun K1 hK1 => SC.region ?_)
  refine SL.step (PS.assign rfl tt rfl rfl) ?_
  refine SL.keep (l' := [(0, _, _)]) ⟨rfl, trivial⟩ ?_
  refine SL.nil (SE.thenK hK1 (SC.seq (fun K2 hK2 => SC.block (SC.seq (fun K3 hK3 => SC.region ?_)))))
  refine SL.step (PS.move rfl tt rfl rfl) ?_
  refine SL.step (PS.eql rfl tt rfl tt rfl rfl) ?_
  refine SL.step (PS.assign rfl tt rfl rfl) ?_
  refine SL.keep (l' := [(3, _, _), (0, _, _)]) ⟨rfl, rfl, trivial⟩ ?_
  refine SL.nil (SE.thenK hK3 ?_)
  refine SC.cond rfl (fun c3 => ?_) (fun c3 => ?_)
  ·
   refine SC.seq (fun K4 hK4 => SC.region ?_)
   refine SL.step (PS.assign rfl tt rfl rfl) ?_
   refine SL.keep (l' := [(2, _, _)]) ⟨rfl, trivial⟩ ?_
   refine SL.nil (SE.thenK hK4 (SC.ret (SE.block_ret (SE.then_ret ?_))))
   exact finV1 rfl rfl (fun _ _ => by simp at c3; simp [Pl.count, c3])
  ·
   refine SC.seq (fun K5 hK5 => SC.region ?_)
   refine SL.step (PS.move rfl tt rfl rfl) ?_
   refine SL.step (PS.geq rfl tt rfl tt rfl rfl) ?_
   refine SL.step (PS.move rfl tt rfl rfl) ?_
   refine SL.step (PS.move rfl tt rfl rfl) ?_
   refine SL.step (PS.leq rfl (fun h => h) rfl tt rfl rfl) ?_
   refine SL.step (PS.pick_and rfl tt rfl (fun h h2 => pk_and h h2) rfl rfl) ?_
   refine SL.step (PS.assign rfl tt rfl rfl) ?_
   refine SL.keep (l' := [(6, _, _), (0, _, _)]) ⟨rfl, rfl, trivial⟩ ?_
   refine SL.nil (SE.thenK hK5 ?_)
   refine SC.cond rfl (fun c6 => ?_) (fun c6 => ?_)
   ·
    refine SC.seq (fun K6 hK6 => SC.region ?_)
    refine SL.step (PS.move rfl tt rfl rfl) ?_
    first | refine SL.step (PS.add_in rfl tt rfl tt (fun _ => wr_i64 (by omega)) rfl rfl) ?_ | refine SL.step (PS.add rfl tt rfl tt rfl rfl) ?_
    refine SL.step (PS.quo rfl tt rfl tt (fun _ => by decide) rfl rfl) ?_
    refine SL.step (PS.assign rfl tt rfl rfl) ?_
    refine SL.keep (l' := [(2, _, _)]) ⟨rfl, trivial⟩ ?_
    refine SL.nil (SE.thenK hK6 (SC.ret (SE.block_ret (SE.then_ret ?_))))
    exact finV1 rfl rfl (fun _ _ => by simp at c3 c6; rw [wr_i64 (z := t + 7) (by omega), Int.tdiv_eq_ediv_of_nonneg (by omega), wr_i64 (by omega)]; simp [Pl.count, c3, c6])
   ·
    refine SC.skip (SE.block_normal (SE.thenK hK2 (SC.seq (fun K7 hK7 => SC.region ?_))))
    refine SL.step (PS.assign rfl tt rfl rfl) ?_
    refine SL.keep (l' := [(2, _, _)]) ⟨rfl, trivial⟩ ?_
    refine SL.nil (SE.thenK hK7 (SC.ret ?_))
    exact finV1 rfl rfl (fun _ _ => by simp at c3 c6; simp only [Pl.count, c3, if_false]; rw [if_neg (by omega)])
theorem norm_V (t : Int) (v : Vl) (hv : 0 ≤ v.b) (hv' : v.b < 18446744073709551616) : SpecV Try.prog 18 [.int .i64 t, v.val] (Pl.norm t v).val := by
  refine SpecV.enter Try.func18 rfl (n := 44) Try.ntmps18 (Nat.le_of_ble_eq_true rfl) (l := [(0, _, _), (1, _, _)]) rfl ?_
  intro w
  refine SC.seq (fun K1 hK1 => SC.region ?_)
  refine SL.box (cs := [_, _, _, _]) rfl rfl rfl rfl rfl (fun b3 => ?_)
  refine SL.alloc (cs := [_, _, _, _]) Try.zeroValue35 rfl rfl rfl (fun b4 => ?_)
  refine SL.keep (l' := [(4, _, _), (3, _, _), (0, _, _)]) ⟨rfl, rfl, rfl, trivial⟩ ?_
  refine SL.nil (SE.thenK hK1 (SC.seq (fun K2 hK2 => SC.block (SC.seq (fun K3 hK3 => SC.region ?_)))))
  refine SL.step (PS.fieldAddr rfl tt Try.fieldAt_35_0 rfl rfl) ?_
  first | refine SL.step (PS.load_own (k := 0) rfl tt rfl rfl rfl Try.isAgg3 rfl rfl) ?_ | refine SL.step (PS.load_own (k := 1) rfl tt rfl rfl rfl Try.isAgg3 rfl rfl) ?_
  refine SL.step (PS.eql rfl tt rfl tt rfl rfl) ?_
  refine SL.step (PS.move rfl tt rfl rfl) ?_
  refine SL.step (PS.move rfl tt rfl rfl) ?_
  refine SL.callV (vs := [_]) Try.call37 ⟨⟨_, rfl, (fun h => h)⟩, trivial⟩ (fun hg => mask_V _) rfl rfl ?_
  refine SL.step (PS.neq rfl (fun h => h) rfl tt rfl rfl) ?_
  refine SL.step (PS.pick_and rfl tt rfl (fun h h2 => pk_and h h2) rfl rfl) ?_
  refine SL.step (PS.assign rfl tt rfl rfl) ?_
  refine SL.keep (l' := [(5, _, _), (4, _, _), (3, _, _), (0, _, _)]) ⟨rfl, rfl, rfl, rfl, trivial⟩ ?_
  refine SL.nil (SE.thenK hK3 ?_)
  refine SC.cond rfl (fun c5 => ?_) (fun c5 => ?_)
  ·
   refine SC.seq (fun K4 hK4 => ?_)
   refine SC.draw (S := SP _ _ _) 6 (by kernel_rfl) (by kernel_rfl) (fun _ h => h) ?_
   refine SD.take 0 rfl rfl (by kernel_rfl) (PS.fieldAddr rfl tt Try.fieldAt_35_1 rfl rfl) ?_
   first | refine SD.take 1 rfl rfl (by kernel_rfl) (PS.load_own (k := 0) rfl tt rfl rfl rfl Try.isAgg27 rfl rfl) ?_ | refine SD.take 1 rfl rfl (by kernel_rfl) (PS.load_own (k := 1) rfl tt rfl rfl rfl Try.isAgg27 rfl rfl) ?_
   refine SD.take 2 rfl rfl (by kernel_rfl) (PS.move rfl tt rfl rfl) ?_
   refine SD.one 3 rfl (by kernel_rfl) (fun inv3 => ?_)
   refine SL.callV (vs := [_]) Try.call37 ⟨⟨_, rfl, tt⟩, trivial⟩ (fun hg => mask_V _) rfl rfl ?_
   refine SL.nil ?_
   refine SE.next (fun _ h => h.drop (List.Sublist.refl _) (fun _ h => h)) inv3 ?_
   refine SD.take 4 rfl rfl (by kernel_rfl) (PS.and rfl tt rfl tt rfl rfl) ?_
   refine SD.take 5 rfl rfl (by kernel_rfl) (PS.build (us := [(0, _), (1, _)]) (vs := [_, _, _, _]) ⟨rfl, ⟨_, rfl, tt⟩, ⟨rfl, ⟨_, rfl, tt⟩, trivial⟩⟩ Try.underlying35 Try.zeroValue35 (Try.places_35 Try.underlying35) rfl rfl rfl) ?_
   clear inv3
   refine SD.tail (by kernel_rfl) (os := [_]) rfl ?_
   first | refine SL.store_own (k := 0) (own' := [_, _]) (cs' := [_, _, _, _]) rfl rfl rfl rfl rfl rfl rfl Try.sizeOf35 rfl (Nat.le_of_ble_eq_true rfl) rfl rfl rfl rfl ?_ | refine SL.store_own (k := 1) (own' := [_, _]) (cs' := [_, _, _, _]) rfl rfl rfl rfl rfl rfl rfl Try.sizeOf35 rfl (Nat.le_of_ble_eq_true rfl) rfl rfl rfl rfl ?_
   refine SL.keep (l' := [(4, _, _)]) ⟨rfl, trivial⟩ ?_
   refine SL.nil (SE.calm (SE.thenK hK4 (SC.ret (SE.block_ret (SE.then_ret ?_)))))
   first | exact finVc (k := 0) rfl Try.isAgg35 Try.sizeOf35 rfl rfl rfl rfl (fun _ _ => by rw [Pl.norm_1 c5, Pl.and_maskI (Pl.nz' c5) hv hv']; rfl) | exact finVc (k := 0) rfl Try.isAgg35 Try.sizeOf35 rfl rfl rfl rfl (fun _ _ => by rw [Pl.norm_2 c5 c20]; rfl) | exact finVc (k := 0) rfl Try.isAgg35 Try.sizeOf35 rfl rfl rfl rfl (fun _ _ => by rw [Pl.norm_3 c5 c20 c33]; rfl) | exact finVc (k := 0) rfl Try.isAgg35 Try.sizeOf35 rfl rfl rfl rfl (fun _ _ => by rw [Pl.norm_0 c5 c20 c33]; rfl)
  ·
   refine SC.seq (fun K5 hK5 => SC.region ?_)
   refine SL.step (PS.fieldAddr rfl tt Try.fieldAt_35_0 rfl rfl) ?_
   first | refine SL.step (PS.load_own (k := 0) rfl tt rfl rfl rfl Try.isAgg3 rfl rfl) ?_ | refine SL.step (PS.load_own (k := 1) rfl tt rfl rfl rfl Try.isAgg3 rfl rfl) ?_
   refine SL.step (PS.eql rfl tt rfl tt rfl rfl) ?_
   refine SL.step (PS.move rfl tt rfl rfl) ?_
   refine SL.step (PS.move rfl tt rfl rfl) ?_
   refine SL.step (PS.eql rfl (fun h => h) rfl tt rfl rfl) ?_
   refine SL.step (PS.pick_and rfl tt rfl (fun h h2 => pk_and h h2) rfl rfl) ?_
   refine SL.step (PS.assign rfl tt rfl rfl) ?_
   refine SL.keep (l' := [(20, _, _), (4, _, _), (3, _, _), (0, _, _)]) ⟨rfl, rfl, rfl, rfl, trivial⟩ ?_
   refine SL.nil (SE.thenK hK5 ?_)
   refine SC.cond rfl (fun c20 => ?_) (fun c20 => ?_)
   ·
    refine SC.seq (fun K6 hK6 => SC.region ?_)
    refine SL.step (PS.fieldAddr rfl tt Try.fieldAt_35_2 rfl rfl) ?_
    first | refine SL.step (PS.load_own (k := 0) rfl tt rfl rfl rfl Try.isAgg3 rfl rfl) ?_ | refine SL.step (PS.load_own (k := 1) rfl tt rfl rfl rfl Try.isAgg3 rfl rfl) ?_
    refine SL.step (PS.fieldAddr rfl tt Try.fieldAt_35_3 rfl rfl) ?_
    first | refine SL.step (PS.load_own (k := 0) rfl tt rfl rfl rfl Try.isAgg2 rfl rfl) ?_ | refine SL.step (PS.load_own (k := 1) rfl tt rfl rfl rfl Try.isAgg2 rfl rfl) ?_
    refine SL.step (PS.build (us := [(0, _), (2, _), (3, _)]) (vs := [_, _, _, _]) ⟨rfl, ⟨_, rfl, tt⟩, ⟨rfl, ⟨_, rfl, tt⟩, ⟨rfl, ⟨_, rfl, tt⟩, trivial⟩⟩⟩ Try.underlying35 Try.zeroValue35 (Try.places_35 Try.underlying35) rfl rfl rfl) ?_
    first | refine SL.store_own (k := 0) (own' := [_, _]) (cs' := [_, _, _, _]) rfl rfl rfl rfl rfl rfl rfl Try.sizeOf35 rfl (Nat.le_of_ble_eq_true rfl) rfl rfl rfl rfl ?_ | refine SL.store_own (k := 1) (own' := [_, _]) (cs' := [_, _, _, _]) rfl rfl rfl rfl rfl rfl rfl Try.sizeOf35 rfl (Nat.le_of_ble_eq_true rfl) rfl rfl rfl rfl ?_
    refine SL.keep (l' := [(4, _, _)]) ⟨rfl, trivial⟩ ?_
    refine SL.nil (SE.thenK hK6 (SC.ret (SE.block_ret (SE.then_ret ?_))))
    first | exact finVc (k := 0) rfl Try.isAgg35 Try.sizeOf35 rfl rfl rfl rfl (fun _ _ => by rw [Pl.norm_1 c5, Pl.and_maskI (Pl.nz' c5) hv hv']; rfl) | exact finVc (k := 0) rfl Try.isAgg35 Try.sizeOf35 rfl rfl rfl rfl (fun _ _ => by rw [Pl.norm_2 c5 c20]; rfl) | exact finVc (k := 0) rfl Try.isAgg35 Try.sizeOf35 rfl rfl rfl rfl (fun _ _ => by rw [Pl.norm_3 c5 c20 c33]; rfl) | exact finVc (k := 0) rfl Try.isAgg35 Try.sizeOf35 rfl rfl rfl rfl (fun _ _ => by rw [Pl.norm_0 c5 c20 c33]; rfl)
   ·
    refine SC.seq (fun K7 hK7 => SC.region ?_)
    refine SL.step (PS.fieldAddr rfl tt Try.fieldAt_35_0 rfl rfl) ?_
    first | refine SL.step (PS.load_own (k := 0) rfl tt rfl rfl rfl Try.isAgg3 rfl rfl) ?_ | refine SL.step (PS.load_own (k := 1) rfl tt rfl rfl rfl Try.isAgg3 rfl rfl) ?_
    refine SL.step (PS.eql rfl tt rfl tt rfl rfl) ?_
    refine SL.step (PS.move rfl tt rfl rfl) ?_
    refine SL.step (PS.move rfl tt rfl rfl) ?_
    refine SL.callV (vs := [_]) Try.call38 ⟨⟨_, rfl, (fun h => h)⟩, trivial⟩ (fun hg => count_V _) rfl rfl ?_
    refine SL.step (PS.gtr rfl (fun h => h) rfl tt rfl rfl) ?_
    refine SL.step (PS.pick_and rfl tt rfl (fun h h2 => pk_and h h2) rfl rfl) ?_
    refine SL.step (PS.assign rfl tt rfl rfl) ?_
    refine SL.keep (l' := [(33, _, _), (4, _, _)]) ⟨rfl, rfl, trivial⟩ ?_
    refine SL.nil (SE.thenK hK7 ?_)
    refine SC.cond rfl (fun c33 => ?_) (fun c33 => ?_)
    ·
     refine SC.seq (fun K8 hK8 => SC.region ?_)
     refine SL.step (PS.build (us := [(0, _)]) (vs := [_, _, _, _]) ⟨rfl, ⟨_, rfl, tt⟩, trivial⟩ Try.underlying35 Try.zeroValue35 (Try.places_35 Try.underlying35) rfl rfl rfl) ?_
     first | refine SL.store_own (k := 0) (own' := [_, _]) (cs' := [_, _, _, _]) rfl rfl rfl rfl rfl rfl rfl Try.sizeOf35 rfl (Nat.le_of_ble_eq_true rfl) rfl rfl rfl rfl ?_ | refine SL.store_own (k := 1) (own' := [_, _]) (cs' := [_, _, _, _]) rfl rfl rfl rfl rfl rfl rfl Try.sizeOf35 rfl (Nat.le_of_ble_eq_true rfl) rfl rfl rfl rfl ?_
     refine SL.keep (l' := [(4, _, _)]) ⟨rfl, trivial⟩ ?_
     refine SL.nil (SE.thenK hK8 (SC.ret (SE.block_ret (SE.then_ret ?_))))
     first | exact finVc (k := 0) rfl Try.isAgg35 Try.sizeOf35 rfl rfl rfl rfl (fun _ _ => by rw [Pl.norm_1 c5, Pl.and_maskI (Pl.nz' c5) hv hv']; rfl) | exact finVc (k := 0) rfl Try.isAgg35 Try.sizeOf35 rfl rfl rfl rfl (fun _ _ => by rw [Pl.norm_2 c5 c20]; rfl) | exact finVc (k := 0) rfl Try.isAgg35 Try.sizeOf35 rfl rfl rfl rfl (fun _ _ => by rw [Pl.norm_3 c5 c20 c33]; rfl) | exact finVc (k := 0) rfl Try.isAgg35 Try.sizeOf35 rfl rfl rfl rfl (fun _ _ => by rw [Pl.norm_0 c5 c20 c33]; rfl)
    ·
     refine SC.skip (SE.block_normal (SE.thenK hK2 (SC.seq (fun K9 hK9 => SC.region ?_))))
     refine SL.step (PS.build (us := []) (vs := [_, _, _, _]) trivial Try.underlying35 Try.zeroValue35 (Try.places_35 Try.underlying35) rfl rfl rfl) ?_
     first | refine SL.store_own (k := 0) (own' := [_, _]) (cs' := [_, _, _, _]) rfl rfl rfl rfl rfl rfl rfl Try.sizeOf35 rfl (Nat.le_of_ble_eq_true rfl) rfl rfl rfl rfl ?_ | refine SL.store_own (k := 1) (own' := [_, _]) (cs' := [_, _, _, _]) rfl rfl rfl rfl rfl rfl rfl Try.sizeOf35 rfl (Nat.le_of_ble_eq_true rfl) rfl rfl rfl rfl ?_
     refine SL.keep (l' := [(4, _, _)]) ⟨rfl, trivial⟩ ?_
     refine SL.nil (SE.thenK hK9 (SC.ret ?_))
     first | exact finVc (k := 0) rfl Try.isAgg35 Try.sizeOf35 rfl rfl rfl rfl (fun _ _ => by rw [Pl.norm_1 c5, Pl.and_maskI (Pl.nz' c5) hv hv']; rfl) | exact finVc (k := 0) rfl Try.isAgg35 Try.sizeOf35 rfl rfl rfl rfl (fun _ _ => by rw [Pl.norm_2 c5 c20]; rfl) | exact finVc (k := 0) rfl Try.isAgg35 Try.sizeOf35 rfl rfl rfl rfl (fun _ _ => by rw [Pl.norm_3 c5 c20 c33]; rfl) | exact finVc (k := 0) rfl Try.isAgg35 Try.sizeOf35 rfl rfl rfl rfl (fun _ _ => by rw [Pl.norm_0 c5 c20 c33]; rfl)
end Go.Proofs.Ytffimfmicapaaaa
