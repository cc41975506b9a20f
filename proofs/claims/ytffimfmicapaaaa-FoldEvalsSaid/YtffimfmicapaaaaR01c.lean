/- The references of layer 1, the last: what their code computes. -/
import Derived.Test.YtffimfmicapaaaaPlR
namespace Go.Proofs.Ytffimfmicapaaaa
open Go.RowKit
set_option linter.unusedVariables false
set_option linter.unusedSimpArgs false
set_option maxRecDepth 100000
set_option maxHeartbeats 4000000
open Pl (Vl)
theorem cut_nn {w v : Int} (hw : 1 ≤ w ∧ w ≤ 64) (hv : 0 ≤ v ∧ v < 18446744073709551616) : 0 ≤ d_latheref01_Cut w v := by
  obtain ⟨n, rfl⟩ := Int.eq_ofNat_of_zero_le (show 0 ≤ w by omega)
  rw [Pl.cut_eq (by omega) hv.1 hv.2]; exact (Pl.mod_range n v).1
theorem with_nz {w v : Int} (hw : 1 ≤ w ∧ w ≤ 64) (hv : 0 ≤ v ∧ v < 18446744073709551616) (h : ¬ d_latheref01_Cut w v = 0) : ¬ (d_latheref01_With w v).lo = 0 := by
  obtain ⟨n, rfl⟩ := Int.eq_ofNat_of_zero_le (show 0 ≤ w by omega)
  have hr := Pl.with_rep (n := n) (by omega) (by omega) hv.1 hv.2
  rw [Pl.cut_eq (by omega) hv.1 hv.2] at h
  have hhi : (d_latheref01_With n v).hi = 0 := by unfold d_latheref01_With; rw [Bool.cond_eq_ite]; split <;> rfl
  intro hlo
  have hz : Pl.sgn n v = 0 := by
    cases hb : (d_latheref01_With n v).below
    · rw [hr.pos hb, hhi, hlo]; rfl
    · have := hr.neg hb; rw [hhi, hlo] at this; omega
  have hs := Pl.sgn_dvd n v
  rw [hz, Int.zero_sub] at hs
  exact h (Int.emod_eq_zero_of_dvd ((Int.dvd_neg).1 hs))
theorem power_nz {w : Int} (hw : 0 ≤ w ∧ w < 64) : ¬ (d_latheref01_power w).lo = 0 := by
  obtain ⟨n, rfl⟩ := Int.eq_ofNat_of_zero_le hw.1
  rw [Pl.power_eq (by omega)]
  have : (0 : Int) < 2 ^ n := Int.pow_pos (by decide)
  show ¬ (2 : Int) ^ n = 0
  omega
theorem wr_w {w : Int} (hw : 1 ≤ w ∧ w ≤ 64) : IntKind.u64.wrap w = w := by rw [IntKind.wrap_u64]; omega
def d_latheref01_quotient (p0 : Bg) (p1 : Bg) : Bg × Bg :=
  ((d_latheref01_fixed (⟨0, (IntKind.u64.wrap (Int.tdiv p0.lo p1.lo)), (p0.below != p1.below)⟩ : Bg)), (d_latheref01_fixed (⟨0, (Int.tmod p0.lo p1.lo), p0.below⟩ : Bg)))
theorem latheref01_quotient_V (p0 : Bg) (p1 : Bg) (hy : ¬ p1.lo = 0) : SpecV Try.prog 67 [.agg [.int .u64 p0.hi, .int .u64 p0.lo, .bool p0.below].toArray, .agg [.int .u64 p1.hi, .int .u64 p1.lo, .bool p1.below].toArray] (Value.tuple #[Value.agg [.int .u64 (((d_latheref01_quotient p0 p1).1).hi), .int .u64 (((d_latheref01_quotient p0 p1).1).lo), .bool (((d_latheref01_quotient p0 p1).1).below)].toArray, Value.agg [.int .u64 (((d_latheref01_quotient p0 p1).2).hi), .int .u64 (((d_latheref01_quotient p0 p1).2).lo), .bool (((d_latheref01_quotient p0 p1).2).below)].toArray]) := by
  refine SpecV.enter Try.func67 rfl (n := 31) Try.ntmps67 (Nat.le_of_ble_eq_true rfl) (l := [(0, _, _), (1, _, _)]) rfl ?_
  intro w
  refine SC.seq (fun K1 hK1 => SC.region ?_)
  refine SL.box (cs := [_, _, _]) rfl rfl rfl rfl rfl (fun b2 => ?_)
  refine SL.box (cs := [_, _, _]) rfl rfl rfl rfl rfl (fun b3 => ?_)
  refine SL.alloc (cs := [_, _, _]) Try.zeroValue65 rfl rfl rfl (fun b4 => ?_)
  refine SL.alloc (cs := [_, _, _]) Try.zeroValue65 rfl rfl rfl (fun b5 => ?_)
  refine SL.keep (l' := [(5, _, _), (4, _, _), (3, _, _), (2, _, _)]) ⟨rfl, rfl, rfl, rfl, trivial⟩ ?_
  refine SL.nil (SE.thenK hK1 (SC.seq (fun K2 hK2 => ?_)))
  refine SC.draw (S := SP _ _ _) 13 (by kernel_rfl) (by kernel_rfl) (fun _ h => h) ?_
  refine SD.take 0 rfl rfl (by kernel_rfl) (PS.fieldAddr rfl tt Try.fieldAt_65_1 rfl rfl) ?_
  refine SD.take 1 rfl rfl (by kernel_rfl) (PS.load_own (k := 3) rfl tt rfl rfl rfl Try.isAgg27 rfl rfl) ?_
  refine SD.take 2 rfl rfl (by kernel_rfl) (PS.fieldAddr rfl tt Try.fieldAt_65_1 rfl rfl) ?_
  refine SD.take 3 rfl rfl (by kernel_rfl) (PS.load_own (k := 2) rfl tt rfl rfl rfl Try.isAgg27 rfl rfl) ?_
  refine SD.take 4 rfl rfl (by kernel_rfl) (PS.quo rfl tt rfl tt (fun _ => by omega) rfl rfl) ?_
  refine SD.take 5 rfl rfl (by kernel_rfl) (PS.fieldAddr rfl tt Try.fieldAt_65_2 rfl rfl) ?_
  refine SD.take 6 rfl rfl (by kernel_rfl) (PS.load_own (k := 3) rfl tt rfl rfl rfl Try.isAgg4 rfl rfl) ?_
  refine SD.take 7 rfl rfl (by kernel_rfl) (PS.fieldAddr rfl tt Try.fieldAt_65_2 rfl rfl) ?_
  refine SD.take 8 rfl rfl (by kernel_rfl) (PS.load_own (k := 2) rfl tt rfl rfl rfl Try.isAgg4 rfl rfl) ?_
  refine SD.take 9 rfl rfl (by kernel_rfl) (PS.neqB rfl tt rfl tt Try.underlying4 rfl rfl) ?_
  refine SD.take 10 rfl rfl (by kernel_rfl) (PS.build (us := [(1, _), (2, _)]) (vs := [_, _, _]) ⟨rfl, ⟨_, rfl, tt⟩, ⟨rfl, ⟨_, rfl, tt⟩, trivial⟩⟩ Try.underlying65 Try.zeroValue65 (Try.places_65 Try.underlying65) rfl rfl rfl) ?_
  refine SD.join1 (f' := 0) (listed' := (List.replicate 13 true ++ List.replicate 1 false).toArray) (L := ?L1_1) (O := ?O1_1) (G := ?G1_1) (fun HT => ?way1_1) (fun (b6 : Nat) => ?tail1_1)
  case way1_1 =>
   refine SD.two 11 12 rfl rfl (by kernel_rfl) (fun inv11 => ?_) (fun inv12 => ?_)
   ·
    refine SL.callV (vs := [_]) Try.call73 ⟨⟨_, rfl, tt⟩, trivial⟩ (fun hg => latheref01_fixed_W _ _ _ ) rfl rfl ?_
    refine SL.nil ?_
    refine SE.next (fun _ h => h.drop (List.Sublist.refl _) (fun _ h => h)) inv11 ?_
    refine SD.one 12 rfl (by kernel_rfl) (fun inv12 => ?_)
    refine SL.alloc (cs := [_, _, _]) Try.zeroValue65 rfl rfl rfl (fun b6 => ?_)
    refine SL.nil ?_
    refine SE.next (fun _ h => h.drop (List.Sublist.cons _ (List.Sublist.refl _)) (fun _ h => h)) inv12 ?_
    refine SD.lst (listed' := (List.replicate 13 true ++ List.replicate 1 false).toArray) (by kernel_rfl) ?_
    exact (HT b6)
   ·
    refine SL.alloc (cs := [_, _, _]) Try.zeroValue65 rfl rfl rfl (fun b6 => ?_)
    refine SL.nil ?_
    refine SE.next (fun _ h => h.drop (List.Sublist.cons _ (List.Sublist.refl _)) (fun _ h => h)) inv12 ?_
    refine SD.one 11 rfl (by kernel_rfl) (fun inv11 => ?_)
    refine SL.callV (vs := [_]) Try.call73 ⟨⟨_, rfl, tt⟩, trivial⟩ (fun hg => latheref01_fixed_W _ _ _ ) rfl rfl ?_
    refine SL.nil ?_
    refine SE.next (fun _ h => h.drop (List.Sublist.cons _ (List.Sublist.refl _)) (fun _ h => h)) inv11 ?_
    refine SD.lst (listed' := (List.replicate 13 true ++ List.replicate 1 false).toArray) (by kernel_rfl) ?_
    refine SD.keep ?_ (SD.perm ?_ (HT b6))
    · exact ⟨rfl, rfl, rfl, rfl, rfl, rfl, rfl, rfl, rfl, rfl, rfl, rfl, rfl, rfl, rfl, rfl, rfl, trivial⟩
    · exact (List.Perm.refl _)
  refine SD.tail (by kernel_rfl) (os := [_]) rfl ?_
  refine SL.store_own (k := 0) (own' := [_, _, _, _, _]) (cs' := [_, _, _]) rfl rfl rfl rfl rfl rfl rfl Try.sizeOf65 rfl (Nat.le_of_ble_eq_true rfl) rfl rfl rfl rfl ?_
  refine SL.keep (l' := [(6, _, _), (5, _, _), (4, _, _), (3, _, _), (2, _, _)]) ⟨rfl, rfl, rfl, rfl, rfl, trivial⟩ ?_
  refine SL.nil (SE.calm (SE.thenK hK2 (SC.seq (fun K3 hK3 => ?_))))
  refine SC.draw (S := SP _ _ _) 10 (by kernel_rfl) (by kernel_rfl) (fun _ h => h) ?_
  refine SD.take 0 rfl rfl (by kernel_rfl) (PS.fieldAddr rfl tt Try.fieldAt_65_1 rfl rfl) ?_
  refine SD.take 1 rfl rfl (by kernel_rfl) (PS.load_own (k := 4) rfl tt rfl rfl rfl Try.isAgg27 rfl rfl) ?_
  refine SD.take 2 rfl rfl (by kernel_rfl) (PS.fieldAddr rfl tt Try.fieldAt_65_1 rfl rfl) ?_
  refine SD.take 3 rfl rfl (by kernel_rfl) (PS.load_own (k := 3) rfl tt rfl rfl rfl Try.isAgg27 rfl rfl) ?_
  refine SD.take 4 rfl rfl (by kernel_rfl) (PS.rem rfl tt rfl tt (fun _ => by omega) rfl rfl) ?_
  refine SD.take 5 rfl rfl (by kernel_rfl) (PS.fieldAddr rfl tt Try.fieldAt_65_2 rfl rfl) ?_
  refine SD.take 6 rfl rfl (by kernel_rfl) (PS.load_own (k := 4) rfl tt rfl rfl rfl Try.isAgg4 rfl rfl) ?_
  refine SD.take 7 rfl rfl (by kernel_rfl) (PS.build (us := [(1, _), (2, _)]) (vs := [_, _, _]) ⟨rfl, ⟨_, rfl, tt⟩, ⟨rfl, ⟨_, rfl, tt⟩, trivial⟩⟩ Try.underlying65 Try.zeroValue65 (Try.places_65 Try.underlying65) rfl rfl rfl) ?_
  refine SD.join1 (f' := 0) (listed' := (List.replicate 10 true ++ List.replicate 1 false).toArray) (L := ?L2_2) (O := ?O2_2) (G := ?G2_2) (fun HT => ?way2_2) (fun (b7 : Nat) => ?tail2_2)
  case way2_2 =>
   refine SD.two 8 9 rfl rfl (by kernel_rfl) (fun inv8 => ?_) (fun inv9 => ?_)
   ·
    refine SL.callV (vs := [_]) Try.call73 ⟨⟨_, rfl, tt⟩, trivial⟩ (fun hg => latheref01_fixed_W _ _ _ ) rfl rfl ?_
    refine SL.nil ?_
    refine SE.next (fun _ h => h.drop (List.Sublist.refl _) (fun _ h => h)) inv8 ?_
    refine SD.one 9 rfl (by kernel_rfl) (fun inv9 => ?_)
    refine SL.alloc (cs := [_, _, _]) Try.zeroValue65 rfl rfl rfl (fun b7 => ?_)
    refine SL.nil ?_
    refine SE.next (fun _ h => h.drop (List.Sublist.cons _ (List.Sublist.refl _)) (fun _ h => h)) inv9 ?_
    refine SD.lst (listed' := (List.replicate 10 true ++ List.replicate 1 false).toArray) (by kernel_rfl) ?_
    exact (HT b7)
   ·
    refine SL.alloc (cs := [_, _, _]) Try.zeroValue65 rfl rfl rfl (fun b7 => ?_)
    refine SL.nil ?_
    refine SE.next (fun _ h => h.drop (List.Sublist.cons _ (List.Sublist.refl _)) (fun _ h => h)) inv9 ?_
    refine SD.one 8 rfl (by kernel_rfl) (fun inv8 => ?_)
    refine SL.callV (vs := [_]) Try.call73 ⟨⟨_, rfl, tt⟩, trivial⟩ (fun hg => latheref01_fixed_W _ _ _ ) rfl rfl ?_
    refine SL.nil ?_
    refine SE.next (fun _ h => h.drop (List.Sublist.cons _ (List.Sublist.refl _)) (fun _ h => h)) inv8 ?_
    refine SD.lst (listed' := (List.replicate 10 true ++ List.replicate 1 false).toArray) (by kernel_rfl) ?_
    refine SD.keep ?_ (SD.perm ?_ (HT b7))
    · exact ⟨rfl, rfl, rfl, rfl, rfl, rfl, rfl, rfl, rfl, rfl, rfl, rfl, rfl, rfl, rfl, trivial⟩
    · exact (List.Perm.refl _)
  refine SD.tail (by kernel_rfl) (os := [_]) rfl ?_
  refine SL.store_own (k := 0) (own' := [_, _, _, _, _, _]) (cs' := [_, _, _]) rfl rfl rfl rfl rfl rfl rfl Try.sizeOf65 rfl (Nat.le_of_ble_eq_true rfl) rfl rfl rfl rfl ?_
  refine SL.keep (l' := [(7, _, _), (6, _, _), (5, _, _), (4, _, _)]) ⟨rfl, rfl, rfl, rfl, trivial⟩ ?_
  refine SL.nil (SE.calm (SE.thenK hK3 (SC.seq (fun K4 hK4 => ?_))))
  refine SC.draw (S := SP _ [_, _, _, _] _) 4 (by kernel_rfl) (by kernel_rfl) (fun _ h => h.drop (List.Sublist.cons_cons _ (List.Sublist.cons_cons _ (List.Sublist.cons _ (List.Sublist.cons _ (List.Sublist.cons_cons _ (List.Sublist.cons_cons _ List.Sublist.slnil)))))) (fun _ h => h)) ?_
  refine SD.take 0 rfl rfl (by kernel_rfl) (PS.load_own_agg (k := 1) (vs := [_, _, _]) rfl tt rfl rfl rfl rfl Try.isAgg65 Try.sizeOf65 rfl rfl) ?_
  refine SD.take 1 rfl rfl (by kernel_rfl) (PS.load_own_agg (k := 0) (vs := [_, _, _]) rfl tt rfl rfl rfl rfl Try.isAgg65 Try.sizeOf65 rfl rfl) ?_
  refine SD.one 2 rfl (by kernel_rfl) (fun inv2 => ?_)
  refine SL.store_own (k := 3) (own' := [_, _, _, _, _, _]) (cs' := [_, _, _]) rfl rfl rfl rfl rfl rfl rfl Try.sizeOf65 rfl (Nat.le_of_ble_eq_true rfl) rfl rfl rfl rfl ?_
  refine SL.nil ?_
  refine SE.next (fun _ h => h.drop (List.Sublist.cons_cons _ (List.Sublist.cons_cons _ (List.Sublist.cons _ (List.Sublist.cons _ (List.Sublist.cons_cons _ (List.Sublist.cons_cons _ List.Sublist.slnil)))))) (fun _ h => h)) inv2 ?_
  refine SD.one 3 rfl (by kernel_rfl) (fun inv3 => ?_)
  refine SL.store_own (k := 2) (own' := [_, _, _, _, _, _]) (cs' := [_, _, _]) rfl rfl rfl rfl rfl rfl rfl Try.sizeOf65 rfl (Nat.le_of_ble_eq_true rfl) rfl rfl rfl rfl ?_
  refine SL.nil ?_
  refine SE.next (fun _ h => h.drop (List.Sublist.cons_cons _ (List.Sublist.cons_cons _ (List.Sublist.cons _ (List.Sublist.cons _ (List.Sublist.cons_cons _ (List.Sublist.cons_cons _ List.Sublist.slnil)))))) (fun _ h => h)) inv3 ?_
  clear inv2 inv3
  refine SD.tail (by kernel_rfl) (os := []) rfl ?_
  refine SL.keep (l' := [(5, _, _), (4, _, _)]) ⟨rfl, rfl, trivial⟩ ?_
  refine SL.nil (SE.calm (SE.thenK hK4 (SC.ret ?_)))
  exact finVcc (k := 3) (k' := 2) rfl Try.isAgg65 Try.sizeOf65 Try.isAgg65 Try.sizeOf65 rfl rfl rfl rfl rfl rfl rfl rfl (fun _ _ => congrArg (fun z : Bg × Bg => Value.tuple #[Value.agg [.int .u64 z.1.hi, .int .u64 z.1.lo, .bool z.1.below].toArray, Value.agg [.int .u64 z.2.hi, .int .u64 z.2.lo, .bool z.2.below].toArray]) (show (d_latheref01_quotient p0 p1) = (((d_latheref01_fixed (⟨0, (IntKind.u64.wrap (Int.tdiv p0.lo p1.lo)), (p0.below != p1.below)⟩ : Bg)), (d_latheref01_fixed (⟨0, (Int.tmod p0.lo p1.lo), p0.below⟩ : Bg))) : Bg × Bg) from rfl).symm)
def d_latheref01_exact (p0 : Int) (p1 : Int) (p2 : Int) (p3 : Int) (p4 : Bool) : Bg :=
  bif p4 then
   bif (p0 != 11) then
    bif (p0 == 1) then
     (d_latheref01_Plus (d_latheref01_With p1 p2) (d_latheref01_With p1 p3))
    else bif (p0 == 2) then
      (d_latheref01_Plus (d_latheref01_With p1 p2) (d_latheref01_Minus (d_latheref01_With p1 p3)))
     else bif (p0 == 3) then
       (d_latheref01_Times (d_latheref01_With p1 p2) (d_latheref01_With p1 p3))
      else (d_latheref01_Times (d_latheref01_With p1 p2) (d_latheref01_power ((d_latheref01_With p1 p3).lo)))
   else bif (p0 == 1) then
     (d_latheref01_Plus (d_latheref01_With p1 p2) (d_latheref01_Plain p1 p3))
    else bif (p0 == 2) then
      (d_latheref01_Plus (d_latheref01_With p1 p2) (d_latheref01_Minus (d_latheref01_Plain p1 p3)))
     else bif (p0 == 3) then
       (d_latheref01_Times (d_latheref01_With p1 p2) (d_latheref01_Plain p1 p3))
      else (d_latheref01_Times (d_latheref01_With p1 p2) (d_latheref01_power ((d_latheref01_Plain p1 p3).lo)))
  else bif (p0 == 1) then
    (d_latheref01_Plus (d_latheref01_Plain p1 p2) (d_latheref01_Plain p1 p3))
   else bif (p0 == 2) then
     (d_latheref01_Plus (d_latheref01_Plain p1 p2) (d_latheref01_Minus (d_latheref01_Plain p1 p3)))
    else bif (p0 == 3) then
      (d_latheref01_Times (d_latheref01_Plain p1 p2) (d_latheref01_Plain p1 p3))
     else (d_latheref01_Times (d_latheref01_Plain p1 p2) (d_latheref01_power ((d_latheref01_Plain p1 p3).lo)))
theorem latheref01_exact_V (p0 : Int) (p1 : Int) (p2 : Int) (p3 : Int) (p4 : Bool) (hw : 1 ≤ p1 ∧ p1 ≤ 64) (hs : p0 = 1 ∨ p0 = 2 ∨ p0 = 3 ∨ (p0 = 11 ∧ 0 ≤ d_latheref01_Cut p1 p3 ∧ d_latheref01_Cut p1 p3 < 64)) : SpecV Try.prog 64 [.int .i64 p0, .int .i64 p1, .int .u64 p2, .int .u64 p3, .bool p4] (Value.agg [.int .u64 ((d_latheref01_exact p0 p1 p2 p3 p4).hi), .int .u64 ((d_latheref01_exact p0 p1 p2 p3 p4).lo), .bool ((d_latheref01_exact p0 p1 p2 p3 p4).below)].toArray) := by
  refine SpecV.enter Try.func64 rfl (n := 50) Try.ntmps64 (Nat.le_of_ble_eq_true rfl) (l := [(0, _, _), (1, _, _), (2, _, _), (3, _, _), (4, _, _)]) rfl ?_
  intro w
  have hpl : (d_latheref01_Plain p1 p3).lo = d_latheref01_Cut p1 p3 := rfl
  refine SC.seq (fun K1 hK1 => SC.region ?_)
  refine SL.alloc (cs := [_, _, _]) Try.zeroValue65 rfl rfl rfl (fun b10 => ?_)
  refine SL.nil (SE.thenK hK1 (SC.seq (fun K2 hK2 => SC.region ?_)))
  refine SL.step (PS.move rfl tt rfl rfl) ?_
  refine SL.step (PS.move rfl tt rfl rfl) ?_
  refine SL.callV (vs := [_, _]) Try.call66 ⟨⟨_, rfl, tt⟩, ⟨_, rfl, tt⟩, trivial⟩ (fun hg => latheref01_Plain_V p1 p2 (by omega)) rfl rfl ?_
  refine SL.alloc (cs := [_, _, _]) Try.zeroValue65 rfl rfl rfl (fun b11 => ?_)
  refine SL.store_own (k := 0) (own' := [_, _]) (cs' := [_, _, _]) rfl rfl rfl rfl rfl rfl rfl Try.sizeOf65 rfl (Nat.le_of_ble_eq_true rfl) rfl rfl rfl rfl ?_
  refine SL.keep (l' := [(11, _, _), (10, _, _), (0, _, _), (1, _, _), (2, _, _), (3, _, _), (4, _, _)]) ⟨rfl, rfl, rfl, rfl, rfl, rfl, rfl, trivial⟩ ?_
  refine SL.nil (SE.thenK hK2 (SC.seq (fun K3 hK3 => SC.region ?_)))
  refine SL.step (PS.move rfl tt rfl rfl) ?_
  refine SL.step (PS.move rfl tt rfl rfl) ?_
  refine SL.callV (vs := [_, _]) Try.call66 ⟨⟨_, rfl, tt⟩, ⟨_, rfl, tt⟩, trivial⟩ (fun hg => latheref01_Plain_V p1 p3 (by omega)) rfl rfl ?_
  refine SL.alloc (cs := [_, _, _]) Try.zeroValue65 rfl rfl rfl (fun b12 => ?_)
  refine SL.store_own (k := 0) (own' := [_, _, _]) (cs' := [_, _, _]) rfl rfl rfl rfl rfl rfl rfl Try.sizeOf65 rfl (Nat.le_of_ble_eq_true rfl) rfl rfl rfl rfl ?_
  refine SL.keep (l' := [(12, _, _), (11, _, _), (10, _, _), (0, _, _), (1, _, _), (2, _, _), (3, _, _), (4, _, _)]) ⟨rfl, rfl, rfl, rfl, rfl, rfl, rfl, rfl, trivial⟩ ?_
  refine SL.nil (SE.thenK hK3 (SC.seq (fun K4 hK4 => SC.seq (fun K5 hK5 => SC.region ?_))))
  refine SL.step (PS.move rfl tt rfl rfl) ?_
  refine SL.keep (l' := [(19, _, _), (12, _, _), (11, _, _), (10, _, _), (0, _, _), (1, _, _), (2, _, _), (3, _, _)]) ⟨rfl, rfl, rfl, rfl, rfl, rfl, rfl, rfl, trivial⟩ ?_
  refine SL.nil (SE.thenK hK5 ?_)
  refine SC.cond rfl (fun c19 => ?_) (fun c19 => ?_)
  ·
   have c19n := c19
   try simp only [Bool.and_eq_true, Bool.or_eq_true, decide_eq_true_eq, Bool.true_and, Bool.not_eq_true', Bool.not_eq_false', beq_iff_eq, bne_iff_ne, decide_eq_false_iff_not, beq_eq_false_iff_ne, bne_eq_false_iff_eq, ne_eq, Bool.or_eq_false_iff, Bool.and_eq_false_iff] at c19n
   refine SC.seq (fun K6 hK6 => SC.region ?_)
   refine SL.step (PS.move rfl tt rfl rfl) ?_
   refine SL.step (PS.move rfl tt rfl rfl) ?_
   refine SL.callV (vs := [_, _]) Try.call47 ⟨⟨_, rfl, tt⟩, ⟨_, rfl, tt⟩, trivial⟩ (fun hg => latheref01_With_V p1 p2 (by omega)) rfl rfl ?_
   refine SL.store_own (k := 1) (own' := [_, _, _]) (cs' := [_, _, _]) rfl rfl rfl rfl rfl rfl rfl Try.sizeOf65 rfl (Nat.le_of_ble_eq_true rfl) rfl rfl rfl rfl ?_
   refine SL.keep (l' := [(12, _, _), (11, _, _), (10, _, _), (0, _, _), (1, _, _), (3, _, _)]) ⟨rfl, rfl, rfl, rfl, rfl, rfl, trivial⟩ ?_
   refine SL.nil (SE.thenK hK6 (SC.seq (fun K7 hK7 => SC.region ?_)))
   refine SL.step (PS.move rfl tt rfl rfl) ?_
   refine SL.step (PS.neq rfl tt rfl tt rfl rfl) ?_
   refine SL.keep (l' := [(24, _, _), (12, _, _), (11, _, _), (10, _, _), (0, _, _), (1, _, _), (3, _, _)]) ⟨rfl, rfl, rfl, rfl, rfl, rfl, rfl, trivial⟩ ?_
   refine SL.nil (SE.thenK hK7 ?_)
   refine SC.cond rfl (fun c24 => ?_) (fun c24 => ?_)
   ·
    have c24n := c24
    try simp only [Bool.and_eq_true, Bool.or_eq_true, decide_eq_true_eq, Bool.true_and, Bool.not_eq_true', Bool.not_eq_false', beq_iff_eq, bne_iff_ne, decide_eq_false_iff_not, beq_eq_false_iff_ne, bne_eq_false_iff_eq, ne_eq, Bool.or_eq_false_iff, Bool.and_eq_false_iff] at c24n
    refine SC.region ?_
    refine SL.step (PS.move rfl tt rfl rfl) ?_
    refine SL.step (PS.move rfl tt rfl rfl) ?_
    refine SL.callV (vs := [_, _]) Try.call47 ⟨⟨_, rfl, tt⟩, ⟨_, rfl, tt⟩, trivial⟩ (fun hg => latheref01_With_V p1 p3 (by omega)) rfl rfl ?_
    refine SL.store_own (k := 0) (own' := [_, _, _]) (cs' := [_, _, _]) rfl rfl rfl rfl rfl rfl rfl Try.sizeOf65 rfl (Nat.le_of_ble_eq_true rfl) rfl rfl rfl rfl ?_
    refine SL.keep (l' := [(12, _, _), (11, _, _), (10, _, _), (0, _, _)]) ⟨rfl, rfl, rfl, rfl, trivial⟩ ?_
    refine SL.nil (SE.thenK hK4 (SC.seq (fun K8 hK8 => SC.seq (fun K9 hK9 => SC.region ?_))))
    refine SL.step (PS.move rfl tt rfl rfl) ?_
    refine SL.keep (l' := [(28, _, _), (12, _, _), (11, _, _), (10, _, _)]) ⟨rfl, rfl, rfl, rfl, trivial⟩ ?_
    refine SL.nil (SE.thenK hK9 (SC.block (SC.seq (fun K10 hK10 => SC.region ?_))))
    refine SL.step (PS.eql rfl tt rfl tt rfl rfl) ?_
    refine SL.step (PS.assign rfl tt rfl rfl) ?_
    refine SL.keep (l' := [(29, _, _), (28, _, _), (12, _, _), (11, _, _), (10, _, _)]) ⟨rfl, rfl, rfl, rfl, rfl, trivial⟩ ?_
    refine SL.nil (SE.thenK hK10 ?_)
    refine SC.cond rfl (fun c29 => ?_) (fun c29 => ?_)
    ·
     refine SC.seq (fun K11 hK11 => SC.region ?_)
     refine SL.step (PS.load_own_agg (k := 1) (vs := [_, _, _]) rfl tt rfl rfl rfl rfl Try.isAgg65 Try.sizeOf65 rfl rfl) ?_
     refine SL.step (PS.load_own_agg (k := 0) (vs := [_, _, _]) rfl tt rfl rfl rfl rfl Try.isAgg65 Try.sizeOf65 rfl rfl) ?_
     refine SL.callV (vs := [_, _]) Try.call70 ⟨⟨_, rfl, tt⟩, ⟨_, rfl, tt⟩, trivial⟩ (fun hg => latheref01_Plus_W _ _ _ _ _ _ ) rfl rfl ?_
     refine SL.store_own (k := 2) (own' := [_, _, _]) (cs' := [_, _, _]) rfl rfl rfl rfl rfl rfl rfl Try.sizeOf65 rfl (Nat.le_of_ble_eq_true rfl) rfl rfl rfl rfl ?_
     refine SL.keep (l' := [(10, _, _)]) ⟨rfl, trivial⟩ ?_
     refine SL.nil (SE.thenK hK11 (SC.ret (SE.block_ret (SE.then_ret ?_))))
     exact finVc (k := 2) rfl Try.isAgg65 Try.sizeOf65 rfl rfl rfl rfl (fun _ _ => congrArg (fun z : Bg => Value.agg [.int .u64 z.hi, .int .u64 z.lo, .bool z.below].toArray) (show (d_latheref01_exact p0 p1 p2 p3 p4) = ((d_latheref01_Plus (d_latheref01_With p1 p2) (d_latheref01_With p1 p3)) : Bg) from ((bifT c19).trans ((bifT c24).trans (bifT c29)))).symm)
    ·
     have c29n := c29
     try simp only [Bool.and_eq_true, Bool.or_eq_true, decide_eq_true_eq, Bool.true_and, Bool.not_eq_true', Bool.not_eq_false', beq_iff_eq, bne_iff_ne, decide_eq_false_iff_not, beq_eq_false_iff_ne, bne_eq_false_iff_eq, ne_eq, Bool.or_eq_false_iff, Bool.and_eq_false_iff] at c29n
     refine SC.seq (fun K12 hK12 => SC.region ?_)
     refine SL.step (PS.eql rfl tt rfl tt rfl rfl) ?_
     refine SL.step (PS.assign rfl tt rfl rfl) ?_
     refine SL.keep (l' := [(34, _, _), (28, _, _), (12, _, _), (11, _, _), (10, _, _)]) ⟨rfl, rfl, rfl, rfl, rfl, trivial⟩ ?_
     refine SL.nil (SE.thenK hK12 ?_)
     refine SC.cond rfl (fun c34 => ?_) (fun c34 => ?_)
     ·
      refine SC.seq (fun K13 hK13 => ?_)
      refine SC.draw (S := SP _ _ _) 4 (by kernel_rfl) (by kernel_rfl) (fun _ h => h) ?_
      refine SD.take 0 rfl rfl (by kernel_rfl) (PS.load_own_agg (k := 1) (vs := [_, _, _]) rfl tt rfl rfl rfl rfl Try.isAgg65 Try.sizeOf65 rfl rfl) ?_
      refine SD.take 1 rfl rfl (by kernel_rfl) (PS.load_own_agg (k := 0) (vs := [_, _, _]) rfl tt rfl rfl rfl rfl Try.isAgg65 Try.sizeOf65 rfl rfl) ?_
      refine SD.one 2 rfl (by kernel_rfl) (fun inv2 => ?_)
      refine SL.callV (vs := [_]) Try.call71 ⟨⟨_, rfl, tt⟩, trivial⟩ (fun hg => latheref01_Minus_W _ _ _ ) rfl rfl ?_
      refine SL.nil ?_
      refine SE.next (fun _ h => h.drop (List.Sublist.refl _) (fun _ h => h)) inv2 ?_
      refine SD.one 3 rfl (by kernel_rfl) (fun inv3 => ?_)
      refine SL.callV (vs := [_, _]) Try.call70 ⟨⟨_, rfl, tt⟩, ⟨_, rfl, tt⟩, trivial⟩ (fun hg => latheref01_Plus_W _ _ _ _ _ _ ) rfl rfl ?_
      refine SL.nil ?_
      refine SE.next (fun _ h => h.drop (List.Sublist.refl _) (fun _ h => h)) inv3 ?_
      clear inv2 inv3
      refine SD.tail (by kernel_rfl) (os := [_]) rfl ?_
      refine SL.store_own (k := 2) (own' := [_, _, _]) (cs' := [_, _, _]) rfl rfl rfl rfl rfl rfl rfl Try.sizeOf65 rfl (Nat.le_of_ble_eq_true rfl) rfl rfl rfl rfl ?_
      refine SL.keep (l' := [(10, _, _)]) ⟨rfl, trivial⟩ ?_
      refine SL.nil (SE.calm (SE.thenK hK13 (SC.ret (SE.block_ret (SE.then_ret ?_)))))
      exact finVc (k := 2) rfl Try.isAgg65 Try.sizeOf65 rfl rfl rfl rfl (fun _ _ => congrArg (fun z : Bg => Value.agg [.int .u64 z.hi, .int .u64 z.lo, .bool z.below].toArray) (show (d_latheref01_exact p0 p1 p2 p3 p4) = ((d_latheref01_Plus (d_latheref01_With p1 p2) (d_latheref01_Minus (d_latheref01_With p1 p3))) : Bg) from ((bifT c19).trans ((bifT c24).trans ((bifF c29).trans (bifT c34))))).symm)
     ·
      have c34n := c34
      try simp only [Bool.and_eq_true, Bool.or_eq_true, decide_eq_true_eq, Bool.true_and, Bool.not_eq_true', Bool.not_eq_false', beq_iff_eq, bne_iff_ne, decide_eq_false_iff_not, beq_eq_false_iff_ne, bne_eq_false_iff_eq, ne_eq, Bool.or_eq_false_iff, Bool.and_eq_false_iff] at c34n
      refine SC.seq (fun K14 hK14 => SC.region ?_)
      refine SL.step (PS.eql rfl tt rfl tt rfl rfl) ?_
      refine SL.step (PS.assign rfl tt rfl rfl) ?_
      refine SL.keep (l' := [(40, _, _), (12, _, _), (11, _, _), (10, _, _)]) ⟨rfl, rfl, rfl, rfl, trivial⟩ ?_
      refine SL.nil (SE.thenK hK14 ?_)
      refine SC.cond rfl (fun c40 => ?_) (fun c40 => ?_)
      ·
       refine SC.seq (fun K15 hK15 => SC.region ?_)
       refine SL.step (PS.load_own_agg (k := 1) (vs := [_, _, _]) rfl tt rfl rfl rfl rfl Try.isAgg65 Try.sizeOf65 rfl rfl) ?_
       refine SL.step (PS.load_own_agg (k := 0) (vs := [_, _, _]) rfl tt rfl rfl rfl rfl Try.isAgg65 Try.sizeOf65 rfl rfl) ?_
       refine SL.callV (vs := [_, _]) Try.call72 ⟨⟨_, rfl, tt⟩, ⟨_, rfl, tt⟩, trivial⟩ (fun hg => latheref01_Times_W _ _ _ _ _ _ ) rfl rfl ?_
       refine SL.store_own (k := 2) (own' := [_, _, _]) (cs' := [_, _, _]) rfl rfl rfl rfl rfl rfl rfl Try.sizeOf65 rfl (Nat.le_of_ble_eq_true rfl) rfl rfl rfl rfl ?_
       refine SL.keep (l' := [(10, _, _)]) ⟨rfl, trivial⟩ ?_
       refine SL.nil (SE.thenK hK15 (SC.ret (SE.block_ret (SE.then_ret ?_))))
       exact finVc (k := 2) rfl Try.isAgg65 Try.sizeOf65 rfl rfl rfl rfl (fun _ _ => congrArg (fun z : Bg => Value.agg [.int .u64 z.hi, .int .u64 z.lo, .bool z.below].toArray) (show (d_latheref01_exact p0 p1 p2 p3 p4) = ((d_latheref01_Times (d_latheref01_With p1 p2) (d_latheref01_With p1 p3)) : Bg) from ((bifT c19).trans ((bifT c24).trans ((bifF c29).trans ((bifF c34).trans (bifT c40)))))).symm)
      ·
       have c40n := c40
       try simp only [Bool.and_eq_true, Bool.or_eq_true, decide_eq_true_eq, Bool.true_and, Bool.not_eq_true', Bool.not_eq_false', beq_iff_eq, bne_iff_ne, decide_eq_false_iff_not, beq_eq_false_iff_ne, bne_eq_false_iff_eq, ne_eq, Bool.or_eq_false_iff, Bool.and_eq_false_iff] at c40n
       refine SC.skip (SE.block_normal (SE.thenK hK8 (SC.seq (fun K16 hK16 => ?_))))
       refine SC.draw (S := SP _ _ _) 5 (by kernel_rfl) (by kernel_rfl) (fun _ h => h) ?_
       refine SD.take 0 rfl rfl (by kernel_rfl) (PS.load_own_agg (k := 1) (vs := [_, _, _]) rfl tt rfl rfl rfl rfl Try.isAgg65 Try.sizeOf65 rfl rfl) ?_
       refine SD.take 1 rfl rfl (by kernel_rfl) (PS.fieldAddr rfl tt Try.fieldAt_65_1 rfl rfl) ?_
       refine SD.take 2 rfl rfl (by kernel_rfl) (PS.load_own (k := 0) rfl tt rfl rfl rfl Try.isAgg27 rfl rfl) ?_
       refine SD.one 3 rfl (by kernel_rfl) (fun inv3 => ?_)
       refine SL.callV (vs := [_]) Try.call69 ⟨⟨_, rfl, tt⟩, trivial⟩ (fun hg => latheref01_power_V ((d_latheref01_With p1 p3).lo) (by omega)) rfl rfl ?_
       refine SL.nil ?_
       refine SE.next (fun _ h => h.drop (List.Sublist.refl _) (fun _ h => h)) inv3 ?_
       refine SD.one 4 rfl (by kernel_rfl) (fun inv4 => ?_)
       refine SL.callV (vs := [_, _]) Try.call72 ⟨⟨_, rfl, tt⟩, ⟨_, rfl, tt⟩, trivial⟩ (fun hg => latheref01_Times_W _ _ _ _ _ _ ) rfl rfl ?_
       refine SL.nil ?_
       refine SE.next (fun _ h => h.drop (List.Sublist.refl _) (fun _ h => h)) inv4 ?_
       clear inv3 inv4
       refine SD.tail (by kernel_rfl) (os := [_]) rfl ?_
       refine SL.store_own (k := 2) (own' := [_, _, _]) (cs' := [_, _, _]) rfl rfl rfl rfl rfl rfl rfl Try.sizeOf65 rfl (Nat.le_of_ble_eq_true rfl) rfl rfl rfl rfl ?_
       refine SL.keep (l' := [(10, _, _)]) ⟨rfl, trivial⟩ ?_
       refine SL.nil (SE.calm (SE.thenK hK16 (SC.ret ?_)))
       exact finVc (k := 2) rfl Try.isAgg65 Try.sizeOf65 rfl rfl rfl rfl (fun _ _ => congrArg (fun z : Bg => Value.agg [.int .u64 z.hi, .int .u64 z.lo, .bool z.below].toArray) (show (d_latheref01_exact p0 p1 p2 p3 p4) = ((d_latheref01_Times (d_latheref01_With p1 p2) (d_latheref01_power ((d_latheref01_With p1 p3).lo))) : Bg) from ((bifT c19).trans ((bifT c24).trans ((bifF c29).trans ((bifF c34).trans (bifF c40)))))).symm)
   ·
    have c24n := c24
    try simp only [Bool.and_eq_true, Bool.or_eq_true, decide_eq_true_eq, Bool.true_and, Bool.not_eq_true', Bool.not_eq_false', beq_iff_eq, bne_iff_ne, decide_eq_false_iff_not, beq_eq_false_iff_ne, bne_eq_false_iff_eq, ne_eq, Bool.or_eq_false_iff, Bool.and_eq_false_iff] at c24n
    refine SC.skip (SE.thenK hK4 (SC.seq (fun K17 hK17 => SC.seq (fun K18 hK18 => SC.region ?_))))
    refine SL.step (PS.move rfl tt rfl rfl) ?_
    refine SL.keep (l' := [(28, _, _), (12, _, _), (11, _, _), (10, _, _)]) ⟨rfl, rfl, rfl, rfl, trivial⟩ ?_
    refine SL.nil (SE.thenK hK18 (SC.block (SC.seq (fun K19 hK19 => SC.region ?_))))
    refine SL.step (PS.eql rfl tt rfl tt rfl rfl) ?_
    refine SL.step (PS.assign rfl tt rfl rfl) ?_
    refine SL.keep (l' := [(29, _, _), (28, _, _), (12, _, _), (11, _, _), (10, _, _)]) ⟨rfl, rfl, rfl, rfl, rfl, trivial⟩ ?_
    refine SL.nil (SE.thenK hK19 ?_)
    refine SC.cond rfl (fun c29 => ?_) (fun c29 => ?_)
    ·
     refine SC.seq (fun K20 hK20 => SC.region ?_)
     refine SL.step (PS.load_own_agg (k := 1) (vs := [_, _, _]) rfl tt rfl rfl rfl rfl Try.isAgg65 Try.sizeOf65 rfl rfl) ?_
     refine SL.step (PS.load_own_agg (k := 0) (vs := [_, _, _]) rfl tt rfl rfl rfl rfl Try.isAgg65 Try.sizeOf65 rfl rfl) ?_
     refine SL.callV (vs := [_, _]) Try.call70 ⟨⟨_, rfl, tt⟩, ⟨_, rfl, tt⟩, trivial⟩ (fun hg => latheref01_Plus_W _ _ _ _ _ _ ) rfl rfl ?_
     refine SL.store_own (k := 2) (own' := [_, _, _]) (cs' := [_, _, _]) rfl rfl rfl rfl rfl rfl rfl Try.sizeOf65 rfl (Nat.le_of_ble_eq_true rfl) rfl rfl rfl rfl ?_
     refine SL.keep (l' := [(10, _, _)]) ⟨rfl, trivial⟩ ?_
     refine SL.nil (SE.thenK hK20 (SC.ret (SE.block_ret (SE.then_ret ?_))))
     exact finVc (k := 2) rfl Try.isAgg65 Try.sizeOf65 rfl rfl rfl rfl (fun _ _ => congrArg (fun z : Bg => Value.agg [.int .u64 z.hi, .int .u64 z.lo, .bool z.below].toArray) (show (d_latheref01_exact p0 p1 p2 p3 p4) = ((d_latheref01_Plus (d_latheref01_With p1 p2) (d_latheref01_Plain p1 p3)) : Bg) from ((bifT c19).trans ((bifF c24).trans (bifT c29)))).symm)
    ·
     have c29n := c29
     try simp only [Bool.and_eq_true, Bool.or_eq_true, decide_eq_true_eq, Bool.true_and, Bool.not_eq_true', Bool.not_eq_false', beq_iff_eq, bne_iff_ne, decide_eq_false_iff_not, beq_eq_false_iff_ne, bne_eq_false_iff_eq, ne_eq, Bool.or_eq_false_iff, Bool.and_eq_false_iff] at c29n
     refine SC.seq (fun K21 hK21 => SC.region ?_)
     refine SL.step (PS.eql rfl tt rfl tt rfl rfl) ?_
     refine SL.step (PS.assign rfl tt rfl rfl) ?_
     refine SL.keep (l' := [(34, _, _), (28, _, _), (12, _, _), (11, _, _), (10, _, _)]) ⟨rfl, rfl, rfl, rfl, rfl, trivial⟩ ?_
     refine SL.nil (SE.thenK hK21 ?_)
     refine SC.cond rfl (fun c34 => ?_) (fun c34 => ?_)
     ·
      refine SC.seq (fun K22 hK22 => ?_)
      refine SC.draw (S := SP _ _ _) 4 (by kernel_rfl) (by kernel_rfl) (fun _ h => h) ?_
      refine SD.take 0 rfl rfl (by kernel_rfl) (PS.load_own_agg (k := 1) (vs := [_, _, _]) rfl tt rfl rfl rfl rfl Try.isAgg65 Try.sizeOf65 rfl rfl) ?_
      refine SD.take 1 rfl rfl (by kernel_rfl) (PS.load_own_agg (k := 0) (vs := [_, _, _]) rfl tt rfl rfl rfl rfl Try.isAgg65 Try.sizeOf65 rfl rfl) ?_
      refine SD.one 2 rfl (by kernel_rfl) (fun inv2 => ?_)
      refine SL.callV (vs := [_]) Try.call71 ⟨⟨_, rfl, tt⟩, trivial⟩ (fun hg => latheref01_Minus_W _ _ _ ) rfl rfl ?_
      refine SL.nil ?_
      refine SE.next (fun _ h => h.drop (List.Sublist.refl _) (fun _ h => h)) inv2 ?_
      refine SD.one 3 rfl (by kernel_rfl) (fun inv3 => ?_)
      refine SL.callV (vs := [_, _]) Try.call70 ⟨⟨_, rfl, tt⟩, ⟨_, rfl, tt⟩, trivial⟩ (fun hg => latheref01_Plus_W _ _ _ _ _ _ ) rfl rfl ?_
      refine SL.nil ?_
      refine SE.next (fun _ h => h.drop (List.Sublist.refl _) (fun _ h => h)) inv3 ?_
      clear inv2 inv3
      refine SD.tail (by kernel_rfl) (os := [_]) rfl ?_
      refine SL.store_own (k := 2) (own' := [_, _, _]) (cs' := [_, _, _]) rfl rfl rfl rfl rfl rfl rfl Try.sizeOf65 rfl (Nat.le_of_ble_eq_true rfl) rfl rfl rfl rfl ?_
      refine SL.keep (l' := [(10, _, _)]) ⟨rfl, trivial⟩ ?_
      refine SL.nil (SE.calm (SE.thenK hK22 (SC.ret (SE.block_ret (SE.then_ret ?_)))))
      exact finVc (k := 2) rfl Try.isAgg65 Try.sizeOf65 rfl rfl rfl rfl (fun _ _ => congrArg (fun z : Bg => Value.agg [.int .u64 z.hi, .int .u64 z.lo, .bool z.below].toArray) (show (d_latheref01_exact p0 p1 p2 p3 p4) = ((d_latheref01_Plus (d_latheref01_With p1 p2) (d_latheref01_Minus (d_latheref01_Plain p1 p3))) : Bg) from ((bifT c19).trans ((bifF c24).trans ((bifF c29).trans (bifT c34))))).symm)
     ·
      have c34n := c34
      try simp only [Bool.and_eq_true, Bool.or_eq_true, decide_eq_true_eq, Bool.true_and, Bool.not_eq_true', Bool.not_eq_false', beq_iff_eq, bne_iff_ne, decide_eq_false_iff_not, beq_eq_false_iff_ne, bne_eq_false_iff_eq, ne_eq, Bool.or_eq_false_iff, Bool.and_eq_false_iff] at c34n
      refine SC.seq (fun K23 hK23 => SC.region ?_)
      refine SL.step (PS.eql rfl tt rfl tt rfl rfl) ?_
      refine SL.step (PS.assign rfl tt rfl rfl) ?_
      refine SL.keep (l' := [(40, _, _), (12, _, _), (11, _, _), (10, _, _)]) ⟨rfl, rfl, rfl, rfl, trivial⟩ ?_
      refine SL.nil (SE.thenK hK23 ?_)
      refine SC.cond rfl (fun c40 => ?_) (fun c40 => ?_)
      ·
       refine SC.seq (fun K24 hK24 => SC.region ?_)
       refine SL.step (PS.load_own_agg (k := 1) (vs := [_, _, _]) rfl tt rfl rfl rfl rfl Try.isAgg65 Try.sizeOf65 rfl rfl) ?_
       refine SL.step (PS.load_own_agg (k := 0) (vs := [_, _, _]) rfl tt rfl rfl rfl rfl Try.isAgg65 Try.sizeOf65 rfl rfl) ?_
       refine SL.callV (vs := [_, _]) Try.call72 ⟨⟨_, rfl, tt⟩, ⟨_, rfl, tt⟩, trivial⟩ (fun hg => latheref01_Times_W _ _ _ _ _ _ ) rfl rfl ?_
       refine SL.store_own (k := 2) (own' := [_, _, _]) (cs' := [_, _, _]) rfl rfl rfl rfl rfl rfl rfl Try.sizeOf65 rfl (Nat.le_of_ble_eq_true rfl) rfl rfl rfl rfl ?_
       refine SL.keep (l' := [(10, _, _)]) ⟨rfl, trivial⟩ ?_
       refine SL.nil (SE.thenK hK24 (SC.ret (SE.block_ret (SE.then_ret ?_))))
       exact finVc (k := 2) rfl Try.isAgg65 Try.sizeOf65 rfl rfl rfl rfl (fun _ _ => congrArg (fun z : Bg => Value.agg [.int .u64 z.hi, .int .u64 z.lo, .bool z.below].toArray) (show (d_latheref01_exact p0 p1 p2 p3 p4) = ((d_latheref01_Times (d_latheref01_With p1 p2) (d_latheref01_Plain p1 p3)) : Bg) from ((bifT c19).trans ((bifF c24).trans ((bifF c29).trans ((bifF c34).trans (bifT c40)))))).symm)
      ·
       have c40n := c40
       try simp only [Bool.and_eq_true, Bool.or_eq_true, decide_eq_true_eq, Bool.true_and, Bool.not_eq_true', Bool.not_eq_false', beq_iff_eq, bne_iff_ne, decide_eq_false_iff_not, beq_eq_false_iff_ne, bne_eq_false_iff_eq, ne_eq, Bool.or_eq_false_iff, Bool.and_eq_false_iff] at c40n
       refine SC.skip (SE.block_normal (SE.thenK hK17 (SC.seq (fun K25 hK25 => ?_))))
       refine SC.draw (S := SP _ _ _) 5 (by kernel_rfl) (by kernel_rfl) (fun _ h => h) ?_
       refine SD.take 0 rfl rfl (by kernel_rfl) (PS.load_own_agg (k := 1) (vs := [_, _, _]) rfl tt rfl rfl rfl rfl Try.isAgg65 Try.sizeOf65 rfl rfl) ?_
       refine SD.take 1 rfl rfl (by kernel_rfl) (PS.fieldAddr rfl tt Try.fieldAt_65_1 rfl rfl) ?_
       refine SD.take 2 rfl rfl (by kernel_rfl) (PS.load_own (k := 0) rfl tt rfl rfl rfl Try.isAgg27 rfl rfl) ?_
       refine SD.one 3 rfl (by kernel_rfl) (fun inv3 => ?_)
       refine SL.callV (vs := [_]) Try.call69 ⟨⟨_, rfl, tt⟩, trivial⟩ (fun hg => latheref01_power_V ((d_latheref01_Plain p1 p3).lo) (by omega)) rfl rfl ?_
       refine SL.nil ?_
       refine SE.next (fun _ h => h.drop (List.Sublist.refl _) (fun _ h => h)) inv3 ?_
       refine SD.one 4 rfl (by kernel_rfl) (fun inv4 => ?_)
       refine SL.callV (vs := [_, _]) Try.call72 ⟨⟨_, rfl, tt⟩, ⟨_, rfl, tt⟩, trivial⟩ (fun hg => latheref01_Times_W _ _ _ _ _ _ ) rfl rfl ?_
       refine SL.nil ?_
       refine SE.next (fun _ h => h.drop (List.Sublist.refl _) (fun _ h => h)) inv4 ?_
       clear inv3 inv4
       refine SD.tail (by kernel_rfl) (os := [_]) rfl ?_
       refine SL.store_own (k := 2) (own' := [_, _, _]) (cs' := [_, _, _]) rfl rfl rfl rfl rfl rfl rfl Try.sizeOf65 rfl (Nat.le_of_ble_eq_true rfl) rfl rfl rfl rfl ?_
       refine SL.keep (l' := [(10, _, _)]) ⟨rfl, trivial⟩ ?_
       refine SL.nil (SE.calm (SE.thenK hK25 (SC.ret ?_)))
       exact finVc (k := 2) rfl Try.isAgg65 Try.sizeOf65 rfl rfl rfl rfl (fun _ _ => congrArg (fun z : Bg => Value.agg [.int .u64 z.hi, .int .u64 z.lo, .bool z.below].toArray) (show (d_latheref01_exact p0 p1 p2 p3 p4) = ((d_latheref01_Times (d_latheref01_With p1 p2) (d_latheref01_power ((d_latheref01_Plain p1 p3).lo))) : Bg) from ((bifT c19).trans ((bifF c24).trans ((bifF c29).trans ((bifF c34).trans (bifF c40)))))).symm)
  ·
   have c19n := c19
   try simp only [Bool.and_eq_true, Bool.or_eq_true, decide_eq_true_eq, Bool.true_and, Bool.not_eq_true', Bool.not_eq_false', beq_iff_eq, bne_iff_ne, decide_eq_false_iff_not, beq_eq_false_iff_ne, bne_eq_false_iff_eq, ne_eq, Bool.or_eq_false_iff, Bool.and_eq_false_iff] at c19n
   refine SC.skip (SE.thenK hK4 (SC.seq (fun K26 hK26 => SC.seq (fun K27 hK27 => SC.region ?_))))
   refine SL.step (PS.move rfl tt rfl rfl) ?_
   refine SL.keep (l' := [(28, _, _), (12, _, _), (11, _, _), (10, _, _)]) ⟨rfl, rfl, rfl, rfl, trivial⟩ ?_
   refine SL.nil (SE.thenK hK27 (SC.block (SC.seq (fun K28 hK28 => SC.region ?_))))
   refine SL.step (PS.eql rfl tt rfl tt rfl rfl) ?_
   refine SL.step (PS.assign rfl tt rfl rfl) ?_
   refine SL.keep (l' := [(29, _, _), (28, _, _), (12, _, _), (11, _, _), (10, _, _)]) ⟨rfl, rfl, rfl, rfl, rfl, trivial⟩ ?_
   refine SL.nil (SE.thenK hK28 ?_)
   refine SC.cond rfl (fun c29 => ?_) (fun c29 => ?_)
   ·
    refine SC.seq (fun K29 hK29 => SC.region ?_)
    refine SL.step (PS.load_own_agg (k := 1) (vs := [_, _, _]) rfl tt rfl rfl rfl rfl Try.isAgg65 Try.sizeOf65 rfl rfl) ?_
    refine SL.step (PS.load_own_agg (k := 0) (vs := [_, _, _]) rfl tt rfl rfl rfl rfl Try.isAgg65 Try.sizeOf65 rfl rfl) ?_
    refine SL.callV (vs := [_, _]) Try.call70 ⟨⟨_, rfl, tt⟩, ⟨_, rfl, tt⟩, trivial⟩ (fun hg => latheref01_Plus_W _ _ _ _ _ _ ) rfl rfl ?_
    refine SL.store_own (k := 2) (own' := [_, _, _]) (cs' := [_, _, _]) rfl rfl rfl rfl rfl rfl rfl Try.sizeOf65 rfl (Nat.le_of_ble_eq_true rfl) rfl rfl rfl rfl ?_
    refine SL.keep (l' := [(10, _, _)]) ⟨rfl, trivial⟩ ?_
    refine SL.nil (SE.thenK hK29 (SC.ret (SE.block_ret (SE.then_ret ?_))))
    exact finVc (k := 2) rfl Try.isAgg65 Try.sizeOf65 rfl rfl rfl rfl (fun _ _ => congrArg (fun z : Bg => Value.agg [.int .u64 z.hi, .int .u64 z.lo, .bool z.below].toArray) (show (d_latheref01_exact p0 p1 p2 p3 p4) = ((d_latheref01_Plus (d_latheref01_Plain p1 p2) (d_latheref01_Plain p1 p3)) : Bg) from ((bifF c19).trans (bifT c29))).symm)
   ·
    have c29n := c29
    try simp only [Bool.and_eq_true, Bool.or_eq_true, decide_eq_true_eq, Bool.true_and, Bool.not_eq_true', Bool.not_eq_false', beq_iff_eq, bne_iff_ne, decide_eq_false_iff_not, beq_eq_false_iff_ne, bne_eq_false_iff_eq, ne_eq, Bool.or_eq_false_iff, Bool.and_eq_false_iff] at c29n
    refine SC.seq (fun K30 hK30 => SC.region ?_)
    refine SL.step (PS.eql rfl tt rfl tt rfl rfl) ?_
    refine SL.step (PS.assign rfl tt rfl rfl) ?_
    refine SL.keep (l' := [(34, _, _), (28, _, _), (12, _, _), (11, _, _), (10, _, _)]) ⟨rfl, rfl, rfl, rfl, rfl, trivial⟩ ?_
    refine SL.nil (SE.thenK hK30 ?_)
    refine SC.cond rfl (fun c34 => ?_) (fun c34 => ?_)
    ·
     refine SC.seq (fun K31 hK31 => ?_)
     refine SC.draw (S := SP _ _ _) 4 (by kernel_rfl) (by kernel_rfl) (fun _ h => h) ?_
     refine SD.take 0 rfl rfl (by kernel_rfl) (PS.load_own_agg (k := 1) (vs := [_, _, _]) rfl tt rfl rfl rfl rfl Try.isAgg65 Try.sizeOf65 rfl rfl) ?_
     refine SD.take 1 rfl rfl (by kernel_rfl) (PS.load_own_agg (k := 0) (vs := [_, _, _]) rfl tt rfl rfl rfl rfl Try.isAgg65 Try.sizeOf65 rfl rfl) ?_
     refine SD.one 2 rfl (by kernel_rfl) (fun inv2 => ?_)
     refine SL.callV (vs := [_]) Try.call71 ⟨⟨_, rfl, tt⟩, trivial⟩ (fun hg => latheref01_Minus_W _ _ _ ) rfl rfl ?_
     refine SL.nil ?_
     refine SE.next (fun _ h => h.drop (List.Sublist.refl _) (fun _ h => h)) inv2 ?_
     refine SD.one 3 rfl (by kernel_rfl) (fun inv3 => ?_)
     refine SL.callV (vs := [_, _]) Try.call70 ⟨⟨_, rfl, tt⟩, ⟨_, rfl, tt⟩, trivial⟩ (fun hg => latheref01_Plus_W _ _ _ _ _ _ ) rfl rfl ?_
     refine SL.nil ?_
     refine SE.next (fun _ h => h.drop (List.Sublist.refl _) (fun _ h => h)) inv3 ?_
     clear inv2 inv3
     refine SD.tail (by kernel_rfl) (os := [_]) rfl ?_
     refine SL.store_own (k := 2) (own' := [_, _, _]) (cs' := [_, _, _]) rfl rfl rfl rfl rfl rfl rfl Try.sizeOf65 rfl (Nat.le_of_ble_eq_true rfl) rfl rfl rfl rfl ?_
     refine SL.keep (l' := [(10, _, _)]) ⟨rfl, trivial⟩ ?_
     refine SL.nil (SE.calm (SE.thenK hK31 (SC.ret (SE.block_ret (SE.then_ret ?_)))))
     exact finVc (k := 2) rfl Try.isAgg65 Try.sizeOf65 rfl rfl rfl rfl (fun _ _ => congrArg (fun z : Bg => Value.agg [.int .u64 z.hi, .int .u64 z.lo, .bool z.below].toArray) (show (d_latheref01_exact p0 p1 p2 p3 p4) = ((d_latheref01_Plus (d_latheref01_Plain p1 p2) (d_latheref01_Minus (d_latheref01_Plain p1 p3))) : Bg) from ((bifF c19).trans ((bifF c29).trans (bifT c34)))).symm)
    ·
     have c34n := c34
     try simp only [Bool.and_eq_true, Bool.or_eq_true, decide_eq_true_eq, Bool.true_and, Bool.not_eq_true', Bool.not_eq_false', beq_iff_eq, bne_iff_ne, decide_eq_false_iff_not, beq_eq_false_iff_ne, bne_eq_false_iff_eq, ne_eq, Bool.or_eq_false_iff, Bool.and_eq_false_iff] at c34n
     refine SC.seq (fun K32 hK32 => SC.region ?_)
     refine SL.step (PS.eql rfl tt rfl tt rfl rfl) ?_
     refine SL.step (PS.assign rfl tt rfl rfl) ?_
     refine SL.keep (l' := [(40, _, _), (12, _, _), (11, _, _), (10, _, _)]) ⟨rfl, rfl, rfl, rfl, trivial⟩ ?_
     refine SL.nil (SE.thenK hK32 ?_)
     refine SC.cond rfl (fun c40 => ?_) (fun c40 => ?_)
     ·
      refine SC.seq (fun K33 hK33 => SC.region ?_)
      refine SL.step (PS.load_own_agg (k := 1) (vs := [_, _, _]) rfl tt rfl rfl rfl rfl Try.isAgg65 Try.sizeOf65 rfl rfl) ?_
      refine SL.step (PS.load_own_agg (k := 0) (vs := [_, _, _]) rfl tt rfl rfl rfl rfl Try.isAgg65 Try.sizeOf65 rfl rfl) ?_
      refine SL.callV (vs := [_, _]) Try.call72 ⟨⟨_, rfl, tt⟩, ⟨_, rfl, tt⟩, trivial⟩ (fun hg => latheref01_Times_W _ _ _ _ _ _ ) rfl rfl ?_
      refine SL.store_own (k := 2) (own' := [_, _, _]) (cs' := [_, _, _]) rfl rfl rfl rfl rfl rfl rfl Try.sizeOf65 rfl (Nat.le_of_ble_eq_true rfl) rfl rfl rfl rfl ?_
      refine SL.keep (l' := [(10, _, _)]) ⟨rfl, trivial⟩ ?_
      refine SL.nil (SE.thenK hK33 (SC.ret (SE.block_ret (SE.then_ret ?_))))
      exact finVc (k := 2) rfl Try.isAgg65 Try.sizeOf65 rfl rfl rfl rfl (fun _ _ => congrArg (fun z : Bg => Value.agg [.int .u64 z.hi, .int .u64 z.lo, .bool z.below].toArray) (show (d_latheref01_exact p0 p1 p2 p3 p4) = ((d_latheref01_Times (d_latheref01_Plain p1 p2) (d_latheref01_Plain p1 p3)) : Bg) from ((bifF c19).trans ((bifF c29).trans ((bifF c34).trans (bifT c40))))).symm)
     ·
      have c40n := c40
      try simp only [Bool.and_eq_true, Bool.or_eq_true, decide_eq_true_eq, Bool.true_and, Bool.not_eq_true', Bool.not_eq_false', beq_iff_eq, bne_iff_ne, decide_eq_false_iff_not, beq_eq_false_iff_ne, bne_eq_false_iff_eq, ne_eq, Bool.or_eq_false_iff, Bool.and_eq_false_iff] at c40n
      refine SC.skip (SE.block_normal (SE.thenK hK26 (SC.seq (fun K34 hK34 => ?_))))
      refine SC.draw (S := SP _ _ _) 5 (by kernel_rfl) (by kernel_rfl) (fun _ h => h) ?_
      refine SD.take 0 rfl rfl (by kernel_rfl) (PS.load_own_agg (k := 1) (vs := [_, _, _]) rfl tt rfl rfl rfl rfl Try.isAgg65 Try.sizeOf65 rfl rfl) ?_
      refine SD.take 1 rfl rfl (by kernel_rfl) (PS.fieldAddr rfl tt Try.fieldAt_65_1 rfl rfl) ?_
      refine SD.take 2 rfl rfl (by kernel_rfl) (PS.load_own (k := 0) rfl tt rfl rfl rfl Try.isAgg27 rfl rfl) ?_
      refine SD.one 3 rfl (by kernel_rfl) (fun inv3 => ?_)
      refine SL.callV (vs := [_]) Try.call69 ⟨⟨_, rfl, tt⟩, trivial⟩ (fun hg => latheref01_power_V ((d_latheref01_Plain p1 p3).lo) (by omega)) rfl rfl ?_
      refine SL.nil ?_
      refine SE.next (fun _ h => h.drop (List.Sublist.refl _) (fun _ h => h)) inv3 ?_
      refine SD.one 4 rfl (by kernel_rfl) (fun inv4 => ?_)
      refine SL.callV (vs := [_, _]) Try.call72 ⟨⟨_, rfl, tt⟩, ⟨_, rfl, tt⟩, trivial⟩ (fun hg => latheref01_Times_W _ _ _ _ _ _ ) rfl rfl ?_
      refine SL.nil ?_
      refine SE.next (fun _ h => h.drop (List.Sublist.refl _) (fun _ h => h)) inv4 ?_
      clear inv3 inv4
      refine SD.tail (by kernel_rfl) (os := [_]) rfl ?_
      refine SL.store_own (k := 2) (own' := [_, _, _]) (cs' := [_, _, _]) rfl rfl rfl rfl rfl rfl rfl Try.sizeOf65 rfl (Nat.le_of_ble_eq_true rfl) rfl rfl rfl rfl ?_
      refine SL.keep (l' := [(10, _, _)]) ⟨rfl, trivial⟩ ?_
      refine SL.nil (SE.calm (SE.thenK hK34 (SC.ret ?_)))
      exact finVc (k := 2) rfl Try.isAgg65 Try.sizeOf65 rfl rfl rfl rfl (fun _ _ => congrArg (fun z : Bg => Value.agg [.int .u64 z.hi, .int .u64 z.lo, .bool z.below].toArray) (show (d_latheref01_exact p0 p1 p2 p3 p4) = ((d_latheref01_Times (d_latheref01_Plain p1 p2) (d_latheref01_power ((d_latheref01_Plain p1 p3).lo))) : Bg) from ((bifF c19).trans ((bifF c29).trans ((bifF c34).trans (bifF c40))))).symm)
def d_latheref01_flagged (p0 : Int) (p1 : Int) (p2 : Int) (p3 : Int) (p4 : Int) : Int × Int :=
  bif ((p0 == 11) && (decide ((IntKind.u64.wrap p1) ≤ (d_latheref01_Cut p1 p4)))) then
   (0, 1)
  else bif ((((bits .and .i64 p2 2) != 0) && (!(d_latheref01_fits p1 (d_latheref01_exact p0 p1 p3 p4 false) false))) || (((bits .and .i64 p2 1) != 0) && (!(d_latheref01_fits p1 (d_latheref01_exact p0 p1 p3 p4 true) true)))) then
    (0, 1)
   else ((d_latheref01_Wrapped p1 (d_latheref01_exact p0 p1 p3 p4 false)), 0)
theorem latheref01_flagged_V (p0 : Int) (p1 : Int) (p2 : Int) (p3 : Int) (p4 : Int) (ho : p0 = 1 ∨ p0 = 2 ∨ p0 = 3 ∨ p0 = 11) (hw : 1 ≤ p1 ∧ p1 ≤ 64) (hb : 0 ≤ p4 ∧ p4 < 18446744073709551616) : SpecV Try.prog 58 [.int .i64 p0, .int .i64 p1, .int .i64 p2, .int .u64 p3, .int .u64 p4] (Value.tuple #[Value.int .u64 (d_latheref01_flagged p0 p1 p2 p3 p4).1, Value.int .i64 (d_latheref01_flagged p0 p1 p2 p3 p4).2]) := by
  refine SpecV.enter Try.func58 rfl (n := 61) Try.ntmps58 (Nat.le_of_ble_eq_true rfl) (l := [(0, _, _), (1, _, _), (2, _, _), (3, _, _), (4, _, _)]) rfl ?_
  intro w
  have hwr := wr_w hw
  have hc0 := cut_nn hw hb
  refine SC.seq (fun K1 hK1 => SC.region ?_)
  refine SL.step (PS.assign rfl tt rfl rfl) ?_
  refine SL.step (PS.assign rfl tt rfl rfl) ?_
  refine SL.keep (l' := [(0, _, _), (1, _, _), (2, _, _), (3, _, _), (4, _, _)]) ⟨rfl, rfl, rfl, rfl, rfl, trivial⟩ ?_
  refine SL.nil (SE.thenK hK1 (SC.seq (fun K2 hK2 => SC.seq (fun K3 hK3 => SC.region ?_))))
  refine SL.step (PS.move rfl tt rfl rfl) ?_
  refine SL.step (PS.eql rfl tt rfl tt rfl rfl) ?_
  refine SL.step (PS.move rfl tt rfl rfl) ?_
  refine SL.step (PS.move rfl tt rfl rfl) ?_
  refine SL.step (PS.move rfl tt rfl rfl) ?_
  refine SL.callV (vs := [_, _]) Try.call42 ⟨⟨_, rfl, (fun h => h)⟩, ⟨_, rfl, (fun h => h)⟩, trivial⟩ (fun hg => latheref01_Cut_V p1 p4 (by omega)) rfl rfl ?_
  refine SL.step (PS.move rfl tt rfl rfl) ?_
  refine SL.step (PS.conv rfl (fun h => h) Try.underlying3 Try.underlying27 rfl rfl) ?_
  refine SL.step (PS.geq rfl (fun h => h) rfl (fun h => h) rfl rfl) ?_
  refine SL.step (PS.pick_and rfl tt rfl (fun h h2 => pk_and h h2) rfl rfl) ?_
  refine SL.keep (l' := [(25, _, _), (0, _, _), (1, _, _), (2, _, _), (3, _, _), (4, _, _)]) ⟨rfl, rfl, rfl, rfl, rfl, rfl, trivial⟩ ?_
  refine SL.nil (SE.thenK hK3 ?_)
  refine SC.cond rfl (fun c25 => ?_) (fun c25 => ?_)
  ·
   refine SC.seq (fun K4 hK4 => SC.region ?_)
   refine SL.step (PS.assign rfl tt rfl rfl) ?_
   refine SL.step (PS.assign rfl tt rfl rfl) ?_
   refine SL.keep (l' := [(11, _, _), (10, _, _)]) ⟨rfl, rfl, trivial⟩ ?_
   refine SL.nil (SE.thenK hK4 (SC.ret (SE.then_ret ?_)))
   exact finV2 rfl rfl rfl (fun _ _ => congrArg (fun z : Int × Int => Value.tuple #[Value.int .u64 z.1, Value.int .i64 z.2]) (show (d_latheref01_flagged p0 p1 p2 p3 p4) = ((0, 1) : Int × Int) from (bifT c25)).symm)
  ·
   have c25n := c25
   try simp only [Bool.and_eq_true, Bool.or_eq_true, decide_eq_true_eq, Bool.true_and, Bool.not_eq_true', Bool.not_eq_false', beq_iff_eq, bne_iff_ne, decide_eq_false_iff_not, beq_eq_false_iff_ne, bne_eq_false_iff_eq, ne_eq, Bool.or_eq_false_iff, Bool.and_eq_false_iff] at c25n
   refine SC.skip (SE.thenK hK2 (SC.seq (fun K5 hK5 => SC.region ?_)))
   refine SL.step (PS.move rfl tt rfl rfl) ?_
   refine SL.step (PS.move rfl tt rfl rfl) ?_
   refine SL.step (PS.move rfl tt rfl rfl) ?_
   refine SL.step (PS.move rfl tt rfl rfl) ?_
   refine SL.callV (vs := [_, _, _, _, _]) Try.call64 ⟨⟨_, rfl, tt⟩, ⟨_, rfl, tt⟩, ⟨_, rfl, tt⟩, ⟨_, rfl, tt⟩, ⟨_, rfl, tt⟩, trivial⟩ (fun hg => latheref01_exact_V p0 p1 p3 p4 false (by omega) (by omega)) rfl rfl ?_
   refine SL.alloc (cs := [_, _, _]) Try.zeroValue65 rfl rfl rfl (fun b12 => ?_)
   refine SL.store_own (k := 0) (own' := [_]) (cs' := [_, _, _]) rfl rfl rfl rfl rfl rfl rfl Try.sizeOf65 rfl (Nat.le_of_ble_eq_true rfl) rfl rfl rfl rfl ?_
   refine SL.keep (l' := [(12, _, _), (0, _, _), (1, _, _), (2, _, _), (3, _, _), (4, _, _)]) ⟨rfl, rfl, rfl, rfl, rfl, rfl, trivial⟩ ?_
   refine SL.nil (SE.thenK hK5 (SC.seq (fun K6 hK6 => SC.region ?_)))
   refine SL.step (PS.move rfl tt rfl rfl) ?_
   refine SL.step (PS.move rfl tt rfl rfl) ?_
   refine SL.step (PS.move rfl tt rfl rfl) ?_
   refine SL.step (PS.move rfl tt rfl rfl) ?_
   refine SL.callV (vs := [_, _, _, _, _]) Try.call64 ⟨⟨_, rfl, tt⟩, ⟨_, rfl, tt⟩, ⟨_, rfl, tt⟩, ⟨_, rfl, tt⟩, ⟨_, rfl, tt⟩, trivial⟩ (fun hg => latheref01_exact_V p0 p1 p3 p4 true (by omega) (by omega)) rfl rfl ?_
   refine SL.alloc (cs := [_, _, _]) Try.zeroValue65 rfl rfl rfl (fun b13 => ?_)
   refine SL.store_own (k := 0) (own' := [_, _]) (cs' := [_, _, _]) rfl rfl rfl rfl rfl rfl rfl Try.sizeOf65 rfl (Nat.le_of_ble_eq_true rfl) rfl rfl rfl rfl ?_
   refine SL.keep (l' := [(13, _, _), (12, _, _), (1, _, _), (2, _, _)]) ⟨rfl, rfl, rfl, rfl, trivial⟩ ?_
   refine SL.nil (SE.thenK hK6 (SC.seq (fun K7 hK7 => SC.region ?_)))
   refine SL.step (PS.move rfl tt rfl rfl) ?_
   refine SL.step (PS.load_own_agg (k := 1) (vs := [_, _, _]) rfl tt rfl rfl rfl rfl Try.isAgg65 Try.sizeOf65 rfl rfl) ?_
   refine SL.callV (vs := [_, _, _]) Try.call65 ⟨⟨_, rfl, tt⟩, ⟨_, rfl, tt⟩, ⟨_, rfl, tt⟩, trivial⟩ (fun hg => latheref01_fits_V p1 (d_latheref01_exact p0 p1 p3 p4 false) false (by omega)) rfl rfl ?_
   refine SL.step (PS.assign rfl tt rfl rfl) ?_
   refine SL.keep (l' := [(14, _, _), (13, _, _), (12, _, _), (1, _, _), (2, _, _)]) ⟨rfl, rfl, rfl, rfl, rfl, trivial⟩ ?_
   refine SL.nil (SE.thenK hK7 (SC.seq (fun K8 hK8 => SC.region ?_)))
   refine SL.step (PS.move rfl tt rfl rfl) ?_
   refine SL.step (PS.load_own_agg (k := 0) (vs := [_, _, _]) rfl tt rfl rfl rfl rfl Try.isAgg65 Try.sizeOf65 rfl rfl) ?_
   refine SL.callV (vs := [_, _, _]) Try.call65 ⟨⟨_, rfl, tt⟩, ⟨_, rfl, tt⟩, ⟨_, rfl, tt⟩, trivial⟩ (fun hg => latheref01_fits_V p1 (d_latheref01_exact p0 p1 p3 p4 true) true (by omega)) rfl rfl ?_
   refine SL.step (PS.assign rfl tt rfl rfl) ?_
   refine SL.keep (l' := [(15, _, _), (14, _, _), (12, _, _), (1, _, _), (2, _, _)]) ⟨rfl, rfl, rfl, rfl, rfl, trivial⟩ ?_
   refine SL.nil (SE.thenK hK8 (SC.seq (fun K9 hK9 => SC.seq (fun K10 hK10 => SC.region ?_))))
   refine SL.step (PS.move rfl tt rfl rfl) ?_
   refine SL.step (PS.and rfl tt rfl tt rfl rfl) ?_
   refine SL.step (PS.neq rfl tt rfl tt rfl rfl) ?_
   refine SL.step (PS.move rfl tt rfl rfl) ?_
   refine SL.step (PS.move rfl tt rfl rfl) ?_
   refine SL.step (PS.not rfl (fun h => h) rfl rfl) ?_
   refine SL.step (PS.pick_and rfl tt rfl (fun h h2 => pk_and h h2) rfl rfl) ?_
   refine SL.step (PS.move rfl tt rfl rfl) ?_
   refine SL.step (PS.move rfl tt rfl rfl) ?_
   refine SL.step (PS.and rfl (fun h => h) rfl tt rfl rfl) ?_
   refine SL.step (PS.neq rfl (fun h => h) rfl tt rfl rfl) ?_
   refine SL.step (PS.move rfl (fun h => h) rfl rfl) ?_
   refine SL.step (PS.move rfl tt rfl rfl) ?_
   refine SL.step (PS.not rfl (fun h => h) rfl rfl) ?_
   refine SL.step (PS.pick_and rfl (fun h => h) rfl (fun h h2 => pk_and h h2) rfl rfl) ?_
   refine SL.step (PS.pick_or rfl tt rfl (fun h h2 => pk_or h h2) rfl rfl) ?_
   refine SL.keep (l' := [(57, _, _), (12, _, _), (1, _, _)]) ⟨rfl, rfl, rfl, trivial⟩ ?_
   refine SL.nil (SE.thenK hK10 ?_)
   refine SC.cond rfl (fun c57 => ?_) (fun c57 => ?_)
   ·
    refine SC.seq (fun K11 hK11 => SC.region ?_)
    refine SL.step (PS.assign rfl tt rfl rfl) ?_
    refine SL.step (PS.assign rfl tt rfl rfl) ?_
    refine SL.keep (l' := [(11, _, _), (10, _, _)]) ⟨rfl, rfl, trivial⟩ ?_
    refine SL.nil (SE.thenK hK11 (SC.ret (SE.then_ret ?_)))
    exact finV2 rfl rfl rfl (fun _ _ => congrArg (fun z : Int × Int => Value.tuple #[Value.int .u64 z.1, Value.int .i64 z.2]) (show (d_latheref01_flagged p0 p1 p2 p3 p4) = ((0, 1) : Int × Int) from ((bifF c25).trans (bifT c57))).symm)
   ·
    have c57n := c57
    try simp only [Bool.and_eq_true, Bool.or_eq_true, decide_eq_true_eq, Bool.true_and, Bool.not_eq_true', Bool.not_eq_false', beq_iff_eq, bne_iff_ne, decide_eq_false_iff_not, beq_eq_false_iff_ne, bne_eq_false_iff_eq, ne_eq, Bool.or_eq_false_iff, Bool.and_eq_false_iff] at c57n
    refine SC.skip (SE.thenK hK9 (SC.seq (fun K12 hK12 => SC.region ?_)))
    refine SL.step (PS.move rfl tt rfl rfl) ?_
    refine SL.step (PS.load_own_agg (k := 1) (vs := [_, _, _]) rfl tt rfl rfl rfl rfl Try.isAgg65 Try.sizeOf65 rfl rfl) ?_
    refine SL.callV (vs := [_, _]) Try.call46 ⟨⟨_, rfl, tt⟩, ⟨_, rfl, tt⟩, trivial⟩ (fun hg => latheref01_Wrapped_W _ _ _ _ (by omega)) rfl rfl ?_
    refine SL.step (PS.assign rfl tt rfl rfl) ?_
    refine SL.step (PS.assign rfl tt rfl rfl) ?_
    refine SL.keep (l' := [(11, _, _), (10, _, _)]) ⟨rfl, rfl, trivial⟩ ?_
    refine SL.nil (SE.thenK hK12 (SC.ret ?_))
    exact finV2 rfl rfl rfl (fun _ _ => congrArg (fun z : Int × Int => Value.tuple #[Value.int .u64 z.1, Value.int .i64 z.2]) (show (d_latheref01_flagged p0 p1 p2 p3 p4) = (((d_latheref01_Wrapped p1 (d_latheref01_exact p0 p1 p3 p4 false)), 0) : Int × Int) from ((bifF c25).trans (bifF c57))).symm)
def d_latheref01_divided (p0 : Int) (p1 : Int) (p2 : Int) (p3 : Int) (p4 : Int) : Int × Int :=
  bif ((d_latheref01_Cut p1 p4) == 0) then
   (0, 2)
  else bif ((p0 == 5) || (p0 == 7)) then
    bif (!(d_latheref01_fits p1 ((d_latheref01_quotient (d_latheref01_With p1 p3) (d_latheref01_With p1 p4)).1) ((p0 == 5) || (p0 == 7)))) then
     (0, 2)
    else bif ((p0 == 6) || (p0 == 7)) then
      ((d_latheref01_Wrapped p1 ((d_latheref01_quotient (d_latheref01_With p1 p3) (d_latheref01_With p1 p4)).2)), 0)
     else bif ((p2 == 4) && (((d_latheref01_quotient (d_latheref01_With p1 p3) (d_latheref01_With p1 p4)).2).lo != 0)) then
       (0, 1)
      else ((d_latheref01_Wrapped p1 ((d_latheref01_quotient (d_latheref01_With p1 p3) (d_latheref01_With p1 p4)).1)), 0)
   else bif (!(d_latheref01_fits p1 ((d_latheref01_quotient (d_latheref01_Plain p1 p3) (d_latheref01_Plain p1 p4)).1) ((p0 == 5) || (p0 == 7)))) then
     (0, 2)
    else bif ((p0 == 6) || (p0 == 7)) then
      ((d_latheref01_Wrapped p1 ((d_latheref01_quotient (d_latheref01_Plain p1 p3) (d_latheref01_Plain p1 p4)).2)), 0)
     else bif ((p2 == 4) && (((d_latheref01_quotient (d_latheref01_Plain p1 p3) (d_latheref01_Plain p1 p4)).2).lo != 0)) then
       (0, 1)
      else ((d_latheref01_Wrapped p1 ((d_latheref01_quotient (d_latheref01_Plain p1 p3) (d_latheref01_Plain p1 p4)).1)), 0)
theorem latheref01_divided_V (p0 : Int) (p1 : Int) (p2 : Int) (p3 : Int) (p4 : Int) (hw : 1 ≤ p1 ∧ p1 ≤ 64) (hb : 0 ≤ p4 ∧ p4 < 18446744073709551616) : SpecV Try.prog 59 [.int .i64 p0, .int .i64 p1, .int .i64 p2, .int .u64 p3, .int .u64 p4] (Value.tuple #[Value.int .u64 (d_latheref01_divided p0 p1 p2 p3 p4).1, Value.int .i64 (d_latheref01_divided p0 p1 p2 p3 p4).2]) := by
  refine SpecV.enter Try.func59 rfl (n := 75) Try.ntmps59 (Nat.le_of_ble_eq_true rfl) (l := [(0, _, _), (1, _, _), (2, _, _), (3, _, _), (4, _, _)]) rfl ?_
  intro w
  have hpl : (d_latheref01_Plain p1 p4).lo = d_latheref01_Cut p1 p4 := rfl
  have hwn := with_nz hw hb
  refine SC.seq (fun K1 hK1 => SC.region ?_)
  refine SL.step (PS.assign rfl tt rfl rfl) ?_
  refine SL.step (PS.assign rfl tt rfl rfl) ?_
  refine SL.keep (l' := [(0, _, _), (1, _, _), (2, _, _), (3, _, _), (4, _, _)]) ⟨rfl, rfl, rfl, rfl, rfl, trivial⟩ ?_
  refine SL.nil (SE.thenK hK1 (SC.seq (fun K2 hK2 => SC.seq (fun K3 hK3 => SC.region ?_))))
  refine SL.step (PS.move rfl tt rfl rfl) ?_
  refine SL.step (PS.move rfl tt rfl rfl) ?_
  refine SL.callV (vs := [_, _]) Try.call42 ⟨⟨_, rfl, tt⟩, ⟨_, rfl, tt⟩, trivial⟩ (fun hg => latheref01_Cut_V p1 p4 (by omega)) rfl rfl ?_
  refine SL.step (PS.eql rfl tt rfl tt rfl rfl) ?_
  refine SL.keep (l' := [(20, _, _), (0, _, _), (1, _, _), (2, _, _), (3, _, _), (4, _, _)]) ⟨rfl, rfl, rfl, rfl, rfl, rfl, trivial⟩ ?_
  refine SL.nil (SE.thenK hK3 ?_)
  refine SC.cond rfl (fun c20 => ?_) (fun c20 => ?_)
  ·
   refine SC.seq (fun K4 hK4 => SC.region ?_)
   refine SL.step (PS.assign rfl tt rfl rfl) ?_
   refine SL.step (PS.assign rfl tt rfl rfl) ?_
   refine SL.keep (l' := [(11, _, _), (10, _, _)]) ⟨rfl, rfl, trivial⟩ ?_
   refine SL.nil (SE.thenK hK4 (SC.ret (SE.then_ret ?_)))
   exact finV2 rfl rfl rfl (fun _ _ => congrArg (fun z : Int × Int => Value.tuple #[Value.int .u64 z.1, Value.int .i64 z.2]) (show (d_latheref01_divided p0 p1 p2 p3 p4) = ((0, 2) : Int × Int) from (bifT c20)).symm)
  ·
   have c20n := c20
   try simp only [Bool.and_eq_true, Bool.or_eq_true, decide_eq_true_eq, Bool.true_and, Bool.not_eq_true', Bool.not_eq_false', beq_iff_eq, bne_iff_ne, decide_eq_false_iff_not, beq_eq_false_iff_ne, bne_eq_false_iff_eq, ne_eq, Bool.or_eq_false_iff, Bool.and_eq_false_iff] at c20n
   refine SC.skip (SE.thenK hK2 (SC.seq (fun K5 hK5 => SC.region ?_)))
   refine SL.step (PS.move rfl tt rfl rfl) ?_
   refine SL.step (PS.move rfl tt rfl rfl) ?_
   refine SL.callV (vs := [_, _]) Try.call66 ⟨⟨_, rfl, tt⟩, ⟨_, rfl, tt⟩, trivial⟩ (fun hg => latheref01_Plain_V p1 p3 (by omega)) rfl rfl ?_
   refine SL.alloc (cs := [_, _, _]) Try.zeroValue65 rfl rfl rfl (fun b12 => ?_)
   refine SL.store_own (k := 0) (own' := [_]) (cs' := [_, _, _]) rfl rfl rfl rfl rfl rfl rfl Try.sizeOf65 rfl (Nat.le_of_ble_eq_true rfl) rfl rfl rfl rfl ?_
   refine SL.keep (l' := [(12, _, _), (0, _, _), (1, _, _), (2, _, _), (3, _, _), (4, _, _)]) ⟨rfl, rfl, rfl, rfl, rfl, rfl, trivial⟩ ?_
   refine SL.nil (SE.thenK hK5 (SC.seq (fun K6 hK6 => SC.region ?_)))
   refine SL.step (PS.move rfl tt rfl rfl) ?_
   refine SL.step (PS.move rfl tt rfl rfl) ?_
   refine SL.callV (vs := [_, _]) Try.call66 ⟨⟨_, rfl, tt⟩, ⟨_, rfl, tt⟩, trivial⟩ (fun hg => latheref01_Plain_V p1 p4 (by omega)) rfl rfl ?_
   refine SL.alloc (cs := [_, _, _]) Try.zeroValue65 rfl rfl rfl (fun b13 => ?_)
   refine SL.store_own (k := 0) (own' := [_, _]) (cs' := [_, _, _]) rfl rfl rfl rfl rfl rfl rfl Try.sizeOf65 rfl (Nat.le_of_ble_eq_true rfl) rfl rfl rfl rfl ?_
   refine SL.keep (l' := [(13, _, _), (12, _, _), (0, _, _), (1, _, _), (2, _, _), (3, _, _), (4, _, _)]) ⟨rfl, rfl, rfl, rfl, rfl, rfl, rfl, trivial⟩ ?_
   refine SL.nil (SE.thenK hK6 (SC.seq (fun K7 hK7 => SC.seq (fun K8 hK8 => SC.region ?_))))
   refine SL.step (PS.move rfl tt rfl rfl) ?_
   refine SL.step (PS.eql rfl tt rfl tt rfl rfl) ?_
   refine SL.step (PS.move rfl tt rfl rfl) ?_
   refine SL.step (PS.move rfl tt rfl rfl) ?_
   refine SL.step (PS.eql rfl (fun h => h) rfl tt rfl rfl) ?_
   refine SL.step (PS.pick_or rfl tt rfl (fun h h2 => pk_or h h2) rfl rfl) ?_
   refine SL.keep (l' := [(32, _, _), (13, _, _), (12, _, _), (0, _, _), (1, _, _), (2, _, _), (3, _, _), (4, _, _)]) ⟨rfl, rfl, rfl, rfl, rfl, rfl, rfl, rfl, trivial⟩ ?_
   refine SL.nil (SE.thenK hK8 ?_)
   refine SC.cond rfl (fun c32 => ?_) (fun c32 => ?_)
   ·
    have c32n := c32
    try simp only [Bool.and_eq_true, Bool.or_eq_true, decide_eq_true_eq, Bool.true_and, Bool.not_eq_true', Bool.not_eq_false', beq_iff_eq, bne_iff_ne, decide_eq_false_iff_not, beq_eq_false_iff_ne, bne_eq_false_iff_eq, ne_eq, Bool.or_eq_false_iff, Bool.and_eq_false_iff] at c32n
    refine SC.seq (fun K9 hK9 => SC.region ?_)
    refine SL.step (PS.move rfl tt rfl rfl) ?_
    refine SL.step (PS.move rfl tt rfl rfl) ?_
    refine SL.callV (vs := [_, _]) Try.call47 ⟨⟨_, rfl, tt⟩, ⟨_, rfl, tt⟩, trivial⟩ (fun hg => latheref01_With_V p1 p3 (by omega)) rfl rfl ?_
    refine SL.store_own (k := 1) (own' := [_, _]) (cs' := [_, _, _]) rfl rfl rfl rfl rfl rfl rfl Try.sizeOf65 rfl (Nat.le_of_ble_eq_true rfl) rfl rfl rfl rfl ?_
    refine SL.keep (l' := [(13, _, _), (12, _, _), (0, _, _), (1, _, _), (2, _, _), (4, _, _)]) ⟨rfl, rfl, rfl, rfl, rfl, rfl, trivial⟩ ?_
    refine SL.nil (SE.thenK hK9 (SC.region ?_))
    refine SL.step (PS.move rfl tt rfl rfl) ?_
    refine SL.step (PS.move rfl tt rfl rfl) ?_
    refine SL.callV (vs := [_, _]) Try.call47 ⟨⟨_, rfl, tt⟩, ⟨_, rfl, tt⟩, trivial⟩ (fun hg => latheref01_With_V p1 p4 (by omega)) rfl rfl ?_
    refine SL.store_own (k := 0) (own' := [_, _]) (cs' := [_, _, _]) rfl rfl rfl rfl rfl rfl rfl Try.sizeOf65 rfl (Nat.le_of_ble_eq_true rfl) rfl rfl rfl rfl ?_
    refine SL.keep (l' := [(13, _, _), (12, _, _), (0, _, _), (1, _, _), (2, _, _)]) ⟨rfl, rfl, rfl, rfl, rfl, trivial⟩ ?_
    refine SL.nil (SE.thenK hK7 (SC.seq (fun K10 hK10 => SC.region ?_)))
    refine SL.step (PS.load_own_agg (k := 1) (vs := [_, _, _]) rfl tt rfl rfl rfl rfl Try.isAgg65 Try.sizeOf65 rfl rfl) ?_
    refine SL.step (PS.load_own_agg (k := 0) (vs := [_, _, _]) rfl tt rfl rfl rfl rfl Try.isAgg65 Try.sizeOf65 rfl rfl) ?_
    refine SL.callV (vs := [_, _]) Try.call67 ⟨⟨_, rfl, tt⟩, ⟨_, rfl, tt⟩, trivial⟩ (fun hg => latheref01_quotient_V (d_latheref01_With p1 p3) (d_latheref01_With p1 p4) (by omega)) rfl rfl ?_
    refine SL.step (PS.move rfl tt rfl rfl) ?_
    refine SL.step (PS.extract rfl tt rfl rfl rfl) ?_
    refine SL.step (PS.extract rfl tt rfl rfl rfl) ?_
    refine SL.alloc (cs := [_, _, _]) Try.zeroValue65 rfl rfl rfl (fun b14 => ?_)
    refine SL.alloc (cs := [_, _, _]) Try.zeroValue65 rfl rfl rfl (fun b15 => ?_)
    refine SL.store_own (k := 1) (own' := [_, _, _, _]) (cs' := [_, _, _]) rfl rfl rfl rfl rfl rfl rfl Try.sizeOf65 rfl (Nat.le_of_ble_eq_true rfl) rfl rfl rfl rfl ?_
    refine SL.store_own (k := 0) (own' := [_, _, _, _]) (cs' := [_, _, _]) rfl rfl rfl rfl rfl rfl rfl Try.sizeOf65 rfl (Nat.le_of_ble_eq_true rfl) rfl rfl rfl rfl ?_
    refine SL.keep (l' := [(15, _, _), (14, _, _), (0, _, _), (1, _, _), (2, _, _)]) ⟨rfl, rfl, rfl, rfl, rfl, trivial⟩ ?_
    refine SL.nil (SE.thenK hK10 (SC.seq (fun K11 hK11 => SC.region ?_)))
    refine SL.step (PS.move rfl tt rfl rfl) ?_
    refine SL.step (PS.load_own_agg (k := 1) (vs := [_, _, _]) rfl tt rfl rfl rfl rfl Try.isAgg65 Try.sizeOf65 rfl rfl) ?_
    refine SL.step (PS.move rfl tt rfl rfl) ?_
    refine SL.step (PS.eql rfl tt rfl tt rfl rfl) ?_
    refine SL.step (PS.move rfl tt rfl rfl) ?_
    refine SL.step (PS.move rfl tt rfl rfl) ?_
    refine SL.step (PS.eql rfl (fun h => h) rfl tt rfl rfl) ?_
    refine SL.step (PS.pick_or rfl tt rfl (fun h h2 => pk_or h h2) rfl rfl) ?_
    refine SL.callV (vs := [_, _, _]) Try.call65 ⟨⟨_, rfl, tt⟩, ⟨_, rfl, tt⟩, ⟨_, rfl, tt⟩, trivial⟩ (fun hg => latheref01_fits_V p1 ((d_latheref01_quotient (d_latheref01_With p1 p3) (d_latheref01_With p1 p4)).1) ((p0 == 5) || (p0 == 7)) (by omega)) rfl rfl ?_
    refine SL.step (PS.assign rfl tt rfl rfl) ?_
    refine SL.keep (l' := [(16, _, _), (15, _, _), (14, _, _), (0, _, _), (1, _, _), (2, _, _)]) ⟨rfl, rfl, rfl, rfl, rfl, rfl, trivial⟩ ?_
    refine SL.nil (SE.thenK hK11 (SC.seq (fun K12 hK12 => SC.seq (fun K13 hK13 => SC.region ?_))))
    refine SL.step (PS.move rfl tt rfl rfl) ?_
    refine SL.step (PS.not rfl tt rfl rfl) ?_
    refine SL.keep (l' := [(55, _, _), (15, _, _), (14, _, _), (0, _, _), (1, _, _), (2, _, _)]) ⟨rfl, rfl, rfl, rfl, rfl, rfl, trivial⟩ ?_
    refine SL.nil (SE.thenK hK13 ?_)
    refine SC.cond rfl (fun c55 => ?_) (fun c55 => ?_)
    ·
     refine SC.seq (fun K14 hK14 => SC.region ?_)
     refine SL.step (PS.assign rfl tt rfl rfl) ?_
     refine SL.step (PS.assign rfl tt rfl rfl) ?_
     refine SL.keep (l' := [(11, _, _), (10, _, _)]) ⟨rfl, rfl, trivial⟩ ?_
     refine SL.nil (SE.thenK hK14 (SC.ret (SE.then_ret ?_)))
     exact finV2 rfl rfl rfl (fun _ _ => congrArg (fun z : Int × Int => Value.tuple #[Value.int .u64 z.1, Value.int .i64 z.2]) (show (d_latheref01_divided p0 p1 p2 p3 p4) = ((0, 2) : Int × Int) from ((bifF c20).trans ((bifT c32).trans (bifT c55)))).symm)
    ·
     have c55n := c55
     try simp only [Bool.and_eq_true, Bool.or_eq_true, decide_eq_true_eq, Bool.true_and, Bool.not_eq_true', Bool.not_eq_false', beq_iff_eq, bne_iff_ne, decide_eq_false_iff_not, beq_eq_false_iff_ne, bne_eq_false_iff_eq, ne_eq, Bool.or_eq_false_iff, Bool.and_eq_false_iff] at c55n
     refine SC.skip (SE.thenK hK12 (SC.seq (fun K15 hK15 => SC.seq (fun K16 hK16 => SC.region ?_))))
     refine SL.step (PS.move rfl tt rfl rfl) ?_
     refine SL.step (PS.eql rfl tt rfl tt rfl rfl) ?_
     refine SL.step (PS.move rfl tt rfl rfl) ?_
     refine SL.step (PS.move rfl tt rfl rfl) ?_
     refine SL.step (PS.eql rfl (fun h => h) rfl tt rfl rfl) ?_
     refine SL.step (PS.pick_or rfl tt rfl (fun h h2 => pk_or h h2) rfl rfl) ?_
     refine SL.keep (l' := [(61, _, _), (15, _, _), (14, _, _), (1, _, _), (2, _, _)]) ⟨rfl, rfl, rfl, rfl, rfl, trivial⟩ ?_
     refine SL.nil (SE.thenK hK16 ?_)
     refine SC.cond rfl (fun c61 => ?_) (fun c61 => ?_)
     ·
      have c61n := c61
      try simp only [Bool.and_eq_true, Bool.or_eq_true, decide_eq_true_eq, Bool.true_and, Bool.not_eq_true', Bool.not_eq_false', beq_iff_eq, bne_iff_ne, decide_eq_false_iff_not, beq_eq_false_iff_ne, bne_eq_false_iff_eq, ne_eq, Bool.or_eq_false_iff, Bool.and_eq_false_iff] at c61n
      refine SC.seq (fun K17 hK17 => SC.region ?_)
      refine SL.step (PS.move rfl tt rfl rfl) ?_
      refine SL.step (PS.load_own_agg (k := 0) (vs := [_, _, _]) rfl tt rfl rfl rfl rfl Try.isAgg65 Try.sizeOf65 rfl rfl) ?_
      refine SL.callV (vs := [_, _]) Try.call46 ⟨⟨_, rfl, tt⟩, ⟨_, rfl, tt⟩, trivial⟩ (fun hg => latheref01_Wrapped_W _ _ _ _ (by omega)) rfl rfl ?_
      refine SL.step (PS.assign rfl tt rfl rfl) ?_
      refine SL.step (PS.assign rfl tt rfl rfl) ?_
      refine SL.keep (l' := [(11, _, _), (10, _, _)]) ⟨rfl, rfl, trivial⟩ ?_
      refine SL.nil (SE.thenK hK17 (SC.ret (SE.then_ret ?_)))
      exact finV2 rfl rfl rfl (fun _ _ => congrArg (fun z : Int × Int => Value.tuple #[Value.int .u64 z.1, Value.int .i64 z.2]) (show (d_latheref01_divided p0 p1 p2 p3 p4) = (((d_latheref01_Wrapped p1 ((d_latheref01_quotient (d_latheref01_With p1 p3) (d_latheref01_With p1 p4)).2)), 0) : Int × Int) from ((bifF c20).trans ((bifT c32).trans ((bifF c55).trans (bifT c61))))).symm)
     ·
      have c61n := c61
      try simp only [Bool.and_eq_true, Bool.or_eq_true, decide_eq_true_eq, Bool.true_and, Bool.not_eq_true', Bool.not_eq_false', beq_iff_eq, bne_iff_ne, decide_eq_false_iff_not, beq_eq_false_iff_ne, bne_eq_false_iff_eq, ne_eq, Bool.or_eq_false_iff, Bool.and_eq_false_iff] at c61n
      refine SC.skip (SE.thenK hK15 (SC.seq (fun K18 hK18 => SC.seq (fun K19 hK19 => SC.region ?_))))
      refine SL.step (PS.move rfl tt rfl rfl) ?_
      refine SL.step (PS.eql rfl tt rfl tt rfl rfl) ?_
      refine SL.step (PS.move rfl tt rfl rfl) ?_
      refine SL.step (PS.fieldAddr rfl tt Try.fieldAt_65_1 rfl rfl) ?_
      refine SL.step (PS.load_own (k := 0) rfl (fun h => h) rfl rfl rfl Try.isAgg27 rfl rfl) ?_
      refine SL.step (PS.neq rfl (fun h => h) rfl tt rfl rfl) ?_
      refine SL.step (PS.pick_and rfl tt rfl (fun h h2 => pk_and h h2) rfl rfl) ?_
      refine SL.keep (l' := [(71, _, _), (14, _, _), (1, _, _)]) ⟨rfl, rfl, rfl, trivial⟩ ?_
      refine SL.nil (SE.thenK hK19 ?_)
      refine SC.cond rfl (fun c71 => ?_) (fun c71 => ?_)
      ·
       refine SC.seq (fun K20 hK20 => SC.region ?_)
       refine SL.step (PS.assign rfl tt rfl rfl) ?_
       refine SL.step (PS.assign rfl tt rfl rfl) ?_
       refine SL.keep (l' := [(11, _, _), (10, _, _)]) ⟨rfl, rfl, trivial⟩ ?_
       refine SL.nil (SE.thenK hK20 (SC.ret (SE.then_ret ?_)))
       exact finV2 rfl rfl rfl (fun _ _ => congrArg (fun z : Int × Int => Value.tuple #[Value.int .u64 z.1, Value.int .i64 z.2]) (show (d_latheref01_divided p0 p1 p2 p3 p4) = ((0, 1) : Int × Int) from ((bifF c20).trans ((bifT c32).trans ((bifF c55).trans ((bifF c61).trans (bifT c71)))))).symm)
      ·
       have c71n := c71
       try simp only [Bool.and_eq_true, Bool.or_eq_true, decide_eq_true_eq, Bool.true_and, Bool.not_eq_true', Bool.not_eq_false', beq_iff_eq, bne_iff_ne, decide_eq_false_iff_not, beq_eq_false_iff_ne, bne_eq_false_iff_eq, ne_eq, Bool.or_eq_false_iff, Bool.and_eq_false_iff] at c71n
       refine SC.skip (SE.thenK hK18 (SC.seq (fun K21 hK21 => SC.region ?_)))
       refine SL.step (PS.move rfl tt rfl rfl) ?_
       refine SL.step (PS.load_own_agg (k := 1) (vs := [_, _, _]) rfl tt rfl rfl rfl rfl Try.isAgg65 Try.sizeOf65 rfl rfl) ?_
       refine SL.callV (vs := [_, _]) Try.call46 ⟨⟨_, rfl, tt⟩, ⟨_, rfl, tt⟩, trivial⟩ (fun hg => latheref01_Wrapped_W _ _ _ _ (by omega)) rfl rfl ?_
       refine SL.step (PS.assign rfl tt rfl rfl) ?_
       refine SL.step (PS.assign rfl tt rfl rfl) ?_
       refine SL.keep (l' := [(11, _, _), (10, _, _)]) ⟨rfl, rfl, trivial⟩ ?_
       refine SL.nil (SE.thenK hK21 (SC.ret ?_))
       exact finV2 rfl rfl rfl (fun _ _ => congrArg (fun z : Int × Int => Value.tuple #[Value.int .u64 z.1, Value.int .i64 z.2]) (show (d_latheref01_divided p0 p1 p2 p3 p4) = (((d_latheref01_Wrapped p1 ((d_latheref01_quotient (d_latheref01_With p1 p3) (d_latheref01_With p1 p4)).1)), 0) : Int × Int) from ((bifF c20).trans ((bifT c32).trans ((bifF c55).trans ((bifF c61).trans (bifF c71)))))).symm)
   ·
    have c32n := c32
    try simp only [Bool.and_eq_true, Bool.or_eq_true, decide_eq_true_eq, Bool.true_and, Bool.not_eq_true', Bool.not_eq_false', beq_iff_eq, bne_iff_ne, decide_eq_false_iff_not, beq_eq_false_iff_ne, bne_eq_false_iff_eq, ne_eq, Bool.or_eq_false_iff, Bool.and_eq_false_iff] at c32n
    refine SC.skip (SE.thenK hK7 (SC.seq (fun K22 hK22 => SC.region ?_)))
    refine SL.step (PS.load_own_agg (k := 1) (vs := [_, _, _]) rfl tt rfl rfl rfl rfl Try.isAgg65 Try.sizeOf65 rfl rfl) ?_
    refine SL.step (PS.load_own_agg (k := 0) (vs := [_, _, _]) rfl tt rfl rfl rfl rfl Try.isAgg65 Try.sizeOf65 rfl rfl) ?_
    refine SL.callV (vs := [_, _]) Try.call67 ⟨⟨_, rfl, tt⟩, ⟨_, rfl, tt⟩, trivial⟩ (fun hg => latheref01_quotient_V (d_latheref01_Plain p1 p3) (d_latheref01_Plain p1 p4) (by omega)) rfl rfl ?_
    refine SL.step (PS.move rfl tt rfl rfl) ?_
    refine SL.step (PS.extract rfl tt rfl rfl rfl) ?_
    refine SL.step (PS.extract rfl tt rfl rfl rfl) ?_
    refine SL.alloc (cs := [_, _, _]) Try.zeroValue65 rfl rfl rfl (fun b14 => ?_)
    refine SL.alloc (cs := [_, _, _]) Try.zeroValue65 rfl rfl rfl (fun b15 => ?_)
    refine SL.store_own (k := 1) (own' := [_, _, _, _]) (cs' := [_, _, _]) rfl rfl rfl rfl rfl rfl rfl Try.sizeOf65 rfl (Nat.le_of_ble_eq_true rfl) rfl rfl rfl rfl ?_
    refine SL.store_own (k := 0) (own' := [_, _, _, _]) (cs' := [_, _, _]) rfl rfl rfl rfl rfl rfl rfl Try.sizeOf65 rfl (Nat.le_of_ble_eq_true rfl) rfl rfl rfl rfl ?_
    refine SL.keep (l' := [(15, _, _), (14, _, _), (0, _, _), (1, _, _), (2, _, _)]) ⟨rfl, rfl, rfl, rfl, rfl, trivial⟩ ?_
    refine SL.nil (SE.thenK hK22 (SC.seq (fun K23 hK23 => SC.region ?_)))
    refine SL.step (PS.move rfl tt rfl rfl) ?_
    refine SL.step (PS.load_own_agg (k := 1) (vs := [_, _, _]) rfl tt rfl rfl rfl rfl Try.isAgg65 Try.sizeOf65 rfl rfl) ?_
    refine SL.step (PS.move rfl tt rfl rfl) ?_
    refine SL.step (PS.eql rfl tt rfl tt rfl rfl) ?_
    refine SL.step (PS.move rfl tt rfl rfl) ?_
    refine SL.step (PS.move rfl tt rfl rfl) ?_
    refine SL.step (PS.eql rfl (fun h => h) rfl tt rfl rfl) ?_
    refine SL.step (PS.pick_or rfl tt rfl (fun h h2 => pk_or h h2) rfl rfl) ?_
    refine SL.callV (vs := [_, _, _]) Try.call65 ⟨⟨_, rfl, tt⟩, ⟨_, rfl, tt⟩, ⟨_, rfl, tt⟩, trivial⟩ (fun hg => latheref01_fits_V p1 ((d_latheref01_quotient (d_latheref01_Plain p1 p3) (d_latheref01_Plain p1 p4)).1) ((p0 == 5) || (p0 == 7)) (by omega)) rfl rfl ?_
    refine SL.step (PS.assign rfl tt rfl rfl) ?_
    refine SL.keep (l' := [(16, _, _), (15, _, _), (14, _, _), (0, _, _), (1, _, _), (2, _, _)]) ⟨rfl, rfl, rfl, rfl, rfl, rfl, trivial⟩ ?_
    refine SL.nil (SE.thenK hK23 (SC.seq (fun K24 hK24 => SC.seq (fun K25 hK25 => SC.region ?_))))
    refine SL.step (PS.move rfl tt rfl rfl) ?_
    refine SL.step (PS.not rfl tt rfl rfl) ?_
    refine SL.keep (l' := [(55, _, _), (15, _, _), (14, _, _), (0, _, _), (1, _, _), (2, _, _)]) ⟨rfl, rfl, rfl, rfl, rfl, rfl, trivial⟩ ?_
    refine SL.nil (SE.thenK hK25 ?_)
    refine SC.cond rfl (fun c55 => ?_) (fun c55 => ?_)
    ·
     refine SC.seq (fun K26 hK26 => SC.region ?_)
     refine SL.step (PS.assign rfl tt rfl rfl) ?_
     refine SL.step (PS.assign rfl tt rfl rfl) ?_
     refine SL.keep (l' := [(11, _, _), (10, _, _)]) ⟨rfl, rfl, trivial⟩ ?_
     refine SL.nil (SE.thenK hK26 (SC.ret (SE.then_ret ?_)))
     exact finV2 rfl rfl rfl (fun _ _ => congrArg (fun z : Int × Int => Value.tuple #[Value.int .u64 z.1, Value.int .i64 z.2]) (show (d_latheref01_divided p0 p1 p2 p3 p4) = ((0, 2) : Int × Int) from ((bifF c20).trans ((bifF c32).trans (bifT c55)))).symm)
    ·
     have c55n := c55
     try simp only [Bool.and_eq_true, Bool.or_eq_true, decide_eq_true_eq, Bool.true_and, Bool.not_eq_true', Bool.not_eq_false', beq_iff_eq, bne_iff_ne, decide_eq_false_iff_not, beq_eq_false_iff_ne, bne_eq_false_iff_eq, ne_eq, Bool.or_eq_false_iff, Bool.and_eq_false_iff] at c55n
     refine SC.skip (SE.thenK hK24 (SC.seq (fun K27 hK27 => SC.seq (fun K28 hK28 => SC.region ?_))))
     refine SL.step (PS.move rfl tt rfl rfl) ?_
     refine SL.step (PS.eql rfl tt rfl tt rfl rfl) ?_
     refine SL.step (PS.move rfl tt rfl rfl) ?_
     refine SL.step (PS.move rfl tt rfl rfl) ?_
     refine SL.step (PS.eql rfl (fun h => h) rfl tt rfl rfl) ?_
     refine SL.step (PS.pick_or rfl tt rfl (fun h h2 => pk_or h h2) rfl rfl) ?_
     refine SL.keep (l' := [(61, _, _), (15, _, _), (14, _, _), (1, _, _), (2, _, _)]) ⟨rfl, rfl, rfl, rfl, rfl, trivial⟩ ?_
     refine SL.nil (SE.thenK hK28 ?_)
     refine SC.cond rfl (fun c61 => ?_) (fun c61 => ?_)
     ·
      have c61n := c61
      try simp only [Bool.and_eq_true, Bool.or_eq_true, decide_eq_true_eq, Bool.true_and, Bool.not_eq_true', Bool.not_eq_false', beq_iff_eq, bne_iff_ne, decide_eq_false_iff_not, beq_eq_false_iff_ne, bne_eq_false_iff_eq, ne_eq, Bool.or_eq_false_iff, Bool.and_eq_false_iff] at c61n
      refine SC.seq (fun K29 hK29 => SC.region ?_)
      refine SL.step (PS.move rfl tt rfl rfl) ?_
      refine SL.step (PS.load_own_agg (k := 0) (vs := [_, _, _]) rfl tt rfl rfl rfl rfl Try.isAgg65 Try.sizeOf65 rfl rfl) ?_
      refine SL.callV (vs := [_, _]) Try.call46 ⟨⟨_, rfl, tt⟩, ⟨_, rfl, tt⟩, trivial⟩ (fun hg => latheref01_Wrapped_W _ _ _ _ (by omega)) rfl rfl ?_
      refine SL.step (PS.assign rfl tt rfl rfl) ?_
      refine SL.step (PS.assign rfl tt rfl rfl) ?_
      refine SL.keep (l' := [(11, _, _), (10, _, _)]) ⟨rfl, rfl, trivial⟩ ?_
      refine SL.nil (SE.thenK hK29 (SC.ret (SE.then_ret ?_)))
      exact finV2 rfl rfl rfl (fun _ _ => congrArg (fun z : Int × Int => Value.tuple #[Value.int .u64 z.1, Value.int .i64 z.2]) (show (d_latheref01_divided p0 p1 p2 p3 p4) = (((d_latheref01_Wrapped p1 ((d_latheref01_quotient (d_latheref01_Plain p1 p3) (d_latheref01_Plain p1 p4)).2)), 0) : Int × Int) from ((bifF c20).trans ((bifF c32).trans ((bifF c55).trans (bifT c61))))).symm)
     ·
      have c61n := c61
      try simp only [Bool.and_eq_true, Bool.or_eq_true, decide_eq_true_eq, Bool.true_and, Bool.not_eq_true', Bool.not_eq_false', beq_iff_eq, bne_iff_ne, decide_eq_false_iff_not, beq_eq_false_iff_ne, bne_eq_false_iff_eq, ne_eq, Bool.or_eq_false_iff, Bool.and_eq_false_iff] at c61n
      refine SC.skip (SE.thenK hK27 (SC.seq (fun K30 hK30 => SC.seq (fun K31 hK31 => SC.region ?_))))
      refine SL.step (PS.move rfl tt rfl rfl) ?_
      refine SL.step (PS.eql rfl tt rfl tt rfl rfl) ?_
      refine SL.step (PS.move rfl tt rfl rfl) ?_
      refine SL.step (PS.fieldAddr rfl tt Try.fieldAt_65_1 rfl rfl) ?_
      refine SL.step (PS.load_own (k := 0) rfl (fun h => h) rfl rfl rfl Try.isAgg27 rfl rfl) ?_
      refine SL.step (PS.neq rfl (fun h => h) rfl tt rfl rfl) ?_
      refine SL.step (PS.pick_and rfl tt rfl (fun h h2 => pk_and h h2) rfl rfl) ?_
      refine SL.keep (l' := [(71, _, _), (14, _, _), (1, _, _)]) ⟨rfl, rfl, rfl, trivial⟩ ?_
      refine SL.nil (SE.thenK hK31 ?_)
      refine SC.cond rfl (fun c71 => ?_) (fun c71 => ?_)
      ·
       refine SC.seq (fun K32 hK32 => SC.region ?_)
       refine SL.step (PS.assign rfl tt rfl rfl) ?_
       refine SL.step (PS.assign rfl tt rfl rfl) ?_
       refine SL.keep (l' := [(11, _, _), (10, _, _)]) ⟨rfl, rfl, trivial⟩ ?_
       refine SL.nil (SE.thenK hK32 (SC.ret (SE.then_ret ?_)))
       exact finV2 rfl rfl rfl (fun _ _ => congrArg (fun z : Int × Int => Value.tuple #[Value.int .u64 z.1, Value.int .i64 z.2]) (show (d_latheref01_divided p0 p1 p2 p3 p4) = ((0, 1) : Int × Int) from ((bifF c20).trans ((bifF c32).trans ((bifF c55).trans ((bifF c61).trans (bifT c71)))))).symm)
      ·
       have c71n := c71
       try simp only [Bool.and_eq_true, Bool.or_eq_true, decide_eq_true_eq, Bool.true_and, Bool.not_eq_true', Bool.not_eq_false', beq_iff_eq, bne_iff_ne, decide_eq_false_iff_not, beq_eq_false_iff_ne, bne_eq_false_iff_eq, ne_eq, Bool.or_eq_false_iff, Bool.and_eq_false_iff] at c71n
       refine SC.skip (SE.thenK hK30 (SC.seq (fun K33 hK33 => SC.region ?_)))
       refine SL.step (PS.move rfl tt rfl rfl) ?_
       refine SL.step (PS.load_own_agg (k := 1) (vs := [_, _, _]) rfl tt rfl rfl rfl rfl Try.isAgg65 Try.sizeOf65 rfl rfl) ?_
       refine SL.callV (vs := [_, _]) Try.call46 ⟨⟨_, rfl, tt⟩, ⟨_, rfl, tt⟩, trivial⟩ (fun hg => latheref01_Wrapped_W _ _ _ _ (by omega)) rfl rfl ?_
       refine SL.step (PS.assign rfl tt rfl rfl) ?_
       refine SL.step (PS.assign rfl tt rfl rfl) ?_
       refine SL.keep (l' := [(11, _, _), (10, _, _)]) ⟨rfl, rfl, trivial⟩ ?_
       refine SL.nil (SE.thenK hK33 (SC.ret ?_))
       exact finV2 rfl rfl rfl (fun _ _ => congrArg (fun z : Int × Int => Value.tuple #[Value.int .u64 z.1, Value.int .i64 z.2]) (show (d_latheref01_divided p0 p1 p2 p3 p4) = (((d_latheref01_Wrapped p1 ((d_latheref01_quotient (d_latheref01_Plain p1 p3) (d_latheref01_Plain p1 p4)).1)), 0) : Int × Int) from ((bifF c20).trans ((bifF c32).trans ((bifF c55).trans ((bifF c61).trans (bifF c71)))))).symm)
def d_latheref01_right (p0 : Int) (p1 : Int) (p2 : Int) (p3 : Int) (p4 : Int) : Int × Int :=
  bif (decide ((IntKind.u64.wrap p1) ≤ (d_latheref01_Cut p1 p4))) then
   (0, 1)
  else bif (p0 == 13) then
    bif ((p2 == 4) && (((d_latheref01_quotient (d_latheref01_With p1 p3) (d_latheref01_power (d_latheref01_Cut p1 p4))).2).lo != 0)) then
     (0, 1)
    else bif ((d_latheref01_quotient (d_latheref01_With p1 p3) (d_latheref01_power (d_latheref01_Cut p1 p4))).2).below then
      ((d_latheref01_Wrapped p1 (d_latheref01_Plus ((d_latheref01_quotient (d_latheref01_With p1 p3) (d_latheref01_power (d_latheref01_Cut p1 p4))).1) (⟨0, 1, true⟩ : Bg))), 0)
     else ((d_latheref01_Wrapped p1 ((d_latheref01_quotient (d_latheref01_With p1 p3) (d_latheref01_power (d_latheref01_Cut p1 p4))).1)), 0)
   else bif ((p2 == 4) && (((d_latheref01_quotient (d_latheref01_Plain p1 p3) (d_latheref01_power (d_latheref01_Cut p1 p4))).2).lo != 0)) then
     (0, 1)
    else bif ((d_latheref01_quotient (d_latheref01_Plain p1 p3) (d_latheref01_power (d_latheref01_Cut p1 p4))).2).below then
      ((d_latheref01_Wrapped p1 (d_latheref01_Plus ((d_latheref01_quotient (d_latheref01_Plain p1 p3) (d_latheref01_power (d_latheref01_Cut p1 p4))).1) (⟨0, 1, true⟩ : Bg))), 0)
     else ((d_latheref01_Wrapped p1 ((d_latheref01_quotient (d_latheref01_Plain p1 p3) (d_latheref01_power (d_latheref01_Cut p1 p4))).1)), 0)
theorem latheref01_right_V (p0 : Int) (p1 : Int) (p2 : Int) (p3 : Int) (p4 : Int) (hw : 1 ≤ p1 ∧ p1 ≤ 64) (hb : 0 ≤ p4 ∧ p4 < 18446744073709551616) : SpecV Try.prog 61 [.int .i64 p0, .int .i64 p1, .int .i64 p2, .int .u64 p3, .int .u64 p4] (Value.tuple #[Value.int .u64 (d_latheref01_right p0 p1 p2 p3 p4).1, Value.int .i64 (d_latheref01_right p0 p1 p2 p3 p4).2]) := by
  refine SpecV.enter Try.func61 rfl (n := 53) Try.ntmps61 (Nat.le_of_ble_eq_true rfl) (l := [(0, _, _), (1, _, _), (2, _, _), (3, _, _), (4, _, _)]) rfl ?_
  intro w
  have hwr := wr_w hw
  have hc0 := cut_nn hw hb
  have hpn := fun h => power_nz (w := d_latheref01_Cut p1 p4) ⟨hc0, h⟩
  refine SC.seq (fun K1 hK1 => SC.region ?_)
  refine SL.step (PS.assign rfl tt rfl rfl) ?_
  refine SL.step (PS.assign rfl tt rfl rfl) ?_
  refine SL.keep (l' := [(0, _, _), (1, _, _), (2, _, _), (3, _, _), (4, _, _)]) ⟨rfl, rfl, rfl, rfl, rfl, trivial⟩ ?_
  refine SL.nil (SE.thenK hK1 (SC.seq (fun K2 hK2 => SC.region ?_)))
  refine SL.step (PS.move rfl tt rfl rfl) ?_
  refine SL.step (PS.move rfl tt rfl rfl) ?_
  refine SL.callV (vs := [_, _]) Try.call42 ⟨⟨_, rfl, tt⟩, ⟨_, rfl, tt⟩, trivial⟩ (fun hg => latheref01_Cut_V p1 p4 (by omega)) rfl rfl ?_
  refine SL.step (PS.assign rfl tt rfl rfl) ?_
  refine SL.keep (l' := [(12, _, _), (0, _, _), (1, _, _), (2, _, _), (3, _, _)]) ⟨rfl, rfl, rfl, rfl, rfl, trivial⟩ ?_
  refine SL.nil (SE.thenK hK2 (SC.seq (fun K3 hK3 => SC.seq (fun K4 hK4 => SC.region ?_))))
  refine SL.step (PS.move rfl tt rfl rfl) ?_
  refine SL.step (PS.move rfl tt rfl rfl) ?_
  refine SL.step (PS.conv rfl tt Try.underlying3 Try.underlying27 rfl rfl) ?_
  refine SL.step (PS.geq rfl tt rfl tt rfl rfl) ?_
  refine SL.keep (l' := [(22, _, _), (12, _, _), (0, _, _), (1, _, _), (2, _, _), (3, _, _)]) ⟨rfl, rfl, rfl, rfl, rfl, rfl, trivial⟩ ?_
  refine SL.nil (SE.thenK hK4 ?_)
  refine SC.cond rfl (fun c22 => ?_) (fun c22 => ?_)
  ·
   refine SC.seq (fun K5 hK5 => SC.region ?_)
   refine SL.step (PS.assign rfl tt rfl rfl) ?_
   refine SL.step (PS.assign rfl tt rfl rfl) ?_
   refine SL.keep (l' := [(11, _, _), (10, _, _)]) ⟨rfl, rfl, trivial⟩ ?_
   refine SL.nil (SE.thenK hK5 (SC.ret (SE.then_ret ?_)))
   exact finV2 rfl rfl rfl (fun _ _ => congrArg (fun z : Int × Int => Value.tuple #[Value.int .u64 z.1, Value.int .i64 z.2]) (show (d_latheref01_right p0 p1 p2 p3 p4) = ((0, 1) : Int × Int) from (bifT c22)).symm)
  ·
   have c22n := c22
   try simp only [Bool.and_eq_true, Bool.or_eq_true, decide_eq_true_eq, Bool.true_and, Bool.not_eq_true', Bool.not_eq_false', beq_iff_eq, bne_iff_ne, decide_eq_false_iff_not, beq_eq_false_iff_ne, bne_eq_false_iff_eq, ne_eq, Bool.or_eq_false_iff, Bool.and_eq_false_iff] at c22n
   refine SC.skip (SE.thenK hK3 (SC.seq (fun K6 hK6 => SC.region ?_)))
   refine SL.step (PS.move rfl tt rfl rfl) ?_
   refine SL.step (PS.move rfl tt rfl rfl) ?_
   refine SL.callV (vs := [_, _]) Try.call66 ⟨⟨_, rfl, tt⟩, ⟨_, rfl, tt⟩, trivial⟩ (fun hg => latheref01_Plain_V p1 p3 (by omega)) rfl rfl ?_
   refine SL.alloc (cs := [_, _, _]) Try.zeroValue65 rfl rfl rfl (fun b13 => ?_)
   refine SL.store_own (k := 0) (own' := [_]) (cs' := [_, _, _]) rfl rfl rfl rfl rfl rfl rfl Try.sizeOf65 rfl (Nat.le_of_ble_eq_true rfl) rfl rfl rfl rfl ?_
   refine SL.keep (l' := [(13, _, _), (12, _, _), (0, _, _), (1, _, _), (2, _, _), (3, _, _)]) ⟨rfl, rfl, rfl, rfl, rfl, rfl, trivial⟩ ?_
   refine SL.nil (SE.thenK hK6 (SC.seq (fun K7 hK7 => SC.seq (fun K8 hK8 => SC.region ?_))))
   refine SL.step (PS.move rfl tt rfl rfl) ?_
   refine SL.step (PS.eql rfl tt rfl tt rfl rfl) ?_
   refine SL.keep (l' := [(27, _, _), (13, _, _), (12, _, _), (1, _, _), (2, _, _), (3, _, _)]) ⟨rfl, rfl, rfl, rfl, rfl, rfl, trivial⟩ ?_
   refine SL.nil (SE.thenK hK8 ?_)
   refine SC.cond rfl (fun c27 => ?_) (fun c27 => ?_)
   ·
    have c27n := c27
    try simp only [Bool.and_eq_true, Bool.or_eq_true, decide_eq_true_eq, Bool.true_and, Bool.not_eq_true', Bool.not_eq_false', beq_iff_eq, bne_iff_ne, decide_eq_false_iff_not, beq_eq_false_iff_ne, bne_eq_false_iff_eq, ne_eq, Bool.or_eq_false_iff, Bool.and_eq_false_iff] at c27n
    refine SC.region ?_
    refine SL.step (PS.move rfl tt rfl rfl) ?_
    refine SL.step (PS.move rfl tt rfl rfl) ?_
    refine SL.callV (vs := [_, _]) Try.call47 ⟨⟨_, rfl, tt⟩, ⟨_, rfl, tt⟩, trivial⟩ (fun hg => latheref01_With_V p1 p3 (by omega)) rfl rfl ?_
    refine SL.store_own (k := 0) (own' := [_]) (cs' := [_, _, _]) rfl rfl rfl rfl rfl rfl rfl Try.sizeOf65 rfl (Nat.le_of_ble_eq_true rfl) rfl rfl rfl rfl ?_
    refine SL.keep (l' := [(13, _, _), (12, _, _), (1, _, _), (2, _, _)]) ⟨rfl, rfl, rfl, rfl, trivial⟩ ?_
    refine SL.nil (SE.thenK hK7 (SC.seq (fun K9 hK9 => ?_)))
    refine SC.draw (S := SP _ _ _) 11 (by kernel_rfl) (by kernel_rfl) (fun _ h => h) ?_
    refine SD.take 0 rfl rfl (by kernel_rfl) (PS.load_own_agg (k := 0) (vs := [_, _, _]) rfl tt rfl rfl rfl rfl Try.isAgg65 Try.sizeOf65 rfl rfl) ?_
    refine SD.take 1 rfl rfl (by kernel_rfl) (PS.move rfl tt rfl rfl) ?_
    refine SD.join2 (f' := 0) (listed' := (List.replicate 11 true ++ List.replicate 0 false).toArray) (L := ?L7_1) (O := ?O7_1) (G := ?G7_1) (fun HT => ?way7_1) (fun (b14 : Nat) (b15 : Nat) => ?tail7_1)
    case way7_1 =>
     refine SD.three 2 7 8 rfl rfl rfl (by kernel_rfl) (fun inv2 => ?_) (fun inv7 => ?_) (fun inv8 => ?_)
     ·
      refine SL.callV (vs := [_]) Try.call69 ⟨⟨_, rfl, tt⟩, trivial⟩ (fun hg => latheref01_power_V (d_latheref01_Cut p1 p4) (by omega)) rfl rfl ?_
      refine SL.nil ?_
      refine SE.next (fun _ h => h.drop (List.Sublist.refl _) (fun _ h => h)) inv2 ?_
      refine SD.three 3 7 8 rfl rfl rfl (by kernel_rfl) (fun inv3 => ?_) (fun inv7 => ?_) (fun inv8 => ?_)
      ·
       refine SL.callV (vs := [_, _]) Try.call67 ⟨⟨_, rfl, tt⟩, ⟨_, rfl, tt⟩, trivial⟩ (fun hg => latheref01_quotient_V (d_latheref01_With p1 p3) (d_latheref01_power (d_latheref01_Cut p1 p4)) (by omega)) rfl rfl ?_
       refine SL.nil ?_
       refine SE.next (fun _ h => h.drop (List.Sublist.refl _) (fun _ h => h)) inv3 ?_
       refine SD.take 4 rfl rfl (by kernel_rfl) (PS.move rfl tt rfl rfl) ?_
       refine SD.take 5 rfl rfl (by kernel_rfl) (PS.extract rfl tt rfl rfl rfl) ?_
       refine SD.take 6 rfl rfl (by kernel_rfl) (PS.extract rfl tt rfl rfl rfl) ?_
       refine SD.two 7 8 rfl rfl (by kernel_rfl) (fun inv7 => ?_) (fun inv8 => ?_)
       ·
        refine SL.alloc (cs := [_, _, _]) Try.zeroValue65 rfl rfl rfl (fun b14 => ?_)
        refine SL.nil ?_
        refine SE.next (fun _ h => h.drop (List.Sublist.cons _ (List.Sublist.refl _)) (fun _ h => h)) inv7 ?_
        refine SD.one 8 rfl (by kernel_rfl) (fun inv8 => ?_)
        refine SL.alloc (cs := [_, _, _]) Try.zeroValue65 rfl rfl rfl (fun b15 => ?_)
        refine SL.nil ?_
        refine SE.next (fun _ h => h.drop (List.Sublist.cons _ (List.Sublist.cons _ (List.Sublist.refl _))) (fun _ h => h)) inv8 ?_
        refine SD.one 9 rfl (by kernel_rfl) (fun inv9 => ?_)
        refine SL.store_own (k := 1) (own' := [_, _, _]) (cs' := [_, _, _]) rfl rfl rfl rfl rfl rfl rfl Try.sizeOf65 rfl (Nat.le_of_ble_eq_true rfl) rfl rfl rfl rfl ?_
        refine SL.nil ?_
        refine SE.next (fun _ h => h.drop (List.Sublist.cons _ (List.Sublist.cons _ (List.Sublist.refl _))) (fun _ h => h)) inv9 ?_
        refine SD.one 10 rfl (by kernel_rfl) (fun inv10 => ?_)
        refine SL.store_own (k := 0) (own' := [_, _, _]) (cs' := [_, _, _]) rfl rfl rfl rfl rfl rfl rfl Try.sizeOf65 rfl (Nat.le_of_ble_eq_true rfl) rfl rfl rfl rfl ?_
        refine SL.nil ?_
        refine SE.next (fun _ h => h.drop (List.Sublist.cons _ (List.Sublist.cons _ (List.Sublist.refl _))) (fun _ h => h)) inv10 ?_
        refine SD.lst (listed' := (List.replicate 11 true ++ List.replicate 0 false).toArray) (by kernel_rfl) ?_
        exact (HT b14 b15)
       ·
        refine SL.alloc (cs := [_, _, _]) Try.zeroValue65 rfl rfl rfl (fun b15 => ?_)
        refine SL.nil ?_
        refine SE.next (fun _ h => h.drop (List.Sublist.cons _ (List.Sublist.refl _)) (fun _ h => h)) inv8 ?_
        refine SD.one 7 rfl (by kernel_rfl) (fun inv7 => ?_)
        refine SL.alloc (cs := [_, _, _]) Try.zeroValue65 rfl rfl rfl (fun b14 => ?_)
        refine SL.nil ?_
        refine SE.next (fun _ h => h.drop (List.Sublist.cons _ (List.Sublist.cons _ (List.Sublist.refl _))) (fun _ h => h)) inv7 ?_
        refine SD.one 9 rfl (by kernel_rfl) (fun inv9 => ?_)
        refine SL.store_own (k := 0) (own' := [_, _, _]) (cs' := [_, _, _]) rfl rfl rfl rfl rfl rfl rfl Try.sizeOf65 rfl (Nat.le_of_ble_eq_true rfl) rfl rfl rfl rfl ?_
        refine SL.nil ?_
        refine SE.next (fun _ h => h.drop (List.Sublist.cons _ (List.Sublist.cons _ (List.Sublist.refl _))) (fun _ h => h)) inv9 ?_
        refine SD.one 10 rfl (by kernel_rfl) (fun inv10 => ?_)
        refine SL.store_own (k := 1) (own' := [_, _, _]) (cs' := [_, _, _]) rfl rfl rfl rfl rfl rfl rfl Try.sizeOf65 rfl (Nat.le_of_ble_eq_true rfl) rfl rfl rfl rfl ?_
        refine SL.nil ?_
        refine SE.next (fun _ h => h.drop (List.Sublist.cons _ (List.Sublist.cons _ (List.Sublist.refl _))) (fun _ h => h)) inv10 ?_
        refine SD.lst (listed' := (List.replicate 11 true ++ List.replicate 0 false).toArray) (by kernel_rfl) ?_
        refine SD.keep ?_ (SD.perm ?_ (HT b14 b15))
        · exact ⟨rfl, rfl, rfl, rfl, rfl, rfl, rfl, rfl, rfl, rfl, rfl, rfl, rfl, trivial⟩
        · exact (List.Perm.swap _ _ _)
      ·
       refine SL.alloc (cs := [_, _, _]) Try.zeroValue65 rfl rfl rfl (fun b14 => ?_)
       refine SL.nil ?_
       refine SE.next (fun _ h => h.drop (List.Sublist.cons _ (List.Sublist.refl _)) (fun _ h => h)) inv7 ?_
       refine SD.two 3 8 rfl rfl (by kernel_rfl) (fun inv3 => ?_) (fun inv8 => ?_)
       ·
        refine SL.callV (vs := [_, _]) Try.call67 ⟨⟨_, rfl, tt⟩, ⟨_, rfl, tt⟩, trivial⟩ (fun hg => latheref01_quotient_V (d_latheref01_With p1 p3) (d_latheref01_power (d_latheref01_Cut p1 p4)) (by omega)) rfl rfl ?_
        refine SL.nil ?_
        refine SE.next (fun _ h => h.drop (List.Sublist.cons _ (List.Sublist.refl _)) (fun _ h => h)) inv3 ?_
        refine SD.take 4 rfl rfl (by kernel_rfl) (PS.move rfl tt rfl rfl) ?_
        refine SD.take 5 rfl rfl (by kernel_rfl) (PS.extract rfl tt rfl rfl rfl) ?_
        refine SD.take 6 rfl rfl (by kernel_rfl) (PS.extract rfl tt rfl rfl rfl) ?_
        refine SD.one 8 rfl (by kernel_rfl) (fun inv8 => ?_)
        refine SL.alloc (cs := [_, _, _]) Try.zeroValue65 rfl rfl rfl (fun b15 => ?_)
        refine SL.nil ?_
        refine SE.next (fun _ h => h.drop (List.Sublist.cons _ (List.Sublist.cons _ (List.Sublist.refl _))) (fun _ h => h)) inv8 ?_
        refine SD.one 9 rfl (by kernel_rfl) (fun inv9 => ?_)
        refine SL.store_own (k := 1) (own' := [_, _, _]) (cs' := [_, _, _]) rfl rfl rfl rfl rfl rfl rfl Try.sizeOf65 rfl (Nat.le_of_ble_eq_true rfl) rfl rfl rfl rfl ?_
        refine SL.nil ?_
        refine SE.next (fun _ h => h.drop (List.Sublist.cons _ (List.Sublist.cons _ (List.Sublist.refl _))) (fun _ h => h)) inv9 ?_
        refine SD.one 10 rfl (by kernel_rfl) (fun inv10 => ?_)
        refine SL.store_own (k := 0) (own' := [_, _, _]) (cs' := [_, _, _]) rfl rfl rfl rfl rfl rfl rfl Try.sizeOf65 rfl (Nat.le_of_ble_eq_true rfl) rfl rfl rfl rfl ?_
        refine SL.nil ?_
        refine SE.next (fun _ h => h.drop (List.Sublist.cons _ (List.Sublist.cons _ (List.Sublist.refl _))) (fun _ h => h)) inv10 ?_
        refine SD.lst (listed' := (List.replicate 11 true ++ List.replicate 0 false).toArray) (by kernel_rfl) ?_
        refine SD.keep ?_ (SD.perm ?_ (HT b14 b15))
        · exact ⟨rfl, rfl, rfl, rfl, rfl, rfl, rfl, rfl, rfl, rfl, rfl, rfl, rfl, trivial⟩
        · exact (List.Perm.refl _)
       ·
        refine SL.alloc (cs := [_, _, _]) Try.zeroValue65 rfl rfl rfl (fun b15 => ?_)
        refine SL.nil ?_
        refine SE.next (fun _ h => h.drop (List.Sublist.cons _ (List.Sublist.cons _ (List.Sublist.refl _))) (fun _ h => h)) inv8 ?_
        refine SD.one 3 rfl (by kernel_rfl) (fun inv3 => ?_)
        refine SL.callV (vs := [_, _]) Try.call67 ⟨⟨_, rfl, tt⟩, ⟨_, rfl, tt⟩, trivial⟩ (fun hg => latheref01_quotient_V (d_latheref01_With p1 p3) (d_latheref01_power (d_latheref01_Cut p1 p4)) (by omega)) rfl rfl ?_
        refine SL.nil ?_
        refine SE.next (fun _ h => h.drop (List.Sublist.cons _ (List.Sublist.cons _ (List.Sublist.refl _))) (fun _ h => h)) inv3 ?_
        refine SD.take 4 rfl rfl (by kernel_rfl) (PS.move rfl tt rfl rfl) ?_
        refine SD.take 5 rfl rfl (by kernel_rfl) (PS.extract rfl tt rfl rfl rfl) ?_
        refine SD.take 6 rfl rfl (by kernel_rfl) (PS.extract rfl tt rfl rfl rfl) ?_
        refine SD.one 9 rfl (by kernel_rfl) (fun inv9 => ?_)
        refine SL.store_own (k := 1) (own' := [_, _, _]) (cs' := [_, _, _]) rfl rfl rfl rfl rfl rfl rfl Try.sizeOf65 rfl (Nat.le_of_ble_eq_true rfl) rfl rfl rfl rfl ?_
        refine SL.nil ?_
        refine SE.next (fun _ h => h.drop (List.Sublist.cons _ (List.Sublist.cons _ (List.Sublist.refl _))) (fun _ h => h)) inv9 ?_
        refine SD.one 10 rfl (by kernel_rfl) (fun inv10 => ?_)
        refine SL.store_own (k := 0) (own' := [_, _, _]) (cs' := [_, _, _]) rfl rfl rfl rfl rfl rfl rfl Try.sizeOf65 rfl (Nat.le_of_ble_eq_true rfl) rfl rfl rfl rfl ?_
        refine SL.nil ?_
        refine SE.next (fun _ h => h.drop (List.Sublist.cons _ (List.Sublist.cons _ (List.Sublist.refl _))) (fun _ h => h)) inv10 ?_
        refine SD.lst (listed' := (List.replicate 11 true ++ List.replicate 0 false).toArray) (by kernel_rfl) ?_
        refine SD.keep ?_ (SD.perm ?_ (HT b14 b15))
        · exact ⟨rfl, rfl, rfl, rfl, rfl, rfl, rfl, rfl, rfl, rfl, rfl, rfl, rfl, trivial⟩
        · exact (List.Perm.refl _)
      ·
       refine SL.alloc (cs := [_, _, _]) Try.zeroValue65 rfl rfl rfl (fun b15 => ?_)
       refine SL.nil ?_
       refine SE.next (fun _ h => h.drop (List.Sublist.cons _ (List.Sublist.refl _)) (fun _ h => h)) inv8 ?_
       refine SD.two 3 7 rfl rfl (by kernel_rfl) (fun inv3 => ?_) (fun inv7 => ?_)
       ·
        refine SL.callV (vs := [_, _]) Try.call67 ⟨⟨_, rfl, tt⟩, ⟨_, rfl, tt⟩, trivial⟩ (fun hg => latheref01_quotient_V (d_latheref01_With p1 p3) (d_latheref01_power (d_latheref01_Cut p1 p4)) (by omega)) rfl rfl ?_
        refine SL.nil ?_
        refine SE.next (fun _ h => h.drop (List.Sublist.cons _ (List.Sublist.refl _)) (fun _ h => h)) inv3 ?_
        refine SD.take 4 rfl rfl (by kernel_rfl) (PS.move rfl tt rfl rfl) ?_
        refine SD.take 5 rfl rfl (by kernel_rfl) (PS.extract rfl tt rfl rfl rfl) ?_
        refine SD.take 6 rfl rfl (by kernel_rfl) (PS.extract rfl tt rfl rfl rfl) ?_
        refine SD.one 7 rfl (by kernel_rfl) (fun inv7 => ?_)
        refine SL.alloc (cs := [_, _, _]) Try.zeroValue65 rfl rfl rfl (fun b14 => ?_)
        refine SL.nil ?_
        refine SE.next (fun _ h => h.drop (List.Sublist.cons _ (List.Sublist.cons _ (List.Sublist.refl _))) (fun _ h => h)) inv7 ?_
        refine SD.one 9 rfl (by kernel_rfl) (fun inv9 => ?_)
        refine SL.store_own (k := 0) (own' := [_, _, _]) (cs' := [_, _, _]) rfl rfl rfl rfl rfl rfl rfl Try.sizeOf65 rfl (Nat.le_of_ble_eq_true rfl) rfl rfl rfl rfl ?_
        refine SL.nil ?_
        refine SE.next (fun _ h => h.drop (List.Sublist.cons _ (List.Sublist.cons _ (List.Sublist.refl _))) (fun _ h => h)) inv9 ?_
        refine SD.one 10 rfl (by kernel_rfl) (fun inv10 => ?_)
        refine SL.store_own (k := 1) (own' := [_, _, _]) (cs' := [_, _, _]) rfl rfl rfl rfl rfl rfl rfl Try.sizeOf65 rfl (Nat.le_of_ble_eq_true rfl) rfl rfl rfl rfl ?_
        refine SL.nil ?_
        refine SE.next (fun _ h => h.drop (List.Sublist.cons _ (List.Sublist.cons _ (List.Sublist.refl _))) (fun _ h => h)) inv10 ?_
        refine SD.lst (listed' := (List.replicate 11 true ++ List.replicate 0 false).toArray) (by kernel_rfl) ?_
        refine SD.keep ?_ (SD.perm ?_ (HT b14 b15))
        · exact ⟨rfl, rfl, rfl, rfl, rfl, rfl, rfl, rfl, rfl, rfl, rfl, rfl, rfl, trivial⟩
        · exact (List.Perm.swap _ _ _)
       ·
        refine SL.alloc (cs := [_, _, _]) Try.zeroValue65 rfl rfl rfl (fun b14 => ?_)
        refine SL.nil ?_
        refine SE.next (fun _ h => h.drop (List.Sublist.cons _ (List.Sublist.cons _ (List.Sublist.refl _))) (fun _ h => h)) inv7 ?_
        refine SD.one 3 rfl (by kernel_rfl) (fun inv3 => ?_)
        refine SL.callV (vs := [_, _]) Try.call67 ⟨⟨_, rfl, tt⟩, ⟨_, rfl, tt⟩, trivial⟩ (fun hg => latheref01_quotient_V (d_latheref01_With p1 p3) (d_latheref01_power (d_latheref01_Cut p1 p4)) (by omega)) rfl rfl ?_
        refine SL.nil ?_
        refine SE.next (fun _ h => h.drop (List.Sublist.cons _ (List.Sublist.cons _ (List.Sublist.refl _))) (fun _ h => h)) inv3 ?_
        refine SD.take 4 rfl rfl (by kernel_rfl) (PS.move rfl tt rfl rfl) ?_
        refine SD.take 5 rfl rfl (by kernel_rfl) (PS.extract rfl tt rfl rfl rfl) ?_
        refine SD.take 6 rfl rfl (by kernel_rfl) (PS.extract rfl tt rfl rfl rfl) ?_
        refine SD.one 9 rfl (by kernel_rfl) (fun inv9 => ?_)
        refine SL.store_own (k := 0) (own' := [_, _, _]) (cs' := [_, _, _]) rfl rfl rfl rfl rfl rfl rfl Try.sizeOf65 rfl (Nat.le_of_ble_eq_true rfl) rfl rfl rfl rfl ?_
        refine SL.nil ?_
        refine SE.next (fun _ h => h.drop (List.Sublist.cons _ (List.Sublist.cons _ (List.Sublist.refl _))) (fun _ h => h)) inv9 ?_
        refine SD.one 10 rfl (by kernel_rfl) (fun inv10 => ?_)
        refine SL.store_own (k := 1) (own' := [_, _, _]) (cs' := [_, _, _]) rfl rfl rfl rfl rfl rfl rfl Try.sizeOf65 rfl (Nat.le_of_ble_eq_true rfl) rfl rfl rfl rfl ?_
        refine SL.nil ?_
        refine SE.next (fun _ h => h.drop (List.Sublist.cons _ (List.Sublist.cons _ (List.Sublist.refl _))) (fun _ h => h)) inv10 ?_
        refine SD.lst (listed' := (List.replicate 11 true ++ List.replicate 0 false).toArray) (by kernel_rfl) ?_
        refine SD.keep ?_ (SD.perm ?_ (HT b14 b15))
        · exact ⟨rfl, rfl, rfl, rfl, rfl, rfl, rfl, rfl, rfl, rfl, rfl, rfl, rfl, trivial⟩
        · exact (List.Perm.swap _ _ _)
     ·
      refine SL.alloc (cs := [_, _, _]) Try.zeroValue65 rfl rfl rfl (fun b14 => ?_)
      refine SL.nil ?_
      refine SE.next (fun _ h => h.drop (List.Sublist.cons _ (List.Sublist.refl _)) (fun _ h => h)) inv7 ?_
      refine SD.two 2 8 rfl rfl (by kernel_rfl) (fun inv2 => ?_) (fun inv8 => ?_)
      ·
       refine SL.callV (vs := [_]) Try.call69 ⟨⟨_, rfl, tt⟩, trivial⟩ (fun hg => latheref01_power_V (d_latheref01_Cut p1 p4) (by omega)) rfl rfl ?_
       refine SL.nil ?_
       refine SE.next (fun _ h => h.drop (List.Sublist.cons _ (List.Sublist.refl _)) (fun _ h => h)) inv2 ?_
       refine SD.two 3 8 rfl rfl (by kernel_rfl) (fun inv3 => ?_) (fun inv8 => ?_)
       ·
        refine SL.callV (vs := [_, _]) Try.call67 ⟨⟨_, rfl, tt⟩, ⟨_, rfl, tt⟩, trivial⟩ (fun hg => latheref01_quotient_V (d_latheref01_With p1 p3) (d_latheref01_power (d_latheref01_Cut p1 p4)) (by omega)) rfl rfl ?_
        refine SL.nil ?_
        refine SE.next (fun _ h => h.drop (List.Sublist.cons _ (List.Sublist.refl _)) (fun _ h => h)) inv3 ?_
        refine SD.take 4 rfl rfl (by kernel_rfl) (PS.move rfl tt rfl rfl) ?_
        refine SD.take 5 rfl rfl (by kernel_rfl) (PS.extract rfl tt rfl rfl rfl) ?_
        refine SD.take 6 rfl rfl (by kernel_rfl) (PS.extract rfl tt rfl rfl rfl) ?_
        refine SD.one 8 rfl (by kernel_rfl) (fun inv8 => ?_)
        refine SL.alloc (cs := [_, _, _]) Try.zeroValue65 rfl rfl rfl (fun b15 => ?_)
        refine SL.nil ?_
        refine SE.next (fun _ h => h.drop (List.Sublist.cons _ (List.Sublist.cons _ (List.Sublist.refl _))) (fun _ h => h)) inv8 ?_
        refine SD.one 9 rfl (by kernel_rfl) (fun inv9 => ?_)
        refine SL.store_own (k := 1) (own' := [_, _, _]) (cs' := [_, _, _]) rfl rfl rfl rfl rfl rfl rfl Try.sizeOf65 rfl (Nat.le_of_ble_eq_true rfl) rfl rfl rfl rfl ?_
        refine SL.nil ?_
        refine SE.next (fun _ h => h.drop (List.Sublist.cons _ (List.Sublist.cons _ (List.Sublist.refl _))) (fun _ h => h)) inv9 ?_
        refine SD.one 10 rfl (by kernel_rfl) (fun inv10 => ?_)
        refine SL.store_own (k := 0) (own' := [_, _, _]) (cs' := [_, _, _]) rfl rfl rfl rfl rfl rfl rfl Try.sizeOf65 rfl (Nat.le_of_ble_eq_true rfl) rfl rfl rfl rfl ?_
        refine SL.nil ?_
        refine SE.next (fun _ h => h.drop (List.Sublist.cons _ (List.Sublist.cons _ (List.Sublist.refl _))) (fun _ h => h)) inv10 ?_
        refine SD.lst (listed' := (List.replicate 11 true ++ List.replicate 0 false).toArray) (by kernel_rfl) ?_
        refine SD.keep ?_ (SD.perm ?_ (HT b14 b15))
        · exact ⟨rfl, rfl, rfl, rfl, rfl, rfl, rfl, rfl, rfl, rfl, rfl, rfl, rfl, trivial⟩
        · exact (List.Perm.refl _)
       ·
        refine SL.alloc (cs := [_, _, _]) Try.zeroValue65 rfl rfl rfl (fun b15 => ?_)
        refine SL.nil ?_
        refine SE.next (fun _ h => h.drop (List.Sublist.cons _ (List.Sublist.cons _ (List.Sublist.refl _))) (fun _ h => h)) inv8 ?_
        refine SD.one 3 rfl (by kernel_rfl) (fun inv3 => ?_)
        refine SL.callV (vs := [_, _]) Try.call67 ⟨⟨_, rfl, tt⟩, ⟨_, rfl, tt⟩, trivial⟩ (fun hg => latheref01_quotient_V (d_latheref01_With p1 p3) (d_latheref01_power (d_latheref01_Cut p1 p4)) (by omega)) rfl rfl ?_
        refine SL.nil ?_
        refine SE.next (fun _ h => h.drop (List.Sublist.cons _ (List.Sublist.cons _ (List.Sublist.refl _))) (fun _ h => h)) inv3 ?_
        refine SD.take 4 rfl rfl (by kernel_rfl) (PS.move rfl tt rfl rfl) ?_
        refine SD.take 5 rfl rfl (by kernel_rfl) (PS.extract rfl tt rfl rfl rfl) ?_
        refine SD.take 6 rfl rfl (by kernel_rfl) (PS.extract rfl tt rfl rfl rfl) ?_
        refine SD.one 9 rfl (by kernel_rfl) (fun inv9 => ?_)
        refine SL.store_own (k := 1) (own' := [_, _, _]) (cs' := [_, _, _]) rfl rfl rfl rfl rfl rfl rfl Try.sizeOf65 rfl (Nat.le_of_ble_eq_true rfl) rfl rfl rfl rfl ?_
        refine SL.nil ?_
        refine SE.next (fun _ h => h.drop (List.Sublist.cons _ (List.Sublist.cons _ (List.Sublist.refl _))) (fun _ h => h)) inv9 ?_
        refine SD.one 10 rfl (by kernel_rfl) (fun inv10 => ?_)
        refine SL.store_own (k := 0) (own' := [_, _, _]) (cs' := [_, _, _]) rfl rfl rfl rfl rfl rfl rfl Try.sizeOf65 rfl (Nat.le_of_ble_eq_true rfl) rfl rfl rfl rfl ?_
        refine SL.nil ?_
        refine SE.next (fun _ h => h.drop (List.Sublist.cons _ (List.Sublist.cons _ (List.Sublist.refl _))) (fun _ h => h)) inv10 ?_
        refine SD.lst (listed' := (List.replicate 11 true ++ List.replicate 0 false).toArray) (by kernel_rfl) ?_
        refine SD.keep ?_ (SD.perm ?_ (HT b14 b15))
        · exact ⟨rfl, rfl, rfl, rfl, rfl, rfl, rfl, rfl, rfl, rfl, rfl, rfl, rfl, trivial⟩
        · exact (List.Perm.refl _)
      ·
       refine SL.alloc (cs := [_, _, _]) Try.zeroValue65 rfl rfl rfl (fun b15 => ?_)
       refine SL.nil ?_
       refine SE.next (fun _ h => h.drop (List.Sublist.cons _ (List.Sublist.cons _ (List.Sublist.refl _))) (fun _ h => h)) inv8 ?_
       refine SD.one 2 rfl (by kernel_rfl) (fun inv2 => ?_)
       refine SL.callV (vs := [_]) Try.call69 ⟨⟨_, rfl, tt⟩, trivial⟩ (fun hg => latheref01_power_V (d_latheref01_Cut p1 p4) (by omega)) rfl rfl ?_
       refine SL.nil ?_
       refine SE.next (fun _ h => h.drop (List.Sublist.cons _ (List.Sublist.cons _ (List.Sublist.refl _))) (fun _ h => h)) inv2 ?_
       refine SD.one 3 rfl (by kernel_rfl) (fun inv3 => ?_)
       refine SL.callV (vs := [_, _]) Try.call67 ⟨⟨_, rfl, tt⟩, ⟨_, rfl, tt⟩, trivial⟩ (fun hg => latheref01_quotient_V (d_latheref01_With p1 p3) (d_latheref01_power (d_latheref01_Cut p1 p4)) (by omega)) rfl rfl ?_
       refine SL.nil ?_
       refine SE.next (fun _ h => h.drop (List.Sublist.cons _ (List.Sublist.cons _ (List.Sublist.refl _))) (fun _ h => h)) inv3 ?_
       refine SD.take 4 rfl rfl (by kernel_rfl) (PS.move rfl tt rfl rfl) ?_
       refine SD.take 5 rfl rfl (by kernel_rfl) (PS.extract rfl tt rfl rfl rfl) ?_
       refine SD.take 6 rfl rfl (by kernel_rfl) (PS.extract rfl tt rfl rfl rfl) ?_
       refine SD.one 9 rfl (by kernel_rfl) (fun inv9 => ?_)
       refine SL.store_own (k := 1) (own' := [_, _, _]) (cs' := [_, _, _]) rfl rfl rfl rfl rfl rfl rfl Try.sizeOf65 rfl (Nat.le_of_ble_eq_true rfl) rfl rfl rfl rfl ?_
       refine SL.nil ?_
       refine SE.next (fun _ h => h.drop (List.Sublist.cons _ (List.Sublist.cons _ (List.Sublist.refl _))) (fun _ h => h)) inv9 ?_
       refine SD.one 10 rfl (by kernel_rfl) (fun inv10 => ?_)
       refine SL.store_own (k := 0) (own' := [_, _, _]) (cs' := [_, _, _]) rfl rfl rfl rfl rfl rfl rfl Try.sizeOf65 rfl (Nat.le_of_ble_eq_true rfl) rfl rfl rfl rfl ?_
       refine SL.nil ?_
       refine SE.next (fun _ h => h.drop (List.Sublist.cons _ (List.Sublist.cons _ (List.Sublist.refl _))) (fun _ h => h)) inv10 ?_
       refine SD.lst (listed' := (List.replicate 11 true ++ List.replicate 0 false).toArray) (by kernel_rfl) ?_
       refine SD.keep ?_ (SD.perm ?_ (HT b14 b15))
       · exact ⟨rfl, rfl, rfl, rfl, rfl, rfl, rfl, rfl, rfl, rfl, rfl, rfl, rfl, trivial⟩
       · exact (List.Perm.refl _)
     ·
      refine SL.alloc (cs := [_, _, _]) Try.zeroValue65 rfl rfl rfl (fun b15 => ?_)
      refine SL.nil ?_
      refine SE.next (fun _ h => h.drop (List.Sublist.cons _ (List.Sublist.refl _)) (fun _ h => h)) inv8 ?_
      refine SD.two 2 7 rfl rfl (by kernel_rfl) (fun inv2 => ?_) (fun inv7 => ?_)
      ·
       refine SL.callV (vs := [_]) Try.call69 ⟨⟨_, rfl, tt⟩, trivial⟩ (fun hg => latheref01_power_V (d_latheref01_Cut p1 p4) (by omega)) rfl rfl ?_
       refine SL.nil ?_
       refine SE.next (fun _ h => h.drop (List.Sublist.cons _ (List.Sublist.refl _)) (fun _ h => h)) inv2 ?_
       refine SD.two 3 7 rfl rfl (by kernel_rfl) (fun inv3 => ?_) (fun inv7 => ?_)
       ·
        refine SL.callV (vs := [_, _]) Try.call67 ⟨⟨_, rfl, tt⟩, ⟨_, rfl, tt⟩, trivial⟩ (fun hg => latheref01_quotient_V (d_latheref01_With p1 p3) (d_latheref01_power (d_latheref01_Cut p1 p4)) (by omega)) rfl rfl ?_
        refine SL.nil ?_
        refine SE.next (fun _ h => h.drop (List.Sublist.cons _ (List.Sublist.refl _)) (fun _ h => h)) inv3 ?_
        refine SD.take 4 rfl rfl (by kernel_rfl) (PS.move rfl tt rfl rfl) ?_
        refine SD.take 5 rfl rfl (by kernel_rfl) (PS.extract rfl tt rfl rfl rfl) ?_
        refine SD.take 6 rfl rfl (by kernel_rfl) (PS.extract rfl tt rfl rfl rfl) ?_
        refine SD.one 7 rfl (by kernel_rfl) (fun inv7 => ?_)
        refine SL.alloc (cs := [_, _, _]) Try.zeroValue65 rfl rfl rfl (fun b14 => ?_)
        refine SL.nil ?_
        refine SE.next (fun _ h => h.drop (List.Sublist.cons _ (List.Sublist.cons _ (List.Sublist.refl _))) (fun _ h => h)) inv7 ?_
        refine SD.one 9 rfl (by kernel_rfl) (fun inv9 => ?_)
        refine SL.store_own (k := 0) (own' := [_, _, _]) (cs' := [_, _, _]) rfl rfl rfl rfl rfl rfl rfl Try.sizeOf65 rfl (Nat.le_of_ble_eq_true rfl) rfl rfl rfl rfl ?_
        refine SL.nil ?_
        refine SE.next (fun _ h => h.drop (List.Sublist.cons _ (List.Sublist.cons _ (List.Sublist.refl _))) (fun _ h => h)) inv9 ?_
        refine SD.one 10 rfl (by kernel_rfl) (fun inv10 => ?_)
        refine SL.store_own (k := 1) (own' := [_, _, _]) (cs' := [_, _, _]) rfl rfl rfl rfl rfl rfl rfl Try.sizeOf65 rfl (Nat.le_of_ble_eq_true rfl) rfl rfl rfl rfl ?_
        refine SL.nil ?_
        refine SE.next (fun _ h => h.drop (List.Sublist.cons _ (List.Sublist.cons _ (List.Sublist.refl _))) (fun _ h => h)) inv10 ?_
        refine SD.lst (listed' := (List.replicate 11 true ++ List.replicate 0 false).toArray) (by kernel_rfl) ?_
        refine SD.keep ?_ (SD.perm ?_ (HT b14 b15))
        · exact ⟨rfl, rfl, rfl, rfl, rfl, rfl, rfl, rfl, rfl, rfl, rfl, rfl, rfl, trivial⟩
        · exact (List.Perm.swap _ _ _)
       ·
        refine SL.alloc (cs := [_, _, _]) Try.zeroValue65 rfl rfl rfl (fun b14 => ?_)
        refine SL.nil ?_
        refine SE.next (fun _ h => h.drop (List.Sublist.cons _ (List.Sublist.cons _ (List.Sublist.refl _))) (fun _ h => h)) inv7 ?_
        refine SD.one 3 rfl (by kernel_rfl) (fun inv3 => ?_)
        refine SL.callV (vs := [_, _]) Try.call67 ⟨⟨_, rfl, tt⟩, ⟨_, rfl, tt⟩, trivial⟩ (fun hg => latheref01_quotient_V (d_latheref01_With p1 p3) (d_latheref01_power (d_latheref01_Cut p1 p4)) (by omega)) rfl rfl ?_
        refine SL.nil ?_
        refine SE.next (fun _ h => h.drop (List.Sublist.cons _ (List.Sublist.cons _ (List.Sublist.refl _))) (fun _ h => h)) inv3 ?_
        refine SD.take 4 rfl rfl (by kernel_rfl) (PS.move rfl tt rfl rfl) ?_
        refine SD.take 5 rfl rfl (by kernel_rfl) (PS.extract rfl tt rfl rfl rfl) ?_
        refine SD.take 6 rfl rfl (by kernel_rfl) (PS.extract rfl tt rfl rfl rfl) ?_
        refine SD.one 9 rfl (by kernel_rfl) (fun inv9 => ?_)
        refine SL.store_own (k := 0) (own' := [_, _, _]) (cs' := [_, _, _]) rfl rfl rfl rfl rfl rfl rfl Try.sizeOf65 rfl (Nat.le_of_ble_eq_true rfl) rfl rfl rfl rfl ?_
        refine SL.nil ?_
        refine SE.next (fun _ h => h.drop (List.Sublist.cons _ (List.Sublist.cons _ (List.Sublist.refl _))) (fun _ h => h)) inv9 ?_
        refine SD.one 10 rfl (by kernel_rfl) (fun inv10 => ?_)
        refine SL.store_own (k := 1) (own' := [_, _, _]) (cs' := [_, _, _]) rfl rfl rfl rfl rfl rfl rfl Try.sizeOf65 rfl (Nat.le_of_ble_eq_true rfl) rfl rfl rfl rfl ?_
        refine SL.nil ?_
        refine SE.next (fun _ h => h.drop (List.Sublist.cons _ (List.Sublist.cons _ (List.Sublist.refl _))) (fun _ h => h)) inv10 ?_
        refine SD.lst (listed' := (List.replicate 11 true ++ List.replicate 0 false).toArray) (by kernel_rfl) ?_
        refine SD.keep ?_ (SD.perm ?_ (HT b14 b15))
        · exact ⟨rfl, rfl, rfl, rfl, rfl, rfl, rfl, rfl, rfl, rfl, rfl, rfl, rfl, trivial⟩
        · exact (List.Perm.swap _ _ _)
      ·
       refine SL.alloc (cs := [_, _, _]) Try.zeroValue65 rfl rfl rfl (fun b14 => ?_)
       refine SL.nil ?_
       refine SE.next (fun _ h => h.drop (List.Sublist.cons _ (List.Sublist.cons _ (List.Sublist.refl _))) (fun _ h => h)) inv7 ?_
       refine SD.one 2 rfl (by kernel_rfl) (fun inv2 => ?_)
       refine SL.callV (vs := [_]) Try.call69 ⟨⟨_, rfl, tt⟩, trivial⟩ (fun hg => latheref01_power_V (d_latheref01_Cut p1 p4) (by omega)) rfl rfl ?_
       refine SL.nil ?_
       refine SE.next (fun _ h => h.drop (List.Sublist.cons _ (List.Sublist.cons _ (List.Sublist.refl _))) (fun _ h => h)) inv2 ?_
       refine SD.one 3 rfl (by kernel_rfl) (fun inv3 => ?_)
       refine SL.callV (vs := [_, _]) Try.call67 ⟨⟨_, rfl, tt⟩, ⟨_, rfl, tt⟩, trivial⟩ (fun hg => latheref01_quotient_V (d_latheref01_With p1 p3) (d_latheref01_power (d_latheref01_Cut p1 p4)) (by omega)) rfl rfl ?_
       refine SL.nil ?_
       refine SE.next (fun _ h => h.drop (List.Sublist.cons _ (List.Sublist.cons _ (List.Sublist.refl _))) (fun _ h => h)) inv3 ?_
       refine SD.take 4 rfl rfl (by kernel_rfl) (PS.move rfl tt rfl rfl) ?_
       refine SD.take 5 rfl rfl (by kernel_rfl) (PS.extract rfl tt rfl rfl rfl) ?_
       refine SD.take 6 rfl rfl (by kernel_rfl) (PS.extract rfl tt rfl rfl rfl) ?_
       refine SD.one 9 rfl (by kernel_rfl) (fun inv9 => ?_)
       refine SL.store_own (k := 0) (own' := [_, _, _]) (cs' := [_, _, _]) rfl rfl rfl rfl rfl rfl rfl Try.sizeOf65 rfl (Nat.le_of_ble_eq_true rfl) rfl rfl rfl rfl ?_
       refine SL.nil ?_
       refine SE.next (fun _ h => h.drop (List.Sublist.cons _ (List.Sublist.cons _ (List.Sublist.refl _))) (fun _ h => h)) inv9 ?_
       refine SD.one 10 rfl (by kernel_rfl) (fun inv10 => ?_)
       refine SL.store_own (k := 1) (own' := [_, _, _]) (cs' := [_, _, _]) rfl rfl rfl rfl rfl rfl rfl Try.sizeOf65 rfl (Nat.le_of_ble_eq_true rfl) rfl rfl rfl rfl ?_
       refine SL.nil ?_
       refine SE.next (fun _ h => h.drop (List.Sublist.cons _ (List.Sublist.cons _ (List.Sublist.refl _))) (fun _ h => h)) inv10 ?_
       refine SD.lst (listed' := (List.replicate 11 true ++ List.replicate 0 false).toArray) (by kernel_rfl) ?_
       refine SD.keep ?_ (SD.perm ?_ (HT b14 b15))
       · exact ⟨rfl, rfl, rfl, rfl, rfl, rfl, rfl, rfl, rfl, rfl, rfl, rfl, rfl, trivial⟩
       · exact (List.Perm.swap _ _ _)
    refine SD.tail (by kernel_rfl) (os := []) rfl ?_
    refine SL.keep (l' := [(15, _, _), (14, _, _), (1, _, _), (2, _, _)]) ⟨rfl, rfl, rfl, rfl, trivial⟩ ?_
    refine SL.nil (SE.calm (SE.thenK hK9 (SC.seq (fun K10 hK10 => SC.seq (fun K11 hK11 => SC.region ?_)))))
    refine SL.step (PS.move rfl tt rfl rfl) ?_
    refine SL.step (PS.eql rfl tt rfl tt rfl rfl) ?_
    refine SL.step (PS.move rfl tt rfl rfl) ?_
    refine SL.step (PS.fieldAddr rfl tt Try.fieldAt_65_1 rfl rfl) ?_
    refine SL.step (PS.load_own (k := 0) rfl (fun h => h) rfl rfl rfl Try.isAgg27 rfl rfl) ?_
    refine SL.step (PS.neq rfl (fun h => h) rfl tt rfl rfl) ?_
    refine SL.step (PS.pick_and rfl tt rfl (fun h h2 => pk_and h h2) rfl rfl) ?_
    refine SL.keep (l' := [(44, _, _), (15, _, _), (14, _, _), (1, _, _)]) ⟨rfl, rfl, rfl, rfl, trivial⟩ ?_
    refine SL.nil (SE.thenK hK11 ?_)
    refine SC.cond rfl (fun c44 => ?_) (fun c44 => ?_)
    ·
     refine SC.seq (fun K12 hK12 => SC.region ?_)
     refine SL.step (PS.assign rfl tt rfl rfl) ?_
     refine SL.step (PS.assign rfl tt rfl rfl) ?_
     refine SL.keep (l' := [(11, _, _), (10, _, _)]) ⟨rfl, rfl, trivial⟩ ?_
     refine SL.nil (SE.thenK hK12 (SC.ret (SE.then_ret ?_)))
     exact finV2 rfl rfl rfl (fun _ _ => congrArg (fun z : Int × Int => Value.tuple #[Value.int .u64 z.1, Value.int .i64 z.2]) (show (d_latheref01_right p0 p1 p2 p3 p4) = ((0, 1) : Int × Int) from ((bifF c22).trans ((bifT c27).trans (bifT c44)))).symm)
    ·
     have c44n := c44
     try simp only [Bool.and_eq_true, Bool.or_eq_true, decide_eq_true_eq, Bool.true_and, Bool.not_eq_true', Bool.not_eq_false', beq_iff_eq, bne_iff_ne, decide_eq_false_iff_not, beq_eq_false_iff_ne, bne_eq_false_iff_eq, ne_eq, Bool.or_eq_false_iff, Bool.and_eq_false_iff] at c44n
     refine SC.skip (SE.thenK hK10 (SC.seq (fun K13 hK13 => SC.seq (fun K14 hK14 => SC.region ?_))))
     refine SL.step (PS.fieldAddr rfl tt Try.fieldAt_65_2 rfl rfl) ?_
     refine SL.step (PS.load_own (k := 0) rfl tt rfl rfl rfl Try.isAgg4 rfl rfl) ?_
     refine SL.keep (l' := [(46, _, _), (14, _, _), (1, _, _)]) ⟨rfl, rfl, rfl, trivial⟩ ?_
     refine SL.nil (SE.thenK hK14 ?_)
     refine SC.cond rfl (fun c46 => ?_) (fun c46 => ?_)
     ·
      have c46n := c46
      try simp only [Bool.and_eq_true, Bool.or_eq_true, decide_eq_true_eq, Bool.true_and, Bool.not_eq_true', Bool.not_eq_false', beq_iff_eq, bne_iff_ne, decide_eq_false_iff_not, beq_eq_false_iff_ne, bne_eq_false_iff_eq, ne_eq, Bool.or_eq_false_iff, Bool.and_eq_false_iff] at c46n
      refine SC.region ?_
      refine SL.step (PS.load_own_agg (k := 1) (vs := [_, _, _]) rfl tt rfl rfl rfl rfl Try.isAgg65 Try.sizeOf65 rfl rfl) ?_
      refine SL.step (PS.build (us := [(1, _), (2, _)]) (vs := [_, _, _]) ⟨rfl, ⟨_, rfl, tt⟩, ⟨rfl, ⟨_, rfl, tt⟩, trivial⟩⟩ Try.underlying65 Try.zeroValue65 (Try.places_65 Try.underlying65) rfl rfl rfl) ?_
      refine SL.callV (vs := [_, _]) Try.call70 ⟨⟨_, rfl, tt⟩, ⟨_, rfl, tt⟩, trivial⟩ (fun hg => latheref01_Plus_W _ _ _ _ _ _ ) rfl rfl ?_
      refine SL.store_own (k := 1) (own' := [_, _, _]) (cs' := [_, _, _]) rfl rfl rfl rfl rfl rfl rfl Try.sizeOf65 rfl (Nat.le_of_ble_eq_true rfl) rfl rfl rfl rfl ?_
      refine SL.keep (l' := [(14, _, _), (1, _, _)]) ⟨rfl, rfl, trivial⟩ ?_
      refine SL.nil (SE.thenK hK13 (SC.seq (fun K15 hK15 => SC.region ?_)))
      refine SL.step (PS.move rfl tt rfl rfl) ?_
      refine SL.step (PS.load_own_agg (k := 1) (vs := [_, _, _]) rfl tt rfl rfl rfl rfl Try.isAgg65 Try.sizeOf65 rfl rfl) ?_
      refine SL.callV (vs := [_, _]) Try.call46 ⟨⟨_, rfl, tt⟩, ⟨_, rfl, tt⟩, trivial⟩ (fun hg => latheref01_Wrapped_W _ _ _ _ (by omega)) rfl rfl ?_
      refine SL.step (PS.assign rfl tt rfl rfl) ?_
      refine SL.step (PS.assign rfl tt rfl rfl) ?_
      refine SL.keep (l' := [(11, _, _), (10, _, _)]) ⟨rfl, rfl, trivial⟩ ?_
      refine SL.nil (SE.thenK hK15 (SC.ret ?_))
      exact finV2 rfl rfl rfl (fun _ _ => congrArg (fun z : Int × Int => Value.tuple #[Value.int .u64 z.1, Value.int .i64 z.2]) (show (d_latheref01_right p0 p1 p2 p3 p4) = (((d_latheref01_Wrapped p1 (d_latheref01_Plus ((d_latheref01_quotient (d_latheref01_With p1 p3) (d_latheref01_power (d_latheref01_Cut p1 p4))).1) (⟨0, 1, true⟩ : Bg))), 0) : Int × Int) from ((bifF c22).trans ((bifT c27).trans ((bifF c44).trans (bifT c46))))).symm)
     ·
      have c46n := c46
      try simp only [Bool.and_eq_true, Bool.or_eq_true, decide_eq_true_eq, Bool.true_and, Bool.not_eq_true', Bool.not_eq_false', beq_iff_eq, bne_iff_ne, decide_eq_false_iff_not, beq_eq_false_iff_ne, bne_eq_false_iff_eq, ne_eq, Bool.or_eq_false_iff, Bool.and_eq_false_iff] at c46n
      refine SC.skip (SE.thenK hK13 (SC.seq (fun K16 hK16 => SC.region ?_)))
      refine SL.step (PS.move rfl tt rfl rfl) ?_
      refine SL.step (PS.load_own_agg (k := 1) (vs := [_, _, _]) rfl tt rfl rfl rfl rfl Try.isAgg65 Try.sizeOf65 rfl rfl) ?_
      refine SL.callV (vs := [_, _]) Try.call46 ⟨⟨_, rfl, tt⟩, ⟨_, rfl, tt⟩, trivial⟩ (fun hg => latheref01_Wrapped_W _ _ _ _ (by omega)) rfl rfl ?_
      refine SL.step (PS.assign rfl tt rfl rfl) ?_
      refine SL.step (PS.assign rfl tt rfl rfl) ?_
      refine SL.keep (l' := [(11, _, _), (10, _, _)]) ⟨rfl, rfl, trivial⟩ ?_
      refine SL.nil (SE.thenK hK16 (SC.ret ?_))
      exact finV2 rfl rfl rfl (fun _ _ => congrArg (fun z : Int × Int => Value.tuple #[Value.int .u64 z.1, Value.int .i64 z.2]) (show (d_latheref01_right p0 p1 p2 p3 p4) = (((d_latheref01_Wrapped p1 ((d_latheref01_quotient (d_latheref01_With p1 p3) (d_latheref01_power (d_latheref01_Cut p1 p4))).1)), 0) : Int × Int) from ((bifF c22).trans ((bifT c27).trans ((bifF c44).trans (bifF c46))))).symm)
   ·
    have c27n := c27
    try simp only [Bool.and_eq_true, Bool.or_eq_true, decide_eq_true_eq, Bool.true_and, Bool.not_eq_true', Bool.not_eq_false', beq_iff_eq, bne_iff_ne, decide_eq_false_iff_not, beq_eq_false_iff_ne, bne_eq_false_iff_eq, ne_eq, Bool.or_eq_false_iff, Bool.and_eq_false_iff] at c27n
    refine SC.skip (SE.thenK hK7 (SC.seq (fun K17 hK17 => ?_)))
    refine SC.draw (S := SP _ _ _) 11 (by kernel_rfl) (by kernel_rfl) (fun _ h => h) ?_
    refine SD.take 0 rfl rfl (by kernel_rfl) (PS.load_own_agg (k := 0) (vs := [_, _, _]) rfl tt rfl rfl rfl rfl Try.isAgg65 Try.sizeOf65 rfl rfl) ?_
    refine SD.take 1 rfl rfl (by kernel_rfl) (PS.move rfl tt rfl rfl) ?_
    refine SD.join2 (f' := 0) (listed' := (List.replicate 11 true ++ List.replicate 0 false).toArray) (L := ?L7_2) (O := ?O7_2) (G := ?G7_2) (fun HT => ?way7_2) (fun (b14 : Nat) (b15 : Nat) => ?tail7_2)
    case way7_2 =>
     refine SD.three 2 7 8 rfl rfl rfl (by kernel_rfl) (fun inv2 => ?_) (fun inv7 => ?_) (fun inv8 => ?_)
     ·
      refine SL.callV (vs := [_]) Try.call69 ⟨⟨_, rfl, tt⟩, trivial⟩ (fun hg => latheref01_power_V (d_latheref01_Cut p1 p4) (by omega)) rfl rfl ?_
      refine SL.nil ?_
      refine SE.next (fun _ h => h.drop (List.Sublist.refl _) (fun _ h => h)) inv2 ?_
      refine SD.three 3 7 8 rfl rfl rfl (by kernel_rfl) (fun inv3 => ?_) (fun inv7 => ?_) (fun inv8 => ?_)
      ·
       refine SL.callV (vs := [_, _]) Try.call67 ⟨⟨_, rfl, tt⟩, ⟨_, rfl, tt⟩, trivial⟩ (fun hg => latheref01_quotient_V (d_latheref01_Plain p1 p3) (d_latheref01_power (d_latheref01_Cut p1 p4)) (by omega)) rfl rfl ?_
       refine SL.nil ?_
       refine SE.next (fun _ h => h.drop (List.Sublist.refl _) (fun _ h => h)) inv3 ?_
       refine SD.take 4 rfl rfl (by kernel_rfl) (PS.move rfl tt rfl rfl) ?_
       refine SD.take 5 rfl rfl (by kernel_rfl) (PS.extract rfl tt rfl rfl rfl) ?_
       refine SD.take 6 rfl rfl (by kernel_rfl) (PS.extract rfl tt rfl rfl rfl) ?_
       refine SD.two 7 8 rfl rfl (by kernel_rfl) (fun inv7 => ?_) (fun inv8 => ?_)
       ·
        refine SL.alloc (cs := [_, _, _]) Try.zeroValue65 rfl rfl rfl (fun b14 => ?_)
        refine SL.nil ?_
        refine SE.next (fun _ h => h.drop (List.Sublist.cons _ (List.Sublist.refl _)) (fun _ h => h)) inv7 ?_
        refine SD.one 8 rfl (by kernel_rfl) (fun inv8 => ?_)
        refine SL.alloc (cs := [_, _, _]) Try.zeroValue65 rfl rfl rfl (fun b15 => ?_)
        refine SL.nil ?_
        refine SE.next (fun _ h => h.drop (List.Sublist.cons _ (List.Sublist.cons _ (List.Sublist.refl _))) (fun _ h => h)) inv8 ?_
        refine SD.one 9 rfl (by kernel_rfl) (fun inv9 => ?_)
        refine SL.store_own (k := 1) (own' := [_, _, _]) (cs' := [_, _, _]) rfl rfl rfl rfl rfl rfl rfl Try.sizeOf65 rfl (Nat.le_of_ble_eq_true rfl) rfl rfl rfl rfl ?_
        refine SL.nil ?_
        refine SE.next (fun _ h => h.drop (List.Sublist.cons _ (List.Sublist.cons _ (List.Sublist.refl _))) (fun _ h => h)) inv9 ?_
        refine SD.one 10 rfl (by kernel_rfl) (fun inv10 => ?_)
        refine SL.store_own (k := 0) (own' := [_, _, _]) (cs' := [_, _, _]) rfl rfl rfl rfl rfl rfl rfl Try.sizeOf65 rfl (Nat.le_of_ble_eq_true rfl) rfl rfl rfl rfl ?_
        refine SL.nil ?_
        refine SE.next (fun _ h => h.drop (List.Sublist.cons _ (List.Sublist.cons _ (List.Sublist.refl _))) (fun _ h => h)) inv10 ?_
        refine SD.lst (listed' := (List.replicate 11 true ++ List.replicate 0 false).toArray) (by kernel_rfl) ?_
        exact (HT b14 b15)
       ·
        refine SL.alloc (cs := [_, _, _]) Try.zeroValue65 rfl rfl rfl (fun b15 => ?_)
        refine SL.nil ?_
        refine SE.next (fun _ h => h.drop (List.Sublist.cons _ (List.Sublist.refl _)) (fun _ h => h)) inv8 ?_
        refine SD.one 7 rfl (by kernel_rfl) (fun inv7 => ?_)
        refine SL.alloc (cs := [_, _, _]) Try.zeroValue65 rfl rfl rfl (fun b14 => ?_)
        refine SL.nil ?_
        refine SE.next (fun _ h => h.drop (List.Sublist.cons _ (List.Sublist.cons _ (List.Sublist.refl _))) (fun _ h => h)) inv7 ?_
        refine SD.one 9 rfl (by kernel_rfl) (fun inv9 => ?_)
        refine SL.store_own (k := 0) (own' := [_, _, _]) (cs' := [_, _, _]) rfl rfl rfl rfl rfl rfl rfl Try.sizeOf65 rfl (Nat.le_of_ble_eq_true rfl) rfl rfl rfl rfl ?_
        refine SL.nil ?_
        refine SE.next (fun _ h => h.drop (List.Sublist.cons _ (List.Sublist.cons _ (List.Sublist.refl _))) (fun _ h => h)) inv9 ?_
        refine SD.one 10 rfl (by kernel_rfl) (fun inv10 => ?_)
        refine SL.store_own (k := 1) (own' := [_, _, _]) (cs' := [_, _, _]) rfl rfl rfl rfl rfl rfl rfl Try.sizeOf65 rfl (Nat.le_of_ble_eq_true rfl) rfl rfl rfl rfl ?_
        refine SL.nil ?_
        refine SE.next (fun _ h => h.drop (List.Sublist.cons _ (List.Sublist.cons _ (List.Sublist.refl _))) (fun _ h => h)) inv10 ?_
        refine SD.lst (listed' := (List.replicate 11 true ++ List.replicate 0 false).toArray) (by kernel_rfl) ?_
        refine SD.keep ?_ (SD.perm ?_ (HT b14 b15))
        · exact ⟨rfl, rfl, rfl, rfl, rfl, rfl, rfl, rfl, rfl, rfl, rfl, rfl, rfl, rfl, rfl, trivial⟩
        · exact (List.Perm.swap _ _ _)
      ·
       refine SL.alloc (cs := [_, _, _]) Try.zeroValue65 rfl rfl rfl (fun b14 => ?_)
       refine SL.nil ?_
       refine SE.next (fun _ h => h.drop (List.Sublist.cons _ (List.Sublist.refl _)) (fun _ h => h)) inv7 ?_
       refine SD.two 3 8 rfl rfl (by kernel_rfl) (fun inv3 => ?_) (fun inv8 => ?_)
       ·
        refine SL.callV (vs := [_, _]) Try.call67 ⟨⟨_, rfl, tt⟩, ⟨_, rfl, tt⟩, trivial⟩ (fun hg => latheref01_quotient_V (d_latheref01_Plain p1 p3) (d_latheref01_power (d_latheref01_Cut p1 p4)) (by omega)) rfl rfl ?_
        refine SL.nil ?_
        refine SE.next (fun _ h => h.drop (List.Sublist.cons _ (List.Sublist.refl _)) (fun _ h => h)) inv3 ?_
        refine SD.take 4 rfl rfl (by kernel_rfl) (PS.move rfl tt rfl rfl) ?_
        refine SD.take 5 rfl rfl (by kernel_rfl) (PS.extract rfl tt rfl rfl rfl) ?_
        refine SD.take 6 rfl rfl (by kernel_rfl) (PS.extract rfl tt rfl rfl rfl) ?_
        refine SD.one 8 rfl (by kernel_rfl) (fun inv8 => ?_)
        refine SL.alloc (cs := [_, _, _]) Try.zeroValue65 rfl rfl rfl (fun b15 => ?_)
        refine SL.nil ?_
        refine SE.next (fun _ h => h.drop (List.Sublist.cons _ (List.Sublist.cons _ (List.Sublist.refl _))) (fun _ h => h)) inv8 ?_
        refine SD.one 9 rfl (by kernel_rfl) (fun inv9 => ?_)
        refine SL.store_own (k := 1) (own' := [_, _, _]) (cs' := [_, _, _]) rfl rfl rfl rfl rfl rfl rfl Try.sizeOf65 rfl (Nat.le_of_ble_eq_true rfl) rfl rfl rfl rfl ?_
        refine SL.nil ?_
        refine SE.next (fun _ h => h.drop (List.Sublist.cons _ (List.Sublist.cons _ (List.Sublist.refl _))) (fun _ h => h)) inv9 ?_
        refine SD.one 10 rfl (by kernel_rfl) (fun inv10 => ?_)
        refine SL.store_own (k := 0) (own' := [_, _, _]) (cs' := [_, _, _]) rfl rfl rfl rfl rfl rfl rfl Try.sizeOf65 rfl (Nat.le_of_ble_eq_true rfl) rfl rfl rfl rfl ?_
        refine SL.nil ?_
        refine SE.next (fun _ h => h.drop (List.Sublist.cons _ (List.Sublist.cons _ (List.Sublist.refl _))) (fun _ h => h)) inv10 ?_
        refine SD.lst (listed' := (List.replicate 11 true ++ List.replicate 0 false).toArray) (by kernel_rfl) ?_
        refine SD.keep ?_ (SD.perm ?_ (HT b14 b15))
        · exact ⟨rfl, rfl, rfl, rfl, rfl, rfl, rfl, rfl, rfl, rfl, rfl, rfl, rfl, rfl, rfl, trivial⟩
        · exact (List.Perm.refl _)
       ·
        refine SL.alloc (cs := [_, _, _]) Try.zeroValue65 rfl rfl rfl (fun b15 => ?_)
        refine SL.nil ?_
        refine SE.next (fun _ h => h.drop (List.Sublist.cons _ (List.Sublist.cons _ (List.Sublist.refl _))) (fun _ h => h)) inv8 ?_
        refine SD.one 3 rfl (by kernel_rfl) (fun inv3 => ?_)
        refine SL.callV (vs := [_, _]) Try.call67 ⟨⟨_, rfl, tt⟩, ⟨_, rfl, tt⟩, trivial⟩ (fun hg => latheref01_quotient_V (d_latheref01_Plain p1 p3) (d_latheref01_power (d_latheref01_Cut p1 p4)) (by omega)) rfl rfl ?_
        refine SL.nil ?_
        refine SE.next (fun _ h => h.drop (List.Sublist.cons _ (List.Sublist.cons _ (List.Sublist.refl _))) (fun _ h => h)) inv3 ?_
        refine SD.take 4 rfl rfl (by kernel_rfl) (PS.move rfl tt rfl rfl) ?_
        refine SD.take 5 rfl rfl (by kernel_rfl) (PS.extract rfl tt rfl rfl rfl) ?_
        refine SD.take 6 rfl rfl (by kernel_rfl) (PS.extract rfl tt rfl rfl rfl) ?_
        refine SD.one 9 rfl (by kernel_rfl) (fun inv9 => ?_)
        refine SL.store_own (k := 1) (own' := [_, _, _]) (cs' := [_, _, _]) rfl rfl rfl rfl rfl rfl rfl Try.sizeOf65 rfl (Nat.le_of_ble_eq_true rfl) rfl rfl rfl rfl ?_
        refine SL.nil ?_
        refine SE.next (fun _ h => h.drop (List.Sublist.cons _ (List.Sublist.cons _ (List.Sublist.refl _))) (fun _ h => h)) inv9 ?_
        refine SD.one 10 rfl (by kernel_rfl) (fun inv10 => ?_)
        refine SL.store_own (k := 0) (own' := [_, _, _]) (cs' := [_, _, _]) rfl rfl rfl rfl rfl rfl rfl Try.sizeOf65 rfl (Nat.le_of_ble_eq_true rfl) rfl rfl rfl rfl ?_
        refine SL.nil ?_
        refine SE.next (fun _ h => h.drop (List.Sublist.cons _ (List.Sublist.cons _ (List.Sublist.refl _))) (fun _ h => h)) inv10 ?_
        refine SD.lst (listed' := (List.replicate 11 true ++ List.replicate 0 false).toArray) (by kernel_rfl) ?_
        refine SD.keep ?_ (SD.perm ?_ (HT b14 b15))
        · exact ⟨rfl, rfl, rfl, rfl, rfl, rfl, rfl, rfl, rfl, rfl, rfl, rfl, rfl, rfl, rfl, trivial⟩
        · exact (List.Perm.refl _)
      ·
       refine SL.alloc (cs := [_, _, _]) Try.zeroValue65 rfl rfl rfl (fun b15 => ?_)
       refine SL.nil ?_
       refine SE.next (fun _ h => h.drop (List.Sublist.cons _ (List.Sublist.refl _)) (fun _ h => h)) inv8 ?_
       refine SD.two 3 7 rfl rfl (by kernel_rfl) (fun inv3 => ?_) (fun inv7 => ?_)
       ·
        refine SL.callV (vs := [_, _]) Try.call67 ⟨⟨_, rfl, tt⟩, ⟨_, rfl, tt⟩, trivial⟩ (fun hg => latheref01_quotient_V (d_latheref01_Plain p1 p3) (d_latheref01_power (d_latheref01_Cut p1 p4)) (by omega)) rfl rfl ?_
        refine SL.nil ?_
        refine SE.next (fun _ h => h.drop (List.Sublist.cons _ (List.Sublist.refl _)) (fun _ h => h)) inv3 ?_
        refine SD.take 4 rfl rfl (by kernel_rfl) (PS.move rfl tt rfl rfl) ?_
        refine SD.take 5 rfl rfl (by kernel_rfl) (PS.extract rfl tt rfl rfl rfl) ?_
        refine SD.take 6 rfl rfl (by kernel_rfl) (PS.extract rfl tt rfl rfl rfl) ?_
        refine SD.one 7 rfl (by kernel_rfl) (fun inv7 => ?_)
        refine SL.alloc (cs := [_, _, _]) Try.zeroValue65 rfl rfl rfl (fun b14 => ?_)
        refine SL.nil ?_
        refine SE.next (fun _ h => h.drop (List.Sublist.cons _ (List.Sublist.cons _ (List.Sublist.refl _))) (fun _ h => h)) inv7 ?_
        refine SD.one 9 rfl (by kernel_rfl) (fun inv9 => ?_)
        refine SL.store_own (k := 0) (own' := [_, _, _]) (cs' := [_, _, _]) rfl rfl rfl rfl rfl rfl rfl Try.sizeOf65 rfl (Nat.le_of_ble_eq_true rfl) rfl rfl rfl rfl ?_
        refine SL.nil ?_
        refine SE.next (fun _ h => h.drop (List.Sublist.cons _ (List.Sublist.cons _ (List.Sublist.refl _))) (fun _ h => h)) inv9 ?_
        refine SD.one 10 rfl (by kernel_rfl) (fun inv10 => ?_)
        refine SL.store_own (k := 1) (own' := [_, _, _]) (cs' := [_, _, _]) rfl rfl rfl rfl rfl rfl rfl Try.sizeOf65 rfl (Nat.le_of_ble_eq_true rfl) rfl rfl rfl rfl ?_
        refine SL.nil ?_
        refine SE.next (fun _ h => h.drop (List.Sublist.cons _ (List.Sublist.cons _ (List.Sublist.refl _))) (fun _ h => h)) inv10 ?_
        refine SD.lst (listed' := (List.replicate 11 true ++ List.replicate 0 false).toArray) (by kernel_rfl) ?_
        refine SD.keep ?_ (SD.perm ?_ (HT b14 b15))
        · exact ⟨rfl, rfl, rfl, rfl, rfl, rfl, rfl, rfl, rfl, rfl, rfl, rfl, rfl, rfl, rfl, trivial⟩
        · exact (List.Perm.swap _ _ _)
       ·
        refine SL.alloc (cs := [_, _, _]) Try.zeroValue65 rfl rfl rfl (fun b14 => ?_)
        refine SL.nil ?_
        refine SE.next (fun _ h => h.drop (List.Sublist.cons _ (List.Sublist.cons _ (List.Sublist.refl _))) (fun _ h => h)) inv7 ?_
        refine SD.one 3 rfl (by kernel_rfl) (fun inv3 => ?_)
        refine SL.callV (vs := [_, _]) Try.call67 ⟨⟨_, rfl, tt⟩, ⟨_, rfl, tt⟩, trivial⟩ (fun hg => latheref01_quotient_V (d_latheref01_Plain p1 p3) (d_latheref01_power (d_latheref01_Cut p1 p4)) (by omega)) rfl rfl ?_
        refine SL.nil ?_
        refine SE.next (fun _ h => h.drop (List.Sublist.cons _ (List.Sublist.cons _ (List.Sublist.refl _))) (fun _ h => h)) inv3 ?_
        refine SD.take 4 rfl rfl (by kernel_rfl) (PS.move rfl tt rfl rfl) ?_
        refine SD.take 5 rfl rfl (by kernel_rfl) (PS.extract rfl tt rfl rfl rfl) ?_
        refine SD.take 6 rfl rfl (by kernel_rfl) (PS.extract rfl tt rfl rfl rfl) ?_
        refine SD.one 9 rfl (by kernel_rfl) (fun inv9 => ?_)
        refine SL.store_own (k := 0) (own' := [_, _, _]) (cs' := [_, _, _]) rfl rfl rfl rfl rfl rfl rfl Try.sizeOf65 rfl (Nat.le_of_ble_eq_true rfl) rfl rfl rfl rfl ?_
        refine SL.nil ?_
        refine SE.next (fun _ h => h.drop (List.Sublist.cons _ (List.Sublist.cons _ (List.Sublist.refl _))) (fun _ h => h)) inv9 ?_
        refine SD.one 10 rfl (by kernel_rfl) (fun inv10 => ?_)
        refine SL.store_own (k := 1) (own' := [_, _, _]) (cs' := [_, _, _]) rfl rfl rfl rfl rfl rfl rfl Try.sizeOf65 rfl (Nat.le_of_ble_eq_true rfl) rfl rfl rfl rfl ?_
        refine SL.nil ?_
        refine SE.next (fun _ h => h.drop (List.Sublist.cons _ (List.Sublist.cons _ (List.Sublist.refl _))) (fun _ h => h)) inv10 ?_
        refine SD.lst (listed' := (List.replicate 11 true ++ List.replicate 0 false).toArray) (by kernel_rfl) ?_
        refine SD.keep ?_ (SD.perm ?_ (HT b14 b15))
        · exact ⟨rfl, rfl, rfl, rfl, rfl, rfl, rfl, rfl, rfl, rfl, rfl, rfl, rfl, rfl, rfl, trivial⟩
        · exact (List.Perm.swap _ _ _)
     ·
      refine SL.alloc (cs := [_, _, _]) Try.zeroValue65 rfl rfl rfl (fun b14 => ?_)
      refine SL.nil ?_
      refine SE.next (fun _ h => h.drop (List.Sublist.cons _ (List.Sublist.refl _)) (fun _ h => h)) inv7 ?_
      refine SD.two 2 8 rfl rfl (by kernel_rfl) (fun inv2 => ?_) (fun inv8 => ?_)
      ·
       refine SL.callV (vs := [_]) Try.call69 ⟨⟨_, rfl, tt⟩, trivial⟩ (fun hg => latheref01_power_V (d_latheref01_Cut p1 p4) (by omega)) rfl rfl ?_
       refine SL.nil ?_
       refine SE.next (fun _ h => h.drop (List.Sublist.cons _ (List.Sublist.refl _)) (fun _ h => h)) inv2 ?_
       refine SD.two 3 8 rfl rfl (by kernel_rfl) (fun inv3 => ?_) (fun inv8 => ?_)
       ·
        refine SL.callV (vs := [_, _]) Try.call67 ⟨⟨_, rfl, tt⟩, ⟨_, rfl, tt⟩, trivial⟩ (fun hg => latheref01_quotient_V (d_latheref01_Plain p1 p3) (d_latheref01_power (d_latheref01_Cut p1 p4)) (by omega)) rfl rfl ?_
        refine SL.nil ?_
        refine SE.next (fun _ h => h.drop (List.Sublist.cons _ (List.Sublist.refl _)) (fun _ h => h)) inv3 ?_
        refine SD.take 4 rfl rfl (by kernel_rfl) (PS.move rfl tt rfl rfl) ?_
        refine SD.take 5 rfl rfl (by kernel_rfl) (PS.extract rfl tt rfl rfl rfl) ?_
        refine SD.take 6 rfl rfl (by kernel_rfl) (PS.extract rfl tt rfl rfl rfl) ?_
        refine SD.one 8 rfl (by kernel_rfl) (fun inv8 => ?_)
        refine SL.alloc (cs := [_, _, _]) Try.zeroValue65 rfl rfl rfl (fun b15 => ?_)
        refine SL.nil ?_
        refine SE.next (fun _ h => h.drop (List.Sublist.cons _ (List.Sublist.cons _ (List.Sublist.refl _))) (fun _ h => h)) inv8 ?_
        refine SD.one 9 rfl (by kernel_rfl) (fun inv9 => ?_)
        refine SL.store_own (k := 1) (own' := [_, _, _]) (cs' := [_, _, _]) rfl rfl rfl rfl rfl rfl rfl Try.sizeOf65 rfl (Nat.le_of_ble_eq_true rfl) rfl rfl rfl rfl ?_
        refine SL.nil ?_
        refine SE.next (fun _ h => h.drop (List.Sublist.cons _ (List.Sublist.cons _ (List.Sublist.refl _))) (fun _ h => h)) inv9 ?_
        refine SD.one 10 rfl (by kernel_rfl) (fun inv10 => ?_)
        refine SL.store_own (k := 0) (own' := [_, _, _]) (cs' := [_, _, _]) rfl rfl rfl rfl rfl rfl rfl Try.sizeOf65 rfl (Nat.le_of_ble_eq_true rfl) rfl rfl rfl rfl ?_
        refine SL.nil ?_
        refine SE.next (fun _ h => h.drop (List.Sublist.cons _ (List.Sublist.cons _ (List.Sublist.refl _))) (fun _ h => h)) inv10 ?_
        refine SD.lst (listed' := (List.replicate 11 true ++ List.replicate 0 false).toArray) (by kernel_rfl) ?_
        refine SD.keep ?_ (SD.perm ?_ (HT b14 b15))
        · exact ⟨rfl, rfl, rfl, rfl, rfl, rfl, rfl, rfl, rfl, rfl, rfl, rfl, rfl, rfl, rfl, trivial⟩
        · exact (List.Perm.refl _)
       ·
        refine SL.alloc (cs := [_, _, _]) Try.zeroValue65 rfl rfl rfl (fun b15 => ?_)
        refine SL.nil ?_
        refine SE.next (fun _ h => h.drop (List.Sublist.cons _ (List.Sublist.cons _ (List.Sublist.refl _))) (fun _ h => h)) inv8 ?_
        refine SD.one 3 rfl (by kernel_rfl) (fun inv3 => ?_)
        refine SL.callV (vs := [_, _]) Try.call67 ⟨⟨_, rfl, tt⟩, ⟨_, rfl, tt⟩, trivial⟩ (fun hg => latheref01_quotient_V (d_latheref01_Plain p1 p3) (d_latheref01_power (d_latheref01_Cut p1 p4)) (by omega)) rfl rfl ?_
        refine SL.nil ?_
        refine SE.next (fun _ h => h.drop (List.Sublist.cons _ (List.Sublist.cons _ (List.Sublist.refl _))) (fun _ h => h)) inv3 ?_
        refine SD.take 4 rfl rfl (by kernel_rfl) (PS.move rfl tt rfl rfl) ?_
        refine SD.take 5 rfl rfl (by kernel_rfl) (PS.extract rfl tt rfl rfl rfl) ?_
        refine SD.take 6 rfl rfl (by kernel_rfl) (PS.extract rfl tt rfl rfl rfl) ?_
        refine SD.one 9 rfl (by kernel_rfl) (fun inv9 => ?_)
        refine SL.store_own (k := 1) (own' := [_, _, _]) (cs' := [_, _, _]) rfl rfl rfl rfl rfl rfl rfl Try.sizeOf65 rfl (Nat.le_of_ble_eq_true rfl) rfl rfl rfl rfl ?_
        refine SL.nil ?_
        refine SE.next (fun _ h => h.drop (List.Sublist.cons _ (List.Sublist.cons _ (List.Sublist.refl _))) (fun _ h => h)) inv9 ?_
        refine SD.one 10 rfl (by kernel_rfl) (fun inv10 => ?_)
        refine SL.store_own (k := 0) (own' := [_, _, _]) (cs' := [_, _, _]) rfl rfl rfl rfl rfl rfl rfl Try.sizeOf65 rfl (Nat.le_of_ble_eq_true rfl) rfl rfl rfl rfl ?_
        refine SL.nil ?_
        refine SE.next (fun _ h => h.drop (List.Sublist.cons _ (List.Sublist.cons _ (List.Sublist.refl _))) (fun _ h => h)) inv10 ?_
        refine SD.lst (listed' := (List.replicate 11 true ++ List.replicate 0 false).toArray) (by kernel_rfl) ?_
        refine SD.keep ?_ (SD.perm ?_ (HT b14 b15))
        · exact ⟨rfl, rfl, rfl, rfl, rfl, rfl, rfl, rfl, rfl, rfl, rfl, rfl, rfl, rfl, rfl, trivial⟩
        · exact (List.Perm.refl _)
      ·
       refine SL.alloc (cs := [_, _, _]) Try.zeroValue65 rfl rfl rfl (fun b15 => ?_)
       refine SL.nil ?_
       refine SE.next (fun _ h => h.drop (List.Sublist.cons _ (List.Sublist.cons _ (List.Sublist.refl _))) (fun _ h => h)) inv8 ?_
       refine SD.one 2 rfl (by kernel_rfl) (fun inv2 => ?_)
       refine SL.callV (vs := [_]) Try.call69 ⟨⟨_, rfl, tt⟩, trivial⟩ (fun hg => latheref01_power_V (d_latheref01_Cut p1 p4) (by omega)) rfl rfl ?_
       refine SL.nil ?_
       refine SE.next (fun _ h => h.drop (List.Sublist.cons _ (List.Sublist.cons _ (List.Sublist.refl _))) (fun _ h => h)) inv2 ?_
       refine SD.one 3 rfl (by kernel_rfl) (fun inv3 => ?_)
       refine SL.callV (vs := [_, _]) Try.call67 ⟨⟨_, rfl, tt⟩, ⟨_, rfl, tt⟩, trivial⟩ (fun hg => latheref01_quotient_V (d_latheref01_Plain p1 p3) (d_latheref01_power (d_latheref01_Cut p1 p4)) (by omega)) rfl rfl ?_
       refine SL.nil ?_
       refine SE.next (fun _ h => h.drop (List.Sublist.cons _ (List.Sublist.cons _ (List.Sublist.refl _))) (fun _ h => h)) inv3 ?_
       refine SD.take 4 rfl rfl (by kernel_rfl) (PS.move rfl tt rfl rfl) ?_
       refine SD.take 5 rfl rfl (by kernel_rfl) (PS.extract rfl tt rfl rfl rfl) ?_
       refine SD.take 6 rfl rfl (by kernel_rfl) (PS.extract rfl tt rfl rfl rfl) ?_
       refine SD.one 9 rfl (by kernel_rfl) (fun inv9 => ?_)
       refine SL.store_own (k := 1) (own' := [_, _, _]) (cs' := [_, _, _]) rfl rfl rfl rfl rfl rfl rfl Try.sizeOf65 rfl (Nat.le_of_ble_eq_true rfl) rfl rfl rfl rfl ?_
       refine SL.nil ?_
       refine SE.next (fun _ h => h.drop (List.Sublist.cons _ (List.Sublist.cons _ (List.Sublist.refl _))) (fun _ h => h)) inv9 ?_
       refine SD.one 10 rfl (by kernel_rfl) (fun inv10 => ?_)
       refine SL.store_own (k := 0) (own' := [_, _, _]) (cs' := [_, _, _]) rfl rfl rfl rfl rfl rfl rfl Try.sizeOf65 rfl (Nat.le_of_ble_eq_true rfl) rfl rfl rfl rfl ?_
       refine SL.nil ?_
       refine SE.next (fun _ h => h.drop (List.Sublist.cons _ (List.Sublist.cons _ (List.Sublist.refl _))) (fun _ h => h)) inv10 ?_
       refine SD.lst (listed' := (List.replicate 11 true ++ List.replicate 0 false).toArray) (by kernel_rfl) ?_
       refine SD.keep ?_ (SD.perm ?_ (HT b14 b15))
       · exact ⟨rfl, rfl, rfl, rfl, rfl, rfl, rfl, rfl, rfl, rfl, rfl, rfl, rfl, rfl, rfl, trivial⟩
       · exact (List.Perm.refl _)
     ·
      refine SL.alloc (cs := [_, _, _]) Try.zeroValue65 rfl rfl rfl (fun b15 => ?_)
      refine SL.nil ?_
      refine SE.next (fun _ h => h.drop (List.Sublist.cons _ (List.Sublist.refl _)) (fun _ h => h)) inv8 ?_
      refine SD.two 2 7 rfl rfl (by kernel_rfl) (fun inv2 => ?_) (fun inv7 => ?_)
      ·
       refine SL.callV (vs := [_]) Try.call69 ⟨⟨_, rfl, tt⟩, trivial⟩ (fun hg => latheref01_power_V (d_latheref01_Cut p1 p4) (by omega)) rfl rfl ?_
       refine SL.nil ?_
       refine SE.next (fun _ h => h.drop (List.Sublist.cons _ (List.Sublist.refl _)) (fun _ h => h)) inv2 ?_
       refine SD.two 3 7 rfl rfl (by kernel_rfl) (fun inv3 => ?_) (fun inv7 => ?_)
       ·
        refine SL.callV (vs := [_, _]) Try.call67 ⟨⟨_, rfl, tt⟩, ⟨_, rfl, tt⟩, trivial⟩ (fun hg => latheref01_quotient_V (d_latheref01_Plain p1 p3) (d_latheref01_power (d_latheref01_Cut p1 p4)) (by omega)) rfl rfl ?_
        refine SL.nil ?_
        refine SE.next (fun _ h => h.drop (List.Sublist.cons _ (List.Sublist.refl _)) (fun _ h => h)) inv3 ?_
        refine SD.take 4 rfl rfl (by kernel_rfl) (PS.move rfl tt rfl rfl) ?_
        refine SD.take 5 rfl rfl (by kernel_rfl) (PS.extract rfl tt rfl rfl rfl) ?_
        refine SD.take 6 rfl rfl (by kernel_rfl) (PS.extract rfl tt rfl rfl rfl) ?_
        refine SD.one 7 rfl (by kernel_rfl) (fun inv7 => ?_)
        refine SL.alloc (cs := [_, _, _]) Try.zeroValue65 rfl rfl rfl (fun b14 => ?_)
        refine SL.nil ?_
        refine SE.next (fun _ h => h.drop (List.Sublist.cons _ (List.Sublist.cons _ (List.Sublist.refl _))) (fun _ h => h)) inv7 ?_
        refine SD.one 9 rfl (by kernel_rfl) (fun inv9 => ?_)
        refine SL.store_own (k := 0) (own' := [_, _, _]) (cs' := [_, _, _]) rfl rfl rfl rfl rfl rfl rfl Try.sizeOf65 rfl (Nat.le_of_ble_eq_true rfl) rfl rfl rfl rfl ?_
        refine SL.nil ?_
        refine SE.next (fun _ h => h.drop (List.Sublist.cons _ (List.Sublist.cons _ (List.Sublist.refl _))) (fun _ h => h)) inv9 ?_
        refine SD.one 10 rfl (by kernel_rfl) (fun inv10 => ?_)
        refine SL.store_own (k := 1) (own' := [_, _, _]) (cs' := [_, _, _]) rfl rfl rfl rfl rfl rfl rfl Try.sizeOf65 rfl (Nat.le_of_ble_eq_true rfl) rfl rfl rfl rfl ?_
        refine SL.nil ?_
        refine SE.next (fun _ h => h.drop (List.Sublist.cons _ (List.Sublist.cons _ (List.Sublist.refl _))) (fun _ h => h)) inv10 ?_
        refine SD.lst (listed' := (List.replicate 11 true ++ List.replicate 0 false).toArray) (by kernel_rfl) ?_
        refine SD.keep ?_ (SD.perm ?_ (HT b14 b15))
        · exact ⟨rfl, rfl, rfl, rfl, rfl, rfl, rfl, rfl, rfl, rfl, rfl, rfl, rfl, rfl, rfl, trivial⟩
        · exact (List.Perm.swap _ _ _)
       ·
        refine SL.alloc (cs := [_, _, _]) Try.zeroValue65 rfl rfl rfl (fun b14 => ?_)
        refine SL.nil ?_
        refine SE.next (fun _ h => h.drop (List.Sublist.cons _ (List.Sublist.cons _ (List.Sublist.refl _))) (fun _ h => h)) inv7 ?_
        refine SD.one 3 rfl (by kernel_rfl) (fun inv3 => ?_)
        refine SL.callV (vs := [_, _]) Try.call67 ⟨⟨_, rfl, tt⟩, ⟨_, rfl, tt⟩, trivial⟩ (fun hg => latheref01_quotient_V (d_latheref01_Plain p1 p3) (d_latheref01_power (d_latheref01_Cut p1 p4)) (by omega)) rfl rfl ?_
        refine SL.nil ?_
        refine SE.next (fun _ h => h.drop (List.Sublist.cons _ (List.Sublist.cons _ (List.Sublist.refl _))) (fun _ h => h)) inv3 ?_
        refine SD.take 4 rfl rfl (by kernel_rfl) (PS.move rfl tt rfl rfl) ?_
        refine SD.take 5 rfl rfl (by kernel_rfl) (PS.extract rfl tt rfl rfl rfl) ?_
        refine SD.take 6 rfl rfl (by kernel_rfl) (PS.extract rfl tt rfl rfl rfl) ?_
        refine SD.one 9 rfl (by kernel_rfl) (fun inv9 => ?_)
        refine SL.store_own (k := 0) (own' := [_, _, _]) (cs' := [_, _, _]) rfl rfl rfl rfl rfl rfl rfl Try.sizeOf65 rfl (Nat.le_of_ble_eq_true rfl) rfl rfl rfl rfl ?_
        refine SL.nil ?_
        refine SE.next (fun _ h => h.drop (List.Sublist.cons _ (List.Sublist.cons _ (List.Sublist.refl _))) (fun _ h => h)) inv9 ?_
        refine SD.one 10 rfl (by kernel_rfl) (fun inv10 => ?_)
        refine SL.store_own (k := 1) (own' := [_, _, _]) (cs' := [_, _, _]) rfl rfl rfl rfl rfl rfl rfl Try.sizeOf65 rfl (Nat.le_of_ble_eq_true rfl) rfl rfl rfl rfl ?_
        refine SL.nil ?_
        refine SE.next (fun _ h => h.drop (List.Sublist.cons _ (List.Sublist.cons _ (List.Sublist.refl _))) (fun _ h => h)) inv10 ?_
        refine SD.lst (listed' := (List.replicate 11 true ++ List.replicate 0 false).toArray) (by kernel_rfl) ?_
        refine SD.keep ?_ (SD.perm ?_ (HT b14 b15))
        · exact ⟨rfl, rfl, rfl, rfl, rfl, rfl, rfl, rfl, rfl, rfl, rfl, rfl, rfl, rfl, rfl, trivial⟩
        · exact (List.Perm.swap _ _ _)
      ·
       refine SL.alloc (cs := [_, _, _]) Try.zeroValue65 rfl rfl rfl (fun b14 => ?_)
       refine SL.nil ?_
       refine SE.next (fun _ h => h.drop (List.Sublist.cons _ (List.Sublist.cons _ (List.Sublist.refl _))) (fun _ h => h)) inv7 ?_
       refine SD.one 2 rfl (by kernel_rfl) (fun inv2 => ?_)
       refine SL.callV (vs := [_]) Try.call69 ⟨⟨_, rfl, tt⟩, trivial⟩ (fun hg => latheref01_power_V (d_latheref01_Cut p1 p4) (by omega)) rfl rfl ?_
       refine SL.nil ?_
       refine SE.next (fun _ h => h.drop (List.Sublist.cons _ (List.Sublist.cons _ (List.Sublist.refl _))) (fun _ h => h)) inv2 ?_
       refine SD.one 3 rfl (by kernel_rfl) (fun inv3 => ?_)
       refine SL.callV (vs := [_, _]) Try.call67 ⟨⟨_, rfl, tt⟩, ⟨_, rfl, tt⟩, trivial⟩ (fun hg => latheref01_quotient_V (d_latheref01_Plain p1 p3) (d_latheref01_power (d_latheref01_Cut p1 p4)) (by omega)) rfl rfl ?_
       refine SL.nil ?_
       refine SE.next (fun _ h => h.drop (List.Sublist.cons _ (List.Sublist.cons _ (List.Sublist.refl _))) (fun _ h => h)) inv3 ?_
       refine SD.take 4 rfl rfl (by kernel_rfl) (PS.move rfl tt rfl rfl) ?_
       refine SD.take 5 rfl rfl (by kernel_rfl) (PS.extract rfl tt rfl rfl rfl) ?_
       refine SD.take 6 rfl rfl (by kernel_rfl) (PS.extract rfl tt rfl rfl rfl) ?_
       refine SD.one 9 rfl (by kernel_rfl) (fun inv9 => ?_)
       refine SL.store_own (k := 0) (own' := [_, _, _]) (cs' := [_, _, _]) rfl rfl rfl rfl rfl rfl rfl Try.sizeOf65 rfl (Nat.le_of_ble_eq_true rfl) rfl rfl rfl rfl ?_
       refine SL.nil ?_
       refine SE.next (fun _ h => h.drop (List.Sublist.cons _ (List.Sublist.cons _ (List.Sublist.refl _))) (fun _ h => h)) inv9 ?_
       refine SD.one 10 rfl (by kernel_rfl) (fun inv10 => ?_)
       refine SL.store_own (k := 1) (own' := [_, _, _]) (cs' := [_, _, _]) rfl rfl rfl rfl rfl rfl rfl Try.sizeOf65 rfl (Nat.le_of_ble_eq_true rfl) rfl rfl rfl rfl ?_
       refine SL.nil ?_
       refine SE.next (fun _ h => h.drop (List.Sublist.cons _ (List.Sublist.cons _ (List.Sublist.refl _))) (fun _ h => h)) inv10 ?_
       refine SD.lst (listed' := (List.replicate 11 true ++ List.replicate 0 false).toArray) (by kernel_rfl) ?_
       refine SD.keep ?_ (SD.perm ?_ (HT b14 b15))
       · exact ⟨rfl, rfl, rfl, rfl, rfl, rfl, rfl, rfl, rfl, rfl, rfl, rfl, rfl, rfl, rfl, trivial⟩
       · exact (List.Perm.swap _ _ _)
    refine SD.tail (by kernel_rfl) (os := []) rfl ?_
    refine SL.keep (l' := [(15, _, _), (14, _, _), (1, _, _), (2, _, _)]) ⟨rfl, rfl, rfl, rfl, trivial⟩ ?_
    refine SL.nil (SE.calm (SE.thenK hK17 (SC.seq (fun K18 hK18 => SC.seq (fun K19 hK19 => SC.region ?_)))))
    refine SL.step (PS.move rfl tt rfl rfl) ?_
    refine SL.step (PS.eql rfl tt rfl tt rfl rfl) ?_
    refine SL.step (PS.move rfl tt rfl rfl) ?_
    refine SL.step (PS.fieldAddr rfl tt Try.fieldAt_65_1 rfl rfl) ?_
    refine SL.step (PS.load_own (k := 0) rfl (fun h => h) rfl rfl rfl Try.isAgg27 rfl rfl) ?_
    refine SL.step (PS.neq rfl (fun h => h) rfl tt rfl rfl) ?_
    refine SL.step (PS.pick_and rfl tt rfl (fun h h2 => pk_and h h2) rfl rfl) ?_
    refine SL.keep (l' := [(44, _, _), (15, _, _), (14, _, _), (1, _, _)]) ⟨rfl, rfl, rfl, rfl, trivial⟩ ?_
    refine SL.nil (SE.thenK hK19 ?_)
    refine SC.cond rfl (fun c44 => ?_) (fun c44 => ?_)
    ·
     refine SC.seq (fun K20 hK20 => SC.region ?_)
     refine SL.step (PS.assign rfl tt rfl rfl) ?_
     refine SL.step (PS.assign rfl tt rfl rfl) ?_
     refine SL.keep (l' := [(11, _, _), (10, _, _)]) ⟨rfl, rfl, trivial⟩ ?_
     refine SL.nil (SE.thenK hK20 (SC.ret (SE.then_ret ?_)))
     exact finV2 rfl rfl rfl (fun _ _ => congrArg (fun z : Int × Int => Value.tuple #[Value.int .u64 z.1, Value.int .i64 z.2]) (show (d_latheref01_right p0 p1 p2 p3 p4) = ((0, 1) : Int × Int) from ((bifF c22).trans ((bifF c27).trans (bifT c44)))).symm)
    ·
     have c44n := c44
     try simp only [Bool.and_eq_true, Bool.or_eq_true, decide_eq_true_eq, Bool.true_and, Bool.not_eq_true', Bool.not_eq_false', beq_iff_eq, bne_iff_ne, decide_eq_false_iff_not, beq_eq_false_iff_ne, bne_eq_false_iff_eq, ne_eq, Bool.or_eq_false_iff, Bool.and_eq_false_iff] at c44n
     refine SC.skip (SE.thenK hK18 (SC.seq (fun K21 hK21 => SC.seq (fun K22 hK22 => SC.region ?_))))
     refine SL.step (PS.fieldAddr rfl tt Try.fieldAt_65_2 rfl rfl) ?_
     refine SL.step (PS.load_own (k := 0) rfl tt rfl rfl rfl Try.isAgg4 rfl rfl) ?_
     refine SL.keep (l' := [(46, _, _), (14, _, _), (1, _, _)]) ⟨rfl, rfl, rfl, trivial⟩ ?_
     refine SL.nil (SE.thenK hK22 ?_)
     refine SC.cond rfl (fun c46 => ?_) (fun c46 => ?_)
     ·
      have c46n := c46
      try simp only [Bool.and_eq_true, Bool.or_eq_true, decide_eq_true_eq, Bool.true_and, Bool.not_eq_true', Bool.not_eq_false', beq_iff_eq, bne_iff_ne, decide_eq_false_iff_not, beq_eq_false_iff_ne, bne_eq_false_iff_eq, ne_eq, Bool.or_eq_false_iff, Bool.and_eq_false_iff] at c46n
      refine SC.region ?_
      refine SL.step (PS.load_own_agg (k := 1) (vs := [_, _, _]) rfl tt rfl rfl rfl rfl Try.isAgg65 Try.sizeOf65 rfl rfl) ?_
      refine SL.step (PS.build (us := [(1, _), (2, _)]) (vs := [_, _, _]) ⟨rfl, ⟨_, rfl, tt⟩, ⟨rfl, ⟨_, rfl, tt⟩, trivial⟩⟩ Try.underlying65 Try.zeroValue65 (Try.places_65 Try.underlying65) rfl rfl rfl) ?_
      refine SL.callV (vs := [_, _]) Try.call70 ⟨⟨_, rfl, tt⟩, ⟨_, rfl, tt⟩, trivial⟩ (fun hg => latheref01_Plus_W _ _ _ _ _ _ ) rfl rfl ?_
      refine SL.store_own (k := 1) (own' := [_, _, _]) (cs' := [_, _, _]) rfl rfl rfl rfl rfl rfl rfl Try.sizeOf65 rfl (Nat.le_of_ble_eq_true rfl) rfl rfl rfl rfl ?_
      refine SL.keep (l' := [(14, _, _), (1, _, _)]) ⟨rfl, rfl, trivial⟩ ?_
      refine SL.nil (SE.thenK hK21 (SC.seq (fun K23 hK23 => SC.region ?_)))
      refine SL.step (PS.move rfl tt rfl rfl) ?_
      refine SL.step (PS.load_own_agg (k := 1) (vs := [_, _, _]) rfl tt rfl rfl rfl rfl Try.isAgg65 Try.sizeOf65 rfl rfl) ?_
      refine SL.callV (vs := [_, _]) Try.call46 ⟨⟨_, rfl, tt⟩, ⟨_, rfl, tt⟩, trivial⟩ (fun hg => latheref01_Wrapped_W _ _ _ _ (by omega)) rfl rfl ?_
      refine SL.step (PS.assign rfl tt rfl rfl) ?_
      refine SL.step (PS.assign rfl tt rfl rfl) ?_
      refine SL.keep (l' := [(11, _, _), (10, _, _)]) ⟨rfl, rfl, trivial⟩ ?_
      refine SL.nil (SE.thenK hK23 (SC.ret ?_))
      exact finV2 rfl rfl rfl (fun _ _ => congrArg (fun z : Int × Int => Value.tuple #[Value.int .u64 z.1, Value.int .i64 z.2]) (show (d_latheref01_right p0 p1 p2 p3 p4) = (((d_latheref01_Wrapped p1 (d_latheref01_Plus ((d_latheref01_quotient (d_latheref01_Plain p1 p3) (d_latheref01_power (d_latheref01_Cut p1 p4))).1) (⟨0, 1, true⟩ : Bg))), 0) : Int × Int) from ((bifF c22).trans ((bifF c27).trans ((bifF c44).trans (bifT c46))))).symm)
     ·
      have c46n := c46
      try simp only [Bool.and_eq_true, Bool.or_eq_true, decide_eq_true_eq, Bool.true_and, Bool.not_eq_true', Bool.not_eq_false', beq_iff_eq, bne_iff_ne, decide_eq_false_iff_not, beq_eq_false_iff_ne, bne_eq_false_iff_eq, ne_eq, Bool.or_eq_false_iff, Bool.and_eq_false_iff] at c46n
      refine SC.skip (SE.thenK hK21 (SC.seq (fun K24 hK24 => SC.region ?_)))
      refine SL.step (PS.move rfl tt rfl rfl) ?_
      refine SL.step (PS.load_own_agg (k := 1) (vs := [_, _, _]) rfl tt rfl rfl rfl rfl Try.isAgg65 Try.sizeOf65 rfl rfl) ?_
      refine SL.callV (vs := [_, _]) Try.call46 ⟨⟨_, rfl, tt⟩, ⟨_, rfl, tt⟩, trivial⟩ (fun hg => latheref01_Wrapped_W _ _ _ _ (by omega)) rfl rfl ?_
      refine SL.step (PS.assign rfl tt rfl rfl) ?_
      refine SL.step (PS.assign rfl tt rfl rfl) ?_
      refine SL.keep (l' := [(11, _, _), (10, _, _)]) ⟨rfl, rfl, trivial⟩ ?_
      refine SL.nil (SE.thenK hK24 (SC.ret ?_))
      exact finV2 rfl rfl rfl (fun _ _ => congrArg (fun z : Int × Int => Value.tuple #[Value.int .u64 z.1, Value.int .i64 z.2]) (show (d_latheref01_right p0 p1 p2 p3 p4) = (((d_latheref01_Wrapped p1 ((d_latheref01_quotient (d_latheref01_Plain p1 p3) (d_latheref01_power (d_latheref01_Cut p1 p4))).1)), 0) : Int × Int) from ((bifF c22).trans ((bifF c27).trans ((bifF c44).trans (bifF c46))))).symm)
def d_latheref01_compared (p0 : Int) (p1 : Int) (p2 : Int) (p3 : Int) : Bool :=
  bif ((p0 == 18) || (p0 == 19)) then
   bif (p0 == 14) then
    (decide ((d_latheref01_Plus (d_latheref01_With p1 p2) (d_latheref01_Minus (d_latheref01_With p1 p3))) = (⟨0, 0, false⟩ : Bg)))
   else bif (p0 == 15) then
     (!(decide ((d_latheref01_Plus (d_latheref01_With p1 p2) (d_latheref01_Minus (d_latheref01_With p1 p3))) = (⟨0, 0, false⟩ : Bg))))
    else bif (p0 == 16) then
      (d_latheref01_Plus (d_latheref01_With p1 p2) (d_latheref01_Minus (d_latheref01_With p1 p3))).below
     else bif (p0 == 18) then
       (d_latheref01_Plus (d_latheref01_With p1 p2) (d_latheref01_Minus (d_latheref01_With p1 p3))).below
      else ((d_latheref01_Plus (d_latheref01_With p1 p2) (d_latheref01_Minus (d_latheref01_With p1 p3))).below || (decide ((d_latheref01_Plus (d_latheref01_With p1 p2) (d_latheref01_Minus (d_latheref01_With p1 p3))) = (⟨0, 0, false⟩ : Bg))))
  else bif (p0 == 14) then
    (decide ((d_latheref01_Plus (d_latheref01_Plain p1 p2) (d_latheref01_Minus (d_latheref01_Plain p1 p3))) = (⟨0, 0, false⟩ : Bg)))
   else bif (p0 == 15) then
     (!(decide ((d_latheref01_Plus (d_latheref01_Plain p1 p2) (d_latheref01_Minus (d_latheref01_Plain p1 p3))) = (⟨0, 0, false⟩ : Bg))))
    else bif (p0 == 16) then
      (d_latheref01_Plus (d_latheref01_Plain p1 p2) (d_latheref01_Minus (d_latheref01_Plain p1 p3))).below
     else bif (p0 == 18) then
       (d_latheref01_Plus (d_latheref01_Plain p1 p2) (d_latheref01_Minus (d_latheref01_Plain p1 p3))).below
      else ((d_latheref01_Plus (d_latheref01_Plain p1 p2) (d_latheref01_Minus (d_latheref01_Plain p1 p3))).below || (decide ((d_latheref01_Plus (d_latheref01_Plain p1 p2) (d_latheref01_Minus (d_latheref01_Plain p1 p3))) = (⟨0, 0, false⟩ : Bg))))
theorem latheref01_compared_V (p0 : Int) (p1 : Int) (p2 : Int) (p3 : Int) (hw : 1 ≤ p1 ∧ p1 ≤ 64) : SpecV Try.prog 62 [.int .i64 p0, .int .i64 p1, .int .u64 p2, .int .u64 p3] (Value.bool (d_latheref01_compared p0 p1 p2 p3)) := by
  refine SpecV.enter Try.func62 rfl (n := 56) Try.ntmps62 (Nat.le_of_ble_eq_true rfl) (l := [(0, _, _), (1, _, _), (2, _, _), (3, _, _)]) rfl ?_
  intro w
  refine SC.seq (fun K1 hK1 => SC.region ?_)
  refine SL.step (PS.assign rfl tt rfl rfl) ?_
  refine SL.keep (l' := [(0, _, _), (1, _, _), (2, _, _), (3, _, _)]) ⟨rfl, rfl, rfl, rfl, trivial⟩ ?_
  refine SL.nil (SE.thenK hK1 (SC.seq (fun K2 hK2 => SC.region ?_)))
  refine SL.step (PS.move rfl tt rfl rfl) ?_
  refine SL.step (PS.move rfl tt rfl rfl) ?_
  refine SL.callV (vs := [_, _]) Try.call66 ⟨⟨_, rfl, tt⟩, ⟨_, rfl, tt⟩, trivial⟩ (fun hg => latheref01_Plain_V p1 p2 (by omega)) rfl rfl ?_
  refine SL.alloc (cs := [_, _, _]) Try.zeroValue65 rfl rfl rfl (fun b9 => ?_)
  refine SL.store_own (k := 0) (own' := [_]) (cs' := [_, _, _]) rfl rfl rfl rfl rfl rfl rfl Try.sizeOf65 rfl (Nat.le_of_ble_eq_true rfl) rfl rfl rfl rfl ?_
  refine SL.keep (l' := [(9, _, _), (0, _, _), (1, _, _), (2, _, _), (3, _, _)]) ⟨rfl, rfl, rfl, rfl, rfl, trivial⟩ ?_
  refine SL.nil (SE.thenK hK2 (SC.seq (fun K3 hK3 => SC.region ?_)))
  refine SL.step (PS.move rfl tt rfl rfl) ?_
  refine SL.step (PS.move rfl tt rfl rfl) ?_
  refine SL.callV (vs := [_, _]) Try.call66 ⟨⟨_, rfl, tt⟩, ⟨_, rfl, tt⟩, trivial⟩ (fun hg => latheref01_Plain_V p1 p3 (by omega)) rfl rfl ?_
  refine SL.alloc (cs := [_, _, _]) Try.zeroValue65 rfl rfl rfl (fun b10 => ?_)
  refine SL.store_own (k := 0) (own' := [_, _]) (cs' := [_, _, _]) rfl rfl rfl rfl rfl rfl rfl Try.sizeOf65 rfl (Nat.le_of_ble_eq_true rfl) rfl rfl rfl rfl ?_
  refine SL.keep (l' := [(10, _, _), (9, _, _), (0, _, _), (1, _, _), (2, _, _), (3, _, _)]) ⟨rfl, rfl, rfl, rfl, rfl, rfl, trivial⟩ ?_
  refine SL.nil (SE.thenK hK3 (SC.seq (fun K4 hK4 => SC.seq (fun K5 hK5 => SC.region ?_))))
  refine SL.step (PS.move rfl tt rfl rfl) ?_
  refine SL.step (PS.eql rfl tt rfl tt rfl rfl) ?_
  refine SL.step (PS.move rfl tt rfl rfl) ?_
  refine SL.step (PS.move rfl tt rfl rfl) ?_
  refine SL.step (PS.eql rfl (fun h => h) rfl tt rfl rfl) ?_
  refine SL.step (PS.pick_or rfl tt rfl (fun h h2 => pk_or h h2) rfl rfl) ?_
  refine SL.keep (l' := [(24, _, _), (10, _, _), (9, _, _), (0, _, _), (1, _, _), (2, _, _), (3, _, _)]) ⟨rfl, rfl, rfl, rfl, rfl, rfl, rfl, trivial⟩ ?_
  refine SL.nil (SE.thenK hK5 ?_)
  refine SC.cond rfl (fun c24 => ?_) (fun c24 => ?_)
  ·
   have c24n := c24
   try simp only [Bool.and_eq_true, Bool.or_eq_true, decide_eq_true_eq, Bool.true_and, Bool.not_eq_true', Bool.not_eq_false', beq_iff_eq, bne_iff_ne, decide_eq_false_iff_not, beq_eq_false_iff_ne, bne_eq_false_iff_eq, ne_eq, Bool.or_eq_false_iff, Bool.and_eq_false_iff] at c24n
   refine SC.seq (fun K6 hK6 => SC.region ?_)
   refine SL.step (PS.move rfl tt rfl rfl) ?_
   refine SL.step (PS.move rfl tt rfl rfl) ?_
   refine SL.callV (vs := [_, _]) Try.call47 ⟨⟨_, rfl, tt⟩, ⟨_, rfl, tt⟩, trivial⟩ (fun hg => latheref01_With_V p1 p2 (by omega)) rfl rfl ?_
   refine SL.store_own (k := 1) (own' := [_, _]) (cs' := [_, _, _]) rfl rfl rfl rfl rfl rfl rfl Try.sizeOf65 rfl (Nat.le_of_ble_eq_true rfl) rfl rfl rfl rfl ?_
   refine SL.keep (l' := [(10, _, _), (9, _, _), (0, _, _), (1, _, _), (3, _, _)]) ⟨rfl, rfl, rfl, rfl, rfl, trivial⟩ ?_
   refine SL.nil (SE.thenK hK6 (SC.region ?_))
   refine SL.step (PS.move rfl tt rfl rfl) ?_
   refine SL.step (PS.move rfl tt rfl rfl) ?_
   refine SL.callV (vs := [_, _]) Try.call47 ⟨⟨_, rfl, tt⟩, ⟨_, rfl, tt⟩, trivial⟩ (fun hg => latheref01_With_V p1 p3 (by omega)) rfl rfl ?_
   refine SL.store_own (k := 0) (own' := [_, _]) (cs' := [_, _, _]) rfl rfl rfl rfl rfl rfl rfl Try.sizeOf65 rfl (Nat.le_of_ble_eq_true rfl) rfl rfl rfl rfl ?_
   refine SL.keep (l' := [(10, _, _), (9, _, _), (0, _, _)]) ⟨rfl, rfl, rfl, trivial⟩ ?_
   refine SL.nil (SE.thenK hK4 (SC.seq (fun K7 hK7 => ?_)))
   refine SC.draw (S := SP _ _ _) 5 (by kernel_rfl) (by kernel_rfl) (fun _ h => h) ?_
   refine SD.take 0 rfl rfl (by kernel_rfl) (PS.load_own_agg (k := 1) (vs := [_, _, _]) rfl tt rfl rfl rfl rfl Try.isAgg65 Try.sizeOf65 rfl rfl) ?_
   refine SD.take 1 rfl rfl (by kernel_rfl) (PS.load_own_agg (k := 0) (vs := [_, _, _]) rfl tt rfl rfl rfl rfl Try.isAgg65 Try.sizeOf65 rfl rfl) ?_
   refine SD.join1 (f' := 0) (listed' := (List.replicate 5 true ++ List.replicate 1 false).toArray) (L := ?L6_1) (O := ?O6_1) (G := ?G6_1) (fun HT => ?way6_1) (fun (b11 : Nat) => ?tail6_1)
   case way6_1 =>
    refine SD.two 2 4 rfl rfl (by kernel_rfl) (fun inv2 => ?_) (fun inv4 => ?_)
    ·
     refine SL.callV (vs := [_]) Try.call71 ⟨⟨_, rfl, tt⟩, trivial⟩ (fun hg => latheref01_Minus_W _ _ _ ) rfl rfl ?_
     refine SL.nil ?_
     refine SE.next (fun _ h => h.drop (List.Sublist.refl _) (fun _ h => h)) inv2 ?_
     refine SD.two 3 4 rfl rfl (by kernel_rfl) (fun inv3 => ?_) (fun inv4 => ?_)
     ·
      refine SL.callV (vs := [_, _]) Try.call70 ⟨⟨_, rfl, tt⟩, ⟨_, rfl, tt⟩, trivial⟩ (fun hg => latheref01_Plus_W _ _ _ _ _ _ ) rfl rfl ?_
      refine SL.nil ?_
      refine SE.next (fun _ h => h.drop (List.Sublist.refl _) (fun _ h => h)) inv3 ?_
      refine SD.one 4 rfl (by kernel_rfl) (fun inv4 => ?_)
      refine SL.alloc (cs := [_, _, _]) Try.zeroValue65 rfl rfl rfl (fun b11 => ?_)
      refine SL.nil ?_
      refine SE.next (fun _ h => h.drop (List.Sublist.cons _ (List.Sublist.refl _)) (fun _ h => h)) inv4 ?_
      refine SD.lst (listed' := (List.replicate 5 true ++ List.replicate 1 false).toArray) (by kernel_rfl) ?_
      exact (HT b11)
     ·
      refine SL.alloc (cs := [_, _, _]) Try.zeroValue65 rfl rfl rfl (fun b11 => ?_)
      refine SL.nil ?_
      refine SE.next (fun _ h => h.drop (List.Sublist.cons _ (List.Sublist.refl _)) (fun _ h => h)) inv4 ?_
      refine SD.one 3 rfl (by kernel_rfl) (fun inv3 => ?_)
      refine SL.callV (vs := [_, _]) Try.call70 ⟨⟨_, rfl, tt⟩, ⟨_, rfl, tt⟩, trivial⟩ (fun hg => latheref01_Plus_W _ _ _ _ _ _ ) rfl rfl ?_
      refine SL.nil ?_
      refine SE.next (fun _ h => h.drop (List.Sublist.cons _ (List.Sublist.refl _)) (fun _ h => h)) inv3 ?_
      refine SD.lst (listed' := (List.replicate 5 true ++ List.replicate 1 false).toArray) (by kernel_rfl) ?_
      refine SD.keep ?_ (SD.perm ?_ (HT b11))
      · exact ⟨rfl, rfl, rfl, rfl, rfl, rfl, rfl, rfl, trivial⟩
      · exact (List.Perm.refl _)
    ·
     refine SL.alloc (cs := [_, _, _]) Try.zeroValue65 rfl rfl rfl (fun b11 => ?_)
     refine SL.nil ?_
     refine SE.next (fun _ h => h.drop (List.Sublist.cons _ (List.Sublist.refl _)) (fun _ h => h)) inv4 ?_
     refine SD.one 2 rfl (by kernel_rfl) (fun inv2 => ?_)
     refine SL.callV (vs := [_]) Try.call71 ⟨⟨_, rfl, tt⟩, trivial⟩ (fun hg => latheref01_Minus_W _ _ _ ) rfl rfl ?_
     refine SL.nil ?_
     refine SE.next (fun _ h => h.drop (List.Sublist.cons _ (List.Sublist.refl _)) (fun _ h => h)) inv2 ?_
     refine SD.one 3 rfl (by kernel_rfl) (fun inv3 => ?_)
     refine SL.callV (vs := [_, _]) Try.call70 ⟨⟨_, rfl, tt⟩, ⟨_, rfl, tt⟩, trivial⟩ (fun hg => latheref01_Plus_W _ _ _ _ _ _ ) rfl rfl ?_
     refine SL.nil ?_
     refine SE.next (fun _ h => h.drop (List.Sublist.cons _ (List.Sublist.refl _)) (fun _ h => h)) inv3 ?_
     refine SD.lst (listed' := (List.replicate 5 true ++ List.replicate 1 false).toArray) (by kernel_rfl) ?_
     refine SD.keep ?_ (SD.perm ?_ (HT b11))
     · exact ⟨rfl, rfl, rfl, rfl, rfl, rfl, rfl, rfl, trivial⟩
     · exact (List.Perm.refl _)
   refine SD.tail (by kernel_rfl) (os := [_]) rfl ?_
   refine SL.store_own (k := 0) (own' := [_, _, _]) (cs' := [_, _, _]) rfl rfl rfl rfl rfl rfl rfl Try.sizeOf65 rfl (Nat.le_of_ble_eq_true rfl) rfl rfl rfl rfl ?_
   refine SL.keep (l' := [(11, _, _), (0, _, _)]) ⟨rfl, rfl, trivial⟩ ?_
   refine SL.nil (SE.calm (SE.thenK hK7 (SC.seq (fun K8 hK8 => SC.region ?_))))
   refine SL.step (PS.load_own_agg (k := 0) (vs := [_, _, _]) rfl tt rfl rfl rfl rfl Try.isAgg65 Try.sizeOf65 rfl rfl) ?_
   refine SL.step (PS.build (us := []) (vs := [_, _, _]) trivial Try.underlying65 Try.zeroValue65 (Try.places_65 Try.underlying65) rfl rfl rfl) ?_
   refine SL.step (PS.eqlA (u := .agg [.int .u64 ((d_latheref01_Plus (d_latheref01_With p1 p2) (d_latheref01_Minus (d_latheref01_With p1 p3))).hi), .int .u64 ((d_latheref01_Plus (d_latheref01_With p1 p2) (d_latheref01_Minus (d_latheref01_With p1 p3))).lo), .bool ((d_latheref01_Plus (d_latheref01_With p1 p2) (d_latheref01_Minus (d_latheref01_With p1 p3))).below)].toArray) (v := .agg [.int .u64 0, .int .u64 0, .bool false].toArray) rfl tt rfl tt (fun x y w => Bg_eql x y (d_latheref01_Plus (d_latheref01_With p1 p2) (d_latheref01_Minus (d_latheref01_With p1 p3))) (⟨0, 0, false⟩ : Bg) w) rfl rfl) ?_
   refine SL.step (PS.assign rfl tt rfl rfl) ?_
   refine SL.keep (l' := [(12, _, _), (11, _, _), (0, _, _)]) ⟨rfl, rfl, rfl, trivial⟩ ?_
   refine SL.nil (SE.thenK hK8 (SC.seq (fun K9 hK9 => SC.seq (fun K10 hK10 => SC.region ?_))))
   refine SL.step (PS.move rfl tt rfl rfl) ?_
   refine SL.keep (l' := [(38, _, _), (12, _, _), (11, _, _)]) ⟨rfl, rfl, rfl, trivial⟩ ?_
   refine SL.nil (SE.thenK hK10 (SC.block (SC.seq (fun K11 hK11 => SC.region ?_))))
   refine SL.step (PS.eql rfl tt rfl tt rfl rfl) ?_
   refine SL.step (PS.assign rfl tt rfl rfl) ?_
   refine SL.keep (l' := [(39, _, _), (38, _, _), (12, _, _), (11, _, _)]) ⟨rfl, rfl, rfl, rfl, trivial⟩ ?_
   refine SL.nil (SE.thenK hK11 ?_)
   refine SC.cond rfl (fun c39 => ?_) (fun c39 => ?_)
   ·
    refine SC.seq (fun K12 hK12 => SC.region ?_)
    refine SL.step (PS.move rfl tt rfl rfl) ?_
    refine SL.step (PS.assign rfl tt rfl rfl) ?_
    refine SL.keep (l' := [(8, _, _)]) ⟨rfl, trivial⟩ ?_
    refine SL.nil (SE.thenK hK12 (SC.ret (SE.block_ret (SE.then_ret ?_))))
    exact finV1 rfl rfl (fun _ _ => congrArg (fun z : Bool => Value.bool z) (show (d_latheref01_compared p0 p1 p2 p3) = ((decide ((d_latheref01_Plus (d_latheref01_With p1 p2) (d_latheref01_Minus (d_latheref01_With p1 p3))) = (⟨0, 0, false⟩ : Bg))) : Bool) from ((bifT c24).trans (bifT c39))).symm)
   ·
    refine SC.seq (fun K13 hK13 => SC.region ?_)
    refine SL.step (PS.eql rfl tt rfl tt rfl rfl) ?_
    refine SL.step (PS.assign rfl tt rfl rfl) ?_
    refine SL.keep (l' := [(42, _, _), (38, _, _), (12, _, _), (11, _, _)]) ⟨rfl, rfl, rfl, rfl, trivial⟩ ?_
    refine SL.nil (SE.thenK hK13 ?_)
    refine SC.cond rfl (fun c42 => ?_) (fun c42 => ?_)
    ·
     refine SC.seq (fun K14 hK14 => SC.region ?_)
     refine SL.step (PS.move rfl tt rfl rfl) ?_
     refine SL.step (PS.not rfl tt rfl rfl) ?_
     refine SL.step (PS.assign rfl tt rfl rfl) ?_
     refine SL.keep (l' := [(8, _, _)]) ⟨rfl, trivial⟩ ?_
     refine SL.nil (SE.thenK hK14 (SC.ret (SE.block_ret (SE.then_ret ?_))))
     exact finV1 rfl rfl (fun _ _ => congrArg (fun z : Bool => Value.bool z) (show (d_latheref01_compared p0 p1 p2 p3) = ((!(decide ((d_latheref01_Plus (d_latheref01_With p1 p2) (d_latheref01_Minus (d_latheref01_With p1 p3))) = (⟨0, 0, false⟩ : Bg)))) : Bool) from ((bifT c24).trans ((bifF c39).trans (bifT c42)))).symm)
    ·
     refine SC.seq (fun K15 hK15 => SC.seq (fun K16 hK16 => SC.region ?_))
     refine SL.step (PS.eql rfl tt rfl tt rfl rfl) ?_
     refine SL.step (PS.assign rfl tt rfl rfl) ?_
     refine SL.keep (l' := [(46, _, _), (38, _, _), (12, _, _), (11, _, _)]) ⟨rfl, rfl, rfl, rfl, trivial⟩ ?_
     refine SL.nil (SE.thenK hK16 ?_)
     refine SC.cond rfl (fun c46 => ?_) (fun c46 => ?_)
     ·
      refine SC.skip (SE.thenK hK15 (SC.cond_t rfl c46 (SC.seq (fun K17 hK17 => SC.region ?_))))
      refine SL.step (PS.fieldAddr rfl tt Try.fieldAt_65_2 rfl rfl) ?_
      refine SL.step (PS.load_own (k := 0) rfl tt rfl rfl rfl Try.isAgg4 rfl rfl) ?_
      refine SL.step (PS.assign rfl tt rfl rfl) ?_
      refine SL.keep (l' := [(8, _, _)]) ⟨rfl, trivial⟩ ?_
      refine SL.nil (SE.thenK hK17 (SC.ret (SE.block_ret (SE.then_ret ?_))))
      exact finV1 rfl rfl (fun _ _ => congrArg (fun z : Bool => Value.bool z) (show (d_latheref01_compared p0 p1 p2 p3) = ((d_latheref01_Plus (d_latheref01_With p1 p2) (d_latheref01_Minus (d_latheref01_With p1 p3))).below : Bool) from ((bifT c24).trans ((bifF c39).trans ((bifF c42).trans (bifT c46))))).symm)
     ·
      refine SC.region ?_
      refine SL.step (PS.eql rfl tt rfl tt rfl rfl) ?_
      refine SL.step (PS.assign rfl tt rfl rfl) ?_
      refine SL.keep (l' := [(46, _, _), (12, _, _), (11, _, _)]) ⟨rfl, rfl, rfl, trivial⟩ ?_
      refine SL.nil (SE.thenK hK15 ?_)
      refine SC.cond rfl (fun c46a => ?_) (fun c46a => ?_)
      ·
       refine SC.seq (fun K18 hK18 => SC.region ?_)
       refine SL.step (PS.fieldAddr rfl tt Try.fieldAt_65_2 rfl rfl) ?_
       refine SL.step (PS.load_own (k := 0) rfl tt rfl rfl rfl Try.isAgg4 rfl rfl) ?_
       refine SL.step (PS.assign rfl tt rfl rfl) ?_
       refine SL.keep (l' := [(8, _, _)]) ⟨rfl, trivial⟩ ?_
       refine SL.nil (SE.thenK hK18 (SC.ret (SE.block_ret (SE.then_ret ?_))))
       exact finV1 rfl rfl (fun _ _ => congrArg (fun z : Bool => Value.bool z) (show (d_latheref01_compared p0 p1 p2 p3) = ((d_latheref01_Plus (d_latheref01_With p1 p2) (d_latheref01_Minus (d_latheref01_With p1 p3))).below : Bool) from ((bifT c24).trans ((bifF c39).trans ((bifF c42).trans ((bifF c46).trans (bifT c46a)))))).symm)
      ·
       refine SC.skip (SE.block_normal (SE.thenK hK9 (SC.seq (fun K19 hK19 => SC.region ?_))))
       refine SL.step (PS.fieldAddr rfl tt Try.fieldAt_65_2 rfl rfl) ?_
       refine SL.step (PS.load_own (k := 0) rfl tt rfl rfl rfl Try.isAgg4 rfl rfl) ?_
       refine SL.step (PS.move rfl tt rfl rfl) ?_
       refine SL.step (PS.move rfl tt rfl rfl) ?_
       refine SL.step (PS.pick_or rfl tt rfl (fun h h2 => pk_or h h2) rfl rfl) ?_
       refine SL.step (PS.assign rfl tt rfl rfl) ?_
       refine SL.keep (l' := [(8, _, _)]) ⟨rfl, trivial⟩ ?_
       refine SL.nil (SE.thenK hK19 (SC.ret ?_))
       exact finV1 rfl rfl (fun _ _ => congrArg (fun z : Bool => Value.bool z) (show (d_latheref01_compared p0 p1 p2 p3) = (((d_latheref01_Plus (d_latheref01_With p1 p2) (d_latheref01_Minus (d_latheref01_With p1 p3))).below || (decide ((d_latheref01_Plus (d_latheref01_With p1 p2) (d_latheref01_Minus (d_latheref01_With p1 p3))) = (⟨0, 0, false⟩ : Bg)))) : Bool) from ((bifT c24).trans ((bifF c39).trans ((bifF c42).trans ((bifF c46).trans (bifF c46a)))))).symm)
  ·
   refine SC.skip (SE.thenK hK4 (SC.seq (fun K20 hK20 => ?_)))
   refine SC.draw (S := SP _ _ _) 5 (by kernel_rfl) (by kernel_rfl) (fun _ h => h) ?_
   refine SD.take 0 rfl rfl (by kernel_rfl) (PS.load_own_agg (k := 1) (vs := [_, _, _]) rfl tt rfl rfl rfl rfl Try.isAgg65 Try.sizeOf65 rfl rfl) ?_
   refine SD.take 1 rfl rfl (by kernel_rfl) (PS.load_own_agg (k := 0) (vs := [_, _, _]) rfl tt rfl rfl rfl rfl Try.isAgg65 Try.sizeOf65 rfl rfl) ?_
   refine SD.join1 (f' := 0) (listed' := (List.replicate 5 true ++ List.replicate 1 false).toArray) (L := ?L6_2) (O := ?O6_2) (G := ?G6_2) (fun HT => ?way6_2) (fun (b11 : Nat) => ?tail6_2)
   case way6_2 =>
    refine SD.two 2 4 rfl rfl (by kernel_rfl) (fun inv2 => ?_) (fun inv4 => ?_)
    ·
     refine SL.callV (vs := [_]) Try.call71 ⟨⟨_, rfl, tt⟩, trivial⟩ (fun hg => latheref01_Minus_W _ _ _ ) rfl rfl ?_
     refine SL.nil ?_
     refine SE.next (fun _ h => h.drop (List.Sublist.refl _) (fun _ h => h)) inv2 ?_
     refine SD.two 3 4 rfl rfl (by kernel_rfl) (fun inv3 => ?_) (fun inv4 => ?_)
     ·
      refine SL.callV (vs := [_, _]) Try.call70 ⟨⟨_, rfl, tt⟩, ⟨_, rfl, tt⟩, trivial⟩ (fun hg => latheref01_Plus_W _ _ _ _ _ _ ) rfl rfl ?_
      refine SL.nil ?_
      refine SE.next (fun _ h => h.drop (List.Sublist.refl _) (fun _ h => h)) inv3 ?_
      refine SD.one 4 rfl (by kernel_rfl) (fun inv4 => ?_)
      refine SL.alloc (cs := [_, _, _]) Try.zeroValue65 rfl rfl rfl (fun b11 => ?_)
      refine SL.nil ?_
      refine SE.next (fun _ h => h.drop (List.Sublist.cons _ (List.Sublist.refl _)) (fun _ h => h)) inv4 ?_
      refine SD.lst (listed' := (List.replicate 5 true ++ List.replicate 1 false).toArray) (by kernel_rfl) ?_
      exact (HT b11)
     ·
      refine SL.alloc (cs := [_, _, _]) Try.zeroValue65 rfl rfl rfl (fun b11 => ?_)
      refine SL.nil ?_
      refine SE.next (fun _ h => h.drop (List.Sublist.cons _ (List.Sublist.refl _)) (fun _ h => h)) inv4 ?_
      refine SD.one 3 rfl (by kernel_rfl) (fun inv3 => ?_)
      refine SL.callV (vs := [_, _]) Try.call70 ⟨⟨_, rfl, tt⟩, ⟨_, rfl, tt⟩, trivial⟩ (fun hg => latheref01_Plus_W _ _ _ _ _ _ ) rfl rfl ?_
      refine SL.nil ?_
      refine SE.next (fun _ h => h.drop (List.Sublist.cons _ (List.Sublist.refl _)) (fun _ h => h)) inv3 ?_
      refine SD.lst (listed' := (List.replicate 5 true ++ List.replicate 1 false).toArray) (by kernel_rfl) ?_
      refine SD.keep ?_ (SD.perm ?_ (HT b11))
      · exact ⟨rfl, rfl, rfl, rfl, rfl, rfl, rfl, rfl, rfl, rfl, rfl, rfl, trivial⟩
      · exact (List.Perm.refl _)
    ·
     refine SL.alloc (cs := [_, _, _]) Try.zeroValue65 rfl rfl rfl (fun b11 => ?_)
     refine SL.nil ?_
     refine SE.next (fun _ h => h.drop (List.Sublist.cons _ (List.Sublist.refl _)) (fun _ h => h)) inv4 ?_
     refine SD.one 2 rfl (by kernel_rfl) (fun inv2 => ?_)
     refine SL.callV (vs := [_]) Try.call71 ⟨⟨_, rfl, tt⟩, trivial⟩ (fun hg => latheref01_Minus_W _ _ _ ) rfl rfl ?_
     refine SL.nil ?_
     refine SE.next (fun _ h => h.drop (List.Sublist.cons _ (List.Sublist.refl _)) (fun _ h => h)) inv2 ?_
     refine SD.one 3 rfl (by kernel_rfl) (fun inv3 => ?_)
     refine SL.callV (vs := [_, _]) Try.call70 ⟨⟨_, rfl, tt⟩, ⟨_, rfl, tt⟩, trivial⟩ (fun hg => latheref01_Plus_W _ _ _ _ _ _ ) rfl rfl ?_
     refine SL.nil ?_
     refine SE.next (fun _ h => h.drop (List.Sublist.cons _ (List.Sublist.refl _)) (fun _ h => h)) inv3 ?_
     refine SD.lst (listed' := (List.replicate 5 true ++ List.replicate 1 false).toArray) (by kernel_rfl) ?_
     refine SD.keep ?_ (SD.perm ?_ (HT b11))
     · exact ⟨rfl, rfl, rfl, rfl, rfl, rfl, rfl, rfl, rfl, rfl, rfl, rfl, trivial⟩
     · exact (List.Perm.refl _)
   refine SD.tail (by kernel_rfl) (os := [_]) rfl ?_
   refine SL.store_own (k := 0) (own' := [_, _, _]) (cs' := [_, _, _]) rfl rfl rfl rfl rfl rfl rfl Try.sizeOf65 rfl (Nat.le_of_ble_eq_true rfl) rfl rfl rfl rfl ?_
   refine SL.keep (l' := [(11, _, _), (0, _, _)]) ⟨rfl, rfl, trivial⟩ ?_
   refine SL.nil (SE.calm (SE.thenK hK20 (SC.seq (fun K21 hK21 => SC.region ?_))))
   refine SL.step (PS.load_own_agg (k := 0) (vs := [_, _, _]) rfl tt rfl rfl rfl rfl Try.isAgg65 Try.sizeOf65 rfl rfl) ?_
   refine SL.step (PS.build (us := []) (vs := [_, _, _]) trivial Try.underlying65 Try.zeroValue65 (Try.places_65 Try.underlying65) rfl rfl rfl) ?_
   refine SL.step (PS.eqlA (u := .agg [.int .u64 ((d_latheref01_Plus (d_latheref01_Plain p1 p2) (d_latheref01_Minus (d_latheref01_Plain p1 p3))).hi), .int .u64 ((d_latheref01_Plus (d_latheref01_Plain p1 p2) (d_latheref01_Minus (d_latheref01_Plain p1 p3))).lo), .bool ((d_latheref01_Plus (d_latheref01_Plain p1 p2) (d_latheref01_Minus (d_latheref01_Plain p1 p3))).below)].toArray) (v := .agg [.int .u64 0, .int .u64 0, .bool false].toArray) rfl tt rfl tt (fun x y w => Bg_eql x y (d_latheref01_Plus (d_latheref01_Plain p1 p2) (d_latheref01_Minus (d_latheref01_Plain p1 p3))) (⟨0, 0, false⟩ : Bg) w) rfl rfl) ?_
   refine SL.step (PS.assign rfl tt rfl rfl) ?_
   refine SL.keep (l' := [(12, _, _), (11, _, _), (0, _, _)]) ⟨rfl, rfl, rfl, trivial⟩ ?_
   refine SL.nil (SE.thenK hK21 (SC.seq (fun K22 hK22 => SC.seq (fun K23 hK23 => SC.region ?_))))
   refine SL.step (PS.move rfl tt rfl rfl) ?_
   refine SL.keep (l' := [(38, _, _), (12, _, _), (11, _, _)]) ⟨rfl, rfl, rfl, trivial⟩ ?_
   refine SL.nil (SE.thenK hK23 (SC.block (SC.seq (fun K24 hK24 => SC.region ?_))))
   refine SL.step (PS.eql rfl tt rfl tt rfl rfl) ?_
   refine SL.step (PS.assign rfl tt rfl rfl) ?_
   refine SL.keep (l' := [(39, _, _), (38, _, _), (12, _, _), (11, _, _)]) ⟨rfl, rfl, rfl, rfl, trivial⟩ ?_
   refine SL.nil (SE.thenK hK24 ?_)
   refine SC.cond rfl (fun c39 => ?_) (fun c39 => ?_)
   ·
    refine SC.seq (fun K25 hK25 => SC.region ?_)
    refine SL.step (PS.move rfl tt rfl rfl) ?_
    refine SL.step (PS.assign rfl tt rfl rfl) ?_
    refine SL.keep (l' := [(8, _, _)]) ⟨rfl, trivial⟩ ?_
    refine SL.nil (SE.thenK hK25 (SC.ret (SE.block_ret (SE.then_ret ?_))))
    exact finV1 rfl rfl (fun _ _ => congrArg (fun z : Bool => Value.bool z) (show (d_latheref01_compared p0 p1 p2 p3) = ((decide ((d_latheref01_Plus (d_latheref01_Plain p1 p2) (d_latheref01_Minus (d_latheref01_Plain p1 p3))) = (⟨0, 0, false⟩ : Bg))) : Bool) from ((bifF c24).trans (bifT c39))).symm)
   ·
    refine SC.seq (fun K26 hK26 => SC.region ?_)
    refine SL.step (PS.eql rfl tt rfl tt rfl rfl) ?_
    refine SL.step (PS.assign rfl tt rfl rfl) ?_
    refine SL.keep (l' := [(42, _, _), (38, _, _), (12, _, _), (11, _, _)]) ⟨rfl, rfl, rfl, rfl, trivial⟩ ?_
    refine SL.nil (SE.thenK hK26 ?_)
    refine SC.cond rfl (fun c42 => ?_) (fun c42 => ?_)
    ·
     refine SC.seq (fun K27 hK27 => SC.region ?_)
     refine SL.step (PS.move rfl tt rfl rfl) ?_
     refine SL.step (PS.not rfl tt rfl rfl) ?_
     refine SL.step (PS.assign rfl tt rfl rfl) ?_
     refine SL.keep (l' := [(8, _, _)]) ⟨rfl, trivial⟩ ?_
     refine SL.nil (SE.thenK hK27 (SC.ret (SE.block_ret (SE.then_ret ?_))))
     exact finV1 rfl rfl (fun _ _ => congrArg (fun z : Bool => Value.bool z) (show (d_latheref01_compared p0 p1 p2 p3) = ((!(decide ((d_latheref01_Plus (d_latheref01_Plain p1 p2) (d_latheref01_Minus (d_latheref01_Plain p1 p3))) = (⟨0, 0, false⟩ : Bg)))) : Bool) from ((bifF c24).trans ((bifF c39).trans (bifT c42)))).symm)
    ·
     refine SC.seq (fun K28 hK28 => SC.seq (fun K29 hK29 => SC.region ?_))
     refine SL.step (PS.eql rfl tt rfl tt rfl rfl) ?_
     refine SL.step (PS.assign rfl tt rfl rfl) ?_
     refine SL.keep (l' := [(46, _, _), (38, _, _), (12, _, _), (11, _, _)]) ⟨rfl, rfl, rfl, rfl, trivial⟩ ?_
     refine SL.nil (SE.thenK hK29 ?_)
     refine SC.cond rfl (fun c46 => ?_) (fun c46 => ?_)
     ·
      refine SC.skip (SE.thenK hK28 (SC.cond_t rfl c46 (SC.seq (fun K30 hK30 => SC.region ?_))))
      refine SL.step (PS.fieldAddr rfl tt Try.fieldAt_65_2 rfl rfl) ?_
      refine SL.step (PS.load_own (k := 0) rfl tt rfl rfl rfl Try.isAgg4 rfl rfl) ?_
      refine SL.step (PS.assign rfl tt rfl rfl) ?_
      refine SL.keep (l' := [(8, _, _)]) ⟨rfl, trivial⟩ ?_
      refine SL.nil (SE.thenK hK30 (SC.ret (SE.block_ret (SE.then_ret ?_))))
      exact finV1 rfl rfl (fun _ _ => congrArg (fun z : Bool => Value.bool z) (show (d_latheref01_compared p0 p1 p2 p3) = ((d_latheref01_Plus (d_latheref01_Plain p1 p2) (d_latheref01_Minus (d_latheref01_Plain p1 p3))).below : Bool) from ((bifF c24).trans ((bifF c39).trans ((bifF c42).trans (bifT c46))))).symm)
     ·
      refine SC.region ?_
      refine SL.step (PS.eql rfl tt rfl tt rfl rfl) ?_
      refine SL.step (PS.assign rfl tt rfl rfl) ?_
      refine SL.keep (l' := [(46, _, _), (12, _, _), (11, _, _)]) ⟨rfl, rfl, rfl, trivial⟩ ?_
      refine SL.nil (SE.thenK hK28 ?_)
      refine SC.cond rfl (fun c46a => ?_) (fun c46a => ?_)
      ·
       refine SC.seq (fun K31 hK31 => SC.region ?_)
       refine SL.step (PS.fieldAddr rfl tt Try.fieldAt_65_2 rfl rfl) ?_
       refine SL.step (PS.load_own (k := 0) rfl tt rfl rfl rfl Try.isAgg4 rfl rfl) ?_
       refine SL.step (PS.assign rfl tt rfl rfl) ?_
       refine SL.keep (l' := [(8, _, _)]) ⟨rfl, trivial⟩ ?_
       refine SL.nil (SE.thenK hK31 (SC.ret (SE.block_ret (SE.then_ret ?_))))
       exact finV1 rfl rfl (fun _ _ => congrArg (fun z : Bool => Value.bool z) (show (d_latheref01_compared p0 p1 p2 p3) = ((d_latheref01_Plus (d_latheref01_Plain p1 p2) (d_latheref01_Minus (d_latheref01_Plain p1 p3))).below : Bool) from ((bifF c24).trans ((bifF c39).trans ((bifF c42).trans ((bifF c46).trans (bifT c46a)))))).symm)
      ·
       refine SC.skip (SE.block_normal (SE.thenK hK22 (SC.seq (fun K32 hK32 => SC.region ?_))))
       refine SL.step (PS.fieldAddr rfl tt Try.fieldAt_65_2 rfl rfl) ?_
       refine SL.step (PS.load_own (k := 0) rfl tt rfl rfl rfl Try.isAgg4 rfl rfl) ?_
       refine SL.step (PS.move rfl tt rfl rfl) ?_
       refine SL.step (PS.move rfl tt rfl rfl) ?_
       refine SL.step (PS.pick_or rfl tt rfl (fun h h2 => pk_or h h2) rfl rfl) ?_
       refine SL.step (PS.assign rfl tt rfl rfl) ?_
       refine SL.keep (l' := [(8, _, _)]) ⟨rfl, trivial⟩ ?_
       refine SL.nil (SE.thenK hK32 (SC.ret ?_))
       exact finV1 rfl rfl (fun _ _ => congrArg (fun z : Bool => Value.bool z) (show (d_latheref01_compared p0 p1 p2 p3) = (((d_latheref01_Plus (d_latheref01_Plain p1 p2) (d_latheref01_Minus (d_latheref01_Plain p1 p3))).below || (decide ((d_latheref01_Plus (d_latheref01_Plain p1 p2) (d_latheref01_Minus (d_latheref01_Plain p1 p3))) = (⟨0, 0, false⟩ : Bg)))) : Bool) from ((bifF c24).trans ((bifF c39).trans ((bifF c42).trans ((bifF c46).trans (bifF c46a)))))).symm)
end Go.Proofs.Ytffimfmicapaaaa
