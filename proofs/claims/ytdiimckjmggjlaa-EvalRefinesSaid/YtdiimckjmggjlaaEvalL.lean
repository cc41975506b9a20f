/- Contracts of the law's own helpers. -/
import Derived.Test.YtdiimckjmggjlaaEvalC
import Derived.Test.YtdiimckjmggjlaaPlG
namespace Go.Proofs.Ytdiimckjmggjlaa
open Go.RowKit
set_option linter.unusedVariables false
set_option linter.unusedSimpArgs false
set_option maxRecDepth 100000
set_option maxHeartbeats 4000000
open Pl (Vl)
/-- The number of a value is one of 64 bits. -/
def Bd (x : Vl) : Prop := Pl.Rg x.b
theorem bnd1 {a : Vl} (ha : Bd a) : ∀ x ∈ [a], 0 ≤ x.b ∧ x.b < 18446744073709551616 := fun x hx => by simp at hx; subst hx; exact ha
theorem bnd2 {a b : Vl} (ha : Bd a) (hb : Bd b) : ∀ x ∈ [a, b], 0 ≤ x.b ∧ x.b < 18446744073709551616 := fun x hx => by
  simp at hx; rcases hx with rfl | rfl
  · exact ha
  · exact hb
theorem bnd3 {a b c : Vl} (ha : Bd a) (hb : Bd b) (hc : Bd c) : ∀ x ∈ [a, b, c], 0 ≤ x.b ∧ x.b < 18446744073709551616 := fun x hx => by
  simp at hx; rcases hx with rfl | rfl | rfl
  · exact ha
  · exact hb
  · exact hc
theorem out_ex {v : Value} {q : Vl × Int} (h : v = outV q) : ∃ p, p = q ∧ v = outV p := ⟨q, rfl, h⟩
theorem f0 : -9223372036854775808 ≤ (0 : Int) ∧ (0 : Int) ≤ 9223372036854775807 := by decide
theorem lives_V : SpecV Try.prog 8 [] (.bool true) := by
  refine SpecV.enter Try.func8 rfl (n := 32) Try.ntmps8 (Nat.le_of_ble_eq_true rfl) (l := []) rfl ?_
  intro w
  refine SC.seq (fun K1 hK1 => ?_)
  refine SC.region ?_
  refine SL.step (PS.assign rfl (fun _ => rfl) rfl rfl) ?_
  refine SL.keep (l' := []) trivial ?_
  refine SL.nil ?_
  refine SE.thenK hK1 ?_
  refine SC.seq (fun K2 hK2 => ?_)
  refine SC.region ?_
  refine SL.step (PS.build (us := [(0, _), (2, _)]) (vs := [_, _, _, _, _, _, _]) ⟨rfl, ⟨_, rfl, (fun _ => rfl)⟩, ⟨rfl, ⟨_, rfl, (fun _ => rfl)⟩, trivial⟩⟩ Try.underlying25 Try.zeroValue25 (Try.places_25 Try.underlying25) rfl rfl rfl) ?_
  refine SL.step (PS.build (us := [(0, _), (1, _)]) (vs := [_, _, _, _]) ⟨rfl, ⟨_, rfl, (fun _ => rfl)⟩, ⟨rfl, ⟨_, rfl, (fun _ => rfl)⟩, trivial⟩⟩ Try.underlying30 Try.zeroValue30 (Try.places_30 Try.underlying30) rfl rfl rfl) ?_
  refine SL.step (PS.build (us := [(0, _), (1, _)]) (vs := [_, _, _, _]) ⟨rfl, ⟨_, rfl, (fun _ => rfl)⟩, ⟨rfl, ⟨_, rfl, (fun _ => rfl)⟩, trivial⟩⟩ Try.underlying30 Try.zeroValue30 (Try.places_30 Try.underlying30) rfl rfl rfl) ?_
  refine SL.buildSlice (us := [(0, _), (1, _)]) (cs := [_, _, _, _, _, _, _, _]) ⟨rfl, ⟨_, rfl, (fun _ => rfl)⟩, ⟨rfl, ⟨_, rfl, (fun _ => rfl)⟩, trivial⟩⟩ Try.underlying26 Try.sizeOf30 Try.zeroValue30 ⟨rfl, rfl, _, rfl, ⟨rfl, rfl, _, rfl, trivial⟩⟩ rfl (by decide) rfl rfl (fun b9 => ?_)
  refine SL.callQ (vs := [_, _]) Try.call9 ⟨⟨_, rfl, (fun _ => rfl)⟩, ⟨_, rfl, (fun _ => rfl)⟩, trivial⟩ (fun hg => Eval_S ⟨_, _, _, _, _, (_, _, _), (_, _, _)⟩ _ _ [⟨1, 200, 0, 0⟩, ⟨1, 100, 0, 0⟩] (bnd2 (by unfold Bd Pl.Rg; decide) (by unfold Bd Pl.Rg; decide)) f0) (fun w h hok _ => Sl.of_blk cells_len rfl (own_get hok (k := 0) rfl)) rfl rfl (fun vt10 hvt10 => ?_)
  obtain ⟨pt10, hpt10, rfl⟩ := out_ex (hvt10 rfl)
  clear hvt10
  simp only at hpt10
  refine SL.step (PS.move rfl (fun _ => rfl) rfl rfl) ?_
  refine SL.step (PS.extract rfl (fun _ => rfl) rfl rfl rfl) ?_
  refine SL.step (PS.extract rfl (fun _ => rfl) rfl rfl rfl) ?_
  refine SL.alloc (cs := [_, _, _, _]) Try.zeroValue30 rfl rfl rfl (fun b1 => ?_)
  first | refine SL.store_own (k := 0) (own' := [_, _]) (cs' := [_, _, _, _]) rfl rfl rfl rfl rfl rfl rfl Try.sizeOf30 rfl (Nat.le_of_ble_eq_true rfl) rfl rfl rfl rfl ?_ | refine SL.store_own (k := 1) (own' := [_, _]) (cs' := [_, _, _, _, _, _, _, _]) rfl rfl rfl rfl rfl rfl rfl Try.sizeOf30 rfl (Nat.le_of_ble_eq_true rfl) rfl rfl rfl rfl ?_
  refine SL.step (PS.assign rfl (fun _ => rfl) rfl rfl) ?_
  refine SL.keep (l' := [(2, _, _), (1, _, _)]) ⟨rfl, rfl, trivial⟩ ?_
  refine SL.nil ?_
  refine SE.thenK hK2 ?_
  refine SC.seq (fun K3 hK3 => ?_)
  refine SC.region ?_
  refine SL.step (PS.build (us := [(0, _), (2, _)]) (vs := [_, _, _, _, _, _, _]) ⟨rfl, ⟨_, rfl, (fun _ => rfl)⟩, ⟨rfl, ⟨_, rfl, (fun _ => rfl)⟩, trivial⟩⟩ Try.underlying25 Try.zeroValue25 (Try.places_25 Try.underlying25) rfl rfl rfl) ?_
  refine SL.step (PS.build (us := [(0, _), (1, _)]) (vs := [_, _, _, _]) ⟨rfl, ⟨_, rfl, (fun _ => rfl)⟩, ⟨rfl, ⟨_, rfl, (fun _ => rfl)⟩, trivial⟩⟩ Try.underlying30 Try.zeroValue30 (Try.places_30 Try.underlying30) rfl rfl rfl) ?_
  refine SL.step (PS.build (us := []) (vs := [_, _, _, _]) trivial Try.underlying30 Try.zeroValue30 (Try.places_30 Try.underlying30) rfl rfl rfl) ?_
  refine SL.buildSlice (us := [(0, _), (1, _)]) (cs := [_, _, _, _, _, _, _, _]) ⟨rfl, ⟨_, rfl, (fun _ => rfl)⟩, ⟨rfl, ⟨_, rfl, (fun _ => rfl)⟩, trivial⟩⟩ Try.underlying26 Try.sizeOf30 Try.zeroValue30 ⟨rfl, rfl, _, rfl, ⟨rfl, rfl, _, rfl, trivial⟩⟩ rfl (by decide) rfl rfl (fun b17 => ?_)
  refine SL.callQ (vs := [_, _]) Try.call9 ⟨⟨_, rfl, (fun _ => rfl)⟩, ⟨_, rfl, (fun _ => rfl)⟩, trivial⟩ (fun hg => Eval_S ⟨_, _, _, _, _, (_, _, _), (_, _, _)⟩ _ _ [⟨1, 200, 0, 0⟩, ⟨0, 0, 0, 0⟩] (bnd2 (by unfold Bd Pl.Rg; decide) (by unfold Bd Pl.Rg; decide)) f0) (fun w h hok _ => Sl.of_blk cells_len rfl (own_get hok (k := 0) rfl)) rfl rfl (fun vt18 hvt18 => ?_)
  obtain ⟨pt18, hpt18, rfl⟩ := out_ex (hvt18 rfl)
  clear hvt18
  simp only at hpt18
  refine SL.step (PS.move rfl (fun _ => rfl) rfl rfl) ?_
  refine SL.step (PS.extract rfl (fun _ => rfl) rfl rfl rfl) ?_
  refine SL.step (PS.extract rfl (fun _ => rfl) rfl rfl rfl) ?_
  refine SL.alloc (cs := [_, _, _, _]) Try.zeroValue30 rfl rfl rfl (fun b3 => ?_)
  first | refine SL.store_own (k := 0) (own' := [_, _, _, _]) (cs' := [_, _, _, _]) rfl rfl rfl rfl rfl rfl rfl Try.sizeOf30 rfl (Nat.le_of_ble_eq_true rfl) rfl rfl rfl rfl ?_ | refine SL.store_own (k := 1) (own' := [_, _, _, _]) (cs' := [_, _, _, _, _, _, _, _]) rfl rfl rfl rfl rfl rfl rfl Try.sizeOf30 rfl (Nat.le_of_ble_eq_true rfl) rfl rfl rfl rfl ?_ | refine SL.store_own (k := 2) (own' := [_, _, _, _]) (cs' := [_, _, _, _]) rfl rfl rfl rfl rfl rfl rfl Try.sizeOf30 rfl (Nat.le_of_ble_eq_true rfl) rfl rfl rfl rfl ?_ | refine SL.store_own (k := 3) (own' := [_, _, _, _]) (cs' := [_, _, _, _, _, _, _, _]) rfl rfl rfl rfl rfl rfl rfl Try.sizeOf30 rfl (Nat.le_of_ble_eq_true rfl) rfl rfl rfl rfl ?_
  refine SL.step (PS.assign rfl (fun _ => rfl) rfl rfl) ?_
  refine SL.keep (l' := [(4, _, _), (2, _, _), (1, _, _)]) ⟨rfl, rfl, rfl, trivial⟩ ?_
  refine SL.nil ?_
  refine SE.thenK hK3 ?_
  refine SC.seq (fun K4 hK4 => ?_)
  refine SC.region ?_
  first | refine SL.step (PS.load_own_agg (k := 0) (vs := [_, _, _, _]) rfl (fun _ => rfl) rfl rfl rfl rfl Try.isAgg30 Try.sizeOf30 rfl rfl) ?_ | refine SL.step (PS.load_own_agg (k := 1) (vs := [_, _, _, _]) rfl (fun _ => rfl) rfl rfl rfl rfl Try.isAgg30 Try.sizeOf30 rfl rfl) ?_ | refine SL.step (PS.load_own_agg (k := 2) (vs := [_, _, _, _]) rfl (fun _ => rfl) rfl rfl rfl rfl Try.isAgg30 Try.sizeOf30 rfl rfl) ?_ | refine SL.step (PS.load_own_agg (k := 3) (vs := [_, _, _, _]) rfl (fun _ => rfl) rfl rfl rfl rfl Try.isAgg30 Try.sizeOf30 rfl rfl) ?_
  refine SL.step (PS.build (us := [(0, _), (1, _)]) (vs := [_, _, _, _]) ⟨rfl, ⟨_, rfl, (fun _ => rfl)⟩, ⟨rfl, ⟨_, rfl, (fun _ => rfl)⟩, trivial⟩⟩ Try.underlying30 Try.zeroValue30 (Try.places_30 Try.underlying30) rfl rfl rfl) ?_
  refine SL.step (PS.eqlA rfl (fun _ => rfl) rfl (fun _ => rfl) (by intro x y w; first | exact val_eql x y _ _ w | exact val_eql x y ⟨_, _, _, _⟩ _ w | exact val_eql x y _ ⟨_, _, _, _⟩ w | exact val_eql x y ⟨_, _, _, _⟩ ⟨_, _, _, _⟩ w) rfl rfl) ?_
  refine SL.step (PS.move rfl (fun _ => rfl) rfl rfl) ?_
  refine SL.step (PS.move rfl (fun _ => rfl) rfl rfl) ?_
  refine SL.step (PS.eql rfl (fun h => h) rfl (fun _ => rfl) rfl rfl) ?_
  refine SL.step (PS.pick_and rfl (fun _ => rfl) rfl (fun h h2 => pk_and h h2) rfl rfl) ?_
  refine SL.step (PS.move rfl (fun _ => rfl) rfl rfl) ?_
  refine SL.step (PS.move rfl (fun _ => rfl) rfl rfl) ?_
  refine SL.step (PS.eql rfl (fun h => h) rfl (fun _ => rfl) rfl rfl) ?_
  refine SL.step (PS.pick_and rfl (fun _ => rfl) rfl (fun h h2 => pk_and h h2) rfl rfl) ?_
  refine SL.step (PS.assign rfl (fun _ => rfl) rfl rfl) ?_
  refine SL.keep (l' := [(0, _, _)]) ⟨rfl, trivial⟩ ?_
  refine SL.nil ?_
  refine SE.thenK hK4 ?_
  refine SC.ret ?_
  exact finV1 rfl rfl (fun _ _ => by subst hpt10 hpt18; exact congrArg Value.bool (by decide +kernel))
theorem better_V (u v : Vl) : SpecV Try.prog 12 [u.val, v.val] (.bool (Pl.better u v)) := by
  refine SpecV.enter Try.func12 rfl (n := 23) Try.ntmps12 (Nat.le_of_ble_eq_true rfl) (l := [(0, _, _), (1, _, _)]) rfl ?_
  intro w
  refine SC.seq (fun K1 hK1 => ?_)
  refine SC.region ?_
  refine SL.box (cs := [_, _, _, _]) rfl rfl rfl rfl rfl (fun b2 => ?_)
  refine SL.box (cs := [_, _, _, _]) rfl rfl rfl rfl rfl (fun b3 => ?_)
  refine SL.step (PS.assign rfl (fun _ => rfl) rfl rfl) ?_
  refine SL.keep (l' := [(3, _, _), (2, _, _)]) ⟨rfl, rfl, trivial⟩ ?_
  refine SL.nil ?_
  refine SE.thenK hK1 ?_
  refine SC.seq (fun K2 hK2 => ?_)
  refine SC.region ?_
  refine SL.step (PS.fieldAddr rfl (fun _ => rfl) Try.fieldAt_30_0 rfl rfl) ?_
  first | refine SL.step (PS.load_own (k := 0) rfl (fun _ => rfl) rfl rfl rfl Try.isAgg3 rfl rfl) ?_ | refine SL.step (PS.load_own (k := 1) rfl (fun _ => rfl) rfl rfl rfl Try.isAgg3 rfl rfl) ?_
  refine SL.step (PS.eql rfl (fun _ => rfl) rfl (fun _ => rfl) rfl rfl) ?_
  refine SL.step (PS.move rfl (fun _ => rfl) rfl rfl) ?_
  refine SL.step (PS.fieldAddr rfl (fun _ => rfl) Try.fieldAt_30_0 rfl rfl) ?_
  first | refine SL.step (PS.load_own (k := 0) rfl (fun h => h) rfl rfl rfl Try.isAgg3 rfl rfl) ?_ | refine SL.step (PS.load_own (k := 1) rfl (fun h => h) rfl rfl rfl Try.isAgg3 rfl rfl) ?_
  refine SL.step (PS.eql rfl (fun h => h) rfl (fun _ => rfl) rfl rfl) ?_
  refine SL.step (PS.move rfl (fun h => h) rfl rfl) ?_
  refine SL.step (PS.fieldAddr rfl (fun _ => rfl) Try.fieldAt_30_0 rfl rfl) ?_
  first | refine SL.step (PS.load_own (k := 0) rfl (fun h => h) rfl rfl rfl Try.isAgg3 rfl rfl) ?_ | refine SL.step (PS.load_own (k := 1) rfl (fun h => h) rfl rfl rfl Try.isAgg3 rfl rfl) ?_
  refine SL.step (PS.neq rfl (fun h => h) rfl (fun _ => rfl) rfl rfl) ?_
  refine SL.step (PS.pick_and rfl (fun h => h) rfl (fun h h2 => pk_and h h2) rfl rfl) ?_
  refine SL.step (PS.pick_or rfl (fun _ => rfl) rfl (fun h h2 => pk_or h h2) rfl rfl) ?_
  refine SL.step (PS.move rfl (fun _ => rfl) rfl rfl) ?_
  first | refine SL.step (PS.load_own_agg (k := 0) (vs := [_, _, _, _]) rfl (fun _ => rfl) rfl rfl rfl rfl Try.isAgg30 Try.sizeOf30 rfl rfl) ?_ | refine SL.step (PS.load_own_agg (k := 1) (vs := [_, _, _, _]) rfl (fun _ => rfl) rfl rfl rfl rfl Try.isAgg30 Try.sizeOf30 rfl rfl) ?_
  first | refine SL.step (PS.load_own_agg (k := 0) (vs := [_, _, _, _]) rfl (fun _ => rfl) rfl rfl rfl rfl Try.isAgg30 Try.sizeOf30 rfl rfl) ?_ | refine SL.step (PS.load_own_agg (k := 1) (vs := [_, _, _, _]) rfl (fun _ => rfl) rfl rfl rfl rfl Try.isAgg30 Try.sizeOf30 rfl rfl) ?_
  refine SL.step (PS.eqlA rfl (fun h => h) rfl (fun h => h) (by intro x y w; first | exact val_eql x y _ _ w | exact val_eql x y ⟨_, _, _, _⟩ _ w | exact val_eql x y _ ⟨_, _, _, _⟩ w | exact val_eql x y ⟨_, _, _, _⟩ ⟨_, _, _, _⟩ w) rfl rfl) ?_
  refine SL.step (PS.pick_or rfl (fun _ => rfl) rfl (fun h h2 => pk_or h h2) rfl rfl) ?_
  refine SL.step (PS.assign rfl (fun _ => rfl) rfl rfl) ?_
  refine SL.keep (l' := [(4, _, _)]) ⟨rfl, trivial⟩ ?_
  refine SL.nil ?_
  refine SE.thenK hK2 ?_
  refine SC.ret ?_
  exact finV1 rfl rfl (fun _ _ => rfl)
theorem read_V (t : Int) (v : Vl) (hv : Bd v) : SpecV Try.prog 11 [.int .i64 t, v.val] (Pl.read t v).val := by
  refine SpecV.enter Try.func11 rfl (n := 21) Try.ntmps11 (Nat.le_of_ble_eq_true rfl) (l := [(0, _, _), (1, _, _)]) rfl ?_
  intro w
  refine SC.seq (fun K1 hK1 => ?_)
  refine SC.region ?_
  refine SL.box (cs := [_, _, _, _]) rfl rfl rfl rfl rfl (fun b3 => ?_)
  refine SL.alloc (cs := [_, _, _, _]) Try.zeroValue30 rfl rfl rfl (fun b4 => ?_)
  refine SL.keep (l' := [(4, _, _), (3, _, _), (0, _, _)]) ⟨rfl, rfl, rfl, trivial⟩ ?_
  refine SL.nil ?_
  refine SE.thenK hK1 ?_
  refine SC.seq (fun K2 hK2 => ?_)
  refine SC.region ?_
  refine SL.step (PS.move rfl (fun _ => rfl) rfl rfl) ?_
  refine SL.step (PS.build (us := [(0, _), (2, _)]) (vs := [_, _, _, _, _, _, _]) ⟨rfl, ⟨_, rfl, (fun _ => rfl)⟩, ⟨rfl, ⟨_, rfl, (fun _ => rfl)⟩, trivial⟩⟩ Try.underlying25 Try.zeroValue25 (Try.places_25 Try.underlying25) rfl rfl rfl) ?_
  refine SL.step (PS.build (us := [(0, _), (1, _)]) (vs := [_, _, _, _]) ⟨rfl, ⟨_, rfl, (fun _ => rfl)⟩, ⟨rfl, ⟨_, rfl, (fun _ => rfl)⟩, trivial⟩⟩ Try.underlying30 Try.zeroValue30 (Try.places_30 Try.underlying30) rfl rfl rfl) ?_
  first | refine SL.step (PS.load_own_agg (k := 0) (vs := [_, _, _, _]) rfl (fun _ => rfl) rfl rfl rfl rfl Try.isAgg30 Try.sizeOf30 rfl rfl) ?_ | refine SL.step (PS.load_own_agg (k := 1) (vs := [_, _, _, _]) rfl (fun _ => rfl) rfl rfl rfl rfl Try.isAgg30 Try.sizeOf30 rfl rfl) ?_
  refine SL.step (PS.build (us := []) (vs := [_, _, _, _]) trivial Try.underlying30 Try.zeroValue30 (Try.places_30 Try.underlying30) rfl rfl rfl) ?_
  refine SL.buildSlice (us := [(0, _), (1, _), (2, _)]) (cs := [_, _, _, _, _, _, _, _, _, _, _, _]) ⟨rfl, ⟨_, rfl, (fun _ => rfl)⟩, ⟨rfl, ⟨_, rfl, (fun _ => rfl)⟩, ⟨rfl, ⟨_, rfl, (fun _ => rfl)⟩, trivial⟩⟩⟩ Try.underlying26 Try.sizeOf30 Try.zeroValue30 ⟨rfl, rfl, _, rfl, ⟨rfl, rfl, _, rfl, ⟨rfl, rfl, _, rfl, trivial⟩⟩⟩ rfl (by decide) rfl rfl (fun b13 => ?_)
  refine SL.callQ (vs := [_, _]) Try.call9 ⟨⟨_, rfl, (fun _ => rfl)⟩, ⟨_, rfl, (fun _ => rfl)⟩, trivial⟩ (fun hg => Eval_S ⟨_, _, _, _, _, (_, _, _), (_, _, _)⟩ _ _ [⟨1, 1, 0, 0⟩, v, Vl.zero] (bnd3 (by unfold Bd Pl.Rg; decide) hv (by unfold Bd Pl.Rg; decide)) f0) (fun w h hok _ => Sl.of_blk cells_len rfl (own_get hok (k := 0) rfl)) rfl rfl (fun vt14 hvt14 => ?_)
  obtain ⟨pt14, hpt14, rfl⟩ := out_ex (hvt14 rfl)
  clear hvt14
  simp only at hpt14
  refine SL.step (PS.move rfl (fun _ => rfl) rfl rfl) ?_
  refine SL.step (PS.extract rfl (fun _ => rfl) rfl rfl rfl) ?_
  refine SL.step (PS.extract rfl (fun _ => rfl) rfl rfl rfl) ?_
  refine SL.alloc (cs := [_, _, _, _]) Try.zeroValue30 rfl rfl rfl (fun b5 => ?_)
  first | refine SL.store_own (k := 0) (own' := [_, _, _, _]) (cs' := [_, _, _, _]) rfl rfl rfl rfl rfl rfl rfl Try.sizeOf30 rfl (Nat.le_of_ble_eq_true rfl) rfl rfl rfl rfl ?_ | refine SL.store_own (k := 1) (own' := [_, _, _, _]) (cs' := [_, _, _, _, _, _, _, _, _, _, _, _]) rfl rfl rfl rfl rfl rfl rfl Try.sizeOf30 rfl (Nat.le_of_ble_eq_true rfl) rfl rfl rfl rfl ?_ | refine SL.store_own (k := 2) (own' := [_, _, _, _]) (cs' := [_, _, _, _]) rfl rfl rfl rfl rfl rfl rfl Try.sizeOf30 rfl (Nat.le_of_ble_eq_true rfl) rfl rfl rfl rfl ?_ | refine SL.store_own (k := 3) (own' := [_, _, _, _]) (cs' := [_, _, _, _]) rfl rfl rfl rfl rfl rfl rfl Try.sizeOf30 rfl (Nat.le_of_ble_eq_true rfl) rfl rfl rfl rfl ?_
  refine SL.step (PS.assign rfl (fun _ => rfl) rfl rfl) ?_
  refine SL.keep (l' := [(6, _, _), (5, _, _), (4, _, _)]) ⟨rfl, rfl, rfl, trivial⟩ ?_
  refine SL.nil ?_
  refine SE.thenK hK2 ?_
  refine SC.seq (fun K3 hK3 => ?_)
  refine SC.seq (fun K4 hK4 => ?_)
  refine SC.region ?_
  refine SL.step (PS.move rfl (fun _ => rfl) rfl rfl) ?_
  refine SL.step (PS.neq rfl (fun _ => rfl) rfl (fun _ => rfl) rfl rfl) ?_
  refine SL.keep (l' := [(18, _, _), (5, _, _), (4, _, _)]) ⟨rfl, rfl, rfl, trivial⟩ ?_
  refine SL.nil ?_
  refine SE.thenK hK4 ?_
  refine SC.cond rfl (fun c18 => ?_) (fun c18 => ?_)
  ·
    refine SC.seq (fun K5 hK5 => ?_)
    refine SC.region ?_
    refine SL.step (PS.build (us := []) (vs := [_, _, _, _]) trivial Try.underlying30 Try.zeroValue30 (Try.places_30 Try.underlying30) rfl rfl rfl) ?_
    first | refine SL.store_own (k := 0) (own' := [_, _, _, _]) (cs' := [_, _, _, _]) rfl rfl rfl rfl rfl rfl rfl Try.sizeOf30 rfl (Nat.le_of_ble_eq_true rfl) rfl rfl rfl rfl ?_ | refine SL.store_own (k := 1) (own' := [_, _, _, _]) (cs' := [_, _, _, _, _, _, _, _, _, _, _, _]) rfl rfl rfl rfl rfl rfl rfl Try.sizeOf30 rfl (Nat.le_of_ble_eq_true rfl) rfl rfl rfl rfl ?_ | refine SL.store_own (k := 2) (own' := [_, _, _, _]) (cs' := [_, _, _, _]) rfl rfl rfl rfl rfl rfl rfl Try.sizeOf30 rfl (Nat.le_of_ble_eq_true rfl) rfl rfl rfl rfl ?_ | refine SL.store_own (k := 3) (own' := [_, _, _, _]) (cs' := [_, _, _, _]) rfl rfl rfl rfl rfl rfl rfl Try.sizeOf30 rfl (Nat.le_of_ble_eq_true rfl) rfl rfl rfl rfl ?_
    refine SL.keep (l' := [(4, _, _)]) ⟨rfl, trivial⟩ ?_
    refine SL.nil ?_
    refine SE.thenK hK5 ?_
    refine SC.ret ?_
    refine SE.then_ret ?_
    exact finVc (k := 2) rfl Try.isAgg30 Try.sizeOf30 rfl rfl rfl rfl (fun _ _ => by simp only [Pl.read, ← hpt14, c18, cond_true, cond_false]; rfl)
  ·
    refine SC.skip ?_
    refine SE.thenK hK3 ?_
    refine SC.seq (fun K6 hK6 => ?_)
    refine SC.region ?_
    first | refine SL.step (PS.load_own_agg (k := 0) (vs := [_, _, _, _]) rfl (fun _ => rfl) rfl rfl rfl rfl Try.isAgg30 Try.sizeOf30 rfl rfl) ?_ | refine SL.step (PS.load_own_agg (k := 1) (vs := [_, _, _, _]) rfl (fun _ => rfl) rfl rfl rfl rfl Try.isAgg30 Try.sizeOf30 rfl rfl) ?_ | refine SL.step (PS.load_own_agg (k := 2) (vs := [_, _, _, _]) rfl (fun _ => rfl) rfl rfl rfl rfl Try.isAgg30 Try.sizeOf30 rfl rfl) ?_ | refine SL.step (PS.load_own_agg (k := 3) (vs := [_, _, _, _]) rfl (fun _ => rfl) rfl rfl rfl rfl Try.isAgg30 Try.sizeOf30 rfl rfl) ?_
    first | refine SL.store_own (k := 0) (own' := [_, _, _, _]) (cs' := [_, _, _, _]) rfl rfl rfl rfl rfl rfl rfl Try.sizeOf30 rfl (Nat.le_of_ble_eq_true rfl) rfl rfl rfl rfl ?_ | refine SL.store_own (k := 1) (own' := [_, _, _, _]) (cs' := [_, _, _, _, _, _, _, _, _, _, _, _]) rfl rfl rfl rfl rfl rfl rfl Try.sizeOf30 rfl (Nat.le_of_ble_eq_true rfl) rfl rfl rfl rfl ?_ | refine SL.store_own (k := 2) (own' := [_, _, _, _]) (cs' := [_, _, _, _]) rfl rfl rfl rfl rfl rfl rfl Try.sizeOf30 rfl (Nat.le_of_ble_eq_true rfl) rfl rfl rfl rfl ?_ | refine SL.store_own (k := 3) (own' := [_, _, _, _]) (cs' := [_, _, _, _]) rfl rfl rfl rfl rfl rfl rfl Try.sizeOf30 rfl (Nat.le_of_ble_eq_true rfl) rfl rfl rfl rfl ?_
    refine SL.keep (l' := [(4, _, _)]) ⟨rfl, trivial⟩ ?_
    refine SL.nil ?_
    refine SE.thenK hK6 ?_
    refine SC.ret ?_
    exact finVc (k := 2) rfl Try.isAgg30 Try.sizeOf30 rfl rfl rfl rfl (fun _ _ => by simp only [Pl.read, ← hpt14, c18, cond_true, cond_false]; rfl)
theorem types_S (i : In) : Spec Try.prog 10 [i.val] (fun _ => True) (wants (some (Pl.types i.op i.t i.n))) := by
  refine Spec.enter Try.func10 rfl (n := 27) Try.ntmps10 (Nat.le_of_ble_eq_true rfl) (l := [(0, _, _)]) rfl ?_
  intro S w
  refine SC.seq (fun K1 hK1 => ?_)
  refine SC.region ?_
  refine SL.box (cs := [_, _, _, _, _, _, _]) rfl rfl rfl rfl rfl (fun b1 => ?_)
  refine SL.step (PS.assign rfl (fun _ => rfl) rfl rfl) ?_
  refine SL.keep (l' := [(1, _, _)]) ⟨rfl, trivial⟩ ?_
  refine SL.nil ?_
  refine SE.thenK hK1 ?_
  refine SC.seq (fun K2 hK2 => ?_)
  refine SC.seq (fun K3 hK3 => ?_)
  refine SC.region ?_
  refine SL.step (PS.fieldAddr rfl (fun _ => rfl) Try.fieldAt_25_0 rfl rfl) ?_
  refine SL.step (PS.load_own (k := 0) rfl (fun _ => rfl) rfl rfl rfl Try.isAgg3 rfl rfl) ?_
  refine SL.keep (l' := [(4, _, _), (1, _, _)]) ⟨rfl, rfl, trivial⟩ ?_
  refine SL.nil ?_
  refine SE.thenK hK3 ?_
  refine SC.block ?_
  refine SC.seq (fun K4 hK4 => ?_)
  refine SC.seq (fun K5 hK5 => ?_)
  refine SC.region ?_
  refine SL.step (PS.eql rfl (fun _ => rfl) rfl (fun _ => rfl) rfl rfl) ?_
  refine SL.step (PS.assign rfl (fun _ => rfl) rfl rfl) ?_
  refine SL.keep (l' := [(5, _, _), (4, _, _), (1, _, _)]) ⟨rfl, rfl, rfl, trivial⟩ ?_
  refine SL.nil ?_
  refine SE.thenK hK5 ?_
  refine SC.cond rfl (fun c5 => ?_) (fun c5 => ?_)
  ·
    refine SC.skip ?_
    refine SE.thenK hK4 ?_
    refine SC.cond_t rfl c5 ?_
    refine SC.seq (fun K6 hK6 => ?_)
    refine SC.region ?_
    refine SL.step (PS.fieldAddr rfl (fun _ => rfl) Try.fieldAt_25_3 rfl rfl) ?_
    refine SL.step (PS.load_own (k := 0) rfl (fun _ => rfl) rfl rfl rfl Try.isAgg3 rfl rfl) ?_
    refine SL.buildSlice (us := [(0, _)]) (cs := [_]) ⟨rfl, ⟨_, rfl, (fun _ => rfl)⟩, trivial⟩ Try.underlying23 Try.sizeOf3 Try.zeroValue3 ⟨rfl, rfl, _, rfl, trivial⟩ rfl (by decide) rfl rfl (fun b11 => ?_)
    refine SL.step (PS.assign rfl (fun _ => rfl) rfl rfl) ?_
    refine SL.keep (l' := [(2, _, _)]) ⟨rfl, trivial⟩ ?_
    refine SL.nil ?_
    refine SE.thenK hK6 ?_
    refine SC.ret ?_
    refine SE.block_ret ?_
    refine SE.then_ret ?_
    refine SE.give ?_
    exact fin1 rfl rfl rfl (fun _ h => wants_some [i.n] (by simp only [Pl.types, *, Bool.true_or, Bool.or_true, Bool.false_or, Bool.or_false, cond_true, cond_false]) rfl rfl h.2)
  ·
    refine SC.seq (fun K7 hK7 => ?_)
    refine SC.region ?_
    refine SL.step (PS.eql rfl (fun _ => rfl) rfl (fun _ => rfl) rfl rfl) ?_
    refine SL.step (PS.assign rfl (fun _ => rfl) rfl rfl) ?_
    refine SL.keep (l' := [(5, _, _), (4, _, _), (1, _, _)]) ⟨rfl, rfl, rfl, trivial⟩ ?_
    refine SL.nil ?_
    refine SE.thenK hK7 ?_
    refine SC.cond rfl (fun c5b => ?_) (fun c5b => ?_)
    ·
      refine SC.skip ?_
      refine SE.thenK hK4 ?_
      refine SC.cond_t rfl c5b ?_
      refine SC.seq (fun K8 hK8 => ?_)
      refine SC.region ?_
      refine SL.step (PS.fieldAddr rfl (fun _ => rfl) Try.fieldAt_25_3 rfl rfl) ?_
      refine SL.step (PS.load_own (k := 0) rfl (fun _ => rfl) rfl rfl rfl Try.isAgg3 rfl rfl) ?_
      refine SL.buildSlice (us := [(0, _)]) (cs := [_]) ⟨rfl, ⟨_, rfl, (fun _ => rfl)⟩, trivial⟩ Try.underlying23 Try.sizeOf3 Try.zeroValue3 ⟨rfl, rfl, _, rfl, trivial⟩ rfl (by decide) rfl rfl (fun b11 => ?_)
      refine SL.step (PS.assign rfl (fun _ => rfl) rfl rfl) ?_
      refine SL.keep (l' := [(2, _, _)]) ⟨rfl, trivial⟩ ?_
      refine SL.nil ?_
      refine SE.thenK hK8 ?_
      refine SC.ret ?_
      refine SE.block_ret ?_
      refine SE.then_ret ?_
      refine SE.give ?_
      exact fin1 rfl rfl rfl (fun _ h => wants_some [i.n] (by simp only [Pl.types, *, Bool.true_or, Bool.or_true, Bool.false_or, Bool.or_false, cond_true, cond_false]) rfl rfl h.2)
    ·
      refine SC.region ?_
      refine SL.step (PS.eql rfl (fun _ => rfl) rfl (fun _ => rfl) rfl rfl) ?_
      refine SL.step (PS.assign rfl (fun _ => rfl) rfl rfl) ?_
      refine SL.keep (l' := [(5, _, _), (4, _, _), (1, _, _)]) ⟨rfl, rfl, rfl, trivial⟩ ?_
      refine SL.nil ?_
      refine SE.thenK hK4 ?_
      refine SC.cond rfl (fun c5c => ?_) (fun c5c => ?_)
      ·
        refine SC.seq (fun K9 hK9 => ?_)
        refine SC.region ?_
        refine SL.step (PS.fieldAddr rfl (fun _ => rfl) Try.fieldAt_25_3 rfl rfl) ?_
        refine SL.step (PS.load_own (k := 0) rfl (fun _ => rfl) rfl rfl rfl Try.isAgg3 rfl rfl) ?_
        refine SL.buildSlice (us := [(0, _)]) (cs := [_]) ⟨rfl, ⟨_, rfl, (fun _ => rfl)⟩, trivial⟩ Try.underlying23 Try.sizeOf3 Try.zeroValue3 ⟨rfl, rfl, _, rfl, trivial⟩ rfl (by decide) rfl rfl (fun b11 => ?_)
        refine SL.step (PS.assign rfl (fun _ => rfl) rfl rfl) ?_
        refine SL.keep (l' := [(2, _, _)]) ⟨rfl, trivial⟩ ?_
        refine SL.nil ?_
        refine SE.thenK hK9 ?_
        refine SC.ret ?_
        refine SE.block_ret ?_
        refine SE.then_ret ?_
        refine SE.give ?_
        exact fin1 rfl rfl rfl (fun _ h => wants_some [i.n] (by simp only [Pl.types, *, Bool.true_or, Bool.or_true, Bool.false_or, Bool.or_false, cond_true, cond_false]) rfl rfl h.2)
      ·
        refine SC.seq (fun K10 hK10 => ?_)
        refine SC.region ?_
        refine SL.step (PS.eql rfl (fun _ => rfl) rfl (fun _ => rfl) rfl rfl) ?_
        refine SL.step (PS.assign rfl (fun _ => rfl) rfl rfl) ?_
        refine SL.keep (l' := [(12, _, _), (4, _, _), (1, _, _)]) ⟨rfl, rfl, rfl, trivial⟩ ?_
        refine SL.nil ?_
        refine SE.thenK hK10 ?_
        refine SC.cond rfl (fun c12 => ?_) (fun c12 => ?_)
        ·
          refine SC.seq (fun K11 hK11 => ?_)
          refine SC.region ?_
          refine SL.step (PS.fieldAddr rfl (fun _ => rfl) Try.fieldAt_25_2 rfl rfl) ?_
          refine SL.step (PS.load_own (k := 0) rfl (fun _ => rfl) rfl rfl rfl Try.isAgg3 rfl rfl) ?_
          refine SL.step (PS.fieldAddr rfl (fun _ => rfl) Try.fieldAt_25_2 rfl rfl) ?_
          refine SL.step (PS.load_own (k := 0) rfl (fun _ => rfl) rfl rfl rfl Try.isAgg3 rfl rfl) ?_
          refine SL.buildSlice (us := [(0, _), (1, _), (2, _)]) (cs := [_, _, _]) ⟨rfl, ⟨_, rfl, (fun _ => rfl)⟩, ⟨rfl, ⟨_, rfl, (fun _ => rfl)⟩, ⟨rfl, ⟨_, rfl, (fun _ => rfl)⟩, trivial⟩⟩⟩ Try.underlying23 Try.sizeOf3 Try.zeroValue3 ⟨rfl, rfl, _, rfl, ⟨rfl, rfl, _, rfl, ⟨rfl, rfl, _, rfl, trivial⟩⟩⟩ rfl (by decide) rfl rfl (fun b18 => ?_)
          refine SL.step (PS.assign rfl (fun _ => rfl) rfl rfl) ?_
          refine SL.keep (l' := [(2, _, _)]) ⟨rfl, trivial⟩ ?_
          refine SL.nil ?_
          refine SE.thenK hK11 ?_
          refine SC.ret ?_
          refine SE.block_ret ?_
          refine SE.then_ret ?_
          refine SE.give ?_
          exact fin1 rfl rfl rfl (fun _ h => wants_some [1, i.t, i.t] (by simp only [Pl.types, *, Bool.true_or, Bool.or_true, Bool.false_or, Bool.or_false, cond_true, cond_false]) rfl rfl h.2)
        ·
          refine SC.seq (fun K12 hK12 => ?_)
          refine SC.region ?_
          refine SL.step (PS.eql rfl (fun _ => rfl) rfl (fun _ => rfl) rfl rfl) ?_
          refine SL.step (PS.assign rfl (fun _ => rfl) rfl rfl) ?_
          refine SL.keep (l' := [(19, _, _), (1, _, _)]) ⟨rfl, rfl, trivial⟩ ?_
          refine SL.nil ?_
          refine SE.thenK hK12 ?_
          refine SC.cond rfl (fun c19 => ?_) (fun c19 => ?_)
          ·
            refine SC.seq (fun K13 hK13 => ?_)
            refine SC.region ?_
            refine SL.buildSlice (us := [(0, _), (1, _)]) (cs := [_, _]) ⟨rfl, ⟨_, rfl, (fun _ => rfl)⟩, ⟨rfl, ⟨_, rfl, (fun _ => rfl)⟩, trivial⟩⟩ Try.underlying23 Try.sizeOf3 Try.zeroValue3 ⟨rfl, rfl, _, rfl, ⟨rfl, rfl, _, rfl, trivial⟩⟩ rfl (by decide) rfl rfl (fun b21 => ?_)
            refine SL.step (PS.assign rfl (fun _ => rfl) rfl rfl) ?_
            refine SL.keep (l' := [(2, _, _)]) ⟨rfl, trivial⟩ ?_
            refine SL.nil ?_
            refine SE.thenK hK13 ?_
            refine SC.ret ?_
            refine SE.block_ret ?_
            refine SE.then_ret ?_
            refine SE.give ?_
            exact fin1 rfl rfl rfl (fun _ h => wants_some [65, 64] (by simp only [Pl.types, *, Bool.true_or, Bool.or_true, Bool.false_or, Bool.or_false, cond_true, cond_false]) rfl rfl h.2)
          ·
            refine SC.skip ?_
            refine SE.block_normal ?_
            refine SE.thenK hK2 ?_
            refine SC.seq (fun K14 hK14 => ?_)
            refine SC.region ?_
            refine SL.step (PS.fieldAddr rfl (fun _ => rfl) Try.fieldAt_25_2 rfl rfl) ?_
            refine SL.step (PS.load_own (k := 0) rfl (fun _ => rfl) rfl rfl rfl Try.isAgg3 rfl rfl) ?_
            refine SL.step (PS.fieldAddr rfl (fun _ => rfl) Try.fieldAt_25_2 rfl rfl) ?_
            refine SL.step (PS.load_own (k := 0) rfl (fun _ => rfl) rfl rfl rfl Try.isAgg3 rfl rfl) ?_
            refine SL.buildSlice (us := [(0, _), (1, _)]) (cs := [_, _]) ⟨rfl, ⟨_, rfl, (fun _ => rfl)⟩, ⟨rfl, ⟨_, rfl, (fun _ => rfl)⟩, trivial⟩⟩ Try.underlying23 Try.sizeOf3 Try.zeroValue3 ⟨rfl, rfl, _, rfl, ⟨rfl, rfl, _, rfl, trivial⟩⟩ rfl (by decide) rfl rfl (fun b26 => ?_)
            refine SL.step (PS.assign rfl (fun _ => rfl) rfl rfl) ?_
            refine SL.keep (l' := [(2, _, _)]) ⟨rfl, trivial⟩ ?_
            refine SL.nil ?_
            refine SE.thenK hK14 ?_
            refine SC.ret ?_
            refine SE.give ?_
            exact fin1 rfl rfl rfl (fun _ h => wants_some [i.t, i.t] (by simp only [Pl.types, *, Bool.true_or, Bool.or_true, Bool.false_or, Bool.or_false, cond_true, cond_false]) rfl rfl h.2)
end Go.Proofs.Ytdiimckjmggjlaa
