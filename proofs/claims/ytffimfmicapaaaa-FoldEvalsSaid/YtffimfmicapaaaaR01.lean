/- The references of layer 1: what their code computes. -/
import Derived.Test.YtffimfmicapaaaaAut
import Derived.Test.YtffimfmicapaaaaVal
import Derived.Test.YtffimfmicapaaaaTy
namespace Go.Proofs.Ytffimfmicapaaaa
open Go.RowKit
set_option linter.unusedVariables false
set_option linter.unusedSimpArgs false
set_option maxRecDepth 100000
set_option maxHeartbeats 4000000
open Pl (Vl)
/-- A whole number of twice 64 bits. -/
structure Bg where
  hi : Int
  lo : Int
  below : Bool
  deriving DecidableEq
def Bg.cells (b : Bg) : List Value := [.int .u64 b.hi, .int .u64 b.lo, .bool b.below]
def Bg.val (b : Bg) : Value := .agg b.cells.toArray
theorem pw_nz {w : Int} (h : 0 ≤ w) (h' : decide (64 ≤ w) = false) : IntKind.u64.wrap (1 * 2 ^ (min w.toNat (IntKind.bits .u64))) ≠ 0 := by
  have h2 : w < 64 := by simpa using h'
  have e : min w.toNat (IntKind.bits .u64) = w.toNat := by simp only [IntKind.bits]; omega
  rw [e, Int.one_mul, IntKind.wrap_u64]
  have h3 : (2 : Int) ^ w.toNat ≤ 2 ^ 63 := by
    have := Nat.pow_le_pow_right (n := 2) (by omega) (show w.toNat ≤ 63 by omega)
    exact_mod_cast this
  have h4 : (0 : Int) < 2 ^ w.toNat := Int.pow_pos (by decide)
  have h5 : (2 : Int) ^ 63 = 9223372036854775808 := by decide
  omega
def d_latheref01_width (p0 : Int) : Bool :=
  ((decide (1 ≤ p0)) && (decide (p0 ≤ 64)))
theorem latheref01_width_V (p0 : Int)  : SpecV Try.prog 45 [.int .i64 p0] (Value.bool (d_latheref01_width p0)) := by
  refine SpecV.enter Try.func45 rfl (n := 9) Try.ntmps45 (Nat.le_of_ble_eq_true rfl) (l := [(0, _, _)]) rfl ?_
  intro w
  refine SC.seq (fun K1 hK1 => SC.region ?_)
  refine SL.step (PS.assign rfl tt rfl rfl) ?_
  refine SL.keep (l' := [(0, _, _)]) ⟨rfl, trivial⟩ ?_
  refine SL.nil (SE.thenK hK1 (SC.seq (fun K2 hK2 => SC.region ?_)))
  refine SL.step (PS.move rfl tt rfl rfl) ?_
  refine SL.step (PS.geq rfl tt rfl tt rfl rfl) ?_
  refine SL.step (PS.move rfl tt rfl rfl) ?_
  refine SL.step (PS.move rfl tt rfl rfl) ?_
  refine SL.step (PS.leq rfl (fun h => h) rfl tt rfl rfl) ?_
  refine SL.step (PS.pick_and rfl tt rfl (fun h h2 => pk_and h h2) rfl rfl) ?_
  refine SL.step (PS.assign rfl tt rfl rfl) ?_
  refine SL.keep (l' := [(2, _, _)]) ⟨rfl, trivial⟩ ?_
  refine SL.nil (SE.thenK hK2 (SC.ret ?_))
  exact finV1 rfl rfl (fun _ _ => rfl)
def d_latheref01_Cut (p0 : Int) (p1 : Int) : Int :=
  bif (decide (64 ≤ p0)) then
   p1
  else (Int.tmod p1 (IntKind.u64.wrap (1 * 2 ^ (min (Int.toNat p0) (IntKind.bits .u64)))))
theorem latheref01_Cut_V (p0 : Int) (p1 : Int) (hw : 0 ≤ p0) : SpecV Try.prog 42 [.int .i64 p0, .int .u64 p1] (Value.int .u64 (d_latheref01_Cut p0 p1)) := by
  refine SpecV.enter Try.func42 rfl (n := 12) Try.ntmps42 (Nat.le_of_ble_eq_true rfl) (l := [(0, _, _), (1, _, _)]) rfl ?_
  intro w
  refine SC.seq (fun K1 hK1 => SC.region ?_)
  refine SL.step (PS.assign rfl tt rfl rfl) ?_
  refine SL.keep (l' := [(0, _, _), (1, _, _)]) ⟨rfl, rfl, trivial⟩ ?_
  refine SL.nil (SE.thenK hK1 (SC.seq (fun K2 hK2 => SC.seq (fun K3 hK3 => SC.region ?_))))
  refine SL.step (PS.move rfl tt rfl rfl) ?_
  refine SL.step (PS.geq rfl tt rfl tt rfl rfl) ?_
  refine SL.keep (l' := [(6, _, _), (0, _, _), (1, _, _)]) ⟨rfl, rfl, rfl, trivial⟩ ?_
  refine SL.nil (SE.thenK hK3 ?_)
  refine SC.cond rfl (fun c6 => ?_) (fun c6 => ?_)
  ·
   refine SC.seq (fun K4 hK4 => SC.region ?_)
   refine SL.step (PS.move rfl tt rfl rfl) ?_
   refine SL.step (PS.assign rfl tt rfl rfl) ?_
   refine SL.keep (l' := [(4, _, _)]) ⟨rfl, trivial⟩ ?_
   refine SL.nil (SE.thenK hK4 (SC.ret (SE.then_ret ?_)))
   exact finV1 rfl rfl (fun _ _ => congrArg (fun z : Int => Value.int .u64 z) (show (p1 : Int) = (d_latheref01_Cut p0 p1) from ((bifT c6)).symm))
  ·
   refine SC.skip (SE.thenK hK2 (SC.seq (fun K5 hK5 => SC.region ?_)))
   refine SL.step (PS.move rfl tt rfl rfl) ?_
   refine SL.step (PS.move rfl tt rfl rfl) ?_
   refine SL.step (PS.shl rfl tt rfl tt (by first | omega | (simp only [IntKind.wrap_i64, IntKind.wrap_u64]; omega)) rfl rfl) ?_
   refine SL.step (PS.rem rfl tt rfl tt (fun _ => by exact pw_nz hw (by assumption)) rfl rfl) ?_
   refine SL.step (PS.assign rfl tt rfl rfl) ?_
   refine SL.keep (l' := [(4, _, _)]) ⟨rfl, trivial⟩ ?_
   refine SL.nil (SE.thenK hK5 (SC.ret ?_))
   exact finV1 rfl rfl (fun _ _ => congrArg (fun z : Int => Value.int .u64 z) (show ((Int.tmod p1 (IntKind.u64.wrap (1 * 2 ^ (min (Int.toNat p0) (IntKind.bits .u64))))) : Int) = (d_latheref01_Cut p0 p1) from ((bifF c6)).symm))
def d_latheref01_half (p0 : Int) : Int :=
  (IntKind.u64.wrap (1 * 2 ^ (min (Int.toNat (IntKind.i64.wrap (p0 - 1))) (IntKind.bits .u64))))
theorem latheref01_half_V (p0 : Int) (hw : 1 ≤ p0 ∧ p0 ≤ 64) : SpecV Try.prog 54 [.int .i64 p0] (Value.int .u64 (d_latheref01_half p0)) := by
  refine SpecV.enter Try.func54 rfl (n := 6) Try.ntmps54 (Nat.le_of_ble_eq_true rfl) (l := [(0, _, _)]) rfl ?_
  intro w
  refine SC.seq (fun K1 hK1 => SC.region ?_)
  refine SL.step (PS.assign rfl tt rfl rfl) ?_
  refine SL.keep (l' := [(0, _, _)]) ⟨rfl, trivial⟩ ?_
  refine SL.nil (SE.thenK hK1 (SC.seq (fun K2 hK2 => SC.region ?_)))
  refine SL.step (PS.move rfl tt rfl rfl) ?_
  refine SL.step (PS.sub rfl tt rfl tt rfl rfl) ?_
  refine SL.step (PS.shl rfl tt rfl tt (by first | omega | (simp only [IntKind.wrap_i64, IntKind.wrap_u64]; omega)) rfl rfl) ?_
  refine SL.step (PS.assign rfl tt rfl rfl) ?_
  refine SL.keep (l' := [(2, _, _)]) ⟨rfl, trivial⟩ ?_
  refine SL.nil (SE.thenK hK2 (SC.ret ?_))
  exact finV1 rfl rfl (fun _ _ => rfl)
def d_latheref01_Plain (p0 : Int) (p1 : Int) : Bg :=
  (⟨0, (d_latheref01_Cut p0 p1), false⟩ : Bg)
theorem latheref01_Plain_V (p0 : Int) (p1 : Int) (hw : 0 ≤ p0) : SpecV Try.prog 66 [.int .i64 p0, .int .u64 p1] (Bg.val (d_latheref01_Plain p0 p1)) := by
  refine SpecV.enter Try.func66 rfl (n := 9) Try.ntmps66 (Nat.le_of_ble_eq_true rfl) (l := [(0, _, _), (1, _, _)]) rfl ?_
  intro w
  refine SC.seq (fun K1 hK1 => SC.region ?_)
  refine SL.alloc (cs := [_, _, _]) Try.zeroValue65 rfl rfl rfl (fun b4 => ?_)
  refine SL.nil (SE.thenK hK1 (SC.seq (fun K2 hK2 => SC.region ?_)))
  refine SL.step (PS.move rfl tt rfl rfl) ?_
  refine SL.step (PS.move rfl tt rfl rfl) ?_
  refine SL.callV (vs := [_, _]) Try.call42 ⟨⟨_, rfl, tt⟩, ⟨_, rfl, tt⟩, trivial⟩ (fun hg => latheref01_Cut_V _ _ (by omega)) rfl rfl ?_
  refine SL.step (PS.build (us := [(1, _)]) (vs := [_, _, _]) ⟨rfl, ⟨_, rfl, tt⟩, trivial⟩ Try.underlying65 Try.zeroValue65 (Try.places_65 Try.underlying65) rfl rfl rfl) ?_
  refine SL.store_own (k := 0) (own' := [_]) (cs' := [_, _, _]) rfl rfl rfl rfl rfl rfl rfl Try.sizeOf65 rfl (Nat.le_of_ble_eq_true rfl) rfl rfl rfl rfl ?_
  refine SL.keep (l' := [(4, _, _)]) ⟨rfl, trivial⟩ ?_
  refine SL.nil (SE.thenK hK2 (SC.ret ?_))
  exact finVc (k := 0) rfl Try.isAgg65 Try.sizeOf65 rfl rfl rfl rfl (fun _ _ => rfl)
def d_latheref01_With (p0 : Int) (p1 : Int) : Bg :=
  bif (decide ((d_latheref01_Cut p0 p1) < (d_latheref01_half p0))) then
   (⟨0, (d_latheref01_Cut p0 p1), false⟩ : Bg)
  else (⟨0, (d_latheref01_Cut p0 (IntKind.u64.wrap (0 - (d_latheref01_Cut p0 p1)))), true⟩ : Bg)
theorem latheref01_With_V (p0 : Int) (p1 : Int) (hw : 1 ≤ p0 ∧ p0 ≤ 64) : SpecV Try.prog 47 [.int .i64 p0, .int .u64 p1] (Bg.val (d_latheref01_With p0 p1)) := by
  refine SpecV.enter Try.func47 rfl (n := 19) Try.ntmps47 (Nat.le_of_ble_eq_true rfl) (l := [(0, _, _), (1, _, _)]) rfl ?_
  intro w
  refine SC.seq (fun K1 hK1 => SC.region ?_)
  refine SL.alloc (cs := [_, _, _]) Try.zeroValue65 rfl rfl rfl (fun b4 => ?_)
  refine SL.nil (SE.thenK hK1 (SC.seq (fun K2 hK2 => SC.region ?_)))
  refine SL.step (PS.move rfl tt rfl rfl) ?_
  refine SL.step (PS.move rfl tt rfl rfl) ?_
  refine SL.callV (vs := [_, _]) Try.call42 ⟨⟨_, rfl, tt⟩, ⟨_, rfl, tt⟩, trivial⟩ (fun hg => latheref01_Cut_V _ _ (by omega)) rfl rfl ?_
  refine SL.step (PS.assign rfl tt rfl rfl) ?_
  refine SL.keep (l' := [(1, _, _), (4, _, _), (0, _, _)]) ⟨rfl, rfl, rfl, trivial⟩ ?_
  refine SL.nil (SE.thenK hK2 (SC.seq (fun K3 hK3 => SC.seq (fun K4 hK4 => SC.region ?_))))
  refine SL.step (PS.move rfl tt rfl rfl) ?_
  refine SL.step (PS.move rfl tt rfl rfl) ?_
  refine SL.callV (vs := [_]) Try.call54 ⟨⟨_, rfl, tt⟩, trivial⟩ (fun hg => latheref01_half_V _ (by omega)) rfl rfl ?_
  refine SL.step (PS.lss rfl tt rfl tt rfl rfl) ?_
  refine SL.keep (l' := [(11, _, _), (1, _, _), (4, _, _), (0, _, _)]) ⟨rfl, rfl, rfl, rfl, trivial⟩ ?_
  refine SL.nil (SE.thenK hK4 ?_)
  refine SC.cond rfl (fun c11 => ?_) (fun c11 => ?_)
  ·
   refine SC.seq (fun K5 hK5 => SC.region ?_)
   refine SL.step (PS.move rfl tt rfl rfl) ?_
   refine SL.step (PS.build (us := [(1, _)]) (vs := [_, _, _]) ⟨rfl, ⟨_, rfl, tt⟩, trivial⟩ Try.underlying65 Try.zeroValue65 (Try.places_65 Try.underlying65) rfl rfl rfl) ?_
   refine SL.store_own (k := 0) (own' := [_]) (cs' := [_, _, _]) rfl rfl rfl rfl rfl rfl rfl Try.sizeOf65 rfl (Nat.le_of_ble_eq_true rfl) rfl rfl rfl rfl ?_
   refine SL.keep (l' := [(4, _, _)]) ⟨rfl, trivial⟩ ?_
   refine SL.nil (SE.thenK hK5 (SC.ret (SE.then_ret ?_)))
   exact finVc (k := 0) rfl Try.isAgg65 Try.sizeOf65 rfl rfl rfl rfl (fun _ _ => congrArg (fun z : Bg => Bg.val z) (show ((⟨0, (d_latheref01_Cut p0 p1), false⟩ : Bg) : Bg) = (d_latheref01_With p0 p1) from ((bifT c11)).symm))
  ·
   refine SC.skip (SE.thenK hK3 (SC.seq (fun K6 hK6 => SC.region ?_)))
   refine SL.step (PS.move rfl tt rfl rfl) ?_
   refine SL.step (PS.move rfl tt rfl rfl) ?_
   refine SL.step (PS.sub rfl tt rfl tt rfl rfl) ?_
   refine SL.callV (vs := [_, _]) Try.call42 ⟨⟨_, rfl, tt⟩, ⟨_, rfl, tt⟩, trivial⟩ (fun hg => latheref01_Cut_V _ _ (by omega)) rfl rfl ?_
   refine SL.step (PS.build (us := [(1, _), (2, _)]) (vs := [_, _, _]) ⟨rfl, ⟨_, rfl, tt⟩, ⟨rfl, ⟨_, rfl, tt⟩, trivial⟩⟩ Try.underlying65 Try.zeroValue65 (Try.places_65 Try.underlying65) rfl rfl rfl) ?_
   refine SL.store_own (k := 0) (own' := [_]) (cs' := [_, _, _]) rfl rfl rfl rfl rfl rfl rfl Try.sizeOf65 rfl (Nat.le_of_ble_eq_true rfl) rfl rfl rfl rfl ?_
   refine SL.keep (l' := [(4, _, _)]) ⟨rfl, trivial⟩ ?_
   refine SL.nil (SE.thenK hK6 (SC.ret ?_))
   exact finVc (k := 0) rfl Try.isAgg65 Try.sizeOf65 rfl rfl rfl rfl (fun _ _ => congrArg (fun z : Bg => Bg.val z) (show ((⟨0, (d_latheref01_Cut p0 (IntKind.u64.wrap (0 - (d_latheref01_Cut p0 p1)))), true⟩ : Bg) : Bg) = (d_latheref01_With p0 p1) from ((bifF c11)).symm))
def d_latheref01_less (p0 : Bg) (p1 : Bg) : Bool :=
  ((decide (p0.hi < p1.hi)) || ((p0.hi == p1.hi) && (decide (p0.lo < p1.lo))))
theorem latheref01_less_V (p0 : Bg) (p1 : Bg)  : SpecV Try.prog 74 [p0.val, p1.val] (Value.bool (d_latheref01_less p0 p1)) := by
  refine SpecV.enter Try.func74 rfl (n := 24) Try.ntmps74 (Nat.le_of_ble_eq_true rfl) (l := [(0, _, _), (1, _, _)]) rfl ?_
  intro w
  refine SC.seq (fun K1 hK1 => SC.region ?_)
  refine SL.box (cs := [_, _, _]) rfl rfl rfl rfl rfl (fun b2 => ?_)
  refine SL.box (cs := [_, _, _]) rfl rfl rfl rfl rfl (fun b3 => ?_)
  refine SL.step (PS.assign rfl tt rfl rfl) ?_
  refine SL.keep (l' := [(3, _, _), (2, _, _)]) ⟨rfl, rfl, trivial⟩ ?_
  refine SL.nil (SE.thenK hK1 (SC.seq (fun K2 hK2 => SC.region ?_)))
  refine SL.step (PS.fieldAddr rfl tt Try.fieldAt_65_0 rfl rfl) ?_
  first | refine SL.step (PS.load_own (k := 0) rfl tt rfl rfl rfl Try.isAgg27 rfl rfl) ?_ | refine SL.step (PS.load_own (k := 1) rfl tt rfl rfl rfl Try.isAgg27 rfl rfl) ?_
  refine SL.step (PS.fieldAddr rfl tt Try.fieldAt_65_0 rfl rfl) ?_
  first | refine SL.step (PS.load_own (k := 0) rfl tt rfl rfl rfl Try.isAgg27 rfl rfl) ?_ | refine SL.step (PS.load_own (k := 1) rfl tt rfl rfl rfl Try.isAgg27 rfl rfl) ?_
  refine SL.step (PS.lss rfl tt rfl tt rfl rfl) ?_
  refine SL.step (PS.move rfl tt rfl rfl) ?_
  refine SL.step (PS.fieldAddr rfl tt Try.fieldAt_65_0 rfl rfl) ?_
  first | refine SL.step (PS.load_own (k := 0) rfl (fun h => h) rfl rfl rfl Try.isAgg27 rfl rfl) ?_ | refine SL.step (PS.load_own (k := 1) rfl (fun h => h) rfl rfl rfl Try.isAgg27 rfl rfl) ?_
  refine SL.step (PS.fieldAddr rfl tt Try.fieldAt_65_0 rfl rfl) ?_
  first | refine SL.step (PS.load_own (k := 0) rfl (fun h => h) rfl rfl rfl Try.isAgg27 rfl rfl) ?_ | refine SL.step (PS.load_own (k := 1) rfl (fun h => h) rfl rfl rfl Try.isAgg27 rfl rfl) ?_
  refine SL.step (PS.eql rfl (fun h => h) rfl (fun h => h) rfl rfl) ?_
  refine SL.step (PS.move rfl (fun h => h) rfl rfl) ?_
  refine SL.step (PS.fieldAddr rfl tt Try.fieldAt_65_1 rfl rfl) ?_
  first | refine SL.step (PS.load_own (k := 0) rfl (fun h => h) rfl rfl rfl Try.isAgg27 rfl rfl) ?_ | refine SL.step (PS.load_own (k := 1) rfl (fun h => h) rfl rfl rfl Try.isAgg27 rfl rfl) ?_
  refine SL.step (PS.fieldAddr rfl tt Try.fieldAt_65_1 rfl rfl) ?_
  first | refine SL.step (PS.load_own (k := 0) rfl (fun h => h) rfl rfl rfl Try.isAgg27 rfl rfl) ?_ | refine SL.step (PS.load_own (k := 1) rfl (fun h => h) rfl rfl rfl Try.isAgg27 rfl rfl) ?_
  refine SL.step (PS.lss rfl (fun h => h) rfl (fun h => h) rfl rfl) ?_
  refine SL.step (PS.pick_and rfl (fun h => h) rfl (fun h h2 => pk_and h h2) rfl rfl) ?_
  refine SL.step (PS.pick_or rfl tt rfl (fun h h2 => pk_or h h2) rfl rfl) ?_
  refine SL.step (PS.assign rfl tt rfl rfl) ?_
  refine SL.keep (l' := [(4, _, _)]) ⟨rfl, trivial⟩ ?_
  refine SL.nil (SE.thenK hK2 (SC.ret ?_))
  exact finV1 rfl rfl (fun _ _ => rfl)
theorem latheref01_less_W (p0_hi : Int) (p0_lo : Int) (p0_below : Bool) (p1_hi : Int) (p1_lo : Int) (p1_below : Bool)  : SpecV Try.prog 74 [.agg [.int .u64 p0_hi, .int .u64 p0_lo, .bool p0_below].toArray, .agg [.int .u64 p1_hi, .int .u64 p1_lo, .bool p1_below].toArray] (Value.bool (d_latheref01_less ⟨p0_hi, p0_lo, p0_below⟩ ⟨p1_hi, p1_lo, p1_below⟩)) := latheref01_less_V ⟨p0_hi, p0_lo, p0_below⟩ ⟨p1_hi, p1_lo, p1_below⟩ 
def d_latheref01_fixed (p0 : Bg) : Bg :=
  bif ((p0.hi == 0) && (p0.lo == 0)) then
   (⟨p0.hi, p0.lo, false⟩ : Bg)
  else p0
theorem latheref01_fixed_V (p0 : Bg)  : SpecV Try.prog 73 [p0.val] (Bg.val (d_latheref01_fixed p0)) := by
  refine SpecV.enter Try.func73 rfl (n := 13) Try.ntmps73 (Nat.le_of_ble_eq_true rfl) (l := [(0, _, _)]) rfl ?_
  intro w
  refine SC.seq (fun K1 hK1 => SC.region ?_)
  refine SL.box (cs := [_, _, _]) rfl rfl rfl rfl rfl (fun b1 => ?_)
  refine SL.alloc (cs := [_, _, _]) Try.zeroValue65 rfl rfl rfl (fun b2 => ?_)
  refine SL.keep (l' := [(2, _, _), (1, _, _)]) ⟨rfl, rfl, trivial⟩ ?_
  refine SL.nil (SE.thenK hK1 (SC.seq (fun K2 hK2 => SC.seq (fun K3 hK3 => SC.region ?_))))
  refine SL.step (PS.fieldAddr rfl tt Try.fieldAt_65_0 rfl rfl) ?_
  first | refine SL.step (PS.load_own (k := 0) rfl tt rfl rfl rfl Try.isAgg27 rfl rfl) ?_ | refine SL.step (PS.load_own (k := 1) rfl tt rfl rfl rfl Try.isAgg27 rfl rfl) ?_
  refine SL.step (PS.eql rfl tt rfl tt rfl rfl) ?_
  refine SL.step (PS.move rfl tt rfl rfl) ?_
  refine SL.step (PS.fieldAddr rfl tt Try.fieldAt_65_1 rfl rfl) ?_
  first | refine SL.step (PS.load_own (k := 0) rfl (fun h => h) rfl rfl rfl Try.isAgg27 rfl rfl) ?_ | refine SL.step (PS.load_own (k := 1) rfl (fun h => h) rfl rfl rfl Try.isAgg27 rfl rfl) ?_
  refine SL.step (PS.eql rfl (fun h => h) rfl tt rfl rfl) ?_
  refine SL.step (PS.pick_and rfl tt rfl (fun h h2 => pk_and h h2) rfl rfl) ?_
  refine SL.keep (l' := [(10, _, _), (2, _, _), (1, _, _)]) ⟨rfl, rfl, rfl, trivial⟩ ?_
  refine SL.nil (SE.thenK hK3 ?_)
  refine SC.cond rfl (fun c10 => ?_) (fun c10 => ?_)
  ·
   refine SC.region ?_
   refine SL.step (PS.fieldAddr rfl tt Try.fieldAt_65_2 rfl rfl) ?_
   first | refine SL.store_own (k := 0) (own' := [_, _]) (cs' := [_, _, _]) rfl rfl rfl rfl rfl rfl rfl Try.sizeOf4 rfl (Nat.le_of_ble_eq_true rfl) rfl rfl rfl rfl ?_ | refine SL.store_own (k := 1) (own' := [_, _]) (cs' := [_, _, _]) rfl rfl rfl rfl rfl rfl rfl Try.sizeOf4 rfl (Nat.le_of_ble_eq_true rfl) rfl rfl rfl rfl ?_
   refine SL.keep (l' := [(2, _, _), (1, _, _)]) ⟨rfl, rfl, trivial⟩ ?_
   refine SL.nil (SE.thenK hK2 (SC.seq (fun K4 hK4 => SC.region ?_)))
   first | refine SL.step (PS.load_own_agg (k := 0) (vs := [_, _, _]) rfl tt rfl rfl rfl rfl Try.isAgg65 Try.sizeOf65 rfl rfl) ?_ | refine SL.step (PS.load_own_agg (k := 1) (vs := [_, _, _]) rfl tt rfl rfl rfl rfl Try.isAgg65 Try.sizeOf65 rfl rfl) ?_
   first | refine SL.store_own (k := 0) (own' := [_, _]) (cs' := [_, _, _]) rfl rfl rfl rfl rfl rfl rfl Try.sizeOf65 rfl (Nat.le_of_ble_eq_true rfl) rfl rfl rfl rfl ?_ | refine SL.store_own (k := 1) (own' := [_, _]) (cs' := [_, _, _]) rfl rfl rfl rfl rfl rfl rfl Try.sizeOf65 rfl (Nat.le_of_ble_eq_true rfl) rfl rfl rfl rfl ?_
   refine SL.keep (l' := [(2, _, _)]) ⟨rfl, trivial⟩ ?_
   refine SL.nil (SE.thenK hK4 (SC.ret ?_))
   first | exact finVc (k := 0) rfl Try.isAgg65 Try.sizeOf65 rfl rfl rfl rfl (fun _ _ => congrArg (fun z : Bg => Bg.val z) (show ((⟨p0.hi, p0.lo, false⟩ : Bg) : Bg) = (d_latheref01_fixed p0) from ((bifT c10)).symm)) | exact finVc (k := 1) rfl Try.isAgg65 Try.sizeOf65 rfl rfl rfl rfl (fun _ _ => congrArg (fun z : Bg => Bg.val z) (show ((⟨p0.hi, p0.lo, false⟩ : Bg) : Bg) = (d_latheref01_fixed p0) from ((bifT c10)).symm))
  ·
   refine SC.skip (SE.thenK hK2 (SC.seq (fun K5 hK5 => SC.region ?_)))
   first | refine SL.step (PS.load_own_agg (k := 0) (vs := [_, _, _]) rfl tt rfl rfl rfl rfl Try.isAgg65 Try.sizeOf65 rfl rfl) ?_ | refine SL.step (PS.load_own_agg (k := 1) (vs := [_, _, _]) rfl tt rfl rfl rfl rfl Try.isAgg65 Try.sizeOf65 rfl rfl) ?_
   first | refine SL.store_own (k := 0) (own' := [_, _]) (cs' := [_, _, _]) rfl rfl rfl rfl rfl rfl rfl Try.sizeOf65 rfl (Nat.le_of_ble_eq_true rfl) rfl rfl rfl rfl ?_ | refine SL.store_own (k := 1) (own' := [_, _]) (cs' := [_, _, _]) rfl rfl rfl rfl rfl rfl rfl Try.sizeOf65 rfl (Nat.le_of_ble_eq_true rfl) rfl rfl rfl rfl ?_
   refine SL.keep (l' := [(2, _, _)]) ⟨rfl, trivial⟩ ?_
   refine SL.nil (SE.thenK hK5 (SC.ret ?_))
   first | exact finVc (k := 0) rfl Try.isAgg65 Try.sizeOf65 rfl rfl rfl rfl (fun _ _ => congrArg (fun z : Bg => Bg.val z) (show (p0 : Bg) = (d_latheref01_fixed p0) from ((bifF c10)).symm)) | exact finVc (k := 1) rfl Try.isAgg65 Try.sizeOf65 rfl rfl rfl rfl (fun _ _ => congrArg (fun z : Bg => Bg.val z) (show (p0 : Bg) = (d_latheref01_fixed p0) from ((bifF c10)).symm))
theorem latheref01_fixed_W (p0_hi : Int) (p0_lo : Int) (p0_below : Bool)  : SpecV Try.prog 73 [.agg [.int .u64 p0_hi, .int .u64 p0_lo, .bool p0_below].toArray] (Bg.val (d_latheref01_fixed ⟨p0_hi, p0_lo, p0_below⟩)) := latheref01_fixed_V ⟨p0_hi, p0_lo, p0_below⟩ 
def d_latheref01_Plus (p0 : Bg) (p1 : Bg) : Bg :=
  bif (p0.below == p1.below) then
   bif (decide ((IntKind.u64.wrap (p0.lo + p1.lo)) < p0.lo)) then
    (⟨(IntKind.u64.wrap ((IntKind.u64.wrap (p0.hi + p1.hi)) + 1)), (IntKind.u64.wrap (p0.lo + p1.lo)), p0.below⟩ : Bg)
   else (⟨(IntKind.u64.wrap (p0.hi + p1.hi)), (IntKind.u64.wrap (p0.lo + p1.lo)), p0.below⟩ : Bg)
  else bif (d_latheref01_less p0 p1) then
   bif (decide (p1.lo < p0.lo)) then
    (d_latheref01_fixed (⟨(IntKind.u64.wrap ((IntKind.u64.wrap (p1.hi - p0.hi)) - 1)), (IntKind.u64.wrap (p1.lo - p0.lo)), p1.below⟩ : Bg))
   else (d_latheref01_fixed (⟨(IntKind.u64.wrap (p1.hi - p0.hi)), (IntKind.u64.wrap (p1.lo - p0.lo)), p1.below⟩ : Bg))
  else bif (decide (p0.lo < p1.lo)) then
   (d_latheref01_fixed (⟨(IntKind.u64.wrap ((IntKind.u64.wrap (p0.hi - p1.hi)) - 1)), (IntKind.u64.wrap (p0.lo - p1.lo)), p0.below⟩ : Bg))
  else (d_latheref01_fixed (⟨(IntKind.u64.wrap (p0.hi - p1.hi)), (IntKind.u64.wrap (p0.lo - p1.lo)), p0.below⟩ : Bg))
theorem latheref01_Plus_V (p0 : Bg) (p1 : Bg)  : SpecV Try.prog 70 [p0.val, p1.val] (Bg.val (d_latheref01_Plus p0 p1)) := by
  refine SpecV.enter Try.func70 rfl (n := 63) Try.ntmps70 (Nat.le_of_ble_eq_true rfl) (l := [(0, _, _), (1, _, _)]) rfl ?_
  intro w
  refine SC.seq (fun K1 hK1 => SC.region ?_)
  refine SL.box (cs := [_, _, _]) rfl rfl rfl rfl rfl (fun b2 => ?_)
  refine SL.box (cs := [_, _, _]) rfl rfl rfl rfl rfl (fun b3 => ?_)
  refine SL.alloc (cs := [_, _, _]) Try.zeroValue65 rfl rfl rfl (fun b4 => ?_)
  refine SL.keep (l' := [(4, _, _), (3, _, _), (2, _, _)]) ⟨rfl, rfl, rfl, trivial⟩ ?_
  refine SL.nil (SE.thenK hK1 (SC.seq (fun K2 hK2 => SC.seq (fun K3 hK3 => SC.region ?_))))
  refine SL.step (PS.fieldAddr rfl tt Try.fieldAt_65_2 rfl rfl) ?_
  first | refine SL.step (PS.load_own (k := 0) rfl tt rfl rfl rfl Try.isAgg4 rfl rfl) ?_ | refine SL.step (PS.load_own (k := 1) rfl tt rfl rfl rfl Try.isAgg4 rfl rfl) ?_ | refine SL.step (PS.load_own (k := 2) rfl tt rfl rfl rfl Try.isAgg4 rfl rfl) ?_
  refine SL.step (PS.fieldAddr rfl tt Try.fieldAt_65_2 rfl rfl) ?_
  first | refine SL.step (PS.load_own (k := 0) rfl tt rfl rfl rfl Try.isAgg4 rfl rfl) ?_ | refine SL.step (PS.load_own (k := 1) rfl tt rfl rfl rfl Try.isAgg4 rfl rfl) ?_ | refine SL.step (PS.load_own (k := 2) rfl tt rfl rfl rfl Try.isAgg4 rfl rfl) ?_
  refine SL.step (PS.eqlB rfl tt rfl tt Try.underlying4 rfl rfl) ?_
  refine SL.keep (l' := [(13, _, _), (4, _, _), (3, _, _), (2, _, _)]) ⟨rfl, rfl, rfl, rfl, trivial⟩ ?_
  refine SL.nil (SE.thenK hK3 ?_)
  refine SC.cond rfl (fun c13 => ?_) (fun c13 => ?_)
  ·
   refine SC.seq (fun K4 hK4 => SC.region ?_)
   refine SL.step (PS.fieldAddr rfl tt Try.fieldAt_65_1 rfl rfl) ?_
   first | refine SL.step (PS.load_own (k := 0) rfl tt rfl rfl rfl Try.isAgg27 rfl rfl) ?_ | refine SL.step (PS.load_own (k := 1) rfl tt rfl rfl rfl Try.isAgg27 rfl rfl) ?_ | refine SL.step (PS.load_own (k := 2) rfl tt rfl rfl rfl Try.isAgg27 rfl rfl) ?_
   refine SL.step (PS.fieldAddr rfl tt Try.fieldAt_65_1 rfl rfl) ?_
   first | refine SL.step (PS.load_own (k := 0) rfl tt rfl rfl rfl Try.isAgg27 rfl rfl) ?_ | refine SL.step (PS.load_own (k := 1) rfl tt rfl rfl rfl Try.isAgg27 rfl rfl) ?_ | refine SL.step (PS.load_own (k := 2) rfl tt rfl rfl rfl Try.isAgg27 rfl rfl) ?_
   refine SL.step (PS.add rfl tt rfl tt rfl rfl) ?_
   refine SL.step (PS.assign rfl tt rfl rfl) ?_
   refine SL.keep (l' := [(5, _, _), (4, _, _), (3, _, _), (2, _, _)]) ⟨rfl, rfl, rfl, rfl, trivial⟩ ?_
   refine SL.nil (SE.thenK hK4 (SC.seq (fun K5 hK5 => SC.region ?_)))
   refine SL.step (PS.fieldAddr rfl tt Try.fieldAt_65_0 rfl rfl) ?_
   first | refine SL.step (PS.load_own (k := 0) rfl tt rfl rfl rfl Try.isAgg27 rfl rfl) ?_ | refine SL.step (PS.load_own (k := 1) rfl tt rfl rfl rfl Try.isAgg27 rfl rfl) ?_ | refine SL.step (PS.load_own (k := 2) rfl tt rfl rfl rfl Try.isAgg27 rfl rfl) ?_
   refine SL.step (PS.fieldAddr rfl tt Try.fieldAt_65_0 rfl rfl) ?_
   first | refine SL.step (PS.load_own (k := 0) rfl tt rfl rfl rfl Try.isAgg27 rfl rfl) ?_ | refine SL.step (PS.load_own (k := 1) rfl tt rfl rfl rfl Try.isAgg27 rfl rfl) ?_ | refine SL.step (PS.load_own (k := 2) rfl tt rfl rfl rfl Try.isAgg27 rfl rfl) ?_
   refine SL.step (PS.add rfl tt rfl tt rfl rfl) ?_
   refine SL.step (PS.assign rfl tt rfl rfl) ?_
   refine SL.keep (l' := [(6, _, _), (5, _, _), (4, _, _), (2, _, _)]) ⟨rfl, rfl, rfl, rfl, trivial⟩ ?_
   refine SL.nil (SE.thenK hK5 (SC.seq (fun K6 hK6 => SC.seq (fun K7 hK7 => SC.region ?_))))
   refine SL.step (PS.move rfl tt rfl rfl) ?_
   refine SL.step (PS.fieldAddr rfl tt Try.fieldAt_65_1 rfl rfl) ?_
   first | refine SL.step (PS.load_own (k := 0) rfl tt rfl rfl rfl Try.isAgg27 rfl rfl) ?_ | refine SL.step (PS.load_own (k := 1) rfl tt rfl rfl rfl Try.isAgg27 rfl rfl) ?_ | refine SL.step (PS.load_own (k := 2) rfl tt rfl rfl rfl Try.isAgg27 rfl rfl) ?_
   refine SL.step (PS.lss rfl tt rfl tt rfl rfl) ?_
   refine SL.keep (l' := [(27, _, _), (6, _, _), (5, _, _), (4, _, _), (2, _, _)]) ⟨rfl, rfl, rfl, rfl, rfl, trivial⟩ ?_
   refine SL.nil (SE.thenK hK7 ?_)
   refine SC.cond rfl (fun c27 => ?_) (fun c27 => ?_)
   ·
    refine SC.region ?_
    refine SL.step (PS.move rfl tt rfl rfl) ?_
    refine SL.step (PS.add rfl tt rfl tt rfl rfl) ?_
    refine SL.step (PS.assign rfl tt rfl rfl) ?_
    refine SL.keep (l' := [(6, _, _), (5, _, _), (4, _, _), (2, _, _)]) ⟨rfl, rfl, rfl, rfl, trivial⟩ ?_
    refine SL.nil (SE.thenK hK6 (SC.seq (fun K8 hK8 => SC.region ?_)))
    refine SL.step (PS.move rfl tt rfl rfl) ?_
    refine SL.step (PS.move rfl tt rfl rfl) ?_
    refine SL.step (PS.fieldAddr rfl tt Try.fieldAt_65_2 rfl rfl) ?_
    first | refine SL.step (PS.load_own (k := 0) rfl tt rfl rfl rfl Try.isAgg4 rfl rfl) ?_ | refine SL.step (PS.load_own (k := 1) rfl tt rfl rfl rfl Try.isAgg4 rfl rfl) ?_ | refine SL.step (PS.load_own (k := 2) rfl tt rfl rfl rfl Try.isAgg4 rfl rfl) ?_
    refine SL.step (PS.build (us := [(0, _), (1, _), (2, _)]) (vs := [_, _, _]) ⟨rfl, ⟨_, rfl, tt⟩, ⟨rfl, ⟨_, rfl, tt⟩, ⟨rfl, ⟨_, rfl, tt⟩, trivial⟩⟩⟩ Try.underlying65 Try.zeroValue65 (Try.places_65 Try.underlying65) rfl rfl rfl) ?_
    first | refine SL.store_own (k := 0) (own' := [_, _, _]) (cs' := [_, _, _]) rfl rfl rfl rfl rfl rfl rfl Try.sizeOf65 rfl (Nat.le_of_ble_eq_true rfl) rfl rfl rfl rfl ?_ | refine SL.store_own (k := 1) (own' := [_, _, _]) (cs' := [_, _, _]) rfl rfl rfl rfl rfl rfl rfl Try.sizeOf65 rfl (Nat.le_of_ble_eq_true rfl) rfl rfl rfl rfl ?_ | refine SL.store_own (k := 2) (own' := [_, _, _]) (cs' := [_, _, _]) rfl rfl rfl rfl rfl rfl rfl Try.sizeOf65 rfl (Nat.le_of_ble_eq_true rfl) rfl rfl rfl rfl ?_
    refine SL.keep (l' := [(4, _, _)]) ⟨rfl, trivial⟩ ?_
    refine SL.nil (SE.thenK hK8 (SC.ret (SE.then_ret ?_)))
    first | exact finVc (k := 0) rfl Try.isAgg65 Try.sizeOf65 rfl rfl rfl rfl (fun _ _ => congrArg (fun z : Bg => Bg.val z) (show ((⟨(IntKind.u64.wrap ((IntKind.u64.wrap (p0.hi + p1.hi)) + 1)), (IntKind.u64.wrap (p0.lo + p1.lo)), p0.below⟩ : Bg) : Bg) = (d_latheref01_Plus p0 p1) from ((bifT c13).trans ((bifT c27))).symm)) | exact finVc (k := 1) rfl Try.isAgg65 Try.sizeOf65 rfl rfl rfl rfl (fun _ _ => congrArg (fun z : Bg => Bg.val z) (show ((⟨(IntKind.u64.wrap ((IntKind.u64.wrap (p0.hi + p1.hi)) + 1)), (IntKind.u64.wrap (p0.lo + p1.lo)), p0.below⟩ : Bg) : Bg) = (d_latheref01_Plus p0 p1) from ((bifT c13).trans ((bifT c27))).symm)) | exact finVc (k := 2) rfl Try.isAgg65 Try.sizeOf65 rfl rfl rfl rfl (fun _ _ => congrArg (fun z : Bg => Bg.val z) (show ((⟨(IntKind.u64.wrap ((IntKind.u64.wrap (p0.hi + p1.hi)) + 1)), (IntKind.u64.wrap (p0.lo + p1.lo)), p0.below⟩ : Bg) : Bg) = (d_latheref01_Plus p0 p1) from ((bifT c13).trans ((bifT c27))).symm))
   ·
    refine SC.skip (SE.thenK hK6 (SC.seq (fun K9 hK9 => SC.region ?_)))
    refine SL.step (PS.move rfl tt rfl rfl) ?_
    refine SL.step (PS.move rfl tt rfl rfl) ?_
    refine SL.step (PS.fieldAddr rfl tt Try.fieldAt_65_2 rfl rfl) ?_
    first | refine SL.step (PS.load_own (k := 0) rfl tt rfl rfl rfl Try.isAgg4 rfl rfl) ?_ | refine SL.step (PS.load_own (k := 1) rfl tt rfl rfl rfl Try.isAgg4 rfl rfl) ?_ | refine SL.step (PS.load_own (k := 2) rfl tt rfl rfl rfl Try.isAgg4 rfl rfl) ?_
    refine SL.step (PS.build (us := [(0, _), (1, _), (2, _)]) (vs := [_, _, _]) ⟨rfl, ⟨_, rfl, tt⟩, ⟨rfl, ⟨_, rfl, tt⟩, ⟨rfl, ⟨_, rfl, tt⟩, trivial⟩⟩⟩ Try.underlying65 Try.zeroValue65 (Try.places_65 Try.underlying65) rfl rfl rfl) ?_
    first | refine SL.store_own (k := 0) (own' := [_, _, _]) (cs' := [_, _, _]) rfl rfl rfl rfl rfl rfl rfl Try.sizeOf65 rfl (Nat.le_of_ble_eq_true rfl) rfl rfl rfl rfl ?_ | refine SL.store_own (k := 1) (own' := [_, _, _]) (cs' := [_, _, _]) rfl rfl rfl rfl rfl rfl rfl Try.sizeOf65 rfl (Nat.le_of_ble_eq_true rfl) rfl rfl rfl rfl ?_ | refine SL.store_own (k := 2) (own' := [_, _, _]) (cs' := [_, _, _]) rfl rfl rfl rfl rfl rfl rfl Try.sizeOf65 rfl (Nat.le_of_ble_eq_true rfl) rfl rfl rfl rfl ?_
    refine SL.keep (l' := [(4, _, _)]) ⟨rfl, trivial⟩ ?_
    refine SL.nil (SE.thenK hK9 (SC.ret (SE.then_ret ?_)))
    first | exact finVc (k := 0) rfl Try.isAgg65 Try.sizeOf65 rfl rfl rfl rfl (fun _ _ => congrArg (fun z : Bg => Bg.val z) (show ((⟨(IntKind.u64.wrap (p0.hi + p1.hi)), (IntKind.u64.wrap (p0.lo + p1.lo)), p0.below⟩ : Bg) : Bg) = (d_latheref01_Plus p0 p1) from ((bifT c13).trans ((bifF c27))).symm)) | exact finVc (k := 1) rfl Try.isAgg65 Try.sizeOf65 rfl rfl rfl rfl (fun _ _ => congrArg (fun z : Bg => Bg.val z) (show ((⟨(IntKind.u64.wrap (p0.hi + p1.hi)), (IntKind.u64.wrap (p0.lo + p1.lo)), p0.below⟩ : Bg) : Bg) = (d_latheref01_Plus p0 p1) from ((bifT c13).trans ((bifF c27))).symm)) | exact finVc (k := 2) rfl Try.isAgg65 Try.sizeOf65 rfl rfl rfl rfl (fun _ _ => congrArg (fun z : Bg => Bg.val z) (show ((⟨(IntKind.u64.wrap (p0.hi + p1.hi)), (IntKind.u64.wrap (p0.lo + p1.lo)), p0.below⟩ : Bg) : Bg) = (d_latheref01_Plus p0 p1) from ((bifT c13).trans ((bifF c27))).symm))
  ·
   refine SC.skip (SE.thenK hK2 (SC.seq (fun K10 hK10 => SC.region ?_)))
   first | refine SL.step (PS.load_own_agg (k := 0) (vs := [_, _, _]) rfl tt rfl rfl rfl rfl Try.isAgg65 Try.sizeOf65 rfl rfl) ?_ | refine SL.step (PS.load_own_agg (k := 1) (vs := [_, _, _]) rfl tt rfl rfl rfl rfl Try.isAgg65 Try.sizeOf65 rfl rfl) ?_ | refine SL.step (PS.load_own_agg (k := 2) (vs := [_, _, _]) rfl tt rfl rfl rfl rfl Try.isAgg65 Try.sizeOf65 rfl rfl) ?_
   first | refine SL.step (PS.load_own_agg (k := 0) (vs := [_, _, _]) rfl tt rfl rfl rfl rfl Try.isAgg65 Try.sizeOf65 rfl rfl) ?_ | refine SL.step (PS.load_own_agg (k := 1) (vs := [_, _, _]) rfl tt rfl rfl rfl rfl Try.isAgg65 Try.sizeOf65 rfl rfl) ?_ | refine SL.step (PS.load_own_agg (k := 2) (vs := [_, _, _]) rfl tt rfl rfl rfl rfl Try.isAgg65 Try.sizeOf65 rfl rfl) ?_
   refine SL.callV (vs := [_, _]) Try.call74 ⟨⟨_, rfl, tt⟩, ⟨_, rfl, tt⟩, trivial⟩ (fun hg => latheref01_less_W _ _ _ _ _ _) rfl rfl ?_
   refine SL.step (PS.assign rfl tt rfl rfl) ?_
   refine SL.keep (l' := [(7, _, _), (4, _, _), (3, _, _), (2, _, _)]) ⟨rfl, rfl, rfl, rfl, trivial⟩ ?_
   refine SL.nil (SE.thenK hK10 (SC.seq (fun K11 hK11 => SC.seq (fun K12 hK12 => SC.region ?_))))
   refine SL.step (PS.move rfl tt rfl rfl) ?_
   refine SL.keep (l' := [(38, _, _), (4, _, _), (3, _, _), (2, _, _)]) ⟨rfl, rfl, rfl, rfl, trivial⟩ ?_
   refine SL.nil (SE.thenK hK12 ?_)
   refine SC.cond rfl (fun c38 => ?_) (fun c38 => ?_)
   ·
    refine SC.region ?_
    first | refine SL.step (PS.load_own_agg (k := 0) (vs := [_, _, _]) rfl tt rfl rfl rfl rfl Try.isAgg65 Try.sizeOf65 rfl rfl) ?_ | refine SL.step (PS.load_own_agg (k := 1) (vs := [_, _, _]) rfl tt rfl rfl rfl rfl Try.isAgg65 Try.sizeOf65 rfl rfl) ?_ | refine SL.step (PS.load_own_agg (k := 2) (vs := [_, _, _]) rfl tt rfl rfl rfl rfl Try.isAgg65 Try.sizeOf65 rfl rfl) ?_
    first | refine SL.step (PS.load_own_agg (k := 0) (vs := [_, _, _]) rfl tt rfl rfl rfl rfl Try.isAgg65 Try.sizeOf65 rfl rfl) ?_ | refine SL.step (PS.load_own_agg (k := 1) (vs := [_, _, _]) rfl tt rfl rfl rfl rfl Try.isAgg65 Try.sizeOf65 rfl rfl) ?_ | refine SL.step (PS.load_own_agg (k := 2) (vs := [_, _, _]) rfl tt rfl rfl rfl rfl Try.isAgg65 Try.sizeOf65 rfl rfl) ?_
    first | refine SL.store_own (k := 0) (own' := [_, _, _]) (cs' := [_, _, _]) rfl rfl rfl rfl rfl rfl rfl Try.sizeOf65 rfl (Nat.le_of_ble_eq_true rfl) rfl rfl rfl rfl ?_ | refine SL.store_own (k := 1) (own' := [_, _, _]) (cs' := [_, _, _]) rfl rfl rfl rfl rfl rfl rfl Try.sizeOf65 rfl (Nat.le_of_ble_eq_true rfl) rfl rfl rfl rfl ?_ | refine SL.store_own (k := 2) (own' := [_, _, _]) (cs' := [_, _, _]) rfl rfl rfl rfl rfl rfl rfl Try.sizeOf65 rfl (Nat.le_of_ble_eq_true rfl) rfl rfl rfl rfl ?_
    first | refine SL.store_own (k := 0) (own' := [_, _, _]) (cs' := [_, _, _]) rfl rfl rfl rfl rfl rfl rfl Try.sizeOf65 rfl (Nat.le_of_ble_eq_true rfl) rfl rfl rfl rfl ?_ | refine SL.store_own (k := 1) (own' := [_, _, _]) (cs' := [_, _, _]) rfl rfl rfl rfl rfl rfl rfl Try.sizeOf65 rfl (Nat.le_of_ble_eq_true rfl) rfl rfl rfl rfl ?_ | refine SL.store_own (k := 2) (own' := [_, _, _]) (cs' := [_, _, _]) rfl rfl rfl rfl rfl rfl rfl Try.sizeOf65 rfl (Nat.le_of_ble_eq_true rfl) rfl rfl rfl rfl ?_
    refine SL.keep (l' := [(4, _, _), (3, _, _), (2, _, _)]) ⟨rfl, rfl, rfl, trivial⟩ ?_
    refine SL.nil (SE.thenK hK11 (SC.seq (fun K13 hK13 => SC.region ?_)))
    refine SL.step (PS.fieldAddr rfl tt Try.fieldAt_65_0 rfl rfl) ?_
    first | refine SL.step (PS.load_own (k := 0) rfl tt rfl rfl rfl Try.isAgg27 rfl rfl) ?_ | refine SL.step (PS.load_own (k := 1) rfl tt rfl rfl rfl Try.isAgg27 rfl rfl) ?_ | refine SL.step (PS.load_own (k := 2) rfl tt rfl rfl rfl Try.isAgg27 rfl rfl) ?_
    refine SL.step (PS.fieldAddr rfl tt Try.fieldAt_65_0 rfl rfl) ?_
    first | refine SL.step (PS.load_own (k := 0) rfl tt rfl rfl rfl Try.isAgg27 rfl rfl) ?_ | refine SL.step (PS.load_own (k := 1) rfl tt rfl rfl rfl Try.isAgg27 rfl rfl) ?_ | refine SL.step (PS.load_own (k := 2) rfl tt rfl rfl rfl Try.isAgg27 rfl rfl) ?_
    refine SL.step (PS.sub rfl tt rfl tt rfl rfl) ?_
    refine SL.step (PS.assign rfl tt rfl rfl) ?_
    refine SL.keep (l' := [(8, _, _), (4, _, _), (3, _, _), (2, _, _)]) ⟨rfl, rfl, rfl, rfl, trivial⟩ ?_
    refine SL.nil (SE.thenK hK13 (SC.seq (fun K14 hK14 => SC.seq (fun K15 hK15 => SC.region ?_))))
    refine SL.step (PS.fieldAddr rfl tt Try.fieldAt_65_1 rfl rfl) ?_
    first | refine SL.step (PS.load_own (k := 0) rfl tt rfl rfl rfl Try.isAgg27 rfl rfl) ?_ | refine SL.step (PS.load_own (k := 1) rfl tt rfl rfl rfl Try.isAgg27 rfl rfl) ?_ | refine SL.step (PS.load_own (k := 2) rfl tt rfl rfl rfl Try.isAgg27 rfl rfl) ?_
    refine SL.step (PS.fieldAddr rfl tt Try.fieldAt_65_1 rfl rfl) ?_
    first | refine SL.step (PS.load_own (k := 0) rfl tt rfl rfl rfl Try.isAgg27 rfl rfl) ?_ | refine SL.step (PS.load_own (k := 1) rfl tt rfl rfl rfl Try.isAgg27 rfl rfl) ?_ | refine SL.step (PS.load_own (k := 2) rfl tt rfl rfl rfl Try.isAgg27 rfl rfl) ?_
    refine SL.step (PS.lss rfl tt rfl tt rfl rfl) ?_
    refine SL.keep (l' := [(50, _, _), (8, _, _), (4, _, _), (3, _, _), (2, _, _)]) ⟨rfl, rfl, rfl, rfl, rfl, trivial⟩ ?_
    refine SL.nil (SE.thenK hK15 ?_)
    refine SC.cond rfl (fun c50 => ?_) (fun c50 => ?_)
    ·
     refine SC.region ?_
     refine SL.step (PS.move rfl tt rfl rfl) ?_
     refine SL.step (PS.sub rfl tt rfl tt rfl rfl) ?_
     refine SL.step (PS.assign rfl tt rfl rfl) ?_
     refine SL.keep (l' := [(8, _, _), (4, _, _), (3, _, _), (2, _, _)]) ⟨rfl, rfl, rfl, rfl, trivial⟩ ?_
     refine SL.nil (SE.thenK hK14 (SC.seq (fun K16 hK16 => SC.region ?_)))
     refine SL.step (PS.move rfl tt rfl rfl) ?_
     refine SL.step (PS.fieldAddr rfl tt Try.fieldAt_65_1 rfl rfl) ?_
     first | refine SL.step (PS.load_own (k := 0) rfl tt rfl rfl rfl Try.isAgg27 rfl rfl) ?_ | refine SL.step (PS.load_own (k := 1) rfl tt rfl rfl rfl Try.isAgg27 rfl rfl) ?_ | refine SL.step (PS.load_own (k := 2) rfl tt rfl rfl rfl Try.isAgg27 rfl rfl) ?_
     refine SL.step (PS.fieldAddr rfl tt Try.fieldAt_65_1 rfl rfl) ?_
     first | refine SL.step (PS.load_own (k := 0) rfl tt rfl rfl rfl Try.isAgg27 rfl rfl) ?_ | refine SL.step (PS.load_own (k := 1) rfl tt rfl rfl rfl Try.isAgg27 rfl rfl) ?_ | refine SL.step (PS.load_own (k := 2) rfl tt rfl rfl rfl Try.isAgg27 rfl rfl) ?_
     refine SL.step (PS.sub rfl tt rfl tt rfl rfl) ?_
     refine SL.step (PS.fieldAddr rfl tt Try.fieldAt_65_2 rfl rfl) ?_
     first | refine SL.step (PS.load_own (k := 0) rfl tt rfl rfl rfl Try.isAgg4 rfl rfl) ?_ | refine SL.step (PS.load_own (k := 1) rfl tt rfl rfl rfl Try.isAgg4 rfl rfl) ?_ | refine SL.step (PS.load_own (k := 2) rfl tt rfl rfl rfl Try.isAgg4 rfl rfl) ?_
     refine SL.step (PS.build (us := [(0, _), (1, _), (2, _)]) (vs := [_, _, _]) ⟨rfl, ⟨_, rfl, tt⟩, ⟨rfl, ⟨_, rfl, tt⟩, ⟨rfl, ⟨_, rfl, tt⟩, trivial⟩⟩⟩ Try.underlying65 Try.zeroValue65 (Try.places_65 Try.underlying65) rfl rfl rfl) ?_
     refine SL.callV (vs := [_]) Try.call73 ⟨⟨_, rfl, tt⟩, trivial⟩ (fun hg => latheref01_fixed_W _ _ _) rfl rfl ?_
     first | refine SL.store_own (k := 0) (own' := [_, _, _]) (cs' := [_, _, _]) rfl rfl rfl rfl rfl rfl rfl Try.sizeOf65 rfl (Nat.le_of_ble_eq_true rfl) rfl rfl rfl rfl ?_ | refine SL.store_own (k := 1) (own' := [_, _, _]) (cs' := [_, _, _]) rfl rfl rfl rfl rfl rfl rfl Try.sizeOf65 rfl (Nat.le_of_ble_eq_true rfl) rfl rfl rfl rfl ?_ | refine SL.store_own (k := 2) (own' := [_, _, _]) (cs' := [_, _, _]) rfl rfl rfl rfl rfl rfl rfl Try.sizeOf65 rfl (Nat.le_of_ble_eq_true rfl) rfl rfl rfl rfl ?_
     refine SL.keep (l' := [(4, _, _)]) ⟨rfl, trivial⟩ ?_
     refine SL.nil (SE.thenK hK16 (SC.ret ?_))
     first | exact finVc (k := 0) rfl Try.isAgg65 Try.sizeOf65 rfl rfl rfl rfl (fun _ _ => congrArg (fun z : Bg => Bg.val z) (show ((d_latheref01_fixed (⟨(IntKind.u64.wrap ((IntKind.u64.wrap (p1.hi - p0.hi)) - 1)), (IntKind.u64.wrap (p1.lo - p0.lo)), p1.below⟩ : Bg)) : Bg) = (d_latheref01_Plus p0 p1) from ((bifF c13).trans ((bifT c38).trans ((bifT c50)))).symm)) | exact finVc (k := 1) rfl Try.isAgg65 Try.sizeOf65 rfl rfl rfl rfl (fun _ _ => congrArg (fun z : Bg => Bg.val z) (show ((d_latheref01_fixed (⟨(IntKind.u64.wrap ((IntKind.u64.wrap (p1.hi - p0.hi)) - 1)), (IntKind.u64.wrap (p1.lo - p0.lo)), p1.below⟩ : Bg)) : Bg) = (d_latheref01_Plus p0 p1) from ((bifF c13).trans ((bifT c38).trans ((bifT c50)))).symm)) | exact finVc (k := 2) rfl Try.isAgg65 Try.sizeOf65 rfl rfl rfl rfl (fun _ _ => congrArg (fun z : Bg => Bg.val z) (show ((d_latheref01_fixed (⟨(IntKind.u64.wrap ((IntKind.u64.wrap (p1.hi - p0.hi)) - 1)), (IntKind.u64.wrap (p1.lo - p0.lo)), p1.below⟩ : Bg)) : Bg) = (d_latheref01_Plus p0 p1) from ((bifF c13).trans ((bifT c38).trans ((bifT c50)))).symm))
    ·
     refine SC.skip (SE.thenK hK14 (SC.seq (fun K17 hK17 => SC.region ?_)))
     refine SL.step (PS.move rfl tt rfl rfl) ?_
     refine SL.step (PS.fieldAddr rfl tt Try.fieldAt_65_1 rfl rfl) ?_
     first | refine SL.step (PS.load_own (k := 0) rfl tt rfl rfl rfl Try.isAgg27 rfl rfl) ?_ | refine SL.step (PS.load_own (k := 1) rfl tt rfl rfl rfl Try.isAgg27 rfl rfl) ?_ | refine SL.step (PS.load_own (k := 2) rfl tt rfl rfl rfl Try.isAgg27 rfl rfl) ?_
     refine SL.step (PS.fieldAddr rfl tt Try.fieldAt_65_1 rfl rfl) ?_
     first | refine SL.step (PS.load_own (k := 0) rfl tt rfl rfl rfl Try.isAgg27 rfl rfl) ?_ | refine SL.step (PS.load_own (k := 1) rfl tt rfl rfl rfl Try.isAgg27 rfl rfl) ?_ | refine SL.step (PS.load_own (k := 2) rfl tt rfl rfl rfl Try.isAgg27 rfl rfl) ?_
     refine SL.step (PS.sub rfl tt rfl tt rfl rfl) ?_
     refine SL.step (PS.fieldAddr rfl tt Try.fieldAt_65_2 rfl rfl) ?_
     first | refine SL.step (PS.load_own (k := 0) rfl tt rfl rfl rfl Try.isAgg4 rfl rfl) ?_ | refine SL.step (PS.load_own (k := 1) rfl tt rfl rfl rfl Try.isAgg4 rfl rfl) ?_ | refine SL.step (PS.load_own (k := 2) rfl tt rfl rfl rfl Try.isAgg4 rfl rfl) ?_
     refine SL.step (PS.build (us := [(0, _), (1, _), (2, _)]) (vs := [_, _, _]) ⟨rfl, ⟨_, rfl, tt⟩, ⟨rfl, ⟨_, rfl, tt⟩, ⟨rfl, ⟨_, rfl, tt⟩, trivial⟩⟩⟩ Try.underlying65 Try.zeroValue65 (Try.places_65 Try.underlying65) rfl rfl rfl) ?_
     refine SL.callV (vs := [_]) Try.call73 ⟨⟨_, rfl, tt⟩, trivial⟩ (fun hg => latheref01_fixed_W _ _ _) rfl rfl ?_
     first | refine SL.store_own (k := 0) (own' := [_, _, _]) (cs' := [_, _, _]) rfl rfl rfl rfl rfl rfl rfl Try.sizeOf65 rfl (Nat.le_of_ble_eq_true rfl) rfl rfl rfl rfl ?_ | refine SL.store_own (k := 1) (own' := [_, _, _]) (cs' := [_, _, _]) rfl rfl rfl rfl rfl rfl rfl Try.sizeOf65 rfl (Nat.le_of_ble_eq_true rfl) rfl rfl rfl rfl ?_ | refine SL.store_own (k := 2) (own' := [_, _, _]) (cs' := [_, _, _]) rfl rfl rfl rfl rfl rfl rfl Try.sizeOf65 rfl (Nat.le_of_ble_eq_true rfl) rfl rfl rfl rfl ?_
     refine SL.keep (l' := [(4, _, _)]) ⟨rfl, trivial⟩ ?_
     refine SL.nil (SE.thenK hK17 (SC.ret ?_))
     first | exact finVc (k := 0) rfl Try.isAgg65 Try.sizeOf65 rfl rfl rfl rfl (fun _ _ => congrArg (fun z : Bg => Bg.val z) (show ((d_latheref01_fixed (⟨(IntKind.u64.wrap (p1.hi - p0.hi)), (IntKind.u64.wrap (p1.lo - p0.lo)), p1.below⟩ : Bg)) : Bg) = (d_latheref01_Plus p0 p1) from ((bifF c13).trans ((bifT c38).trans ((bifF c50)))).symm)) | exact finVc (k := 1) rfl Try.isAgg65 Try.sizeOf65 rfl rfl rfl rfl (fun _ _ => congrArg (fun z : Bg => Bg.val z) (show ((d_latheref01_fixed (⟨(IntKind.u64.wrap (p1.hi - p0.hi)), (IntKind.u64.wrap (p1.lo - p0.lo)), p1.below⟩ : Bg)) : Bg) = (d_latheref01_Plus p0 p1) from ((bifF c13).trans ((bifT c38).trans ((bifF c50)))).symm)) | exact finVc (k := 2) rfl Try.isAgg65 Try.sizeOf65 rfl rfl rfl rfl (fun _ _ => congrArg (fun z : Bg => Bg.val z) (show ((d_latheref01_fixed (⟨(IntKind.u64.wrap (p1.hi - p0.hi)), (IntKind.u64.wrap (p1.lo - p0.lo)), p1.below⟩ : Bg)) : Bg) = (d_latheref01_Plus p0 p1) from ((bifF c13).trans ((bifT c38).trans ((bifF c50)))).symm))
   ·
    refine SC.skip (SE.thenK hK11 (SC.seq (fun K18 hK18 => SC.region ?_)))
    refine SL.step (PS.fieldAddr rfl tt Try.fieldAt_65_0 rfl rfl) ?_
    first | refine SL.step (PS.load_own (k := 0) rfl tt rfl rfl rfl Try.isAgg27 rfl rfl) ?_ | refine SL.step (PS.load_own (k := 1) rfl tt rfl rfl rfl Try.isAgg27 rfl rfl) ?_ | refine SL.step (PS.load_own (k := 2) rfl tt rfl rfl rfl Try.isAgg27 rfl rfl) ?_
    refine SL.step (PS.fieldAddr rfl tt Try.fieldAt_65_0 rfl rfl) ?_
    first | refine SL.step (PS.load_own (k := 0) rfl tt rfl rfl rfl Try.isAgg27 rfl rfl) ?_ | refine SL.step (PS.load_own (k := 1) rfl tt rfl rfl rfl Try.isAgg27 rfl rfl) ?_ | refine SL.step (PS.load_own (k := 2) rfl tt rfl rfl rfl Try.isAgg27 rfl rfl) ?_
    refine SL.step (PS.sub rfl tt rfl tt rfl rfl) ?_
    refine SL.step (PS.assign rfl tt rfl rfl) ?_
    refine SL.keep (l' := [(8, _, _), (4, _, _), (3, _, _), (2, _, _)]) ⟨rfl, rfl, rfl, rfl, trivial⟩ ?_
    refine SL.nil (SE.thenK hK18 (SC.seq (fun K19 hK19 => SC.seq (fun K20 hK20 => SC.region ?_))))
    refine SL.step (PS.fieldAddr rfl tt Try.fieldAt_65_1 rfl rfl) ?_
    first | refine SL.step (PS.load_own (k := 0) rfl tt rfl rfl rfl Try.isAgg27 rfl rfl) ?_ | refine SL.step (PS.load_own (k := 1) rfl tt rfl rfl rfl Try.isAgg27 rfl rfl) ?_ | refine SL.step (PS.load_own (k := 2) rfl tt rfl rfl rfl Try.isAgg27 rfl rfl) ?_
    refine SL.step (PS.fieldAddr rfl tt Try.fieldAt_65_1 rfl rfl) ?_
    first | refine SL.step (PS.load_own (k := 0) rfl tt rfl rfl rfl Try.isAgg27 rfl rfl) ?_ | refine SL.step (PS.load_own (k := 1) rfl tt rfl rfl rfl Try.isAgg27 rfl rfl) ?_ | refine SL.step (PS.load_own (k := 2) rfl tt rfl rfl rfl Try.isAgg27 rfl rfl) ?_
    refine SL.step (PS.lss rfl tt rfl tt rfl rfl) ?_
    refine SL.keep (l' := [(50, _, _), (8, _, _), (4, _, _), (3, _, _), (2, _, _)]) ⟨rfl, rfl, rfl, rfl, rfl, trivial⟩ ?_
    refine SL.nil (SE.thenK hK20 ?_)
    refine SC.cond rfl (fun c50 => ?_) (fun c50 => ?_)
    ·
     refine SC.region ?_
     refine SL.step (PS.move rfl tt rfl rfl) ?_
     refine SL.step (PS.sub rfl tt rfl tt rfl rfl) ?_
     refine SL.step (PS.assign rfl tt rfl rfl) ?_
     refine SL.keep (l' := [(8, _, _), (4, _, _), (3, _, _), (2, _, _)]) ⟨rfl, rfl, rfl, rfl, trivial⟩ ?_
     refine SL.nil (SE.thenK hK19 (SC.seq (fun K21 hK21 => SC.region ?_)))
     refine SL.step (PS.move rfl tt rfl rfl) ?_
     refine SL.step (PS.fieldAddr rfl tt Try.fieldAt_65_1 rfl rfl) ?_
     first | refine SL.step (PS.load_own (k := 0) rfl tt rfl rfl rfl Try.isAgg27 rfl rfl) ?_ | refine SL.step (PS.load_own (k := 1) rfl tt rfl rfl rfl Try.isAgg27 rfl rfl) ?_ | refine SL.step (PS.load_own (k := 2) rfl tt rfl rfl rfl Try.isAgg27 rfl rfl) ?_
     refine SL.step (PS.fieldAddr rfl tt Try.fieldAt_65_1 rfl rfl) ?_
     first | refine SL.step (PS.load_own (k := 0) rfl tt rfl rfl rfl Try.isAgg27 rfl rfl) ?_ | refine SL.step (PS.load_own (k := 1) rfl tt rfl rfl rfl Try.isAgg27 rfl rfl) ?_ | refine SL.step (PS.load_own (k := 2) rfl tt rfl rfl rfl Try.isAgg27 rfl rfl) ?_
     refine SL.step (PS.sub rfl tt rfl tt rfl rfl) ?_
     refine SL.step (PS.fieldAddr rfl tt Try.fieldAt_65_2 rfl rfl) ?_
     first | refine SL.step (PS.load_own (k := 0) rfl tt rfl rfl rfl Try.isAgg4 rfl rfl) ?_ | refine SL.step (PS.load_own (k := 1) rfl tt rfl rfl rfl Try.isAgg4 rfl rfl) ?_ | refine SL.step (PS.load_own (k := 2) rfl tt rfl rfl rfl Try.isAgg4 rfl rfl) ?_
     refine SL.step (PS.build (us := [(0, _), (1, _), (2, _)]) (vs := [_, _, _]) ⟨rfl, ⟨_, rfl, tt⟩, ⟨rfl, ⟨_, rfl, tt⟩, ⟨rfl, ⟨_, rfl, tt⟩, trivial⟩⟩⟩ Try.underlying65 Try.zeroValue65 (Try.places_65 Try.underlying65) rfl rfl rfl) ?_
     refine SL.callV (vs := [_]) Try.call73 ⟨⟨_, rfl, tt⟩, trivial⟩ (fun hg => latheref01_fixed_W _ _ _) rfl rfl ?_
     first | refine SL.store_own (k := 0) (own' := [_, _, _]) (cs' := [_, _, _]) rfl rfl rfl rfl rfl rfl rfl Try.sizeOf65 rfl (Nat.le_of_ble_eq_true rfl) rfl rfl rfl rfl ?_ | refine SL.store_own (k := 1) (own' := [_, _, _]) (cs' := [_, _, _]) rfl rfl rfl rfl rfl rfl rfl Try.sizeOf65 rfl (Nat.le_of_ble_eq_true rfl) rfl rfl rfl rfl ?_ | refine SL.store_own (k := 2) (own' := [_, _, _]) (cs' := [_, _, _]) rfl rfl rfl rfl rfl rfl rfl Try.sizeOf65 rfl (Nat.le_of_ble_eq_true rfl) rfl rfl rfl rfl ?_
     refine SL.keep (l' := [(4, _, _)]) ⟨rfl, trivial⟩ ?_
     refine SL.nil (SE.thenK hK21 (SC.ret ?_))
     first | exact finVc (k := 0) rfl Try.isAgg65 Try.sizeOf65 rfl rfl rfl rfl (fun _ _ => congrArg (fun z : Bg => Bg.val z) (show ((d_latheref01_fixed (⟨(IntKind.u64.wrap ((IntKind.u64.wrap (p0.hi - p1.hi)) - 1)), (IntKind.u64.wrap (p0.lo - p1.lo)), p0.below⟩ : Bg)) : Bg) = (d_latheref01_Plus p0 p1) from ((bifF c13).trans ((bifF c38).trans ((bifT c50)))).symm)) | exact finVc (k := 1) rfl Try.isAgg65 Try.sizeOf65 rfl rfl rfl rfl (fun _ _ => congrArg (fun z : Bg => Bg.val z) (show ((d_latheref01_fixed (⟨(IntKind.u64.wrap ((IntKind.u64.wrap (p0.hi - p1.hi)) - 1)), (IntKind.u64.wrap (p0.lo - p1.lo)), p0.below⟩ : Bg)) : Bg) = (d_latheref01_Plus p0 p1) from ((bifF c13).trans ((bifF c38).trans ((bifT c50)))).symm)) | exact finVc (k := 2) rfl Try.isAgg65 Try.sizeOf65 rfl rfl rfl rfl (fun _ _ => congrArg (fun z : Bg => Bg.val z) (show ((d_latheref01_fixed (⟨(IntKind.u64.wrap ((IntKind.u64.wrap (p0.hi - p1.hi)) - 1)), (IntKind.u64.wrap (p0.lo - p1.lo)), p0.below⟩ : Bg)) : Bg) = (d_latheref01_Plus p0 p1) from ((bifF c13).trans ((bifF c38).trans ((bifT c50)))).symm))
    ·
     refine SC.skip (SE.thenK hK19 (SC.seq (fun K22 hK22 => SC.region ?_)))
     refine SL.step (PS.move rfl tt rfl rfl) ?_
     refine SL.step (PS.fieldAddr rfl tt Try.fieldAt_65_1 rfl rfl) ?_
     first | refine SL.step (PS.load_own (k := 0) rfl tt rfl rfl rfl Try.isAgg27 rfl rfl) ?_ | refine SL.step (PS.load_own (k := 1) rfl tt rfl rfl rfl Try.isAgg27 rfl rfl) ?_ | refine SL.step (PS.load_own (k := 2) rfl tt rfl rfl rfl Try.isAgg27 rfl rfl) ?_
     refine SL.step (PS.fieldAddr rfl tt Try.fieldAt_65_1 rfl rfl) ?_
     first | refine SL.step (PS.load_own (k := 0) rfl tt rfl rfl rfl Try.isAgg27 rfl rfl) ?_ | refine SL.step (PS.load_own (k := 1) rfl tt rfl rfl rfl Try.isAgg27 rfl rfl) ?_ | refine SL.step (PS.load_own (k := 2) rfl tt rfl rfl rfl Try.isAgg27 rfl rfl) ?_
     refine SL.step (PS.sub rfl tt rfl tt rfl rfl) ?_
     refine SL.step (PS.fieldAddr rfl tt Try.fieldAt_65_2 rfl rfl) ?_
     first | refine SL.step (PS.load_own (k := 0) rfl tt rfl rfl rfl Try.isAgg4 rfl rfl) ?_ | refine SL.step (PS.load_own (k := 1) rfl tt rfl rfl rfl Try.isAgg4 rfl rfl) ?_ | refine SL.step (PS.load_own (k := 2) rfl tt rfl rfl rfl Try.isAgg4 rfl rfl) ?_
     refine SL.step (PS.build (us := [(0, _), (1, _), (2, _)]) (vs := [_, _, _]) ⟨rfl, ⟨_, rfl, tt⟩, ⟨rfl, ⟨_, rfl, tt⟩, ⟨rfl, ⟨_, rfl, tt⟩, trivial⟩⟩⟩ Try.underlying65 Try.zeroValue65 (Try.places_65 Try.underlying65) rfl rfl rfl) ?_
     refine SL.callV (vs := [_]) Try.call73 ⟨⟨_, rfl, tt⟩, trivial⟩ (fun hg => latheref01_fixed_W _ _ _) rfl rfl ?_
     first | refine SL.store_own (k := 0) (own' := [_, _, _]) (cs' := [_, _, _]) rfl rfl rfl rfl rfl rfl rfl Try.sizeOf65 rfl (Nat.le_of_ble_eq_true rfl) rfl rfl rfl rfl ?_ | refine SL.store_own (k := 1) (own' := [_, _, _]) (cs' := [_, _, _]) rfl rfl rfl rfl rfl rfl rfl Try.sizeOf65 rfl (Nat.le_of_ble_eq_true rfl) rfl rfl rfl rfl ?_ | refine SL.store_own (k := 2) (own' := [_, _, _]) (cs' := [_, _, _]) rfl rfl rfl rfl rfl rfl rfl Try.sizeOf65 rfl (Nat.le_of_ble_eq_true rfl) rfl rfl rfl rfl ?_
     refine SL.keep (l' := [(4, _, _)]) ⟨rfl, trivial⟩ ?_
     refine SL.nil (SE.thenK hK22 (SC.ret ?_))
     first | exact finVc (k := 0) rfl Try.isAgg65 Try.sizeOf65 rfl rfl rfl rfl (fun _ _ => congrArg (fun z : Bg => Bg.val z) (show ((d_latheref01_fixed (⟨(IntKind.u64.wrap (p0.hi - p1.hi)), (IntKind.u64.wrap (p0.lo - p1.lo)), p0.below⟩ : Bg)) : Bg) = (d_latheref01_Plus p0 p1) from ((bifF c13).trans ((bifF c38).trans ((bifF c50)))).symm)) | exact finVc (k := 1) rfl Try.isAgg65 Try.sizeOf65 rfl rfl rfl rfl (fun _ _ => congrArg (fun z : Bg => Bg.val z) (show ((d_latheref01_fixed (⟨(IntKind.u64.wrap (p0.hi - p1.hi)), (IntKind.u64.wrap (p0.lo - p1.lo)), p0.below⟩ : Bg)) : Bg) = (d_latheref01_Plus p0 p1) from ((bifF c13).trans ((bifF c38).trans ((bifF c50)))).symm)) | exact finVc (k := 2) rfl Try.isAgg65 Try.sizeOf65 rfl rfl rfl rfl (fun _ _ => congrArg (fun z : Bg => Bg.val z) (show ((d_latheref01_fixed (⟨(IntKind.u64.wrap (p0.hi - p1.hi)), (IntKind.u64.wrap (p0.lo - p1.lo)), p0.below⟩ : Bg)) : Bg) = (d_latheref01_Plus p0 p1) from ((bifF c13).trans ((bifF c38).trans ((bifF c50)))).symm))
theorem latheref01_Plus_W (p0_hi : Int) (p0_lo : Int) (p0_below : Bool) (p1_hi : Int) (p1_lo : Int) (p1_below : Bool)  : SpecV Try.prog 70 [.agg [.int .u64 p0_hi, .int .u64 p0_lo, .bool p0_below].toArray, .agg [.int .u64 p1_hi, .int .u64 p1_lo, .bool p1_below].toArray] (Bg.val (d_latheref01_Plus ⟨p0_hi, p0_lo, p0_below⟩ ⟨p1_hi, p1_lo, p1_below⟩)) := latheref01_Plus_V ⟨p0_hi, p0_lo, p0_below⟩ ⟨p1_hi, p1_lo, p1_below⟩ 
def d_latheref01_Minus (p0 : Bg) : Bg :=
  (d_latheref01_fixed (⟨p0.hi, p0.lo, (!p0.below)⟩ : Bg))
theorem latheref01_Minus_V (p0 : Bg)  : SpecV Try.prog 71 [p0.val] (Bg.val (d_latheref01_Minus p0)) := by
  refine SpecV.enter Try.func71 rfl (n := 9) Try.ntmps71 (Nat.le_of_ble_eq_true rfl) (l := [(0, _, _)]) rfl ?_
  intro w
  refine SC.seq (fun K1 hK1 => SC.region ?_)
  refine SL.box (cs := [_, _, _]) rfl rfl rfl rfl rfl (fun b1 => ?_)
  refine SL.alloc (cs := [_, _, _]) Try.zeroValue65 rfl rfl rfl (fun b2 => ?_)
  refine SL.keep (l' := [(2, _, _), (1, _, _)]) ⟨rfl, rfl, trivial⟩ ?_
  refine SL.nil (SE.thenK hK1 (SC.seq (fun K2 hK2 => SC.region ?_)))
  refine SL.step (PS.fieldAddr rfl tt Try.fieldAt_65_2 rfl rfl) ?_
  first | refine SL.step (PS.load_own (k := 0) rfl tt rfl rfl rfl Try.isAgg4 rfl rfl) ?_ | refine SL.step (PS.load_own (k := 1) rfl tt rfl rfl rfl Try.isAgg4 rfl rfl) ?_
  refine SL.step (PS.not rfl tt rfl rfl) ?_
  refine SL.step (PS.fieldAddr rfl tt Try.fieldAt_65_2 rfl rfl) ?_
  first | refine SL.store_own (k := 0) (own' := [_, _]) (cs' := [_, _, _]) rfl rfl rfl rfl rfl rfl rfl Try.sizeOf4 rfl (Nat.le_of_ble_eq_true rfl) rfl rfl rfl rfl ?_ | refine SL.store_own (k := 1) (own' := [_, _]) (cs' := [_, _, _]) rfl rfl rfl rfl rfl rfl rfl Try.sizeOf4 rfl (Nat.le_of_ble_eq_true rfl) rfl rfl rfl rfl ?_
  refine SL.keep (l' := [(2, _, _), (1, _, _)]) ⟨rfl, rfl, trivial⟩ ?_
  refine SL.nil (SE.thenK hK2 (SC.seq (fun K3 hK3 => SC.region ?_)))
  first | refine SL.step (PS.load_own_agg (k := 0) (vs := [_, _, _]) rfl tt rfl rfl rfl rfl Try.isAgg65 Try.sizeOf65 rfl rfl) ?_ | refine SL.step (PS.load_own_agg (k := 1) (vs := [_, _, _]) rfl tt rfl rfl rfl rfl Try.isAgg65 Try.sizeOf65 rfl rfl) ?_
  refine SL.callV (vs := [_]) Try.call73 ⟨⟨_, rfl, tt⟩, trivial⟩ (fun hg => latheref01_fixed_W _ _ _) rfl rfl ?_
  first | refine SL.store_own (k := 0) (own' := [_, _]) (cs' := [_, _, _]) rfl rfl rfl rfl rfl rfl rfl Try.sizeOf65 rfl (Nat.le_of_ble_eq_true rfl) rfl rfl rfl rfl ?_ | refine SL.store_own (k := 1) (own' := [_, _]) (cs' := [_, _, _]) rfl rfl rfl rfl rfl rfl rfl Try.sizeOf65 rfl (Nat.le_of_ble_eq_true rfl) rfl rfl rfl rfl ?_
  refine SL.keep (l' := [(2, _, _)]) ⟨rfl, trivial⟩ ?_
  refine SL.nil (SE.thenK hK3 (SC.ret ?_))
  first | exact finVc (k := 0) rfl Try.isAgg65 Try.sizeOf65 rfl rfl rfl rfl (fun _ _ => rfl) | exact finVc (k := 1) rfl Try.isAgg65 Try.sizeOf65 rfl rfl rfl rfl (fun _ _ => rfl)
theorem latheref01_Minus_W (p0_hi : Int) (p0_lo : Int) (p0_below : Bool)  : SpecV Try.prog 71 [.agg [.int .u64 p0_hi, .int .u64 p0_lo, .bool p0_below].toArray] (Bg.val (d_latheref01_Minus ⟨p0_hi, p0_lo, p0_below⟩)) := latheref01_Minus_V ⟨p0_hi, p0_lo, p0_below⟩ 
def d_latheref01_Times (p0 : Bg) (p1 : Bg) : Bg :=
  (d_latheref01_fixed (⟨(d_latheref01_Plus (d_latheref01_Plus (⟨0, (IntKind.u64.wrap ((Int.tmod p0.lo 4294967296) * (Int.tmod p1.lo 4294967296))), false⟩ : Bg) (⟨(IntKind.u64.wrap ((IntKind.u64.wrap ((d_latheref01_Plus (⟨0, (IntKind.u64.wrap ((IntKind.u64.wrap (Int.tdiv p0.lo 4294967296)) * (Int.tmod p1.lo 4294967296))), false⟩ : Bg) (⟨0, (IntKind.u64.wrap ((Int.tmod p0.lo 4294967296) * (IntKind.u64.wrap (Int.tdiv p1.lo 4294967296)))), false⟩ : Bg)).hi * 4294967296)) + (IntKind.u64.wrap (Int.tdiv (d_latheref01_Plus (⟨0, (IntKind.u64.wrap ((IntKind.u64.wrap (Int.tdiv p0.lo 4294967296)) * (Int.tmod p1.lo 4294967296))), false⟩ : Bg) (⟨0, (IntKind.u64.wrap ((Int.tmod p0.lo 4294967296) * (IntKind.u64.wrap (Int.tdiv p1.lo 4294967296)))), false⟩ : Bg)).lo 4294967296)))), (IntKind.u64.wrap ((Int.tmod (d_latheref01_Plus (⟨0, (IntKind.u64.wrap ((IntKind.u64.wrap (Int.tdiv p0.lo 4294967296)) * (Int.tmod p1.lo 4294967296))), false⟩ : Bg) (⟨0, (IntKind.u64.wrap ((Int.tmod p0.lo 4294967296) * (IntKind.u64.wrap (Int.tdiv p1.lo 4294967296)))), false⟩ : Bg)).lo 4294967296) * 4294967296)), false⟩ : Bg)) (⟨(IntKind.u64.wrap ((IntKind.u64.wrap (Int.tdiv p0.lo 4294967296)) * (IntKind.u64.wrap (Int.tdiv p1.lo 4294967296)))), 0, false⟩ : Bg)).hi, (d_latheref01_Plus (d_latheref01_Plus (⟨0, (IntKind.u64.wrap ((Int.tmod p0.lo 4294967296) * (Int.tmod p1.lo 4294967296))), false⟩ : Bg) (⟨(IntKind.u64.wrap ((IntKind.u64.wrap ((d_latheref01_Plus (⟨0, (IntKind.u64.wrap ((IntKind.u64.wrap (Int.tdiv p0.lo 4294967296)) * (Int.tmod p1.lo 4294967296))), false⟩ : Bg) (⟨0, (IntKind.u64.wrap ((Int.tmod p0.lo 4294967296) * (IntKind.u64.wrap (Int.tdiv p1.lo 4294967296)))), false⟩ : Bg)).hi * 4294967296)) + (IntKind.u64.wrap (Int.tdiv (d_latheref01_Plus (⟨0, (IntKind.u64.wrap ((IntKind.u64.wrap (Int.tdiv p0.lo 4294967296)) * (Int.tmod p1.lo 4294967296))), false⟩ : Bg) (⟨0, (IntKind.u64.wrap ((Int.tmod p0.lo 4294967296) * (IntKind.u64.wrap (Int.tdiv p1.lo 4294967296)))), false⟩ : Bg)).lo 4294967296)))), (IntKind.u64.wrap ((Int.tmod (d_latheref01_Plus (⟨0, (IntKind.u64.wrap ((IntKind.u64.wrap (Int.tdiv p0.lo 4294967296)) * (Int.tmod p1.lo 4294967296))), false⟩ : Bg) (⟨0, (IntKind.u64.wrap ((Int.tmod p0.lo 4294967296) * (IntKind.u64.wrap (Int.tdiv p1.lo 4294967296)))), false⟩ : Bg)).lo 4294967296) * 4294967296)), false⟩ : Bg)) (⟨(IntKind.u64.wrap ((IntKind.u64.wrap (Int.tdiv p0.lo 4294967296)) * (IntKind.u64.wrap (Int.tdiv p1.lo 4294967296)))), 0, false⟩ : Bg)).lo, (p0.below != p1.below)⟩ : Bg))
theorem latheref01_Times_V (p0 : Bg) (p1 : Bg)  : SpecV Try.prog 72 [p0.val, p1.val] (Bg.val (d_latheref01_Times p0 p1)) := by
  refine SpecV.enter Try.func72 rfl (n := 68) Try.ntmps72 (Nat.le_of_ble_eq_true rfl) (l := [(0, _, _), (1, _, _)]) rfl ?_
  intro w
  refine SC.seq (fun K1 hK1 => SC.region ?_)
  refine SL.box (cs := [_, _, _]) rfl rfl rfl rfl rfl (fun b2 => ?_)
  refine SL.box (cs := [_, _, _]) rfl rfl rfl rfl rfl (fun b3 => ?_)
  refine SL.alloc (cs := [_, _, _]) Try.zeroValue65 rfl rfl rfl (fun b4 => ?_)
  refine SL.keep (l' := [(4, _, _), (3, _, _), (2, _, _)]) ⟨rfl, rfl, rfl, trivial⟩ ?_
  refine SL.nil (SE.thenK hK1 (SC.seq (fun K2 hK2 => SC.region ?_)))
  refine SL.step (PS.fieldAddr rfl tt Try.fieldAt_65_1 rfl rfl) ?_
  first | refine SL.step (PS.load_own (k := 0) rfl tt rfl rfl rfl Try.isAgg27 rfl rfl) ?_ | refine SL.step (PS.load_own (k := 1) rfl tt rfl rfl rfl Try.isAgg27 rfl rfl) ?_ | refine SL.step (PS.load_own (k := 2) rfl tt rfl rfl rfl Try.isAgg27 rfl rfl) ?_
  refine SL.step (PS.quo rfl tt rfl tt (fun _ => by omega) rfl rfl) ?_
  refine SL.step (PS.assign rfl tt rfl rfl) ?_
  refine SL.keep (l' := [(5, _, _), (4, _, _), (3, _, _), (2, _, _)]) ⟨rfl, rfl, rfl, rfl, trivial⟩ ?_
  refine SL.nil (SE.thenK hK2 (SC.seq (fun K3 hK3 => SC.region ?_)))
  refine SL.step (PS.fieldAddr rfl tt Try.fieldAt_65_1 rfl rfl) ?_
  first | refine SL.step (PS.load_own (k := 0) rfl tt rfl rfl rfl Try.isAgg27 rfl rfl) ?_ | refine SL.step (PS.load_own (k := 1) rfl tt rfl rfl rfl Try.isAgg27 rfl rfl) ?_ | refine SL.step (PS.load_own (k := 2) rfl tt rfl rfl rfl Try.isAgg27 rfl rfl) ?_
  refine SL.step (PS.rem rfl tt rfl tt (fun _ => by omega) rfl rfl) ?_
  refine SL.step (PS.assign rfl tt rfl rfl) ?_
  refine SL.keep (l' := [(6, _, _), (5, _, _), (4, _, _), (3, _, _), (2, _, _)]) ⟨rfl, rfl, rfl, rfl, rfl, trivial⟩ ?_
  refine SL.nil (SE.thenK hK3 (SC.seq (fun K4 hK4 => SC.region ?_)))
  refine SL.step (PS.fieldAddr rfl tt Try.fieldAt_65_1 rfl rfl) ?_
  first | refine SL.step (PS.load_own (k := 0) rfl tt rfl rfl rfl Try.isAgg27 rfl rfl) ?_ | refine SL.step (PS.load_own (k := 1) rfl tt rfl rfl rfl Try.isAgg27 rfl rfl) ?_ | refine SL.step (PS.load_own (k := 2) rfl tt rfl rfl rfl Try.isAgg27 rfl rfl) ?_
  refine SL.step (PS.quo rfl tt rfl tt (fun _ => by omega) rfl rfl) ?_
  refine SL.step (PS.assign rfl tt rfl rfl) ?_
  refine SL.keep (l' := [(7, _, _), (6, _, _), (5, _, _), (4, _, _), (3, _, _), (2, _, _)]) ⟨rfl, rfl, rfl, rfl, rfl, rfl, trivial⟩ ?_
  refine SL.nil (SE.thenK hK4 (SC.seq (fun K5 hK5 => SC.region ?_)))
  refine SL.step (PS.fieldAddr rfl tt Try.fieldAt_65_1 rfl rfl) ?_
  first | refine SL.step (PS.load_own (k := 0) rfl tt rfl rfl rfl Try.isAgg27 rfl rfl) ?_ | refine SL.step (PS.load_own (k := 1) rfl tt rfl rfl rfl Try.isAgg27 rfl rfl) ?_ | refine SL.step (PS.load_own (k := 2) rfl tt rfl rfl rfl Try.isAgg27 rfl rfl) ?_
  refine SL.step (PS.rem rfl tt rfl tt (fun _ => by omega) rfl rfl) ?_
  refine SL.step (PS.assign rfl tt rfl rfl) ?_
  refine SL.keep (l' := [(8, _, _), (7, _, _), (6, _, _), (5, _, _), (4, _, _), (3, _, _), (2, _, _)]) ⟨rfl, rfl, rfl, rfl, rfl, rfl, rfl, trivial⟩ ?_
  refine SL.nil (SE.thenK hK5 (SC.seq (fun K6 hK6 => SC.region ?_)))
  refine SL.step (PS.move rfl tt rfl rfl) ?_
  refine SL.step (PS.move rfl tt rfl rfl) ?_
  refine SL.step (PS.mul rfl tt rfl tt rfl rfl) ?_
  refine SL.step (PS.build (us := [(1, _)]) (vs := [_, _, _]) ⟨rfl, ⟨_, rfl, tt⟩, trivial⟩ Try.underlying65 Try.zeroValue65 (Try.places_65 Try.underlying65) rfl rfl rfl) ?_
  refine SL.alloc (cs := [_, _, _]) Try.zeroValue65 rfl rfl rfl (fun b9 => ?_)
  first | refine SL.store_own (k := 0) (own' := [_, _, _, _]) (cs' := [_, _, _]) rfl rfl rfl rfl rfl rfl rfl Try.sizeOf65 rfl (Nat.le_of_ble_eq_true rfl) rfl rfl rfl rfl ?_ | refine SL.store_own (k := 1) (own' := [_, _, _, _]) (cs' := [_, _, _]) rfl rfl rfl rfl rfl rfl rfl Try.sizeOf65 rfl (Nat.le_of_ble_eq_true rfl) rfl rfl rfl rfl ?_ | refine SL.store_own (k := 2) (own' := [_, _, _, _]) (cs' := [_, _, _]) rfl rfl rfl rfl rfl rfl rfl Try.sizeOf65 rfl (Nat.le_of_ble_eq_true rfl) rfl rfl rfl rfl ?_ | refine SL.store_own (k := 3) (own' := [_, _, _, _]) (cs' := [_, _, _]) rfl rfl rfl rfl rfl rfl rfl Try.sizeOf65 rfl (Nat.le_of_ble_eq_true rfl) rfl rfl rfl rfl ?_
  refine SL.keep (l' := [(9, _, _), (8, _, _), (7, _, _), (6, _, _), (5, _, _), (4, _, _), (3, _, _), (2, _, _)]) ⟨rfl, rfl, rfl, rfl, rfl, rfl, rfl, rfl, trivial⟩ ?_
  refine SL.nil (SE.thenK hK6 (SC.seq (fun K7 hK7 => SC.region ?_)))
  refine SL.step (PS.move rfl tt rfl rfl) ?_
  refine SL.step (PS.move rfl tt rfl rfl) ?_
  refine SL.step (PS.mul rfl tt rfl tt rfl rfl) ?_
  refine SL.step (PS.build (us := [(1, _)]) (vs := [_, _, _]) ⟨rfl, ⟨_, rfl, tt⟩, trivial⟩ Try.underlying65 Try.zeroValue65 (Try.places_65 Try.underlying65) rfl rfl rfl) ?_
  refine SL.step (PS.move rfl tt rfl rfl) ?_
  refine SL.step (PS.move rfl tt rfl rfl) ?_
  refine SL.step (PS.mul rfl tt rfl tt rfl rfl) ?_
  refine SL.step (PS.build (us := [(1, _)]) (vs := [_, _, _]) ⟨rfl, ⟨_, rfl, tt⟩, trivial⟩ Try.underlying65 Try.zeroValue65 (Try.places_65 Try.underlying65) rfl rfl rfl) ?_
  refine SL.callV (vs := [_, _]) Try.call70 ⟨⟨_, rfl, tt⟩, ⟨_, rfl, tt⟩, trivial⟩ (fun hg => latheref01_Plus_W _ _ _ _ _ _) rfl rfl ?_
  refine SL.alloc (cs := [_, _, _]) Try.zeroValue65 rfl rfl rfl (fun b10 => ?_)
  first | refine SL.store_own (k := 0) (own' := [_, _, _, _, _]) (cs' := [_, _, _]) rfl rfl rfl rfl rfl rfl rfl Try.sizeOf65 rfl (Nat.le_of_ble_eq_true rfl) rfl rfl rfl rfl ?_ | refine SL.store_own (k := 1) (own' := [_, _, _, _, _]) (cs' := [_, _, _]) rfl rfl rfl rfl rfl rfl rfl Try.sizeOf65 rfl (Nat.le_of_ble_eq_true rfl) rfl rfl rfl rfl ?_ | refine SL.store_own (k := 2) (own' := [_, _, _, _, _]) (cs' := [_, _, _]) rfl rfl rfl rfl rfl rfl rfl Try.sizeOf65 rfl (Nat.le_of_ble_eq_true rfl) rfl rfl rfl rfl ?_ | refine SL.store_own (k := 3) (own' := [_, _, _, _, _]) (cs' := [_, _, _]) rfl rfl rfl rfl rfl rfl rfl Try.sizeOf65 rfl (Nat.le_of_ble_eq_true rfl) rfl rfl rfl rfl ?_ | refine SL.store_own (k := 4) (own' := [_, _, _, _, _]) (cs' := [_, _, _]) rfl rfl rfl rfl rfl rfl rfl Try.sizeOf65 rfl (Nat.le_of_ble_eq_true rfl) rfl rfl rfl rfl ?_
  refine SL.keep (l' := [(10, _, _), (9, _, _), (7, _, _), (5, _, _), (4, _, _), (3, _, _), (2, _, _)]) ⟨rfl, rfl, rfl, rfl, rfl, rfl, rfl, trivial⟩ ?_
  refine SL.nil (SE.thenK hK7 (SC.seq (fun K8 hK8 => SC.region ?_)))
  refine SL.step (PS.move rfl tt rfl rfl) ?_
  refine SL.step (PS.move rfl tt rfl rfl) ?_
  refine SL.step (PS.mul rfl tt rfl tt rfl rfl) ?_
  refine SL.step (PS.build (us := [(0, _)]) (vs := [_, _, _]) ⟨rfl, ⟨_, rfl, tt⟩, trivial⟩ Try.underlying65 Try.zeroValue65 (Try.places_65 Try.underlying65) rfl rfl rfl) ?_
  refine SL.alloc (cs := [_, _, _]) Try.zeroValue65 rfl rfl rfl (fun b11 => ?_)
  first | refine SL.store_own (k := 0) (own' := [_, _, _, _, _, _]) (cs' := [_, _, _]) rfl rfl rfl rfl rfl rfl rfl Try.sizeOf65 rfl (Nat.le_of_ble_eq_true rfl) rfl rfl rfl rfl ?_ | refine SL.store_own (k := 1) (own' := [_, _, _, _, _, _]) (cs' := [_, _, _]) rfl rfl rfl rfl rfl rfl rfl Try.sizeOf65 rfl (Nat.le_of_ble_eq_true rfl) rfl rfl rfl rfl ?_ | refine SL.store_own (k := 2) (own' := [_, _, _, _, _, _]) (cs' := [_, _, _]) rfl rfl rfl rfl rfl rfl rfl Try.sizeOf65 rfl (Nat.le_of_ble_eq_true rfl) rfl rfl rfl rfl ?_ | refine SL.store_own (k := 3) (own' := [_, _, _, _, _, _]) (cs' := [_, _, _]) rfl rfl rfl rfl rfl rfl rfl Try.sizeOf65 rfl (Nat.le_of_ble_eq_true rfl) rfl rfl rfl rfl ?_ | refine SL.store_own (k := 4) (own' := [_, _, _, _, _, _]) (cs' := [_, _, _]) rfl rfl rfl rfl rfl rfl rfl Try.sizeOf65 rfl (Nat.le_of_ble_eq_true rfl) rfl rfl rfl rfl ?_ | refine SL.store_own (k := 5) (own' := [_, _, _, _, _, _]) (cs' := [_, _, _]) rfl rfl rfl rfl rfl rfl rfl Try.sizeOf65 rfl (Nat.le_of_ble_eq_true rfl) rfl rfl rfl rfl ?_
  refine SL.keep (l' := [(11, _, _), (10, _, _), (9, _, _), (4, _, _), (3, _, _), (2, _, _)]) ⟨rfl, rfl, rfl, rfl, rfl, rfl, trivial⟩ ?_
  refine SL.nil (SE.thenK hK8 (SC.seq (fun K9 hK9 => SC.region ?_)))
  refine SL.step (PS.fieldAddr rfl tt Try.fieldAt_65_0 rfl rfl) ?_
  first | refine SL.step (PS.load_own (k := 0) rfl tt rfl rfl rfl Try.isAgg27 rfl rfl) ?_ | refine SL.step (PS.load_own (k := 1) rfl tt rfl rfl rfl Try.isAgg27 rfl rfl) ?_ | refine SL.step (PS.load_own (k := 2) rfl tt rfl rfl rfl Try.isAgg27 rfl rfl) ?_ | refine SL.step (PS.load_own (k := 3) rfl tt rfl rfl rfl Try.isAgg27 rfl rfl) ?_ | refine SL.step (PS.load_own (k := 4) rfl tt rfl rfl rfl Try.isAgg27 rfl rfl) ?_ | refine SL.step (PS.load_own (k := 5) rfl tt rfl rfl rfl Try.isAgg27 rfl rfl) ?_
  refine SL.step (PS.mul rfl tt rfl tt rfl rfl) ?_
  refine SL.step (PS.fieldAddr rfl tt Try.fieldAt_65_1 rfl rfl) ?_
  first | refine SL.step (PS.load_own (k := 0) rfl tt rfl rfl rfl Try.isAgg27 rfl rfl) ?_ | refine SL.step (PS.load_own (k := 1) rfl tt rfl rfl rfl Try.isAgg27 rfl rfl) ?_ | refine SL.step (PS.load_own (k := 2) rfl tt rfl rfl rfl Try.isAgg27 rfl rfl) ?_ | refine SL.step (PS.load_own (k := 3) rfl tt rfl rfl rfl Try.isAgg27 rfl rfl) ?_ | refine SL.step (PS.load_own (k := 4) rfl tt rfl rfl rfl Try.isAgg27 rfl rfl) ?_ | refine SL.step (PS.load_own (k := 5) rfl tt rfl rfl rfl Try.isAgg27 rfl rfl) ?_
  refine SL.step (PS.quo rfl tt rfl tt (fun _ => by omega) rfl rfl) ?_
  refine SL.step (PS.add rfl tt rfl tt rfl rfl) ?_
  refine SL.step (PS.fieldAddr rfl tt Try.fieldAt_65_1 rfl rfl) ?_
  first | refine SL.step (PS.load_own (k := 0) rfl tt rfl rfl rfl Try.isAgg27 rfl rfl) ?_ | refine SL.step (PS.load_own (k := 1) rfl tt rfl rfl rfl Try.isAgg27 rfl rfl) ?_ | refine SL.step (PS.load_own (k := 2) rfl tt rfl rfl rfl Try.isAgg27 rfl rfl) ?_ | refine SL.step (PS.load_own (k := 3) rfl tt rfl rfl rfl Try.isAgg27 rfl rfl) ?_ | refine SL.step (PS.load_own (k := 4) rfl tt rfl rfl rfl Try.isAgg27 rfl rfl) ?_ | refine SL.step (PS.load_own (k := 5) rfl tt rfl rfl rfl Try.isAgg27 rfl rfl) ?_
  refine SL.step (PS.rem rfl tt rfl tt (fun _ => by omega) rfl rfl) ?_
  refine SL.step (PS.mul rfl tt rfl tt rfl rfl) ?_
  refine SL.step (PS.build (us := [(0, _), (1, _)]) (vs := [_, _, _]) ⟨rfl, ⟨_, rfl, tt⟩, ⟨rfl, ⟨_, rfl, tt⟩, trivial⟩⟩ Try.underlying65 Try.zeroValue65 (Try.places_65 Try.underlying65) rfl rfl rfl) ?_
  refine SL.alloc (cs := [_, _, _]) Try.zeroValue65 rfl rfl rfl (fun b12 => ?_)
  first | refine SL.store_own (k := 0) (own' := [_, _, _, _, _, _, _]) (cs' := [_, _, _]) rfl rfl rfl rfl rfl rfl rfl Try.sizeOf65 rfl (Nat.le_of_ble_eq_true rfl) rfl rfl rfl rfl ?_ | refine SL.store_own (k := 1) (own' := [_, _, _, _, _, _, _]) (cs' := [_, _, _]) rfl rfl rfl rfl rfl rfl rfl Try.sizeOf65 rfl (Nat.le_of_ble_eq_true rfl) rfl rfl rfl rfl ?_ | refine SL.store_own (k := 2) (own' := [_, _, _, _, _, _, _]) (cs' := [_, _, _]) rfl rfl rfl rfl rfl rfl rfl Try.sizeOf65 rfl (Nat.le_of_ble_eq_true rfl) rfl rfl rfl rfl ?_ | refine SL.store_own (k := 3) (own' := [_, _, _, _, _, _, _]) (cs' := [_, _, _]) rfl rfl rfl rfl rfl rfl rfl Try.sizeOf65 rfl (Nat.le_of_ble_eq_true rfl) rfl rfl rfl rfl ?_ | refine SL.store_own (k := 4) (own' := [_, _, _, _, _, _, _]) (cs' := [_, _, _]) rfl rfl rfl rfl rfl rfl rfl Try.sizeOf65 rfl (Nat.le_of_ble_eq_true rfl) rfl rfl rfl rfl ?_ | refine SL.store_own (k := 5) (own' := [_, _, _, _, _, _, _]) (cs' := [_, _, _]) rfl rfl rfl rfl rfl rfl rfl Try.sizeOf65 rfl (Nat.le_of_ble_eq_true rfl) rfl rfl rfl rfl ?_ | refine SL.store_own (k := 6) (own' := [_, _, _, _, _, _, _]) (cs' := [_, _, _]) rfl rfl rfl rfl rfl rfl rfl Try.sizeOf65 rfl (Nat.le_of_ble_eq_true rfl) rfl rfl rfl rfl ?_
  refine SL.keep (l' := [(12, _, _), (11, _, _), (9, _, _), (4, _, _), (3, _, _), (2, _, _)]) ⟨rfl, rfl, rfl, rfl, rfl, rfl, trivial⟩ ?_
  refine SL.nil (SE.thenK hK9 (SC.seq (fun K10 hK10 => ?_)))
  refine SC.draw (S := SP _ _ _) 6 (by kernel_rfl) (by kernel_rfl) (fun _ h => h) ?_
  first | refine SD.take 0 rfl rfl (by kernel_rfl) (PS.load_own_agg (k := 0) (vs := [_, _, _]) rfl tt rfl rfl rfl rfl Try.isAgg65 Try.sizeOf65 rfl rfl) ?_ | refine SD.take 0 rfl rfl (by kernel_rfl) (PS.load_own_agg (k := 1) (vs := [_, _, _]) rfl tt rfl rfl rfl rfl Try.isAgg65 Try.sizeOf65 rfl rfl) ?_ | refine SD.take 0 rfl rfl (by kernel_rfl) (PS.load_own_agg (k := 2) (vs := [_, _, _]) rfl tt rfl rfl rfl rfl Try.isAgg65 Try.sizeOf65 rfl rfl) ?_ | refine SD.take 0 rfl rfl (by kernel_rfl) (PS.load_own_agg (k := 3) (vs := [_, _, _]) rfl tt rfl rfl rfl rfl Try.isAgg65 Try.sizeOf65 rfl rfl) ?_ | refine SD.take 0 rfl rfl (by kernel_rfl) (PS.load_own_agg (k := 4) (vs := [_, _, _]) rfl tt rfl rfl rfl rfl Try.isAgg65 Try.sizeOf65 rfl rfl) ?_ | refine SD.take 0 rfl rfl (by kernel_rfl) (PS.load_own_agg (k := 5) (vs := [_, _, _]) rfl tt rfl rfl rfl rfl Try.isAgg65 Try.sizeOf65 rfl rfl) ?_ | refine SD.take 0 rfl rfl (by kernel_rfl) (PS.load_own_agg (k := 6) (vs := [_, _, _]) rfl tt rfl rfl rfl rfl Try.isAgg65 Try.sizeOf65 rfl rfl) ?_
  first | refine SD.take 1 rfl rfl (by kernel_rfl) (PS.load_own_agg (k := 0) (vs := [_, _, _]) rfl tt rfl rfl rfl rfl Try.isAgg65 Try.sizeOf65 rfl rfl) ?_ | refine SD.take 1 rfl rfl (by kernel_rfl) (PS.load_own_agg (k := 1) (vs := [_, _, _]) rfl tt rfl rfl rfl rfl Try.isAgg65 Try.sizeOf65 rfl rfl) ?_ | refine SD.take 1 rfl rfl (by kernel_rfl) (PS.load_own_agg (k := 2) (vs := [_, _, _]) rfl tt rfl rfl rfl rfl Try.isAgg65 Try.sizeOf65 rfl rfl) ?_ | refine SD.take 1 rfl rfl (by kernel_rfl) (PS.load_own_agg (k := 3) (vs := [_, _, _]) rfl tt rfl rfl rfl rfl Try.isAgg65 Try.sizeOf65 rfl rfl) ?_ | refine SD.take 1 rfl rfl (by kernel_rfl) (PS.load_own_agg (k := 4) (vs := [_, _, _]) rfl tt rfl rfl rfl rfl Try.isAgg65 Try.sizeOf65 rfl rfl) ?_ | refine SD.take 1 rfl rfl (by kernel_rfl) (PS.load_own_agg (k := 5) (vs := [_, _, _]) rfl tt rfl rfl rfl rfl Try.isAgg65 Try.sizeOf65 rfl rfl) ?_ | refine SD.take 1 rfl rfl (by kernel_rfl) (PS.load_own_agg (k := 6) (vs := [_, _, _]) rfl tt rfl rfl rfl rfl Try.isAgg65 Try.sizeOf65 rfl rfl) ?_
  first | refine SD.take 3 rfl rfl (by kernel_rfl) (PS.load_own_agg (k := 0) (vs := [_, _, _]) rfl tt rfl rfl rfl rfl Try.isAgg65 Try.sizeOf65 rfl rfl) ?_ | refine SD.take 3 rfl rfl (by kernel_rfl) (PS.load_own_agg (k := 1) (vs := [_, _, _]) rfl tt rfl rfl rfl rfl Try.isAgg65 Try.sizeOf65 rfl rfl) ?_ | refine SD.take 3 rfl rfl (by kernel_rfl) (PS.load_own_agg (k := 2) (vs := [_, _, _]) rfl tt rfl rfl rfl rfl Try.isAgg65 Try.sizeOf65 rfl rfl) ?_ | refine SD.take 3 rfl rfl (by kernel_rfl) (PS.load_own_agg (k := 3) (vs := [_, _, _]) rfl tt rfl rfl rfl rfl Try.isAgg65 Try.sizeOf65 rfl rfl) ?_ | refine SD.take 3 rfl rfl (by kernel_rfl) (PS.load_own_agg (k := 4) (vs := [_, _, _]) rfl tt rfl rfl rfl rfl Try.isAgg65 Try.sizeOf65 rfl rfl) ?_ | refine SD.take 3 rfl rfl (by kernel_rfl) (PS.load_own_agg (k := 5) (vs := [_, _, _]) rfl tt rfl rfl rfl rfl Try.isAgg65 Try.sizeOf65 rfl rfl) ?_ | refine SD.take 3 rfl rfl (by kernel_rfl) (PS.load_own_agg (k := 6) (vs := [_, _, _]) rfl tt rfl rfl rfl rfl Try.isAgg65 Try.sizeOf65 rfl rfl) ?_
  refine SD.join1 (f' := 0) (listed' := (List.replicate 6 true ++ List.replicate 1 false).toArray) (L := ?L9_1) (O := ?O9_1) (G := ?G9_1) (fun HT => ?way9_1) (fun (b13 : Nat) => ?tail9_1)
  case way9_1 =>
   refine SD.two 2 5 rfl rfl (by kernel_rfl) (fun inv2 => ?_) (fun inv5 => ?_)
   ·
    refine SL.callV (vs := [_, _]) Try.call70 ⟨⟨_, rfl, tt⟩, ⟨_, rfl, tt⟩, trivial⟩ (fun hg => latheref01_Plus_W _ _ _ _ _ _) rfl rfl ?_
    refine SL.nil ?_
    refine SE.next (fun _ h => h.drop (List.Sublist.refl _) (fun _ h => h)) inv2 ?_
    refine SD.two 4 5 rfl rfl (by kernel_rfl) (fun inv4 => ?_) (fun inv5 => ?_)
    ·
     refine SL.callV (vs := [_, _]) Try.call70 ⟨⟨_, rfl, tt⟩, ⟨_, rfl, tt⟩, trivial⟩ (fun hg => latheref01_Plus_W _ _ _ _ _ _) rfl rfl ?_
     refine SL.nil ?_
     refine SE.next (fun _ h => h.drop (List.Sublist.refl _) (fun _ h => h)) inv4 ?_
     refine SD.one 5 rfl (by kernel_rfl) (fun inv5 => ?_)
     refine SL.alloc (cs := [_, _, _]) Try.zeroValue65 rfl rfl rfl (fun b13 => ?_)
     refine SL.nil ?_
     refine SE.next (fun _ h => h.drop (List.Sublist.cons _ (List.Sublist.refl _)) (fun _ h => h)) inv5 ?_
     refine SD.lst (listed' := (List.replicate 6 true ++ List.replicate 1 false).toArray) (by kernel_rfl) ?_
     exact (HT b13)
    ·
     refine SL.alloc (cs := [_, _, _]) Try.zeroValue65 rfl rfl rfl (fun b13 => ?_)
     refine SL.nil ?_
     refine SE.next (fun _ h => h.drop (List.Sublist.cons _ (List.Sublist.refl _)) (fun _ h => h)) inv5 ?_
     refine SD.one 4 rfl (by kernel_rfl) (fun inv4 => ?_)
     refine SL.callV (vs := [_, _]) Try.call70 ⟨⟨_, rfl, tt⟩, ⟨_, rfl, tt⟩, trivial⟩ (fun hg => latheref01_Plus_W _ _ _ _ _ _) rfl rfl ?_
     refine SL.nil ?_
     refine SE.next (fun _ h => h.drop (List.Sublist.cons _ (List.Sublist.refl _)) (fun _ h => h)) inv4 ?_
     refine SD.lst (listed' := (List.replicate 6 true ++ List.replicate 1 false).toArray) (by kernel_rfl) ?_
     refine SD.keep ?_ (SD.perm ?_ (HT b13))
     · exact ⟨rfl, rfl, rfl, rfl, rfl, rfl, rfl, rfl, rfl, rfl, rfl, rfl, trivial⟩
     · exact (List.Perm.refl _)
   ·
    refine SL.alloc (cs := [_, _, _]) Try.zeroValue65 rfl rfl rfl (fun b13 => ?_)
    refine SL.nil ?_
    refine SE.next (fun _ h => h.drop (List.Sublist.cons _ (List.Sublist.refl _)) (fun _ h => h)) inv5 ?_
    refine SD.one 2 rfl (by kernel_rfl) (fun inv2 => ?_)
    refine SL.callV (vs := [_, _]) Try.call70 ⟨⟨_, rfl, tt⟩, ⟨_, rfl, tt⟩, trivial⟩ (fun hg => latheref01_Plus_W _ _ _ _ _ _) rfl rfl ?_
    refine SL.nil ?_
    refine SE.next (fun _ h => h.drop (List.Sublist.cons _ (List.Sublist.refl _)) (fun _ h => h)) inv2 ?_
    refine SD.one 4 rfl (by kernel_rfl) (fun inv4 => ?_)
    refine SL.callV (vs := [_, _]) Try.call70 ⟨⟨_, rfl, tt⟩, ⟨_, rfl, tt⟩, trivial⟩ (fun hg => latheref01_Plus_W _ _ _ _ _ _) rfl rfl ?_
    refine SL.nil ?_
    refine SE.next (fun _ h => h.drop (List.Sublist.cons _ (List.Sublist.refl _)) (fun _ h => h)) inv4 ?_
    refine SD.lst (listed' := (List.replicate 6 true ++ List.replicate 1 false).toArray) (by kernel_rfl) ?_
    refine SD.keep ?_ (SD.perm ?_ (HT b13))
    · exact ⟨rfl, rfl, rfl, rfl, rfl, rfl, rfl, rfl, rfl, rfl, rfl, rfl, trivial⟩
    · exact (List.Perm.refl _)
  refine SD.tail (by kernel_rfl) (os := [_]) rfl ?_
  first | refine SL.store_own (k := 0) (own' := [_, _, _, _, _, _, _, _]) (cs' := [_, _, _]) rfl rfl rfl rfl rfl rfl rfl Try.sizeOf65 rfl (Nat.le_of_ble_eq_true rfl) rfl rfl rfl rfl ?_ | refine SL.store_own (k := 1) (own' := [_, _, _, _, _, _, _, _]) (cs' := [_, _, _]) rfl rfl rfl rfl rfl rfl rfl Try.sizeOf65 rfl (Nat.le_of_ble_eq_true rfl) rfl rfl rfl rfl ?_ | refine SL.store_own (k := 2) (own' := [_, _, _, _, _, _, _, _]) (cs' := [_, _, _]) rfl rfl rfl rfl rfl rfl rfl Try.sizeOf65 rfl (Nat.le_of_ble_eq_true rfl) rfl rfl rfl rfl ?_ | refine SL.store_own (k := 3) (own' := [_, _, _, _, _, _, _, _]) (cs' := [_, _, _]) rfl rfl rfl rfl rfl rfl rfl Try.sizeOf65 rfl (Nat.le_of_ble_eq_true rfl) rfl rfl rfl rfl ?_ | refine SL.store_own (k := 4) (own' := [_, _, _, _, _, _, _, _]) (cs' := [_, _, _]) rfl rfl rfl rfl rfl rfl rfl Try.sizeOf65 rfl (Nat.le_of_ble_eq_true rfl) rfl rfl rfl rfl ?_ | refine SL.store_own (k := 5) (own' := [_, _, _, _, _, _, _, _]) (cs' := [_, _, _]) rfl rfl rfl rfl rfl rfl rfl Try.sizeOf65 rfl (Nat.le_of_ble_eq_true rfl) rfl rfl rfl rfl ?_ | refine SL.store_own (k := 6) (own' := [_, _, _, _, _, _, _, _]) (cs' := [_, _, _]) rfl rfl rfl rfl rfl rfl rfl Try.sizeOf65 rfl (Nat.le_of_ble_eq_true rfl) rfl rfl rfl rfl ?_ | refine SL.store_own (k := 7) (own' := [_, _, _, _, _, _, _, _]) (cs' := [_, _, _]) rfl rfl rfl rfl rfl rfl rfl Try.sizeOf65 rfl (Nat.le_of_ble_eq_true rfl) rfl rfl rfl rfl ?_
  refine SL.keep (l' := [(13, _, _), (4, _, _), (3, _, _), (2, _, _)]) ⟨rfl, rfl, rfl, rfl, trivial⟩ ?_
  refine SL.nil (SE.calm (SE.thenK hK10 (SC.seq (fun K11 hK11 => SC.region ?_))))
  refine SL.step (PS.fieldAddr rfl tt Try.fieldAt_65_2 rfl rfl) ?_
  first | refine SL.step (PS.load_own (k := 0) rfl tt rfl rfl rfl Try.isAgg4 rfl rfl) ?_ | refine SL.step (PS.load_own (k := 1) rfl tt rfl rfl rfl Try.isAgg4 rfl rfl) ?_ | refine SL.step (PS.load_own (k := 2) rfl tt rfl rfl rfl Try.isAgg4 rfl rfl) ?_ | refine SL.step (PS.load_own (k := 3) rfl tt rfl rfl rfl Try.isAgg4 rfl rfl) ?_ | refine SL.step (PS.load_own (k := 4) rfl tt rfl rfl rfl Try.isAgg4 rfl rfl) ?_ | refine SL.step (PS.load_own (k := 5) rfl tt rfl rfl rfl Try.isAgg4 rfl rfl) ?_ | refine SL.step (PS.load_own (k := 6) rfl tt rfl rfl rfl Try.isAgg4 rfl rfl) ?_ | refine SL.step (PS.load_own (k := 7) rfl tt rfl rfl rfl Try.isAgg4 rfl rfl) ?_
  refine SL.step (PS.fieldAddr rfl tt Try.fieldAt_65_2 rfl rfl) ?_
  first | refine SL.step (PS.load_own (k := 0) rfl tt rfl rfl rfl Try.isAgg4 rfl rfl) ?_ | refine SL.step (PS.load_own (k := 1) rfl tt rfl rfl rfl Try.isAgg4 rfl rfl) ?_ | refine SL.step (PS.load_own (k := 2) rfl tt rfl rfl rfl Try.isAgg4 rfl rfl) ?_ | refine SL.step (PS.load_own (k := 3) rfl tt rfl rfl rfl Try.isAgg4 rfl rfl) ?_ | refine SL.step (PS.load_own (k := 4) rfl tt rfl rfl rfl Try.isAgg4 rfl rfl) ?_ | refine SL.step (PS.load_own (k := 5) rfl tt rfl rfl rfl Try.isAgg4 rfl rfl) ?_ | refine SL.step (PS.load_own (k := 6) rfl tt rfl rfl rfl Try.isAgg4 rfl rfl) ?_ | refine SL.step (PS.load_own (k := 7) rfl tt rfl rfl rfl Try.isAgg4 rfl rfl) ?_
  refine SL.step (PS.neqB rfl tt rfl tt Try.underlying4 rfl rfl) ?_
  refine SL.step (PS.fieldAddr rfl tt Try.fieldAt_65_2 rfl rfl) ?_
  first | refine SL.store_own (k := 0) (own' := [_, _, _, _, _, _, _, _]) (cs' := [_, _, _]) rfl rfl rfl rfl rfl rfl rfl Try.sizeOf4 rfl (Nat.le_of_ble_eq_true rfl) rfl rfl rfl rfl ?_ | refine SL.store_own (k := 1) (own' := [_, _, _, _, _, _, _, _]) (cs' := [_, _, _]) rfl rfl rfl rfl rfl rfl rfl Try.sizeOf4 rfl (Nat.le_of_ble_eq_true rfl) rfl rfl rfl rfl ?_ | refine SL.store_own (k := 2) (own' := [_, _, _, _, _, _, _, _]) (cs' := [_, _, _]) rfl rfl rfl rfl rfl rfl rfl Try.sizeOf4 rfl (Nat.le_of_ble_eq_true rfl) rfl rfl rfl rfl ?_ | refine SL.store_own (k := 3) (own' := [_, _, _, _, _, _, _, _]) (cs' := [_, _, _]) rfl rfl rfl rfl rfl rfl rfl Try.sizeOf4 rfl (Nat.le_of_ble_eq_true rfl) rfl rfl rfl rfl ?_ | refine SL.store_own (k := 4) (own' := [_, _, _, _, _, _, _, _]) (cs' := [_, _, _]) rfl rfl rfl rfl rfl rfl rfl Try.sizeOf4 rfl (Nat.le_of_ble_eq_true rfl) rfl rfl rfl rfl ?_ | refine SL.store_own (k := 5) (own' := [_, _, _, _, _, _, _, _]) (cs' := [_, _, _]) rfl rfl rfl rfl rfl rfl rfl Try.sizeOf4 rfl (Nat.le_of_ble_eq_true rfl) rfl rfl rfl rfl ?_ | refine SL.store_own (k := 6) (own' := [_, _, _, _, _, _, _, _]) (cs' := [_, _, _]) rfl rfl rfl rfl rfl rfl rfl Try.sizeOf4 rfl (Nat.le_of_ble_eq_true rfl) rfl rfl rfl rfl ?_ | refine SL.store_own (k := 7) (own' := [_, _, _, _, _, _, _, _]) (cs' := [_, _, _]) rfl rfl rfl rfl rfl rfl rfl Try.sizeOf4 rfl (Nat.le_of_ble_eq_true rfl) rfl rfl rfl rfl ?_
  refine SL.keep (l' := [(13, _, _), (4, _, _)]) ⟨rfl, rfl, trivial⟩ ?_
  refine SL.nil (SE.thenK hK11 (SC.seq (fun K12 hK12 => SC.region ?_)))
  first | refine SL.step (PS.load_own_agg (k := 0) (vs := [_, _, _]) rfl tt rfl rfl rfl rfl Try.isAgg65 Try.sizeOf65 rfl rfl) ?_ | refine SL.step (PS.load_own_agg (k := 1) (vs := [_, _, _]) rfl tt rfl rfl rfl rfl Try.isAgg65 Try.sizeOf65 rfl rfl) ?_ | refine SL.step (PS.load_own_agg (k := 2) (vs := [_, _, _]) rfl tt rfl rfl rfl rfl Try.isAgg65 Try.sizeOf65 rfl rfl) ?_ | refine SL.step (PS.load_own_agg (k := 3) (vs := [_, _, _]) rfl tt rfl rfl rfl rfl Try.isAgg65 Try.sizeOf65 rfl rfl) ?_ | refine SL.step (PS.load_own_agg (k := 4) (vs := [_, _, _]) rfl tt rfl rfl rfl rfl Try.isAgg65 Try.sizeOf65 rfl rfl) ?_ | refine SL.step (PS.load_own_agg (k := 5) (vs := [_, _, _]) rfl tt rfl rfl rfl rfl Try.isAgg65 Try.sizeOf65 rfl rfl) ?_ | refine SL.step (PS.load_own_agg (k := 6) (vs := [_, _, _]) rfl tt rfl rfl rfl rfl Try.isAgg65 Try.sizeOf65 rfl rfl) ?_ | refine SL.step (PS.load_own_agg (k := 7) (vs := [_, _, _]) rfl tt rfl rfl rfl rfl Try.isAgg65 Try.sizeOf65 rfl rfl) ?_
  refine SL.callV (vs := [_]) Try.call73 ⟨⟨_, rfl, tt⟩, trivial⟩ (fun hg => latheref01_fixed_W _ _ _) rfl rfl ?_
  first | refine SL.store_own (k := 0) (own' := [_, _, _, _, _, _, _, _]) (cs' := [_, _, _]) rfl rfl rfl rfl rfl rfl rfl Try.sizeOf65 rfl (Nat.le_of_ble_eq_true rfl) rfl rfl rfl rfl ?_ | refine SL.store_own (k := 1) (own' := [_, _, _, _, _, _, _, _]) (cs' := [_, _, _]) rfl rfl rfl rfl rfl rfl rfl Try.sizeOf65 rfl (Nat.le_of_ble_eq_true rfl) rfl rfl rfl rfl ?_ | refine SL.store_own (k := 2) (own' := [_, _, _, _, _, _, _, _]) (cs' := [_, _, _]) rfl rfl rfl rfl rfl rfl rfl Try.sizeOf65 rfl (Nat.le_of_ble_eq_true rfl) rfl rfl rfl rfl ?_ | refine SL.store_own (k := 3) (own' := [_, _, _, _, _, _, _, _]) (cs' := [_, _, _]) rfl rfl rfl rfl rfl rfl rfl Try.sizeOf65 rfl (Nat.le_of_ble_eq_true rfl) rfl rfl rfl rfl ?_ | refine SL.store_own (k := 4) (own' := [_, _, _, _, _, _, _, _]) (cs' := [_, _, _]) rfl rfl rfl rfl rfl rfl rfl Try.sizeOf65 rfl (Nat.le_of_ble_eq_true rfl) rfl rfl rfl rfl ?_ | refine SL.store_own (k := 5) (own' := [_, _, _, _, _, _, _, _]) (cs' := [_, _, _]) rfl rfl rfl rfl rfl rfl rfl Try.sizeOf65 rfl (Nat.le_of_ble_eq_true rfl) rfl rfl rfl rfl ?_ | refine SL.store_own (k := 6) (own' := [_, _, _, _, _, _, _, _]) (cs' := [_, _, _]) rfl rfl rfl rfl rfl rfl rfl Try.sizeOf65 rfl (Nat.le_of_ble_eq_true rfl) rfl rfl rfl rfl ?_ | refine SL.store_own (k := 7) (own' := [_, _, _, _, _, _, _, _]) (cs' := [_, _, _]) rfl rfl rfl rfl rfl rfl rfl Try.sizeOf65 rfl (Nat.le_of_ble_eq_true rfl) rfl rfl rfl rfl ?_
  refine SL.keep (l' := [(4, _, _)]) ⟨rfl, trivial⟩ ?_
  refine SL.nil (SE.thenK hK12 (SC.ret ?_))
  first | exact finVc (k := 0) rfl Try.isAgg65 Try.sizeOf65 rfl rfl rfl rfl (fun _ _ => rfl) | exact finVc (k := 1) rfl Try.isAgg65 Try.sizeOf65 rfl rfl rfl rfl (fun _ _ => rfl) | exact finVc (k := 2) rfl Try.isAgg65 Try.sizeOf65 rfl rfl rfl rfl (fun _ _ => rfl) | exact finVc (k := 3) rfl Try.isAgg65 Try.sizeOf65 rfl rfl rfl rfl (fun _ _ => rfl) | exact finVc (k := 4) rfl Try.isAgg65 Try.sizeOf65 rfl rfl rfl rfl (fun _ _ => rfl) | exact finVc (k := 5) rfl Try.isAgg65 Try.sizeOf65 rfl rfl rfl rfl (fun _ _ => rfl) | exact finVc (k := 6) rfl Try.isAgg65 Try.sizeOf65 rfl rfl rfl rfl (fun _ _ => rfl) | exact finVc (k := 7) rfl Try.isAgg65 Try.sizeOf65 rfl rfl rfl rfl (fun _ _ => rfl)
theorem latheref01_Times_W (p0_hi : Int) (p0_lo : Int) (p0_below : Bool) (p1_hi : Int) (p1_lo : Int) (p1_below : Bool)  : SpecV Try.prog 72 [.agg [.int .u64 p0_hi, .int .u64 p0_lo, .bool p0_below].toArray, .agg [.int .u64 p1_hi, .int .u64 p1_lo, .bool p1_below].toArray] (Bg.val (d_latheref01_Times ⟨p0_hi, p0_lo, p0_below⟩ ⟨p1_hi, p1_lo, p1_below⟩)) := latheref01_Times_V ⟨p0_hi, p0_lo, p0_below⟩ ⟨p1_hi, p1_lo, p1_below⟩ 
def d_latheref01_Wrapped (p0 : Int) (p1 : Bg) : Int :=
  bif p1.below then
   (d_latheref01_Cut p0 (IntKind.u64.wrap (0 - p1.lo)))
  else (d_latheref01_Cut p0 p1.lo)
theorem latheref01_Wrapped_V (p0 : Int) (p1 : Bg) (hw : 0 ≤ p0) : SpecV Try.prog 46 [.int .i64 p0, p1.val] (Value.int .u64 (d_latheref01_Wrapped p0 p1)) := by
  refine SpecV.enter Try.func46 rfl (n := 16) Try.ntmps46 (Nat.le_of_ble_eq_true rfl) (l := [(0, _, _), (1, _, _)]) rfl ?_
  intro w
  refine SC.seq (fun K1 hK1 => SC.region ?_)
  refine SL.box (cs := [_, _, _]) rfl rfl rfl rfl rfl (fun b3 => ?_)
  refine SL.step (PS.assign rfl tt rfl rfl) ?_
  refine SL.keep (l' := [(3, _, _), (0, _, _)]) ⟨rfl, rfl, trivial⟩ ?_
  refine SL.nil (SE.thenK hK1 (SC.seq (fun K2 hK2 => SC.seq (fun K3 hK3 => SC.region ?_))))
  refine SL.step (PS.fieldAddr rfl tt Try.fieldAt_65_2 rfl rfl) ?_
  refine SL.step (PS.load_own (k := 0) rfl tt rfl rfl rfl Try.isAgg4 rfl rfl) ?_
  refine SL.keep (l' := [(6, _, _), (3, _, _), (0, _, _)]) ⟨rfl, rfl, rfl, trivial⟩ ?_
  refine SL.nil (SE.thenK hK3 ?_)
  refine SC.cond rfl (fun c6 => ?_) (fun c6 => ?_)
  ·
   refine SC.seq (fun K4 hK4 => SC.region ?_)
   refine SL.step (PS.move rfl tt rfl rfl) ?_
   refine SL.step (PS.fieldAddr rfl tt Try.fieldAt_65_1 rfl rfl) ?_
   refine SL.step (PS.load_own (k := 0) rfl tt rfl rfl rfl Try.isAgg27 rfl rfl) ?_
   refine SL.step (PS.sub rfl tt rfl tt rfl rfl) ?_
   refine SL.callV (vs := [_, _]) Try.call42 ⟨⟨_, rfl, tt⟩, ⟨_, rfl, tt⟩, trivial⟩ (fun hg => latheref01_Cut_V _ _ (by omega)) rfl rfl ?_
   refine SL.step (PS.assign rfl tt rfl rfl) ?_
   refine SL.keep (l' := [(4, _, _)]) ⟨rfl, trivial⟩ ?_
   refine SL.nil (SE.thenK hK4 (SC.ret (SE.then_ret ?_)))
   exact finV1 rfl rfl (fun _ _ => congrArg (fun z : Int => Value.int .u64 z) (show ((d_latheref01_Cut p0 (IntKind.u64.wrap (0 - p1.lo))) : Int) = (d_latheref01_Wrapped p0 p1) from ((bifT c6)).symm))
  ·
   refine SC.skip (SE.thenK hK2 (SC.seq (fun K5 hK5 => SC.region ?_)))
   refine SL.step (PS.move rfl tt rfl rfl) ?_
   refine SL.step (PS.fieldAddr rfl tt Try.fieldAt_65_1 rfl rfl) ?_
   refine SL.step (PS.load_own (k := 0) rfl tt rfl rfl rfl Try.isAgg27 rfl rfl) ?_
   refine SL.callV (vs := [_, _]) Try.call42 ⟨⟨_, rfl, tt⟩, ⟨_, rfl, tt⟩, trivial⟩ (fun hg => latheref01_Cut_V _ _ (by omega)) rfl rfl ?_
   refine SL.step (PS.assign rfl tt rfl rfl) ?_
   refine SL.keep (l' := [(4, _, _)]) ⟨rfl, trivial⟩ ?_
   refine SL.nil (SE.thenK hK5 (SC.ret ?_))
   exact finV1 rfl rfl (fun _ _ => congrArg (fun z : Int => Value.int .u64 z) (show ((d_latheref01_Cut p0 p1.lo) : Int) = (d_latheref01_Wrapped p0 p1) from ((bifF c6)).symm))
theorem latheref01_Wrapped_W (p0 : Int) (p1_hi : Int) (p1_lo : Int) (p1_below : Bool) (hw : 0 ≤ p0) : SpecV Try.prog 46 [.int .i64 p0, .agg [.int .u64 p1_hi, .int .u64 p1_lo, .bool p1_below].toArray] (Value.int .u64 (d_latheref01_Wrapped p0 ⟨p1_hi, p1_lo, p1_below⟩)) := latheref01_Wrapped_V p0 ⟨p1_hi, p1_lo, p1_below⟩ hw
def d_latheref01_Flags (p0 : Int) : Int :=
  bif ((((p0 == 1) || (p0 == 2)) || (p0 == 3)) || (p0 == 11)) then
   3
  else bif ((((p0 == 4) || (p0 == 5)) || (p0 == 12)) || (p0 == 13)) then
   4
  else 0
theorem latheref01_Flags_V (p0 : Int)  : SpecV Try.prog 41 [.int .i64 p0] (Value.int .i64 (d_latheref01_Flags p0)) := by
  refine SpecV.enter Try.func41 rfl (n := 31) Try.ntmps41 (Nat.le_of_ble_eq_true rfl) (l := [(0, _, _)]) rfl ?_
  intro w
  refine SC.seq (fun K1 hK1 => SC.region ?_)
  refine SL.step (PS.assign rfl tt rfl rfl) ?_
  refine SL.keep (l' := [(0, _, _)]) ⟨rfl, trivial⟩ ?_
  refine SL.nil (SE.thenK hK1 (SC.seq (fun K2 hK2 => SC.seq (fun K3 hK3 => SC.region ?_))))
  refine SL.step (PS.move rfl tt rfl rfl) ?_
  refine SL.step (PS.eql rfl tt rfl tt rfl rfl) ?_
  refine SL.step (PS.move rfl tt rfl rfl) ?_
  refine SL.step (PS.move rfl tt rfl rfl) ?_
  refine SL.step (PS.eql rfl (fun h => h) rfl tt rfl rfl) ?_
  refine SL.step (PS.pick_or rfl tt rfl (fun h h2 => pk_or h h2) rfl rfl) ?_
  refine SL.step (PS.move rfl tt rfl rfl) ?_
  refine SL.step (PS.move rfl tt rfl rfl) ?_
  refine SL.step (PS.eql rfl (fun h => h) rfl tt rfl rfl) ?_
  refine SL.step (PS.pick_or rfl tt rfl (fun h h2 => pk_or h h2) rfl rfl) ?_
  refine SL.step (PS.move rfl tt rfl rfl) ?_
  refine SL.step (PS.move rfl tt rfl rfl) ?_
  refine SL.step (PS.eql rfl (fun h => h) rfl tt rfl rfl) ?_
  refine SL.step (PS.pick_or rfl tt rfl (fun h h2 => pk_or h h2) rfl rfl) ?_
  refine SL.keep (l' := [(16, _, _), (0, _, _)]) ⟨rfl, rfl, trivial⟩ ?_
  refine SL.nil (SE.thenK hK3 ?_)
  refine SC.cond rfl (fun c16 => ?_) (fun c16 => ?_)
  ·
   refine SC.seq (fun K4 hK4 => SC.region ?_)
   refine SL.step (PS.assign rfl tt rfl rfl) ?_
   refine SL.keep (l' := [(2, _, _)]) ⟨rfl, trivial⟩ ?_
   refine SL.nil (SE.thenK hK4 (SC.ret (SE.then_ret ?_)))
   exact finV1 rfl rfl (fun _ _ => congrArg (fun z : Int => Value.int .i64 z) (show (3 : Int) = (d_latheref01_Flags p0) from ((bifT c16)).symm))
  ·
   refine SC.skip (SE.thenK hK2 (SC.seq (fun K5 hK5 => SC.seq (fun K6 hK6 => SC.region ?_))))
   refine SL.step (PS.move rfl tt rfl rfl) ?_
   refine SL.step (PS.eql rfl tt rfl tt rfl rfl) ?_
   refine SL.step (PS.move rfl tt rfl rfl) ?_
   refine SL.step (PS.move rfl tt rfl rfl) ?_
   refine SL.step (PS.eql rfl (fun h => h) rfl tt rfl rfl) ?_
   refine SL.step (PS.pick_or rfl tt rfl (fun h h2 => pk_or h h2) rfl rfl) ?_
   refine SL.step (PS.move rfl tt rfl rfl) ?_
   refine SL.step (PS.move rfl tt rfl rfl) ?_
   refine SL.step (PS.eql rfl (fun h => h) rfl tt rfl rfl) ?_
   refine SL.step (PS.pick_or rfl tt rfl (fun h h2 => pk_or h h2) rfl rfl) ?_
   refine SL.step (PS.move rfl tt rfl rfl) ?_
   refine SL.step (PS.move rfl tt rfl rfl) ?_
   refine SL.step (PS.eql rfl (fun h => h) rfl tt rfl rfl) ?_
   refine SL.step (PS.pick_or rfl tt rfl (fun h h2 => pk_or h h2) rfl rfl) ?_
   refine SL.keep (l' := [(30, _, _)]) ⟨rfl, trivial⟩ ?_
   refine SL.nil (SE.thenK hK6 ?_)
   refine SC.cond rfl (fun c30 => ?_) (fun c30 => ?_)
   ·
    refine SC.seq (fun K7 hK7 => SC.region ?_)
    refine SL.step (PS.assign rfl tt rfl rfl) ?_
    refine SL.keep (l' := [(2, _, _)]) ⟨rfl, trivial⟩ ?_
    refine SL.nil (SE.thenK hK7 (SC.ret (SE.then_ret ?_)))
    exact finV1 rfl rfl (fun _ _ => congrArg (fun z : Int => Value.int .i64 z) (show (4 : Int) = (d_latheref01_Flags p0) from ((bifF c16).trans ((bifT c30))).symm))
   ·
    refine SC.skip (SE.thenK hK5 (SC.seq (fun K8 hK8 => SC.region ?_)))
    refine SL.step (PS.assign rfl tt rfl rfl) ?_
    refine SL.keep (l' := [(2, _, _)]) ⟨rfl, trivial⟩ ?_
    refine SL.nil (SE.thenK hK8 (SC.ret ?_))
    exact finV1 rfl rfl (fun _ _ => congrArg (fun z : Int => Value.int .i64 z) (show (0 : Int) = (d_latheref01_Flags p0) from ((bifF c16).trans ((bifF c30))).symm))
end Go.Proofs.Ytffimfmicapaaaa
