/- The engine and the contracts of the functions that the statement reaches, part 5. -/
import Derived.Test.YtjfdbmfcnhjfoaaMd
import Derived.Shelf.Bits.Mul64
import Derived.Shelf.Slices.Turned
import Derived.Shelf.Slices.Reverse
import Derived.Shelf.Slices.Equal
import Derived.Ground.Names2Prog
import Derived.Shelf.Slices.Clone
import Derived.Shelf.Slices.Cells
import Derived.Shelf.Slices.Empties2
import Derived.Test.YtjfdbmfcnhjfoaaProg
import Derived.Laws.Externs
import Derived.Shelf.RegionOpenPlain
import Derived.Deep.LoopGhost
import Derived.Deep.RegionLaw
import Derived.Deep.MidRow
import Derived.Lib.Walk
import Derived.Lib.SliceRun
import Derived.Lib.SlicesDelete
set_option linter.unusedVariables false
set_option linter.unusedSimpArgs false
set_option maxRecDepth 100000
set_option maxHeartbeats 8000000
namespace Go.Proofs.Ytjfdbmfcnhjfoaa
open Go.RowKit
end Go.Proofs.Ytjfdbmfcnhjfoaa
namespace Go.Proofs
open Go.Shelf
def Try.lays264_ren : Go.Shelf.Ren := ⟨fun | 264 => 117 | n => n, fun | 53 => 48 | 46 => 168 | n => n, fun | n => n⟩
theorem Try.lays264 : Go.Proofs.Lays.n264 Try.prog Try.lays264_ren := {
  mixed := by kernel_rfl
  f264 := Try.func117.trans (congrArg some (by kernel_rfl))
  t46 := Try.underlying168
  a46 := Try.isAgg168
  z46 := Try.sizeOf168
  v46 := Try.zeroValue168
  t53 := Try.underlying48
  a53 := Try.isAgg48
  z53 := Try.sizeOf48
  v53 := Try.zeroValue48 }
open Go.RowKit Go.Lib in
theorem Try.bits_Mul64 (x y : Nat) (hx : x < 18446744073709551616) (hy : y < 18446744073709551616) (w : World) :
    Calls Try.prog 117 #[.int .u64 x, .int .u64 y] w fun e w' => e = .returned (.tuple #[.int .u64 ((x * y / 18446744073709551616 : Nat) : Int), .int .u64 ((x * y % 18446744073709551616 : Nat) : Int)]) ∧ w' = w := Any.bits_Mul64 Try.lays264 x y hx hy w
end Go.Proofs

namespace Go.Proofs.Ytjfdbmfcnhjfoaa
open Go.RowKit
theorem min_sh {n : Nat} (h : n ≤ 64) : min ((64 : Int) - n).toNat IntKind.u64.bits = ((64 : Int) - n).toNat ∧ min ((64 : Int) - n).toNat IntKind.i64.bits = ((64 : Int) - n).toNat := by
  simp only [IntKind.bits]; omega
theorem w64 (z : Int) : IntKind.i64.wrap z = wrap64 z := by rw [IntKind.wrap_i64]; unfold wrap64; omega
theorem Mask_P (w : Int) : ASpec Try.prog 88 [.i .i64 w] (.i .u64 (Pl.mask w)) [] := by
  refine ASpec.enter TYok mixed Try.func88 rfl Try.call88 Try.ntmps88 rfl (rs := [.tmp 2]) rfl (nodupB_ok rfl) (Clo.one rfl) (keep := [0, 2]) ?_; conv => whnf
  repeat' first | (refine iF (fun hb => ?_) (fun hb => ?_) <;> (try simp only [pickB_or, pickB_and] at hb) <;> (have hc := hb; try simp only [sB, Int.reduceToNat] at hc; try simp only [addZ0] at hc) <;> first | (exfalso; omega) | conv => whnf) | ((first | refine ⟨_, wr64 ti ti, ?_⟩ | refine And.intro si ?_ | refine LitW.frz ?_ | refine PreW.frz ?_ | refine AppW.cp ?_ | refine TakW.row ?_ | refine dD ?_ | refine dF ?_ | refine d0 ?_ | refine d1 ?_ | refine dL ?_ | refine dP ?_ | refine And.intro tgi ?_ | refine ⟨_, shl1 (by omega), ?_⟩ | refine ⟨_, wru64 ti ti, ?_⟩ | refine ⟨_, fun _ => (IntKind.wrap_u64 _).symm, ?_⟩); conv => whnf) | (refine CallV.ret ?_; conv => whnf) | exact ⟨_, .keep rfl rfl⟩ | fail
  · exact ⟨_, .keep (by rw [Pl.mask_out (by omega)]) rfl⟩
  obtain ⟨n, rfl⟩ := Int.eq_ofNat_of_zero_le (show 0 ≤ w by omega)
  refine ⟨_, .keep ?_ rfl⟩
  rw [Pl.mask_in (by omega) (by omega), ← Pl.mask_eq (by omega), (min_sh (by omega)).1]
theorem Flags_P (op : Int) : ASpec Try.prog 86 [.i .i64 op] (.i .i64 (Pl.flags op)) [] := by
  refine ASpec.enter TYok mixed Try.func86 rfl Try.call86 Try.ntmps86 rfl (rs := [.tmp 2]) rfl (nodupB_ok rfl) (Clo.one rfl) (keep := [0, 2, 3]) ?_; conv => whnf
  repeat' first | (refine iF (fun hb => ?_) (fun hb => ?_) <;> (try simp only [pickB_or, pickB_and] at hb) <;> (have hc := hb; try simp only [sB, Int.reduceToNat] at hc; try simp only [addZ0] at hc) <;> first | (exfalso; omega) | conv => whnf) | ((first | refine ⟨_, wr64 ti ti, ?_⟩ | refine And.intro si ?_ | refine LitW.frz ?_ | refine PreW.frz ?_ | refine AppW.cp ?_ | refine TakW.row ?_ | refine dD ?_ | refine dF ?_ | refine d0 ?_ | refine d1 ?_ | refine dL ?_ | refine dP ?_ | refine And.intro tgi ?_ | refine ⟨_, shl1 (by omega), ?_⟩ | refine ⟨_, wru64 ti ti, ?_⟩ | refine ⟨_, fun _ => (IntKind.wrap_u64 _).symm, ?_⟩); conv => whnf) | (refine CallV.ret ?_; conv => whnf) | exact ⟨_, .keep rfl rfl⟩ | fail
  all_goals exact ⟨_, .keep (by (try simp only [pickB_or, pickB_and]); unfold Pl.flags; repeat' (first | rfl | omega | split | (simp_all; done))) rfl⟩
theorem Signed_P (w v : Int) : ASpec Try.prog 104 [.i .i64 w, .i .u64 v] (.i .i64 (Pl.signed w v)) [] := by
  refine ASpec.enter TYok mixed Try.func104 rfl Try.call104 Try.ntmps104 rfl (rs := [.tmp 4]) rfl (nodupB_ok rfl) (Clo.one rfl) (keep := [0, 1, 4]) ?_; conv => whnf
  repeat' first | (refine iF (fun hb => ?_) (fun hb => ?_) <;> (try simp only [pickB_or, pickB_and] at hb) <;> (have hc := hb; try simp only [sB, Int.reduceToNat] at hc; try simp only [addZ0] at hc) <;> first | (exfalso; omega) | conv => whnf) | ((first | refine ⟨_, wr64 ti ti, ?_⟩ | refine And.intro si ?_ | refine LitW.frz ?_ | refine PreW.frz ?_ | refine AppW.cp ?_ | refine TakW.row ?_ | refine dD ?_ | refine dF ?_ | refine d0 ?_ | refine d1 ?_ | refine dL ?_ | refine dP ?_ | refine And.intro tgi ?_ | refine ⟨_, shl1 (by omega), ?_⟩ | refine ⟨_, fun _ => rfl, ?_⟩); conv => whnf) | (refine CallV.ret ?_; conv => whnf) | exact ⟨_, .keep rfl rfl⟩ | fail
  · exact ⟨_, .keep (by rw [Pl.signed_out (by omega)]) rfl⟩
  obtain ⟨n, rfl⟩ := Int.eq_ofNat_of_zero_le (show 0 ≤ w by omega)
  refine ⟨_, .keep ?_ rfl⟩
  rw [Pl.signed_in (by omega) (by omega), ← Pl.signed_eq (by omega) (by omega), (min_sh (by omega)).1, (min_sh (by omega)).2, w64]
theorem size_P (x : Int) (h : -9223372036854775808 ≤ x) (h' : x ≤ 9223372036854775807) : ASpec Try.prog 124 [.i .i64 x] (.i .u64 (x.natAbs : Int)) [] := by
  refine ASpec.enter TYok mixed Try.func124 rfl Try.call124 Try.ntmps124 rfl (rs := [.tmp 2]) rfl (nodupB_ok rfl) (Clo.one rfl) (keep := [0, 2]) ?_; conv => whnf
  repeat' first | (refine iF (fun hb => ?_) (fun hb => ?_) <;> (try simp only [pickB_or, pickB_and] at hb) <;> (have hc := hb; try simp only [sB, Int.reduceToNat] at hc; try simp only [addZ0] at hc) <;> first | (exfalso; omega) | conv => whnf) | ((first | refine ⟨_, wr64 ti ti, ?_⟩ | refine And.intro si ?_ | refine LitW.frz ?_ | refine PreW.frz ?_ | refine AppW.cp ?_ | refine TakW.row ?_ | refine dD ?_ | refine dF ?_ | refine d0 ?_ | refine d1 ?_ | refine dL ?_ | refine dP ?_ | refine And.intro tgi ?_ | refine ⟨_, shl1 (by omega), ?_⟩ | refine ⟨_, fun _ => rfl, ?_⟩); conv => whnf) | (refine CallV.ret ?_; conv => whnf) | exact ⟨_, .keep rfl rfl⟩ | fail
  all_goals refine ⟨_, .keep ?_ rfl⟩
  all_goals congr 1
  all_goals simp only [IntKind.wrap_u64]
  all_goals omega
theorem Mul64_P (x y : Int) (hx0 : 0 ≤ x) (hx : x < 18446744073709551616) (hy0 : 0 ≤ y) (hy : y < 18446744073709551616) : ASpec Try.prog 117 [.i .u64 x, .i .u64 y] (.tup [.i .u64 (x * y / 18446744073709551616), .i .u64 (x * y % 18446744073709551616)]) [] := by
  obtain ⟨a, rfl⟩ := Int.eq_ofNat_of_zero_le hx0
  obtain ⟨b, rfl⟩ := Int.eq_ofNat_of_zero_le hy0
  refine ⟨Try.call117, Clo.one rfl, fun S w us hr hv => ?_⟩
  obtain ⟨u, us', rfl, r1, u2, us2, rfl, r2, r3⟩ := hr
  unfold rel at r1 r2
  unfold rels at r3
  subst r1 r2 r3
  refine (Try.bits_Mul64 a b (by omega) (by omega) w).mono ?_
  rintro e w' ⟨h1, h2⟩
  subst h2
  refine ⟨_, W0, h1, Below.refl _ _, fun id ob hl => by simp [lk] at hl, fun k hk => (by cases hk), List.nodup_nil, List.nodup_nil, _, rfl, _, _, rfl, ?_, _, _, rfl, ?_, rfl⟩
  · unfold rel; simp only [Int.natCast_ediv, Int.natCast_mul]; rfl
  · unfold rel; simp only [Int.natCast_emod, Int.natCast_mul]; rfl
theorem Add64_P (x y : Int) (hx : 0 ≤ x) (hy : 0 ≤ y) (S : Nat → Prop) (β : Nat → Wt) (w : World) (us : List Value) (hr : rels S β w [.i .u64 x, .i .u64 y, .i .u64 0] us) : ∃ u, (callFunc 116 us.toArray).run Try.prog w = .ok (.value u) w ∧ ∀ (S' : Nat → Prop) (β' : Nat → Wt) (w' : World), rel S' β' w' (.tup [.i .u64 ((x + y) % 18446744073709551616), .i .u64 ((x + y) / 18446744073709551616)]) u := by
  obtain ⟨u, us', rfl, r1, u2, us2, rfl, r2, u3, us3, rfl, r3, r4⟩ := hr
  unfold rel at r1 r2 r3
  unfold rels at r4
  subst r1 r2 r3 r4
  refine ⟨.tuple #[.int .u64 ((x + y) % 18446744073709551616), .int .u64 ((x + y) / 18446744073709551616)], ?_, fun S' β' w' => ⟨_, rfl, _, _, rfl, rfl, _, _, rfl, rfl, rfl⟩⟩
  show (callFunc 116 #[.int .u64 x, .int .u64 y, .int .u64 0]).run Try.prog w = _
  rw [run_callFunc_extern Try.func116 (by kernel_rfl) (by kernel_rfl) (by kernel_rfl) (e := add64Entry) (by kernel_rfl), run_add64 x y 0 hx hy (by omega) (by omega)]
  simp only [Result.andThen, Int.add_zero]
theorem product_P (n : Nat) (x y : Int) (hn : 1 ≤ n) (hn' : n ≤ 64) (hx : -9223372036854775808 ≤ x) (hx' : x ≤ 9223372036854775807) (hy : -9223372036854775808 ≤ y) (hy' : y ≤ 9223372036854775807) :
    ASpec Try.prog 118 [.i .i64 n, .i .i64 x, .i .i64 y] (.b (!Pl.fitsS n (x * y))) [] := by
  have hm := Int.mul_nonneg (show 0 ≤ (x.natAbs : Int) by omega) (show 0 ≤ (y.natAbs : Int) by omega)
  refine ASpec.enter TYok mixed Try.func118 rfl Try.call118 Try.ntmps118 rfl (rs := [.tmp 6]) rfl (nodupB_ok rfl) (Clo.one rfl) (keep := [0, 1, 2, 6, 7, 8, 9]) ?_; conv => whnf
  repeat' first | (refine iF (fun hb => ?_) (fun hb => ?_) <;> (try simp only [pickB_or, pickB_and] at hb) <;> (have hc := hb; try simp only [sB, Int.reduceToNat] at hc; try simp only [addZ0] at hc) <;> first | (exfalso; omega) | conv => whnf) | ((first | refine ⟨_, wr64 ti ti, ?_⟩ | refine And.intro si ?_ | refine LitW.frz ?_ | refine PreW.frz ?_ | refine AppW.cp ?_ | refine TakW.row ?_ | refine dD ?_ | refine dF ?_ | refine d0 ?_ | refine d1 ?_ | refine dL ?_ | refine dP ?_ | refine And.intro tgi ?_ | refine ⟨_, shl1 (by omega), ?_⟩ | refine ⟨_, fun _ => rfl, ?_⟩); conv => whnf) | ((first | refine cK (fun _ => size_P _ hx hx') ?_ | ((try (refine CallW.lent ?_; (conv => whnf); repeat (refine And.intro si ?_; (conv => whnf)))); refine cL (fun _ => size_P _ hx hx') ?_)); conv => whnf) | ((first | refine cK (fun _ => size_P _ hy hy') ?_ | ((try (refine CallW.lent ?_; (conv => whnf); repeat (refine And.intro si ?_; (conv => whnf)))); refine cL (fun _ => size_P _ hy hy') ?_)); conv => whnf) | ((first | refine cK (fun _ => Mul64_P _ _ (by omega) (by omega) (by omega) (by omega)) ?_ | ((try (refine CallW.lent ?_; (conv => whnf); repeat (refine And.intro si ?_; (conv => whnf)))); refine cL (fun _ => Mul64_P _ _ (by omega) (by omega) (by omega) (by omega)) ?_)); conv => whnf) | (refine CallV.ret ?_; conv => whnf) | exact ⟨_, .keep rfl rfl⟩ | fail
  all_goals refine ⟨_, .keep (congrArg AV.b ?_) rfl⟩
  all_goals rw [pickB_or, show ((n : Int) - 1).toNat = n - 1 by omega]
  · rw [Pl.mul_same (show (decide (x < 0) == decide (y < 0)) = true by simpa using hb)]
    have h2 := Pl.half_le hn' hn
    unfold Pl.fitsS
    generalize (x.natAbs : Int) * y.natAbs = p at *
    generalize (2 : Int) ^ (n - 1) = M at *
    rw [Bool.eq_iff_iff]
    simp only [IntKind.wrap_u64, Bool.or_eq_true, Bool.not_eq_true', decide_eq_true_eq, decide_eq_false_iff_not]
    omega
  · rw [Pl.mul_apart (show (decide (x < 0) == decide (y < 0)) = false by simpa using hb)]
    have h2 := Pl.half_le hn' hn
    unfold Pl.fitsS
    generalize (x.natAbs : Int) * y.natAbs = p at *
    generalize (2 : Int) ^ (n - 1) = M at *
    rw [Bool.eq_iff_iff]
    simp only [Bool.or_eq_true, Bool.not_eq_true', decide_eq_true_eq, decide_eq_false_iff_not]
    omega
theorem sgI {n : Nat} (hn : 1 ≤ n) (hn' : n ≤ 64) (v : Int) : -9223372036854775808 ≤ Pl.signed n v ∧ Pl.signed n v ≤ 9223372036854775807 := by
  rw [Pl.signed_in hn hn']; exact Pl.sgn_i64 hn hn' v
theorem ring_P (op : Int) (n : Nat) (f a b : Int) (ho : op = 1 ∨ op = 2 ∨ op = 3) (hn : 1 ≤ n) (hn' : n ≤ 64) (ha : 0 ≤ a) (ha' : a < 2 ^ n) (hb0 : 0 ≤ b) (hb' : b < 2 ^ n) (hf : f = 0 ∨ f = 1 ∨ f = 2 ∨ f = 3) :
    ASpec Try.prog 105 [.i .i64 op, .i .i64 n, .i .i64 f, .i .u64 a, .i .u64 b] (.tup [.i .u64 (Pl.ring op n f a b).1, .i .i64 (Pl.ring op n f a b).2]) [] := by
  have hp := Pl.pow_le_int hn'
  have s1 := sgI hn hn' a
  have s2 := sgI hn hn' b
  have hm := Int.mul_nonneg ha hb0
  have key : ∀ {E S : Int} {t : Bool} {v x y : Int}, Pl.opI op a b = E → Pl.opI op (Pl.sgn n a) (Pl.sgn n b) = S → Pl.over n f E S = t → v = E % 18446744073709551616 → x = (bif t then 0 else v) → y = (bif t then 1 else 0) → AV.tup [.i .u64 x, .i .i64 y] = .tup [.i .u64 (Pl.ring op n f a b).1, .i .i64 (Pl.ring op n f a b).2] := fun {E S t v x y} hE hS ht hv hx hy => by
    cases t with
    | true => rw [Pl.ring_t hE hS ht, hx, hy]; rfl
    | false => rw [Pl.ring_f hE hS ht, hx, hy, hv]; rfl
  refine ASpec.enter TYok mixed Try.func105 rfl Try.call105 Try.ntmps105 rfl (rs := [.tmp 10, .tmp 11]) rfl (nodupB_ok rfl) (Clo.one rfl) (keep := [0, 1, 2, 3, 4, 10, 11, 12, 13, 14, 15, 16, 17, 18, 19, 20, 21, 22, 23, 30]) ?_; conv => whnf
  repeat' first | (refine iF (fun hb => ?_) (fun hb => ?_) <;> (try simp only [pickB_or, pickB_and] at hb) <;> (have hc := hb; try simp only [sB, Int.reduceToNat] at hc; try simp only [addZ0] at hc) <;> first | (exfalso; omega) | conv => whnf) | ((first | refine ⟨_, wr64 ti ti, ?_⟩ | refine And.intro si ?_ | refine LitW.frz ?_ | refine PreW.frz ?_ | refine AppW.cp ?_ | refine TakW.row ?_ | refine dD ?_ | refine dF ?_ | refine d0 ?_ | refine d1 ?_ | refine dL ?_ | refine dP ?_ | refine And.intro tgi ?_ | refine ⟨_, shl1 (by omega), ?_⟩ | refine ⟨_, fun _ => rfl, ?_⟩); conv => whnf) | (refine CallV.ext ?_; (conv => whnf); refine CallE.mk _ (Add64_P _ _ ha hb0) ?_; conv => whnf) | ((first | refine cK (fun _ => Signed_P _ _) ?_ | ((try (refine CallW.lent ?_; (conv => whnf); repeat (refine And.intro si ?_; (conv => whnf)))); refine cL (fun _ => Signed_P _ _) ?_)); conv => whnf) | ((first | refine cK (fun _ => Mask_P _) ?_ | ((try (refine CallW.lent ?_; (conv => whnf); repeat (refine And.intro si ?_; (conv => whnf)))); refine cL (fun _ => Mask_P _) ?_)); conv => whnf) | ((first | refine cK (fun _ => Mul64_P _ _ (by omega) (by omega) (by omega) (by omega)) ?_ | ((try (refine CallW.lent ?_; (conv => whnf); repeat (refine And.intro si ?_; (conv => whnf)))); refine cL (fun _ => Mul64_P _ _ (by omega) (by omega) (by omega) (by omega)) ?_)); conv => whnf) | ((first | refine cK (fun _ => product_P _ _ _ hn hn' (by omega) (by omega) (by omega) (by omega)) ?_ | ((try (refine CallW.lent ?_; (conv => whnf); repeat (refine And.intro si ?_; (conv => whnf)))); refine cL (fun _ => product_P _ _ _ hn hn' (by omega) (by omega) (by omega) (by omega)) ?_)); conv => whnf) | (refine CallV.ret ?_; conv => whnf) | exact ⟨_, .keep rfl rfl⟩ | fail
  · have hq := hb
    have e1 : op = 1 := by omega
    subst e1
    refine ⟨_, .keep (key (E := a + b) (S := Pl.sgn n a + Pl.sgn n b) (t := true) rfl rfl ?_ rfl rfl rfl) rfl⟩
    unfold Pl.over
    rw [← Pl.nuw_eq hf, ← Pl.nsw_eq hf, ← Pl.above_add hn hn' ha hb0 (by omega) (by omega), ← Pl.wraps_add hn hn']
    rw [Bool.or_false] at hq
    exact hq
  · have hq := hb
    have e1 : op = 1 := by omega
    subst e1
    refine ⟨_, .keep (key (E := a + b) (S := Pl.sgn n a + Pl.sgn n b) (t := false) rfl rfl ?_ rfl rfl rfl) rfl⟩
    unfold Pl.over
    rw [← Pl.nuw_eq hf, ← Pl.nsw_eq hf, ← Pl.above_add hn hn' ha hb0 (by omega) (by omega), ← Pl.wraps_add hn hn']
    rw [Bool.or_false] at hq
    exact hq
  · have hq := hb
    have e1 : op = 2 := by omega
    subst e1
    refine ⟨_, .keep (key (E := a - b) (S := Pl.sgn n a - Pl.sgn n b) (t := true) rfl rfl ?_ rfl rfl rfl) rfl⟩
    unfold Pl.over
    rw [← Pl.nuw_eq hf, ← Pl.nsw_eq hf, ← Pl.below_sub hn hn' hb0 ha', ← Pl.wraps_sub hn hn']
    rw [Bool.false_or] at hq
    exact hq
  · have hq := hb
    have e1 : op = 2 := by omega
    subst e1
    refine ⟨_, .keep (key (E := a - b) (S := Pl.sgn n a - Pl.sgn n b) (t := false) rfl rfl ?_ (IntKind.wrap_u64 _) rfl rfl) rfl⟩
    unfold Pl.over
    rw [← Pl.nuw_eq hf, ← Pl.nsw_eq hf, ← Pl.below_sub hn hn' hb0 ha', ← Pl.wraps_sub hn hn']
    rw [Bool.false_or] at hq
    exact hq
  · have hq := hb
    have e1 : op = 3 := by omega
    subst e1
    refine ⟨_, .keep (key (E := a * b) (S := Pl.sgn n a * Pl.sgn n b) (t := true) rfl rfl ?_ rfl rfl rfl) rfl⟩
    unfold Pl.over
    rw [← Pl.nuw_eq hf, ← Pl.nsw_eq hf, ← Pl.above_mul hn hn' hm, ← Pl.signed_in hn hn', ← Pl.signed_in hn hn']
    rw [Bool.or_false] at hq
    exact hq
  · have hq := hb
    have e1 : op = 3 := by omega
    subst e1
    refine ⟨_, .keep (key (E := a * b) (S := Pl.sgn n a * Pl.sgn n b) (t := false) rfl rfl ?_ rfl rfl rfl) rfl⟩
    unfold Pl.over
    rw [← Pl.nuw_eq hf, ← Pl.nsw_eq hf, ← Pl.above_mul hn hn' hm, ← Pl.signed_in hn hn', ← Pl.signed_in hn hn']
    rw [Bool.or_false] at hq
    exact hq
theorem bne_congr {x y : Int} : ((x != 0) = (y != 0)) = (x = 0 ↔ y = 0) := by
  apply propext
  rw [Bool.eq_iff_iff]; simp only [bne_iff_ne, ne_eq]; omega
theorem divide_P (op : Int) (n : Nat) (f a b : Int) (ho : op = 4 ∨ op = 5 ∨ op = 6 ∨ op = 7) (hn : 1 ≤ n) (hn' : n ≤ 64) (ha : 0 ≤ a) (ha' : a < 2 ^ n) (hb0 : 0 ≤ b) (hb' : b < 2 ^ n) (hf : f = 0 ∨ f = 4) :
    ASpec Try.prog 106 [.i .i64 op, .i .i64 n, .i .i64 f, .i .u64 a, .i .u64 b] (.tup [.i .u64 (Pl.div op n f a b).1, .i .i64 (Pl.div op n f a b).2]) [] := by
  have hp := Pl.pow_le_int hn'
  have s1 := sgI hn hn' a
  have s2 := sgI hn hn' b
  have hy : b ≠ 0 → Pl.signed n b ≠ 0 := fun hb => by
    obtain ⟨M, h1, _, _, h2, hM, hle, _, _⟩ := Pl.dbl hn hn'
    rw [Pl.signed_in hn hn']
    by_cases c : b < M
    · rw [Pl.sgn_mid h1 hM (by omega) c]; omega
    · rw [Pl.sgn_up h1 hM (by omega) (by omega)]; omega
  have key : ∀ {x y : Int}, Pl.div op n f a b = (x, y) → AV.tup [.i .u64 x, .i .i64 y] = .tup [.i .u64 (Pl.div op n f a b).1, .i .i64 (Pl.div op n f a b).2] := fun h => by rw [h]
  refine ASpec.enter TYok mixed Try.func106 rfl Try.call106 Try.ntmps106 rfl (rs := [.tmp 10, .tmp 11]) rfl (nodupB_ok rfl) (Clo.one rfl) (keep := [0, 1, 2, 3, 4, 10, 11, 12, 13, 14, 15]) ?_; conv => whnf
  have e1 : a.tmod b = a % b := Int.tmod_eq_emod_of_nonneg ha
  have e2 : a.tdiv b = a / b := Int.tdiv_eq_ediv_of_nonneg ha
  have ex : bits .and .i64 f 4 = 0 ↔ ¬f = 4 := by
    rcases hf with rfl | rfl
    · exact ⟨fun _ => by omega, fun _ => rfl⟩
    · exact ⟨fun h => absurd h (by decide), fun h => absurd rfl h⟩
  have toN : ((n : Int) - 1).toNat = n - 1 := by omega
  repeat' first | (refine iF (fun hb => ?_) (fun hb => ?_) <;> (try simp only [pickB_or, pickB_and] at hb) <;> (have hc := hb; try simp only [sB, Int.reduceToNat] at hc; try simp only [addZ0] at hc) <;> first | (exfalso; omega) | conv => whnf) | ((first | refine ⟨_, wr64 ti ti, ?_⟩ | refine And.intro si ?_ | refine LitW.frz ?_ | refine PreW.frz ?_ | refine AppW.cp ?_ | refine TakW.row ?_ | refine dD ?_ | refine dF ?_ | refine d0 ?_ | refine d1 ?_ | refine dL ?_ | refine dP ?_ | refine And.intro tgi ?_ | refine ⟨_, shl1 (by omega), ?_⟩ | refine ⟨_, fun _ => rfl, ?_⟩); conv => whnf) | ((first | refine cK (fun _ => Signed_P _ _) ?_ | ((try (refine CallW.lent ?_; (conv => whnf); repeat (refine And.intro si ?_; (conv => whnf)))); refine cL (fun _ => Signed_P _ _) ?_)); conv => whnf) | (refine CallV.ret ?_; conv => whnf) | exact ⟨_, .keep rfl rfl⟩ | fail
  · exact ⟨_, .keep (key (by rw [hc]; exact Pl.div_zero ..)) rfl⟩
  · have h1 := Int.emod_nonneg a (show b ≠ 0 by omega)
    have h2 := Int.emod_lt_of_pos a (show 0 < b by omega)
    exact ⟨_, .keep (key (by rw [Pl.div_u (by omega) (by omega), Pl.divR_r (by simpa using hc), Pl.mod_small h1 (by omega), e1])) rfl⟩
  · refine ⟨_, .keep (key ?_) rfl⟩
    unfold Pl.div Pl.divR
    rw [if_neg (by omega), if_pos (by omega), if_neg (by omega), if_pos (by rw [← e1]; omega)]
  · refine ⟨_, .keep (key ?_) rfl⟩
    unfold Pl.div Pl.divR
    rw [if_neg (by omega), if_pos (by omega), if_neg (by omega), if_neg (by rw [← e1]; omega), IntKind.wrap_u64, e2]
  all_goals have g1 := Pl.signed_in hn hn' (v := a)
  all_goals have g2 := Pl.signed_in hn hn' (v := b)
  all_goals have g3 := Pl.tmod_small (x := Pl.signed n a) (y := Pl.signed n b) s1.1 s1.2
  all_goals rw [bne_congr] at g3
  · refine ⟨_, .keep (key ?_) rfl⟩
    unfold Pl.div
    rw [← g2, ← toN, if_neg (by omega), if_neg (by omega), if_pos hc]
  all_goals have hlst : ¬(Pl.signed n b = -1 ∧ a = 2 ^ (n - 1)) := by rw [← toN]; omega
  · refine ⟨_, .keep (key ?_) rfl⟩
    unfold Pl.div Pl.divR
    rw [← g1, ← g2, if_neg (by omega), if_neg (by omega), if_neg hlst, if_pos (by omega), IntKind.wrap_u64]
  · refine ⟨_, .keep (key ?_) rfl⟩
    unfold Pl.div Pl.divR
    rw [← g1, ← g2, if_neg (by omega), if_neg (by omega), if_neg hlst, if_neg (by omega), if_pos ⟨by omega, fun h => hc.2 (g3.2 h)⟩]
  · refine ⟨_, .keep (key ?_) rfl⟩
    unfold Pl.div Pl.divR
    rw [← g1, ← g2, if_neg (by omega), if_neg (by omega), if_neg hlst, if_neg (by omega), if_neg (fun h => h.2 (g3.1 (by omega))), Pl.wrapQ]
theorem neD {x y : Int} : (!decide (x = y)) = (x != y) := rfl
theorem shift_P (op : Int) (n : Nat) (f a b : Int) (ho : op = 11 ∨ op = 12 ∨ op = 13) (hn : 1 ≤ n) (hn' : n ≤ 64) (ha : 0 ≤ a) (ha' : a < 2 ^ n) (hb0 : 0 ≤ b) (hb2 : b < 18446744073709551616) (hf : (op = 11 → f = 0 ∨ f = 1 ∨ f = 2 ∨ f = 3) ∧ (op ≠ 11 → f = 0 ∨ f = 4)) :
    ASpec Try.prog 107 [.i .i64 op, .i .i64 n, .i .i64 f, .i .u64 a, .i .u64 b] (.tup [.i .u64 (Pl.shift op n f a b).1, .i .i64 (Pl.shift op n f a b).2]) [] := by
  have hp := Pl.pow_le_int hn'
  have hw : IntKind.u64.wrap (n : Int) = n := by rw [IntKind.wrap_u64]; omega
  obtain ⟨k, rfl⟩ := Int.eq_ofNat_of_zero_le hb0
  have key : ∀ {x y : Int}, Pl.shift op n f a k = (x, y) → AV.tup [.i .u64 x, .i .i64 y] = .tup [.i .u64 (Pl.shift op n f a k).1, .i .i64 (Pl.shift op n f a k).2] := fun h => by rw [h]
  refine ASpec.enter TYok mixed Try.func107 rfl Try.call107 Try.ntmps107 rfl (rs := [.tmp 10, .tmp 11]) rfl (nodupB_ok rfl) (Clo.one rfl) (keep := [0, 1, 2, 3, 4, 10, 11, 12, 13, 18]) ?_; conv => whnf
  repeat' first | (refine iF (fun hb => ?_) (fun hb => ?_) <;> (try simp only [pickB_or, pickB_and] at hb) <;> (have hc := hb; try simp only [sB, Int.reduceToNat] at hc; try simp only [addZ0] at hc) <;> first | (exfalso; omega) | conv => whnf) | ((first | refine ⟨_, wr64 ti ti, ?_⟩ | refine And.intro si ?_ | refine LitW.frz ?_ | refine PreW.frz ?_ | refine AppW.cp ?_ | refine TakW.row ?_ | refine dD ?_ | refine dF ?_ | refine d0 ?_ | refine d1 ?_ | refine dL ?_ | refine dP ?_ | refine And.intro tgi ?_ | refine ⟨_, shl1 (by omega), ?_⟩ | refine ⟨_, fun _ => rfl, ?_⟩); conv => whnf) | ((first | refine cK (fun _ => Signed_P _ _) ?_ | ((try (refine CallW.lent ?_; (conv => whnf); repeat (refine And.intro si ?_; (conv => whnf)))); refine cL (fun _ => Signed_P _ _) ?_)); conv => whnf) | ((first | refine cK (fun _ => Mask_P _) ?_ | ((try (refine CallW.lent ?_; (conv => whnf); repeat (refine And.intro si ?_; (conv => whnf)))); refine cL (fun _ => Mask_P _) ?_)); conv => whnf) | (refine CallV.ret ?_; conv => whnf) | exact ⟨_, .keep rfl rfl⟩ | fail
  · exact ⟨_, .keep (key (by rw [hw] at hc; exact if_pos hc)) rfl⟩
  all_goals have hk : k < n := by rw [hw] at *; omega
  all_goals simp only [neD] at hb
  · rw [Pl.nuw_eq (hf.1 (by omega)), Pl.nsw_eq (hf.1 (by omega)), Pl.min_u hk hn', Pl.min_i hk hn', Pl.and_mask_wrap hn hn', Pl.signed_in hn hn', Pl.signed_in hn hn', Pl.shl_u hk ha, Pl.shl_s hn hn' hk] at hb
    exact ⟨_, .keep (key (by rw [show op = 11 by omega]; exact Pl.shift_l1 hk hb)) rfl⟩
  · rw [Pl.nuw_eq (hf.1 (by omega)), Pl.nsw_eq (hf.1 (by omega)), Pl.min_u hk hn', Pl.min_i hk hn', Pl.and_mask_wrap hn hn', Pl.signed_in hn hn', Pl.signed_in hn hn', Pl.shl_u hk ha, Pl.shl_s hn hn' hk] at hb
    exact ⟨_, .keep (key (by rw [show op = 11 by omega, Pl.shift_l0 hk hb, Pl.min_u hk hn', Pl.and_mask_wrap hn hn'])) rfl⟩
  all_goals rw [Pl.exact_eq (hf.2 (by omega)), Pl.min_u hk hn'] at hb
  · rw [Pl.lshr_x hn' hk ha ha'] at hb
    exact ⟨_, .keep (key (Pl.shift_r1 hk (by omega) hb)) rfl⟩
  · rw [Pl.lshr_x hn' hk ha ha'] at hb
    exact ⟨_, .keep (key (by rw [Pl.shift_r0 hk (by omega) hb, if_pos (by omega), Pl.min_u hk hn'])) rfl⟩
  · rw [Pl.min_i hk hn', Pl.and_mask_wrap hn hn', Pl.signed_in hn hn', Pl.ashr_x hn' hk ha ha'] at hb
    exact ⟨_, .keep (key (Pl.shift_r1 hk (by omega) hb)) rfl⟩
  · rw [Pl.min_i hk hn', Pl.and_mask_wrap hn hn', Pl.signed_in hn hn', Pl.ashr_x hn' hk ha ha'] at hb
    exact ⟨_, .keep (key (by rw [Pl.shift_r0 hk (by omega) hb, if_neg (by omega), Pl.min_i hk hn', Pl.signed_in hn hn', IntKind.wrap_u64])) rfl⟩
theorem badP' {op w f : Int} : Pl.badA op w f = true ↔ Pl.mask w = 0 ∨ op < 1 ∨ 19 < op ∨ ¬bits .andNot .i64 f (Pl.flags op) = 0 := by
  unfold Pl.badA; simp only [Bool.or_eq_true, beq_iff_eq, decide_eq_true_eq, bne_iff_ne, ne_eq, or_assoc]
theorem badN {op w f : Int} : Pl.badA op w f = false ↔ ¬Pl.mask w = 0 ∧ ¬op < 1 ∧ ¬19 < op ∧ bits .andNot .i64 f (Pl.flags op) = 0 := by
  rw [← Bool.not_eq_true, badP']; simp only [not_or, Decidable.not_not]
theorem apk {op w f a b x y : Int} (h : Pl.apply op w f a b = (x, y)) : AV.tup [.i .u64 x, .i .i64 y] = .tup [.i .u64 (Pl.apply op w f a b).1, .i .i64 (Pl.apply op w f a b).2] := by rw [h]
theorem Apply_bad (op w f a b : Int) (hg : Pl.badA op w f = true) :
    ASpec Try.prog 91 [.i .i64 op, .i .i64 w, .i .i64 f, .i .u64 a, .i .u64 b] (.tup [.i .u64 (Pl.apply op w f a b).1, .i .i64 (Pl.apply op w f a b).2]) [] := by
  have hg' := badP'.1 hg
  refine ASpec.enter TYok mixed Try.func91 rfl Try.call91 Try.ntmps91 rfl (rs := [.tmp 10, .tmp 11]) rfl (nodupB_ok rfl) (Clo.one rfl) (keep := [0, 1, 2, 3, 4, 10, 11, 12, 13, 14, 15, 16]) ?_; conv => whnf
  repeat' first | (refine iF (fun hb => ?_) (fun hb => ?_) <;> (try simp only [pickB_or, pickB_and] at hb) <;> (have hc := hb; try simp only [sB, Int.reduceToNat] at hc; try simp only [addZ0] at hc) <;> first | (exfalso; omega) | conv => whnf) | ((first | refine ⟨_, wr64 ti ti, ?_⟩ | refine And.intro si ?_ | refine LitW.frz ?_ | refine PreW.frz ?_ | refine AppW.cp ?_ | refine TakW.row ?_ | refine dD ?_ | refine dF ?_ | refine d0 ?_ | refine d1 ?_ | refine dL ?_ | refine dP ?_ | refine And.intro tgi ?_ | refine ⟨_, shl1 (by omega), ?_⟩ | refine ⟨_, fun _ => rfl, ?_⟩); conv => whnf) | ((first | refine cK (fun _ => Mask_P _) ?_ | ((try (refine CallW.lent ?_; (conv => whnf); repeat (refine And.intro si ?_; (conv => whnf)))); refine cL (fun _ => Mask_P _) ?_)); conv => whnf) | ((first | refine cK (fun _ => Flags_P _) ?_ | ((try (refine CallW.lent ?_; (conv => whnf); repeat (refine And.intro si ?_; (conv => whnf)))); refine cL (fun _ => Flags_P _) ?_)); conv => whnf) | (refine CallV.ret ?_; conv => whnf) | exact ⟨_, .keep rfl rfl⟩ | fail
  exact ⟨_, .keep (apk (Pl.apply_bad hg)) rfl⟩
theorem cutT {n : Nat} {p : Int × Int} (h : ¬p.2 = 0) : Pl.cutR n p = (0, p.2) := Pl.cutR_t (by simpa using h)
theorem cutF {n : Nat} {p : Int × Int} (h : p.2 = 0) : Pl.cutR n p = (p.1 % 2 ^ n, 0) := Pl.cutR_f (by simpa using h)
theorem Apply_ring (op : Int) (n : Nat) (f a b : Int) (ho : op = 1 ∨ op = 2 ∨ op = 3) (hn : 1 ≤ n) (hn' : n ≤ 64) (ha : 0 ≤ a) (ha' : a < 18446744073709551616) (hb0 : 0 ≤ b) (hb' : b < 18446744073709551616) (hg : Pl.badA op n f = false) (hf : f = 0 ∨ f = 1 ∨ f = 2 ∨ f = 3) :
    ASpec Try.prog 91 [.i .i64 op, .i .i64 n, .i .i64 f, .i .u64 a, .i .u64 b] (.tup [.i .u64 (Pl.apply op n f a b).1, .i .i64 (Pl.apply op n f a b).2]) [] := by
  have ea := Pl.and_mask hn hn' ha ha'
  have eb := Pl.and_mask hn hn' hb0 hb'
  have ma := Pl.mod_range n a
  have mb := Pl.mod_range n b
  have hp := Pl.pow_le_int hn'
  have rr := Pl.ring_range op n f (a % 2 ^ n) (b % 2 ^ n)
  have hg' := badN.1 hg
  have hR := ring_P op n f (bits .and .u64 a (Pl.mask n)) (bits .and .u64 b (Pl.mask n)) ho hn hn' (by rw [ea]; exact ma.1) (by rw [ea]; exact ma.2) (by rw [eb]; exact mb.1) (by rw [eb]; exact mb.2) hf
  rw [ea, eb] at hR
  have e1 : Pl.apply op n f a b = Pl.cutR n (Pl.ring op n f (a % 2 ^ n) (b % 2 ^ n)) := by rw [Pl.apply_ok hg, Pl.core_ring (by omega)]
  refine ASpec.enter TYok mixed Try.func91 rfl Try.call91 Try.ntmps91 rfl (rs := [.tmp 10, .tmp 11]) rfl (nodupB_ok rfl) (Clo.one rfl) (keep := [0, 1, 2, 3, 4, 10, 11, 12, 13, 14, 15, 16]) ?_; conv => whnf
  repeat' first | (refine iF (fun hb => ?_) (fun hb => ?_) <;> (try simp only [pickB_or, pickB_and] at hb) <;> (have hc := hb; try simp only [sB, Int.reduceToNat] at hc; try simp only [addZ0] at hc) <;> first | (exfalso; omega) | conv => whnf) | ((first | refine ⟨_, wr64 ti ti, ?_⟩ | refine And.intro si ?_ | refine LitW.frz ?_ | refine PreW.frz ?_ | refine AppW.cp ?_ | refine TakW.row ?_ | refine dD ?_ | refine dF ?_ | refine d0 ?_ | refine d1 ?_ | refine dL ?_ | refine dP ?_ | refine And.intro tgi ?_ | refine ⟨_, shl1 (by omega), ?_⟩ | refine ⟨_, fun _ => rfl, ?_⟩); conv => whnf) | ((first | refine cK (fun _ => Mask_P _) ?_ | ((try (refine CallW.lent ?_; (conv => whnf); repeat (refine And.intro si ?_; (conv => whnf)))); refine cL (fun _ => Mask_P _) ?_)); conv => whnf) | ((first | refine cK (fun _ => Flags_P _) ?_ | ((try (refine CallW.lent ?_; (conv => whnf); repeat (refine And.intro si ?_; (conv => whnf)))); refine cL (fun _ => Flags_P _) ?_)); conv => whnf) | ((first | refine cK (fun _ => (by rw [ea, eb]; exact hR)) ?_ | ((try (refine CallW.lent ?_; (conv => whnf); repeat (refine And.intro si ?_; (conv => whnf)))); refine cL (fun _ => (by rw [ea, eb]; exact hR)) ?_)); conv => whnf) | (refine CallV.ret ?_; conv => whnf) | exact ⟨_, .keep rfl rfl⟩ | fail
  · exact ⟨_, .keep (apk (by rw [e1]; exact cutT hc)) rfl⟩
  · exact ⟨_, .keep (apk (by rw [e1, cutF hc, Pl.and_mask hn hn' rr.1 rr.2])) rfl⟩
theorem Apply_div (op : Int) (n : Nat) (f a b : Int) (ho : op = 4 ∨ op = 5 ∨ op = 6 ∨ op = 7) (hn : 1 ≤ n) (hn' : n ≤ 64) (ha : 0 ≤ a) (ha' : a < 18446744073709551616) (hb0 : 0 ≤ b) (hb' : b < 18446744073709551616) (hg : Pl.badA op n f = false) (hf : f = 0 ∨ f = 4) :
    ASpec Try.prog 91 [.i .i64 op, .i .i64 n, .i .i64 f, .i .u64 a, .i .u64 b] (.tup [.i .u64 (Pl.apply op n f a b).1, .i .i64 (Pl.apply op n f a b).2]) [] := by
  have ea := Pl.and_mask hn hn' ha ha'
  have eb := Pl.and_mask hn hn' hb0 hb'
  have ma := Pl.mod_range n a
  have mb := Pl.mod_range n b
  have hp := Pl.pow_le_int hn'
  have rr := Pl.div_range op n f (a % 2 ^ n) (b % 2 ^ n)
  have hg' := badN.1 hg
  have hR := divide_P op n f (bits .and .u64 a (Pl.mask n)) (bits .and .u64 b (Pl.mask n)) ho hn hn' (by rw [ea]; exact ma.1) (by rw [ea]; exact ma.2) (by rw [eb]; exact mb.1) (by rw [eb]; exact mb.2) hf
  rw [ea, eb] at hR
  have e1 : Pl.apply op n f a b = Pl.cutR n (Pl.div op n f (a % 2 ^ n) (b % 2 ^ n)) := by rw [Pl.apply_ok hg, Pl.core_div (by omega) (by omega)]
  refine ASpec.enter TYok mixed Try.func91 rfl Try.call91 Try.ntmps91 rfl (rs := [.tmp 10, .tmp 11]) rfl (nodupB_ok rfl) (Clo.one rfl) (keep := [0, 1, 2, 3, 4, 10, 11, 12, 13, 14, 15, 16]) ?_; conv => whnf
  repeat' first | (refine iF (fun hb => ?_) (fun hb => ?_) <;> (try simp only [pickB_or, pickB_and] at hb) <;> (have hc := hb; try simp only [sB, Int.reduceToNat] at hc; try simp only [addZ0] at hc) <;> first | (exfalso; omega) | conv => whnf) | ((first | refine ⟨_, wr64 ti ti, ?_⟩ | refine And.intro si ?_ | refine LitW.frz ?_ | refine PreW.frz ?_ | refine AppW.cp ?_ | refine TakW.row ?_ | refine dD ?_ | refine dF ?_ | refine d0 ?_ | refine d1 ?_ | refine dL ?_ | refine dP ?_ | refine And.intro tgi ?_ | refine ⟨_, shl1 (by omega), ?_⟩ | refine ⟨_, fun _ => rfl, ?_⟩); conv => whnf) | ((first | refine cK (fun _ => Mask_P _) ?_ | ((try (refine CallW.lent ?_; (conv => whnf); repeat (refine And.intro si ?_; (conv => whnf)))); refine cL (fun _ => Mask_P _) ?_)); conv => whnf) | ((first | refine cK (fun _ => Flags_P _) ?_ | ((try (refine CallW.lent ?_; (conv => whnf); repeat (refine And.intro si ?_; (conv => whnf)))); refine cL (fun _ => Flags_P _) ?_)); conv => whnf) | ((first | refine cK (fun _ => (by rw [ea, eb]; exact hR)) ?_ | ((try (refine CallW.lent ?_; (conv => whnf); repeat (refine And.intro si ?_; (conv => whnf)))); refine cL (fun _ => (by rw [ea, eb]; exact hR)) ?_)); conv => whnf) | (refine CallV.ret ?_; conv => whnf) | exact ⟨_, .keep rfl rfl⟩ | fail
  · exact ⟨_, .keep (apk (by rw [e1]; exact cutT hc)) rfl⟩
  · exact ⟨_, .keep (apk (by rw [e1, cutF hc, Pl.and_mask hn hn' rr.1 rr.2])) rfl⟩
theorem Apply_shift (op : Int) (n : Nat) (f a b : Int) (ho : op = 11 ∨ op = 12 ∨ op = 13) (hn : 1 ≤ n) (hn' : n ≤ 64) (ha : 0 ≤ a) (ha' : a < 18446744073709551616) (hb0 : 0 ≤ b) (hb' : b < 18446744073709551616) (hg : Pl.badA op n f = false) (hf : (op = 11 → f = 0 ∨ f = 1 ∨ f = 2 ∨ f = 3) ∧ (op ≠ 11 → f = 0 ∨ f = 4)) :
    ASpec Try.prog 91 [.i .i64 op, .i .i64 n, .i .i64 f, .i .u64 a, .i .u64 b] (.tup [.i .u64 (Pl.apply op n f a b).1, .i .i64 (Pl.apply op n f a b).2]) [] := by
  have ea := Pl.and_mask hn hn' ha ha'
  have eb := Pl.and_mask hn hn' hb0 hb'
  have ma := Pl.mod_range n a
  have mb := Pl.mod_range n b
  have hp := Pl.pow_le_int hn'
  have rr := Pl.shift_range op f (b % 2 ^ n) hn' ma.1 (by omega)
  have hg' := badN.1 hg
  have hR := shift_P op n f (bits .and .u64 a (Pl.mask n)) (bits .and .u64 b (Pl.mask n)) ho hn hn' (by rw [ea]; exact ma.1) (by rw [ea]; exact ma.2) (by rw [eb]; exact mb.1) (by rw [eb]; omega) hf
  rw [ea, eb] at hR
  have e1 : Pl.apply op n f a b = Pl.cutR n (Pl.shift op n f (a % 2 ^ n) (b % 2 ^ n)) := by rw [Pl.apply_ok hg, Pl.core_shift (by omega) (by omega)]
  refine ASpec.enter TYok mixed Try.func91 rfl Try.call91 Try.ntmps91 rfl (rs := [.tmp 10, .tmp 11]) rfl (nodupB_ok rfl) (Clo.one rfl) (keep := [0, 1, 2, 3, 4, 10, 11, 12, 13, 14, 15, 16]) ?_; conv => whnf
  repeat' first | (refine iF (fun hb => ?_) (fun hb => ?_) <;> (try simp only [pickB_or, pickB_and] at hb) <;> (have hc := hb; try simp only [sB, Int.reduceToNat] at hc; try simp only [addZ0] at hc) <;> first | (exfalso; omega) | conv => whnf) | ((first | refine ⟨_, wr64 ti ti, ?_⟩ | refine And.intro si ?_ | refine LitW.frz ?_ | refine PreW.frz ?_ | refine AppW.cp ?_ | refine TakW.row ?_ | refine dD ?_ | refine dF ?_ | refine d0 ?_ | refine d1 ?_ | refine dL ?_ | refine dP ?_ | refine And.intro tgi ?_ | refine ⟨_, shl1 (by omega), ?_⟩ | refine ⟨_, fun _ => rfl, ?_⟩); conv => whnf) | ((first | refine cK (fun _ => Mask_P _) ?_ | ((try (refine CallW.lent ?_; (conv => whnf); repeat (refine And.intro si ?_; (conv => whnf)))); refine cL (fun _ => Mask_P _) ?_)); conv => whnf) | ((first | refine cK (fun _ => Flags_P _) ?_ | ((try (refine CallW.lent ?_; (conv => whnf); repeat (refine And.intro si ?_; (conv => whnf)))); refine cL (fun _ => Flags_P _) ?_)); conv => whnf) | ((first | refine cK (fun _ => (by rw [ea, eb]; exact hR)) ?_ | ((try (refine CallW.lent ?_; (conv => whnf); repeat (refine And.intro si ?_; (conv => whnf)))); refine cL (fun _ => (by rw [ea, eb]; exact hR)) ?_)); conv => whnf) | (refine CallV.ret ?_; conv => whnf) | exact ⟨_, .keep rfl rfl⟩ | fail
  · exact ⟨_, .keep (apk (by rw [e1]; exact cutT hc)) rfl⟩
  · exact ⟨_, .keep (apk (by rw [e1, cutF hc, Pl.and_mask hn hn' rr.1 rr.2])) rfl⟩
theorem Apply_bit (op : Int) (n : Nat) (f a b : Int) (ho : op = 8 ∨ op = 9 ∨ op = 10) (hn : 1 ≤ n) (hn' : n ≤ 64) (ha : 0 ≤ a) (ha' : a < 18446744073709551616) (hb0 : 0 ≤ b) (hb' : b < 18446744073709551616) (hg : Pl.badA op n f = false) :
    ASpec Try.prog 91 [.i .i64 op, .i .i64 n, .i .i64 f, .i .u64 a, .i .u64 b] (.tup [.i .u64 (Pl.apply op n f a b).1, .i .i64 (Pl.apply op n f a b).2]) [] := by
  have ea := Pl.and_mask hn hn' ha ha'
  have eb := Pl.and_mask hn hn' hb0 hb'
  have ma := Pl.mod_range n a
  have mb := Pl.mod_range n b
  have hp := Pl.pow_le_int hn'
  have rr := Pl.bit_range (op := op) ma.1 (show a % 2 ^ n < 18446744073709551616 by omega) mb.1 (show b % 2 ^ n < 18446744073709551616 by omega)
  have hg' := badN.1 hg
  have e1 : Pl.apply op n f a b = (Pl.bitw op (a % 2 ^ n) (b % 2 ^ n) % 2 ^ n, 0) := by rw [Pl.apply_ok hg, Pl.core_bit (by omega) (by omega)]; rfl
  have e2 := Pl.and_mask hn hn' rr.1 rr.2
  rw [← e2] at e1
  unfold Pl.bitw at e1
  rw [← ea, ← eb] at e1
  rcases ho with rfl | rfl | rfl
  all_goals (refine ASpec.enter TYok mixed Try.func91 rfl Try.call91 Try.ntmps91 rfl (rs := [.tmp 10, .tmp 11]) rfl (nodupB_ok rfl) (Clo.one rfl) (keep := [0, 1, 2, 3, 4, 10, 11, 12, 13, 14, 15, 16]) ?_; conv => whnf)
  · repeat' first | (refine iF (fun hb => ?_) (fun hb => ?_) <;> (try simp only [pickB_or, pickB_and] at hb) <;> (have hc := hb; try simp only [sB, Int.reduceToNat] at hc; try simp only [addZ0] at hc) <;> first | (exfalso; omega) | conv => whnf) | ((first | refine ⟨_, wr64 ti ti, ?_⟩ | refine And.intro si ?_ | refine LitW.frz ?_ | refine PreW.frz ?_ | refine AppW.cp ?_ | refine TakW.row ?_ | refine dD ?_ | refine dF ?_ | refine d0 ?_ | refine d1 ?_ | refine dL ?_ | refine dP ?_ | refine And.intro tgi ?_ | refine ⟨_, shl1 (by omega), ?_⟩ | refine ⟨_, fun _ => rfl, ?_⟩); conv => whnf) | ((first | refine cK (fun _ => Mask_P _) ?_ | ((try (refine CallW.lent ?_; (conv => whnf); repeat (refine And.intro si ?_; (conv => whnf)))); refine cL (fun _ => Mask_P _) ?_)); conv => whnf) | ((first | refine cK (fun _ => Flags_P _) ?_ | ((try (refine CallW.lent ?_; (conv => whnf); repeat (refine And.intro si ?_; (conv => whnf)))); refine cL (fun _ => Flags_P _) ?_)); conv => whnf) | (refine CallV.ret ?_; conv => whnf) | exact ⟨_, .keep rfl rfl⟩ | fail
    all_goals first | (simp at hb; done) | exact ⟨_, .keep (apk e1) rfl⟩
  · repeat' first | (refine iF (fun hb => ?_) (fun hb => ?_) <;> (try simp only [pickB_or, pickB_and] at hb) <;> (have hc := hb; try simp only [sB, Int.reduceToNat] at hc; try simp only [addZ0] at hc) <;> first | (exfalso; omega) | conv => whnf) | ((first | refine ⟨_, wr64 ti ti, ?_⟩ | refine And.intro si ?_ | refine LitW.frz ?_ | refine PreW.frz ?_ | refine AppW.cp ?_ | refine TakW.row ?_ | refine dD ?_ | refine dF ?_ | refine d0 ?_ | refine d1 ?_ | refine dL ?_ | refine dP ?_ | refine And.intro tgi ?_ | refine ⟨_, shl1 (by omega), ?_⟩ | refine ⟨_, fun _ => rfl, ?_⟩); conv => whnf) | ((first | refine cK (fun _ => Mask_P _) ?_ | ((try (refine CallW.lent ?_; (conv => whnf); repeat (refine And.intro si ?_; (conv => whnf)))); refine cL (fun _ => Mask_P _) ?_)); conv => whnf) | ((first | refine cK (fun _ => Flags_P _) ?_ | ((try (refine CallW.lent ?_; (conv => whnf); repeat (refine And.intro si ?_; (conv => whnf)))); refine cL (fun _ => Flags_P _) ?_)); conv => whnf) | (refine CallV.ret ?_; conv => whnf) | exact ⟨_, .keep rfl rfl⟩ | fail
    all_goals first | (simp at hb; done) | exact ⟨_, .keep (apk e1) rfl⟩
  · repeat' first | (refine iF (fun hb => ?_) (fun hb => ?_) <;> (try simp only [pickB_or, pickB_and] at hb) <;> (have hc := hb; try simp only [sB, Int.reduceToNat] at hc; try simp only [addZ0] at hc) <;> first | (exfalso; omega) | conv => whnf) | ((first | refine ⟨_, wr64 ti ti, ?_⟩ | refine And.intro si ?_ | refine LitW.frz ?_ | refine PreW.frz ?_ | refine AppW.cp ?_ | refine TakW.row ?_ | refine dD ?_ | refine dF ?_ | refine d0 ?_ | refine d1 ?_ | refine dL ?_ | refine dP ?_ | refine And.intro tgi ?_ | refine ⟨_, shl1 (by omega), ?_⟩ | refine ⟨_, fun _ => rfl, ?_⟩); conv => whnf) | ((first | refine cK (fun _ => Mask_P _) ?_ | ((try (refine CallW.lent ?_; (conv => whnf); repeat (refine And.intro si ?_; (conv => whnf)))); refine cL (fun _ => Mask_P _) ?_)); conv => whnf) | ((first | refine cK (fun _ => Flags_P _) ?_ | ((try (refine CallW.lent ?_; (conv => whnf); repeat (refine And.intro si ?_; (conv => whnf)))); refine cL (fun _ => Flags_P _) ?_)); conv => whnf) | (refine CallV.ret ?_; conv => whnf) | exact ⟨_, .keep rfl rfl⟩ | fail
    all_goals first | (simp at hb; done) | exact ⟨_, .keep (apk e1) rfl⟩
theorem cmp14 {n : Nat} {A B : Int} {t : Bool} (h : decide (A = B) = t) : Pl.cmp 14 n A B = t := by
  unfold Pl.cmp; rw [if_pos rfl]; exact h
theorem cmp15 {n : Nat} {A B : Int} {t : Bool} (h : (!decide (A = B)) = t) : Pl.cmp 15 n A B = t := by
  unfold Pl.cmp; rw [if_neg (by decide), if_pos rfl]; exact h
theorem cmp16 {n : Nat} {A B : Int} {t : Bool} (h : decide (A < B) = t) : Pl.cmp 16 n A B = t := by
  unfold Pl.cmp; rw [if_neg (by decide), if_neg (by decide), if_pos rfl]; exact h
theorem cmp17 {n : Nat} {A B : Int} {t : Bool} (h : decide (A ≤ B) = t) : Pl.cmp 17 n A B = t := by
  unfold Pl.cmp; rw [if_neg (by decide), if_neg (by decide), if_neg (by decide), if_pos rfl]; exact h
theorem cmp18 {n : Nat} {A B : Int} {t : Bool} (h : decide (Pl.sgn n A < Pl.sgn n B) = t) : Pl.cmp 18 n A B = t := by
  unfold Pl.cmp; rw [if_neg (by decide), if_neg (by decide), if_neg (by decide), if_neg (by decide), if_pos rfl]; exact h
theorem cmp19 {n : Nat} {A B : Int} {t : Bool} (h : decide (Pl.sgn n A ≤ Pl.sgn n B) = t) : Pl.cmp 19 n A B = t := by
  unfold Pl.cmp; rw [if_neg (by decide), if_neg (by decide), if_neg (by decide), if_neg (by decide), if_neg (by decide)]; exact h
theorem Apply_cmp (op : Int) (n : Nat) (f a b : Int) (ho : op = 14 ∨ op = 15 ∨ op = 16 ∨ op = 17 ∨ op = 18 ∨ op = 19) (hn : 1 ≤ n) (hn' : n ≤ 64) (ha : 0 ≤ a) (ha' : a < 18446744073709551616) (hb0 : 0 ≤ b) (hb' : b < 18446744073709551616) (hg : Pl.badA op n f = false) :
    ASpec Try.prog 91 [.i .i64 op, .i .i64 n, .i .i64 f, .i .u64 a, .i .u64 b] (.tup [.i .u64 (Pl.apply op n f a b).1, .i .i64 (Pl.apply op n f a b).2]) [] := by
  have ea := Pl.and_mask hn hn' ha ha'
  have eb := Pl.and_mask hn hn' hb0 hb'
  have hg' := badN.1 hg
  have h1 : bits .and .u64 1 (Pl.mask n) = 1 := by
    rw [Pl.and_mask hn hn' (by omega) (by omega)]
    have := Pl.pow_parts (k := 0) hn
    obtain ⟨p, q, h2, h3, h4, h5, _⟩ := this
    have : (2 : Int) ^ n ≥ 2 := by rw [h3]; have : p = 1 := by rw [← h2]; rfl
                                   subst this; omega
    exact Int.emod_eq_of_lt (by omega) (by omega)
  have h0 : bits .and .u64 0 (Pl.mask n) = 0 := by rw [Pl.and_mask hn hn' (by omega) (by omega)]; exact Int.zero_emod _
  have e1 : ∀ t, Pl.cmp op n (bits .and .u64 a (Pl.mask n)) (bits .and .u64 b (Pl.mask n)) = t → Pl.apply op n f a b = (bits .and .u64 (bif t then 1 else 0) (Pl.mask n), 0) := fun t ht => by
    rw [Pl.apply_ok hg, Pl.core_cmp (by omega), ← ea, ← eb, ht]
    rw [Pl.and_mask hn hn' (by cases t <;> decide) (by cases t <;> decide)]
    rfl
  have hS : ∀ v, ASpec Try.prog 104 [.i .i64 n, .i .u64 v] (.i .i64 (Pl.sgn n v)) [] := fun v => by have := Signed_P n v; rwa [Pl.signed_in hn hn'] at this
  have ho' : (op = 14 ∧ ∀ t : Bool, decide (bits .and .u64 a (Pl.mask n) = bits .and .u64 b (Pl.mask n)) = t → Pl.apply op n f a b = (bits .and .u64 (bif t then 1 else 0) (Pl.mask n), 0)) ∨ (op = 15 ∧ ∀ t : Bool, (!decide (bits .and .u64 a (Pl.mask n) = bits .and .u64 b (Pl.mask n))) = t → Pl.apply op n f a b = (bits .and .u64 (bif t then 1 else 0) (Pl.mask n), 0)) ∨ (op = 16 ∧ ∀ t : Bool, decide (bits .and .u64 a (Pl.mask n) < bits .and .u64 b (Pl.mask n)) = t → Pl.apply op n f a b = (bits .and .u64 (bif t then 1 else 0) (Pl.mask n), 0)) ∨ (op = 17 ∧ ∀ t : Bool, decide (bits .and .u64 a (Pl.mask n) ≤ bits .and .u64 b (Pl.mask n)) = t → Pl.apply op n f a b = (bits .and .u64 (bif t then 1 else 0) (Pl.mask n), 0)) ∨ (op = 18 ∧ ∀ t : Bool, decide (Pl.sgn n (bits .and .u64 a (Pl.mask n)) < Pl.sgn n (bits .and .u64 b (Pl.mask n))) = t → Pl.apply op n f a b = (bits .and .u64 (bif t then 1 else 0) (Pl.mask n), 0)) ∨ (op = 19 ∧ ∀ t : Bool, decide (Pl.sgn n (bits .and .u64 a (Pl.mask n)) ≤ Pl.sgn n (bits .and .u64 b (Pl.mask n))) = t → Pl.apply op n f a b = (bits .and .u64 (bif t then 1 else 0) (Pl.mask n), 0)) := by
    rcases ho with rfl | rfl | rfl | rfl | rfl | rfl
    · exact .inl ⟨rfl, fun t h => e1 t (cmp14 h)⟩
    · exact .inr (.inl ⟨rfl, fun t h => e1 t (cmp15 h)⟩)
    · exact .inr (.inr (.inl ⟨rfl, fun t h => e1 t (cmp16 h)⟩))
    · exact .inr (.inr (.inr (.inl ⟨rfl, fun t h => e1 t (cmp17 h)⟩)))
    · exact .inr (.inr (.inr (.inr (.inl ⟨rfl, fun t h => e1 t (cmp18 h)⟩))))
    · exact .inr (.inr (.inr (.inr (.inr (⟨rfl, fun t h => e1 t (cmp19 h)⟩)))))
  clear e1
  rcases ho' with ⟨rfl, e1⟩ | ⟨rfl, e1⟩ | ⟨rfl, e1⟩ | ⟨rfl, e1⟩ | ⟨rfl, e1⟩ | ⟨rfl, e1⟩
  all_goals (refine ASpec.enter TYok mixed Try.func91 rfl Try.call91 Try.ntmps91 rfl (rs := [.tmp 10, .tmp 11]) rfl (nodupB_ok rfl) (Clo.one rfl) (keep := [0, 1, 2, 3, 4, 10, 11, 12, 13, 14, 15, 16]) ?_; conv => whnf)
  all_goals (repeat' first | (refine iF (fun hb => ?_) (fun hb => ?_) <;> (try simp only [pickB_or, pickB_and] at hb) <;> (have hc := hb; try simp only [sB, Int.reduceToNat] at hc; try simp only [addZ0] at hc) <;> first | (exfalso; omega) | conv => whnf) | ((first | refine ⟨_, wr64 ti ti, ?_⟩ | refine And.intro si ?_ | refine LitW.frz ?_ | refine PreW.frz ?_ | refine AppW.cp ?_ | refine TakW.row ?_ | refine dD ?_ | refine dF ?_ | refine d0 ?_ | refine d1 ?_ | refine dL ?_ | refine dP ?_ | refine And.intro tgi ?_ | refine ⟨_, shl1 (by omega), ?_⟩ | refine ⟨_, fun _ => rfl, ?_⟩); conv => whnf) | ((first | refine cK (fun _ => Mask_P _) ?_ | ((try (refine CallW.lent ?_; (conv => whnf); repeat (refine And.intro si ?_; (conv => whnf)))); refine cL (fun _ => Mask_P _) ?_)); conv => whnf) | ((first | refine cK (fun _ => Flags_P _) ?_ | ((try (refine CallW.lent ?_; (conv => whnf); repeat (refine And.intro si ?_; (conv => whnf)))); refine cL (fun _ => Flags_P _) ?_)); conv => whnf) | ((first | refine cK (fun _ => hS _) ?_ | ((try (refine CallW.lent ?_; (conv => whnf); repeat (refine And.intro si ?_; (conv => whnf)))); refine cL (fun _ => hS _) ?_)); conv => whnf) | (refine CallV.ret ?_; conv => whnf) | exact ⟨_, .keep rfl rfl⟩ | fail)
  all_goals first | (simp at hb; done) | (rename_i hq hq2; have e2 := e1 _ hq; simp only [cond_true, cond_false] at e2; exact ⟨_, .keep (apk e2) rfl⟩)
theorem Apply_P (op w f a b : Int) (ha : 0 ≤ a) (ha' : a < 18446744073709551616) (hb0 : 0 ≤ b) (hb' : b < 18446744073709551616) (hf : inI f) :
    ASpec Try.prog 91 [.i .i64 op, .i .i64 w, .i .i64 f, .i .u64 a, .i .u64 b] (.tup [.i .u64 (Pl.apply op w f a b).1, .i .i64 (Pl.apply op w f a b).2]) [] := by
  cases hg : Pl.badA op w f with
  | true => exact Apply_bad op w f a b hg
  | false =>
    obtain ⟨⟨n, rfl, hn, hn'⟩, h1, h2, h3⟩ := Pl.goodA hg
    have f3 : Pl.flags op = 3 → f = 0 ∨ f = 1 ∨ f = 2 ∨ f = 3 := fun h => Pl.flags3 hf.1 hf.2 (h ▸ h3)
    have f4 : Pl.flags op = 4 → f = 0 ∨ f = 4 := fun h => Pl.flags4 hf.1 hf.2 (h ▸ h3)
    have f0 : Pl.flags op = 0 → f = 0 := fun h => Pl.flags0 hf.1 hf.2 (h ▸ h3)
    have fl : ∀ x, Pl.flags op = x → (if op = 1 ∨ op = 2 ∨ op = 3 ∨ op = 11 then 3 else if op = 4 ∨ op = 5 ∨ op = 12 ∨ op = 13 then 4 else 0) = x := fun x h => h
    rcases (show op ≤ 3 ∨ (4 ≤ op ∧ op ≤ 7) ∨ (8 ≤ op ∧ op ≤ 10) ∨ (11 ≤ op ∧ op ≤ 13) ∨ 14 ≤ op by omega) with h | h | h | h | h
    · exact Apply_ring op n f a b (by omega) hn hn' ha ha' hb0 hb' hg (f3 (if_pos (by omega)))
    · refine Apply_div op n f a b (by omega) hn hn' ha ha' hb0 hb' hg ?_
      rcases (show op = 4 ∨ op = 5 ∨ op = 6 ∨ op = 7 by omega) with rfl | rfl | rfl | rfl
      · exact f4 rfl
      · exact f4 rfl
      · exact .inl (f0 rfl)
      · exact .inl (f0 rfl)
    · exact Apply_bit op n f a b (by omega) hn hn' ha ha' hb0 hb' hg
    · refine Apply_shift op n f a b (by omega) hn hn' ha ha' hb0 hb' hg ⟨fun e => ?_, fun e => ?_⟩
      · subst e; exact f3 rfl
      · rcases (show op = 12 ∨ op = 13 by omega) with rfl | rfl
        · exact f4 rfl
        · exact f4 rfl
    · exact Apply_cmp op n f a b (by omega) hn hn' ha ha' hb0 hb' hg
theorem Convert_P (op p q v : Int) (hv : 0 ≤ v) (hv' : v < 18446744073709551616) : ASpec Try.prog 87 [.i .i64 op, .i .i64 p, .i .i64 q, .i .u64 v] (.tup [.i .u64 (Pl.conv op p q v).1, .b (Pl.conv op p q v).2]) [] := by
  have key : ∀ {x : Int} {y : Bool}, Pl.conv op p q v = (x, y) → AV.tup [.i .u64 x, .b y] = .tup [.i .u64 (Pl.conv op p q v).1, .b (Pl.conv op p q v).2] := fun h => by rw [h]
  refine ASpec.enter TYok mixed Try.func87 rfl Try.call87 Try.ntmps87 rfl (rs := [.tmp 8, .tmp 9]) rfl (nodupB_ok rfl) (Clo.one rfl) (keep := [0, 1, 2, 3, 8, 9]) ?_; conv => whnf
  repeat' first | (refine iF (fun hb => ?_) (fun hb => ?_) <;> (try simp only [pickB_or, pickB_and] at hb) <;> (have hc := hb; try simp only [sB, Int.reduceToNat] at hc; try simp only [addZ0] at hc) <;> first | (exfalso; omega) | conv => whnf) | ((first | refine ⟨_, wr64 ti ti, ?_⟩ | refine And.intro si ?_ | refine LitW.frz ?_ | refine PreW.frz ?_ | refine AppW.cp ?_ | refine TakW.row ?_ | refine dD ?_ | refine dF ?_ | refine d0 ?_ | refine d1 ?_ | refine dL ?_ | refine dP ?_ | refine And.intro tgi ?_ | refine ⟨_, shl1 (by omega), ?_⟩ | refine ⟨_, fun _ => rfl, ?_⟩); conv => whnf) | ((first | refine cK (fun _ => Mask_P _) ?_ | ((try (refine CallW.lent ?_; (conv => whnf); repeat (refine And.intro si ?_; (conv => whnf)))); refine cL (fun _ => Mask_P _) ?_)); conv => whnf) | ((first | refine cK (fun _ => Signed_P _ _) ?_ | ((try (refine CallW.lent ?_; (conv => whnf); repeat (refine And.intro si ?_; (conv => whnf)))); refine cL (fun _ => Signed_P _ _) ?_)); conv => whnf) | (refine CallV.ret ?_; conv => whnf) | exact ⟨_, .keep rfl rfl⟩ | fail
  all_goals refine ⟨_, .keep (key ?_) rfl⟩
  all_goals unfold Pl.conv
  · rw [if_pos hc]
  · rw [if_neg (by omega), if_pos hc, Pl.and_maskI (by omega) hv hv']
  · rw [if_neg (by omega), if_neg (by omega), if_pos hc, Pl.and_maskW (by omega), Pl.signedI (by omega)]
  · rw [if_neg (by omega), if_neg (by omega), if_neg (by omega), if_pos hc, Pl.and_maskI (by omega) hv hv']
  · rw [if_neg (by omega), if_neg (by omega), if_neg (by omega), if_neg (by omega)]
end Go.Proofs.Ytjfdbmfcnhjfoaa
namespace Go.Proofs.Ytjfdbmfcnhjfoaa.Pl
def number (z : Int) : Vl := ⟨1, z, 0, 0⟩
def loosely (op t f : Int) (b : Vl) : Vl :=
  bif (decide (11 ≤ op) && decide (op ≤ 13) && (b.k == 3 || decide (IntKind.u64.wrap t ≤ b.b))) || f != 0 then Vl.zero else any
def clear (op t n f : Int) (a b : Vl) : Vl × Int :=
  bif op == 29 then (⟨a.k, a.b, a.bl, IntKind.i64.wrap (a.off + IntKind.i64.wrap b.b)⟩, 0)
  else bif decide (20 ≤ op) then (number (conv op n t a.b).1, 0)
  else bif t == 65 then (number (bif decide (a = b) == (op == 14) then 1 else 0), 0)
  else bif (apply op t f a.b b.b).2 == 0 then (number (apply op t f a.b b.b).1, 0)
  else bif (apply op t f a.b b.b).2 == 1 then (Vl.zero, 0) else (Vl.zero, (apply op t f a.b b.b).2)
def row (ws : List Int) (xs : List Vl) : List Vl := List.zipWith norm ws xs
def at_ (l : List Vl) (i : Nat) : Vl := l.getD i Vl.zero
def isDiv (op : Int) : Bool := decide (4 ≤ op) && decide (op ≤ 7)
def made (op t n f : Int) (l : List Vl) : Vl × Int :=
  bif isDiv op && divisor op t (at_ l 0) (at_ l 1) != 0 then (Vl.zero, divisor op t (at_ l 0) (at_ l 1))
  else bif op == 24 then (bif l.any (·.k == 0) then (any, 0) else (at_ l 0, 0))
  else bif op == 23 then (chosen (at_ l 0) (at_ l 1) (at_ l 2), 0)
  else bif l.any (·.k == 0) then (Vl.zero, 0)
  else bif l.any (·.k == 3) then (loosely op t f (at_ l 1), 0)
  else clear op t n f (at_ l 0) (at_ l 1)
def eval (op t n f : Int) (xs : List Vl) : Vl × Int :=
  match kinds op t n f with
  | none => (Vl.zero, 3)
  | some ws => bif ws.length != xs.length then (Vl.zero, 3) else made op t n f (row ws xs)
end Go.Proofs.Ytjfdbmfcnhjfoaa.Pl
namespace Go.Proofs.Ytjfdbmfcnhjfoaa.Pl
def arity (op : Int) : Nat := if op ≤ 19 then 2 else if op ≤ 22 then 1 else if op = 23 then 3 else if op = 24 then 1 else 2
theorem kinds_len {op t n f : Int} {ws : List Int} (h : kinds op t n f = some ws) : ws.length = arity op ∧ 1 ≤ op ∧ (op ≤ 24 ∨ op = 29) := by
  revert h
  unfold kinds
  simp only [Bool.cond_eq_ite]
  repeat' split
  all_goals intro h
  all_goals first | (cases h; done) | skip
  all_goals (cases h; rename_i h1 _; simp at *; unfold arity; (repeat' split) <;> omega)
theorem arity_le (op : Int) : 1 ≤ arity op ∧ arity op ≤ 3 := by
  unfold arity
  (repeat' split) <;> omega
theorem norm_range {t : Int} {v : Vl} : 0 ≤ (norm t v).b ∧ (norm t v).b < 18446744073709551616 := by
  unfold norm
  split
  · rename_i h
    have h1 := mod_range t.toNat v.b
    have h2 : t.toNat ≤ 64 := by
      rcases Classical.em (1 ≤ t ∧ t ≤ 64) with q | q
      · omega
      · exact absurd (mask_zero.2 q) h.2
    have h3 := pow_le_int h2
    simp only; omega
  · repeat' split
    all_goals (simp [Vl.zero])
theorem row_length {ws : List Int} {xs : List Vl} (h : ws.length = xs.length) : (row ws xs).length = xs.length := by unfold row; rw [List.length_zipWith, h]; omega
theorem row_range {ws : List Int} {xs : List Vl} {y : Vl} (h : y ∈ row ws xs) : 0 ≤ y.b ∧ y.b < 18446744073709551616 := by
  obtain ⟨j, hj⟩ := List.getElem?_of_mem h
  unfold row at hj
  rw [List.getElem?_zipWith] at hj
  split at hj
  · cases hj; exact norm_range
  · cases hj
def fill (ws : List Int) (xs : List Vl) (j : Nat) : List Vl := (row ws xs).take j ++ List.replicate (xs.length - j) Vl.zero
def has (q : Int) (ws : List Int) (xs : List Vl) (j : Nat) : Bool := ((row ws xs).take j).any (·.k == q)
theorem fill_length {ws : List Int} {xs : List Vl} {j : Nat} (h : ws.length = xs.length) (hj : j ≤ xs.length) : (fill ws xs j).length = xs.length := by
  unfold fill; rw [List.length_append, List.length_take, row_length h, List.length_replicate]; omega
theorem fill_succ {ws : List Int} {xs : List Vl} {j : Nat} {y : Vl} (h : ws.length = xs.length) (hy : (row ws xs)[j]? = some y) : (fill ws xs j).set j y = fill ws xs (j + 1) := by
  have hj : j < xs.length := by have := (List.getElem?_eq_some_iff.1 hy).1; rwa [row_length h] at this
  have hl : ((row ws xs).take j).length = j := by rw [List.length_take, row_length h]; omega
  unfold fill
  rw [List.set_append_right _ _ (by omega), hl, Nat.sub_self, show xs.length - j = (xs.length - (j + 1)) + 1 by omega, List.replicate_succ, List.set_cons_zero, List.take_add_one, hy]
  simp
theorem has_succ {ws : List Int} {xs : List Vl} {j : Nat} {y : Vl} (q : Int) (hy : (row ws xs)[j]? = some y) : has q ws xs (j + 1) = (has q ws xs j || y.k == q) := by
  unfold has; rw [List.take_add_one, hy]; simp
theorem fill_all {ws : List Int} {xs : List Vl} (h : ws.length = xs.length) : fill ws xs xs.length = row ws xs := by
  unfold fill; rw [Nat.sub_self, List.take_of_length_le (by rw [row_length h]; exact Nat.le_refl _)]; simp
end Go.Proofs.Ytjfdbmfcnhjfoaa.Pl
namespace Go.Proofs.Ytjfdbmfcnhjfoaa.Pl
end Go.Proofs.Ytjfdbmfcnhjfoaa.Pl

namespace Go.Proofs.Ytjfdbmfcnhjfoaa
open Go.RowKit
def width (w : Int) : Bool := decide (1 ≤ w) && decide (w ≤ 64)
def Cut (w v : Int) : Int := if 64 ≤ w then v else v % 2 ^ w.toNat
theorem Cut_in (w v : Int) (h1 : 0 ≤ v) (h2 : v < 18446744073709551616) : 0 ≤ Cut w v ∧ Cut w v < 18446744073709551616 := by
  unfold Cut; split
  · exact ⟨h1, h2⟩
  · have hp := pow_lt (n := w.toNat) (by omega)
    have := Int.emod_nonneg v (b := 2 ^ w.toNat) (by omega)
    have := Int.emod_lt_of_pos v hp.1
    omega
theorem width_S (w : Int) : ASpec Try.prog 109 [.i .i64 w] (.b (width w)) [] := by
  refine ASpec.enter TYok mixed Try.func109 rfl Try.call109 Try.ntmps109 rfl (rs := [.tmp 2]) rfl (nodupB_ok rfl) (Clo.one rfl) (keep := [0, 2]) ?_; conv => whnf
  repeat' first | (refine iF (fun hb => ?_) (fun hb => ?_) <;> (try simp only [pickB_or, pickB_and] at hb) <;> (have hc := hb; try simp only [sB, Int.reduceToNat] at hc; try simp only [addZ0] at hc) <;> first | (exfalso; omega) | conv => whnf) | ((first | refine ⟨_, wr64 ti ti, ?_⟩ | refine And.intro si ?_ | refine LitW.frz ?_ | refine PreW.frz ?_ | refine AppW.cp ?_ | refine TakW.row ?_ | refine dD ?_ | refine dF ?_ | refine d0 ?_ | refine d1 ?_ | refine dL ?_ | refine dP ?_ | refine And.intro tgi ?_ | refine ⟨_, shl1 (by omega), ?_⟩ | refine ⟨_, wru64 ti ti, ?_⟩ | refine ⟨_, fun _ => (IntKind.wrap_u64 _).symm, ?_⟩); conv => whnf) | (refine CallV.ret ?_; conv => whnf) | exact ⟨_, .keep rfl rfl⟩ | fail
theorem Cut_S (w v : Int) (h0 : 0 ≤ w) (h1 : 0 ≤ v) (h2 : v < 18446744073709551616) : ASpec Try.prog 110 [.i .i64 w, .i .u64 v] (.i .u64 (Cut w v)) [] := by
  have hp := pow_lt' w
  refine ASpec.enter TYok mixed Try.func110 rfl Try.call110 Try.ntmps110 rfl (rs := [.tmp 4]) rfl (nodupB_ok rfl) (Clo.one rfl) (keep := [0, 1, 4]) ?_; conv => whnf
  repeat' first | (refine iF (fun hb => ?_) (fun hb => ?_) <;> (try simp only [pickB_or, pickB_and] at hb) <;> (have hc := hb; try simp only [sB, Int.reduceToNat] at hc; try simp only [addZ0] at hc) <;> first | (exfalso; omega) | conv => whnf) | ((first | refine ⟨_, wr64 ti ti, ?_⟩ | refine And.intro si ?_ | refine LitW.frz ?_ | refine PreW.frz ?_ | refine AppW.cp ?_ | refine TakW.row ?_ | refine dD ?_ | refine dF ?_ | refine d0 ?_ | refine d1 ?_ | refine dL ?_ | refine dP ?_ | refine And.intro tgi ?_ | refine ⟨_, shl1 (by omega), ?_⟩ | refine ⟨_, wru64 ti ti, ?_⟩ | refine ⟨_, fun _ => (IntKind.wrap_u64 _).symm, ?_⟩); conv => whnf) | (refine CallV.ret ?_; conv => whnf) | exact ⟨_, .keep rfl rfl⟩ | fail
  · exact ⟨_, .keep (by (try simp only [pickB_or, pickB_and]); unfold Cut; repeat' (first | rfl | omega | split | (simp_all; done))) rfl⟩
  exact ⟨_, .keep (by rw [Cut, if_neg hc, Int.tmod_eq_emod_of_nonneg h1]) rfl⟩
def half (w : Int) : Int := 2 ^ (w - 1).toNat
theorem half_S (w : Int) (h0 : 1 ≤ w) (h1 : w ≤ 64) : ASpec Try.prog 119 [.i .i64 w] (.i .u64 (half w)) [] := by
  refine ASpec.enter TYok mixed Try.func119 rfl Try.call119 Try.ntmps119 rfl (rs := [.tmp 2]) rfl (nodupB_ok rfl) (Clo.one rfl) (keep := [0, 2]) ?_; conv => whnf
  repeat' first | (refine iF (fun hb => ?_) (fun hb => ?_) <;> (try simp only [pickB_or, pickB_and] at hb) <;> (have hc := hb; try simp only [sB, Int.reduceToNat] at hc; try simp only [addZ0] at hc) <;> first | (exfalso; omega) | conv => whnf) | ((first | refine ⟨_, wr64 ti ti, ?_⟩ | refine And.intro si ?_ | refine LitW.frz ?_ | refine PreW.frz ?_ | refine AppW.cp ?_ | refine TakW.row ?_ | refine dD ?_ | refine dF ?_ | refine d0 ?_ | refine d1 ?_ | refine dL ?_ | refine dP ?_ | refine And.intro tgi ?_ | refine ⟨_, shl1 (by omega), ?_⟩ | refine ⟨_, wru64 ti ti, ?_⟩ | refine ⟨_, fun _ => (IntKind.wrap_u64 _).symm, ?_⟩); conv => whnf) | (refine CallV.ret ?_; conv => whnf) | exact ⟨_, .keep rfl rfl⟩ | fail
def Flags (op : Int) : Int := if op = 1 ∨ op = 2 ∨ op = 3 ∨ op = 11 then 3 else if op = 4 ∨ op = 5 ∨ op = 12 ∨ op = 13 then 4 else 0
theorem Flags_S (op : Int) : ASpec Try.prog 67 [.i .i64 op] (.i .i64 (Flags op)) [] := by
  refine ASpec.enter TYok mixed Try.func67 rfl Try.call67 Try.ntmps67 rfl (rs := [.tmp 2]) rfl (nodupB_ok rfl) (Clo.one rfl) (keep := [0, 2]) ?_; conv => whnf
  repeat' first | (refine iF (fun hb => ?_) (fun hb => ?_) <;> (try simp only [pickB_or, pickB_and] at hb) <;> (have hc := hb; try simp only [sB, Int.reduceToNat] at hc; try simp only [addZ0] at hc) <;> first | (exfalso; omega) | conv => whnf) | ((first | refine ⟨_, wr64 ti ti, ?_⟩ | refine And.intro si ?_ | refine LitW.frz ?_ | refine PreW.frz ?_ | refine AppW.cp ?_ | refine TakW.row ?_ | refine dD ?_ | refine dF ?_ | refine d0 ?_ | refine d1 ?_ | refine dL ?_ | refine dP ?_ | refine And.intro tgi ?_ | refine ⟨_, shl1 (by omega), ?_⟩ | refine ⟨_, wru64 ti ti, ?_⟩ | refine ⟨_, fun _ => (IntKind.wrap_u64 _).symm, ?_⟩); conv => whnf) | (refine CallV.ret ?_; conv => whnf) | exact ⟨_, .keep rfl rfl⟩ | fail
  all_goals exact ⟨_, .keep (by (try simp only [pickB_or, pickB_and]); unfold Flags; repeat' (first | rfl | omega | split | (simp_all; done))) rfl⟩
def Mask (w : Int) : Int := if 1 ≤ w ∧ w ≤ 64 then Cut w 18446744073709551615 else 0
theorem Mask_S (w : Int) : ASpec Try.prog 98 [.i .i64 w] (.i .u64 (Mask w)) [] := by
  refine ASpec.enter TYok mixed Try.func98 rfl Try.call98 Try.ntmps98 rfl (rs := [.tmp 2]) rfl (nodupB_ok rfl) (Clo.one rfl) (keep := [0, 2, 3]) ?_; conv => whnf
  repeat' first | (refine iF (fun hb => ?_) (fun hb => ?_) <;> (try simp only [pickB_or, pickB_and] at hb) <;> (have hc := hb; try simp only [sB, Int.reduceToNat] at hc; try simp only [addZ0] at hc) <;> first | (exfalso; omega) | conv => whnf) | ((first | refine ⟨_, wr64 ti ti, ?_⟩ | refine And.intro si ?_ | refine LitW.frz ?_ | refine PreW.frz ?_ | refine AppW.cp ?_ | refine TakW.row ?_ | refine dD ?_ | refine dF ?_ | refine d0 ?_ | refine d1 ?_ | refine dL ?_ | refine dP ?_ | refine And.intro tgi ?_ | refine ⟨_, shl1 (by omega), ?_⟩ | refine ⟨_, wru64 ti ti, ?_⟩ | refine ⟨_, fun _ => (IntKind.wrap_u64 _).symm, ?_⟩); conv => whnf) | ((first | refine cK (fun _ => width_S _) ?_ | ((try (refine CallW.lent ?_; (conv => whnf); repeat (refine And.intro si ?_; (conv => whnf)))); refine cL (fun _ => width_S _) ?_)); conv => whnf) | (refine CallV.ret ?_; conv => whnf) | exact ⟨_, .keep rfl rfl⟩ | fail
  · exact ⟨_, .keep (by rw [Mask, if_neg (by simp [width] at hc; omega)]) rfl⟩
  simp [width] at hb
  repeat' first | (refine iF (fun hb => ?_) (fun hb => ?_) <;> (try simp only [pickB_or, pickB_and] at hb) <;> (have hc := hb; try simp only [sB, Int.reduceToNat] at hc; try simp only [addZ0] at hc) <;> first | (exfalso; omega) | conv => whnf) | ((first | refine ⟨_, wr64 ti ti, ?_⟩ | refine And.intro si ?_ | refine LitW.frz ?_ | refine PreW.frz ?_ | refine AppW.cp ?_ | refine TakW.row ?_ | refine dD ?_ | refine dF ?_ | refine d0 ?_ | refine d1 ?_ | refine dL ?_ | refine dP ?_ | refine And.intro tgi ?_ | refine ⟨_, shl1 (by omega), ?_⟩ | refine ⟨_, wru64 ti ti, ?_⟩ | refine ⟨_, fun _ => (IntKind.wrap_u64 _).symm, ?_⟩); conv => whnf) | ((first | refine cK (fun _ => Cut_S _ _ (by omega) (by omega) (by omega)) ?_ | ((try (refine CallW.lent ?_; (conv => whnf); repeat (refine And.intro si ?_; (conv => whnf)))); refine cL (fun _ => Cut_S _ _ (by omega) (by omega) (by omega)) ?_)); conv => whnf) | (refine CallV.ret ?_; conv => whnf) | exact ⟨_, .keep rfl rfl⟩ | fail
  exact ⟨_, .keep (by rw [Mask, if_pos hb]) rfl⟩
structure BigE where
  hi : Int
  lo : Int
  below : Bool
  deriving DecidableEq
instance : Enc BigE := ⟨fun x => [.i .u64 x.hi, .i .u64 x.lo, .b x.below], 3, ⟨0, 0, false⟩⟩
def With (w v : Int) : BigE := if Cut w v < half w then ⟨0, Cut w v, false⟩ else ⟨0, Cut w ((0 - Cut w v) % 18446744073709551616), true⟩
theorem With_S (w v : Int) (h0 : 1 ≤ w) (h3 : w ≤ 64) (h1 : 0 ≤ v) (h2 : v < 18446744073709551616) : ASpec Try.prog 112 [.i .i64 w, .i .u64 v] (eS (With w v)) [] := by
  have h5 := Cut_in w v h1 h2
  refine ASpec.enter TYok mixed Try.func112 rfl Try.call112 Try.ntmps112 rfl (rs := [.cell 4 156]) rfl (nodupB_ok rfl) (Clo.one rfl) (keep := [0, 1, 4]) ?_; conv => whnf
  repeat' first | (refine iF (fun hb => ?_) (fun hb => ?_) <;> (try simp only [pickB_or, pickB_and] at hb) <;> (have hc := hb; try simp only [sB, Int.reduceToNat] at hc; try simp only [addZ0] at hc) <;> first | (exfalso; omega) | conv => whnf) | ((first | refine ⟨_, wr64 ti ti, ?_⟩ | refine And.intro si ?_ | refine LitW.frz ?_ | refine PreW.frz ?_ | refine AppW.cp ?_ | refine TakW.row ?_ | refine dD ?_ | refine dF ?_ | refine d0 ?_ | refine d1 ?_ | refine dL ?_ | refine dP ?_ | refine And.intro tgi ?_ | refine ⟨_, shl1 (by omega), ?_⟩ | refine ⟨_, wru64 ti ti, ?_⟩ | refine ⟨_, fun _ => (IntKind.wrap_u64 _).symm, ?_⟩); conv => whnf) | ((first | refine cK (fun _ => Cut_S _ _ (by omega) (by omega) (by omega)) ?_ | ((try (refine CallW.lent ?_; (conv => whnf); repeat (refine And.intro si ?_; (conv => whnf)))); refine cL (fun _ => Cut_S _ _ (by omega) (by omega) (by omega)) ?_)); conv => whnf) | ((first | refine cK (fun _ => half_S _ (by omega) (by omega)) ?_ | ((try (refine CallW.lent ?_; (conv => whnf); repeat (refine And.intro si ?_; (conv => whnf)))); refine cL (fun _ => half_S _ (by omega) (by omega)) ?_)); conv => whnf) | (refine CallV.ret ?_; conv => whnf) | exact ⟨_, .keep rfl rfl⟩ | fail
  all_goals exact ⟨_, .keep (by (try simp only [pickB_or, pickB_and]); unfold With; repeat' (first | rfl | omega | split | (simp_all; done))) rfl⟩
def Wrapped (w : Int) (a : BigE) : Int := if a.below then Cut w ((0 - a.lo) % 18446744073709551616) else Cut w a.lo
theorem Wrapped_S (w : Int) (a : BigE) (h0 : 0 ≤ w) (h1 : 0 ≤ a.lo) (h2 : a.lo < 18446744073709551616) : ASpec Try.prog 111 [.i .i64 w, eS a] (.i .u64 (Wrapped w a)) [] := by
  refine ASpec.enter TYok mixed Try.func111 rfl Try.call111 Try.ntmps111 rfl (rs := [.tmp 4]) rfl (nodupB_ok rfl) (Clo.one rfl) (keep := [0, 1, 3, 4]) ?_; conv => whnf
  repeat' first | (refine iF (fun hb => ?_) (fun hb => ?_) <;> (try simp only [pickB_or, pickB_and] at hb) <;> (have hc := hb; try simp only [sB, Int.reduceToNat] at hc; try simp only [addZ0] at hc) <;> first | (exfalso; omega) | conv => whnf) | ((first | refine ⟨_, wr64 ti ti, ?_⟩ | refine And.intro si ?_ | refine LitW.frz ?_ | refine PreW.frz ?_ | refine AppW.cp ?_ | refine TakW.row ?_ | refine dD ?_ | refine dF ?_ | refine d0 ?_ | refine d1 ?_ | refine dL ?_ | refine dP ?_ | refine And.intro tgi ?_ | refine ⟨_, shl1 (by omega), ?_⟩ | refine ⟨_, wru64 ti ti, ?_⟩ | refine ⟨_, fun _ => (IntKind.wrap_u64 _).symm, ?_⟩); conv => whnf) | ((first | refine cK (fun _ => Cut_S _ _ (by omega) (by omega) (by omega)) ?_ | ((try (refine CallW.lent ?_; (conv => whnf); repeat (refine And.intro si ?_; (conv => whnf)))); refine cL (fun _ => Cut_S _ _ (by omega) (by omega) (by omega)) ?_)); conv => whnf) | (refine CallV.ret ?_; conv => whnf) | exact ⟨_, .keep rfl rfl⟩ | fail
  all_goals exact ⟨_, .keep (by (try simp only [pickB_or, pickB_and]); unfold Wrapped; repeat' (first | rfl | omega | split | (simp_all; done))) rfl⟩
def Convert (op a b v : Int) : Int × Bool :=
  if ¬(width a = true ∧ width b = true) then (0, false)
  else if op = 20 ∧ a < b then (Cut a v, true)
  else if op = 21 ∧ a < b then (Wrapped b (With a v), true)
  else if op = 22 ∧ b < a then (Cut b v, true) else (0, false)
theorem With_in (w v : Int) (h1 : 0 ≤ v) (h2 : v < 18446744073709551616) : 0 ≤ (With w v).lo ∧ (With w v).lo < 18446744073709551616 := by
  unfold With; split
  · exact Cut_in w v h1 h2
  · exact Cut_in w _ (by omega) (by omega)
theorem Convert_S (op a b v : Int) (h1 : 0 ≤ v) (h2 : v < 18446744073709551616) : ASpec Try.prog 95 [.i .i64 op, .i .i64 a, .i .i64 b, .i .u64 v] (.tup [.i .u64 (Convert op a b v).1, .b (Convert op a b v).2]) [] := by
  have h3 := With_in a v h1 h2
  refine ASpec.enter TYok mixed Try.func95 rfl Try.call95 Try.ntmps95 rfl (rs := [.tmp 8, .tmp 9]) rfl (nodupB_ok rfl) (Clo.one rfl) (keep := [0, 1, 2, 3, 8, 9, 10]) ?_; conv => whnf
  repeat' first | (refine iF (fun hb => ?_) (fun hb => ?_) <;> (try simp only [pickB_or, pickB_and] at hb) <;> (have hc := hb; try simp only [sB, Int.reduceToNat] at hc; try simp only [addZ0] at hc) <;> first | (exfalso; omega) | conv => whnf) | ((first | refine ⟨_, wr64 ti ti, ?_⟩ | refine And.intro si ?_ | refine LitW.frz ?_ | refine PreW.frz ?_ | refine AppW.cp ?_ | refine TakW.row ?_ | refine dD ?_ | refine dF ?_ | refine d0 ?_ | refine d1 ?_ | refine dL ?_ | refine dP ?_ | refine And.intro tgi ?_ | refine ⟨_, shl1 (by omega), ?_⟩ | refine ⟨_, wru64 ti ti, ?_⟩ | refine ⟨_, fun _ => (IntKind.wrap_u64 _).symm, ?_⟩); conv => whnf) | ((first | refine cK (fun _ => width_S _) ?_ | ((try (refine CallW.lent ?_; (conv => whnf); repeat (refine And.intro si ?_; (conv => whnf)))); refine cL (fun _ => width_S _) ?_)); conv => whnf) | ((first | refine cK (fun _ => Cut_S _ _ (by simp [width] at *; omega) h1 h2) ?_ | ((try (refine CallW.lent ?_; (conv => whnf); repeat (refine And.intro si ?_; (conv => whnf)))); refine cL (fun _ => Cut_S _ _ (by simp [width] at *; omega) h1 h2) ?_)); conv => whnf) | ((first | refine cK (fun _ => With_S _ _ (by simp [width] at *; omega) (by simp [width] at *; omega) h1 h2) ?_ | ((try (refine CallW.lent ?_; (conv => whnf); repeat (refine And.intro si ?_; (conv => whnf)))); refine cL (fun _ => With_S _ _ (by simp [width] at *; omega) (by simp [width] at *; omega) h1 h2) ?_)); conv => whnf) | ((first | refine cK (fun _ => Wrapped_S _ _ (by simp [width] at *; omega) (by omega) (by omega)) ?_ | ((try (refine CallW.lent ?_; (conv => whnf); repeat (refine And.intro si ?_; (conv => whnf)))); refine cL (fun _ => Wrapped_S _ _ (by simp [width] at *; omega) (by omega) (by omega)) ?_)); conv => whnf) | (refine CallV.ret ?_; conv => whnf) | exact ⟨_, .keep rfl rfl⟩ | fail
  all_goals exact ⟨_, .keep (by (try simp only [pickB_or, pickB_and]); unfold Convert; repeat' (first | rfl | omega | split | (simp_all; done))) rfl⟩
def Result (x : InsE) : Int := if x.op < 1 ∨ 30 < x.op then 0 else if x.op = 14 ∨ x.op = 15 ∨ x.op = 16 ∨ x.op = 17 ∨ x.op = 18 ∨ x.op = 19 then 1 else if x.op = 26 ∨ x.op = 29 then 65 else if x.op = 28 then 0 else x.t
theorem Result_S (x : InsE) : ASpec Try.prog 69 [eS x] (.i .i64 (Result x)) [] := by
  refine ASpec.enter TYok mixed Try.func69 rfl Try.call69 Try.ntmps69 rfl (rs := [.tmp 2]) rfl (nodupB_ok rfl) (Clo.one rfl) (keep := [0, 1, 2, 3, 12]) ?_; conv => whnf
  repeat' first | (refine iF (fun hb => ?_) (fun hb => ?_) <;> (try simp only [pickB_or, pickB_and] at hb) <;> (have hc := hb; try simp only [sB, Int.reduceToNat] at hc; try simp only [addZ0] at hc) <;> first | (exfalso; omega) | conv => whnf) | ((first | refine ⟨_, wr64 ti ti, ?_⟩ | refine And.intro si ?_ | refine LitW.frz ?_ | refine PreW.frz ?_ | refine AppW.cp ?_ | refine TakW.row ?_ | refine dD ?_ | refine dF ?_ | refine d0 ?_ | refine d1 ?_ | refine dL ?_ | refine dP ?_ | refine And.intro tgi ?_ | refine ⟨_, shl1 (by omega), ?_⟩ | refine ⟨_, wru64 ti ti, ?_⟩ | refine ⟨_, fun _ => (IntKind.wrap_u64 _).symm, ?_⟩); conv => whnf) | (refine CallV.ret ?_; conv => whnf) | exact ⟨_, .keep rfl rfl⟩ | fail
  all_goals exact ⟨_, .keep (by (try simp only [pickB_or, pickB_and]); unfold Result; repeat' (first | rfl | omega | split | (simp_all; done))) rfl⟩
def Ends (op : Int) : Bool := decide (op = 31) || decide (op = 32) || decide (op = 33) || decide (op = 34)
theorem Ends_S (op : Int) : ASpec Try.prog 65 [.i .i64 op] (.b (Ends op)) [] := by
  refine ASpec.enter TYok mixed Try.func65 rfl Try.call65 Try.ntmps65 rfl (rs := [.tmp 2]) rfl (nodupB_ok rfl) (Clo.one rfl) (keep := [0, 2]) ?_; conv => whnf
  repeat' first | (refine iF (fun hb => ?_) (fun hb => ?_) <;> (try simp only [pickB_or, pickB_and] at hb) <;> (have hc := hb; try simp only [sB, Int.reduceToNat] at hc; try simp only [addZ0] at hc) <;> first | (exfalso; omega) | conv => whnf) | ((first | refine ⟨_, wr64 ti ti, ?_⟩ | refine And.intro si ?_ | refine LitW.frz ?_ | refine PreW.frz ?_ | refine AppW.cp ?_ | refine TakW.row ?_ | refine dD ?_ | refine dF ?_ | refine d0 ?_ | refine d1 ?_ | refine dL ?_ | refine dP ?_ | refine And.intro tgi ?_ | refine ⟨_, shl1 (by omega), ?_⟩ | refine ⟨_, wru64 ti ti, ?_⟩ | refine ⟨_, fun _ => (IntKind.wrap_u64 _).symm, ?_⟩); conv => whnf) | (refine CallV.ret ?_; conv => whnf) | exact ⟨_, .keep rfl rfl⟩ | fail
theorem ext_getD {α : Type} [Enc α] {a b : List α} (hl : a.length = b.length) (h : ∀ i, i < a.length → a.getD i Enc.d = b.getD i Enc.d) : a = b := by
  refine List.ext_getElem hl fun i h1 h2 => ?_
  have := h i h1
  rwa [List.getD_eq_getElem?_getD, List.getD_eq_getElem?_getD, List.getElem?_eq_getElem h1, List.getElem?_eq_getElem h2] at this
theorem all_step {P : Nat → Prop} {q : Nat} (h : ∀ i, i < q → P i) (hq : P q) : ∀ i, i < q + 1 → P i := fun i hi => if e : i = q then e ▸ hq else h i (by omega)
theorem Ints_S (a b : List Int) (ha : a.length < 9223372036854775807) : ASpec Try.prog 24 [eL a, eL b] (.b (decide (a = b))) [] := by
  refine ASpec.enter TYok mixed Try.func24 rfl Try.call24 Try.ntmps24 rfl (rs := [.tmp 4]) rfl (nodupB_ok rfl) (Clo.one rfl) (keep := [0, 1, 4, 5]) ?_; conv => whnf
  repeat' first | (refine iF (fun hb => ?_) (fun hb => ?_) <;> (try simp only [pickB_or, pickB_and] at hb) <;> (have hc := hb; try simp only [sB, Int.reduceToNat] at hc; try simp only [addZ0] at hc) <;> first | (exfalso; omega) | conv => whnf) | ((first | refine ⟨_, wr64 ti ti, ?_⟩ | refine And.intro si ?_ | refine LitW.frz ?_ | refine PreW.frz ?_ | refine AppW.cp ?_ | refine TakW.row ?_ | refine dD ?_ | refine dF ?_ | refine d0 ?_ | refine d1 ?_ | refine dL ?_ | refine dP ?_ | refine And.intro tgi ?_ | refine ⟨_, shl1 (by omega), ?_⟩ | refine ⟨_, wru64 ti ti, ?_⟩ | refine ⟨_, fun _ => (IntKind.wrap_u64 _).symm, ?_⟩); conv => whnf) | (refine CallV.ret ?_; conv => whnf) | exact ⟨_, .keep rfl rfl⟩ | fail
  · exact ⟨_, .keep (congrArg AV.b (decide_eq_false fun e => by subst e; simp at hb).symm) rfl⟩
  simp at hb
  refine lp [5] (fun q : Nat => [.i .i64 q]) (fun q => []) (fun q => q ≤ a.length ∧ ∀ i, i < q → a.getD i Enc.d = b.getD i Enc.d) (fun q => a.length - q) 0 ⟨by omega, fun i h => by omega⟩ ?_ fun q hq => ?_
  · refine eP [] [] ?_ ?_ <;> repeat' first | exact eN | refine And.intro ?_ ?_
  conv => whnf
  obtain ⟨hq, hv⟩ := hq
  repeat' first | (refine iF (fun hb => ?_) (fun hb => ?_) <;> (try simp only [pickB_or, pickB_and] at hb) <;> (have hc := hb; try simp only [sB, Int.reduceToNat] at hc; try simp only [addZ0] at hc) <;> first | (exfalso; omega) | conv => whnf) | ((first | refine ⟨_, wr64 ti ti, ?_⟩ | refine And.intro si ?_ | refine LitW.frz ?_ | refine PreW.frz ?_ | refine AppW.cp ?_ | refine TakW.row ?_ | refine dD ?_ | refine dF ?_ | refine d0 ?_ | refine d1 ?_ | refine dL ?_ | refine dP ?_ | refine And.intro tgi ?_ | refine ⟨_, shl1 (by omega), ?_⟩ | refine ⟨_, wru64 ti ti, ?_⟩ | refine ⟨_, fun _ => (IntKind.wrap_u64 _).symm, ?_⟩); conv => whnf) | (refine CallV.ret ?_; conv => whnf) | exact ⟨_, .keep rfl rfl⟩ | fail
  · exact ⟨_, .keep (congrArg AV.b (decide_eq_false fun e => hc (by rw [e])).symm) rfl⟩
  · refine .mk (q + 1) ⟨by omega, all_step hv hc⟩ (by omega) ?_
    refine eP [] [] ?_ ?_ <;> repeat' first | exact eN | refine And.intro ?_ ?_
  · exact ⟨_, .keep (congrArg AV.b (decide_eq_true (ext_getD (by omega) fun i hi => hv i (by omega))).symm) rfl⟩
def Callee (m : ModE) (n : Int) : List Int × Int × Bool :=
  if 0 ≤ n ∧ n < m.funcs.length then ((m.funcs.getD n.toNat Enc.d).params, (m.funcs.getD n.toNat Enc.d).ret, true)
  else if n < 0 ∧ -(m.exts.length : Int) ≤ n then ((m.exts.getD (-1 - n).toNat Enc.d).params, (m.exts.getD (-1 - n).toNat Enc.d).ret, true) else ([], 0, false)
theorem Callee_S (m : ModE) (n : Int) (hm : siz m < 4294967296) (hn : -9223372036854775808 ≤ n) (hn2 : n ≤ 9223372036854775807) : ASpec Try.prog 96 [eS m, .i .i64 n] (.tup [eL (Callee m n).1, .i .i64 (Callee m n).2.1, .b (Callee m n).2.2]) [] := by
  have h1 := len_siz m.funcs
  have h2 := len_siz m.exts
  have h3 : siz m = siz m.vars + siz m.exts + siz m.funcs := rfl
  refine ASpec.enter TYok mixed Try.func96 rfl Try.call96 Try.ntmps96 rfl (rs := [.tmp 4, .tmp 5, .tmp 6]) rfl (nodupB_ok rfl) (Clo.one rfl) (keep := [0, 1, 2, 4, 5, 6]) ?_; conv => whnf
  repeat' first | (refine iF (fun hb => ?_) (fun hb => ?_) <;> (try simp only [pickB_or, pickB_and] at hb) <;> (have hc := hb; try simp only [sB, Int.reduceToNat] at hc; try simp only [addZ0] at hc) <;> first | (exfalso; omega) | conv => whnf) | ((first | refine ⟨_, wr64 ti ti, ?_⟩ | refine And.intro si ?_ | refine LitW.frz ?_ | refine PreW.frz ?_ | refine AppW.cp ?_ | refine TakW.row ?_ | refine dD ?_ | refine dF ?_ | refine d0 ?_ | refine d1 ?_ | refine dL ?_ | refine dP ?_ | refine And.intro tgi ?_ | refine ⟨_, shl1 (by omega), ?_⟩ | refine ⟨_, wru64 ti ti, ?_⟩ | refine ⟨_, fun _ => (IntKind.wrap_u64 _).symm, ?_⟩); conv => whnf) | (refine CallV.ret ?_; conv => whnf) | exact ⟨_, .keep rfl rfl⟩ | fail
  · exact ⟨_, .keep (by rw [Callee, if_pos hc]; rfl) rfl⟩
  · exact ⟨_, .keep (by rw [Callee, if_neg (by omega), if_pos (by omega)]; rfl) rfl⟩
  · rw [Callee, if_neg (by omega), if_neg (by omega)]
    exact ⟨_, .tup (.cons (.nilF rfl) (.cons (.keep rfl rfl) (.cons (.keep rfl rfl) .nil (nodupB_ok rfl)) (nodupB_ok rfl)) (nodupB_ok rfl))⟩
def pairs (f : FnE) (b k : Nat) : List (InsE × Plc) := (List.range k).map fun i => ((f.blocks.getD b Enc.d).code.getD i Enc.d, ⟨0, b, i⟩)
def codeTo (f : FnE) (b k : Nat) : List (InsE × Plc) := ((List.range b).flatMap fun b => pairs f b (f.blocks.getD b Enc.d).code.length) ++ pairs f b k
def Code (f : FnE) : List (InsE × Plc) := codeTo f f.blocks.length 0
theorem codeTo_snoc (f : FnE) (b k : Nat) : codeTo f b (k + 1) = codeTo f b k ++ [((f.blocks.getD b Enc.d).code.getD k Enc.d, ⟨0, b, k⟩)] := by
  unfold codeTo pairs; rw [List.range_succ, List.map_append, List.append_assoc]; rfl
theorem codeTo_next (f : FnE) (b : Nat) : codeTo f (b + 1) 0 = codeTo f b (f.blocks.getD b Enc.d).code.length := by
  unfold codeTo; rw [List.range_succ, List.flatMap_append, List.flatMap_singleton]; simp [pairs]
theorem sum_take {α : Type} (g : α → Nat) (d : α) : ∀ (l : List α) (b : Nat), b < l.length → ((l.take b).map g).sum + g (l.getD b d) ≤ (l.map g).sum
  | x :: l, 0, _ => by simp
  | x :: l, b + 1, h => by
    have := sum_take g d l b (by simpa using h)
    simp only [List.take_succ_cons, List.map_cons, List.sum_cons, List.getD_cons_succ]; omega
theorem sum_le {α : Type} {g h : α → Nat} (hgh : ∀ x, g x ≤ h x) : ∀ l : List α, (l.map g).sum ≤ (l.map h).sum
  | [] => Nat.le_refl _
  | x :: l => by have := sum_le hgh l; have := hgh x; simp only [List.map_cons, List.sum_cons]; omega
theorem codeTo_len (f : FnE) (b : Nat) : ∀ k, (codeTo f b k).length = ((List.range b).map fun b => (f.blocks.getD b Enc.d).code.length).sum + k := fun k => by
  simp [codeTo, pairs, List.length_flatMap]
theorem range_take {α : Type} (g : α → Nat) (d : α) (l : List α) : ∀ b, b ≤ l.length → ((List.range b).map fun b => g (l.getD b d)).sum = ((l.take b).map g).sum
  | 0, _ => by simp
  | b + 1, h => by
    rw [List.range_succ, List.map_append, List.sum_append, range_take g d l b (by omega), List.take_add_one, List.map_append, List.sum_append, List.getElem?_eq_getElem (by omega)]
    simp [List.getElem?_eq_getElem (show b < l.length by omega)]
theorem codeTo_siz (f : FnE) (b k : Nat) (hb : b < f.blocks.length) (hk : k ≤ (f.blocks.getD b Enc.d).code.length) : (codeTo f b k).length ≤ siz f := by
  rw [codeTo_len, range_take (fun x : BlkE => x.code.length) Enc.d f.blocks b (by omega)]
  have h1 := sum_take (fun x : BlkE => x.code.length) Enc.d f.blocks b hb
  have h2 := sum_le (g := fun x : BlkE => x.code.length) (h := siz) (fun x => len_siz x.code) f.blocks
  have h3 : siz f = siz f.name + siz f.params + (f.blocks.length + (f.blocks.map siz).sum) := rfl
  omega
theorem Clo.rows {d d' e off n e' n' e2 off2 n2 e3 n3 : Nat} {g g' : Nat → List AV} : Clo (.tup [.orow d e off n, .orow d' e2 off2 n2]) [(d, .row none e' n' g), (d', .row none e3 n3 g')] := by
  refine ⟨fun id hm => ?_, fun i ob h id hm => ?_⟩
  · simp only [men, mens, Bool.or_false, Bool.or_eq_true] at hm
    rw [lk_cons]; split
    · rfl
    · rename_i q; rw [lk_cons]; split
      · rfl
      · rename_i q2; rcases hm with h | h <;> have := Nat.eq_of_beq_eq_true h <;> subst this <;> contradiction
  · rw [lk_cons] at h
    split at h
    · cases h; cases hm
    · rw [lk_cons] at h
      split at h
      · cases h; cases hm
      · simp [lk] at h
theorem Code_S (d d' : Nat) (hd : d ≠ d') (f : FnE) (hs : siz f < 4294967296) : ASpec Try.prog 64 [eS f] (.tup [.orow d 7 0 ((Code f).map Prod.fst).length, .orow d' 3 0 ((Code f).map Prod.snd).length]) [(d, oL ((Code f).map Prod.fst)), (d', oL ((Code f).map Prod.snd))] := by
  have h1 := blocks_le f
  have hnd : [d, d'].Nodup := nd2 hd
  refine ASpec.enter TYok mixed Try.func64 rfl Try.call64 Try.ntmps64 rfl (rs := [.tmp 2, .tmp 3]) rfl (hnd) (Clo.rows) (keep := [0, 1, 2, 3, 4, 5, 6, 7]) ?_; conv => whnf
  refine lp [6, 4, 5] (fun b : Nat => [.i .i64 b, .orow 4 7 0 ((codeTo f b 0).map Prod.fst).length, .orow 5 3 0 ((codeTo f b 0).map Prod.snd).length]) (fun b => [(4, oL ((codeTo f b 0).map Prod.fst)), (5, oL ((codeTo f b 0).map Prod.snd)), (1, bx f)]) (fun q => q ≤ f.blocks.length) (fun q => f.blocks.length - q) 0 (by omega) ?_ fun b hb0 => ?_
  · refine eP [] [4, 5] ?_ ?_ <;> repeat' first | exact eN | refine And.intro ?_ ?_
  conv => whnf
  repeat' first | (refine iF (fun hb => ?_) (fun hb => ?_) <;> (try simp only [pickB_or, pickB_and] at hb) <;> (have hc := hb; try simp only [sB, Int.reduceToNat] at hc; try simp only [addZ0] at hc) <;> first | (exfalso; omega) | conv => whnf) | ((first | refine ⟨_, wr64 ti ti, ?_⟩ | refine And.intro si ?_ | refine LitW.frz ?_ | refine PreW.frz ?_ | refine AppW.cp ?_ | refine TakW.row ?_ | refine dD ?_ | refine dF ?_ | refine d0 ?_ | refine d1 ?_ | refine dL ?_ | refine dP ?_ | refine And.intro tgi ?_ | refine ⟨_, shl1 (by omega), ?_⟩ | refine ⟨_, wru64 ti ti, ?_⟩ | refine ⟨_, fun _ => (IntKind.wrap_u64 _).symm, ?_⟩); conv => whnf) | (refine CallV.ret ?_; conv => whnf) | exact ⟨_, .keep rfl rfl⟩ | fail
  · have h2 := code_le f b
    refine lp [7, 4, 5] (fun q : Nat => [.i .i64 q, .orow 4 7 0 ((codeTo f b q).map Prod.fst).length, .orow 5 3 0 ((codeTo f b q).map Prod.snd).length]) (fun q => [(4, oL ((codeTo f b q).map Prod.fst)), (5, oL ((codeTo f b q).map Prod.snd)), (1, bx f)]) (fun q => q ≤ (f.blocks.getD b Enc.d).code.length) (fun q => (f.blocks.getD b Enc.d).code.length - q) 0 (by omega) ?_ fun q hq => ?_
    · refine eP [] [] ?_ ?_ <;> repeat' first | exact eN | refine And.intro ?_ ?_
    conv => whnf
    have h3 := codeTo_siz f b q (by omega) hq
    have h4 : ((codeTo f b q).map Prod.fst).length = (codeTo f b q).length := List.length_map _
    have h5 : ((codeTo f b q).map Prod.snd).length = (codeTo f b q).length := List.length_map _
    repeat' first | (refine iF (fun hb => ?_) (fun hb => ?_) <;> (try simp only [pickB_or, pickB_and] at hb) <;> (have hc := hb; try simp only [sB, Int.reduceToNat] at hc; try simp only [addZ0] at hc) <;> first | (exfalso; omega) | conv => whnf) | ((first | refine ⟨_, wr64 ti ti, ?_⟩ | refine And.intro si ?_ | refine LitW.frz ?_ | refine PreW.frz ?_ | refine AppW.cp ?_ | refine TakW.row ?_ | refine dD ?_ | refine dF ?_ | refine d0 ?_ | refine d1 ?_ | refine dL ?_ | refine dP ?_ | refine And.intro tgi ?_ | refine ⟨_, shl1 (by omega), ?_⟩ | refine ⟨_, wru64 ti ti, ?_⟩ | refine ⟨_, fun _ => (IntKind.wrap_u64 _).symm, ?_⟩); conv => whnf) | (refine CallV.ret ?_; conv => whnf) | exact ⟨_, .keep rfl rfl⟩ | fail
    · have e1 : (codeTo f b (q + 1)).map Prod.fst = (codeTo f b q).map Prod.fst ++ [(f.blocks.getD b Enc.d).code.getD q Enc.d] := by rw [codeTo_snoc, List.map_append]; rfl
      have e2 : (codeTo f b (q + 1)).map Prod.snd = (codeTo f b q).map Prod.snd ++ [⟨0, b, q⟩] := by rw [codeTo_snoc, List.map_append]; rfl
      refine .mk (q + 1) (by omega) (by omega) ?_
      refine eP [(4, 37), (5, 43)] [] ?_ ?_ <;> repeat' first | exact eN | refine And.intro ?_ ?_ | exact snoc_len e1 | exact snoc_get e1 rfl | rw [e1] | exact snoc_len e2 | exact snoc_get e2 rfl | rw [e2]
    · have e : codeTo f (b + 1) 0 = codeTo f b q := by rw [codeTo_next]; congr 1; omega
      refine .mk (b + 1) (by omega) (by omega) ?_
      rw [e]
      refine eP [] [] ?_ ?_ <;> repeat' first | exact eN | refine And.intro ?_ ?_
  · have e : codeTo f b 0 = Code f := by rw [Code]; congr 1; omega
    rw [e]
    exact ⟨_, .tup (.cons (.give rfl rfl rfl (fun _ _ => rfl) rfl) (.cons (.give rfl rfl rfl (fun _ _ => rfl) rfl) .nil (nd1 _)) hnd)⟩
open Pl (Vl)
instance : Enc Vl := ⟨fun x => [.i .i64 x.k, .i .u64 x.b, .i .i64 x.bl, .i .i64 x.off], 4, Vl.zero⟩
theorem count_P (t : Int) : ASpec Try.prog 89 [.i .i64 t] (.i .i64 (Pl.count t)) [] := by
  refine ASpec.enter TYok mixed Try.func89 rfl Try.call89 Try.ntmps89 rfl (rs := [.tmp 2]) rfl (nodupB_ok rfl) (Clo.one rfl) (keep := [0, 2]) ?_; conv => whnf
  repeat' first | (refine iF (fun hb => ?_) (fun hb => ?_) <;> (try simp only [pickB_or, pickB_and] at hb) <;> (have hc := hb; try simp only [sB, Int.reduceToNat] at hc; try simp only [addZ0] at hc) <;> first | (exfalso; omega) | conv => whnf) | ((first | refine ⟨_, wr64 ti ti, ?_⟩ | refine And.intro si ?_ | refine LitW.frz ?_ | refine PreW.frz ?_ | refine AppW.cp ?_ | refine TakW.row ?_ | refine dD ?_ | refine dF ?_ | refine d0 ?_ | refine d1 ?_ | refine dL ?_ | refine dP ?_ | refine And.intro tgi ?_ | refine ⟨_, shl1 (by omega), ?_⟩ | refine ⟨_, wru64 ti ti, ?_⟩ | refine ⟨_, fun _ => (IntKind.wrap_u64 _).symm, ?_⟩); conv => whnf) | (refine CallV.ret ?_; conv => whnf) | exact ⟨_, .keep rfl rfl⟩ | fail
  · exact ⟨_, .keep (by unfold Pl.count; rw [if_pos hc]) rfl⟩
  · rw [Int.tdiv_eq_ediv_of_nonneg (by omega)]
    repeat' first | (refine iF (fun hb => ?_) (fun hb => ?_) <;> (try simp only [pickB_or, pickB_and] at hb) <;> (have hc := hb; try simp only [sB, Int.reduceToNat] at hc; try simp only [addZ0] at hc) <;> first | (exfalso; omega) | conv => whnf) | ((first | refine ⟨_, wr64 ti ti, ?_⟩ | refine And.intro si ?_ | refine LitW.frz ?_ | refine PreW.frz ?_ | refine AppW.cp ?_ | refine TakW.row ?_ | refine dD ?_ | refine dF ?_ | refine d0 ?_ | refine d1 ?_ | refine dL ?_ | refine dP ?_ | refine And.intro tgi ?_ | refine ⟨_, shl1 (by omega), ?_⟩ | refine ⟨_, wru64 ti ti, ?_⟩ | refine ⟨_, fun _ => (IntKind.wrap_u64 _).symm, ?_⟩); conv => whnf) | (refine CallV.ret ?_; conv => whnf) | exact ⟨_, .keep rfl rfl⟩ | fail
    exact ⟨_, .keep (by unfold Pl.count; rw [if_neg (by assumption), if_pos (by omega)]) rfl⟩
  · exact ⟨_, .keep (by unfold Pl.count; rw [if_neg (by assumption), if_neg (by omega)]) rfl⟩
theorem Norm_P (t : Int) (v : Vl) (hv : 0 ≤ v.b) (hv' : v.b < 18446744073709551616) : ASpec Try.prog 55 [.i .i64 t, eS v] (eS (Pl.norm t v)) [] := by
  have key : ∀ {x : Vl}, Pl.norm t v = x → eS x = eS (Pl.norm t v) := fun h => by rw [h]
  refine ASpec.enter TYok mixed Try.func55 rfl Try.call55 Try.ntmps55 rfl (rs := [.cell 4 70]) rfl (nodupB_ok rfl) (Clo.one rfl) (keep := [0, 1, 3, 4]) ?_; conv => whnf
  repeat' first | (refine iF (fun hb => ?_) (fun hb => ?_) <;> (try simp only [pickB_or, pickB_and] at hb) <;> (have hc := hb; try simp only [sB, Int.reduceToNat] at hc; try simp only [addZ0] at hc) <;> first | (exfalso; omega) | conv => whnf) | ((first | refine ⟨_, wr64 ti ti, ?_⟩ | refine And.intro si ?_ | refine LitW.frz ?_ | refine PreW.frz ?_ | refine AppW.cp ?_ | refine TakW.row ?_ | refine dD ?_ | refine dF ?_ | refine d0 ?_ | refine d1 ?_ | refine dL ?_ | refine dP ?_ | refine And.intro tgi ?_ | refine ⟨_, shl1 (by omega), ?_⟩ | refine ⟨_, wru64 ti ti, ?_⟩ | refine ⟨_, fun _ => (IntKind.wrap_u64 _).symm, ?_⟩); conv => whnf) | ((first | refine cK (fun _ => Mask_P _) ?_ | ((try (refine CallW.lent ?_; (conv => whnf); repeat (refine And.intro si ?_; (conv => whnf)))); refine cL (fun _ => Mask_P _) ?_)); conv => whnf) | ((first | refine cK (fun _ => count_P _) ?_ | ((try (refine CallW.lent ?_; (conv => whnf); repeat (refine And.intro si ?_; (conv => whnf)))); refine cL (fun _ => count_P _) ?_)); conv => whnf) | (refine CallV.ret ?_; conv => whnf) | exact ⟨_, .keep rfl rfl⟩ | fail
  · exact ⟨_, .keep (key (x := ⟨1, bits .and .u64 v.b (Pl.mask t), 0, 0⟩) (by unfold Pl.norm; rw [if_pos hc, Pl.and_maskI hc.2 hv hv'])) rfl⟩
  · exact ⟨_, .keep (key (x := ⟨2, 0, v.bl, v.off⟩) (by unfold Pl.norm; rw [if_neg (by omega), if_pos hc])) rfl⟩
  · exact ⟨_, .keep (key (x := ⟨3, 0, 0, 0⟩) (by unfold Pl.norm; rw [if_neg (by omega), if_neg (by omega), if_pos hc])) rfl⟩
  · exact ⟨_, .keep (key (x := ⟨0, 0, 0, 0⟩) (by unfold Pl.norm; rw [if_neg (by omega), if_neg (by omega), if_neg (by omega)]; rfl)) rfl⟩
theorem number_P (z : Int) : ASpec Try.prog 90 [.i .u64 z] (eS (Pl.number z)) [] := by
  refine ASpec.enter TYok mixed Try.func90 rfl Try.call90 Try.ntmps90 rfl (rs := [.cell 2 70]) rfl (nodupB_ok rfl) (Clo.one rfl) (keep := [0, 2]) ?_; conv => whnf
  repeat' first | (refine iF (fun hb => ?_) (fun hb => ?_) <;> (try simp only [pickB_or, pickB_and] at hb) <;> (have hc := hb; try simp only [sB, Int.reduceToNat] at hc; try simp only [addZ0] at hc) <;> first | (exfalso; omega) | conv => whnf) | ((first | refine ⟨_, wr64 ti ti, ?_⟩ | refine And.intro si ?_ | refine LitW.frz ?_ | refine PreW.frz ?_ | refine AppW.cp ?_ | refine TakW.row ?_ | refine dD ?_ | refine dF ?_ | refine d0 ?_ | refine d1 ?_ | refine dL ?_ | refine dP ?_ | refine And.intro tgi ?_ | refine ⟨_, shl1 (by omega), ?_⟩ | refine ⟨_, wru64 ti ti, ?_⟩ | refine ⟨_, fun _ => (IntKind.wrap_u64 _).symm, ?_⟩); conv => whnf) | (refine CallV.ret ?_; conv => whnf) | exact ⟨_, .keep rfl rfl⟩ | fail
theorem anyone_P : ASpec Try.prog 57 [] (eS Pl.any) [] := by
  refine ASpec.enter TYok mixed Try.func57 rfl Try.call57 Try.ntmps57 rfl (rs := [.cell 0 70]) rfl (nodupB_ok rfl) (Clo.one rfl) (keep := [0]) ?_; conv => whnf
  repeat' first | (refine iF (fun hb => ?_) (fun hb => ?_) <;> (try simp only [pickB_or, pickB_and] at hb) <;> (have hc := hb; try simp only [sB, Int.reduceToNat] at hc; try simp only [addZ0] at hc) <;> first | (exfalso; omega) | conv => whnf) | ((first | refine ⟨_, wr64 ti ti, ?_⟩ | refine And.intro si ?_ | refine LitW.frz ?_ | refine PreW.frz ?_ | refine AppW.cp ?_ | refine TakW.row ?_ | refine dD ?_ | refine dF ?_ | refine d0 ?_ | refine d1 ?_ | refine dL ?_ | refine dP ?_ | refine And.intro tgi ?_ | refine ⟨_, shl1 (by omega), ?_⟩ | refine ⟨_, wru64 ti ti, ?_⟩ | refine ⟨_, fun _ => (IntKind.wrap_u64 _).symm, ?_⟩); conv => whnf) | (refine CallV.ret ?_; conv => whnf) | exact ⟨_, .keep rfl rfl⟩ | fail
def kindsL (x : InsE) : List Int := (Pl.kinds x.op x.t x.n x.f).getD []
theorem kindsL_ne {x : InsE} {ws : List Int} (h : Pl.kinds x.op x.t x.n x.f = some ws) : kindsL x = ws ∧ ws ≠ [] := by
  unfold kindsL; rw [h]
  refine ⟨rfl, fun e => ?_⟩
  subst e
  have := (Pl.kinds_len h).1
  have := Pl.arity_le x.op
  simp at *; omega
theorem Gives.nilZ {o : Os} {e n' : Nat} {g' : Nat → List AV} (h : n' = 0) : Gives o .nil o (.row (some false) e n' g') [] := by
  subst h
  refine ⟨List.Sublist.refl _, fun S β w u ho hr => ⟨W0, List.nodup_nil, (fun k hk => by cases hk), fun S' β' hβ hS hS2 => ⟨?_, fun id ob hl => by simp [lk] at hl⟩⟩⟩
  unfold rel at hr
  subst hr
  exact ⟨none, 0, fun _ => [], rfl, (fun z hz => by cases hz; rfl), ⟨Nat.zero_le _, Nat.zero_le _⟩, fun i hi => by omega⟩
theorem Gives.rowZ {o : Os} {nz : Option Bool} {e n n' : Nat} {g g' : Nat → List AV} (h : n = n') (hg : ∀ i, i < n' → g i = g' i) : Gives o (.row nz e n g) o (.row nz e n' g') [] := by
  subst h
  refine ⟨List.Sublist.refl _, fun S β w u ho hr => ⟨W0, List.nodup_nil, (fun k hk => by cases hk), fun S' β' hβ hS hS2 => ⟨?_, fun id ob hl => by simp [lk] at hl⟩⟩⟩
  have hr := rel_mono (S' := S') (w' := w) ⟨Nat.le_refl _, fun k hk hs => ⟨hS k hk hs, rfl⟩⟩ _ _ hr
  unfold rel at hr
  obtain ⟨a, cap, us, h1, h2, h3, h4⟩ := hr
  exact ⟨a, cap, us, h1, h2, h3, fun i hi => ⟨(h4 i hi).1, (h4 i hi).2.1, by rw [← hg i hi]; exact (h4 i hi).2.2⟩⟩
theorem kinds_none {o : Os} {x : InsE} (hk : Pl.kinds x.op x.t x.n x.f = none) : Gives o .nil o (.row (some (Pl.kinds x.op x.t x.n x.f).isSome) 1 (kindsL x).length fun i => Enc.enc ((kindsL x).getD i Enc.d)) [] := by
  unfold kindsL; rw [hk]; exact .nilZ rfl
theorem kinds_some {o : Os} {x : InsE} {ws : List Int} {g : Nat → List AV} {n : Nat} (hk : Pl.kinds x.op x.t x.n x.f = some ws) (hn : n = ws.length) (hg : ∀ i, i < ws.length → g i = [.i .i64 (ws.getD i 0)]) : Gives o (.row (some true) 1 n g) o (.row (some (Pl.kinds x.op x.t x.n x.f).isSome) 1 (kindsL x).length fun i => Enc.enc ((kindsL x).getD i Enc.d)) [] := by
  unfold kindsL; rw [hk]; exact .rowZ hn hg
theorem kinds_P (x : InsE) : ASpec Try.prog 54 [eS x] (.row (some (Pl.kinds x.op x.t x.n x.f).isSome) 1 (kindsL x).length fun i => Enc.enc ((kindsL x).getD i Enc.d)) [] := by
  refine ASpec.enter TYok mixed Try.func54 rfl Try.call54 Try.ntmps54 rfl (rs := [.tmp 2]) rfl (nodupB_ok rfl) (Clo.one rfl) (keep := [0, 1, 2, 3, 4, 5, 6, 8]) ?_; conv => whnf
  repeat' first | (refine iF (fun hb => ?_) (fun hb => ?_) <;> (try simp only [pickB_or, pickB_and] at hb) <;> (have hc := hb; try simp only [sB, Int.reduceToNat] at hc; try simp only [addZ0] at hc) <;> first | (exfalso; omega) | conv => whnf) | ((first | refine ⟨_, wr64 ti ti, ?_⟩ | refine And.intro si ?_ | refine LitW.frz ?_ | refine PreW.frz ?_ | refine AppW.cp ?_ | refine TakW.row ?_ | refine dD ?_ | refine dF ?_ | refine d0 ?_ | refine d1 ?_ | refine dL ?_ | refine dP ?_ | refine And.intro tgi ?_ | refine ⟨_, shl1 (by omega), ?_⟩ | refine ⟨_, wru64 ti ti, ?_⟩ | refine ⟨_, fun _ => (IntKind.wrap_u64 _).symm, ?_⟩); conv => whnf) | ((first | refine cK (fun _ => Flags_P _) ?_ | ((try (refine CallW.lent ?_; (conv => whnf); repeat (refine And.intro si ?_; (conv => whnf)))); refine cL (fun _ => Flags_P _) ?_)); conv => whnf) | ((first | refine cK (fun _ => Convert_P _ _ _ _ (by omega) (by omega)) ?_ | ((try (refine CallW.lent ?_; (conv => whnf); repeat (refine And.intro si ?_; (conv => whnf)))); refine cL (fun _ => Convert_P _ _ _ _ (by omega) (by omega)) ?_)); conv => whnf) | (refine CallV.ret ?_; conv => whnf) | exact ⟨_, .keep rfl rfl⟩ | fail
  · exact ⟨_, kinds_none (by unfold Pl.kinds; simp only [Bool.cond_eq_ite, bne_iff_ne, ne_eq, beq_iff_eq, Bool.or_eq_true, Bool.and_eq_true, decide_eq_true_eq]; repeat' (first | rw [if_pos (by first | assumption | omega)] | rw [if_neg (by first | assumption | omega | (simp_all; done))]))⟩
  · exact ⟨_, kinds_none (by unfold Pl.kinds; simp only [Bool.cond_eq_ite, bne_iff_ne, ne_eq, beq_iff_eq, Bool.or_eq_true, Bool.and_eq_true, decide_eq_true_eq]; repeat' (first | rw [if_pos (by first | assumption | omega)] | rw [if_neg (by first | assumption | omega | (simp_all; done))]))⟩
  · exact ⟨_, kinds_some (ws := [x.t, x.t]) (by unfold Pl.kinds; simp only [Bool.cond_eq_ite, bne_iff_ne, ne_eq, beq_iff_eq, Bool.or_eq_true, Bool.and_eq_true, decide_eq_true_eq]; repeat' (first | rw [if_pos (by first | assumption | omega)] | rw [if_neg (by first | assumption | omega | (simp_all; done))])) rfl (fun i hi => by match i, hi with | 0, _ => rfl | 1, _ => rfl)⟩
  · exact ⟨_, kinds_none (by unfold Pl.kinds; simp only [Bool.cond_eq_ite, bne_iff_ne, ne_eq, beq_iff_eq, Bool.or_eq_true, Bool.and_eq_true, decide_eq_true_eq]; repeat' (first | rw [if_pos (by first | assumption | omega)] | rw [if_neg (by first | assumption | omega | (simp_all; done))]))⟩
  · exact ⟨_, kinds_some (ws := [x.t, x.t]) (by unfold Pl.kinds; simp only [Bool.cond_eq_ite, bne_iff_ne, ne_eq, beq_iff_eq, Bool.or_eq_true, Bool.and_eq_true, decide_eq_true_eq]; repeat' (first | rw [if_pos (by first | assumption | omega)] | rw [if_neg (by first | assumption | omega | (simp_all; done))])) rfl (fun i hi => by match i, hi with | 0, _ => rfl | 1, _ => rfl)⟩
  · exact ⟨_, kinds_none (by unfold Pl.kinds; simp only [Bool.cond_eq_ite, bne_iff_ne, ne_eq, beq_iff_eq, Bool.or_eq_true, Bool.and_eq_true, decide_eq_true_eq]; repeat' (first | rw [if_pos (by first | assumption | omega)] | rw [if_neg (by first | assumption | omega | (simp_all; done))]))⟩
  · exact ⟨_, kinds_some (ws := [x.n]) (by unfold Pl.kinds; simp only [Bool.cond_eq_ite, bne_iff_ne, ne_eq, beq_iff_eq, Bool.or_eq_true, Bool.and_eq_true, decide_eq_true_eq]; repeat' (first | rw [if_pos (by first | assumption | omega)] | rw [if_neg (by first | assumption | omega | (simp_all; done))])) rfl (fun i hi => by match i, hi with | 0, _ => rfl)⟩
  · exact ⟨_, kinds_none (by unfold Pl.kinds; simp only [Bool.cond_eq_ite, bne_iff_ne, ne_eq, beq_iff_eq, Bool.or_eq_true, Bool.and_eq_true, decide_eq_true_eq]; repeat' (first | rw [if_pos (by first | assumption | omega)] | rw [if_neg (by first | assumption | omega | (simp_all; done))]))⟩
  · exact ⟨_, kinds_some (ws := [1, x.t, x.t]) (by unfold Pl.kinds; simp only [Bool.cond_eq_ite, bne_iff_ne, ne_eq, beq_iff_eq, Bool.or_eq_true, Bool.and_eq_true, decide_eq_true_eq]; repeat' (first | rw [if_pos (by first | assumption | omega)] | rw [if_neg (by first | assumption | omega | (simp_all; done))])) rfl (fun i hi => by match i, hi with | 0, _ => rfl | 1, _ => rfl | 2, _ => rfl)⟩
  · exact ⟨_, kinds_none (by unfold Pl.kinds; simp only [Bool.cond_eq_ite, bne_iff_ne, ne_eq, beq_iff_eq, Bool.or_eq_true, Bool.and_eq_true, decide_eq_true_eq]; repeat' (first | rw [if_pos (by first | assumption | omega)] | rw [if_neg (by first | assumption | omega | (simp_all; done))]))⟩
  · exact ⟨_, kinds_some (ws := [x.t]) (by unfold Pl.kinds; simp only [Bool.cond_eq_ite, bne_iff_ne, ne_eq, beq_iff_eq, Bool.or_eq_true, Bool.and_eq_true, decide_eq_true_eq]; repeat' (first | rw [if_pos (by first | assumption | omega)] | rw [if_neg (by first | assumption | omega | (simp_all; done))])) rfl (fun i hi => by match i, hi with | 0, _ => rfl)⟩
  · exact ⟨_, kinds_none (by unfold Pl.kinds; simp only [Bool.cond_eq_ite, bne_iff_ne, ne_eq, beq_iff_eq, Bool.or_eq_true, Bool.and_eq_true, decide_eq_true_eq]; repeat' (first | rw [if_pos (by first | assumption | omega)] | rw [if_neg (by first | assumption | omega | (simp_all; done))]))⟩
  · exact ⟨_, kinds_some (ws := [65, 64]) (by unfold Pl.kinds; simp only [Bool.cond_eq_ite, bne_iff_ne, ne_eq, beq_iff_eq, Bool.or_eq_true, Bool.and_eq_true, decide_eq_true_eq]; repeat' (first | rw [if_pos (by first | assumption | omega)] | rw [if_neg (by first | assumption | omega | (simp_all; done))])) rfl (fun i hi => by match i, hi with | 0, _ => rfl | 1, _ => rfl)⟩
  · exact ⟨_, kinds_none (by unfold Pl.kinds; simp only [Bool.cond_eq_ite, bne_iff_ne, ne_eq, beq_iff_eq, Bool.or_eq_true, Bool.and_eq_true, decide_eq_true_eq]; repeat' (first | rw [if_pos (by first | assumption | omega)] | rw [if_neg (by first | assumption | omega | (simp_all; done))]))⟩
  · exact ⟨_, kinds_none (by unfold Pl.kinds; simp only [Bool.cond_eq_ite, bne_iff_ne, ne_eq, beq_iff_eq, Bool.or_eq_true, Bool.and_eq_true, decide_eq_true_eq]; repeat' (first | rw [if_pos (by first | assumption | omega)] | rw [if_neg (by first | assumption | omega | (simp_all; done))]))⟩
theorem vl_ext {x y : Vl} (h : x.k = y.k ∧ x.b = y.b ∧ x.bl = y.bl ∧ x.off = y.off) : x = y := by
  cases x; cases y; simp_all
theorem vl_ne {x y : Vl} (h : ¬x.k = y.k ∨ ¬x.b = y.b ∨ ¬x.bl = y.bl ∨ ¬x.off = y.off) : ¬x = y := fun e => by subst e; simp at h
theorem chosen_P (l : List Vl) (hl : l.length = 3) : ASpec Try.prog 58 [eL l] (eS (Pl.chosen (l.getD 0 Enc.d) (l.getD 1 Enc.d) (l.getD 2 Enc.d))) [] := by
  have key : ∀ {x : Vl}, Pl.chosen (l.getD 0 Enc.d) (l.getD 1 Enc.d) (l.getD 2 Enc.d) = x → eS x = eS (Pl.chosen (l.getD 0 Enc.d) (l.getD 1 Enc.d) (l.getD 2 Enc.d)) := fun h => by rw [h]
  refine ASpec.enter TYok mixed Try.func58 rfl Try.call58 Try.ntmps58 rfl (rs := [.cell 2 70]) rfl (nodupB_ok rfl) (Clo.one rfl) (keep := [0, 2]) ?_; conv => whnf
  repeat' first | (refine iF (fun hb => ?_) (fun hb => ?_) <;> (try simp only [pickB_or, pickB_and] at hb) <;> (have hc := hb; try simp only [sB, Int.reduceToNat] at hc; try simp only [addZ0] at hc) <;> first | (exfalso; omega) | conv => whnf) | ((first | refine ⟨_, wr64 ti ti, ?_⟩ | refine And.intro si ?_ | refine LitW.frz ?_ | refine PreW.frz ?_ | refine AppW.cp ?_ | refine TakW.row ?_ | refine dD ?_ | refine dF ?_ | refine d0 ?_ | refine d1 ?_ | refine dL ?_ | refine dP ?_ | refine And.intro tgi ?_ | refine ⟨_, shl1 (by omega), ?_⟩ | refine ⟨_, wru64 ti ti, ?_⟩ | refine ⟨_, fun _ => (IntKind.wrap_u64 _).symm, ?_⟩); conv => whnf) | ((first | refine cK (fun _ => anyone_P) ?_ | ((try (refine CallW.lent ?_; (conv => whnf); repeat (refine And.intro si ?_; (conv => whnf)))); refine cL (fun _ => anyone_P) ?_)); conv => whnf) | (refine CallV.ret ?_; conv => whnf) | exact ⟨_, .keep rfl rfl⟩ | fail
  · exact ⟨_, .keep (key (x := ⟨0, 0, 0, 0⟩) (by unfold Pl.chosen; simp only [Bool.cond_eq_ite, bne_iff_ne, ne_eq, beq_iff_eq, Bool.or_eq_true, Bool.and_eq_true, decide_eq_true_eq, Bool.not_eq_true', decide_eq_false_iff_not]; (repeat' split) <;> first | rfl | (exfalso; omega) | contradiction | (simp_all; done))) rfl⟩
  · exact ⟨_, .keep (key (x := l.getD 1 Enc.d) (by unfold Pl.chosen; simp only [Bool.cond_eq_ite, bne_iff_ne, ne_eq, beq_iff_eq, Bool.or_eq_true, Bool.and_eq_true, decide_eq_true_eq, Bool.not_eq_true', decide_eq_false_iff_not]; (repeat' split) <;> first | rfl | (exfalso; omega) | contradiction | (simp_all; done))) rfl⟩
  · exact ⟨_, .keep (key (x := l.getD 2 Enc.d) (by unfold Pl.chosen; simp only [Bool.cond_eq_ite, bne_iff_ne, ne_eq, beq_iff_eq, Bool.or_eq_true, Bool.and_eq_true, decide_eq_true_eq, Bool.not_eq_true', decide_eq_false_iff_not]; (repeat' split) <;> first | rfl | (exfalso; omega) | contradiction | (simp_all; done))) rfl⟩
  · have e := vl_ext hc
    exact ⟨_, .keep (key (x := l.getD 1 Enc.d) (by unfold Pl.chosen; simp only [Bool.cond_eq_ite, bne_iff_ne, ne_eq, beq_iff_eq, Bool.or_eq_true, Bool.and_eq_true, decide_eq_true_eq, Bool.not_eq_true', decide_eq_false_iff_not]; (repeat' split) <;> first | rfl | (exfalso; omega) | contradiction | (simp_all; done))) rfl⟩
  · have e := vl_ne (x := l.getD 1 Enc.d) (y := l.getD 2 Enc.d) (by assumption)
    exact ⟨_, .keep (key (x := ⟨0, 0, 0, 0⟩) (by unfold Pl.chosen; simp only [Bool.cond_eq_ite, bne_iff_ne, ne_eq, beq_iff_eq, Bool.or_eq_true, Bool.and_eq_true, decide_eq_true_eq, Bool.not_eq_true', decide_eq_false_iff_not]; (repeat' split) <;> first | rfl | (exfalso; omega) | contradiction | (simp_all; done))) rfl⟩
  · have e := vl_ne (x := l.getD 1 Enc.d) (y := l.getD 2 Enc.d) (by assumption)
    exact ⟨_, .keep (key (x := Pl.any) (by unfold Pl.chosen; simp only [Bool.cond_eq_ite, bne_iff_ne, ne_eq, beq_iff_eq, Bool.or_eq_true, Bool.and_eq_true, decide_eq_true_eq, Bool.not_eq_true', decide_eq_false_iff_not]; (repeat' split) <;> first | rfl | (exfalso; omega) | contradiction | (simp_all; done))) rfl⟩
theorem loosely_P (x : InsE) (l : List Vl) (hl : 11 ≤ x.op ∧ x.op ≤ 13 → 2 ≤ l.length) : ASpec Try.prog 59 [eS x, eL l] (eS (Pl.loosely x.op x.t x.f (l.getD 1 Enc.d))) [] := by
  have key : ∀ {y : Vl}, Pl.loosely x.op x.t x.f (l.getD 1 Enc.d) = y → eS y = eS (Pl.loosely x.op x.t x.f (l.getD 1 Enc.d)) := fun h => by rw [h]
  refine ASpec.enter TYok mixed Try.func59 rfl Try.call59 Try.ntmps59 rfl (rs := [.cell 4 70]) rfl (nodupB_ok rfl) (Clo.one rfl) (keep := [0, 1, 2, 4]) ?_; conv => whnf
  repeat' first | (refine iF (fun hb => ?_) (fun hb => ?_) <;> (try simp only [pickB_or, pickB_and] at hb) <;> (have hc := hb; try simp only [sB, Int.reduceToNat] at hc; try simp only [addZ0] at hc) <;> first | (exfalso; omega) | conv => whnf) | ((first | refine ⟨_, wr64 ti ti, ?_⟩ | refine And.intro si ?_ | refine LitW.frz ?_ | refine PreW.frz ?_ | refine AppW.cp ?_ | refine TakW.row ?_ | refine dD ?_ | refine dF ?_ | refine d0 ?_ | refine d1 ?_ | refine dL ?_ | refine dP ?_ | refine And.intro tgi ?_ | refine ⟨_, shl1 (by omega), ?_⟩ | refine ⟨_, fun _ => rfl, ?_⟩); conv => whnf) | ((first | refine cK (fun _ => anyone_P) ?_ | ((try (refine CallW.lent ?_; (conv => whnf); repeat (refine And.intro si ?_; (conv => whnf)))); refine cL (fun _ => anyone_P) ?_)); conv => whnf) | (refine CallV.ret ?_; conv => whnf) | exact ⟨_, .keep rfl rfl⟩ | fail
  · exact ⟨_, .keep (key (y := ⟨0, 0, 0, 0⟩) (by unfold Pl.loosely; simp only [Bool.cond_eq_ite, bne_iff_ne, ne_eq, beq_iff_eq, Bool.or_eq_true, Bool.and_eq_true, decide_eq_true_eq, Bool.not_eq_true', decide_eq_false_iff_not]; (repeat' split) <;> first | rfl | (exfalso; omega) | contradiction | (simp_all; done))) rfl⟩
  · exact ⟨_, .keep (key (y := Pl.any) (by unfold Pl.loosely; simp only [Bool.cond_eq_ite, bne_iff_ne, ne_eq, beq_iff_eq, Bool.or_eq_true, Bool.and_eq_true, decide_eq_true_eq, Bool.not_eq_true', decide_eq_false_iff_not]; (repeat' split) <;> first | rfl | (exfalso; omega) | contradiction | (simp_all; done))) rfl⟩
mutual
def renA (σ : Nat → Nat) : AV → AV
  | .op id off => .op (σ id) off
  | .orow id e off n => .orow (σ id) e off n
  | .rp id e i j => .rp (σ id) e i j
  | .omap id => .omap (σ id)
  | .pth id p e off n => .pth (σ id) p e off n
  | .pp id p e i j => .pp (σ id) p e i j
  | .agg cs => .agg (renAs σ cs)
  | .tup cs => .tup (renAs σ cs)
  | .clo f cs => .clo f (renAs σ cs)
  | .ifc t x => .ifc t (renA σ x)
  | x => x
def renAs (σ : Nat → Nat) : List AV → List AV
  | [] => []
  | x :: xs => renA σ x :: renAs σ xs
end
def renOb (σ : Nat → Nat) : Obj → Obj
  | .box p q cs => .box p q (renAs σ cs)
  | x => x
def renO (σ : Nat → Nat) : Os → Os
  | [] => []
  | (i, ob) :: o => (σ i, renOb σ ob) :: renO σ o
mutual
theorem rel_ren {σ : Nat → Nat} {S : Nat → Prop} {β : Nat → Wt} {w : World} : ∀ (x : AV) (u : Value), rel S β w (renA σ x) u ↔ rel S (fun i => β (σ i)) w x u
  | .i k z, u => Iff.rfl
  | .b t, u => Iff.rfl
  | .s x, u => Iff.rfl
  | .v x, u => Iff.rfl
  | .nil, u => Iff.rfl
  | .row nz e n get, u => Iff.rfl
  | .cp cs, u => Iff.rfl
  | .op id off, u => Iff.rfl
  | .orow id e off n, u => Iff.rfl
  | .rp id e i j, u => Iff.rfl
  | .omap id, u => Iff.rfl
  | .any, u => Iff.rfl
  | .pth _ _ _ _ _, u => Iff.rfl
  | .pp _ _ _ _ _, u => Iff.rfl
  | .agg cs, u => ⟨fun ⟨us, h1, h2⟩ => ⟨us, h1, (rels_ren cs us).1 h2⟩, fun ⟨us, h1, h2⟩ => ⟨us, h1, (rels_ren cs us).2 h2⟩⟩
  | .tup cs, u => ⟨fun ⟨us, h1, h2⟩ => ⟨us, h1, (rels_ren cs us).1 h2⟩, fun ⟨us, h1, h2⟩ => ⟨us, h1, (rels_ren cs us).2 h2⟩⟩
  | .clo f cs, u => ⟨fun ⟨us, h1, h2⟩ => ⟨us, h1, (rels_ren cs us).1 h2⟩, fun ⟨us, h1, h2⟩ => ⟨us, h1, (rels_ren cs us).2 h2⟩⟩
  | .ifc t x, u => ⟨fun ⟨u', h1, h2⟩ => ⟨u', h1, (rel_ren x u').1 h2⟩, fun ⟨u', h1, h2⟩ => ⟨u', h1, (rel_ren x u').2 h2⟩⟩
theorem rels_ren {σ : Nat → Nat} {S : Nat → Prop} {β : Nat → Wt} {w : World} : ∀ (x : List AV) (u : List Value), rels S β w (renAs σ x) u ↔ rels S (fun i => β (σ i)) w x u
  | [], u => Iff.rfl
  | x :: xs, u => ⟨fun ⟨q, us, h1, h2, h3⟩ => ⟨q, us, h1, (rel_ren x q).1 h2, (rels_ren xs us).1 h3⟩, fun ⟨q, us, h1, h2, h3⟩ => ⟨q, us, h1, (rel_ren x q).2 h2, (rels_ren xs us).2 h3⟩⟩
end
mutual
theorem men_ren {σ : Nat → Nat} {d : Nat} : ∀ (x : AV), men d (renA σ x) = true → ∃ i, d = σ i ∧ men i x = true
  | .i k z, h => nomatch h
  | .b t, h => nomatch h
  | .s x, h => nomatch h
  | .v x, h => nomatch h
  | .nil, h => nomatch h
  | .row nz e n get, h => nomatch h
  | .cp cs, h => nomatch h
  | .any, h => nomatch h
  | .op id off, h => ⟨id, (Nat.eq_of_beq_eq_true h).symm, by simp [men]⟩
  | .orow id e off n, h => ⟨id, (Nat.eq_of_beq_eq_true h).symm, by simp [men]⟩
  | .rp id e i j, h => ⟨id, (Nat.eq_of_beq_eq_true h).symm, by simp [men]⟩
  | .omap id, h => ⟨id, (Nat.eq_of_beq_eq_true h).symm, by simp [men]⟩
  | .pth id _ _ _ _, h => ⟨id, (Nat.eq_of_beq_eq_true h).symm, by simp [men]⟩
  | .pp id _ _ _ _, h => ⟨id, (Nat.eq_of_beq_eq_true h).symm, by simp [men]⟩
  | .agg cs, h => mens_ren cs h
  | .tup cs, h => mens_ren cs h
  | .clo f cs, h => mens_ren cs h
  | .ifc t x, h => men_ren x h
theorem mens_ren {σ : Nat → Nat} {d : Nat} : ∀ (x : List AV), mens d (renAs σ x) = true → ∃ i, d = σ i ∧ mens i x = true
  | [], h => nomatch h
  | x :: xs, h => by
    simp only [renAs, mens, Bool.or_eq_true] at h
    rcases h with h | h
    · obtain ⟨i, h1, h2⟩ := men_ren x h
      exact ⟨i, h1, by simp [mens, h2]⟩
    · obtain ⟨i, h1, h2⟩ := mens_ren xs h
      exact ⟨i, h1, by simp [mens, h2]⟩
end
theorem orel_ren {σ : Nat → Nat} {S : Nat → Prop} {β : Nat → Wt} {w : World} {W : Wt} : ∀ {ob : Obj}, orel S β w W (renOb σ ob) ↔ orel S (fun i => β (σ i)) w W ob
  | .box p q cs => ⟨fun ⟨b, us, ty, h1, h2, h3, h4, h5⟩ => ⟨b, us, ty, h1, h2, h3, (rels_ren cs us).1 h4, h5⟩, fun ⟨b, us, ty, h1, h2, h3, h4, h5⟩ => ⟨b, us, ty, h1, h2, h3, (rels_ren cs us).2 h4, h5⟩⟩
  | .row q e n g => Iff.rfl
  | .tree e n g => Iff.rfl
  | .mp e n g F => Iff.rfl
theorem omen_ren {σ : Nat → Nat} {d : Nat} : ∀ {ob : Obj}, omen d (renOb σ ob) = true → ∃ i, d = σ i ∧ omen i ob = true
  | .box p q cs, h => mens_ren cs h
  | .row q e n g, h => nomatch h
  | .tree e n g, h => nomatch h
  | .mp e n g F, h => nomatch h
theorem keys_ren {σ : Nat → Nat} : ∀ {o : Os}, (renO σ o).map (·.1) = (o.map (·.1)).map σ
  | [] => rfl
  | (i, ob) :: o => by simp only [renO, List.map_cons, keys_ren]
theorem feet_ren {σ : Nat → Nat} {β : Nat → Wt} : ∀ {o : Os}, feet (renO σ o) β = feet o (fun i => β (σ i))
  | [] => rfl
  | (i, ob) :: o => by rw [renO, feet_cons, feet_cons, feet_ren]
theorem lk_ren {σ : Nat → Nat} {i : Nat} (hσ : ∀ i j, σ i = σ j → i = j) : ∀ {o : Os}, lk (renO σ o) (σ i) = (lk o i).map (renOb σ)
  | [] => rfl
  | (j, ob) :: o => by
    rw [renO, lk_cons, lk_cons]
    by_cases e : j = i
    · subst e; rw [if_pos rfl, if_pos rfl]; rfl
    · rw [if_neg fun h => e (hσ _ _ h), if_neg e, lk_ren hσ]
theorem lk_ren' {σ : Nat → Nat} {j : Nat} {ob' : Obj} (hσ : ∀ i j, σ i = σ j → i = j) : ∀ {o : Os}, lk (renO σ o) j = some ob' → ∃ i ob, j = σ i ∧ lk o i = some ob ∧ ob' = renOb σ ob
  | [], h => by simp [renO, lk] at h
  | (k, ob) :: o, h => by
    rw [renO, lk_cons] at h
    split at h
    · rename_i e; cases h; exact ⟨k, ob, e.symm, by rw [lk_cons, if_pos rfl], rfl⟩
    · obtain ⟨i, ob2, h1, h2, h3⟩ := lk_ren' hσ h
      rename_i e
      exact ⟨i, ob2, h1, by rw [lk_cons, if_neg fun h => e (by rw [h, h1])]; exact h2, h3⟩
theorem isBox_ren {σ : Nat → Nat} : ∀ {ob : Obj}, isBox (renOb σ ob) = isBox ob
  | .box p q cs => rfl
  | .row q e n g => rfl
  | .tree e n g => rfl
  | .mp e n g F => rfl
theorem nodup_inj {σ : Nat → Nat} (hσ : ∀ i j, σ i = σ j → i = j) : ∀ {l : List Nat}, l.Nodup → (l.map σ).Nodup
  | [], _ => List.nodup_nil
  | x :: l, h => by
    rw [List.nodup_cons] at h
    rw [List.map_cons, List.nodup_cons]
    refine ⟨fun hm => ?_, nodup_inj hσ h.2⟩
    obtain ⟨y, hy, e⟩ := List.mem_map.1 hm
    exact h.1 (hσ _ _ e ▸ hy)
theorem nodup_of_map {σ : Nat → Nat} : ∀ {l : List Nat}, (l.map σ).Nodup → l.Nodup
  | [], _ => List.nodup_nil
  | x :: l, h => by
    rw [List.map_cons, List.nodup_cons] at h
    rw [List.nodup_cons]
    exact ⟨fun hm => h.1 (List.mem_map.2 ⟨x, hm, rfl⟩), nodup_of_map h.2⟩
theorem ASpecF.ren {fx : Bool} {P : Program} {f : FuncId} {args : List AV} {os : Os} {r : AV} {no : Os} (σ τ : Nat → Nat) (hτ : ∀ i, τ (σ i) = i) (h : ASpecF fx P f args os r no) : ASpecF fx P f (renAs σ args) (renO σ os) (renA σ r) (renO σ no) := by
  obtain ⟨h1, ⟨h2, h3⟩, h4⟩ := h
  have hσ : ∀ i j, σ i = σ j → i = j := fun i j e => by rw [← hτ i, ← hτ j, e]
  refine ⟨h1, ⟨fun id hm => ?_, fun i ob hl id hm => ?_⟩, fun S β w us hob hap hus hvr => ?_⟩
  · obtain ⟨i, rfl, hi⟩ := men_ren r hm
    rw [lk_ren hσ, Option.isSome_map]; exact h2 i hi
  · obtain ⟨j, ob2, rfl, hj, rfl⟩ := lk_ren' hσ hl
    obtain ⟨k, rfl, hk⟩ := omen_ren hm
    rw [lk_ren hσ, Option.isSome_map]; exact h3 j ob2 hj k hk
  · rw [feet_ren] at hap ⊢
    have hob' : OB S (fun i => β (σ i)) w os := ⟨fun id ob hl => orel_ren.1 (hob.objs (σ id) (renOb σ ob) (by rw [lk_ren hσ, hl]; rfl)), by rw [← feet_ren]; exact hob.nodup, nodup_of_map (σ := σ) (by rw [← keys_ren]; exact hob.keys), fun k hk => hob.lt k (by rw [feet_ren]; exact hk)⟩
    refine (h4 S _ w us hob' hap ((rels_ren args us).1 hus) hvr).mono ?_
    rintro e w' ⟨v, β', rfl, g1, g2, g3, g4, g5, g6, g7⟩
    have hβ : (fun i => (fun j => β' (τ j)) (σ i)) = β' := by funext i; show β' (τ (σ i)) = _; rw [hτ]
    have hfe : feet (renO σ no) (fun j => β' (τ j)) = feet no β' := by rw [feet_ren, hβ]
    refine ⟨v, fun j => β' (τ j), rfl, g1, fun id ob hl => ?_, by rw [hfe]; exact g3, by rw [hfe]; exact g4, by rw [keys_ren]; exact nodup_inj hσ g5, fun id ob hl hb hs => ?_, ?_⟩
    · obtain ⟨i, ob2, rfl, hi, rfl⟩ := lk_ren' hσ hl
      rw [orel_ren, hβ, hfe]
      show orel _ _ _ (β' (τ (σ i))) _
      rw [hτ]
      exact g2 i ob2 hi
    · obtain ⟨i, ob2, rfl, hi, rfl⟩ := lk_ren' hσ hl
      rw [isBox_ren] at hb
      rw [lk_ren hσ, Option.isSome_map] at hs
      show β' (τ (σ i)) = β (σ i)
      rw [hτ]
      exact g6 i ob2 hi hb hs
    · rw [rel_ren, hβ, hfe]; exact g7
def swp (a b i : Nat) : Nat := bif Nat.beq i a then b else bif Nat.beq i b then a else i
theorem beqNe {a b : Nat} (h : ¬a = b) : Nat.beq a b = false := by rw [← Bool.not_eq_true]; simpa using h
theorem swp_swp (a b i : Nat) : swp a b (swp a b i) = i := by
  unfold swp
  by_cases h1 : i = a
  · subst h1
    rw [Nat.beq_refl, cond_true]
    by_cases h2 : b = i
    · subst h2; rw [Nat.beq_refl, cond_true]
    · rw [beqNe h2, cond_false, Nat.beq_refl, cond_true]
  · rw [beqNe h1, cond_false]
    by_cases h2 : i = b
    · subst h2; rw [Nat.beq_refl, cond_true, Nat.beq_refl, cond_true]
    · rw [beqNe h2, cond_false, beqNe h1, cond_false, beqNe h2, cond_false]
open Pl (Vl)
theorem divisor_P (x : InsE) (l : List Vl) (hl : 2 ≤ l.length) : ASpec Try.prog 56 [eS x, eL l] (.i .i64 (Pl.divisor x.op x.t (l.getD 0 Enc.d) (l.getD 1 Enc.d))) [] := by
  refine ASpec.enter TYok mixed Try.func56 rfl Try.call56 Try.ntmps56 rfl (rs := [.tmp 4]) rfl (nodupB_ok rfl) (Clo.one rfl) (keep := [0, 1, 2, 4, 5, 6, 7]) ?_; conv => whnf
  repeat' first | (refine iF (fun hb => ?_) (fun hb => ?_) <;> (try simp only [pickB_or, pickB_and] at hb) <;> (have hc := hb; try simp only [sB, Int.reduceToNat] at hc; try simp only [addZ0] at hc) <;> first | (exfalso; omega) | conv => whnf) | ((first | refine ⟨_, wr64 ti ti, ?_⟩ | refine And.intro si ?_ | refine And.intro ⟨rfl, fun _ _ => rfl⟩ ?_ | refine And.intro (⟨⟨rfl, rfl⟩, by omega⟩ : (_ = _ ∧ _ = _) ∧ _) ?_ | refine And.intro (⟨rfl, by omega⟩ : _ = _ ∧ _) ?_ | refine LitW.frz ?_ | refine PreW.own ?_ | refine AppW.mv ?_ | refine TakW.tree ?_ | refine dE ?_ | refine dD ?_ | refine dF ?_ | refine d0 ?_ | refine d1 ?_ | refine dL ?_ | refine dP ?_ | refine And.intro tgi ?_ | refine ⟨_, shl1 (by omega), ?_⟩ | refine ⟨_, wru64 ti ti, ?_⟩ | refine ⟨_, fun _ => (IntKind.wrap_u64 _).symm, ?_⟩); conv => whnf) | ((first | refine cK (fun _ => Mask_P _) ?_ | ((try (refine CallW.lent ?_; (conv => whnf); repeat (refine And.intro si ?_; (conv => whnf)))); refine cL (fun _ => Mask_P _) ?_)); conv => whnf) | (refine CallV.ret ?_; conv => whnf) | exact ⟨_, .keep rfl rfl⟩ | fail
  all_goals exact ⟨_, .keep (congrArg (AV.i .i64) (by unfold Pl.divisor; simp only [Bool.cond_eq_ite, bne_iff_ne, ne_eq, beq_iff_eq, Bool.or_eq_true, Bool.and_eq_true, decide_eq_true_eq, Bool.not_eq_true', decide_eq_false_iff_not]; (repeat' split) <;> first | rfl | (exfalso; omega) | contradiction | (simp_all; done))) rfl⟩
theorem norm_rng (t : Int) (v : Vl) (hv : 0 ≤ v.b) (hv' : v.b < 18446744073709551616) : 0 ≤ (Pl.norm t v).b ∧ (Pl.norm t v).b < 18446744073709551616 := by
  unfold Pl.norm
  have h2 : (0 : Int) < 2 ^ t.toNat := Int.pow_pos (by decide)
  have h3 := Int.emod_nonneg v.b (show (2 : Int) ^ t.toNat ≠ 0 by omega)
  have h4 := Int.emod_add_mul_ediv v.b (2 ^ t.toNat)
  have h5 := Int.mul_nonneg (show (0 : Int) ≤ 2 ^ t.toNat by omega) (Int.ediv_nonneg hv (show (0 : Int) ≤ 2 ^ t.toNat by omega))
  (repeat' split) <;> first | (simp only; omega) | (simp only [Vl.zero]; omega)
theorem vl_dec {x y : Vl} : decide (x = y) = (decide (x.k = y.k) && (decide (x.b = y.b) && (decide (x.bl = y.bl) && decide (x.off = y.off)))) := by
  rw [Bool.eq_iff_iff]
  simp only [Bool.and_eq_true, decide_eq_true_eq]
  exact ⟨fun h => by subst h; simp, fun h => vl_ext h⟩
theorem clear_P (x : InsE) (l : List Vl) (h1 : 1 ≤ l.length) (h2 : x.op = 29 ∨ x.op < 20 → 2 ≤ l.length) (hr : ∀ i, 0 ≤ (l.getD i Enc.d).b ∧ (l.getD i Enc.d).b < 18446744073709551616) (hf : inI x.f) :
    ASpecM Try.prog 60 [eS x, .orow 1001 4 0 l.length] [(1001, oL l)] (.tup [eS (Pl.clear x.op x.t x.n x.f (l.getD 0 Enc.d) (l.getD 1 Enc.d)).1, .i .i64 (Pl.clear x.op x.t x.n x.f (l.getD 0 Enc.d) (l.getD 1 Enc.d)).2]) [] := by
  have r0 := hr 0
  have r1 := hr 1
  have key : ∀ {y : Vl} {e : Int}, Pl.clear x.op x.t x.n x.f (l.getD 0 Enc.d) (l.getD 1 Enc.d) = (y, e) → AV.tup [eS y, .i .i64 e] = .tup [eS (Pl.clear x.op x.t x.n x.f (l.getD 0 Enc.d) (l.getD 1 Enc.d)).1, .i .i64 (Pl.clear x.op x.t x.n x.f (l.getD 0 Enc.d) (l.getD 1 Enc.d)).2] := fun h => by rw [h]
  refine ASpecM.enter TYok mixed Try.func60 rfl Try.call60 Try.ntmps60 rfl (rs := [.cell 4 70, .tmp 5]) rfl (Clo.one rfl) rfl (keep := [0, 1, 2, 4, 5, 6, 8, 9, 84]) fun pin => ?_; conv => whnf
  repeat' first | (refine iF (fun hb => ?_) (fun hb => ?_) <;> (try simp only [pickB_or, pickB_and] at hb) <;> (have hc := hb; try simp only [sB, Int.reduceToNat] at hc; try simp only [addZ0] at hc) <;> first | (exfalso; omega) | conv => whnf) | ((first | refine ⟨_, wr64 ti ti, ?_⟩ | refine And.intro si ?_ | refine LitW.frz ?_ | refine PreW.frz ?_ | refine AppW.cp ?_ | refine TakW.row ?_ | refine dD ?_ | refine dF ?_ | refine d0 ?_ | refine d1 ?_ | refine dL ?_ | refine dP ?_ | refine And.intro tgi ?_ | refine ⟨_, shl1 (by omega), ?_⟩ | refine ⟨_, fun _ => rfl, ?_⟩); conv => whnf) | ((first | refine cK (fun _ => Convert_P _ _ _ _ (hr _).1 (hr _).2) ?_ | ((try (refine CallW.lent ?_; (conv => whnf); repeat (refine And.intro si ?_; (conv => whnf)))); refine cL (fun _ => Convert_P _ _ _ _ (hr _).1 (hr _).2) ?_)); conv => whnf) | ((first | refine cK (fun _ => number_P _) ?_ | ((try (refine CallW.lent ?_; (conv => whnf); repeat (refine And.intro si ?_; (conv => whnf)))); refine cL (fun _ => number_P _) ?_)); conv => whnf) | ((first | refine cK (fun _ => Apply_P _ _ _ _ _ (hr _).1 (hr _).2 (hr _).1 (hr _).2 hf) ?_ | ((try (refine CallW.lent ?_; (conv => whnf); repeat (refine And.intro si ?_; (conv => whnf)))); refine cL (fun _ => Apply_P _ _ _ _ _ (hr _).1 (hr _).2 (hr _).1 (hr _).2 hf) ?_)); conv => whnf) | (refine CallV.ret ?_; conv => whnf) | exact ⟨_, .keep rfl rfl⟩ | fail
  · rw [← key (y := ⟨(l.getD 0 Enc.d).k, (l.getD 0 Enc.d).b, (l.getD 0 Enc.d).bl, IntKind.i64.wrap ((l.getD 0 Enc.d).off + IntKind.i64.wrap (l.getD 1 Enc.d).b)⟩) (e := 0) (by unfold Pl.clear; simp only [Bool.cond_eq_ite, bne_iff_ne, ne_eq, beq_iff_eq, Bool.or_eq_true, Bool.and_eq_true, decide_eq_true_eq, Bool.not_eq_true', decide_eq_false_iff_not]; (repeat' split) <;> first | rfl | (exfalso; omega) | contradiction | (simp_all; done))]
    refine ⟨[], [], ?_, ?_, rfl⟩ <;> repeat' first | exact eN | refine And.intro ?_ ?_
  · rw [← key (y := Pl.number (Pl.conv x.op x.n x.t (l.getD 0 Enc.d).b).1) (e := 0) (by unfold Pl.clear; simp only [Bool.cond_eq_ite, bne_iff_ne, ne_eq, beq_iff_eq, Bool.or_eq_true, Bool.and_eq_true, decide_eq_true_eq, Bool.not_eq_true', decide_eq_false_iff_not]; (repeat' split) <;> first | rfl | (exfalso; omega) | contradiction | (simp_all; done))]
    refine ⟨[], [], ?_, ?_, rfl⟩ <;> repeat' first | exact eN | refine And.intro ?_ ?_
  · have e : (decide (l.getD 0 Enc.d = l.getD 1 Enc.d) == (x.op == 14)) = true := by rw [vl_dec, beq_iff_eq]; exact hc
    rw [← key (y := Pl.number 1) (e := 0) (by unfold Pl.clear; rw [e, cond_true]; simp only [Bool.cond_eq_ite, bne_iff_ne, ne_eq, beq_iff_eq, Bool.or_eq_true, Bool.and_eq_true, decide_eq_true_eq, Bool.not_eq_true', decide_eq_false_iff_not]; (repeat' split) <;> first | rfl | (exfalso; omega) | contradiction | (simp_all; done))]
    refine ⟨[], [], ?_, ?_, rfl⟩ <;> repeat' first | exact eN | refine And.intro ?_ ?_
  · have e : (decide (l.getD 0 Enc.d = l.getD 1 Enc.d) == (x.op == 14)) = false := by rw [vl_dec, beq_eq_false_iff_ne]; exact hc
    rw [← key (y := Pl.number 0) (e := 0) (by unfold Pl.clear; rw [e, cond_false]; simp only [Bool.cond_eq_ite, bne_iff_ne, ne_eq, beq_iff_eq, Bool.or_eq_true, Bool.and_eq_true, decide_eq_true_eq, Bool.not_eq_true', decide_eq_false_iff_not]; (repeat' split) <;> first | rfl | (exfalso; omega) | contradiction | (simp_all; done))]
    refine ⟨[], [], ?_, ?_, rfl⟩ <;> repeat' first | exact eN | refine And.intro ?_ ?_
  · rw [← key (y := Pl.number (Pl.apply x.op x.t x.f (l.getD 0 Enc.d).b (l.getD 1 Enc.d).b).1) (e := 0) (by unfold Pl.clear; simp only [Bool.cond_eq_ite, bne_iff_ne, ne_eq, beq_iff_eq, Bool.or_eq_true, Bool.and_eq_true, decide_eq_true_eq, Bool.not_eq_true', decide_eq_false_iff_not]; (repeat' split) <;> first | rfl | (exfalso; omega) | contradiction | (simp_all; done))]
    refine ⟨[], [], ?_, ?_, rfl⟩ <;> repeat' first | exact eN | refine And.intro ?_ ?_
  · rw [← key (y := ⟨0, 0, 0, 0⟩) (e := 0) (by unfold Pl.clear; simp only [Bool.cond_eq_ite, bne_iff_ne, ne_eq, beq_iff_eq, Bool.or_eq_true, Bool.and_eq_true, decide_eq_true_eq, Bool.not_eq_true', decide_eq_false_iff_not]; (repeat' split) <;> first | rfl | (exfalso; omega) | contradiction | (simp_all; done))]
    refine ⟨[], [], ?_, ?_, rfl⟩ <;> repeat' first | exact eN | refine And.intro ?_ ?_
  · rw [← key (y := ⟨0, 0, 0, 0⟩) (e := (Pl.apply x.op x.t x.f (l.getD 0 Enc.d).b (l.getD 1 Enc.d).b).2) (by unfold Pl.clear; simp only [Bool.cond_eq_ite, bne_iff_ne, ne_eq, beq_iff_eq, Bool.or_eq_true, Bool.and_eq_true, decide_eq_true_eq, Bool.not_eq_true', decide_eq_false_iff_not]; (repeat' split) <;> first | rfl | (exfalso; omega) | contradiction | (simp_all; done))]
    refine ⟨[], [], ?_, ?_, rfl⟩ <;> repeat' first | exact eN | refine And.intro ?_ ?_
mutual
def wk : AV → AV → Prop
  | .i k z, .i k' z' => k = k' ∧ z = z'
  | .b t, .b t' => t = t'
  | .s x, .s x' => x = x'
  | .v x, .v x' => x = x'
  | .nil, .nil => True
  | .nil, .row none _ n _ => n = 0
  | .row nz e n g, .row none e' n' g' => e = e' ∧ n = n' ∧ ∀ i, i < n' → wks (g i) (g' i)
  | .agg cs, .agg cs' => wks cs cs'
  | .tup cs, .tup cs' => wks cs cs'
  | .any, .any => True
  | _, _ => False
def wks : List AV → List AV → Prop
  | [], [] => True
  | x :: xs, y :: ys => wk x y ∧ wks xs ys
  | _, _ => False
end
mutual
theorem wk_ok {S : Nat → Prop} {β : Nat → Wt} {w : World} : ∀ (x y : AV) (u : Value), wk x y → rel S β w x u → rel S β w y u
  | .i k z, y, u, h, hr => by
    cases y <;> simp only [wk] at h <;> try exact h.elim
    obtain ⟨rfl, rfl⟩ := h; exact hr
  | .b t, y, u, h, hr => by
    cases y <;> simp only [wk] at h <;> try exact h.elim
    subst h; exact hr
  | .s t, y, u, h, hr => by
    cases y <;> simp only [wk] at h <;> try exact h.elim
    subst h; exact hr
  | .v t, y, u, h, hr => by
    cases y <;> simp only [wk] at h <;> try exact h.elim
    subst h; exact hr
  | .nil, y, u, h, hr => by
    unfold rel at hr
    subst hr
    cases y with
    | nil => rfl
    | row nz e n g =>
      cases nz with
      | none =>
        simp only [wk] at h
        subst h
        exact ⟨none, 0, fun _ => [], rfl, (fun z hz => by cases hz), ⟨Nat.zero_le _, Nat.zero_le _⟩, fun i hi => by omega⟩
      | some b => simp only [wk] at h
    | _ => simp only [wk] at h
  | .row nz e n g, y, u, h, hr => by
    cases y with
    | row nz' e' n' g' =>
      cases nz' with
      | none =>
        simp only [wk] at h
        obtain ⟨rfl, rfl, hg⟩ := h
        unfold rel at hr ⊢
        obtain ⟨a, cap, us, h1, h2, h3, h4⟩ := hr
        exact ⟨a, cap, us, h1, (fun z hz => by cases hz), h3, fun i hi => ⟨(h4 i hi).1, (h4 i hi).2.1, wks_ok (g i) (g' i) (us i) (hg i hi) (h4 i hi).2.2⟩⟩
      | some b => simp only [wk] at h
    | _ => simp only [wk] at h
  | .agg cs, y, u, h, hr => by
    cases y with
    | agg cs' => simp only [wk] at h; obtain ⟨us, h1, h2⟩ := hr; exact ⟨us, h1, wks_ok cs cs' us h h2⟩
    | _ => simp only [wk] at h
  | .tup cs, y, u, h, hr => by
    cases y with
    | tup cs' => simp only [wk] at h; obtain ⟨us, h1, h2⟩ := hr; exact ⟨us, h1, wks_ok cs cs' us h h2⟩
    | _ => simp only [wk] at h
  | .any, y, u, h, hr => by
    cases y <;> simp only [wk] at h <;> try exact h.elim
    exact hr
  | .cp _, y, u, h, hr => by cases y <;> simp only [wk] at h
  | .op _ _, y, u, h, hr => by cases y <;> simp only [wk] at h
  | .orow _ _ _ _, y, u, h, hr => by cases y <;> simp only [wk] at h
  | .rp _ _ _ _, y, u, h, hr => by cases y <;> simp only [wk] at h
  | .pth _ _ _ _ _, y, u, h, hr => by cases y <;> simp only [wk] at h
  | .pp _ _ _ _ _, y, u, h, hr => by cases y <;> simp only [wk] at h
  | .clo _ _, y, u, h, hr => by cases y <;> simp only [wk] at h
  | .omap _, y, u, h, hr => by cases y <;> simp only [wk] at h
  | .ifc _ _, y, u, h, hr => by cases y <;> simp only [wk] at h
theorem wks_ok {S : Nat → Prop} {β : Nat → Wt} {w : World} : ∀ (x y : List AV) (u : List Value), wks x y → rels S β w x u → rels S β w y u
  | [], y, u, h, hr => by
    cases y with
    | nil => exact hr
    | cons => simp only [wks] at h
  | x :: xs, y, u, h, hr => by
    cases y with
    | nil => simp only [wks] at h
    | cons y ys =>
      simp only [wks] at h
      obtain ⟨u, us, h1, h2, h3⟩ := hr
      exact ⟨u, us, h1, wk_ok x y u h.1 h2, wks_ok xs ys us h.2 h3⟩
end
theorem ASpec.weak {P : Program} {f : FuncId} {vs args : List AV} {r : AV} {no : Os} (h : ASpec P f args r no) (hw : wks vs args) : ASpec P f vs r no :=
  ⟨h.1, h.2.1, fun S w us hr hv => h.2.2 S w us (wks_ok _ _ _ hw hr) hv⟩
theorem ASpec.gives {P : Program} {f : FuncId} {args : List AV} {v r : AV} {os o' no : Os} (h : ASpec P f args v os) (hg : Gives os v o' r no) (hclo : Clo r no) (hk : (no.map (·.1)).Nodup) : ASpec P f args r no := by
  refine ⟨h.1, hclo, fun S w us hr hv => (h.2.2 S w us hr hv).mono ?_⟩
  rintro e w' ⟨v0, β, rfl, hb, h1, h2, h3, h4, h5⟩
  obtain ⟨β1, g1, g2, g3⟩ := hg.2 _ β w' v0 ⟨h1, h3, h4, fun k hk => (h2 k hk).2⟩ h5
  obtain ⟨g4, g5⟩ := g3 (fun k => (S k ∨ w.heap.size ≤ k) ∧ k ∉ feet no β1) β1 (fun _ _ => rfl) (fun k _ hk => ⟨hk.1, fun hq => hk.2 (g2 k hq).1⟩) fun k q1 q2 q3 => ⟨.inr (h2 k q1).1, q3⟩
  exact ⟨v0, β1, rfl, hb, g5, fun k hk => h2 k (g2 k hk).1, g1, hk, g4⟩
theorem Clo.row0 {e n : Nat} {g : Nat → List AV} (h : ∀ id, men id (.row none e n g) = false) : Clo (.row none e n g) [] := ⟨fun id hm => (by rw [h] at hm; cases hm), fun i ob hl => (by simp [lk] at hl)⟩
theorem Clo.tree {d e off n e' n' : Nat} {g : Nat → List AV} : Clo (.orow d e off n) [(d, .tree e' n' g)] := by
  refine ⟨fun id hm => ?_, fun i ob h id hm => ?_⟩
  · simp only [men] at hm; have := Nat.eq_of_beq_eq_true hm; subst this; rw [lk_cons, if_pos rfl]; rfl
  · rw [lk_cons] at h
    split at h
    · cases h; cases hm
    · simp [lk] at h
mutual
theorem teq_refl : ∀ x : AV, teq x x
  | .row none e n g => by unfold teq; exact ⟨rfl, rfl, fun i _ => teqs_refl (g i)⟩
  | .row (some b) e n g => by unfold teq; rfl
  | .nil => by unfold teq; rfl
  | .i _ _ => by unfold teq; rfl
  | .b _ => by unfold teq; rfl
  | .s _ => by unfold teq; rfl
  | .v _ => by unfold teq; rfl
  | .agg _ => by unfold teq; rfl
  | .tup _ => by unfold teq; rfl
  | .cp _ => by unfold teq; rfl
  | .op _ _ => by unfold teq; rfl
  | .orow _ _ _ _ => by unfold teq; rfl
  | .rp _ _ _ _ => by unfold teq; rfl
  | .clo _ _ => by unfold teq; rfl
  | .omap _ => by unfold teq; rfl
  | .ifc _ _ => by unfold teq; rfl
  | .any => by unfold teq; rfl
  | .pth _ _ _ _ _ => by unfold teq; rfl
  | .pp _ _ _ _ _ => by unfold teq; rfl
theorem teqs_refl : ∀ x : List AV, teqs x x
  | [] => by unfold teqs; rfl
  | x :: xs => by unfold teqs; exact ⟨teq_refl x, teqs_refl xs⟩
end
theorem teqs_of {x y : List AV} (h : x = y) : teqs x y := h ▸ teqs_refl x
theorem leafs_cat {n : Nat} {f g : Nat → List AV} (h1 : ∀ i, leafs (f i) = true) (h2 : ∀ i, leafs (g i) = true) (i : Nat) : leafs (catF n f g i) = true := by
  unfold catF
  split
  · exact h1 _
  · exact h2 _
theorem leafs_lit1 {l : List AV} (h : leafs l = true) (i : Nat) : leafs (litF [l] i) = true := by
  exact h
theorem tree_snoc {α : Type} [Enc α] {g : Nat → List AV} {g' : Nat → List AV} {k t : Nat} {l l' : List α} {x : α} {cs : List AV} (hk : t = k → l' = l ++ [x]) (hc : cs = Enc.enc x) (hg : t = k → ∃ y, g k = [y]) (h1 : t = k → g' t = [eL l']) (h2 : t ≠ k → g' t = g t) :
    teqs (setG (updG [] g k 0 [.any]) k 0 [.row none (Enc.sz α) (l.length + 1) (catF l.length (offF 0 fun i => Enc.enc (l.getD i Enc.d)) (litF [cs]))] t) (g' t) := by
  by_cases e : t = k
  · subst e
    obtain ⟨y, hy⟩ := hg rfl
    rw [h1 rfl]
    have e1 : setG (updG [] g t 0 [.any]) t 0 [.row none (Enc.sz α) (l.length + 1) (catF l.length (offF 0 fun i => Enc.enc (l.getD i Enc.d)) (litF [cs]))] t = [.row none (Enc.sz α) (l.length + 1) (catF l.length (offF 0 fun i => Enc.enc (l.getD i Enc.d)) (litF [cs]))] := by
      simp only [setG, updG, if_true, hy]; rfl
    rw [e1]
    have hl := hk rfl
    unfold teqs
    refine ⟨?_, by unfold teqs; rfl⟩
    unfold eL teq
    exact ⟨rfl, snoc_len hl, fun i hi => teqs_of (snoc_get hl hc i hi)⟩
  · rw [h2 e]
    have e1 : setG (updG [] g k 0 [.any]) k 0 [.row none (Enc.sz α) (l.length + 1) (catF l.length (offF 0 fun i => Enc.enc (l.getD i Enc.d)) (litF [cs]))] t = g t := by
      simp only [setG, updG, if_neg e]
    rw [e1]
    exact teqs_refl _
theorem tree_put {α : Type} [Enc α] {g : Nat → List AV} {g' : Nat → List AV} {k t : Nat} {l : List α} (hg : t = k → ∃ y, g k = [y]) (h1 : t = k → g' t = [eL l]) (h2 : t ≠ k → teqs (g t) (g' t)) :
    teqs (setG g k 0 [.row none (Enc.sz α) l.length fun i => Enc.enc (l.getD i Enc.d)] t) (g' t) := by
  by_cases e : t = k
  · subst e
    obtain ⟨y, hy⟩ := hg rfl
    rw [h1 rfl]
    have e1 : setG g t 0 [.row none (Enc.sz α) l.length fun i => Enc.enc (l.getD i Enc.d)] t = [eL l] := by
      simp only [setG, if_true, hy]; rfl
    rw [e1]
    exact teqs_refl _
  · have e1 : setG g k 0 [.row none (Enc.sz α) l.length fun i => Enc.enc (l.getD i Enc.d)] t = g t := by
      simp only [setG, if_neg e]
    rw [e1]
    exact h2 e
theorem tree_putR {g : Nat → List AV} {g' : Nat → List AV} {k t e n : Nat} {gt : Nat → List AV} (hg : t = k → ∃ y, g k = [y]) (h1 : t = k → ∃ x, g' t = [x] ∧ teq (.row none e n gt) x) (h2 : t ≠ k → teqs (g t) (g' t)) :
    teqs (setG g k 0 [.row none e n gt] t) (g' t) := by
  by_cases q : t = k
  · subst q
    obtain ⟨y, hy⟩ := hg rfl
    obtain ⟨x, hx, ht⟩ := h1 rfl
    rw [hx]
    have e1 : setG g t 0 [.row none e n gt] t = [.row none e n gt] := by
      simp only [setG, if_true, hy]; rfl
    rw [e1]
    unfold teqs
    exact ⟨ht, by unfold teqs; rfl⟩
  · have e1 : setG g k 0 [.row none e n gt] t = g t := by
      simp only [setG, if_neg q]
    rw [e1]
    exact h2 q
theorem tree_setB {G G' : Nat → List AV} {a t j n : Nat} {v : Bool} {g g' : Nat → Bool} (hG : t = a → G a = [.row none 1 n fun i => [.b (g i)]]) (hG' : t = a → G' t = [.row none 1 n fun i => [.b (g' i)]]) (hg : t = a → ∀ i, i < n → g' i = if i = j then v else g i) (h2 : t ≠ a → G' t = G t) :
    teqs (updG ([] ++ [(a, 0)]) G j 0 [.b v] t) (G' t) := by
  by_cases q : t = a
  · subst q
    have e := hG rfl
    rw [hG' rfl]
    have e1 : updG ([] ++ [(t, 0)]) G j 0 [.b v] t = [.row none 1 n (setG (fun i => [.b (g i)]) j 0 [.b v])] := by
      simp only [List.nil_append, updG, setC, if_true, e, nthN, List.set]
    rw [e1]
    unfold teqs
    refine ⟨?_, by unfold teqs; rfl⟩
    unfold teq
    refine ⟨rfl, rfl, fun i hi => teqs_of ?_⟩
    have := hg rfl i hi
    unfold setG
    by_cases e : i = j
    · subst e; rw [if_pos rfl] at this ⊢; show [AV.b v] = [AV.b (g' i)]; rw [this]
    · rw [if_neg e] at this ⊢; show [AV.b (g i)] = [AV.b (g' i)]; rw [this]
  · rw [h2 q]
    have e1 : updG ([] ++ [(a, 0)]) G j 0 [.b v] t = G t := by
      simp only [List.nil_append, updG, setC, if_neg q]
    rw [e1]
    exact teqs_refl _
theorem Gives.wk {o : Os} {v r : AV} (h : wk v r) (hn : noOwn v = true) : Gives o v o r [] := by
  refine ⟨List.Sublist.refl _, fun S β w u ho hr => ⟨W0, List.nodup_nil, (fun k hk => by cases hk), fun S' β' _ hS _ => ⟨wk_ok _ _ _ h (rel_W0 (rel_mono ⟨Nat.le_refl _, fun k hk hs => ⟨hS k hk hs, rfl⟩⟩ _ _ (noOwn_rel hn hr))), fun id ob hl => by simp [lk] at hl⟩⟩⟩
theorem oL_frz {α : Type} [Enc α] {f : FuncId} {args : List AV} {d : Nat} {l : List α} (hid : ∀ id, men id (eL l) = false) (h : ASpec Try.prog f args (.orow d (Enc.sz α) 0 l.length) [(d, oL l)]) : ASpec Try.prog f args (eL l) [] :=
  h.gives (.freeze (N := l.length) (q := none) (e' := Enc.sz α) (g := fun i => Enc.enc (l.getD i Enc.d)) (by rw [lk_cons, if_pos rfl]; rfl) (by omega) rfl (fun i _ => rfl) rfl) (Clo.row0 hid) (by simp)
open Pl (Vl)
theorem row_len {ws : List Int} {xs : List Vl} (h : ws.length = xs.length) : (Pl.row ws xs).length = xs.length := Pl.row_length h
theorem row_at {ws : List Int} {xs : List Vl} {j : Nat} (h : ws.length = xs.length) (hj : j < xs.length) : (Pl.row ws xs)[j]? = some (Pl.norm (ws.getD j Enc.d) (xs.getD j Enc.d)) := by
  unfold Pl.row
  rw [List.getElem?_zipWith, List.getElem?_eq_getElem (by omega), List.getElem?_eq_getElem hj]
  simp [List.getD_eq_getElem?_getD, List.getElem?_eq_getElem hj, List.getElem?_eq_getElem (show j < ws.length by omega)]
theorem fill_zero {ws : List Int} {xs : List Vl} {i : Nat} : (Pl.fill ws xs 0).getD i Enc.d = Vl.zero := by
  have e : Pl.fill ws xs 0 = List.replicate xs.length Vl.zero := by unfold Pl.fill; simp
  rw [e, List.getD_eq_getElem?_getD, List.getElem?_replicate]
  split <;> rfl
theorem setF_self {g : Nat → List AV} {i : Nat} {xs : List AV} : setF g i xs i = xs := if_pos rfl
theorem wkX (x : InsE) : wk (eS x) (eS x) := ⟨⟨rfl, rfl⟩, ⟨rfl, rfl⟩, ⟨rfl, rfl⟩, ⟨rfl, rfl⟩, ⟨rfl, rfl⟩, ⟨rfl, rfl, fun i _ => ⟨⟨rfl, rfl⟩, ⟨rfl, rfl⟩, ⟨rfl, rfl⟩, trivial⟩⟩, ⟨rfl, rfl, fun i _ => ⟨⟨rfl, rfl⟩, trivial⟩⟩, trivial⟩
def madeF (x : InsE) (ws : List Int) (xs : List Vl) (j : Nat) : Vl × Int :=
  bif Pl.isDiv x.op && Pl.divisor x.op x.t ((Pl.fill ws xs j).getD 0 Enc.d) ((Pl.fill ws xs j).getD 1 Enc.d) != 0 then (Vl.zero, Pl.divisor x.op x.t ((Pl.fill ws xs j).getD 0 Enc.d) ((Pl.fill ws xs j).getD 1 Enc.d))
  else bif x.op == 24 then (bif Pl.has 0 ws xs j then (Pl.any, 0) else ((Pl.fill ws xs j).getD 0 Enc.d, 0))
  else bif x.op == 23 then (Pl.chosen ((Pl.fill ws xs j).getD 0 Enc.d) ((Pl.fill ws xs j).getD 1 Enc.d) ((Pl.fill ws xs j).getD 2 Enc.d), 0)
  else bif Pl.has 0 ws xs j then (Vl.zero, 0)
  else bif Pl.has 3 ws xs j then (Pl.loosely x.op x.t x.f ((Pl.fill ws xs j).getD 1 Enc.d), 0)
  else Pl.clear x.op x.t x.n x.f ((Pl.fill ws xs j).getD 0 Enc.d) ((Pl.fill ws xs j).getD 1 Enc.d)
theorem fill_all {ws : List Int} {xs : List Vl} {j : Nat} (h : ws.length = xs.length) (hj : xs.length ≤ j) : Pl.fill ws xs j = Pl.row ws xs ∧ ∀ q, Pl.has q ws xs j = (Pl.row ws xs).any (·.k == q) := by
  unfold Pl.fill Pl.has
  rw [List.take_of_length_le (by rw [row_len h]; exact hj)]
  refine ⟨?_, fun q => rfl⟩
  rw [show xs.length - j = 0 by omega]; simp
theorem made_eq {x : InsE} {ws : List Int} {xs : List Vl} {j : Nat} (h : ws.length = xs.length) (hj : xs.length ≤ j) : Pl.made x.op x.t x.n x.f (Pl.row ws xs) = madeF x ws xs j := by
  unfold madeF
  rw [(fill_all h hj).1, (fill_all h hj).2, (fill_all h hj).2]; rfl
theorem set_enc {l : List Vl} {j : Nat} {y : Vl} (hj : j < l.length) (i : Nat) : setF (fun i => Enc.enc (l.getD i Enc.d)) j (Enc.enc y) i = Enc.enc ((l.set j y).getD i Enc.d) := by
  unfold setF
  split
  · rename_i e; subst e
    rw [List.getD_eq_getElem?_getD, List.getElem?_set_self hj]; rfl
  · rename_i e
    show Enc.enc (l.getD i Enc.d) = _
    rw [List.getD_eq_getElem?_getD, List.getD_eq_getElem?_getD, List.getElem?_set_ne (fun h => e h.symm)]
theorem fill_rng {ws : List Int} {xs : List Vl} {j : Nat} (h : ws.length = xs.length) (hj : xs.length ≤ j) (hr : ∀ i, 0 ≤ (xs.getD i Enc.d).b ∧ (xs.getD i Enc.d).b < 18446744073709551616) (i : Nat) : 0 ≤ ((Pl.fill ws xs j).getD i Enc.d).b ∧ ((Pl.fill ws xs j).getD i Enc.d).b < 18446744073709551616 := by
  rw [(fill_all h hj).1]
  rcases Nat.lt_or_ge i xs.length with hi | hi
  · rw [List.getD_eq_getElem?_getD, row_at h hi]
    exact norm_rng _ _ (hr i).1 (hr i).2
  · rw [List.getD_eq_getElem?_getD, List.getElem?_eq_none (by rw [row_len h]; exact hi)]
    exact ⟨by decide, by decide⟩
theorem Eval_P (x : InsE) (xs : List Vl) (hn : xs.length < 4294967296) (hr : ∀ i, 0 ≤ (xs.getD i Enc.d).b ∧ (xs.getD i Enc.d).b < 18446744073709551616) (hf : inI x.f) :
    ASpec Try.prog 31 [eS x, eL xs] (.tup [eS (Pl.eval x.op x.t x.n x.f xs).1, .i .i64 (Pl.eval x.op x.t x.n x.f xs).2]) [] := by
  have key : ∀ {y : Vl} {e : Int}, Pl.eval x.op x.t x.n x.f xs = (y, e) → AV.tup [eS y, .i .i64 e] = .tup [eS (Pl.eval x.op x.t x.n x.f xs).1, .i .i64 (Pl.eval x.op x.t x.n x.f xs).2] := fun h => by rw [h]
  have hK := kinds_P x
  cases hk : Pl.kinds x.op x.t x.n x.f with
  | none =>
    rw [hk] at hK
    have e1 : Pl.eval x.op x.t x.n x.f xs = (⟨0, 0, 0, 0⟩, 3) := by unfold Pl.eval; rw [hk]; rfl
    refine ASpec.enter TYok mixed Try.func31 rfl Try.call31 Try.ntmps31 rfl (rs := [.cell 4 70, .tmp 5]) rfl (nodupB_ok rfl) (Clo.one rfl) (keep := [0, 1, 2, 4, 5, 6, 7, 8, 9, 10, 11, 12, 28, 29, 30]) ?_; conv => whnf
    repeat' first | (refine iF (fun hb => ?_) (fun hb => ?_) <;> (try simp only [pickB_or, pickB_and] at hb) <;> (have hc := hb; try simp only [sB, Int.reduceToNat] at hc; try simp only [addZ0] at hc) <;> first | (exfalso; omega) | conv => whnf) | ((first | refine ⟨_, wr64 ti ti, ?_⟩ | refine And.intro si ?_ | refine LitW.frz ?_ | refine PreW.frz ?_ | refine AppW.cp ?_ | refine TakW.row ?_ | refine dD ?_ | refine dF ?_ | refine d0 ?_ | refine d1 ?_ | refine dL ?_ | refine dP ?_ | refine And.intro tgi ?_ | refine ⟨_, shl1 (by omega), ?_⟩ | refine ⟨_, wru64 ti ti, ?_⟩ | refine ⟨_, fun _ => (IntKind.wrap_u64 _).symm, ?_⟩); conv => whnf) | ((first | refine cK (fun _ => hK) ?_ | ((try (refine CallW.lent ?_; (conv => whnf); repeat (refine And.intro si ?_; (conv => whnf)))); refine cL (fun _ => hK) ?_)); conv => whnf) | (refine CallV.ret ?_; conv => whnf) | exact ⟨_, .keep rfl rfl⟩ | fail
    · exact ⟨_, .keep (key e1) rfl⟩
    · simp at hb
  | some ws =>
    obtain ⟨e0, hne⟩ := kindsL_ne hk
    rw [hk, e0] at hK
    obtain ⟨hwl, hop1, hop2⟩ := Pl.kinds_len hk
    have hal := Pl.arity_le x.op
    have hU : ∀ p, (bif ws.length != xs.length then (Vl.zero, (3 : Int)) else Pl.made x.op x.t x.n x.f (Pl.row ws xs)) = p → Pl.eval x.op x.t x.n x.f xs = p := fun p h => by unfold Pl.eval; rw [hk]; exact h
    refine ASpec.enter TYok mixed Try.func31 rfl Try.call31 Try.ntmps31 rfl (rs := [.cell 4 70, .tmp 5]) rfl (nodupB_ok rfl) (Clo.one rfl) (keep := [0, 1, 2, 4, 5, 6, 7, 8, 9, 10, 11, 12, 28, 29, 30]) ?_; conv => whnf
    repeat' first | (refine iF (fun hb => ?_) (fun hb => ?_) <;> (try simp only [pickB_or, pickB_and] at hb) <;> (have hc := hb; try simp only [sB, Int.reduceToNat] at hc; try simp only [addZ0] at hc) <;> first | (exfalso; omega) | conv => whnf) | ((first | refine ⟨_, wr64 ti ti, ?_⟩ | refine And.intro si ?_ | refine LitW.frz ?_ | refine PreW.frz ?_ | refine AppW.cp ?_ | refine TakW.row ?_ | refine dD ?_ | refine dF ?_ | refine d0 ?_ | refine d1 ?_ | refine dL ?_ | refine dP ?_ | refine And.intro tgi ?_ | refine ⟨_, shl1 (by omega), ?_⟩ | refine ⟨_, wru64 ti ti, ?_⟩ | refine ⟨_, fun _ => (IntKind.wrap_u64 _).symm, ?_⟩); conv => whnf) | ((first | refine cK (fun _ => hK) ?_ | ((try (refine CallW.lent ?_; (conv => whnf); repeat (refine And.intro si ?_; (conv => whnf)))); refine cL (fun _ => hK) ?_)); conv => whnf) | (refine CallV.ret ?_; conv => whnf) | exact ⟨_, .keep rfl rfl⟩ | fail
    · exact ⟨_, .keep (key (y := ⟨0, 0, 0, 0⟩) (e := 3) (hU _ (by rw [show (ws.length != xs.length) = true by simp at hc ⊢; omega]; rfl))) rfl⟩
    have hl : ws.length = xs.length := by simp at hc; omega
    refine lp [30, 8, 9] (fun j : Nat => [.i .i64 j, .b (Pl.has 0 ws xs j), .b (Pl.has 3 ws xs j)]) (fun j => [(27, oL (Pl.fill ws xs j)), (2, bx x), (4, bx (Enc.d : Vl))]) (fun j => j ≤ xs.length) (fun j => xs.length - j) 0 (Nat.zero_le _) ?_ fun j hj => ?_
    · refine eP [] [] ?_ ?_ <;> repeat' first | exact eN | refine And.intro ?_ ?_
      · rw [Pl.fill_length hl (Nat.zero_le _)]; omega
      · intro i hi
        show _ = Enc.enc ((Pl.fill ws xs 0).getD i Enc.d)
        rw [fill_zero]; rfl
    conv => whnf
    have h1 := Pl.fill_length hl hj
    have har : (x.op ≤ 19 → xs.length = 2) ∧ (20 ≤ x.op ∧ x.op ≤ 22 → xs.length = 1) ∧ (x.op = 23 → xs.length = 3) ∧ (x.op = 24 → xs.length = 1) ∧ (x.op = 29 → xs.length = 2) := by
      unfold Pl.arity at hwl
      (repeat' split at hwl) <;> omega
    have hM : xs.length ≤ j → ∀ p, madeF x ws xs j = p → Pl.eval x.op x.t x.n x.f xs = p := fun h p hp => hU p (by rw [show (ws.length != xs.length) = false by simp [hl], cond_false, made_eq hl h]; exact hp)
    have hC : xs.length ≤ j → (x.op = 29 ∨ x.op < 20 → 2 ≤ xs.length) → ASpecM Try.prog 60 [eS x, .orow 27 4 0 (Pl.fill ws xs j).length] [(27, oL (Pl.fill ws xs j))] (.tup [eS (Pl.clear x.op x.t x.n x.f ((Pl.fill ws xs j).getD 0 Enc.d) ((Pl.fill ws xs j).getD 1 Enc.d)).1, .i .i64 (Pl.clear x.op x.t x.n x.f ((Pl.fill ws xs j).getD 0 Enc.d) ((Pl.fill ws xs j).getD 1 Enc.d)).2]) [] := fun h h' =>
      (clear_P x (Pl.fill ws xs j) (by omega) (by rw [h1]; exact h') (fill_rng hl h hr) hf).ren (swp 1001 27) (swp 1001 27) (swp_swp _ _)
    rw [h1] at hC
    have wkx : wk (eS x) (eS x) := wkX x
    have wkf : wk (.row none 4 xs.length fun i => Enc.enc ((Pl.fill ws xs j).getD i Enc.d)) (eL (Pl.fill ws xs j)) := ⟨rfl, h1.symm, fun i _ => ⟨⟨rfl, rfl⟩, ⟨rfl, rfl⟩, ⟨rfl, rfl⟩, ⟨rfl, rfl⟩, trivial⟩⟩
    repeat' first | (refine iF (fun hb => ?_) (fun hb => ?_) <;> (try simp only [pickB_or, pickB_and] at hb) <;> (have hc := hb; try simp only [sB, Int.reduceToNat] at hc; try simp only [addZ0] at hc) <;> first | (exfalso; omega) | conv => whnf) | ((first | refine ⟨_, wr64 ti ti, ?_⟩ | refine And.intro si ?_ | refine LitW.frz ?_ | refine PreW.frz ?_ | refine AppW.cp ?_ | refine TakW.row ?_ | refine dD ?_ | refine dF ?_ | refine d0 ?_ | refine d1 ?_ | refine dL ?_ | refine dP ?_ | refine And.intro tgi ?_ | refine ⟨_, shl1 (by omega), ?_⟩ | refine ⟨_, wru64 ti ti, ?_⟩ | refine ⟨_, fun _ => (IntKind.wrap_u64 _).symm, ?_⟩); conv => whnf) | ((first | refine cK (fun _ => Norm_P _ _ (hr _).1 (hr _).2) ?_ | ((try (refine CallW.lent ?_; (conv => whnf); repeat (refine And.intro si ?_; (conv => whnf)))); refine cL (fun _ => Norm_P _ _ (hr _).1 (hr _).2) ?_)); conv => whnf) | ((first | refine cK (fun _ => (divisor_P x (Pl.fill ws xs j) (by omega)).weak ⟨wkx, wkf, trivial⟩) ?_ | ((try (refine CallW.lent ?_; (conv => whnf); repeat (refine And.intro si ?_; (conv => whnf)))); refine cL (fun _ => (divisor_P x (Pl.fill ws xs j) (by omega)).weak ⟨wkx, wkf, trivial⟩) ?_)); conv => whnf) | ((first | refine cK (fun _ => anyone_P) ?_ | ((try (refine CallW.lent ?_; (conv => whnf); repeat (refine And.intro si ?_; (conv => whnf)))); refine cL (fun _ => anyone_P) ?_)); conv => whnf) | ((first | refine cK (fun _ => (chosen_P (Pl.fill ws xs j) (by omega)).weak ⟨wkf, trivial⟩) ?_ | ((try (refine CallW.lent ?_; (conv => whnf); repeat (refine And.intro si ?_; (conv => whnf)))); refine cL (fun _ => (chosen_P (Pl.fill ws xs j) (by omega)).weak ⟨wkf, trivial⟩) ?_)); conv => whnf) | ((first | refine cK (fun _ => (loosely_P x (Pl.fill ws xs j) (by omega)).weak ⟨wkx, wkf, trivial⟩) ?_ | ((try (refine CallW.lent ?_; (conv => whnf); repeat (refine And.intro si ?_; (conv => whnf)))); refine cL (fun _ => (loosely_P x (Pl.fill ws xs j) (by omega)).weak ⟨wkx, wkf, trivial⟩) ?_)); conv => whnf) | (refine CallV.ret ?_; conv => whnf) | exact ⟨_, .keep rfl rfl⟩ | fail
    · rw [setF_self]
      conv => whnf
      repeat' first | (refine iF (fun hb => ?_) (fun hb => ?_) <;> (try simp only [pickB_or, pickB_and] at hb) <;> (have hc := hb; try simp only [sB, Int.reduceToNat] at hc; try simp only [addZ0] at hc) <;> first | (exfalso; omega) | conv => whnf) | ((first | refine ⟨_, wr64 ti ti, ?_⟩ | refine And.intro si ?_ | refine LitW.frz ?_ | refine PreW.frz ?_ | refine AppW.cp ?_ | refine TakW.row ?_ | refine dD ?_ | refine dF ?_ | refine d0 ?_ | refine d1 ?_ | refine dL ?_ | refine dP ?_ | refine And.intro tgi ?_ | refine ⟨_, shl1 (by omega), ?_⟩ | refine ⟨_, wru64 ti ti, ?_⟩ | refine ⟨_, fun _ => (IntKind.wrap_u64 _).symm, ?_⟩); conv => whnf) | (refine CallV.ret ?_; conv => whnf) | exact ⟨_, .keep rfl rfl⟩ | fail
      rw [setF_self]
      conv => whnf
      repeat' first | (refine iF (fun hb => ?_) (fun hb => ?_) <;> (try simp only [pickB_or, pickB_and] at hb) <;> (have hc := hb; try simp only [sB, Int.reduceToNat] at hc; try simp only [addZ0] at hc) <;> first | (exfalso; omega) | conv => whnf) | ((first | refine ⟨_, wr64 ti ti, ?_⟩ | refine And.intro si ?_ | refine LitW.frz ?_ | refine PreW.frz ?_ | refine AppW.cp ?_ | refine TakW.row ?_ | refine dD ?_ | refine dF ?_ | refine d0 ?_ | refine d1 ?_ | refine dL ?_ | refine dP ?_ | refine And.intro tgi ?_ | refine ⟨_, shl1 (by omega), ?_⟩ | refine ⟨_, wru64 ti ti, ?_⟩ | refine ⟨_, fun _ => (IntKind.wrap_u64 _).symm, ?_⟩); conv => whnf) | (refine CallV.ret ?_; conv => whnf) | exact ⟨_, .keep rfl rfl⟩ | fail
      have hjl : j < xs.length := by omega
      have ha := row_at hl hjl
      refine .mk (j + 1) (by omega) (by omega) ?_
      refine eP [] [] ?_ ?_ <;> repeat' first | exact eN | refine And.intro ?_ ?_
      · show pickB _ _ _ _ _ = _
        rw [pickB_or, Pl.has_succ 0 ha]; rfl
      · show pickB _ _ _ _ _ = _
        rw [pickB_or, Pl.has_succ 3 ha]; rfl
      · exact h1.trans (Pl.fill_length hl hjl).symm
      · intro i hi
        show setF _ _ _ i = Enc.enc ((Pl.fill ws xs (j + 1)).getD i Enc.d)
        rw [← Pl.fill_succ hl ha, show addZ 0 ((j : Int)).toNat = j by simp [addZ]]
        exact set_enc (by omega) i
    · exact ⟨_, .keep (key (y := ⟨0, 0, 0, 0⟩) (e := Pl.divisor x.op x.t ((Pl.fill ws xs j).getD 0 Enc.d) ((Pl.fill ws xs j).getD 1 Enc.d)) (hM (by omega) _ (by unfold madeF Pl.isDiv; simp only [Bool.cond_eq_ite, bne_iff_ne, ne_eq, beq_iff_eq, Bool.or_eq_true, Bool.and_eq_true, decide_eq_true_eq, Bool.not_eq_true', decide_eq_false_iff_not]; (repeat' split) <;> first | rfl | (exfalso; omega) | contradiction | (simp_all; done)))) rfl⟩
    · exact ⟨_, .keep (key (y := ⟨0, 0, 0, 0⟩) (e := 0) (hM (by omega) _ (by unfold madeF Pl.isDiv; simp only [Bool.cond_eq_ite, bne_iff_ne, ne_eq, beq_iff_eq, Bool.or_eq_true, Bool.and_eq_true, decide_eq_true_eq, Bool.not_eq_true', decide_eq_false_iff_not]; (repeat' split) <;> first | rfl | (exfalso; omega) | contradiction | (simp_all; done)))) rfl⟩
    · exact ⟨_, .keep (key (y := Pl.loosely x.op x.t x.f ((Pl.fill ws xs j).getD 1 Enc.d)) (e := 0) (hM (by omega) _ (by unfold madeF Pl.isDiv; simp only [Bool.cond_eq_ite, bne_iff_ne, ne_eq, beq_iff_eq, Bool.or_eq_true, Bool.and_eq_true, decide_eq_true_eq, Bool.not_eq_true', decide_eq_false_iff_not]; (repeat' split) <;> first | rfl | (exfalso; omega) | contradiction | (simp_all; done)))) rfl⟩
    · repeat' first | (refine iF (fun hb => ?_) (fun hb => ?_) <;> (try simp only [pickB_or, pickB_and] at hb) <;> (have hc := hb; try simp only [sB, Int.reduceToNat] at hc; try simp only [addZ0] at hc) <;> first | (exfalso; omega) | conv => whnf) | ((first | refine ⟨_, wr64 ti ti, ?_⟩ | refine And.intro si ?_ | refine And.intro ⟨rfl, fun _ _ => rfl⟩ ?_ | refine And.intro (⟨⟨rfl, rfl⟩, by omega⟩ : (_ = _ ∧ _ = _) ∧ _) ?_ | refine And.intro (⟨rfl, by omega⟩ : _ = _ ∧ _) ?_ | refine LitW.frz ?_ | refine PreW.own ?_ | refine AppW.mv ?_ | refine TakW.tree ?_ | refine dE ?_ | refine dD ?_ | refine dF ?_ | refine d0 ?_ | refine d1 ?_ | refine dL ?_ | refine dP ?_ | refine And.intro tgi ?_ | refine ⟨_, shl1 (by omega), ?_⟩ | refine ⟨_, wru64 ti ti, ?_⟩ | refine ⟨_, fun _ => (IntKind.wrap_u64 _).symm, ?_⟩); conv => whnf) | (refine CallW.own ?_; (conv => whnf); refine cM (hC (by omega) (by omega)) ?_; conv => whnf) | (refine CallV.ret ?_; conv => whnf) | exact ⟨_, .keep rfl rfl⟩ | fail
      exact ⟨_, .keep (key (y := (Pl.clear x.op x.t x.n x.f ((Pl.fill ws xs j).getD 0 Enc.d) ((Pl.fill ws xs j).getD 1 Enc.d)).1) (e := (Pl.clear x.op x.t x.n x.f ((Pl.fill ws xs j).getD 0 Enc.d) ((Pl.fill ws xs j).getD 1 Enc.d)).2) (hM (by omega) _ (by unfold madeF Pl.isDiv; simp only [Bool.cond_eq_ite, bne_iff_ne, ne_eq, beq_iff_eq, Bool.or_eq_true, Bool.and_eq_true, decide_eq_true_eq, Bool.not_eq_true', decide_eq_false_iff_not]; (repeat' split) <;> first | rfl | (exfalso; omega) | contradiction | (simp_all; done)))) rfl⟩
    · exact ⟨_, .keep (key (y := Pl.any) (e := 0) (hM (by omega) _ (by unfold madeF Pl.isDiv; simp only [Bool.cond_eq_ite, bne_iff_ne, ne_eq, beq_iff_eq, Bool.or_eq_true, Bool.and_eq_true, decide_eq_true_eq, Bool.not_eq_true', decide_eq_false_iff_not]; (repeat' split) <;> first | rfl | (exfalso; omega) | contradiction | (simp_all; done)))) rfl⟩
    · exact ⟨_, .keep (key (y := ((Pl.fill ws xs j).getD 0 Enc.d)) (e := 0) (hM (by omega) _ (by unfold madeF Pl.isDiv; simp only [Bool.cond_eq_ite, bne_iff_ne, ne_eq, beq_iff_eq, Bool.or_eq_true, Bool.and_eq_true, decide_eq_true_eq, Bool.not_eq_true', decide_eq_false_iff_not]; (repeat' split) <;> first | rfl | (exfalso; omega) | contradiction | (simp_all; done)))) rfl⟩
    · exact ⟨_, .keep (key (y := Pl.chosen ((Pl.fill ws xs j).getD 0 Enc.d) ((Pl.fill ws xs j).getD 1 Enc.d) ((Pl.fill ws xs j).getD 2 Enc.d)) (e := 0) (hM (by omega) _ (by unfold madeF Pl.isDiv; simp only [Bool.cond_eq_ite, bne_iff_ne, ne_eq, beq_iff_eq, Bool.or_eq_true, Bool.and_eq_true, decide_eq_true_eq, Bool.not_eq_true', decide_eq_false_iff_not]; (repeat' split) <;> first | rfl | (exfalso; omega) | contradiction | (simp_all; done)))) rfl⟩
    · exact ⟨_, .keep (key (y := ⟨0, 0, 0, 0⟩) (e := 0) (hM (by omega) _ (by unfold madeF Pl.isDiv; simp only [Bool.cond_eq_ite, bne_iff_ne, ne_eq, beq_iff_eq, Bool.or_eq_true, Bool.and_eq_true, decide_eq_true_eq, Bool.not_eq_true', decide_eq_false_iff_not]; (repeat' split) <;> first | rfl | (exfalso; omega) | contradiction | (simp_all; done)))) rfl⟩
    · exact ⟨_, .keep (key (y := Pl.loosely x.op x.t x.f ((Pl.fill ws xs j).getD 1 Enc.d)) (e := 0) (hM (by omega) _ (by unfold madeF Pl.isDiv; simp only [Bool.cond_eq_ite, bne_iff_ne, ne_eq, beq_iff_eq, Bool.or_eq_true, Bool.and_eq_true, decide_eq_true_eq, Bool.not_eq_true', decide_eq_false_iff_not]; (repeat' split) <;> first | rfl | (exfalso; omega) | contradiction | (simp_all; done)))) rfl⟩
    · repeat' first | (refine iF (fun hb => ?_) (fun hb => ?_) <;> (try simp only [pickB_or, pickB_and] at hb) <;> (have hc := hb; try simp only [sB, Int.reduceToNat] at hc; try simp only [addZ0] at hc) <;> first | (exfalso; omega) | conv => whnf) | ((first | refine ⟨_, wr64 ti ti, ?_⟩ | refine And.intro si ?_ | refine And.intro ⟨rfl, fun _ _ => rfl⟩ ?_ | refine And.intro (⟨⟨rfl, rfl⟩, by omega⟩ : (_ = _ ∧ _ = _) ∧ _) ?_ | refine And.intro (⟨rfl, by omega⟩ : _ = _ ∧ _) ?_ | refine LitW.frz ?_ | refine PreW.own ?_ | refine AppW.mv ?_ | refine TakW.tree ?_ | refine dE ?_ | refine dD ?_ | refine dF ?_ | refine d0 ?_ | refine d1 ?_ | refine dL ?_ | refine dP ?_ | refine And.intro tgi ?_ | refine ⟨_, shl1 (by omega), ?_⟩ | refine ⟨_, wru64 ti ti, ?_⟩ | refine ⟨_, fun _ => (IntKind.wrap_u64 _).symm, ?_⟩); conv => whnf) | (refine CallW.own ?_; (conv => whnf); refine cM (hC (by omega) (by omega)) ?_; conv => whnf) | (refine CallV.ret ?_; conv => whnf) | exact ⟨_, .keep rfl rfl⟩ | fail
      exact ⟨_, .keep (key (y := (Pl.clear x.op x.t x.n x.f ((Pl.fill ws xs j).getD 0 Enc.d) ((Pl.fill ws xs j).getD 1 Enc.d)).1) (e := (Pl.clear x.op x.t x.n x.f ((Pl.fill ws xs j).getD 0 Enc.d) ((Pl.fill ws xs j).getD 1 Enc.d)).2) (hM (by omega) _ (by unfold madeF Pl.isDiv; simp only [Bool.cond_eq_ite, bne_iff_ne, ne_eq, beq_iff_eq, Bool.or_eq_true, Bool.and_eq_true, decide_eq_true_eq, Bool.not_eq_true', decide_eq_false_iff_not]; (repeat' split) <;> first | rfl | (exfalso; omega) | contradiction | (simp_all; done)))) rfl⟩
theorem find_take {α : Type} {p : α → Bool} (d : α) : ∀ {l : List α} {q : Nat}, q < l.length → (∀ i, i < q → p (l.getD i d) = false) → p (l.getD q d) = true → l.find? p = some (l.getD q d)
  | x :: l, 0, _, _, h => by simp at h ⊢; simp [h]
  | x :: l, q + 1, hq, hn, h => by
    rw [List.find?_cons, show p x = false from hn 0 (by omega)]
    exact find_take d (by simpa using hq) (fun i hi => hn (i + 1) (by omega)) h
theorem find_no {α : Type} {p : α → Bool} (d : α) {l : List α} (hn : ∀ i, i < l.length → p (l.getD i d) = false) : l.find? p = none := by
  rw [List.find?_eq_none]; intro x hx
  obtain ⟨i, h, rfl⟩ := List.getElem_of_mem hx
  have := hn i h
  rw [List.getD_eq_getElem?_getD, List.getElem?_eq_getElem h] at this
  simpa using this
theorem getD_map {α β : Type} (g : α → β) (l : List α) (i : Nat) (d : α) (e : β) (h : g d = e) : (l.map g).getD i e = g (l.getD i d) := by
  subst h; rw [List.getD_eq_getElem?_getD, List.getD_eq_getElem?_getD, List.getElem?_map]; cases l[i]? <;> rfl
def dfP (reg : Int) (p : InsE × Plc) : Bool := decide (p.1.reg = reg) && !decide (Result p.1 = 0)
def noP : InsE × Plc := (Enc.d, Enc.d)
def Def (f : FnE) (reg : Int) : Plc × Bool := match (Code f).find? (dfP reg) with
  | some p => (p.2, true)
  | none => (⟨0, 0, 0⟩, false)
theorem Code_siz (f : FnE) : (Code f).length ≤ siz f := by
  unfold Code
  rcases Nat.eq_zero_or_pos f.blocks.length with h | h
  · rw [h]; exact Nat.zero_le _
  · obtain ⟨n, hn⟩ : ∃ n, f.blocks.length = n + 1 := ⟨f.blocks.length - 1, by omega⟩
    rw [hn, codeTo_next]; exact codeTo_siz f n _ (by omega) (Nat.le_refl _)
theorem Def_S (f : FnE) (reg : Int) (hs : siz f < 4294967296) : ASpec Try.prog 70 [eS f, .i .i64 reg] (.tup [eS (Def f reg).1, .b (Def f reg).2]) [] := by
  have h1 := Code_siz f
  have h2 : ((Code f).map Prod.fst).length = (Code f).length := List.length_map _
  have h3 : ((Code f).map Prod.snd).length = (Code f).length := List.length_map _
  refine ASpec.enter TYok mixed Try.func70 rfl Try.call70 Try.ntmps70 rfl (rs := [.cell 4 45, .tmp 5]) rfl (nodupB_ok rfl) (Clo.one rfl) (keep := [0, 1, 2, 4, 5, 6, 7, 8]) ?_; conv => whnf
  repeat' first | (refine iF (fun hb => ?_) (fun hb => ?_) <;> (try simp only [pickB_or, pickB_and] at hb) <;> (have hc := hb; try simp only [sB, Int.reduceToNat] at hc; try simp only [addZ0] at hc) <;> first | (exfalso; omega) | conv => whnf) | ((first | refine ⟨_, wr64 ti ti, ?_⟩ | refine And.intro si ?_ | refine LitW.frz ?_ | refine PreW.frz ?_ | refine AppW.cp ?_ | refine TakW.row ?_ | refine dD ?_ | refine dF ?_ | refine d0 ?_ | refine d1 ?_ | refine dL ?_ | refine dP ?_ | refine And.intro tgi ?_ | refine ⟨_, shl1 (by omega), ?_⟩ | refine ⟨_, wru64 ti ti, ?_⟩ | refine ⟨_, fun _ => (IntKind.wrap_u64 _).symm, ?_⟩); conv => whnf) | ((first | refine cK (fun _ => Code_S 40 41 (by decide) f hs) ?_ | ((try (refine CallW.lent ?_; (conv => whnf); repeat (refine And.intro si ?_; (conv => whnf)))); refine cL (fun _ => Code_S 40 41 (by decide) f hs) ?_)); conv => whnf) | (refine CallV.ret ?_; conv => whnf) | exact ⟨_, .keep rfl rfl⟩ | fail
  refine lp [8] (fun q : Nat => [.i .i64 q]) (fun q => [(40, oL ((Code f).map Prod.fst)), (41, oL ((Code f).map Prod.snd)), (2, bx f), (4, bx (Enc.d : Plc))]) (fun q => q ≤ (Code f).length ∧ ∀ i, i < q → dfP reg ((Code f).getD i noP) = false) (fun q => (Code f).length - q) 0 ⟨by omega, fun i h => by omega⟩ ?_ fun q hq => ?_
  · refine eP [] [] ?_ ?_ <;> repeat' first | exact eN | refine And.intro ?_ ?_
  conv => whnf
  obtain ⟨hq, hv⟩ := hq
  have h4 := getD_map Prod.fst (Code f) q noP Enc.d rfl
  have h5 := getD_map Prod.snd (Code f) q noP Enc.d rfl
  repeat' first | (refine iF (fun hb => ?_) (fun hb => ?_) <;> (try simp only [pickB_or, pickB_and] at hb) <;> (have hc := hb; try simp only [sB, Int.reduceToNat] at hc; try simp only [addZ0] at hc) <;> first | (exfalso; omega) | conv => whnf) | ((first | refine ⟨_, wr64 ti ti, ?_⟩ | refine And.intro si ?_ | refine LitW.frz ?_ | refine PreW.frz ?_ | refine AppW.cp ?_ | refine TakW.row ?_ | refine dD ?_ | refine dF ?_ | refine d0 ?_ | refine d1 ?_ | refine dL ?_ | refine dP ?_ | refine And.intro tgi ?_ | refine ⟨_, shl1 (by omega), ?_⟩ | refine ⟨_, wru64 ti ti, ?_⟩ | refine ⟨_, fun _ => (IntKind.wrap_u64 _).symm, ?_⟩); conv => whnf) | ((first | refine cK (fun _ => Result_S _) ?_ | ((try (refine CallW.lent ?_; (conv => whnf); repeat (refine And.intro si ?_; (conv => whnf)))); refine cL (fun _ => Result_S _) ?_)); conv => whnf) | (refine CallV.ret ?_; conv => whnf) | exact ⟨_, .keep rfl rfl⟩ | fail
  · have e : Def f reg = (((Code f).getD q noP).2, true) := by
      unfold Def; rw [find_take noP (by omega) hv (by unfold dfP; rw [← h4]; exact hb)]
    exact ⟨_, .keep (by rw [e, ← h5]; rfl) rfl⟩
  · refine .mk (q + 1) ⟨by omega, all_step hv (by unfold dfP; rw [← h4]; exact hb)⟩ (by omega) ?_
    refine eP [] [] ?_ ?_ <;> repeat' first | exact eN | refine And.intro ?_ ?_
  · have e : Def f reg = (⟨0, 0, 0⟩, false) := by unfold Def; rw [find_no noP fun i hi => hv i (by omega)]
    exact ⟨_, .keep (by rw [e]; rfl) rfl⟩
def kindB (s : ByteArray) (i : Int) : Int := if (s.size : Int) ≤ i then 0 else if (97 ≤ byteAt s i ∧ byteAt s i ≤ 122) ∨ byteAt s i = 95 then 1 else if 48 ≤ byteAt s i ∧ byteAt s i ≤ 57 then 2 else 0
theorem kind_S (s : ByteArray) (i : Int) (hi : 0 ≤ i) : ASpec Try.prog 108 [.s s, .i .i64 i] (.i .i64 (kindB s i)) [] := by
  refine ASpec.enter TYok mixed Try.func108 rfl Try.call108 Try.ntmps108 rfl (rs := [.tmp 4]) rfl (nodupB_ok rfl) (Clo.one rfl) (keep := [0, 1, 4, 5]) ?_; conv => whnf
  repeat' first | (refine iF (fun hb => ?_) (fun hb => ?_) <;> (try simp only [pickB_or, pickB_and] at hb) <;> (have hc := hb; try simp only [sB, Int.reduceToNat] at hc; try simp only [addZ0] at hc) <;> first | (exfalso; omega) | conv => whnf) | ((first | refine ⟨_, wr64 ti ti, ?_⟩ | refine And.intro si ?_ | refine LitW.frz ?_ | refine PreW.frz ?_ | refine AppW.cp ?_ | refine TakW.row ?_ | refine dD ?_ | refine dF ?_ | refine d0 ?_ | refine d1 ?_ | refine dL ?_ | refine dP ?_ | refine And.intro tgi ?_ | refine ⟨_, shl1 (by omega), ?_⟩ | refine ⟨_, wru64 ti ti, ?_⟩ | refine ⟨_, fun _ => (IntKind.wrap_u64 _).symm, ?_⟩); conv => whnf) | (refine CallV.ret ?_; conv => whnf) | exact ⟨_, .keep rfl rfl⟩ | fail
  all_goals exact ⟨_, .keep (by (try simp only [pickB_or, pickB_and]); unfold kindB; repeat' (first | rfl | omega | split | (simp_all; done))) rfl⟩
def runN (p : Nat → Bool) : Nat → Nat → Nat
  | 0, _ => 0
  | f + 1, j => bif p j then runN p f (j + 1) + 1 else 0
theorem runN_eq {p : Nat → Bool} : ∀ {q f a : Nat}, q ≤ f → (∀ j, j < q → p (a + j) = true) → p (a + q) = false → runN p f a = q
  | 0, 0, a, _, _, _ => rfl
  | 0, f + 1, a, _, _, h => by rw [runN, show p a = false from h]; rfl
  | q + 1, f + 1, a, hf, hj, h => by
    rw [runN, show p a = true from hj 0 (by omega), cond_true, runN_eq (q := q) (by omega) (fun j h' => by rw [show a + 1 + j = a + (j + 1) by omega]; exact hj _ (by omega)) (by rw [show a + 1 + q = a + (q + 1) by omega]; exact h)]
def kp (s : ByteArray) (j : Nat) : Bool := !decide (kindB s j = 0)
def wordN (s : ByteArray) (i : Nat) : Nat := if kindB s i = 1 then runN (kp s) s.size (i + 1) + 1 else 0
theorem kind_lt {s : ByteArray} {i : Int} (h : kindB s i ≠ 0) : i < s.size := by
  unfold kindB at h; split at h
  · exact absurd rfl h
  · omega
theorem word_S (s : ByteArray) (i : Nat) (hi : i ≤ s.size) (hs : s.size < 4294967296) : ASpec Try.prog 92 [.s s, .i .i64 i] (.i .i64 (wordN s i)) [] := by
  refine ASpec.enter TYok mixed Try.func92 rfl Try.call92 Try.ntmps92 rfl (rs := [.tmp 4]) rfl (nodupB_ok rfl) (Clo.one rfl) (keep := [0, 1, 4, 5]) ?_; conv => whnf
  repeat' first | (refine iF (fun hb => ?_) (fun hb => ?_) <;> (try simp only [pickB_or, pickB_and] at hb) <;> (have hc := hb; try simp only [sB, Int.reduceToNat] at hc; try simp only [addZ0] at hc) <;> first | (exfalso; omega) | conv => whnf) | ((first | refine ⟨_, wr64 ti ti, ?_⟩ | refine And.intro si ?_ | refine LitW.frz ?_ | refine PreW.frz ?_ | refine AppW.cp ?_ | refine TakW.row ?_ | refine dD ?_ | refine dF ?_ | refine d0 ?_ | refine d1 ?_ | refine dL ?_ | refine dP ?_ | refine And.intro tgi ?_ | refine ⟨_, shl1 (by omega), ?_⟩ | refine ⟨_, wru64 ti ti, ?_⟩ | refine ⟨_, fun _ => (IntKind.wrap_u64 _).symm, ?_⟩); conv => whnf) | ((first | refine cK (fun _ => kind_S _ _ (by omega)) ?_ | ((try (refine CallW.lent ?_; (conv => whnf); repeat (refine And.intro si ?_; (conv => whnf)))); refine cL (fun _ => kind_S _ _ (by omega)) ?_)); conv => whnf) | (refine CallV.ret ?_; conv => whnf) | exact ⟨_, .keep rfl rfl⟩ | fail
  · exact ⟨_, .keep (by (try simp only [pickB_or, pickB_and]); unfold wordN; repeat' (first | rfl | omega | split | (simp_all; done))) rfl⟩
  have h0 := kind_lt (s := s) (i := i) (by omega)
  refine lp [5] (fun q : Nat => [.i .i64 (q + 1)]) (fun q => []) (fun q => i + 1 + q ≤ s.size ∧ ∀ j, j < q → kp s (i + 1 + j) = true) (fun q => s.size - q) 0 ⟨by omega, fun j h => by omega⟩ ?_ fun q hq => ?_
  · refine eP [] [] ?_ ?_ <;> repeat' first | exact eN | refine And.intro ?_ ?_
  conv => whnf
  obtain ⟨hq, hv⟩ := hq
  repeat' first | (refine iF (fun hb => ?_) (fun hb => ?_) <;> (try simp only [pickB_or, pickB_and] at hb) <;> (have hc := hb; try simp only [sB, Int.reduceToNat] at hc; try simp only [addZ0] at hc) <;> first | (exfalso; omega) | conv => whnf) | ((first | refine ⟨_, wr64 ti ti, ?_⟩ | refine And.intro si ?_ | refine LitW.frz ?_ | refine PreW.frz ?_ | refine AppW.cp ?_ | refine TakW.row ?_ | refine dD ?_ | refine dF ?_ | refine d0 ?_ | refine d1 ?_ | refine dL ?_ | refine dP ?_ | refine And.intro tgi ?_ | refine ⟨_, shl1 (by omega), ?_⟩ | refine ⟨_, wru64 ti ti, ?_⟩ | refine ⟨_, fun _ => (IntKind.wrap_u64 _).symm, ?_⟩); conv => whnf) | ((first | refine cK (fun _ => kind_S _ _ (by omega)) ?_ | ((try (refine CallW.lent ?_; (conv => whnf); repeat (refine And.intro si ?_; (conv => whnf)))); refine cL (fun _ => kind_S _ _ (by omega)) ?_)); conv => whnf) | (refine CallV.ret ?_; conv => whnf) | exact ⟨_, .keep rfl rfl⟩ | fail
  · have h1 := kind_lt hc
    refine .mk (q + 1) ⟨by omega, all_step hv ?_⟩ (by omega) ?_
    · have e : ((i + 1 + q : Nat) : Int) = i + (q + 1) := by omega
      unfold kp; rw [e]; exact hb
    · refine eP [] [] ?_ ?_ <;> repeat' first | exact eN | refine And.intro ?_ ?_
  · have e : ((i + 1 + q : Nat) : Int) = i + (q + 1) := by omega
    refine ⟨_, .keep (congrArg (AV.i _) ?_) rfl⟩
    rw [wordN, if_pos (by omega), runN_eq (q := q) (by omega) hv (by unfold kp; rw [e]; exact hb)]; rfl
def Word (s : ByteArray) : Bool := decide (0 < (s.size : Int)) && decide ((wordN s 0 : Int) = s.size)
theorem Word_S (s : ByteArray) (hs : s.size < 4294967296) : ASpec Try.prog 62 [.s s] (.b (Word s)) [] := by
  refine ASpec.enter TYok mixed Try.func62 rfl Try.call62 Try.ntmps62 rfl (rs := [.tmp 2]) rfl (nodupB_ok rfl) (Clo.one rfl) (keep := [0, 2]) ?_; conv => whnf
  repeat' first | (refine iF (fun hb => ?_) (fun hb => ?_) <;> (try simp only [pickB_or, pickB_and] at hb) <;> (have hc := hb; try simp only [sB, Int.reduceToNat] at hc; try simp only [addZ0] at hc) <;> first | (exfalso; omega) | conv => whnf) | ((first | refine ⟨_, wr64 ti ti, ?_⟩ | refine And.intro si ?_ | refine LitW.frz ?_ | refine PreW.frz ?_ | refine AppW.cp ?_ | refine TakW.row ?_ | refine dD ?_ | refine dF ?_ | refine d0 ?_ | refine d1 ?_ | refine dL ?_ | refine dP ?_ | refine And.intro tgi ?_ | refine ⟨_, shl1 (by omega), ?_⟩ | refine ⟨_, wru64 ti ti, ?_⟩ | refine ⟨_, fun _ => (IntKind.wrap_u64 _).symm, ?_⟩); conv => whnf) | ((first | refine cK (fun _ => word_S _ 0 (by omega) hs) ?_ | ((try (refine CallW.lent ?_; (conv => whnf); repeat (refine And.intro si ?_; (conv => whnf)))); refine cL (fun _ => word_S _ 0 (by omega) hs) ?_)); conv => whnf) | (refine CallV.ret ?_; conv => whnf) | exact ⟨_, .keep rfl rfl⟩ | fail
theorem irResult_S (x : InsE) : ASpec Try.prog 33 [eS x] (.i .i64 (Result x)) [] := by
  refine ASpec.enter TYok mixed Try.func33 rfl Try.call33 Try.ntmps33 rfl (rs := [.tmp 2]) rfl (nodupB_ok rfl) (Clo.one rfl) (keep := [0, 1, 2, 3]) ?_; conv => whnf
  repeat' first | (refine iF (fun hb => ?_) (fun hb => ?_) <;> (try simp only [pickB_or, pickB_and] at hb) <;> (have hc := hb; try simp only [sB, Int.reduceToNat] at hc; try simp only [addZ0] at hc) <;> first | (exfalso; omega) | conv => whnf) | ((first | refine ⟨_, wr64 ti ti, ?_⟩ | refine And.intro si ?_ | refine LitW.frz ?_ | refine PreW.frz ?_ | refine AppW.cp ?_ | refine TakW.row ?_ | refine dD ?_ | refine dF ?_ | refine d0 ?_ | refine d1 ?_ | refine dL ?_ | refine dP ?_ | refine And.intro tgi ?_ | refine ⟨_, shl1 (by omega), ?_⟩ | refine ⟨_, wru64 ti ti, ?_⟩ | refine ⟨_, fun _ => (IntKind.wrap_u64 _).symm, ?_⟩); conv => whnf) | (refine CallV.ret ?_; conv => whnf) | exact ⟨_, .keep rfl rfl⟩ | fail
  all_goals exact ⟨_, .keep (by (try simp only [pickB_or, pickB_and]); unfold Result; repeat' (first | rfl | omega | split | (simp_all; done))) rfl⟩
theorem mem_Code {f : FnE} {x : InsE × Plc} (h : x ∈ Code f) : ∃ b i : Nat, b < f.blocks.length ∧ i < (f.blocks.getD b Enc.d).code.length ∧ x = ((f.blocks.getD b Enc.d).code.getD i Enc.d, ⟨0, b, i⟩) := by
  simp only [Code, codeTo, pairs, List.range_zero, List.map_nil, List.append_nil, List.mem_flatMap, List.mem_map, List.mem_range] at h
  obtain ⟨b, hb, i, hi, rfl⟩ := h
  exact ⟨b, i, hb, hi, rfl⟩
theorem Def_mem {f : FnE} {reg : Int} (h : (Def f reg).2 = true) : ∃ b i : Nat, b < f.blocks.length ∧ i < (f.blocks.getD b Enc.d).code.length ∧ (Def f reg).1 = ⟨0, b, i⟩ := by
  unfold Def at h ⊢
  cases hq : (Code f).find? (dfP reg) with
  | none => rw [hq] at h; cases h
  | some p =>
    obtain ⟨b, i, hb, hi, rfl⟩ := mem_Code (List.mem_of_find?_eq_some hq)
    exact ⟨b, i, hb, hi, rfl⟩
structure FaultE where
  code : Int
  at' : Plc
  deriving DecidableEq
instance : Enc FaultE := ⟨fun x => [.i .i64 x.code, .i .i64 x.at'.f, .i .i64 x.at'.b, .i .i64 x.at'.i], 4, ⟨0, ⟨0, 0, 0⟩⟩⟩
theorem at_S (c f b i : Int) : ASpec Try.prog 61 [.i .i64 c, .i .i64 f, .i .i64 b, .i .i64 i] (eS (⟨c, ⟨f, b, i⟩⟩ : FaultE)) [] := by
  refine ASpec.enter TYok mixed Try.func61 rfl Try.call61 Try.ntmps61 rfl (rs := [.cell 8 55]) rfl (nodupB_ok rfl) (Clo.one rfl) (keep := [0, 1, 2, 3, 8]) ?_; conv => whnf
  repeat' first | (refine iF (fun hb => ?_) (fun hb => ?_) <;> (try simp only [pickB_or, pickB_and] at hb) <;> (have hc := hb; try simp only [sB, Int.reduceToNat] at hc; try simp only [addZ0] at hc) <;> first | (exfalso; omega) | conv => whnf) | ((first | refine ⟨_, wr64 ti ti, ?_⟩ | refine And.intro si ?_ | refine LitW.frz ?_ | refine PreW.frz ?_ | refine AppW.cp ?_ | refine TakW.row ?_ | refine dD ?_ | refine dF ?_ | refine d0 ?_ | refine d1 ?_ | refine dL ?_ | refine dP ?_ | refine And.intro tgi ?_ | refine ⟨_, shl1 (by omega), ?_⟩ | refine ⟨_, wru64 ti ti, ?_⟩ | refine ⟨_, fun _ => (IntKind.wrap_u64 _).symm, ?_⟩); conv => whnf) | (refine CallV.ret ?_; conv => whnf) | exact ⟨_, .keep rfl rfl⟩ | fail
theorem any_at {α : Type} {p : α → Bool} {l : List α} {q : Nat} (d : α) (hq : q < l.length) (h : p (l.getD q d) = true) : l.any p = true := by
  rw [List.getD_eq_getElem?_getD, List.getElem?_eq_getElem hq] at h
  exact List.any_eq_true.2 ⟨_, List.getElem_mem hq, h⟩
theorem any_no {α : Type} {p : α → Bool} {l : List α} (d : α) (h : ∀ i, i < l.length → p (l.getD i d) = false) : l.any p = false := by
  rw [← Bool.not_eq_true, List.any_eq_true]
  rintro ⟨x, hx, hp⟩
  obtain ⟨i, hi, rfl⟩ := List.getElem_of_mem hx
  have := h i hi
  rw [List.getD_eq_getElem?_getD, List.getElem?_eq_getElem hi] at this
  rw [show p l[i] = false from this] at hp; cases hp
def badP (most p : Int) : Bool := decide (p < 1) || decide (most < p)
def headF (name : ByteArray) (known : List ByteArray) (params : List Int) (ret most : Int) : Int :=
  if Word name = false then 4 else if (known.any fun k => decide (k = name)) = true then 5 else if 8 < params.length then 6 else if params.any (badP most) = true then 7 else if ret < 0 ∨ most < ret then 7 else 0
theorem head_S (name : ByteArray) (known : List ByteArray) (params : List Int) (ret most : Int) (h1 : name.size < 4294967296) (h2 : known.length < 4294967296) : ASpec Try.prog 63 [.s name, eL known, eL params, .i .i64 ret, .i .i64 most] (.i .i64 (headF name known params ret most)) [] := by
  refine ASpec.enter TYok mixed Try.func63 rfl Try.call63 Try.ntmps63 rfl (rs := [.tmp 10]) rfl (nodupB_ok rfl) (Clo.one rfl) (keep := [0, 1, 2, 3, 4, 10, 11, 12, 13]) ?_; conv => whnf
  repeat' first | (refine iF (fun hb => ?_) (fun hb => ?_) <;> (try simp only [pickB_or, pickB_and] at hb) <;> (have hc := hb; try simp only [sB, Int.reduceToNat] at hc; try simp only [addZ0] at hc) <;> first | (exfalso; omega) | conv => whnf) | ((first | refine ⟨_, wr64 ti ti, ?_⟩ | refine And.intro si ?_ | refine LitW.frz ?_ | refine PreW.frz ?_ | refine AppW.cp ?_ | refine TakW.row ?_ | refine dD ?_ | refine dF ?_ | refine d0 ?_ | refine d1 ?_ | refine dL ?_ | refine dP ?_ | refine And.intro tgi ?_ | refine ⟨_, shl1 (by omega), ?_⟩ | refine ⟨_, wru64 ti ti, ?_⟩ | refine ⟨_, fun _ => (IntKind.wrap_u64 _).symm, ?_⟩); conv => whnf) | ((first | refine cK (fun _ => Word_S _ h1) ?_ | ((try (refine CallW.lent ?_; (conv => whnf); repeat (refine And.intro si ?_; (conv => whnf)))); refine cL (fun _ => Word_S _ h1) ?_)); conv => whnf) | (refine CallV.ret ?_; conv => whnf) | exact ⟨_, .keep rfl rfl⟩ | fail
  · exact ⟨_, .keep (by (try simp only [pickB_or, pickB_and]); unfold headF; repeat' (first | rfl | omega | split | (simp_all; done))) rfl⟩
  have e1 := hc
  refine lp [12] (fun q : Nat => [.i .i64 q]) (fun q => []) (fun q => q ≤ known.length ∧ ∀ i, i < q → decide (known.getD i Enc.d = name) = false) (fun q => known.length - q) 0 ⟨by omega, fun i h => by omega⟩ ?_ fun q hq => ?_
  · refine eP [] [] ?_ ?_ <;> repeat' first | exact eN | refine And.intro ?_ ?_
  conv => whnf
  obtain ⟨hq, hv⟩ := hq
  repeat' first | (refine iF (fun hb => ?_) (fun hb => ?_) <;> (try simp only [pickB_or, pickB_and] at hb) <;> (have hc := hb; try simp only [sB, Int.reduceToNat] at hc; try simp only [addZ0] at hc) <;> first | (exfalso; omega) | conv => whnf) | ((first | refine ⟨_, wr64 ti ti, ?_⟩ | refine And.intro si ?_ | refine LitW.frz ?_ | refine PreW.frz ?_ | refine AppW.cp ?_ | refine TakW.row ?_ | refine dD ?_ | refine dF ?_ | refine d0 ?_ | refine d1 ?_ | refine dL ?_ | refine dP ?_ | refine And.intro tgi ?_ | refine ⟨_, shl1 (by omega), ?_⟩ | refine ⟨_, wru64 ti ti, ?_⟩ | refine ⟨_, fun _ => (IntKind.wrap_u64 _).symm, ?_⟩); conv => whnf) | (refine CallV.ret ?_; conv => whnf) | exact ⟨_, .keep rfl rfl⟩ | fail
  · have e2 : (known.any fun k => decide (k = name)) = true := any_at Enc.d (by omega) hb
    exact ⟨_, .keep (by rw [headF, if_neg (by rw [e1]; simp), if_pos e2]) rfl⟩
  · refine .mk (q + 1) ⟨by omega, all_step hv hb⟩ (by omega) ?_
    refine eP [] [] ?_ ?_ <;> repeat' first | exact eN | refine And.intro ?_ ?_
  · have e2 : (known.any fun k => decide (k = name)) = false := any_no Enc.d fun i hi => hv i (by omega)
    exact ⟨_, .keep (by rw [headF, if_neg (by rw [e1]; simp), if_neg (by rw [e2]; simp), if_pos (by omega)]) rfl⟩
  have e2 : (known.any fun k => decide (k = name)) = false := any_no Enc.d fun i hi => hv i (by omega)
  have e3 : ¬ 8 < params.length := by omega
  refine lp [13] (fun q : Nat => [.i .i64 q]) (fun q => []) (fun q => q ≤ params.length ∧ ∀ i, i < q → badP most (params.getD i Enc.d) = false) (fun q => params.length - q) 0 ⟨by omega, fun i h => by omega⟩ ?_ fun k hk => ?_
  · refine eP [] [] ?_ ?_ <;> repeat' first | exact eN | refine And.intro ?_ ?_
  conv => whnf
  obtain ⟨hk, hw⟩ := hk
  repeat' first | (refine iF (fun hb => ?_) (fun hb => ?_) <;> (try simp only [pickB_or, pickB_and] at hb) <;> (have hc := hb; try simp only [sB, Int.reduceToNat] at hc; try simp only [addZ0] at hc) <;> first | (exfalso; omega) | conv => whnf) | ((first | refine ⟨_, wr64 ti ti, ?_⟩ | refine And.intro si ?_ | refine LitW.frz ?_ | refine PreW.frz ?_ | refine AppW.cp ?_ | refine TakW.row ?_ | refine dD ?_ | refine dF ?_ | refine d0 ?_ | refine d1 ?_ | refine dL ?_ | refine dP ?_ | refine And.intro tgi ?_ | refine ⟨_, shl1 (by omega), ?_⟩ | refine ⟨_, wru64 ti ti, ?_⟩ | refine ⟨_, fun _ => (IntKind.wrap_u64 _).symm, ?_⟩); conv => whnf) | (refine CallV.ret ?_; conv => whnf) | exact ⟨_, .keep rfl rfl⟩ | fail
  · have e4 : params.any (badP most) = true := any_at Enc.d (by omega) hb
    exact ⟨_, .keep (by rw [headF, if_neg (by rw [e1]; simp), if_neg (by rw [e2]; simp), if_neg e3, if_pos e4]) rfl⟩
  · refine .mk (k + 1) ⟨by omega, all_step hw hb⟩ (by omega) ?_
    refine eP [] [] ?_ ?_ <;> repeat' first | exact eN | refine And.intro ?_ ?_
  all_goals have e4 : params.any (badP most) = false := any_no Enc.d fun i hi => hw i (by omega)
  · exact ⟨_, .keep (by rw [headF, if_neg (by rw [e1]; simp), if_neg (by rw [e2]; simp), if_neg e3, if_neg (by rw [e4]; simp), if_pos (by omega)]) rfl⟩
  · exact ⟨_, .keep (by rw [headF, if_neg (by rw [e1]; simp), if_neg (by rw [e2]; simp), if_neg e3, if_neg (by rw [e4]; simp), if_neg (by omega)]) rfl⟩
def firstC (c : Nat → Int) (n : Nat) : Option Nat := (List.range n).find? fun i => !decide (c i = 0)
theorem range_getD {n i : Nat} (h : i < n) : (List.range n).getD i 0 = i := by
  rw [List.getD_eq_getElem?_getD, List.getElem?_range h]; rfl
theorem firstC_at {c : Nat → Int} {n q : Nat} (hq : q < n) (hv : ∀ i, i < q → c i = 0) (h : c q ≠ 0) : firstC c n = some q := by
  unfold firstC
  rw [find_take 0 (q := q) (by simpa using hq) (fun i hi => by rw [range_getD (by omega), hv i hi]; rfl) (by rw [range_getD hq]; simp [h]), range_getD hq]
theorem firstC_no {c : Nat → Int} {n : Nat} (hv : ∀ i, i < n → c i = 0) : firstC c n = none := by
  unfold firstC
  exact find_no 0 fun i hi => by rw [List.length_range] at hi; rw [range_getD hi, hv i hi]; rfl
def varCode (m : ModE) (i : Nat) : Int :=
  let x := m.vars.getD i Enc.d
  if Word x.name = false then 4 else if ((m.vars.take i).any fun y => decide (y.name = x.name)) = true then 5 else if x.size < 1 ∨ 64 < x.size then 6 else 0
def extCode (m : ModE) (i : Nat) : Int :=
  let x := m.exts.getD i Enc.d
  headF x.name ((m.exts.take i).map (·.name)) x.params x.ret 64
def fnCode (m : ModE) (i : Nat) : Int :=
  let x := m.funcs.getD i Enc.d
  headF x.name (m.exts.map (·.name) ++ (m.funcs.take i).map (·.name)) x.params x.ret 65
def headsF (m : ModE) : FaultE :=
  if 8 < m.vars.length ∨ 8 < m.exts.length ∨ 8 < m.funcs.length then ⟨6, ⟨-1, 0, 0⟩⟩ else
  match firstC (varCode m) m.vars.length with
  | some i => ⟨varCode m i, ⟨-1, 0, 0⟩⟩
  | none => match firstC (extCode m) m.exts.length with
    | some i => ⟨extCode m i, ⟨-1, 0, 0⟩⟩
    | none => match firstC (fnCode m) m.funcs.length with
      | some i => ⟨fnCode m i, ⟨i, 0, 0⟩⟩
      | none => ⟨0, ⟨0, 0, 0⟩⟩
theorem headsF_var {m : ModE} {q : Nat} (k1 : ¬(8 < m.vars.length ∨ 8 < m.exts.length ∨ 8 < m.funcs.length)) (hq : q < m.vars.length) (hv : ∀ i, i < q → varCode m i = 0) (h : varCode m q ≠ 0) : headsF m = ⟨varCode m q, ⟨-1, 0, 0⟩⟩ := by
  rw [headsF, if_neg k1, firstC_at hq hv h]
theorem headsF_ext {m : ModE} {q : Nat} (k1 : ¬(8 < m.vars.length ∨ 8 < m.exts.length ∨ 8 < m.funcs.length)) (k2 : firstC (varCode m) m.vars.length = none) (hq : q < m.exts.length) (hv : ∀ i, i < q → extCode m i = 0) (h : extCode m q ≠ 0) : headsF m = ⟨extCode m q, ⟨-1, 0, 0⟩⟩ := by
  rw [headsF, if_neg k1, k2, firstC_at hq hv h]
theorem headsF_fn {m : ModE} {q : Nat} (k1 : ¬(8 < m.vars.length ∨ 8 < m.exts.length ∨ 8 < m.funcs.length)) (k2 : firstC (varCode m) m.vars.length = none) (k3 : firstC (extCode m) m.exts.length = none) (hq : q < m.funcs.length) (hv : ∀ i, i < q → fnCode m i = 0) (h : fnCode m q ≠ 0) : headsF m = ⟨fnCode m q, ⟨q, 0, 0⟩⟩ := by
  rw [headsF, if_neg k1, k2, k3, firstC_at hq hv h]
theorem take_any {α : Type} {p : α → Bool} {l : List α} {q k : Nat} (d : α) (hk : k < q) (hq : q ≤ l.length) (h : p (l.getD k d) = true) : (l.take q).any p = true := by
  refine any_at (q := k) d (by rw [List.length_take]; omega) ?_
  rwa [List.getD_eq_getElem?_getD, List.getElem?_take_of_lt hk, ← List.getD_eq_getElem?_getD]
theorem take_no {α : Type} {p : α → Bool} {l : List α} {q : Nat} (d : α) (h : ∀ k, k < q → p (l.getD k d) = false) : (l.take q).any p = false := by
  refine any_no d fun i hi => ?_
  rw [List.length_take] at hi
  rw [List.getD_eq_getElem?_getD, List.getElem?_take_of_lt (by omega), ← List.getD_eq_getElem?_getD]
  exact h i (by omega)
theorem heads_S (m : ModE) (hs : siz m < 4294967296) : ASpec Try.prog 34 [eS m] (eS (headsF m)) [] := by
  have h0 : siz m = siz m.vars + siz m.exts + siz m.funcs := rfl
  refine ASpec.enter TYok mixed Try.func34 rfl Try.call34 Try.ntmps34 rfl (rs := [.cell 2 55]) rfl (nodupB_ok rfl) (Clo.one rfl) (keep := [0, 1, 2, 3, 4, 5, 6, 7, 8, 9, 10, 11, 12]) ?_; conv => whnf
  repeat' first | (refine iF (fun hb => ?_) (fun hb => ?_) <;> (try simp only [pickB_or, pickB_and] at hb) <;> (have hc := hb; try simp only [sB, Int.reduceToNat] at hc; try simp only [addZ0] at hc) <;> first | (exfalso; omega) | conv => whnf) | ((first | refine ⟨_, wr64 ti ti, ?_⟩ | refine And.intro si ?_ | refine LitW.frz ?_ | refine PreW.frz ?_ | refine AppW.cp ?_ | refine TakW.row ?_ | refine dD ?_ | refine dF ?_ | refine d0 ?_ | refine d1 ?_ | refine dL ?_ | refine dP ?_ | refine And.intro tgi ?_ | refine ⟨_, shl1 (by omega), ?_⟩ | refine ⟨_, wru64 ti ti, ?_⟩ | refine ⟨_, fun _ => (IntKind.wrap_u64 _).symm, ?_⟩); conv => whnf) | ((first | refine cK (fun _ => at_S _ _ _ _) ?_ | ((try (refine CallW.lent ?_; (conv => whnf); repeat (refine And.intro si ?_; (conv => whnf)))); refine cL (fun _ => at_S _ _ _ _) ?_)); conv => whnf) | (refine CallV.ret ?_; conv => whnf) | exact ⟨_, .keep rfl rfl⟩ | fail
  · exact ⟨_, .keep (by rw [headsF, if_pos (by omega)]; rfl) rfl⟩
  have k1 : ¬(8 < m.vars.length ∨ 8 < m.exts.length ∨ 8 < m.funcs.length) := by omega
  refine lp [3] (fun q : Nat => [.i .i64 q]) (fun q => [(1, bx m), (2, bx (Enc.d : FaultE))]) (fun q => q ≤ m.vars.length ∧ ∀ i, i < q → varCode m i = 0) (fun q => m.vars.length - q) 0 ⟨by omega, fun i h => by omega⟩ ?_ fun q hq => ?_
  · refine eP [] [] ?_ ?_ <;> repeat' first | exact eN | refine And.intro ?_ ?_
  conv => whnf
  obtain ⟨hq, hv⟩ := hq
  have h1 : (m.vars.getD q Enc.d).name.size ≤ siz m.vars := siz_at m.vars q
  repeat' first | (refine iF (fun hb => ?_) (fun hb => ?_) <;> (try simp only [pickB_or, pickB_and] at hb) <;> (have hc := hb; try simp only [sB, Int.reduceToNat] at hc; try simp only [addZ0] at hc) <;> first | (exfalso; omega) | conv => whnf) | ((first | refine ⟨_, wr64 ti ti, ?_⟩ | refine And.intro si ?_ | refine LitW.frz ?_ | refine PreW.frz ?_ | refine AppW.cp ?_ | refine TakW.row ?_ | refine dD ?_ | refine dF ?_ | refine d0 ?_ | refine d1 ?_ | refine dL ?_ | refine dP ?_ | refine And.intro tgi ?_ | refine ⟨_, shl1 (by omega), ?_⟩ | refine ⟨_, wru64 ti ti, ?_⟩ | refine ⟨_, fun _ => (IntKind.wrap_u64 _).symm, ?_⟩); conv => whnf) | ((first | refine cK (fun _ => Word_S _ (by simp only [Int.toNat_natCast]; omega)) ?_ | ((try (refine CallW.lent ?_; (conv => whnf); repeat (refine And.intro si ?_; (conv => whnf)))); refine cL (fun _ => Word_S _ (by simp only [Int.toNat_natCast]; omega)) ?_)); conv => whnf) | ((first | refine cK (fun _ => at_S _ _ _ _) ?_ | ((try (refine CallW.lent ?_; (conv => whnf); repeat (refine And.intro si ?_; (conv => whnf)))); refine cL (fun _ => at_S _ _ _ _) ?_)); conv => whnf) | (refine CallV.ret ?_; conv => whnf) | exact ⟨_, .keep rfl rfl⟩ | fail
  · have e : varCode m q = 4 := by simp only [varCode]; rw [if_pos hc]
    exact ⟨_, .keep (by rw [headsF_var k1 (by omega) hv (by omega), e]; rfl) rfl⟩
  · have e1 := hc
    refine lp [5] (fun k : Nat => [.i .i64 k]) (fun k => [(1, bx m), (2, bx (Enc.d : FaultE))]) (fun k => k ≤ q ∧ ∀ i, i < k → decide ((m.vars.getD i Enc.d).name = (m.vars.getD q Enc.d).name) = false) (fun k => q - k) 0 ⟨by omega, fun i h => by omega⟩ ?_ fun k hk => ?_
    · refine eP [] [] ?_ ?_ <;> repeat' first | exact eN | refine And.intro ?_ ?_
    conv => whnf
    obtain ⟨hk, hw⟩ := hk
    repeat' first | (refine iF (fun hb => ?_) (fun hb => ?_) <;> (try simp only [pickB_or, pickB_and] at hb) <;> (have hc := hb; try simp only [sB, Int.reduceToNat] at hc; try simp only [addZ0] at hc) <;> first | (exfalso; omega) | conv => whnf) | ((first | refine ⟨_, wr64 ti ti, ?_⟩ | refine And.intro si ?_ | refine LitW.frz ?_ | refine PreW.frz ?_ | refine AppW.cp ?_ | refine TakW.row ?_ | refine dD ?_ | refine dF ?_ | refine d0 ?_ | refine d1 ?_ | refine dL ?_ | refine dP ?_ | refine And.intro tgi ?_ | refine ⟨_, shl1 (by omega), ?_⟩ | refine ⟨_, wru64 ti ti, ?_⟩ | refine ⟨_, fun _ => (IntKind.wrap_u64 _).symm, ?_⟩); conv => whnf) | ((first | refine cK (fun _ => at_S _ _ _ _) ?_ | ((try (refine CallW.lent ?_; (conv => whnf); repeat (refine And.intro si ?_; (conv => whnf)))); refine cL (fun _ => at_S _ _ _ _) ?_)); conv => whnf) | (refine CallV.ret ?_; conv => whnf) | exact ⟨_, .keep rfl rfl⟩ | fail
    · have e : varCode m q = 5 := by simp only [varCode]; rw [if_neg (by rw [e1]; simp), if_pos (take_any Enc.d (by omega) hq hb)]
      exact ⟨_, .keep (by rw [headsF_var k1 (by omega) hv (by omega), e]; rfl) rfl⟩
    · refine .mk (k + 1) ⟨by omega, all_step hw hb⟩ (by omega) ?_
      refine eP [] [] ?_ ?_ <;> repeat' first | exact eN | refine And.intro ?_ ?_
    · have e : varCode m q = 6 := by simp only [varCode]; rw [if_neg (by rw [e1]; simp), if_neg (by rw [take_no Enc.d fun i hi => hw i (by omega)]; simp), if_pos hc]
      exact ⟨_, .keep (by rw [headsF_var k1 (by omega) hv (by omega), e]; rfl) rfl⟩
    · have e : varCode m q = 0 := by simp only [varCode]; rw [if_neg (by rw [e1]; simp), if_neg (by rw [take_no Enc.d fun i hi => hw i (by omega)]; simp), if_neg (by omega)]
      refine .mk (q + 1) ⟨by omega, all_step hv e⟩ (by omega) ?_
      refine eP [] [] ?_ ?_ <;> repeat' first | exact eN | refine And.intro ?_ ?_
  have k2 : firstC (varCode m) m.vars.length = none := firstC_no fun i hi => hv i (by omega)
  have f1 : ∀ q, q ≤ m.exts.length → ((m.exts.take q).map (·.name)).length = q := fun q h => by rw [List.length_map, List.length_take]; omega
  have h2 := len_siz m.exts
  have h3 := len_siz m.funcs
  refine lp [7, 6] (fun q : Nat => [.i .i64 q, .orow 6 1 0 ((m.exts.take q).map (·.name)).length]) (fun q => [(6, oL ((m.exts.take q).map (·.name))), (1, bx m), (2, bx (Enc.d : FaultE))]) (fun q => q ≤ m.exts.length ∧ ∀ i, i < q → extCode m i = 0) (fun q => m.exts.length - q) 0 ⟨by omega, fun i h => by omega⟩ ?_ fun q hq => ?_
  · refine eP [] [6] ?_ ?_ <;> repeat' first | exact eN | refine And.intro ?_ ?_
  conv => whnf
  obtain ⟨hq, hx⟩ := hq
  have h4 : siz (m.exts.getD q Enc.d) ≤ siz m.exts := siz_at m.exts q
  have h5 : siz (m.exts.getD q Enc.d) = (m.exts.getD q Enc.d).name.size + siz (m.exts.getD q Enc.d).params := rfl
  have h6 := f1 q hq
  repeat' first | (refine iF (fun hb => ?_) (fun hb => ?_) <;> (try simp only [pickB_or, pickB_and] at hb) <;> (have hc := hb; try simp only [sB, Int.reduceToNat] at hc; try simp only [addZ0] at hc) <;> first | (exfalso; omega) | conv => whnf) | ((first | refine ⟨_, wr64 ti ti, ?_⟩ | refine And.intro si ?_ | refine LitW.frz ?_ | refine PreW.frz ?_ | refine AppW.cp ?_ | refine TakW.row ?_ | refine dD ?_ | refine dF ?_ | refine d0 ?_ | refine d1 ?_ | refine dL ?_ | refine dP ?_ | refine And.intro tgi ?_ | refine ⟨_, shl1 (by omega), ?_⟩ | refine ⟨_, wru64 ti ti, ?_⟩ | refine ⟨_, fun _ => (IntKind.wrap_u64 _).symm, ?_⟩); conv => whnf) | ((first | refine cK (fun _ => head_S _ ((m.exts.take q).map (·.name)) _ _ _ (by simp only [Int.toNat_natCast]; omega) (by omega)) ?_ | ((try (refine CallW.lent ?_; (conv => whnf); repeat (refine And.intro si ?_; (conv => whnf)))); refine cL (fun _ => head_S _ ((m.exts.take q).map (·.name)) _ _ _ (by simp only [Int.toNat_natCast]; omega) (by omega)) ?_)); conv => whnf) | ((first | refine cK (fun _ => at_S _ _ _ _) ?_ | ((try (refine CallW.lent ?_; (conv => whnf); repeat (refine And.intro si ?_; (conv => whnf)))); refine cL (fun _ => at_S _ _ _ _) ?_)); conv => whnf) | (refine CallV.ret ?_; conv => whnf) | exact ⟨_, .keep rfl rfl⟩ | fail
  · exact ⟨_, .keep (by rw [headsF_ext k1 k2 (by omega) hx hc]; rfl) rfl⟩
  · have e : (m.exts.take (q + 1)).map (·.name) = (m.exts.take q).map (·.name) ++ [(m.exts.getD q Enc.d).name] := by
      rw [List.take_add_one, List.map_append, List.getD_eq_getElem?_getD, List.getElem?_eq_getElem (by omega)]; rfl
    refine .mk (q + 1) ⟨by omega, all_step hx hc⟩ (by omega) ?_
    refine eP [(6, 111)] [] ?_ ?_ <;> repeat' first | exact eN | refine And.intro ?_ ?_ | exact snoc_len e | exact snoc_get e rfl | rw [e]
  have k3 : firstC (extCode m) m.exts.length = none := firstC_no fun i hi => hx i (by omega)
  obtain rfl : q = m.exts.length := by omega
  rw [List.take_length]
  let kn (q : Nat) : List ByteArray := m.exts.map (·.name) ++ (m.funcs.take q).map (·.name)
  have f2 : ∀ q, q ≤ m.funcs.length → (kn q).length = m.exts.length + q := fun q h => by
    simp only [kn]; rw [List.length_append, List.length_map, List.length_map, List.length_take]; omega
  have f3 : m.exts.map (·.name) = kn 0 := by simp [kn]
  rw [f3]
  refine lp [10, 6] (fun q : Nat => [.i .i64 q, .orow 6 1 0 (kn q).length]) (fun q => [(6, oL (kn q)), (1, bx m), (2, bx (Enc.d : FaultE))]) (fun q => q ≤ m.funcs.length ∧ ∀ i, i < q → fnCode m i = 0) (fun q => m.funcs.length - q) 0 ⟨by omega, fun i h => by omega⟩ ?_ fun q hq => ?_
  · refine eP [] [] ?_ ?_ <;> repeat' first | exact eN | refine And.intro ?_ ?_
  conv => whnf
  obtain ⟨hq, hy⟩ := hq
  have g4 : siz (m.funcs.getD q Enc.d) ≤ siz m.funcs := siz_at m.funcs q
  have g5 : siz (m.funcs.getD q Enc.d) = (m.funcs.getD q Enc.d).name.size + siz (m.funcs.getD q Enc.d).params + siz (m.funcs.getD q Enc.d).blocks := rfl
  have g6 := f2 q hq
  repeat' first | (refine iF (fun hb => ?_) (fun hb => ?_) <;> (try simp only [pickB_or, pickB_and] at hb) <;> (have hc := hb; try simp only [sB, Int.reduceToNat] at hc; try simp only [addZ0] at hc) <;> first | (exfalso; omega) | conv => whnf) | ((first | refine ⟨_, wr64 ti ti, ?_⟩ | refine And.intro si ?_ | refine LitW.frz ?_ | refine PreW.frz ?_ | refine AppW.cp ?_ | refine TakW.row ?_ | refine dD ?_ | refine dF ?_ | refine d0 ?_ | refine d1 ?_ | refine dL ?_ | refine dP ?_ | refine And.intro tgi ?_ | refine ⟨_, shl1 (by omega), ?_⟩ | refine ⟨_, wru64 ti ti, ?_⟩ | refine ⟨_, fun _ => (IntKind.wrap_u64 _).symm, ?_⟩); conv => whnf) | ((first | refine cK (fun _ => head_S _ (kn q) _ _ _ (by simp only [Int.toNat_natCast]; omega) (by omega)) ?_ | ((try (refine CallW.lent ?_; (conv => whnf); repeat (refine And.intro si ?_; (conv => whnf)))); refine cL (fun _ => head_S _ (kn q) _ _ _ (by simp only [Int.toNat_natCast]; omega) (by omega)) ?_)); conv => whnf) | ((first | refine cK (fun _ => at_S _ _ _ _) ?_ | ((try (refine CallW.lent ?_; (conv => whnf); repeat (refine And.intro si ?_; (conv => whnf)))); refine cL (fun _ => at_S _ _ _ _) ?_)); conv => whnf) | (refine CallV.ret ?_; conv => whnf) | exact ⟨_, .keep rfl rfl⟩ | fail
  · exact ⟨_, .keep (by rw [headsF_fn k1 k2 k3 (by omega) hy hc]; rfl) rfl⟩
  · have e : kn (q + 1) = kn q ++ [(m.funcs.getD q Enc.d).name] := by
      simp only [kn]; rw [List.take_add_one, List.map_append, List.getD_eq_getElem?_getD, List.getElem?_eq_getElem (by omega), List.append_assoc]; rfl
    refine .mk (q + 1) ⟨by omega, all_step hy hc⟩ (by omega) ?_
    refine eP [(6, 141)] [] ?_ ?_ <;> repeat' first | exact eN | refine And.intro ?_ ?_ | exact snoc_len e | exact snoc_get e rfl | rw [e]
  · have k4 : firstC (fnCode m) m.funcs.length = none := firstC_no fun i hi => hy i (by omega)
    exact ⟨_, .keep (by rw [headsF, if_neg k1, k2, k3, k4]; rfl) rfl⟩
open Pl (Vl)
def idleB (op : Int) : Bool := decide (1 ≤ op) && decide (op ≤ 29) && !decide (op = 28)
def calmB (op : Int) : Bool := idleB op && !(decide (op = 4) || decide (op = 5) || decide (op = 6) || decide (op = 7) || decide (op = 25) || decide (op = 26) || decide (op = 27))
theorem Idle_P (op : Int) : ASpec Try.prog 53 [.i .i64 op] (.b (idleB op)) [] := by
  refine ASpec.enter TYok mixed Try.func53 rfl Try.call53 Try.ntmps53 rfl (rs := [.tmp 2]) rfl (nodupB_ok rfl) (Clo.one rfl) (keep := [0, 2]) ?_; conv => whnf
  repeat' first | (refine iF (fun hb => ?_) (fun hb => ?_) <;> (try simp only [pickB_or, pickB_and] at hb) <;> (have hc := hb; try simp only [sB, Int.reduceToNat] at hc; try simp only [addZ0] at hc) <;> first | (exfalso; omega) | conv => whnf) | ((first | refine ⟨_, wr64 ti ti, ?_⟩ | refine And.intro si ?_ | refine LitW.frz ?_ | refine PreW.frz ?_ | refine AppW.cp ?_ | refine TakW.row ?_ | refine dD ?_ | refine dF ?_ | refine d0 ?_ | refine d1 ?_ | refine dL ?_ | refine dP ?_ | refine And.intro tgi ?_ | refine ⟨_, shl1 (by omega), ?_⟩ | refine ⟨_, wru64 ti ti, ?_⟩ | refine ⟨_, fun _ => (IntKind.wrap_u64 _).symm, ?_⟩); conv => whnf) | (refine CallV.ret ?_; conv => whnf) | exact ⟨_, .keep rfl rfl⟩ | fail
theorem Calm_P (op : Int) : ASpec Try.prog 29 [.i .i64 op] (.b (calmB op)) [] := by
  refine ASpec.enter TYok mixed Try.func29 rfl Try.call29 Try.ntmps29 rfl (rs := [.tmp 2]) rfl (nodupB_ok rfl) (Clo.one rfl) (keep := [0, 2, 3]) ?_; conv => whnf
  repeat' first | (refine iF (fun hb => ?_) (fun hb => ?_) <;> (try simp only [pickB_or, pickB_and] at hb) <;> (have hc := hb; try simp only [sB, Int.reduceToNat] at hc; try simp only [addZ0] at hc) <;> first | (exfalso; omega) | conv => whnf) | ((first | refine ⟨_, wr64 ti ti, ?_⟩ | refine And.intro si ?_ | refine LitW.frz ?_ | refine PreW.frz ?_ | refine AppW.cp ?_ | refine TakW.row ?_ | refine dD ?_ | refine dF ?_ | refine d0 ?_ | refine d1 ?_ | refine dL ?_ | refine dP ?_ | refine And.intro tgi ?_ | refine ⟨_, shl1 (by omega), ?_⟩ | refine ⟨_, wru64 ti ti, ?_⟩ | refine ⟨_, fun _ => (IntKind.wrap_u64 _).symm, ?_⟩); conv => whnf) | ((first | refine cK (fun _ => Idle_P _) ?_ | ((try (refine CallW.lent ?_; (conv => whnf); repeat (refine And.intro si ?_; (conv => whnf)))); refine cL (fun _ => Idle_P _) ?_)); conv => whnf) | (refine CallV.ret ?_; conv => whnf) | exact ⟨_, .keep rfl rfl⟩ | fail
  all_goals exact ⟨_, .keep (congrArg AV.b (by unfold calmB; simp_all)) rfl⟩
def lit (v : Opd) : Vl × Bool := bif v.k == 2 then (⟨1, v.b, 0, 0⟩, true) else bif v.k == 3 then (⟨0, 0, 0, 0⟩, true) else bif v.k == 4 then (⟨2, 0, -1, 0⟩, true) else bif v.k == 5 then (⟨2, 0, v.n, 0⟩, true) else (⟨0, 0, 0, 0⟩, false)
def opd (t : Int) (v : Vl) : Opd × Bool := bif v.k == 0 then (⟨3, 0, 0⟩, true) else bif v.k == 1 then (⟨2, 0, v.b⟩, true) else bif v.k == 3 && t != 65 then (⟨2, 0, 0⟩, true) else bif v.k == 3 || v.bl == -1 && v.off == 0 then (⟨4, 0, 0⟩, true) else bif decide (0 ≤ v.bl) && v.off == 0 then (⟨5, v.bl, 0⟩, true) else (⟨0, 0, 0⟩, false)
theorem literal_P (v : Opd) : ASpec Try.prog 30 [eS v] (.tup [eS (lit v).1, .b (lit v).2]) [] := by
  have key : ∀ {y : Vl} {b : Bool}, lit v = (y, b) → AV.tup [eS y, .b b] = .tup [eS (lit v).1, .b (lit v).2] := fun h => by rw [h]
  refine ASpec.enter TYok mixed Try.func30 rfl Try.call30 Try.ntmps30 rfl (rs := [.cell 2 70, .tmp 3]) rfl (nodupB_ok rfl) (Clo.one rfl) (keep := [0, 1, 2, 3, 5]) ?_; conv => whnf
  repeat' first | (refine iF (fun hb => ?_) (fun hb => ?_) <;> (try simp only [pickB_or, pickB_and] at hb) <;> (have hc := hb; try simp only [sB, Int.reduceToNat] at hc; try simp only [addZ0] at hc) <;> first | (exfalso; omega) | conv => whnf) | ((first | refine ⟨_, wr64 ti ti, ?_⟩ | refine And.intro si ?_ | refine LitW.frz ?_ | refine PreW.frz ?_ | refine AppW.cp ?_ | refine TakW.row ?_ | refine dD ?_ | refine dF ?_ | refine d0 ?_ | refine d1 ?_ | refine dL ?_ | refine dP ?_ | refine And.intro tgi ?_ | refine ⟨_, shl1 (by omega), ?_⟩ | refine ⟨_, wru64 ti ti, ?_⟩ | refine ⟨_, fun _ => (IntKind.wrap_u64 _).symm, ?_⟩); conv => whnf) | (refine CallV.ret ?_; conv => whnf) | exact ⟨_, .keep rfl rfl⟩ | fail
  · exact ⟨_, .keep (key (y := ⟨1, v.b, 0, 0⟩) (b := true) (by unfold lit; simp_all)) rfl⟩
  · exact ⟨_, .keep (key (y := ⟨0, 0, 0, 0⟩) (b := true) (by unfold lit; simp_all)) rfl⟩
  · exact ⟨_, .keep (key (y := ⟨2, 0, -1, 0⟩) (b := true) (by unfold lit; simp_all)) rfl⟩
  · exact ⟨_, .keep (key (y := ⟨2, 0, v.n, 0⟩) (b := true) (by unfold lit; simp_all)) rfl⟩
  · exact ⟨_, .keep (key (y := ⟨0, 0, 0, 0⟩) (b := false) (by unfold lit; simp only [Bool.cond_eq_ite, beq_iff_eq]; (repeat' split) <;> first | rfl | (exfalso; omega))) rfl⟩
theorem operand_P (t : Int) (v : Vl) : ASpec Try.prog 32 [.i .i64 t, eS v] (.tup [eS (opd t v).1, .b (opd t v).2]) [] := by
  have key : ∀ {y : Opd} {b : Bool}, opd t v = (y, b) → AV.tup [eS y, .b b] = .tup [eS (opd t v).1, .b (opd t v).2] := fun h => by rw [h]
  refine ASpec.enter TYok mixed Try.func32 rfl Try.call32 Try.ntmps32 rfl (rs := [.cell 4 50, .tmp 5]) rfl (nodupB_ok rfl) (Clo.one rfl) (keep := [0, 1, 3, 4, 5]) ?_; conv => whnf
  repeat' first | (refine iF (fun hb => ?_) (fun hb => ?_) <;> (try simp only [pickB_or, pickB_and] at hb) <;> (have hc := hb; try simp only [sB, Int.reduceToNat] at hc; try simp only [addZ0] at hc) <;> first | (exfalso; omega) | conv => whnf) | ((first | refine ⟨_, wr64 ti ti, ?_⟩ | refine And.intro si ?_ | refine LitW.frz ?_ | refine PreW.frz ?_ | refine AppW.cp ?_ | refine TakW.row ?_ | refine dD ?_ | refine dF ?_ | refine d0 ?_ | refine d1 ?_ | refine dL ?_ | refine dP ?_ | refine And.intro tgi ?_ | refine ⟨_, shl1 (by omega), ?_⟩ | refine ⟨_, wru64 ti ti, ?_⟩ | refine ⟨_, fun _ => (IntKind.wrap_u64 _).symm, ?_⟩); conv => whnf) | (refine CallV.ret ?_; conv => whnf) | exact ⟨_, .keep rfl rfl⟩ | fail
  · exact ⟨_, .keep (key (y := ⟨3, 0, 0⟩) (b := true) (by unfold opd; simp only [Bool.cond_eq_ite, bne_iff_ne, ne_eq, beq_iff_eq, Bool.or_eq_true, Bool.and_eq_true, decide_eq_true_eq]; (repeat' split) <;> first | rfl | (exfalso; omega) | contradiction | (simp_all; done))) rfl⟩
  · exact ⟨_, .keep (key (y := ⟨2, 0, v.b⟩) (b := true) (by unfold opd; simp only [Bool.cond_eq_ite, bne_iff_ne, ne_eq, beq_iff_eq, Bool.or_eq_true, Bool.and_eq_true, decide_eq_true_eq]; (repeat' split) <;> first | rfl | (exfalso; omega) | contradiction | (simp_all; done))) rfl⟩
  · exact ⟨_, .keep (key (y := ⟨2, 0, 0⟩) (b := true) (by unfold opd; simp only [Bool.cond_eq_ite, bne_iff_ne, ne_eq, beq_iff_eq, Bool.or_eq_true, Bool.and_eq_true, decide_eq_true_eq]; (repeat' split) <;> first | rfl | (exfalso; omega) | contradiction | (simp_all; done))) rfl⟩
  · exact ⟨_, .keep (key (y := ⟨4, 0, 0⟩) (b := true) (by unfold opd; simp only [Bool.cond_eq_ite, bne_iff_ne, ne_eq, beq_iff_eq, Bool.or_eq_true, Bool.and_eq_true, decide_eq_true_eq]; (repeat' split) <;> first | rfl | (exfalso; omega) | contradiction | (simp_all; done))) rfl⟩
  · exact ⟨_, .keep (key (y := ⟨5, v.bl, 0⟩) (b := true) (by unfold opd; simp only [Bool.cond_eq_ite, bne_iff_ne, ne_eq, beq_iff_eq, Bool.or_eq_true, Bool.and_eq_true, decide_eq_true_eq]; (repeat' split) <;> first | rfl | (exfalso; omega) | contradiction | (simp_all; done))) rfl⟩
  · exact ⟨_, .keep (key (y := ⟨0, 0, 0⟩) (b := false) (by unfold opd; simp only [Bool.cond_eq_ite, bne_iff_ne, ne_eq, beq_iff_eq, Bool.or_eq_true, Bool.and_eq_true, decide_eq_true_eq]; (repeat' split) <;> first | rfl | (exfalso; omega) | contradiction | (simp_all; done))) rfl⟩
def foldF (x : InsE) : Opd × Bool :=
  bif !calmB x.op then (⟨0, 0, 0⟩, false)
  else bif !(x.args.all fun v => (lit v).2) then (⟨0, 0, 0⟩, false)
  else bif (Pl.eval x.op x.t x.n x.f (x.args.map fun v => (lit v).1)).2 != 0 then (⟨0, 0, 0⟩, false)
  else opd (Result x) (Pl.eval x.op x.t x.n x.f (x.args.map fun v => (lit v).1)).1
theorem lit_rng {v : Opd} (h : 0 ≤ v.b ∧ v.b < 18446744073709551616) : 0 ≤ (lit v).1.b ∧ (lit v).1.b < 18446744073709551616 := by
  unfold lit
  simp only [Bool.cond_eq_ite]
  (repeat' split) <;> first | exact h | simp
theorem Fold_P (x : InsE) (hn : x.args.length < 4294967296) (hr : ∀ i, 0 ≤ (x.args.getD i Enc.d).b ∧ (x.args.getD i Enc.d).b < 18446744073709551616) (hf : inI x.f) :
    ASpec Try.prog 16 [eS x] (.tup [eS (foldF x).1, .b (foldF x).2]) [] := by
  have key : ∀ {y : Opd} {b : Bool}, foldF x = (y, b) → AV.tup [eS y, .b b] = .tup [eS (foldF x).1, .b (foldF x).2] := fun h => by rw [h]
  let ls (q : Nat) : List Vl := (x.args.take q).map fun v => (lit v).1
  have hls : ∀ q, q ≤ x.args.length → (ls q).length = q := fun q h => by simp only [ls]; rw [List.length_map, List.length_take]; omega
  have hlr : ∀ q i, 0 ≤ ((ls q).getD i Enc.d).b ∧ ((ls q).getD i Enc.d).b < 18446744073709551616 := fun q i => by
    rcases Nat.lt_or_ge i (x.args.take q).length with h | h
    · have e : (ls q).getD i Enc.d = (lit (x.args.getD i Enc.d)).1 := by
        simp only [ls]
        rw [List.length_take] at h
        rw [List.getD_eq_getElem?_getD, List.getElem?_map, List.getElem?_take, if_pos (by omega), List.getElem?_eq_getElem (by omega), List.getD_eq_getElem?_getD, List.getElem?_eq_getElem (by omega)]; rfl
      rw [e]; exact lit_rng (hr i)
    · have e : (ls q).getD i Enc.d = Enc.d := by
        simp only [ls]
        rw [List.getD_eq_getElem?_getD, List.getElem?_eq_none (by rw [List.length_map]; exact h)]; rfl
      rw [e]; exact ⟨by decide, by decide⟩
  have hall : (∀ i, i < x.args.length → (lit (x.args.getD i Enc.d)).2 = true) → (x.args.all fun v => (lit v).2) = true := fun h => List.all_eq_true.2 fun v hv => by
    obtain ⟨i, hi, rfl⟩ := List.getElem_of_mem hv
    have := h i hi
    rwa [List.getD_eq_getElem?_getD, List.getElem?_eq_getElem hi] at this
  have hno : ∀ i, i < x.args.length → (lit (x.args.getD i Enc.d)).2 = false → (x.args.all fun v => (lit v).2) = false := fun i hi h => by
    rw [← Bool.not_eq_true, List.all_eq_true]
    intro ha
    have := ha x.args[i] (List.getElem_mem hi)
    rw [List.getD_eq_getElem?_getD, List.getElem?_eq_getElem hi] at h
    exact absurd (h.symm.trans this) (by decide)
  refine ASpec.enter TYok mixed Try.func16 rfl Try.call16 Try.ntmps16 rfl (rs := [.cell 2 50, .tmp 3]) rfl (nodupB_ok rfl) (Clo.one rfl) (keep := [0, 1, 2, 3, 4, 6, 7, 8, 9, 10, 17, 18, 19]) ?_; conv => whnf
  repeat' first | (refine iF (fun hb => ?_) (fun hb => ?_) <;> (try simp only [pickB_or, pickB_and] at hb) <;> (have hc := hb; try simp only [sB, Int.reduceToNat] at hc; try simp only [addZ0] at hc) <;> first | (exfalso; omega) | conv => whnf) | ((first | refine ⟨_, wr64 ti ti, ?_⟩ | refine And.intro si ?_ | refine LitW.frz ?_ | refine PreW.frz ?_ | refine AppW.cp ?_ | refine TakW.row ?_ | refine dD ?_ | refine dF ?_ | refine d0 ?_ | refine d1 ?_ | refine dL ?_ | refine dP ?_ | refine And.intro tgi ?_ | refine ⟨_, shl1 (by omega), ?_⟩ | refine ⟨_, wru64 ti ti, ?_⟩ | refine ⟨_, fun _ => (IntKind.wrap_u64 _).symm, ?_⟩); conv => whnf) | ((first | refine cK (fun _ => Calm_P _) ?_ | ((try (refine CallW.lent ?_; (conv => whnf); repeat (refine And.intro si ?_; (conv => whnf)))); refine cL (fun _ => Calm_P _) ?_)); conv => whnf) | (refine CallV.ret ?_; conv => whnf) | exact ⟨_, .keep rfl rfl⟩ | fail
  · exact ⟨_, .keep (key (y := ⟨0, 0, 0⟩) (b := false) (by unfold foldF; simp_all)) rfl⟩
  refine lp [19, 4] (fun q : Nat => [.i .i64 q, .orow 4 4 0 (ls q).length]) (fun q => [(4, oL (ls q)), (1, bx x), (2, bx (Enc.d : Opd))]) (fun q => q ≤ x.args.length ∧ ∀ i, i < q → (lit (x.args.getD i Enc.d)).2 = true) (fun q => x.args.length - q) 0 ⟨by omega, fun i h => by omega⟩ ?_ fun q hq => ?_
  · refine eP [] [4] ?_ ?_ <;> repeat' first | exact eN | refine And.intro ?_ ?_
  conv => whnf
  obtain ⟨hq, hv⟩ := hq
  have h6 := hls q hq
  repeat' first | (refine iF (fun hb => ?_) (fun hb => ?_) <;> (try simp only [pickB_or, pickB_and] at hb) <;> (have hc := hb; try simp only [sB, Int.reduceToNat] at hc; try simp only [addZ0] at hc) <;> first | (exfalso; omega) | conv => whnf) | ((first | refine ⟨_, wr64 ti ti, ?_⟩ | refine And.intro si ?_ | refine LitW.frz ?_ | refine PreW.frz ?_ | refine AppW.cp ?_ | refine TakW.row ?_ | refine dD ?_ | refine dF ?_ | refine d0 ?_ | refine d1 ?_ | refine dL ?_ | refine dP ?_ | refine And.intro tgi ?_ | refine ⟨_, shl1 (by omega), ?_⟩ | refine ⟨_, wru64 ti ti, ?_⟩ | refine ⟨_, fun _ => (IntKind.wrap_u64 _).symm, ?_⟩); conv => whnf) | ((first | refine cK (fun _ => literal_P _) ?_ | ((try (refine CallW.lent ?_; (conv => whnf); repeat (refine And.intro si ?_; (conv => whnf)))); refine cL (fun _ => literal_P _) ?_)); conv => whnf) | ((first | refine cK (fun _ => Eval_P x (ls q) (by omega) (hlr q) hf) ?_ | ((try (refine CallW.lent ?_; (conv => whnf); repeat (refine And.intro si ?_; (conv => whnf)))); refine cL (fun _ => Eval_P x (ls q) (by omega) (hlr q) hf) ?_)); conv => whnf) | ((first | refine cK (fun _ => irResult_S x) ?_ | ((try (refine CallW.lent ?_; (conv => whnf); repeat (refine And.intro si ?_; (conv => whnf)))); refine cL (fun _ => irResult_S x) ?_)); conv => whnf) | ((first | refine cK (fun _ => operand_P _ _) ?_ | ((try (refine CallW.lent ?_; (conv => whnf); repeat (refine And.intro si ?_; (conv => whnf)))); refine cL (fun _ => operand_P _ _) ?_)); conv => whnf) | (refine CallV.ret ?_; conv => whnf) | exact ⟨_, .keep rfl rfl⟩ | fail
  · have hb2 : (lit (x.args.getD q Enc.d)).2 = false := by simpa using hb
    exact ⟨_, .keep (key (y := ⟨0, 0, 0⟩) (b := false) (by unfold foldF; rw [hno q (by omega) hb2]; simp_all)) rfl⟩
  · have hb2 : (lit (x.args.getD q Enc.d)).2 = true := by simpa using hb
    have e : ls (q + 1) = ls q ++ [(lit (x.args.getD q Enc.d)).1] := by
      simp only [ls]
      rw [List.take_add_one, List.map_append, List.getD_eq_getElem?_getD, List.getElem?_eq_getElem (by omega)]; rfl
    refine .mk (q + 1) ⟨by omega, all_step hv hb2⟩ (by omega) ?_
    refine eP [(4, 34)] [] ?_ ?_ <;> repeat' first | exact eN | refine And.intro ?_ ?_ | exact snoc_len e | exact snoc_get e rfl | rw [e]
  · obtain rfl : q = x.args.length := by omega
    have e : ls x.args.length = x.args.map fun v => (lit v).1 := by simp only [ls]; rw [List.take_length]
    rw [e] at hc ⊢
    have hb3 : ((Pl.eval x.op x.t x.n x.f (x.args.map fun v => (lit v).1)).2 != 0) = true := bne_iff_ne.2 hc
    exact ⟨_, .keep (key (y := ⟨0, 0, 0⟩) (b := false) (by unfold foldF; rw [hall hv, hb3]; simp_all)) rfl⟩
  · obtain rfl : q = x.args.length := by omega
    have e : ls x.args.length = x.args.map fun v => (lit v).1 := by simp only [ls]; rw [List.take_length]
    rw [e] at hc ⊢
    have hb3 : ((Pl.eval x.op x.t x.n x.f (x.args.map fun v => (lit v).1)).2 != 0) = false := by simp only [bne_eq_false_iff_eq]; omega
    exact ⟨_, .keep (key (y := (opd (Result x) (Pl.eval x.op x.t x.n x.f (x.args.map fun v => (lit v).1)).1).1) (b := (opd (Result x) (Pl.eval x.op x.t x.n x.f (x.args.map fun v => (lit v).1)).1).2) (by unfold foldF; rw [hall hv, hb3]; simp_all)) rfl⟩
theorem ASpec.nz {P : Program} {f : FuncId} {e n : Nat} {g : Nat → List AV} {r : AV} {no : Os} (h0 : n = 0 → ASpec P f [.row (some false) e n g] r no) (h1 : ASpec P f [.row (some true) e n g] r no) : ASpec P f [.row none e n g] r no := by
  refine ⟨h1.1, h1.2.1, fun S w us hr hv => ?_⟩
  obtain ⟨u, us', rfl, h2, h3⟩ := hr
  have h4 := h2
  unfold rel at h4
  obtain ⟨a, cap, vs, rfl, _, h5, h6⟩ := h4
  cases a with
  | none =>
    have hn : n = 0 := by
      rcases Nat.eq_zero_or_pos n with h | h
      · exact h
      · obtain ⟨⟨ad, e, _⟩, _⟩ := h6 0 h; cases e
    exact (h0 hn).2.2 S w _ ⟨_, us', rfl, ⟨none, cap, vs, rfl, (fun z hz => by cases hz; rfl), h5, h6⟩, h3⟩ hv
  | some ad => exact h1.2.2 S w _ ⟨_, us', rfl, ⟨some ad, cap, vs, rfl, (fun z hz => by cases hz; rfl), h5, h6⟩, h3⟩ hv
theorem CloneI_S (d : Nat) (l : List Int) (hl : l.length < 4294967296) : ASpec Try.prog 41 [eL l] (.orow d 1 0 l.length) [(d, oL l)] := by
  refine .nz (fun hn => ?_) ?_
  · refine ASpec.enter TYok mixed Try.func41 rfl Try.call41 Try.ntmps41 rfl (rs := [.tmp 2]) rfl (nd1 _) (Clo.row) (keep := [0, 2]) ?_; conv => whnf
    repeat' first | (refine iF (fun hb => ?_) (fun hb => ?_) <;> (try simp only [pickB_or, pickB_and] at hb) <;> (have hc := hb; try simp only [sB, Int.reduceToNat] at hc; try simp only [addZ0] at hc) <;> first | (exfalso; omega) | conv => whnf) | ((first | refine ⟨_, wr64 ti ti, ?_⟩ | refine And.intro si ?_ | refine LitW.frz ?_ | refine PreW.frz ?_ | refine AppW.cp ?_ | refine TakW.row ?_ | refine dD ?_ | refine dF ?_ | refine d0 ?_ | refine d1 ?_ | refine dL ?_ | refine dP ?_ | refine And.intro tgi ?_ | refine ⟨_, shl1 (by omega), ?_⟩ | refine ⟨_, wru64 ti ti, ?_⟩ | refine ⟨_, fun _ => (IntKind.wrap_u64 _).symm, ?_⟩); conv => whnf) | (refine CallV.ret ?_; conv => whnf) | exact ⟨_, .keep rfl rfl⟩ | fail
    all_goals first | exact absurd hb (by decide) | exact ⟨_, Gives.nil hn⟩
  · refine ASpec.enter TYok mixed Try.func41 rfl Try.call41 Try.ntmps41 rfl (rs := [.tmp 2]) rfl (nd1 _) (Clo.row) (keep := [0, 2]) ?_; conv => whnf
    refine And.intro (fun hb => absurd hb (by decide)) fun _ => ?_
    conv => whnf
    refine LitW.own ?_
    conv => whnf
    repeat' first | (refine iF (fun hb => ?_) (fun hb => ?_) <;> (try simp only [pickB_or, pickB_and] at hb) <;> (have hc := hb; try simp only [sB, Int.reduceToNat] at hc; try simp only [addZ0] at hc) <;> first | (exfalso; omega) | conv => whnf) | ((first | refine ⟨_, wr64 ti ti, ?_⟩ | refine And.intro si ?_ | refine LitW.frz ?_ | refine PreW.frz ?_ | refine AppW.cp ?_ | refine TakW.row ?_ | refine dD ?_ | refine dF ?_ | refine d0 ?_ | refine d1 ?_ | refine dL ?_ | refine dP ?_ | refine And.intro tgi ?_ | refine ⟨_, shl1 (by omega), ?_⟩ | refine ⟨_, wru64 ti ti, ?_⟩ | refine ⟨_, fun _ => (IntKind.wrap_u64 _).symm, ?_⟩); conv => whnf) | (refine CallV.ret ?_; conv => whnf) | exact ⟨_, .keep rfl rfl⟩ | fail
    exact ⟨_, .give rfl rfl (by omega) (fun i _ => by simp [catF]) rfl⟩
theorem CloneV_S (d : Nat) (l : List Opd) (hl : l.length < 4294967296) : ASpec Try.prog 42 [eL l] (.orow d 3 0 l.length) [(d, oL l)] := by
  refine .nz (fun hn => ?_) ?_
  · refine ASpec.enter TYok mixed Try.func42 rfl Try.call42 Try.ntmps42 rfl (rs := [.tmp 2]) rfl (nd1 _) (Clo.row) (keep := [0, 2]) ?_; conv => whnf
    repeat' first | (refine iF (fun hb => ?_) (fun hb => ?_) <;> (try simp only [pickB_or, pickB_and] at hb) <;> (have hc := hb; try simp only [sB, Int.reduceToNat] at hc; try simp only [addZ0] at hc) <;> first | (exfalso; omega) | conv => whnf) | ((first | refine ⟨_, wr64 ti ti, ?_⟩ | refine And.intro si ?_ | refine LitW.frz ?_ | refine PreW.frz ?_ | refine AppW.cp ?_ | refine TakW.row ?_ | refine dD ?_ | refine dF ?_ | refine d0 ?_ | refine d1 ?_ | refine dL ?_ | refine dP ?_ | refine And.intro tgi ?_ | refine ⟨_, shl1 (by omega), ?_⟩ | refine ⟨_, wru64 ti ti, ?_⟩ | refine ⟨_, fun _ => (IntKind.wrap_u64 _).symm, ?_⟩); conv => whnf) | (refine CallV.ret ?_; conv => whnf) | exact ⟨_, .keep rfl rfl⟩ | fail
    all_goals first | exact absurd hb (by decide) | exact ⟨_, Gives.nil hn⟩
  · refine ASpec.enter TYok mixed Try.func42 rfl Try.call42 Try.ntmps42 rfl (rs := [.tmp 2]) rfl (nd1 _) (Clo.row) (keep := [0, 2]) ?_; conv => whnf
    refine And.intro (fun hb => absurd hb (by decide)) fun _ => ?_
    conv => whnf
    refine LitW.own ?_
    conv => whnf
    repeat' first | (refine iF (fun hb => ?_) (fun hb => ?_) <;> (try simp only [pickB_or, pickB_and] at hb) <;> (have hc := hb; try simp only [sB, Int.reduceToNat] at hc; try simp only [addZ0] at hc) <;> first | (exfalso; omega) | conv => whnf) | ((first | refine ⟨_, wr64 ti ti, ?_⟩ | refine And.intro si ?_ | refine LitW.frz ?_ | refine PreW.frz ?_ | refine AppW.cp ?_ | refine TakW.row ?_ | refine dD ?_ | refine dF ?_ | refine d0 ?_ | refine d1 ?_ | refine dL ?_ | refine dP ?_ | refine And.intro tgi ?_ | refine ⟨_, shl1 (by omega), ?_⟩ | refine ⟨_, wru64 ti ti, ?_⟩ | refine ⟨_, fun _ => (IntKind.wrap_u64 _).symm, ?_⟩); conv => whnf) | (refine CallV.ret ?_; conv => whnf) | exact ⟨_, .keep rfl rfl⟩ | fail
    exact ⟨_, .give rfl rfl (by omega) (fun i _ => by simp [catF]) rfl⟩
abbrev oT {α : Type} [Enc α] (l : List α) : Obj := .tree (Enc.sz α) l.length fun i => Enc.enc (l.getD i Enc.d)
theorem Clo.fn {a : ByteArray} {r : Int} {c d n m N : Nat} {e e' : Nat} {g g2 : Nat → List AV} {q : Option Nat} (h : c ≠ d) : Clo (.agg [.s a, .orow c 1 0 n, .i .i64 r, .orow d 1 0 m]) [(c, .row q e N g), (d, .tree e' m g2)] := by
  refine ⟨fun id hm => ?_, fun i ob h id hm => ?_⟩
  · simp only [men, mens, Bool.or_eq_true, Bool.or_false, Bool.false_or] at hm
    rcases hm with hm | hm
    · have := Nat.eq_of_beq_eq_true hm; subst this; rw [lk_cons, if_pos rfl]; rfl
    · have := Nat.eq_of_beq_eq_true hm; subst this; rw [lk_cons, if_neg h, lk_cons, if_pos rfl]; rfl
  · rw [lk_cons] at h
    split at h
    · cases h; cases hm
    · rw [lk_cons] at h
      split at h
      · cases h; cases hm
      · simp [lk] at h
theorem cat_snoc {α : Type} [Enc α] {l : List α} {k : Nat} {hs : List AV} (h : teqs hs (Enc.enc (l.getD k Enc.d))) (i : Nat) (hi : i < k + 1) : teqs (catG k (fun i => Enc.enc (l.getD i Enc.d)) (fun _ => hs) i) (Enc.enc (l.getD i Enc.d)) := by
  unfold catG
  split
  · exact teqs_refl _
  · obtain rfl : i = k := by omega
    exact h
def cgO (f : FnE) (b : Nat) : Os := [(1, bx f), (2, bx (Enc.d : FnE)), (3, .box none none [.s f.name, .orow 12 1 0 f.params.length, .i .i64 f.ret, .orow 1002 1 0 b]), (12, oL f.params), (1002, .tree 1 b fun i => Enc.enc (f.blocks.getD i Enc.d))]
theorem CopyFuncT_S (f : FnE) (hs : siz f < 4294967296) : ASpec Try.prog 19 [eS f] (.agg [.s f.name, .orow 1001 1 0 f.params.length, .i .i64 f.ret, .orow 1002 1 0 f.blocks.length]) [(1001, oL f.params), (1002, oT f.blocks)] := by
  have h1 := blocks_le f
  have h2 := params_le f
  refine ASpec.enter TYok mixed Try.func19 rfl Try.call19 Try.ntmps19 rfl (rs := [.cell 2 32]) rfl (nd2 (show (1001 : Nat) ≠ 1002 from by decide)) (Clo.fn (c := 1001) (d := 1002) (by decide)) (keep := [0, 1, 2, 3, 5, 6, 8, 16, 17, 18, 23, 24, 25]) ?_; conv => whnf
  repeat' first | (refine iF (fun hb => ?_) (fun hb => ?_) <;> (try simp only [pickB_or, pickB_and] at hb) <;> (have hc := hb; try simp only [sB, Int.reduceToNat] at hc; try simp only [addZ0] at hc) <;> first | (exfalso; omega) | conv => whnf) | ((first | refine ⟨_, wr64 ti ti, ?_⟩ | refine And.intro si ?_ | refine LitW.frz ?_ | refine PreW.frz ?_ | refine AppW.cp ?_ | refine TakW.row ?_ | refine dD ?_ | refine dF ?_ | refine d0 ?_ | refine d1 ?_ | refine dL ?_ | refine dP ?_ | refine And.intro tgi ?_ | refine ⟨_, shl1 (by omega), ?_⟩ | refine ⟨_, wru64 ti ti, ?_⟩ | refine ⟨_, fun _ => (IntKind.wrap_u64 _).symm, ?_⟩); conv => whnf) | ((first | refine cK (fun _ => CloneI_S 12 _ (by omega)) ?_ | ((try (refine CallW.lent ?_; (conv => whnf); repeat (refine And.intro si ?_; (conv => whnf)))); refine cL (fun _ => CloneI_S 12 _ (by omega)) ?_)); conv => whnf) | (refine CallV.ret ?_; conv => whnf) | exact ⟨_, .keep rfl rfl⟩ | fail
  refine lp [18] (fun b : Nat => [.i .i64 b]) (cgO f) (fun b => b ≤ f.blocks.length) (fun b => f.blocks.length - b) 0 (by omega) ?_ fun b hb0 => ?_
  · refine eP [] [1002] ?_ ?_ <;> repeat' first | exact eN | refine And.intro ?_ ?_
  conv => whnf
  have h3 := code_le f b
  repeat' first | (refine iF (fun hb => ?_) (fun hb => ?_) <;> (try simp only [pickB_or, pickB_and] at hb) <;> (have hc := hb; try simp only [sB, Int.reduceToNat] at hc; try simp only [addZ0] at hc) <;> first | (exfalso; omega) | conv => whnf) | ((first | refine ⟨_, wr64 ti ti, ?_⟩ | refine And.intro si ?_ | refine And.intro ⟨rfl, fun _ _ => rfl⟩ ?_ | refine And.intro (⟨⟨rfl, rfl⟩, by omega⟩ : (_ = _ ∧ _ = _) ∧ _) ?_ | refine And.intro (⟨rfl, by omega⟩ : _ = _ ∧ _) ?_ | refine LitW.frz ?_ | refine PreW.own ?_ | refine AppW.mv ?_ | refine TakW.tree ?_ | refine dD ?_ | refine dF ?_ | refine d0 ?_ | refine d1 ?_ | refine dL ?_ | refine dP ?_ | refine And.intro tgi ?_ | refine ⟨_, shl1 (by omega), ?_⟩ | refine ⟨_, wru64 ti ti, ?_⟩ | refine ⟨_, fun _ => (IntKind.wrap_u64 _).symm, ?_⟩); conv => whnf) | (refine CallV.ret ?_; conv => whnf) | exact ⟨_, .keep rfl rfl⟩ | fail
  · refine lp [25] (fun k : Nat => [.i .i64 k]) (fun k => (6, .box none none [.orow 1003 7 0 k]) :: (1003, .tree 7 k fun i => Enc.enc ((f.blocks.getD b Enc.d).code.getD i Enc.d)) :: cgO f b) (fun k => k ≤ (f.blocks.getD b Enc.d).code.length) (fun k => (f.blocks.getD b Enc.d).code.length - k) 0 (by omega) ?_ fun k hk => ?_
    · refine eP [] [1003] ?_ ?_ <;> repeat' first | exact eN | refine And.intro ?_ ?_
      exact fun i _ => teqs_refl _
    conv => whnf
    have h4 := ins_le f b k
    have h5 := args_le ((f.blocks.getD b Enc.d).code.getD k Enc.d)
    have h6 := to_le ((f.blocks.getD b Enc.d).code.getD k Enc.d)
    repeat' first | (refine iF (fun hb => ?_) (fun hb => ?_) <;> (try simp only [pickB_or, pickB_and] at hb) <;> (have hc := hb; try simp only [sB, Int.reduceToNat] at hc; try simp only [addZ0] at hc) <;> first | (exfalso; omega) | conv => whnf) | ((first | refine ⟨_, wr64 ti ti, ?_⟩ | refine And.intro si ?_ | refine And.intro ⟨rfl, fun _ _ => rfl⟩ ?_ | refine And.intro (⟨⟨rfl, rfl⟩, by omega⟩ : (_ = _ ∧ _ = _) ∧ _) ?_ | refine And.intro (⟨rfl, by omega⟩ : _ = _ ∧ _) ?_ | refine LitW.frz ?_ | refine PreW.own ?_ | refine AppW.mv ?_ | refine TakW.tree ?_ | refine dD ?_ | refine dF ?_ | refine d0 ?_ | refine d1 ?_ | refine dL ?_ | refine dP ?_ | refine And.intro tgi ?_ | refine ⟨_, shl1 (by omega), ?_⟩ | refine ⟨_, wru64 ti ti, ?_⟩ | refine ⟨_, fun _ => (IntKind.wrap_u64 _).symm, ?_⟩); conv => whnf) | ((first | refine cK (fun _ => CloneV_S 31 _ (Nat.lt_of_le_of_lt (Nat.le_trans h5 h4) hs)) ?_ | ((try (refine CallW.lent ?_; (conv => whnf); repeat (refine And.intro si ?_; (conv => whnf)))); refine cL (fun _ => CloneV_S 31 _ (Nat.lt_of_le_of_lt (Nat.le_trans h5 h4) hs)) ?_)); conv => whnf) | ((first | refine cK (fun _ => CloneI_S 34 _ (Nat.lt_of_le_of_lt (Nat.le_trans h6 h4) hs)) ?_ | ((try (refine CallW.lent ?_; (conv => whnf); repeat (refine And.intro si ?_; (conv => whnf)))); refine cL (fun _ => CloneI_S 34 _ (Nat.lt_of_le_of_lt (Nat.le_trans h6 h4) hs)) ?_)); conv => whnf) | (refine CallV.ret ?_; conv => whnf) | exact ⟨_, .keep rfl rfl⟩ | fail
    · refine .mk (k + 1) (by omega) (by omega) ?_
      refine eP [(1003, 41)] [] ?_ ?_ <;> repeat' first | exact eN | refine And.intro ?_ ?_
      all_goals first | exact fun i hi => cat_snoc (teqs_refl _) i hi | exact fun i _ => teqs_refl _
    · obtain rfl : k = (f.blocks.getD b Enc.d).code.length := by omega
      refine .mk (b + 1) (by omega) (by omega) ?_
      refine eP [(1002, 48)] [] ?_ ?_ <;> repeat' first | exact eN | refine And.intro ?_ ?_
      exact fun i hi => cat_snoc (teqs_refl _) i hi
  · obtain rfl : b = f.blocks.length := by omega
    exact ⟨_, .agg (.cons (.keep rfl rfl) (.cons (.give rfl rfl rfl (fun _ _ => rfl) rfl) (.cons (.keep rfl rfl) (.cons (.giveT rfl rfl rfl (fun _ _ => teqs_refl _) rfl) .nil (nodupB_ok rfl)) (nodupB_ok rfl)) (nodupB_ok rfl)) (nodupB_ok rfl))⟩
theorem clear_one (w : World) (t e ty : TypeId) (z : Value) (ht : Try.prog.underlying t = some (.slice e)) (hv : ∀ w, (zeroValue e).run Try.prog w = .ok z w) (h1 : ∀ u ∈ z.cells.toList, u.oneCell' = true) (b o c : Nat)
    (hc : ∀ j, j < z.cells.size → (w.cell? ⟨b, o + j, none⟩).isSome = true) (hf : ∀ j, j < z.cells.size → w.frozen? ⟨b, o + j, none⟩ = false) :
    (Builtin.clear_ #[t] ty #[.slice (some ⟨b, o, none⟩) 1 c]).run Try.prog w = .ok (.tuple #[]) (w.setCells b o z.cells.toList) := by
  have hzc : (Builtin.zeroCells z.cells 1).toList = z.cells.toList := by
    simp only [Builtin.zeroCells, Nat.one_mul, Array.toList_map, Array.toList_range]
    apply List.ext_getElem
    · simp
    · intro i h1 h2
      have h2 : i < z.cells.size := by simpa using h2
      simp [Nat.mod_eq_of_lt h2, getElem!_pos, h2]
  have hst := run_storeCells_cells (P := Try.prog) b o z.cells.toList 0 w (by simpa using hc) (by simpa using hf) (by intro v hv'; exact h1 v hv')
  simp only [Nat.add_zero] at hst
  simp [Builtin.clear_, run_underlying ht, hv, hzc, hst]
theorem del_run (b off n cap i j : Nat) (news : List Value) (w : World) (hj : j = i + 1) (hi : i < n) (hn : n ≤ cap) (hl : news.length = (n - j) * 7) (h1 : ∀ u ∈ news, u.oneCell' = true)
    (hc : ∀ t u, news[t]? = some u → w.cell? ⟨b, off + j * 7 + t, none⟩ = some u) (hs : ∀ t, t < n * 7 → (w.cell? ⟨b, off + t, none⟩).isSome = true ∧ w.frozen? ⟨b, off + t, none⟩ = false) :
    Calls Try.prog 20 #[.slice (some ⟨b, off, none⟩) n cap, .int .i64 i, .int .i64 j] w fun e w' => e = .returned (.slice (some ⟨b, off, none⟩) (n - 1) cap) ∧
      w' = (w.drew.setCells b (off + i * 7) news).setCells b (off + (n - 1) * 7) [.int .i64 0, .int .i64 0, .int .i64 0, .int .i64 0, .int .i64 0, .slice none 0 0, .slice none 0 0] := by
  have mixed := mixed
  have hjn : j ≤ n := by omega
  have hne : ¬(i = j) := by omega
  obtain ⟨i0, hi0, hz1⟩ := Option.map_eq_some_iff.1 (show (Try.prog.info? 41).map (·.size) = some 7 by kernel_rfl)
  obtain ⟨A, hA, hsrc⟩ : ∃ A : Addr, (if cap = j then (some (⟨b, off, none⟩ : Addr)) else some ⟨b, off + j * 7, none⟩) = some A ∧ Hid (∀ t u, news[t]? = some u → w.drew.cell? (A.add t) = some u) := by
    by_cases h : cap = j
    · refine ⟨⟨b, off, none⟩, by simp [h], fun t u hu => ?_⟩
      have h0 : news.length = 0 := by rw [hl]; omega
      rw [List.length_eq_zero_iff.1 h0] at hu
      simp at hu
    · refine ⟨⟨b, off + j * 7, none⟩, by simp [h], fun t u hu => ?_⟩
      rw [Addr.add_lit]
      exact hc t u hu
  have s1 : Hid (news.length = (n - j) * 7) := hl
  have s2 : Hid (∀ u ∈ news, u.oneCell' = true) := h1
  have s3 : Hid (∀ t, t < news.length → (w.drew.cell? ⟨b, off + i * 7 + t, none⟩).isSome = true ∧ w.drew.frozen? ⟨b, off + i * 7 + t, none⟩ = false) := by
    intro t ht
    rw [hl] at ht
    have := hs (i * 7 + t) (by omega)
    rw [← Nat.add_assoc] at this
    exact this
  obtain ⟨W1, hW1⟩ : ∃ W1, W1 = w.drew.setCells b (off + i * 7) news := ⟨_, rfl⟩
  have hW : Hid (W1 = w.drew.setCells b (off + i * 7) news) := hW1
  have hic : i ≤ cap := by omega
  have hjc : j ≤ cap := by omega
  have hcl : ∀ ty, (Builtin.clear_ #[36] ty #[.slice (some ⟨b, off + (i + (n - j)) * 7, none⟩) (n - (i + (n - j))) (cap - (i + (n - j)))]).run Try.prog W1 = .ok (.tuple #[]) (W1.setCells b (off + (n - 1) * 7) [.int .i64 0, .int .i64 0, .int .i64 0, .int .i64 0, .int .i64 0, .slice none 0 0, .slice none 0 0]) := fun ty => by
    have e1 : i + (n - j) = n - 1 := by omega
    have e2 : n - (i + (n - j)) = 1 := by omega
    rw [e2, e1]
    refine clear_one W1 _ _ ty (.agg #[.int .i64 0, .int .i64 0, .int .i64 0, .int .i64 0, .int .i64 0, .slice none 0 0, .slice none 0 0]) Try.underlying36 (fun w => ?_) (by simp [Value.oneCell', Value.cells]) b _ _ (fun t ht => ?_) (fun t ht => ?_)
    · exact Try.zeroValue41 w
    · rw [hW1]
      have := hs ((n - 1) * 7 + t) (by have : t < 7 := ht; omega)
      rw [← Nat.add_assoc] at this
      exact World.isSome_setCells b _ _ _ _ this.1
    · rw [hW1, World.frozen?_setCells]
      have := hs ((n - 1) * 7 + t) (by have : t < 7 := ht; omega)
      rw [← Nat.add_assoc] at this
      exact this.2
  have hj' : Hid (j = i + 1) := hj
  have hlt : i < j := by omega
  clear hW1 hs hc hj
  go_enter Try.func20, Try.ntmps20
  go_wp2_with fail
  go_region_law_o (refine step_append_room rfl (.tmp 22) (.tmp 25) 36 rfl 41 i0 7 Try.underlying36 hi0 hz1 b off i cap (by simp [Act.eval, Act.put]) A (n - j) (cap - j) news (by simp [Act.eval, Act.put]; skip) s1.out hsrc.out s2.out (by omega) s3.out ?_; rw [← hW.out])
  go_wp2
  go_ret
  exact ⟨by rw [show n - 1 = i + (n - j) by have := hj'.out; omega]; rfl, by rw [hW.out]⟩
theorem setCells_blk {b t : Nat} : ∀ (vs : List Value) (o : Nat) (cs : List Value) (w : World), w.heap[b]? = some (.cells cs.toArray t (0, 0)) → (w.setCells b o vs).heap[b]? = some (.cells (splice cs o vs).toArray t (0, 0)) ∧ (w.setCells b o vs).heap.size = w.heap.size ∧ (∀ k, k ≠ b → (w.setCells b o vs).heap[k]? = w.heap[k]?) ∧ (w.setCells b o vs).os = w.os ∧ (w.setCells b o vs).tape = w.tape ∧ (w.setCells b o vs).output = w.output
  | [], o, cs, w, h => by rw [splice_nil]; exact ⟨h, rfl, fun _ _ => rfl, rfl, rfl, rfl⟩
  | v :: vs, o, cs, w, h => by
    obtain ⟨h1, h2, h3, h4, h5, h6⟩ := setCells_blk vs (o + 1) (cs.set o v) (w.setCell ⟨b, o, none⟩ v) (setCell_blk v h)
    rw [splice_cons]
    exact ⟨h1, h2.trans (by simp [World.setCell]), fun k hk => (h3 k hk).trans (Below.heap_setCell _ _ _ _ hk), h4, h5, h6⟩
theorem erase_flat : ∀ (L : List (List Nat)) (i : Nat), (L.eraseIdx i).flatten.Sublist L.flatten
  | [], i => by simp
  | x :: L, 0 => by simp
  | x :: L, i + 1 => by
    rw [List.eraseIdx_cons_succ, List.flatten_cons, List.flatten_cons]
    exact (List.Sublist.refl x).append (erase_flat L i)
def skp {α : Type} (i : Nat) (f : Nat → α) (k : Nat) : α := if k < i then f k else f (k + 1)
theorem skp_map {α : Type} (i n : Nat) (f : Nat → α) (hi : i < n) : (List.range (n - 1)).map (skp i f) = ((List.range n).map f).eraseIdx i := by
  refine List.ext_getElem (by simp [List.length_eraseIdx]; omega) fun k h1 h2 => ?_
  rw [List.getElem_map, List.getElem_range, List.getElem_eraseIdx]
  unfold skp
  split <;> simp
theorem skp_get {α : Type} [Enc α] (l : List α) (i k : Nat) : (l.eraseIdx i).getD k Enc.d = skp i (fun k => l.getD k Enc.d) k := by
  unfold skp
  simp only [List.getD_eq_getElem?_getD, List.getElem?_eraseIdx]
  split <;> rfl
def zI : List Value := [.int .i64 0, .int .i64 0, .int .i64 0, .int .i64 0, .int .i64 0, .slice none 0 0, .slice none 0 0]
theorem Delete_S (d : Nat) (l : List InsE) (i : Nat) (hi : i < l.length) : ASpecM Try.prog 20 [.orow d 7 0 l.length, .i .i64 i, .i .i64 ((i : Int) + 1)] [(d, oT l)] (.orow d 7 0 (l.length - 1)) [(d, oT (l.eraseIdx i))] := by
  have hlen : (l.eraseIdx i).length = l.length - 1 := by rw [List.length_eraseIdx]; simp [hi]
  refine ⟨Try.call20, Clo.tree, fun S β w us hob hap hus hvr => ?_⟩
  obtain ⟨u0, us0, rfl, r0, u1, us1, rfl, r1, u2, us2, rfl, r2, r3⟩ := hus
  unfold rels at r3
  unfold rel at r0 r1 r2
  subst r3 r1 r2
  obtain ⟨hok0, rfl⟩ := r0
  have hfe : feet [(d, oT l)] β = (β d).foot := by simp [feet]
  have hlk : lk [(d, oT l)] d = some (oT l) := by rw [lk_cons, if_pos rfl]
  obtain ⟨hok, ht⟩ := hob.objs d _ hlk
  have hnd := hob.nodup
  rw [hfe] at hnd hap
  unfold treeD at ht
  obtain ⟨_, _, ⟨hn, hm⟩, hnode⟩ := ht
  have hr0 : rsub (β d) [] = ((β d).a, (β d).cap) := rfl
  rw [hr0] at hn hnode
  rcases hnode with ⟨z1, z2, z3⟩ | ⟨b, off, cells, ty, uf, FS, z1, z2, z3, z4, z5⟩
  · simp only at z2; omega
  simp only at z1 z4 hn
  have hsz : Enc.sz InsE = 7 := rfl
  rw [hsz] at z4 z5
  have hul : ∀ k, k < l.length → (uf k).length = 7 := fun k hk => (z5 k hk).1.1.1
  have hat : ∀ k, k < l.length → ∀ j u, (uf k)[j]? = some u → cells[off + k * 7 + j]? = some u := fun k hk => (z5 k hk).1.2
  have hbX : b ∈ (β d).foot := by rw [z2]; simp
  obtain ⟨news, hnews⟩ : ∃ news, news = flatN (fun k => uf (i + 1 + k)) (l.length - (i + 1)) := ⟨_, rfl⟩
  have hnl : news.length = (l.length - (i + 1)) * 7 := by rw [hnews]; exact flatN_len fun k hk => hul _ (by omega)
  have hcell : ∀ k, w.cell? ⟨b, k, none⟩ = cells[k]? := fun k => by rw [cell_blk z3]
  have hrun := del_run b off l.length (β d).cap i (i + 1) news w rfl hi hn hnl ?_ ?_ ?_
  · refine (by rw [z1, Nat.zero_mul, Nat.sub_zero]; exact hrun : Calls _ _ _ _ _).mono ?_
    clear hrun
    rintro e w' ⟨rfl, rfl⟩
    obtain ⟨a1, a2, a3, a4, a5, a6⟩ := setCells_blk news (off + i * 7) cells w.drew z3
    obtain ⟨b1, b2, b3, b4, b5, b6⟩ := setCells_blk zI (off + (l.length - 1) * 7) _ _ a1
    rw [show [Value.int IntKind.i64 0, Value.int IntKind.i64 0, Value.int IntKind.i64 0, Value.int IntKind.i64 0, Value.int IntKind.i64 0, Value.slice none 0 0, Value.slice none 0 0] = zI from rfl]
    generalize hw' : (w.drew.setCells b (off + i * 7) news).setCells b (off + (l.length - 1) * 7) zI = w' at b1 b2 b3 b4 b5 b6 ⊢
    have c2 : w'.heap.size = w.heap.size := b2.trans a2
    have c3 : ∀ k, k ≠ b → w'.heap[k]? = w.heap[k]? := fun k hk => (b3 k hk).trans (a3 k hk)
    obtain ⟨W, hW⟩ : ∃ W : Wt, W = ⟨some ⟨b, off, none⟩, (β d).cap, b :: (List.range (l.length - 1)).flatMap (skp i FS), true, fun p => match p with
      | [] => (none, 0)
      | (k, c) :: r => rsub (β d) ((if k < i then k else k + 1, c) :: r)⟩ := ⟨_, rfl⟩
    have hWf : W.foot.Sublist (β d).foot := by
      rw [hW, z2]
      refine List.Sublist.cons_cons _ ?_
      rw [List.flatMap_def, List.flatMap_def, skp_map i _ FS hi]
      exact erase_flat _ _
    have hfe' : feet [(d, oT (l.eraseIdx i))] (setB β d W) = W.foot := by simp [feet, setB_self]
    have hc : Comp S w (fun k => (S k ∨ w.heap.size ≤ k ∨ k ∈ (β d).foot) ∧ k ∉ W.foot) w' := ⟨by rw [c2]; exact Nat.le_refl _, fun k hk hs => ⟨⟨.inl hs, fun hq => hap k hs (hWf.subset hq)⟩, c3 k fun e => hap k hs (e ▸ hbX)⟩⟩
    have hnd2 := hnd
    rw [z2, List.nodup_cons] at hnd2
    have hFb : ∀ x, x < l.length → ∀ q ∈ FS x, q ≠ b := fun x hx q hq e => hnd2.1 (e ▸ List.mem_flatMap.2 ⟨x, List.mem_range.2 hx, hq⟩)
    have htr : ∀ x k, x < l.length → (if k < i then k else k + 1) = x → treeDs (fun k => (S k ∨ w.heap.size ≤ k ∨ k ∈ (β d).foot) ∧ k ∉ W.foot) w' (rsub W) (Enc.enc (l.getD x Enc.d)) [] k 0 (uf x) (FS x) := fun x k hx hk => by
      refine treeDs_shift (sb := rsub (β d)) _ [] [] x k 0 _ _ (fun c r => ?_) (treeDs_mono hc _ _ _ _ _ _ (fun q hq => c3 q (hFb x hx q hq)) (fun _ _ _ => rfl) (z5 x hx).2)
      rw [hW, ← hk]; rfl
    have hs1 : off + i * 7 + news.length ≤ cells.length := by
      rw [hnl]
      have : l.length * 7 ≤ (β d).cap * 7 := Nat.mul_le_mul_right 7 hn
      omega
    have hs2 : off + (l.length - 1) * 7 + zI.length ≤ (splice cells (off + i * 7) news).length := by
      rw [splice_length]
      have : l.length * 7 ≤ (β d).cap * 7 := Nat.mul_le_mul_right 7 hn
      have : zI.length = 7 := rfl
      omega
    have hrow : ∀ k, k < l.length - 1 → rowAt (splice (splice cells (off + i * 7) news) (off + (l.length - 1) * 7) zI) off 7 (skp i uf) k := fun k hk => by
      have hx : (skp i uf k).length = 7 ∧ (skp i uf k).all (·.oneCell') = true := by
        unfold skp; split
        · exact (z5 k (by omega)).1.1
        · exact (z5 (k + 1) (by omega)).1.1
      refine ⟨hx, fun j u hu => ?_⟩
      have hj : j < 7 := by rw [← hx.1]; exact (List.getElem?_eq_some_iff.1 hu).1
      rw [splice_get _ _ _ _ hs2, if_neg (by omega), splice_get _ _ _ _ hs1]
      unfold skp at hu
      split at hu
      · rw [if_neg (by omega)]
        exact hat k (by omega) j u hu
      · rename_i hki
        rw [if_pos (by rw [hnl]; omega), hnews]
        have := flatN_at (us := fun k => uf (i + 1 + k)) (e := 7) (m := l.length - (i + 1)) (fun k hk => hul _ (by omega)) (i := k - i) (r := j) (u := u) (by omega) (by rw [show i + 1 + (k - i) = k + 1 by omega]; exact hu)
        rw [← this]
        congr 1
        omega
    refine ⟨_, setB β d W, rfl, ⟨b4.trans a4, b5.trans a5, b6.trans a6, by rw [c2]; exact Nat.le_refl _, fun k hk hkX => c3 k fun e => hkX (by rw [hfe]; exact e ▸ hbX)⟩, fun id ob hl => ?_, fun k hk => ?_, ?_, ?_, fun id ob hl hbx => ?_, ?_⟩
    · rw [lk_cons] at hl
      split at hl
      · rename_i e
        subst e; cases hl
        rw [hfe, hfe', setB_self]
        refine ⟨by rw [hW], ?_⟩
        unfold treeD
        rw [hlen]
        refine ⟨rfl, (fun z hz => by cases hz), ⟨by rw [hW]; exact Nat.le_trans (Nat.sub_le _ _) hn, Nat.le_trans (Nat.sub_le _ _) hm⟩, .inr ⟨b, off, _, ty, skp i uf, skp i FS, by rw [hW]; rfl, by rw [hW], b1, by rw [hW, splice_length, splice_length]; exact z4, fun k hk => ⟨hrow k hk, ?_⟩⟩⟩
        show treeDs _ _ _ (Enc.enc ((l.eraseIdx i).getD k Enc.d)) _ _ _ _ _
        rw [skp_get]
        unfold skp
        split
        · rename_i hki; exact htr k k (by omega) (if_pos hki)
        · rename_i hki; exact htr (k + 1) k (by omega) (if_neg hki)
      · simp [lk] at hl
    · rw [hfe'] at hk
      rw [hfe, c2]
      exact ⟨.inr (hWf.subset hk), hob.lt k (by rw [hfe]; exact hWf.subset hk)⟩
    · rw [hfe']; exact hnd.sublist hWf
    · simp
    · rw [lk_cons] at hl
      split at hl
      · cases hl; cases hbx
      · simp [lk] at hl
    · unfold rel
      rw [setB_self]
      refine ⟨by rw [hW], ?_⟩
      rw [hW, Nat.zero_mul, Nat.sub_zero]; rfl
  · rw [hnews]
    exact fun u hu => List.all_eq_true.1 (flatN_one fun k hk => (z5 _ (by omega)).1.1.2) u hu
  · intro t u hu
    rw [hnews] at hu
    obtain ⟨k, r, h1, rfl, h3⟩ := flatN_get (e := 7) (fun k hk => hul _ (by omega)) hu
    rw [hcell]
    have := hat _ (by omega : i + 1 + k < l.length) r u h3
    rw [← this]
    congr 1
    omega
  · intro t ht
    have h7 : l.length * 7 ≤ (β d).cap * 7 := Nat.mul_le_mul_right 7 hn
    refine ⟨by rw [hcell, List.getElem?_eq_getElem (by omega)]; rfl, by simp [World.frozen?, z3]⟩
theorem optK_rfl : ∀ o : Option Nat, optK o o
  | none => trivial
  | some _ => rfl
def rpA (reg : Int) (v a : Opd) : Opd := bif decide (a.k = 1) && decide (a.n = reg) then v else a
def rpI (reg : Int) (v : Opd) (x : InsE) : InsE := { x with args := x.args.map (rpA reg v) }
def upto {α : Type} (g : α → α) (j : Nat) (l : List α) : List α := (l.take j).map g ++ l.drop j
theorem upto_zero {α : Type} (g : α → α) (l : List α) : upto g 0 l = l := rfl
theorem upto_all {α : Type} (g : α → α) {j : Nat} {l : List α} (h : l.length ≤ j) : upto g j l = l.map g := by
  unfold upto; rw [List.take_of_length_le h, List.drop_eq_nil_iff.2 h, List.append_nil]
theorem upto_len {α : Type} (g : α → α) (j : Nat) (l : List α) : (upto g j l).length = l.length := by
  unfold upto; rw [List.length_append, List.length_map, List.length_take, List.length_drop]; omega
theorem upto_get {α : Type} {g : α → α} {d : α} (hd : g d = d) (j : Nat) (l : List α) (k : Nat) : (upto g j l).getD k d = if k < j then g (l.getD k d) else l.getD k d := by
  unfold upto
  rw [List.getD_eq_getElem?_getD, List.getD_eq_getElem?_getD, List.getElem?_append]
  rw [List.length_map, List.length_take]
  by_cases h1 : k < j
  · rw [if_pos h1]
    by_cases h2 : k < l.length
    · rw [if_pos (by omega), List.getElem?_map, List.getElem?_take, if_pos h1, List.getElem?_eq_getElem h2]; rfl
    · rw [if_neg (by omega), List.drop_eq_nil_iff.2 (by omega), List.getElem?_eq_none (l := l) (by omega)]; exact hd.symm
  · rw [if_neg h1, if_neg (by omega), List.getElem?_drop]
    by_cases h2 : k < l.length
    · rw [show j + (k - min j l.length) = k by omega]
    · rw [List.getElem?_eq_none (by omega), List.getElem?_eq_none (by omega)]
theorem upto_set {α : Type} {g : α → α} {d : α} {j : Nat} {l : List α} (h : j < l.length) : (upto g j l).set j (g (l.getD j d)) = upto g (j + 1) l := by
  unfold upto
  have hl : ((l.take j).map g).length = j := by rw [List.length_map, List.length_take]; omega
  rw [List.set_append_right _ _ (by omega), hl, Nat.sub_self, List.drop_eq_getElem_cons h, List.set_cons_zero, List.take_add_one, List.getElem?_eq_getElem h, List.getD_eq_getElem?_getD, List.getElem?_eq_getElem h, List.map_append, List.append_assoc]
  rfl
theorem upto_skip {α : Type} {g : α → α} {d : α} {j : Nat} {l : List α} (h : j < l.length) (hg : g (l.getD j d) = l.getD j d) : upto g j l = upto g (j + 1) l := by
  rw [← upto_set (d := d) h, hg]
  have e : (upto g j l)[j]? = some (l.getD j d) := by
    unfold upto
    have hl : ((l.take j).map g).length = j := by rw [List.length_map, List.length_take]; omega
    rw [List.getElem?_append_right (by omega), hl, Nat.sub_self, List.getElem?_drop, Nat.add_zero, List.getElem?_eq_getElem h, List.getD_eq_getElem?_getD, List.getElem?_eq_getElem h]; rfl
  obtain ⟨h2, e2⟩ := List.getElem?_eq_some_iff.1 e
  rw [← e2]; exact (List.set_getElem_self h2).symm
def rpJ (reg : Int) (v : Opd) (j : Nat) (x : InsE) : InsE := { x with args := upto (rpA reg v) j x.args }
def updT (bs : List BlkE) (b i : Nat) (y : InsE) : List BlkE := bs.set b ⟨(bs.getD b Enc.d).code.set i y⟩
structure UB where
  j : Nat
  l : List BlkE
theorem updT_len (bs : List BlkE) (b i : Nat) (y : InsE) : (updT bs b i y).length = bs.length := List.length_set
theorem updT_code {bs : List BlkE} {b i : Nat} {y : InsE} (hb : b < bs.length) : ((updT bs b i y).getD b Enc.d).code = (bs.getD b Enc.d).code.set i y := by
  unfold updT; rw [List.getD_eq_getElem?_getD, List.getElem?_set_self hb]; rfl
theorem updT_at {bs : List BlkE} {b i : Nat} {y : InsE} (hb : b < bs.length) (hi : i < (bs.getD b Enc.d).code.length) : ((updT bs b i y).getD b Enc.d).code.getD i Enc.d = y := by
  rw [updT_code hb, List.getD_eq_getElem?_getD, List.getElem?_set_self hi]; rfl
theorem updT_updT {bs : List BlkE} {b i : Nat} {y z : InsE} (hb : b < bs.length) : updT (updT bs b i y) b i z = updT bs b i z := by
  show (updT bs b i y).set b ⟨((updT bs b i y).getD b Enc.d).code.set i z⟩ = _
  rw [updT_code hb, List.set_set]
  unfold updT
  rw [List.set_set]
theorem updT_same {bs : List BlkE} {b i : Nat} (hb : b < bs.length) (hi : i < (bs.getD b Enc.d).code.length) : updT bs b i ((bs.getD b Enc.d).code.getD i Enc.d) = bs := by
  unfold updT
  have e : (bs.getD b Enc.d).code.set i ((bs.getD b Enc.d).code.getD i Enc.d) = (bs.getD b Enc.d).code := by
    rw [List.getD_eq_getElem?_getD (l := (bs.getD b Enc.d).code), List.getElem?_eq_getElem hi]; exact List.set_getElem_self hi
  rw [e]
  rw [List.getD_eq_getElem?_getD, List.getElem?_eq_getElem hb]; exact List.set_getElem_self hb
def rpO (p3 p q t3 t4 t5 : Option Nat) (nm : ByteArray) (ps : List Int) (ret : Int) (n : Nat) (reg : Int) (v : Opd) (bs : List BlkE) : Os := [(3, .box p3 t3 [.s nm, .orow 1001 1 0 ps.length, .i .i64 ret, .orow 1002 1 0 n]), (1001, oL ps), (1004, .box p t4 [.i .i64 reg]), (1005, .box q t5 (Enc.enc v)), (1002, oT bs)]
def rp2 (p2 : Option Nat) (nm : ByteArray) (ps : List Int) (ret : Int) (n : Nat) : Nat × Obj := (2, .box p2 none [.s nm, .orow 1001 1 0 ps.length, .i .i64 ret, .orow 1002 1 0 n])
theorem rpClo {r : AV} {p3 p q t3 t4 t5 : Option Nat} {nm : ByteArray} {ps : List Int} {ret : Int} {n : Nat} {reg : Int} {v : Opd} {bs : List BlkE} (h : ∀ id, men id r = false) : Clo r (rpO p3 p q t3 t4 t5 nm ps ret n reg v bs) := by
  refine ⟨fun id hm => (by rw [h] at hm; cases hm), fun i ob hl id hm => ?_⟩
  have hmem := lk_mem hl
  simp only [rpO, List.mem_cons, List.not_mem_nil, or_false, Prod.mk.injEq] at hmem
  rcases hmem with ⟨_, rfl⟩ | ⟨_, rfl⟩ | ⟨_, rfl⟩ | ⟨_, rfl⟩ | ⟨_, rfl⟩
  · simp only [omen, mens, men, Bool.or_false, Bool.false_or, Bool.or_eq_true] at hm
    rcases hm with hm | hm
    · have := Nat.eq_of_beq_eq_true hm; subst this; rfl
    · have := Nat.eq_of_beq_eq_true hm; subst this; rfl
  · cases hm
  · cases hm
  · cases hm
  · cases hm
theorem rpClo2 {r : AV} {p2 p3 p q t3 t4 t5 : Option Nat} {nm : ByteArray} {ps : List Int} {ret : Int} {n : Nat} {reg : Int} {v : Opd} {bs : List BlkE} (h : ∀ id, men id r = false) : Clo r (rp2 p2 nm ps ret n :: rpO p3 p q t3 t4 t5 nm ps ret n reg v bs) := by
  refine ⟨fun id hm => (by rw [h] at hm; cases hm), fun i ob hl id hm => ?_⟩
  have hmem := lk_mem hl
  simp only [rp2, rpO, List.mem_cons, List.not_mem_nil, or_false, Prod.mk.injEq] at hmem
  rcases hmem with ⟨_, rfl⟩ | ⟨_, rfl⟩ | ⟨_, rfl⟩ | ⟨_, rfl⟩ | ⟨_, rfl⟩ | ⟨_, rfl⟩
  · simp only [omen, mens, men, Bool.or_false, Bool.false_or, Bool.or_eq_true] at hm
    rcases hm with hm | hm
    · have := Nat.eq_of_beq_eq_true hm; subst this; rfl
    · have := Nat.eq_of_beq_eq_true hm; subst this; rfl
  · simp only [omen, mens, men, Bool.or_false, Bool.false_or, Bool.or_eq_true] at hm
    rcases hm with hm | hm
    · have := Nat.eq_of_beq_eq_true hm; subst this; rfl
    · have := Nat.eq_of_beq_eq_true hm; subst this; rfl
  · cases hm
  · cases hm
  · cases hm
  · cases hm
theorem updT_get {bs : List BlkE} {b i t : Nat} {y : InsE} (h : t ≠ b) : (updT bs b i y).getD t Enc.d = bs.getD t Enc.d := by
  unfold updT; rw [List.getD_eq_getElem?_getD, List.getElem?_set_ne (fun e => h e.symm), ← List.getD_eq_getElem?_getD]
def setA (x : InsE) (j : Nat) (a : Opd) : InsE := ⟨x.op, x.reg, x.t, x.n, x.f, x.args.set j a, x.to⟩
theorem set_at {α : Type} [Enc α] {l : List α} {k : Nat} {y : α} (h : k < l.length) : (l.set k y).getD k Enc.d = y := by rw [List.getD_eq_getElem?_getD, List.getElem?_set_self h]; rfl
theorem set_ne {α : Type} [Enc α] {l : List α} {i k : Nat} {y : α} (h : k ≠ i) : (l.set i y).getD k Enc.d = l.getD k Enc.d := by rw [List.getD_eq_getElem?_getD, List.getElem?_set_ne (fun e => h e.symm), ← List.getD_eq_getElem?_getD]
theorem tree_upd2 {l : List BlkE} {b i j t : Nat} {a : Opd} (hb : b < l.length) (hi : i < (l.getD b Enc.d).code.length) (hj : j < ((l.getD b Enc.d).code.getD i Enc.d).args.length) :
    teqs (updG ([(b, 0)] ++ [(i, 5)]) (fun t => Enc.enc (l.getD t Enc.d)) j 0 (Enc.enc a) t) (Enc.enc ((updT l b i (setA ((l.getD b Enc.d).code.getD i Enc.d) j a)).getD t Enc.d)) := by
  by_cases q : t = b
  · subst q
    have e1 : updG ([(t, 0)] ++ [(i, 5)]) (fun t => Enc.enc (l.getD t Enc.d)) j 0 (Enc.enc a) t = [.row none 7 (l.getD t Enc.d).code.length (updG [(i, 5)] (fun k => Enc.enc ((l.getD t Enc.d).code.getD k Enc.d)) j 0 (Enc.enc a))] := by
      show setC _ t 0 _ t = _
      unfold setC; rw [if_pos rfl]; rfl
    have e2 : ∀ B : BlkE, Enc.enc B = [.row none 7 B.code.length fun k => Enc.enc (B.code.getD k Enc.d)] := fun _ => rfl
    rw [e1, e2, updT_code hb]
    unfold teqs
    refine ⟨?_, by unfold teqs; rfl⟩
    unfold teq
    refine ⟨rfl, (List.length_set).symm, fun k hk => ?_⟩
    by_cases q : k = i
    · subst q
      have e3 : updG [(k, 5)] (fun k => Enc.enc ((l.getD t Enc.d).code.getD k Enc.d)) j 0 (Enc.enc a) k = [.i .i64 ((l.getD t Enc.d).code.getD k Enc.d).op, .i .i64 ((l.getD t Enc.d).code.getD k Enc.d).reg, .i .i64 ((l.getD t Enc.d).code.getD k Enc.d).t, .i .i64 ((l.getD t Enc.d).code.getD k Enc.d).n, .i .i64 ((l.getD t Enc.d).code.getD k Enc.d).f, .row none 3 ((l.getD t Enc.d).code.getD k Enc.d).args.length (setG (fun i => Enc.enc (((l.getD t Enc.d).code.getD k Enc.d).args.getD i Enc.d)) j 0 (Enc.enc a)), eL ((l.getD t Enc.d).code.getD k Enc.d).to] := by
        show setC _ k 5 _ k = _
        unfold setC; rw [if_pos rfl]; rfl
      rw [e3]
      show teqs _ (Enc.enc (((l.getD t Enc.d).code.set k (setA ((l.getD t Enc.d).code.getD k Enc.d) j a)).getD k Enc.d))
      rw [set_at hi]
      generalize (l.getD t Enc.d).code.getD k Enc.d = x at *
      show teqs _ [.i .i64 x.op, .i .i64 x.reg, .i .i64 x.t, .i .i64 x.n, .i .i64 x.f, eL (x.args.set j a), eL x.to]
      unfold teqs
      refine ⟨teq_refl _, ?_⟩
      unfold teqs
      refine ⟨teq_refl _, ?_⟩
      unfold teqs
      refine ⟨teq_refl _, ?_⟩
      unfold teqs
      refine ⟨teq_refl _, ?_⟩
      unfold teqs
      refine ⟨teq_refl _, ?_⟩
      unfold teqs
      refine ⟨?_, teqs_refl _⟩
      unfold eL teq
      refine ⟨rfl, (List.length_set).symm, fun m hm => teqs_of ?_⟩
      unfold setG
      by_cases q : m = j
      · subst q
        rw [if_pos rfl]
        show _ = Enc.enc ((x.args.set m a).getD m Enc.d)
        rw [set_at hj]; rfl
      · rw [if_neg q]
        show _ = Enc.enc ((x.args.set j a).getD m Enc.d)
        rw [set_ne q]
    · have e3 : updG [(i, 5)] (fun k => Enc.enc ((l.getD t Enc.d).code.getD k Enc.d)) j 0 (Enc.enc a) k = Enc.enc ((l.getD t Enc.d).code.getD k Enc.d) := by
        show setC _ i 5 _ k = _
        unfold setC; rw [if_neg q]
      rw [e3]
      show teqs _ (Enc.enc (((l.getD t Enc.d).code.set i (setA ((l.getD t Enc.d).code.getD i Enc.d) j a)).getD k Enc.d))
      rw [set_ne q]
      exact teqs_refl _
  · have e1 : updG ([(b, 0)] ++ [(i, 5)]) (fun t => Enc.enc (l.getD t Enc.d)) j 0 (Enc.enc a) t = Enc.enc (l.getD t Enc.d) := by
      show setC _ b 0 _ t = _
      unfold setC; rw [if_neg q]
    rw [e1, updT_get q]
    exact teqs_refl _
theorem rpA_t {reg : Int} {v a : Opd} (h : a.k = 1 ∧ a.n = reg) : rpA reg v a = v := by unfold rpA; rw [decide_eq_true h.1, decide_eq_true h.2]; rfl
theorem rpA_f {reg : Int} {v a : Opd} (h : ¬(a.k = 1 ∧ a.n = reg)) : rpA reg v a = a := by
  unfold rpA
  cases e : decide (a.k = 1) && decide (a.n = reg) with
  | false => rfl
  | true => exact absurd (by simpa using e) h
theorem Replace1_P (t3 t4 t5 : Option Nat) (nm : ByteArray) (ps : List Int) (ret : Int) (n : Nat) (reg : Int) (v : Opd) (bs : List BlkE) (b i : Nat) (pl : Plc) (hb0 : b < bs.length) (hi0 : i < (bs.getD b Enc.d).code.length) (hn : ((bs.getD b Enc.d).code.getD i Enc.d).args.length < 4294967296) :
    ASpecM Try.prog 52 [eS pl, .pp 1002 [(b, 0)] 7 i 0, .op 1004 0, .op 1005 0] (rp2 none nm ps ret n :: rpO none none none t3 t4 t5 nm ps ret n reg v bs) (.b true) (rp2 none nm ps ret n :: rpO none none none t3 t4 t5 nm ps ret n reg v (updT bs b i (rpI reg v ((bs.getD b Enc.d).code.getD i Enc.d)))) := by
  refine ASpecM.enter TYok mixed Try.func52 rfl Try.call52 Try.ntmps52 rfl (rs := [.tmp 6]) rfl (rpClo2 fun _ => rfl) rfl (keep := [0, 1, 2, 3, 6, 7, 8, 12, 13, 14]) fun pin => ?_; conv => whnf
  repeat' first | (refine iF (fun hb => ?_) (fun hb => ?_) <;> (try simp only [pickB_or, pickB_and] at hb) <;> (have hc := hb; try simp only [sB, Int.reduceToNat] at hc; try simp only [addZ0] at hc) <;> first | (exfalso; omega) | conv => whnf) | ((first | refine ⟨_, wr64 ti ti, ?_⟩ | refine And.intro si ?_ | refine And.intro ⟨rfl, fun _ _ => rfl⟩ ?_ | refine And.intro (⟨⟨rfl, rfl⟩, by omega⟩ : (_ = _ ∧ _ = _) ∧ _) ?_ | refine And.intro (⟨rfl, by omega⟩ : _ = _ ∧ _) ?_ | refine LitW.frz ?_ | refine PreW.own ?_ | refine AppW.mv ?_ | refine TakW.tree ?_ | refine dE ?_ | refine dD ?_ | refine dF ?_ | refine d0 ?_ | refine d1 ?_ | refine dL ?_ | refine dP ?_ | refine And.intro tgi ?_ | refine ⟨_, shl1 (by omega), ?_⟩ | refine ⟨_, wru64 ti ti, ?_⟩ | refine ⟨_, fun _ => (IntKind.wrap_u64 _).symm, ?_⟩); conv => whnf) | (refine CallV.ret ?_; conv => whnf) | exact ⟨_, .keep rfl rfl⟩ | fail
  refine lp [14] (fun p : UB => [.i .i64 p.j]) (fun p => rp2 (some (pin 2)) nm ps ret n :: rpO (some (pin 3)) (some (pin 1004)) (some (pin 1005)) t3 t4 t5 nm ps ret n reg v p.l) (fun p => p.j ≤ ((bs.getD b Enc.d).code.getD i Enc.d).args.length ∧ p.l = updT bs b i (rpJ reg v p.j ((bs.getD b Enc.d).code.getD i Enc.d))) (fun p => ((bs.getD b Enc.d).code.getD i Enc.d).args.length - p.j) ⟨0, bs⟩ ⟨Nat.zero_le _, (updT_same hb0 hi0).symm⟩ ?_ fun p hp => ?_
  · refine eP [] [] ?_ ?_ <;> repeat' first | exact eN | refine And.intro ?_ ?_
    all_goals first | exact optK_rfl _ | exact fun i _ => teqs_refl _
  conv => whnf
  obtain ⟨j, l⟩ := p
  obtain ⟨hj, hl⟩ := hp
  simp only at hj hl
  have hy : (l.getD b Enc.d).code.getD i Enc.d = rpJ reg v j ((bs.getD b Enc.d).code.getD i Enc.d) := by rw [hl]; exact updT_at hb0 hi0
  have hya : ((l.getD b Enc.d).code.getD i Enc.d).args = upto (rpA reg v) j ((bs.getD b Enc.d).code.getD i Enc.d).args := by rw [hy]; rfl
  have hyn : ((l.getD b Enc.d).code.getD i Enc.d).args.length = ((bs.getD b Enc.d).code.getD i Enc.d).args.length := by rw [hya, upto_len]
  have hlb : b < l.length := by rw [hl, updT_len]; exact hb0
  have hli : i < (l.getD b Enc.d).code.length := by rw [hl, updT_code hb0, List.length_set]; exact hi0
  repeat' first | (refine iF (fun hb => ?_) (fun hb => ?_) <;> (try simp only [pickB_or, pickB_and] at hb) <;> (have hc := hb; try simp only [sB, Int.reduceToNat] at hc; try simp only [addZ0] at hc) <;> first | (exfalso; omega) | conv => whnf) | ((first | refine ⟨_, wr64 ti ti, ?_⟩ | refine And.intro si ?_ | refine And.intro ⟨rfl, fun _ _ => rfl⟩ ?_ | refine And.intro (⟨⟨rfl, rfl⟩, by omega⟩ : (_ = _ ∧ _ = _) ∧ _) ?_ | refine And.intro (⟨rfl, by omega⟩ : _ = _ ∧ _) ?_ | refine LitW.frz ?_ | refine PreW.own ?_ | refine AppW.mv ?_ | refine TakW.tree ?_ | refine dE ?_ | refine dD ?_ | refine dF ?_ | refine d0 ?_ | refine d1 ?_ | refine dL ?_ | refine dP ?_ | refine And.intro tgi ?_ | refine ⟨_, shl1 (by omega), ?_⟩ | refine ⟨_, wru64 ti ti, ?_⟩ | refine ⟨_, fun _ => (IntKind.wrap_u64 _).symm, ?_⟩); conv => whnf) | (refine CallV.ret ?_; conv => whnf) | exact ⟨_, .keep rfl rfl⟩ | fail
  · have hj2 : j < ((bs.getD b Enc.d).code.getD i Enc.d).args.length := by omega
    have hA : ((l.getD b Enc.d).code.getD i Enc.d).args.getD j Enc.d = ((bs.getD b Enc.d).code.getD i Enc.d).args.getD j Enc.d := by rw [hya, upto_get rfl, if_neg (by omega)]
    have hc2 := hc
    simp only [Int.toNat_natCast, hA] at hc2
    have e : updT l b i (setA ((l.getD b Enc.d).code.getD i Enc.d) j v) = updT bs b i (rpJ reg v (j + 1) ((bs.getD b Enc.d).code.getD i Enc.d)) := by
      rw [hy]
      conv => lhs; rw [hl]
      rw [updT_updT hb0]
      have e3 := upto_set (g := rpA reg v) (d := Enc.d) hj2
      rw [rpA_t hc2] at e3
      unfold setA rpJ
      rw [← e3]
    refine .mk ⟨j + 1, updT l b i (setA ((l.getD b Enc.d).code.getD i Enc.d) j v)⟩ ⟨hj2, e⟩ (by show ((bs.getD b Enc.d).code.getD i Enc.d).args.length - (j + 1) < ((bs.getD b Enc.d).code.getD i Enc.d).args.length - j; omega) ?_
    refine eP [] [] ?_ ?_ <;> repeat' first | exact eN | refine And.intro ?_ ?_
    all_goals first | exact optK_rfl _ | exact fun i _ => teqs_refl _ | exact (updT_len _ _ _ _).symm | skip
    · intro t ht
      rw [show addZ 0 ((j : Int)).toNat = j by simp [addZ]]
      exact tree_upd2 hlb hli (by rw [hyn]; exact hj2)
  · have hj2 : j < ((bs.getD b Enc.d).code.getD i Enc.d).args.length := by omega
    have hA : ((l.getD b Enc.d).code.getD i Enc.d).args.getD j Enc.d = ((bs.getD b Enc.d).code.getD i Enc.d).args.getD j Enc.d := by rw [hya, upto_get rfl, if_neg (by omega)]
    have hc2 := hc
    simp only [Int.toNat_natCast, hA] at hc2
    refine .mk ⟨j + 1, l⟩ ⟨hj2, ?_⟩ (by show ((bs.getD b Enc.d).code.getD i Enc.d).args.length - (j + 1) < ((bs.getD b Enc.d).code.getD i Enc.d).args.length - j; omega) ?_
    · rw [hl]
      unfold rpJ
      rw [upto_skip (d := Enc.d) hj2 (rpA_f (fun h => hc2.elim (fun q => q h.1) (fun q => q h.2)))]
    refine eP [] [] ?_ ?_ <;> repeat' first | exact eN | refine And.intro ?_ ?_
    all_goals first | exact optK_rfl _ | exact fun i _ => teqs_refl _
  · obtain rfl : j = ((bs.getD b Enc.d).code.getD i Enc.d).args.length := by omega
    have e : l = updT bs b i (rpI reg v ((bs.getD b Enc.d).code.getD i Enc.d)) := by rw [hl]; unfold rpJ; exact congrArg (fun a => updT bs b i ⟨((bs.getD b Enc.d).code.getD i Enc.d).op, ((bs.getD b Enc.d).code.getD i Enc.d).reg, ((bs.getD b Enc.d).code.getD i Enc.d).t, ((bs.getD b Enc.d).code.getD i Enc.d).n, ((bs.getD b Enc.d).code.getD i Enc.d).f, a, ((bs.getD b Enc.d).code.getD i Enc.d).to⟩) (upto_all _ (Nat.le_refl _))
    rw [← e]
    refine ⟨[], [], ?_, ?_, rfl⟩ <;> repeat' first | exact eN | refine And.intro ?_ ?_
    all_goals first | exact optK_rfl _ | exact fun i _ => teqs_refl _
end Go.Proofs.Ytjfdbmfcnhjfoaa
namespace Go.Proofs.Ytjfdbmfcnhjfoaa.Pl
def Rg (z : Int) : Prop := 0 ≤ z ∧ z < 18446744073709551616
theorem mod_rg {n : Nat} (h : n ≤ 64) (z : Int) : Rg (z % 2 ^ n) := by
  have h1 := mod_range n z
  have h2 := pow_le_int h
  unfold Rg; omega
theorem mask_le {t : Int} (h : ¬ mask t = 0) : t.toNat ≤ 64 := by
  rcases Classical.em (1 ≤ t ∧ t ≤ 64) with q | q
  · omega
  · exact absurd (mask_zero.2 q) h
theorem rg0 : Rg 0 := by unfold Rg; decide
theorem conv_rg (op p q v : Int) : Rg (conv op p q v).1 := by
  unfold conv
  split
  · exact rg0
  · rename_i h
    have hp : ¬ mask p = 0 := fun e => h (.inl e)
    have hq : ¬ mask q = 0 := fun e => h (.inr e)
    repeat' split
    · exact mod_rg (mask_le hp) _
    · exact mod_rg (mask_le hq) _
    · exact mod_rg (mask_le hq) _
    · exact rg0
theorem apply_rg (op w f a b : Int) : Rg (apply op w f a b).1 := by
  unfold apply
  cases h : badA op w f with
  | true => exact rg0
  | false =>
    obtain ⟨⟨n, rfl, h1, h2⟩, _⟩ := goodA h
    simp only [cond_false, Int.toNat_natCast]
    unfold cutR
    cases ((core op n f (a % 2 ^ n) (b % 2 ^ n)).2 != 0)
    · exact mod_rg h2 _
    · exact rg0
theorem at_rg {ws : List Int} {xs : List Vl} (i : Nat) : Rg (at_ (row ws xs) i).b := by
  unfold at_
  rw [List.getD_eq_getElem?_getD]
  cases h : (row ws xs)[i]? with
  | none => exact rg0
  | some y => exact row_range (List.mem_of_getElem? h)
theorem made_rg (op t n f : Int) (ws : List Int) (xs : List Vl) : Rg (made op t n f (row ws xs)).1.b := by
  have h0 := at_rg (ws := ws) (xs := xs) 0
  have h1 := at_rg (ws := ws) (xs := xs) 1
  have h2 := at_rg (ws := ws) (xs := xs) 2
  unfold made
  generalize at_ (row ws xs) 0 = a at *
  generalize at_ (row ws xs) 1 = b at *
  generalize at_ (row ws xs) 2 = c at *
  have r1 : Rg 1 := by unfold Rg; decide
  unfold chosen loosely clear number
  simp only [Bool.cond_eq_ite]
  repeat' split
  all_goals first | exact rg0 | exact h0 | exact h1 | exact h2 | exact r1 | exact conv_rg _ _ _ _ | exact apply_rg _ _ _ _ _
theorem eval_rg (op t n f : Int) (xs : List Vl) : Rg (eval op t n f xs).1.b := by
  unfold eval
  split
  · exact rg0
  · rename_i ws _
    cases h : (ws.length != xs.length)
    · exact made_rg _ _ _ _ _ _
    · exact rg0
end Go.Proofs.Ytjfdbmfcnhjfoaa.Pl

namespace Go.Proofs.Ytjfdbmfcnhjfoaa
open Go.RowKit
end Go.Proofs.Ytjfdbmfcnhjfoaa
