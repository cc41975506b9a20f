/- Contracts of the functions of package bits: each does what Pl says. -/
import Derived.Test.YtffimfmicapaaaaRows
import Derived.Test.YtffimfmicapaaaaPl
import Derived.Test.YtffimfmicapaaaaShelf
import Derived.Test.YtffimfmicapaaaaEng
import Derived.WalkKit
import Derived.Below
import Derived.Lib.Hide
import Derived.WalkLawsBesides
import Derived.WalkSpells
import Derived.Laws.Externs
namespace Go.Proofs.Ytffimfmicapaaaa
open Go.RowKit
set_option linter.unusedVariables false

theorem ret1 {k : IntKind} {a a' : Int} (h : a = a') : Ending.returned (.int k a) = .returned (.int k a') := by rw [h]
theorem ret2 {k1 k2 : IntKind} {a b a' b' : Int} (h : a = a') (h' : b = b') : Ending.returned (.tuple #[.int k1 a, .int k2 b]) = .returned (.tuple #[.int k1 a', .int k2 b']) := by rw [h, h']

theorem mask_any (t : Int) (w : World) : Calls Try.prog 37 #[.int .i64 t] w fun e w' => e = .returned (.int .u64 (Pl.mask t)) ∧ w = w' := by
  by_cases h : 1 ≤ t
  · by_cases h' : t ≤ 64
    · go_enter Try.func37, Try.ntmps37
      go_wp2
      go_ret
      refine ⟨ret1 ?_, rfl⟩
      obtain ⟨n, rfl⟩ := Int.eq_ofNat_of_zero_le (by omega : 0 ≤ t)
      rw [Pl.mask_eq (by omega)]
      exact (Pl.mask_in (by omega) (by omega)).symm
    · go_enter Try.func37, Try.ntmps37
      go_wp2
      go_ret
      exact ⟨ret1 (Pl.mask_out (by omega)).symm, rfl⟩
  · go_enter Try.func37, Try.ntmps37
    go_wp2
    go_ret
    exact ⟨ret1 (Pl.mask_out (by omega)).symm, rfl⟩

theorem signed_any (t v : Int) (w : World) : Calls Try.prog 49 #[.int .i64 t, .int .u64 v] w fun e w' => e = .returned (.int .i64 (Pl.signed t v)) ∧ w = w' := by
  by_cases h : 1 ≤ t
  · by_cases h' : t ≤ 64
    · go_enter Try.func49, Try.ntmps49
      go_wp2
      go_ret
      refine ⟨ret1 ?_, rfl⟩
      obtain ⟨n, rfl⟩ := Int.eq_ofNat_of_zero_le (by omega : 0 ≤ t)
      rw [Pl.signed_eq (by omega) (by omega)]
      exact (Pl.signed_in (by omega) (by omega)).symm
    · go_enter Try.func49, Try.ntmps49
      go_wp2
      go_ret
      exact ⟨ret1 (Pl.signed_out (by omega)).symm, rfl⟩
  · go_enter Try.func49, Try.ntmps49
    go_wp2
    go_ret
    exact ⟨ret1 (Pl.signed_out (by omega)).symm, rfl⟩

theorem flags_any (op : Int) (w : World) : Calls Try.prog 35 #[.int .i64 op] w fun e w' => e = .returned (.int .i64 (Pl.flags op)) ∧ w = w' := by
  go_enter Try.func35, Try.ntmps35
  go_wp2
  all_goals (go_ret; exact ⟨ret1 (by simp_all [Pl.flags]), rfl⟩)

theorem size_any (x : Int) (w : World) (h : -9223372036854775808 ≤ x) (h' : x ≤ 9223372036854775807) : Calls Try.prog 63 #[.int .i64 x] w fun e w' => e = .returned (.int .u64 (x.natAbs : Int)) ∧ w = w' := by
  go_enter Try.func63, Try.ntmps63
  go_wp2
  all_goals (go_ret; refine ⟨ret1 ?_, rfl⟩; first | omega | (simp only [IntKind.wrap_u64]; omega))

theorem bret {b b' : Bool} (h : b = b') : Ending.returned (.bool b) = .returned (.bool b') := by rw [h]

theorem product_any (n : Nat) (x y : Int) (w : World) (hn : 1 ≤ n) (hn' : n ≤ 64) (hx : -9223372036854775808 ≤ x) (hx' : x ≤ 9223372036854775807) (hy : -9223372036854775808 ≤ y) (hy' : y ≤ 9223372036854775807) :
    Calls Try.prog 57 #[.int .i64 n, .int .i64 x, .int .i64 y] w fun e w' => e = .returned (.bool (!Pl.fitsS n (x * y))) ∧ w = w' := by
  go_enter Try.func57, Try.ntmps57
  go_wp2_with (first | (go_at_call 63; refine (size_any _ _ (by omega) (by omega)).mono ?_; rintro e w' ⟨rfl, rfl⟩) | fail)
  refine (Try.bits_Mul64 _ _ (by omega) (by omega) _).mono ?_
  rintro e w' ⟨rfl, rfl⟩
  go_wp2_with fail
  all_goals (go_ret; refine ⟨bret ?_, rfl⟩)
  · exact Pl.product1 hn hn' ‹_› ‹_›
  · exact Pl.product2 hn hn' ‹_› ‹_›
  · exact Pl.product3 hn hn' ‹_› ‹_›
  · exact Pl.product4 hn hn' ‹_› ‹_›

theorem add64_run (x y : Int) (hx : 0 ≤ x) (hy : 0 ≤ y) (w : World) :
    (callFunc 55 #[.int .u64 x, .int .u64 y, .int .u64 0]).run Try.prog w =
      .ok (.value (.tuple #[.int .u64 ((x + y) % 18446744073709551616), .int .u64 ((x + y) / 18446744073709551616)])) w := by
  rw [run_callFunc_extern Try.func55 (by kernel_rfl) (by kernel_rfl) (by kernel_rfl) (e := add64Entry) (by kernel_rfl), run_add64 x y 0 hx hy (by omega) (by omega)]
  simp only [Result.andThen, Int.add_zero]

theorem mask_V (t : Int) : SpecV Try.prog 37 [.int .i64 t] (.int .u64 (Pl.mask t)) := SpecV.of_same (mask_any t)
theorem signed_V (t v : Int) : SpecV Try.prog 49 [.int .i64 t, .int .u64 v] (.int .i64 (Pl.signed t v)) := SpecV.of_same (signed_any t v)
theorem flags_V (op : Int) : SpecV Try.prog 35 [.int .i64 op] (.int .i64 (Pl.flags op)) := SpecV.of_same (flags_any op)
theorem mul64_V (x y : Int) (hx0 : 0 ≤ x) (hx : x < 18446744073709551616) (hy0 : 0 ≤ y) (hy : y < 18446744073709551616) : SpecV Try.prog 56 [.int .u64 x, .int .u64 y] (.tuple #[.int .u64 (x * y / 18446744073709551616), .int .u64 (x * y % 18446744073709551616)]) := by
  obtain ⟨a, rfl⟩ := Int.eq_ofNat_of_zero_le hx0
  obtain ⟨b, rfl⟩ := Int.eq_ofNat_of_zero_le hy0
  refine SpecV.of_same fun w => (Try.bits_Mul64 a b (by omega) (by omega) w).mono fun _ _ ⟨h, h'⟩ => ⟨?_, h'.symm⟩
  rw [h]; simp only [Int.natCast_ediv, Int.natCast_emod, Int.natCast_mul]; rfl
theorem product_V (n : Nat) (x y : Int) (hn : 1 ≤ n) (hn' : n ≤ 64) (hx : -9223372036854775808 ≤ x) (hx' : x ≤ 9223372036854775807) (hy : -9223372036854775808 ≤ y) (hy' : y ≤ 9223372036854775807) :
    SpecV Try.prog 57 [.int .i64 n, .int .i64 x, .int .i64 y] (.bool (!Pl.fitsS n (x * y))) := SpecV.of_same fun w => product_any n x y w hn hn' hx hx' hy hy'
end Go.Proofs.Ytffimfmicapaaaa
