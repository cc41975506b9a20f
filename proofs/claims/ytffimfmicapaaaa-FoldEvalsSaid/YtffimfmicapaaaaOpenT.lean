/- What comes in, opened: the program's own types. -/
import Derived.Test.YtffimfmicapaaaaOpen
import Derived.Test.YtffimfmicapaaaaTyp
namespace Go.Proofs.Ytffimfmicapaaaa
open Go.RowKit
set_option linter.unusedVariables false
open Pl (Vl)
theorem opens_Vl : Opens Try.prog 35 (Dat.cells (α := Vl)) Dat.ok where
  open_ := fun enc w base sp hd fuel cs x h => by
    obtain ⟨c0, c1, c2, c3, rfl⟩ := list4 (trod_size Try.underlying35 h (n := 4) (by kernel_rfl))
    obtain ⟨z0, h0, w0⟩ := trod_field Try.underlying35 h 0 rfl (n := 1) rfl (by kernel_rfl) (Opens.int (k := .i64) (by kernel_rfl))
    obtain ⟨z1, h1, w1⟩ := trod_field Try.underlying35 h 1 rfl (n := 1) rfl (by kernel_rfl) (Opens.int (k := .u64) (by kernel_rfl))
    obtain ⟨z2, h2, w2⟩ := trod_field Try.underlying35 h 2 rfl (n := 1) rfl (by kernel_rfl) (Opens.int (k := .i64) (by kernel_rfl))
    obtain ⟨z3, h3, w3⟩ := trod_field Try.underlying35 h 3 rfl (n := 1) rfl (by kernel_rfl) (Opens.int (k := .i64) (by kernel_rfl))
    cases h0
    cases h1
    cases h2
    cases h3
    exact ⟨⟨z0, z1, z2, z3⟩, rfl, ⟨wf_u64 w1⟩⟩
  stay := fun d w w' h ha => ⟨h.rg0⟩
theorem opens_Opd : Opens Try.prog 29 (Dat.cells (α := Opd)) Dat.ok where
  open_ := fun enc w base sp hd fuel cs x h => by
    obtain ⟨c0, c1, c2, rfl⟩ := list3 (trod_size Try.underlying29 h (n := 3) (by kernel_rfl))
    obtain ⟨z0, h0, w0⟩ := trod_field Try.underlying29 h 0 rfl (n := 1) rfl (by kernel_rfl) (Opens.int (k := .i64) (by kernel_rfl))
    obtain ⟨z1, h1, w1⟩ := trod_field Try.underlying29 h 1 rfl (n := 1) rfl (by kernel_rfl) (Opens.int (k := .i64) (by kernel_rfl))
    obtain ⟨z2, h2, w2⟩ := trod_field Try.underlying29 h 2 rfl (n := 1) rfl (by kernel_rfl) (Opens.int (k := .u64) (by kernel_rfl))
    cases h0
    cases h1
    cases h2
    exact ⟨⟨z0, z1, z2⟩, rfl, ⟨wf_u64 w2⟩⟩
  stay := fun d w w' h ha => ⟨h.rg0⟩
theorem opens_Ins : Opens Try.prog 25 (Dat.cells (α := Ins)) Dat.ok where
  open_ := fun enc w base sp hd fuel cs x h => by
    obtain ⟨c0, c1, c2, c3, c4, c5, c6, rfl⟩ := list7 (trod_size Try.underlying25 h (n := 7) (by kernel_rfl))
    obtain ⟨z0, h0, w0⟩ := trod_field Try.underlying25 h 0 rfl (n := 1) rfl (by kernel_rfl) (Opens.int (k := .i64) (by kernel_rfl))
    obtain ⟨z1, h1, w1⟩ := trod_field Try.underlying25 h 1 rfl (n := 1) rfl (by kernel_rfl) (Opens.int (k := .i64) (by kernel_rfl))
    obtain ⟨z2, h2, w2⟩ := trod_field Try.underlying25 h 2 rfl (n := 1) rfl (by kernel_rfl) (Opens.int (k := .i64) (by kernel_rfl))
    obtain ⟨z3, h3, w3⟩ := trod_field Try.underlying25 h 3 rfl (n := 1) rfl (by kernel_rfl) (Opens.int (k := .i64) (by kernel_rfl))
    obtain ⟨z4, h4, w4⟩ := trod_field Try.underlying25 h 4 rfl (n := 1) rfl (by kernel_rfl) (Opens.int (k := .i64) (by kernel_rfl))
    obtain ⟨z5, h5, w5⟩ := trod_field Try.underlying25 h 5 rfl (n := 1) rfl (by kernel_rfl) ((Opens.sliceD Try.underlying22 (by kernel_rfl) opens_Opd))
    obtain ⟨z6, h6, w6⟩ := trod_field Try.underlying25 h 6 rfl (n := 1) rfl (by kernel_rfl) ((Opens.sliceD Try.underlying23 (by kernel_rfl) (opens_i64 (by kernel_rfl))))
    cases h0
    cases h1
    cases h2
    cases h3
    cases h4
    cases h5
    cases h6
    exact ⟨⟨z0, z1, z2, z3, z4, z5, z6⟩, rfl, ⟨w5, w6, wf_i64 w4⟩⟩
  stay := fun d w w' h ha => ⟨((Opens.sliceD Try.underlying22 (by kernel_rfl) opens_Opd)).stay _ _ _ h.args ha, ((Opens.sliceD Try.underlying23 (by kernel_rfl) (opens_i64 (by kernel_rfl)))).stay _ _ _ h.to ha, h.rg0⟩
end Go.Proofs.Ytffimfmicapaaaa
