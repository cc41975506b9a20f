/- What comes in to the laws of layer 10, opened. -/
import Derived.Test.YtdiimckjmggjlaaEvalM
import Derived.Test.YtdiimckjmggjlaaOpen
namespace Go.Proofs.Ytdiimckjmggjlaa
open Go.RowKit
set_option linter.unusedVariables false
set_option linter.unusedSimpArgs false
open Pl (Vl)
theorem list4 {α : Type} {l : List α} (h : l.length = 4) : ∃ a b c d, l = [a, b, c, d] := by
  match l, h with
  | [a, b, c, d], _ => exact ⟨a, b, c, d, rfl⟩
theorem list7 {α : Type} {l : List α} (h : l.length = 7) : ∃ a b c d e f g, l = [a, b, c, d, e, f, g] := by
  match l, h with
  | [a, b, c, d, e, f, g], _ => exact ⟨a, b, c, d, e, f, g, rfl⟩
theorem opens_int : Opens Try.prog 3 (fun z : Int => [.int .i64 z]) (fun z _ => (Lit.int .i64 z).wf = true) := Opens.int Try.underlying3
theorem opens_Val : Opens Try.prog 30 Vl.cells (fun v _ => Bd v) where
  open_ := fun enc w base sp hd fuel cs x h => by
    obtain ⟨c0, c1, c2, c3, rfl⟩ := list4 (trod_size Try.underlying30 h (n := 4) (by kernel_rfl))
    obtain ⟨z0, h0, w0⟩ := trod_field Try.underlying30 h 0 rfl (n := 1) rfl (by kernel_rfl) (Opens.int (k := .i64) (by kernel_rfl))
    obtain ⟨z1, h1, w1⟩ := trod_field Try.underlying30 h 1 rfl (n := 1) rfl (by kernel_rfl) (Opens.int (k := .u64) (by kernel_rfl))
    obtain ⟨z2, h2, w2⟩ := trod_field Try.underlying30 h 2 rfl (n := 1) rfl (by kernel_rfl) (Opens.int (k := .i64) (by kernel_rfl))
    obtain ⟨z3, h3, w3⟩ := trod_field Try.underlying30 h 3 rfl (n := 1) rfl (by kernel_rfl) (Opens.int (k := .i64) (by kernel_rfl))
    cases h0; cases h1; cases h2; cases h3
    exact ⟨⟨z0, z1, z2, z3⟩, rfl, wf_u64 w1⟩
  stay := fun _ _ _ h _ => h
def In.cells (i : In) : List Value := [.int .i64 i.op, .int .i64 i.reg, .int .i64 i.t, .int .i64 i.n, .int .i64 i.f, .slice i.args.1 i.args.2.1 i.args.2.2, .slice i.to.1 i.to.2.1 i.to.2.2]
def In.okF (i : In) : Prop := -9223372036854775808 ≤ i.f ∧ i.f ≤ 9223372036854775807
theorem opens_In : Opens Try.prog 25 In.cells (fun i _ => i.okF) where
  open_ := fun enc w base sp hd fuel cs x h => by
    obtain ⟨c0, c1, c2, c3, c4, c5, c6, rfl⟩ := list7 (trod_size Try.underlying25 h (n := 7) (by kernel_rfl))
    obtain ⟨z0, h0, w0⟩ := trod_field Try.underlying25 h 0 rfl (n := 1) rfl (by kernel_rfl) (Opens.int (k := .i64) (by kernel_rfl))
    obtain ⟨z1, h1, w1⟩ := trod_field Try.underlying25 h 1 rfl (n := 1) rfl (by kernel_rfl) (Opens.int (k := .i64) (by kernel_rfl))
    obtain ⟨z2, h2, w2⟩ := trod_field Try.underlying25 h 2 rfl (n := 1) rfl (by kernel_rfl) (Opens.int (k := .i64) (by kernel_rfl))
    obtain ⟨z3, h3, w3⟩ := trod_field Try.underlying25 h 3 rfl (n := 1) rfl (by kernel_rfl) (Opens.int (k := .i64) (by kernel_rfl))
    obtain ⟨z4, h4, w4⟩ := trod_field Try.underlying25 h 4 rfl (n := 1) rfl (by kernel_rfl) (Opens.int (k := .i64) (by kernel_rfl))
    obtain ⟨z5, h5, w5⟩ := trod_field Try.underlying25 h 5 rfl (n := 1) rfl (by kernel_rfl) (Opens.slice_ Try.underlying22)
    obtain ⟨z6, h6, w6⟩ := trod_field Try.underlying25 h 6 rfl (n := 1) rfl (by kernel_rfl) (Opens.slice_ Try.underlying23)
    cases h0; cases h1; cases h2; cases h3; cases h4; cases h5; cases h6
    exact ⟨⟨z0, z1, z2, z3, z4, z5, z6⟩, rfl, wf_i64 w4⟩
  stay := fun _ _ _ h _ => h
theorem opens_Vals : Opens Try.prog 26 (SlD.cells (α := Vl)) (SlD.ok 4 Vl.cells (fun v _ => Bd v)) := Opens.slice Try.underlying26 (by kernel_rfl) opens_Val
end Go.Proofs.Ytdiimckjmggjlaa
