/- Values compared. -/
import Derived.Test.YtffimfmicapaaaaNorm
import Derived.Test.YtffimfmicapaaaaValG
import Derived.Laws.StructEq
namespace Go.Proofs.Ytffimfmicapaaaa
open Go.RowKit
set_option linter.unusedVariables false
open Pl (Vl)

theorem val_eql (x y : Operand) (u v : Vl) (w : World) : (do eqGuard .eql 35 x y u.val v.val; binOp .eql 35 u.val v.val).run Try.prog w = .ok (.bool (decide (u = v))) w := by
  have e : decide (u = v) = (u.k == v.k && (u.b == v.b && (u.bl == v.bl && u.off == v.off))) := by
    cases u; cases v; rw [Bool.eq_iff_iff]; simp
  rw [e]
  unfold Vl.val Vl.cells
  simp [go_sem]
  repeat' split
  all_goals simp_all
end Go.Proofs.Ytffimfmicapaaaa
