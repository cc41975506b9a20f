/- The program's own types: what is told of them. -/
import Derived.Test.YtffimfmicapaaaaDat
import Derived.Test.YtffimfmicapaaaaTy
import Derived.Test.YtffimfmicapaaaaPl
import Derived.Laws.StructEq
namespace Go.Proofs.Ytffimfmicapaaaa
open Go.RowKit
set_option linter.unusedVariables false
set_option linter.unusedSimpArgs false
open Pl (Vl)
structure Vl.Ok (x : Vl) (w : World) : Prop where
  rg0 : 0 ≤ x.b ∧ x.b < 18446744073709551616
instance : Dat Vl := ⟨fun x => [.int .i64 x.k, .int .u64 x.b, .int .i64 x.bl, .int .i64 x.off], 4, fun _ => rfl, fun _ => rfl, Vl.Ok, ⟨0, 0, 0, 0⟩⟩
theorem Vl_eql (x y : Operand) (u v : Vl) (w : World) : (do eqGuard .eql 35 x y (.agg ([.int .i64 u.k, .int .u64 u.b, .int .i64 u.bl, .int .i64 u.off] : List Value).toArray) (.agg ([.int .i64 v.k, .int .u64 v.b, .int .i64 v.bl, .int .i64 v.off] : List Value).toArray); binOp .eql 35 (.agg ([.int .i64 u.k, .int .u64 u.b, .int .i64 u.bl, .int .i64 u.off] : List Value).toArray) (.agg ([.int .i64 v.k, .int .u64 v.b, .int .i64 v.bl, .int .i64 v.off] : List Value).toArray)).run Try.prog w = .ok (.bool (decide (u = v))) w := by
  have e : decide (u = v) = (u.k == v.k && (u.b == v.b && (u.bl == v.bl && (u.off == v.off)))) := by
    cases u; cases v; rw [Bool.eq_iff_iff]; simp
  rw [e]
  simp [go_sem]
  repeat' split
  all_goals simp_all
structure Opd where
  k : Int
  n : Int
  b : Int
  deriving DecidableEq
structure Opd.Ok (x : Opd) (w : World) : Prop where
  rg0 : 0 ≤ x.b ∧ x.b < 18446744073709551616
instance : Dat Opd := ⟨fun x => [.int .i64 x.k, .int .i64 x.n, .int .u64 x.b], 3, fun _ => rfl, fun _ => rfl, Opd.Ok, ⟨0, 0, 0⟩⟩
theorem Opd_eql (x y : Operand) (u v : Opd) (w : World) : (do eqGuard .eql 29 x y (.agg ([.int .i64 u.k, .int .i64 u.n, .int .u64 u.b] : List Value).toArray) (.agg ([.int .i64 v.k, .int .i64 v.n, .int .u64 v.b] : List Value).toArray); binOp .eql 29 (.agg ([.int .i64 u.k, .int .i64 u.n, .int .u64 u.b] : List Value).toArray) (.agg ([.int .i64 v.k, .int .i64 v.n, .int .u64 v.b] : List Value).toArray)).run Try.prog w = .ok (.bool (decide (u = v))) w := by
  have e : decide (u = v) = (u.k == v.k && (u.n == v.n && (u.b == v.b))) := by
    cases u; cases v; rw [Bool.eq_iff_iff]; simp
  rw [e]
  simp [go_sem]
  repeat' split
  all_goals simp_all
structure Ins where
  op : Int
  reg : Int
  t : Int
  n : Int
  f : Int
  args : SlD Opd
  to : SlD Int
structure Ins.Ok (x : Ins) (w : World) : Prop where
  args : Dat.ok x.args w
  to : Dat.ok x.to w
  rg0 : -9223372036854775808 ≤ x.f ∧ x.f ≤ 9223372036854775807
instance : Dat Ins := ⟨fun x => [.int .i64 x.op, .int .i64 x.reg, .int .i64 x.t, .int .i64 x.n, .int .i64 x.f, .slice x.args.a x.args.l.length x.args.cap, .slice x.to.a x.to.l.length x.to.cap], 7, fun _ => rfl, fun _ => rfl, Ins.Ok, ⟨0, 0, 0, 0, 0, SlD.nil, SlD.nil⟩⟩
end Go.Proofs.Ytffimfmicapaaaa
