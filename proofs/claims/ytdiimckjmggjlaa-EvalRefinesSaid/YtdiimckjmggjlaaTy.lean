/- Closed facts on the types of this program, printed by a program. -/
import Derived.Test.YtdiimckjmggjlaaMem2
import Derived.Test.YtdiimckjmggjlaaProg
namespace Go.Proofs.Ytdiimckjmggjlaa
set_option linter.unusedSimpArgs false
theorem Try.places_25 {fs : Array Field} (h : Try.prog.underlying 25 = some (.struct fs)) : ∀ w, (fs.mapM fun f => (do pure (f.offset, ← sizeOf f.type) : Sem (Nat × Nat))).run Try.prog w = .ok #[(0, 1), (1, 1), (2, 1), (3, 1), (4, 1), (5, 1), (6, 1)] w := by
  rw [Try.underlying25] at h; cases h; intro w; kernel_rfl
theorem Try.places_30 {fs : Array Field} (h : Try.prog.underlying 30 = some (.struct fs)) : ∀ w, (fs.mapM fun f => (do pure (f.offset, ← sizeOf f.type) : Sem (Nat × Nat))).run Try.prog w = .ok #[(0, 1), (1, 1), (2, 1), (3, 1)] w := by
  rw [Try.underlying30] at h; cases h; intro w; kernel_rfl
theorem Try.fieldAt_25_0 : ∀ a w, (Instr.fieldAt 25 (.pointer (some a)) 0).run Try.prog w = .ok (.pointer (some (a.add 0))) w := by
  intro a w; simp [Instr.fieldAt, run_underlying Try.underlying25, Instr.sureAddr, fieldPlace, Try.sizeOf3]
theorem Try.fieldAt_25_2 : ∀ a w, (Instr.fieldAt 25 (.pointer (some a)) 2).run Try.prog w = .ok (.pointer (some (a.add 2))) w := by
  intro a w; simp [Instr.fieldAt, run_underlying Try.underlying25, Instr.sureAddr, fieldPlace, Try.sizeOf3]
theorem Try.fieldAt_25_3 : ∀ a w, (Instr.fieldAt 25 (.pointer (some a)) 3).run Try.prog w = .ok (.pointer (some (a.add 3))) w := by
  intro a w; simp [Instr.fieldAt, run_underlying Try.underlying25, Instr.sureAddr, fieldPlace, Try.sizeOf3]
theorem Try.fieldAt_25_4 : ∀ a w, (Instr.fieldAt 25 (.pointer (some a)) 4).run Try.prog w = .ok (.pointer (some (a.add 4))) w := by
  intro a w; simp [Instr.fieldAt, run_underlying Try.underlying25, Instr.sureAddr, fieldPlace, Try.sizeOf3]
theorem Try.fieldAt_30_0 : ∀ a w, (Instr.fieldAt 30 (.pointer (some a)) 0).run Try.prog w = .ok (.pointer (some (a.add 0))) w := by
  intro a w; simp [Instr.fieldAt, run_underlying Try.underlying30, Instr.sureAddr, fieldPlace, Try.sizeOf3]
theorem Try.fieldAt_30_1 : ∀ a w, (Instr.fieldAt 30 (.pointer (some a)) 1).run Try.prog w = .ok (.pointer (some (a.add 1))) w := by
  intro a w; simp [Instr.fieldAt, run_underlying Try.underlying30, Instr.sureAddr, fieldPlace, Try.sizeOf28]
theorem Try.fieldAt_30_2 : ∀ a w, (Instr.fieldAt 30 (.pointer (some a)) 2).run Try.prog w = .ok (.pointer (some (a.add 2))) w := by
  intro a w; simp [Instr.fieldAt, run_underlying Try.underlying30, Instr.sureAddr, fieldPlace, Try.sizeOf3]
theorem Try.fieldAt_30_3 : ∀ a w, (Instr.fieldAt 30 (.pointer (some a)) 3).run Try.prog w = .ok (.pointer (some (a.add 3))) w := by
  intro a w; simp [Instr.fieldAt, run_underlying Try.underlying30, Instr.sureAddr, fieldPlace, Try.sizeOf2]
theorem Try.bytes_30 : (Try.prog.info? 30).map (·.bytes) = some 32 := by kernel_rfl
theorem Try.rowinfo_30 : rowInfo Try.prog 30 = some (4, 32, some 4) := by kernel_rfl
end Go.Proofs.Ytdiimckjmggjlaa
