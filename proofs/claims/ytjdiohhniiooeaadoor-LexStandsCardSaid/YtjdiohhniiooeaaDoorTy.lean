/- Closed facts on the types of this program, printed by a program. -/
import Derived.Test.YtjdiohhniiooeaaDoorMem2
import Derived.Test.YtjdiohhniiooeaaDoorProg
namespace Go.Proofs.YtjdiohhniiooeaaDoor
set_option linter.unusedSimpArgs false
theorem Tryd.places_26 {fs : Array Field} (h : Tryd.prog.underlying 26 = some (.struct fs)) : ∀ w, (fs.mapM fun f => (do pure (f.offset, ← sizeOf f.type) : Sem (Nat × Nat))).run Tryd.prog w = .ok #[(0, 1), (1, 1), (2, 1)] w := by
  rw [Tryd.underlying26] at h; cases h; intro w; kernel_rfl
theorem Tryd.places_31 {fs : Array Field} (h : Tryd.prog.underlying 31 = some (.struct fs)) : ∀ w, (fs.mapM fun f => (do pure (f.offset, ← sizeOf f.type) : Sem (Nat × Nat))).run Tryd.prog w = .ok #[(0, 1), (1, 1), (2, 1), (3, 1)] w := by
  rw [Tryd.underlying31] at h; cases h; intro w; kernel_rfl
theorem Tryd.places_39 {fs : Array Field} (h : Tryd.prog.underlying 39 = some (.struct fs)) : ∀ w, (fs.mapM fun f => (do pure (f.offset, ← sizeOf f.type) : Sem (Nat × Nat))).run Tryd.prog w = .ok #[(0, 1), (1, 1), (2, 1), (3, 1), (4, 1), (5, 1)] w := by
  rw [Tryd.underlying39] at h; cases h; intro w; kernel_rfl
theorem Tryd.fieldAt_26_0 : ∀ a w, (Instr.fieldAt 26 (.pointer (some a)) 0).run Tryd.prog w = .ok (.pointer (some (a.add 0))) w := by
  intro a w; simp [Instr.fieldAt, run_underlying Tryd.underlying26, Instr.sureAddr, fieldPlace, Tryd.sizeOf24]
theorem Tryd.fieldAt_26_2 : ∀ a w, (Instr.fieldAt 26 (.pointer (some a)) 2).run Tryd.prog w = .ok (.pointer (some (a.add 2))) w := by
  intro a w; simp [Instr.fieldAt, run_underlying Tryd.underlying26, Instr.sureAddr, fieldPlace, Tryd.sizeOf3]
theorem Tryd.fieldAt_31_0 : ∀ a w, (Instr.fieldAt 31 (.pointer (some a)) 0).run Tryd.prog w = .ok (.pointer (some (a.add 0))) w := by
  intro a w; simp [Instr.fieldAt, run_underlying Tryd.underlying31, Instr.sureAddr, fieldPlace, Tryd.sizeOf3]
theorem Tryd.fieldAt_31_1 : ∀ a w, (Instr.fieldAt 31 (.pointer (some a)) 1).run Tryd.prog w = .ok (.pointer (some (a.add 1))) w := by
  intro a w; simp [Instr.fieldAt, run_underlying Tryd.underlying31, Instr.sureAddr, fieldPlace, Tryd.sizeOf9]
theorem Tryd.fieldAt_31_2 : ∀ a w, (Instr.fieldAt 31 (.pointer (some a)) 2).run Tryd.prog w = .ok (.pointer (some (a.add 2))) w := by
  intro a w; simp [Instr.fieldAt, run_underlying Tryd.underlying31, Instr.sureAddr, fieldPlace, Tryd.sizeOf3]
theorem Tryd.fieldAt_31_3 : ∀ a w, (Instr.fieldAt 31 (.pointer (some a)) 3).run Tryd.prog w = .ok (.pointer (some (a.add 3))) w := by
  intro a w; simp [Instr.fieldAt, run_underlying Tryd.underlying31, Instr.sureAddr, fieldPlace, Tryd.sizeOf3]
theorem Tryd.fieldAt_39_0 : ∀ a w, (Instr.fieldAt 39 (.pointer (some a)) 0).run Tryd.prog w = .ok (.pointer (some (a.add 0))) w := by
  intro a w; simp [Instr.fieldAt, run_underlying Tryd.underlying39, Instr.sureAddr, fieldPlace, Tryd.sizeOf9]
theorem Tryd.fieldAt_39_1 : ∀ a w, (Instr.fieldAt 39 (.pointer (some a)) 1).run Tryd.prog w = .ok (.pointer (some (a.add 1))) w := by
  intro a w; simp [Instr.fieldAt, run_underlying Tryd.underlying39, Instr.sureAddr, fieldPlace, Tryd.sizeOf3]
theorem Tryd.fieldAt_39_2 : ∀ a w, (Instr.fieldAt 39 (.pointer (some a)) 2).run Tryd.prog w = .ok (.pointer (some (a.add 2))) w := by
  intro a w; simp [Instr.fieldAt, run_underlying Tryd.underlying39, Instr.sureAddr, fieldPlace, Tryd.sizeOf3]
theorem Tryd.fieldAt_39_3 : ∀ a w, (Instr.fieldAt 39 (.pointer (some a)) 3).run Tryd.prog w = .ok (.pointer (some (a.add 3))) w := by
  intro a w; simp [Instr.fieldAt, run_underlying Tryd.underlying39, Instr.sureAddr, fieldPlace, Tryd.sizeOf3]
theorem Tryd.fieldAt_39_4 : ∀ a w, (Instr.fieldAt 39 (.pointer (some a)) 4).run Tryd.prog w = .ok (.pointer (some (a.add 4))) w := by
  intro a w; simp [Instr.fieldAt, run_underlying Tryd.underlying39, Instr.sureAddr, fieldPlace, Tryd.sizeOf23]
theorem Tryd.fieldAt_39_5 : ∀ a w, (Instr.fieldAt 39 (.pointer (some a)) 5).run Tryd.prog w = .ok (.pointer (some (a.add 5))) w := by
  intro a w; simp [Instr.fieldAt, run_underlying Tryd.underlying39, Instr.sureAddr, fieldPlace, Tryd.sizeOf24]
theorem Tryd.rowinfo_3 : rowInfo Tryd.prog 3 = some (1, 8, some 1) := by kernel_rfl
theorem Tryd.rowinfo_31 : rowInfo Tryd.prog 31 = some (4, 40, some 4) := by kernel_rfl
end Go.Proofs.YtjdiohhniiooeaaDoor
