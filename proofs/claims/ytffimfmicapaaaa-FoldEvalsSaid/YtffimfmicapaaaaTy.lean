/- Closed facts on the types of this program, printed by a program. -/
import Derived.Test.YtffimfmicapaaaaMem2
import Derived.Test.YtffimfmicapaaaaProg
namespace Go.Proofs.Ytffimfmicapaaaa
set_option linter.unusedSimpArgs false
theorem Try.places_25 {fs : Array Field} (h : Try.prog.underlying 25 = some (.struct fs)) : ∀ w, (fs.mapM fun f => (do pure (f.offset, ← sizeOf f.type) : Sem (Nat × Nat))).run Try.prog w = .ok #[(0, 1), (1, 1), (2, 1), (3, 1), (4, 1), (5, 1), (6, 1)] w := by
  rw [Try.underlying25] at h; cases h; intro w; kernel_rfl
theorem Try.places_29 {fs : Array Field} (h : Try.prog.underlying 29 = some (.struct fs)) : ∀ w, (fs.mapM fun f => (do pure (f.offset, ← sizeOf f.type) : Sem (Nat × Nat))).run Try.prog w = .ok #[(0, 1), (1, 1), (2, 1)] w := by
  rw [Try.underlying29] at h; cases h; intro w; kernel_rfl
theorem Try.places_35 {fs : Array Field} (h : Try.prog.underlying 35 = some (.struct fs)) : ∀ w, (fs.mapM fun f => (do pure (f.offset, ← sizeOf f.type) : Sem (Nat × Nat))).run Try.prog w = .ok #[(0, 1), (1, 1), (2, 1), (3, 1)] w := by
  rw [Try.underlying35] at h; cases h; intro w; kernel_rfl
theorem Try.places_65 {fs : Array Field} (h : Try.prog.underlying 65 = some (.struct fs)) : ∀ w, (fs.mapM fun f => (do pure (f.offset, ← sizeOf f.type) : Sem (Nat × Nat))).run Try.prog w = .ok #[(0, 1), (1, 1), (2, 1)] w := by
  rw [Try.underlying65] at h; cases h; intro w; kernel_rfl
theorem Try.fieldAt_25_0 : ∀ a w, (Instr.fieldAt 25 (.pointer (some a)) 0).run Try.prog w = .ok (.pointer (some (a.add 0))) w := by
  intro a w; simp [Instr.fieldAt, run_underlying Try.underlying25, Instr.sureAddr, fieldPlace, Try.sizeOf3]
theorem Try.fieldAt_25_2 : ∀ a w, (Instr.fieldAt 25 (.pointer (some a)) 2).run Try.prog w = .ok (.pointer (some (a.add 2))) w := by
  intro a w; simp [Instr.fieldAt, run_underlying Try.underlying25, Instr.sureAddr, fieldPlace, Try.sizeOf3]
theorem Try.fieldAt_25_3 : ∀ a w, (Instr.fieldAt 25 (.pointer (some a)) 3).run Try.prog w = .ok (.pointer (some (a.add 3))) w := by
  intro a w; simp [Instr.fieldAt, run_underlying Try.underlying25, Instr.sureAddr, fieldPlace, Try.sizeOf3]
theorem Try.fieldAt_25_4 : ∀ a w, (Instr.fieldAt 25 (.pointer (some a)) 4).run Try.prog w = .ok (.pointer (some (a.add 4))) w := by
  intro a w; simp [Instr.fieldAt, run_underlying Try.underlying25, Instr.sureAddr, fieldPlace, Try.sizeOf3]
theorem Try.fieldAt_25_5 : ∀ a w, (Instr.fieldAt 25 (.pointer (some a)) 5).run Try.prog w = .ok (.pointer (some (a.add 5))) w := by
  intro a w; simp [Instr.fieldAt, run_underlying Try.underlying25, Instr.sureAddr, fieldPlace, Try.sizeOf22]
theorem Try.fieldAt_29_0 : ∀ a w, (Instr.fieldAt 29 (.pointer (some a)) 0).run Try.prog w = .ok (.pointer (some (a.add 0))) w := by
  intro a w; simp [Instr.fieldAt, run_underlying Try.underlying29, Instr.sureAddr, fieldPlace, Try.sizeOf3]
theorem Try.fieldAt_29_1 : ∀ a w, (Instr.fieldAt 29 (.pointer (some a)) 1).run Try.prog w = .ok (.pointer (some (a.add 1))) w := by
  intro a w; simp [Instr.fieldAt, run_underlying Try.underlying29, Instr.sureAddr, fieldPlace, Try.sizeOf3]
theorem Try.fieldAt_29_2 : ∀ a w, (Instr.fieldAt 29 (.pointer (some a)) 2).run Try.prog w = .ok (.pointer (some (a.add 2))) w := by
  intro a w; simp [Instr.fieldAt, run_underlying Try.underlying29, Instr.sureAddr, fieldPlace, Try.sizeOf27]
theorem Try.fieldAt_35_0 : ∀ a w, (Instr.fieldAt 35 (.pointer (some a)) 0).run Try.prog w = .ok (.pointer (some (a.add 0))) w := by
  intro a w; simp [Instr.fieldAt, run_underlying Try.underlying35, Instr.sureAddr, fieldPlace, Try.sizeOf3]
theorem Try.fieldAt_35_1 : ∀ a w, (Instr.fieldAt 35 (.pointer (some a)) 1).run Try.prog w = .ok (.pointer (some (a.add 1))) w := by
  intro a w; simp [Instr.fieldAt, run_underlying Try.underlying35, Instr.sureAddr, fieldPlace, Try.sizeOf27]
theorem Try.fieldAt_35_2 : ∀ a w, (Instr.fieldAt 35 (.pointer (some a)) 2).run Try.prog w = .ok (.pointer (some (a.add 2))) w := by
  intro a w; simp [Instr.fieldAt, run_underlying Try.underlying35, Instr.sureAddr, fieldPlace, Try.sizeOf3]
theorem Try.fieldAt_35_3 : ∀ a w, (Instr.fieldAt 35 (.pointer (some a)) 3).run Try.prog w = .ok (.pointer (some (a.add 3))) w := by
  intro a w; simp [Instr.fieldAt, run_underlying Try.underlying35, Instr.sureAddr, fieldPlace, Try.sizeOf2]
theorem Try.fieldAt_65_0 : ∀ a w, (Instr.fieldAt 65 (.pointer (some a)) 0).run Try.prog w = .ok (.pointer (some (a.add 0))) w := by
  intro a w; simp [Instr.fieldAt, run_underlying Try.underlying65, Instr.sureAddr, fieldPlace, Try.sizeOf27]
theorem Try.fieldAt_65_1 : ∀ a w, (Instr.fieldAt 65 (.pointer (some a)) 1).run Try.prog w = .ok (.pointer (some (a.add 1))) w := by
  intro a w; simp [Instr.fieldAt, run_underlying Try.underlying65, Instr.sureAddr, fieldPlace, Try.sizeOf27]
theorem Try.fieldAt_65_2 : ∀ a w, (Instr.fieldAt 65 (.pointer (some a)) 2).run Try.prog w = .ok (.pointer (some (a.add 2))) w := by
  intro a w; simp [Instr.fieldAt, run_underlying Try.underlying65, Instr.sureAddr, fieldPlace, Try.sizeOf4]
theorem Try.bytes_35 : (Try.prog.info? 35).map (·.bytes) = some 32 := by kernel_rfl
theorem Try.rowinfo_35 : rowInfo Try.prog 35 = some (4, 32, some 4) := by kernel_rfl
end Go.Proofs.Ytffimfmicapaaaa
