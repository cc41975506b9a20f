/- Plain: the references of layers 9, 10 against what is known. -/
import Derived.Test.YtffimfmicapaaaaR10
import Derived.Test.YtffimfmicapaaaaPlS
import Derived.Test.YtffimfmicapaaaaPlI
namespace Go.Proofs.Ytffimfmicapaaaa.Pl
open Go.Proofs.Ytffimfmicapaaaa
set_option linter.unusedVariables false
set_option linter.unusedSimpArgs false
set_option maxRecDepth 100000
theorem width_mask (w : Int) : d_latheref01_width w = !(mask w == 0) := by
  unfold d_latheref01_width
  rw [Bool.eq_iff_iff]; simp only [Bool.and_eq_true, decide_eq_true_eq, Bool.not_eq_true', beq_eq_false_iff_ne, ne_eq, mask_zero, Classical.not_not]
theorem conv_ref {op p q v : Int} (hv : 0 ≤ v ∧ v < 18446744073709551616) : d_latheref01_Convert op p q v = conv op p q v := by
  unfold d_latheref01_Convert conv
  rw [width_mask, width_mask]
  rcases Classical.em (mask p = 0 ∨ mask q = 0) with h | h
  · rw [if_pos h]
    have : (!(!(mask p == 0) && !(mask q == 0))) = true := by simp; rcases h with h | h <;> simp [h]
    rw [this]; rfl
  · rw [if_neg h]
    have : (!(!(mask p == 0) && !(mask q == 0))) = false := by simp; omega
    rw [this, cond_false]
    have hp : 1 ≤ p ∧ p ≤ 64 := by have := mt mask_zero.2 (fun e => h (.inl e)); omega
    have hq : 1 ≤ q ∧ q ≤ 64 := by have := mt mask_zero.2 (fun e => h (.inr e)); omega
    obtain ⟨m, rfl⟩ := Int.eq_ofNat_of_zero_le (show 0 ≤ p by omega)
    obtain ⟨n, rfl⟩ := Int.eq_ofNat_of_zero_le (show 0 ≤ q by omega)
    rw [cut_eq (by omega) hv.1 hv.2, cut_eq (by omega) hv.1 hv.2, wrapped_eq (by omega) (with_rep (by omega) (by omega) hv.1 hv.2)]
    simp only [Bool.cond_eq_ite, Bool.and_eq_true, beq_iff_eq, decide_eq_true_eq, Int.toNat_natCast]
theorem norm_ref {t : Int} {v : Vl} (hv : 0 ≤ v.b ∧ v.b < 18446744073709551616) : d_latheref09_Norm t v = norm t v := by
  unfold d_latheref09_Norm norm
  simp only [Bool.cond_eq_ite, Bool.and_eq_true, beq_iff_eq, decide_eq_true_eq]
  have hmask : mask t = 0 ↔ ¬ (1 ≤ t ∧ t ≤ 64) := mask_zero
  have hcount : 0 < count t ↔ (1 ≤ t ∧ t ≤ 65) := by unfold count; (repeat' split) <;> omega
  have hcut : 1 ≤ t ∧ t ≤ 64 → d_latheref01_Cut t v.b = v.b % 2 ^ t.toNat := fun h => by
    obtain ⟨n, rfl⟩ := Int.eq_ofNat_of_zero_le (show 0 ≤ t by omega)
    rw [cut_eq (by omega) hv.1 hv.2]; rfl
  (repeat' split) <;> first | rfl | (exfalso; omega) | (rw [hcut (by omega)])
theorem normref_rg {t : Int} {v : Vl} (hv : 0 ≤ v.b ∧ v.b < 18446744073709551616) : 0 ≤ (d_latheref09_Norm t v).b ∧ (d_latheref09_Norm t v).b < 18446744073709551616 := by
  rw [norm_ref hv]; exact norm_range
def suchB (op t n f k : Int) : Bool := match kinds op t n f with
  | some ws => k == (ws.length : Int)
  | none => false
theorem such_eq (i : Ins) (k : Int) : d_latheref10_such i k = suchB i.op i.t i.n i.f k := by
  unfold d_latheref10_such suchB kinds
  rw [flags_eq, conv_ref (by omega)]
  have hw : ∀ t : Int, (decide (1 ≤ t) && decide (t ≤ 64) || t == 65) = (decide (1 ≤ t) && decide (t ≤ 65)) := fun t => by rw [Bool.eq_iff_iff]; simp; omega
  cases hf : (bits .andNot .i64 i.f (flags i.op) != 0)
  · simp only [cond_false, hw]
    have : i.op < 1 ∨ 29 < i.op ∨ i.op = 14 ∨ i.op = 15 ∨ (1 ≤ i.op ∧ i.op ≤ 19 ∧ i.op ≠ 14 ∧ i.op ≠ 15) ∨ i.op = 20 ∨ i.op = 21 ∨ i.op = 22 ∨ i.op = 23 ∨ i.op = 24 ∨ (25 ≤ i.op ∧ i.op ≤ 28) ∨ i.op = 29 := by omega
    have hno : ∀ k : Int, i.op ≠ k → (i.op == k) = false := fun k hk => by simpa using hk
    have hd : ∀ x : Int, (decide (i.op < x) = true) = (i.op < x) := fun x => by simp
    simp only [Bool.and_assoc]
    generalize hG : (decide (1 ≤ i.t) && decide (i.t ≤ 65)) = G
    generalize hG4 : (decide (1 ≤ i.t) && decide (i.t ≤ 64)) = G4
    generalize hC : (conv i.op i.n i.t 0).2 = C
    rcases this with h | h | h | h | h | h | h | h | h | h | h | h
    · rw [hno 14 (by omega), hno 15 (by omega), hno 20 (by omega), hno 21 (by omega), hno 22 (by omega), hno 23 (by omega), hno 24 (by omega), hno 29 (by omega), decide_eq_false (show ¬ 1 ≤ i.op by omega), decide_eq_true h]; rfl
    · rw [hno 14 (by omega), hno 15 (by omega), hno 20 (by omega), hno 21 (by omega), hno 22 (by omega), hno 23 (by omega), hno 24 (by omega), hno 29 (by omega), decide_eq_false (show ¬ i.op ≤ 19 by omega), decide_eq_true h]; simp
    · rw [h]; cases G <;> simp
    · rw [h]; cases G <;> simp
    · rw [hno 14 (by omega), hno 15 (by omega), hno 20 (by omega), hno 21 (by omega), hno 22 (by omega), hno 23 (by omega), hno 24 (by omega), hno 29 (by omega), decide_eq_true (show 1 ≤ i.op by omega), decide_eq_true (show i.op ≤ 19 by omega), decide_eq_false (show ¬ i.op < 1 by omega), decide_eq_false (show ¬ 29 < i.op by omega)]
      cases G4 <;> simp
    · rw [h]; cases C <;> simp
    · rw [h]; cases C <;> simp
    · rw [h]; cases C <;> simp
    · rw [h]; cases G <;> simp
    · rw [h]; cases G <;> simp
    · rw [hno 14 (by omega), hno 15 (by omega), hno 20 (by omega), hno 21 (by omega), hno 22 (by omega), hno 23 (by omega), decide_eq_false (show ¬ i.op ≤ 19 by omega), decide_eq_false (show ¬ i.op ≤ 22 by omega), decide_eq_false (show ¬ i.op < 1 by omega), decide_eq_false (show ¬ 29 < i.op by omega)]
      rcases (show i.op = 25 ∨ i.op = 26 ∨ i.op = 27 ∨ i.op = 28 by omega) with q | q | q | q <;> rw [q] <;> simp
    · rw [h]; cases hq : (i.t == 65) <;> simp
  · rfl
theorem arity_of {i : Ins} {k : Nat} (h : d_latheref10_such i k = true) : k = arity i.op ∧ 1 ≤ i.op ∧ (i.op ≤ 24 ∨ i.op = 29) := by
  rw [such_eq] at h
  unfold suchB at h
  cases hk : kinds i.op i.t i.n i.f with
  | none => rw [hk] at h; cases h
  | some ws =>
    rw [hk] at h
    have := kinds_len hk
    have h2 : (k : Int) = (ws.length : Int) := by simpa using h
    omega
theorem arity_omega (op : Int) : (op ≤ 19 → arity op = 2) ∧ (20 ≤ op ∧ op ≤ 22 → arity op = 1) ∧ (op = 23 → arity op = 3) ∧ (op = 24 → arity op = 1) ∧ (25 ≤ op → arity op = 2) := by
  unfold arity
  refine ⟨?_, ?_, ?_, ?_, ?_⟩ <;> intro h <;> (repeat' split) <;> omega
end Go.Proofs.Ytffimfmicapaaaa.Pl
