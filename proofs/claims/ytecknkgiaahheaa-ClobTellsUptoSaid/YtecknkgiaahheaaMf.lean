/- The engine and the contracts of the functions that the statement reaches, part 6. -/
import Derived.Test.YtecknkgiaahheaaMe
import Derived.Test.YtecknkgiaahheaaRows
import Derived.ProofKit
import Derived.OpenShut
import Derived.ChangeOld
import Derived.Deep.Slices
/- Layer 8: Check and Right. -/
namespace Go.Proofs.Ytecknkgiaahheaa
open Go.RowKit
set_option linter.unusedVariables false
set_option linter.unusedSimpArgs false
set_option maxRecDepth 100000
set_option maxHeartbeats 4000000
theorem firstF_zero {c : Nat → FaultE} {n : Nat} (h : (firstF c n).code = 0) : ∀ i, i < n → (c i).code = 0 := fun i hi => by
  unfold firstF firstC at h
  cases hq : (List.range n).find? (fun i => !decide ((c i).code = 0)) with
  | none =>
    have := List.find?_eq_none.1 hq i (List.mem_range.2 hi)
    simpa using this
  | some j =>
    rw [hq] at h
    have h2 := List.find?_some hq
    simp only [Bool.not_eq_true', decide_eq_false_iff_not] at h2
    exact absurd h h2
/-- One function's faults. -/
def chk (m : ModE) (R : FnE → List Bool) (T : FnE → List (List Bool)) (f : FnE) (n : Int) : FaultE :=
  if (blocksF f n).code = 0 then
    if (formsF m f n).code = 0 then
      if (registersF f n).code = 0 then
        if (operandsF m f n).code = 0 then
          if (phisF f n).code = 0 then orderF f n (R f) (T f) else phisF f n
        else operandsF m f n
      else registersF f n
    else formsF m f n
  else blocksF f n
def chkN (m : ModE) (R : FnE → List Bool) (T : FnE → List (List Bool)) : Nat → FaultE
  | 0 => headsF m
  | k + 1 => if (chkN m R T k).code = 0 then chk m R T (m.funcs.getD k Enc.d) k else chkN m R T k
def CheckF (m : ModE) (R : FnE → List Bool) (T : FnE → List (List Bool)) : FaultE := chkN m R T m.funcs.length
theorem chkN_stay {m : ModE} {R : FnE → List Bool} {T : FnE → List (List Bool)} {k : Nat} (h : (chkN m R T k).code ≠ 0) : ∀ j, k ≤ j → chkN m R T j = chkN m R T k
  | 0, hj => by obtain rfl : k = 0 := by omega
                rfl
  | j + 1, hj => by
    by_cases e : k = j + 1
    · subst e; rfl
    · have ih := chkN_stay h j (by omega)
      rw [chkN, if_neg (by rw [ih]; exact h), ih]
theorem forms_call {m : ModE} {f : FnE} {n : Int} (h : (formsF m f n).code = 0) (i : Nat) (hi : i < (Code f).length) (ho : ((C1 f).getD i Enc.d).op = 30) : ((C1 f).getD i Enc.d).args.length = (Callee m ((C1 f).getD i Enc.d).n).1.length := by
  have h1 := firstF_zero h i hi
  unfold formC at h1
  split at h1
  · simp at h1
  · split at h1
    · simp at h1
    · have h2 : typedF m f ((C1 f).getD i Enc.d) = 0 := h1
      unfold typedF at h2
      rw [if_neg (by rw [ho]; decide), if_pos ho] at h2
      split at h2
      · simp at h2
      · split at h2
        · simp at h2
        · split at h2
          · simp at h2
          · rename_i q; exact (Decidable.not_not.1 q).symm
theorem forms_phi {m : ModE} {f : FnE} {n : Int} (h : (formsF m f n).code = 0) (i : Nat) (hi : i < (Code f).length) (ho : ((C1 f).getD i Enc.d).op = 25) : ((C1 f).getD i Enc.d).args.length = ((C1 f).getD i Enc.d).to.length := by
  have h1 := firstF_zero h i hi
  unfold formC at h1
  split at h1
  · simp at h1
  · rename_i q
    unfold formedF at q
    split at q
    · exact absurd rfl q
    · rename_i q2
      have e : many f ((C1 f).getD i Enc.d) = ((((C1 f).getD i Enc.d).args.length : Int), (((C1 f).getD i Enc.d).args.length : Int)) := by
        unfold many; rw [if_neg (by rw [ho]; decide), if_pos ho]
      rw [e] at q2
      simp only [not_or, Decidable.not_not] at q2
      have := q2.2
      omega
theorem cnt_mem {f : FnE} {t x : Int} {k : Nat} (h : x ∈ cnt f t k) : 0 ≤ x ∧ x < k := by
  unfold cnt at h
  obtain ⟨c, hc, h⟩ := List.mem_flatMap.1 h
  rw [List.mem_replicate] at h
  have := List.mem_range.1 hc
  omega
theorem phis_to {f : FnE} {n : Int} (h : (phisF f n).code = 0) (i : Nat) (hi : i < (Code f).length) (ho : ((C1 f).getD i Enc.d).op = 25) : ∀ t ∈ ((C1 f).getD i Enc.d).to, 0 ≤ t ∧ t < f.blocks.length := fun t ht => by
  have h1 := firstF_zero h i hi
  unfold phiC at h1
  rw [if_neg (fun q => q ho)] at h1
  split at h1
  · simp at h1
  · rename_i q
    unfold phiOk at q
    simp only [Bool.not_eq_false, Bool.and_eq_true, decide_eq_true_eq] at q
    rw [q.1.2] at ht
    obtain ⟨b, k, h5, _, _, h8⟩ := Code_get hi
    rw [h8] at ht
    simp only [Int.toNat_natCast] at ht
    unfold PredsL at ht
    rw [List.getD_eq_getElem?_getD, List.getElem?_map, List.getElem?_range h5] at ht
    exact cnt_mem ht
theorem fn_le (m : ModE) (i : Nat) : siz (m.funcs.getD i Enc.d) ≤ siz m := by have := siz_at m.funcs i; have e : siz m = siz m.vars + siz m.exts + siz m.funcs := rfl; omega
theorem funcs_le (m : ModE) : m.funcs.length ≤ siz m := by have := len_siz m.funcs; have e : siz m = siz m.vars + siz m.exts + siz m.funcs := rfl; omega
theorem Check_S (m : ModE) (R : FnE → List Bool) (T : FnE → List (List Bool)) (hR : ∀ f, isRG f (-1) (R f)) (hT : ∀ f, isTab f (T f)) (hs : siz m < 4294967296) (hr : ∀ b i, inI ((C1 (m.funcs.getD b Enc.d)).getD i Enc.d).n) : ASpec Try.prog 18 [eS m] (eS (CheckF m R T)) [] := by
  have hsf : ∀ i : Nat, siz (m.funcs.getD i Enc.d) < 4294967296 := fun i => Nat.lt_of_le_of_lt (fn_le m i) hs
  have hfl := funcs_le m
  refine ASpec.enter TYok mixed Try.func18 rfl Try.call18 Try.ntmps18 rfl (rs := [.cell 2 60]) rfl (nodupB_ok rfl) (Clo.one rfl) (keep := [0, 1, 2, 3, 4, 5]) ?_; conv => whnf
  repeat' first | (refine And.intro (fun (hb : _ = true) => ?_) (fun (hb : _ = false) => ?_) <;> (try simp only [pickB_or, pickB_and] at hb) <;> (have hc := hb; try simp only [sB, Int.reduceToNat] at hc; try simp only [addZ0] at hc) <;> first | (exfalso; omega) | conv => whnf) | ((first | refine ⟨_, wr64 ti ti, ?_⟩ | refine And.intro si ?_ | refine LitW.frz ?_ | refine Drw.d (by decide +kernel) ?_ | refine Drw.f (by decide +kernel) ?_ | refine Drw0.d (by decide +kernel) ?_ | refine Drw0.f (by decide +kernel) ?_ | refine Drw.l (by decide +kernel) ?_ | refine And.intro tgi ?_ | refine ⟨_, shl1 (by omega), ?_⟩ | refine ⟨_, wru64 ti ti, ?_⟩ | refine ⟨_, fun _ => (IntKind.wrap_u64 _).symm, ?_⟩); conv => whnf) | ((first | refine CallK.mk _ _ (fun _ => heads_S m hs) ?_ | ((try (refine CallW.lent ?_; (conv => whnf); try (refine And.intro (by omega) ?_; (conv => whnf)))); refine CallL.mk _ _ (fun _ => heads_S m hs) rfl (fun _ _ h => nomatch h) ?_)); conv => whnf) | exact ⟨_, .keep rfl rfl⟩ | fail
  refine lp [4] (fun q : Nat => [.i .i64 q]) (fun q => [(3, bx (chkN m R T q)), (1, bx m), (2, bx (Enc.d : FaultE))]) (fun q => q ≤ m.funcs.length) (fun q => m.funcs.length - q) 0 (by omega) ?_ fun q hq => ?_
  · refine Ent.lp [] [] rfl rfl rfl ?_ ?_ <;> repeat' first | exact trivial | rfl | exact fun _ _ => rfl | omega | refine And.intro ?_ ?_ | (show (_ : Int) = _; first | omega | (simp only [Int.toNat_natCast]; omega))
    all_goals skip
  conv => whnf
  have hq1 := hsf q
  repeat' first | (refine And.intro (fun (hb : _ = true) => ?_) (fun (hb : _ = false) => ?_) <;> (try simp only [pickB_or, pickB_and] at hb) <;> (have hc := hb; try simp only [sB, Int.reduceToNat] at hc; try simp only [addZ0] at hc) <;> first | (exfalso; omega) | conv => whnf) | ((first | refine ⟨_, wr64 ti ti, ?_⟩ | refine And.intro si ?_ | refine LitW.frz ?_ | refine Drw.d (by decide +kernel) ?_ | refine Drw.f (by decide +kernel) ?_ | refine Drw0.d (by decide +kernel) ?_ | refine Drw0.f (by decide +kernel) ?_ | refine Drw.l (by decide +kernel) ?_ | refine And.intro tgi ?_ | refine ⟨_, shl1 (by omega), ?_⟩ | refine ⟨_, wru64 ti ti, ?_⟩ | refine ⟨_, fun _ => (IntKind.wrap_u64 _).symm, ?_⟩); conv => whnf) | ((first | refine CallK.mk _ _ (fun _ => blocks_S _ _ hq1) ?_ | ((try (refine CallW.lent ?_; (conv => whnf); try (refine And.intro (by omega) ?_; (conv => whnf)))); refine CallL.mk _ _ (fun _ => blocks_S _ _ hq1) rfl (fun _ _ h => nomatch h) ?_)); conv => whnf) | ((first | refine CallK.mk _ _ (fun _ => forms_S _ _ _ hs hq1 (hr q)) ?_ | ((try (refine CallW.lent ?_; (conv => whnf); try (refine And.intro (by omega) ?_; (conv => whnf)))); refine CallL.mk _ _ (fun _ => forms_S _ _ _ hs hq1 (hr q)) rfl (fun _ _ h => nomatch h) ?_)); conv => whnf) | ((first | refine CallK.mk _ _ (fun _ => registers_S _ _ hq1) ?_ | ((try (refine CallW.lent ?_; (conv => whnf); try (refine And.intro (by omega) ?_; (conv => whnf)))); refine CallL.mk _ _ (fun _ => registers_S _ _ hq1) rfl (fun _ _ h => nomatch h) ?_)); conv => whnf) | ((first | refine CallK.mk _ _ (fun _ => phis_S _ _ hq1) ?_ | ((try (refine CallW.lent ?_; (conv => whnf); try (refine And.intro (by omega) ?_; (conv => whnf)))); refine CallL.mk _ _ (fun _ => phis_S _ _ hq1) rfl (fun _ _ h => nomatch h) ?_)); conv => whnf) | exact ⟨_, .keep rfl rfl⟩ | fail
  · have hfo : (formsF m (m.funcs.getD q Enc.d) q).code = 0 := by assumption
    repeat' first | (refine And.intro (fun (hb : _ = true) => ?_) (fun (hb : _ = false) => ?_) <;> (try simp only [pickB_or, pickB_and] at hb) <;> (have hc := hb; try simp only [sB, Int.reduceToNat] at hc; try simp only [addZ0] at hc) <;> first | (exfalso; omega) | conv => whnf) | ((first | refine ⟨_, wr64 ti ti, ?_⟩ | refine And.intro si ?_ | refine LitW.frz ?_ | refine Drw.d (by decide +kernel) ?_ | refine Drw.f (by decide +kernel) ?_ | refine Drw0.d (by decide +kernel) ?_ | refine Drw0.f (by decide +kernel) ?_ | refine Drw.l (by decide +kernel) ?_ | refine And.intro tgi ?_ | refine ⟨_, shl1 (by omega), ?_⟩ | refine ⟨_, wru64 ti ti, ?_⟩ | refine ⟨_, fun _ => (IntKind.wrap_u64 _).symm, ?_⟩); conv => whnf) | ((first | refine CallK.mk _ _ (fun _ => operands_S _ _ _ hs hq1 (hr q) (forms_call hfo)) ?_ | ((try (refine CallW.lent ?_; (conv => whnf); try (refine And.intro (by omega) ?_; (conv => whnf)))); refine CallL.mk _ _ (fun _ => operands_S _ _ _ hs hq1 (hr q) (forms_call hfo)) rfl (fun _ _ h => nomatch h) ?_)); conv => whnf) | ((first | refine CallK.mk _ _ (fun _ => phis_S _ _ hq1) ?_ | ((try (refine CallW.lent ?_; (conv => whnf); try (refine And.intro (by omega) ?_; (conv => whnf)))); refine CallL.mk _ _ (fun _ => phis_S _ _ hq1) rfl (fun _ _ h => nomatch h) ?_)); conv => whnf) | exact ⟨_, .keep rfl rfl⟩ | fail
    · have hph : (phisF (m.funcs.getD q Enc.d) q).code = 0 := by assumption
      repeat' first | (refine And.intro (fun (hb : _ = true) => ?_) (fun (hb : _ = false) => ?_) <;> (try simp only [pickB_or, pickB_and] at hb) <;> (have hc := hb; try simp only [sB, Int.reduceToNat] at hc; try simp only [addZ0] at hc) <;> first | (exfalso; omega) | conv => whnf) | ((first | refine ⟨_, wr64 ti ti, ?_⟩ | refine And.intro si ?_ | refine LitW.frz ?_ | refine Drw.d (by decide +kernel) ?_ | refine Drw.f (by decide +kernel) ?_ | refine Drw0.d (by decide +kernel) ?_ | refine Drw0.f (by decide +kernel) ?_ | refine Drw.l (by decide +kernel) ?_ | refine And.intro tgi ?_ | refine ⟨_, shl1 (by omega), ?_⟩ | refine ⟨_, wru64 ti ti, ?_⟩ | refine ⟨_, fun _ => (IntKind.wrap_u64 _).symm, ?_⟩); conv => whnf) | ((first | refine CallK.mk _ _ (fun _ => order_S _ _ (R (m.funcs.getD q Enc.d)) (T (m.funcs.getD q Enc.d)) (hR _) (hT _) hq1 (forms_phi hfo) (phis_to hph)) ?_ | ((try (refine CallW.lent ?_; (conv => whnf); try (refine And.intro (by omega) ?_; (conv => whnf)))); refine CallL.mk _ _ (fun _ => order_S _ _ (R (m.funcs.getD q Enc.d)) (T (m.funcs.getD q Enc.d)) (hR _) (hT _) hq1 (forms_phi hfo) (phis_to hph)) rfl (fun _ _ h => nomatch h) ?_)); conv => whnf) | exact ⟨_, .keep rfl rfl⟩ | fail
      · have hz : (q : Int) < m.funcs.length ∧ (chkN m R T q).code = 0 := by assumption
        refine .mk (q + 1) (by omega) (by omega) ?_
        have e : chkN m R T (q + 1) = orderF (m.funcs.getD q Enc.d) q (R (m.funcs.getD q Enc.d)) (T (m.funcs.getD q Enc.d)) := by rw [chkN, if_pos hz.2, chk, if_pos (show (blocksF (m.funcs.getD q Enc.d) q).code = 0 by assumption), if_pos (show (formsF m (m.funcs.getD q Enc.d) q).code = 0 by assumption), if_pos (show (registersF (m.funcs.getD q Enc.d) q).code = 0 by assumption), if_pos (show (operandsF m (m.funcs.getD q Enc.d) q).code = 0 by assumption), if_pos (show (phisF (m.funcs.getD q Enc.d) q).code = 0 by assumption)]
        refine Ent.lp [] [] rfl rfl rfl ?_ ?_ <;> repeat' first | exact trivial | rfl | exact fun _ _ => rfl | omega | refine And.intro ?_ ?_ | (show (_ : Int) = _; first | omega | (simp only [Int.toNat_natCast]; omega))
        all_goals (rw [e]; rfl)
    · have hz : (q : Int) < m.funcs.length ∧ (chkN m R T q).code = 0 := by assumption
      refine .mk (q + 1) (by omega) (by omega) ?_
      have e : chkN m R T (q + 1) = phisF (m.funcs.getD q Enc.d) q := by rw [chkN, if_pos hz.2, chk, if_pos (show (blocksF (m.funcs.getD q Enc.d) q).code = 0 by assumption), if_pos (show (formsF m (m.funcs.getD q Enc.d) q).code = 0 by assumption), if_pos (show (registersF (m.funcs.getD q Enc.d) q).code = 0 by assumption), if_pos (show (operandsF m (m.funcs.getD q Enc.d) q).code = 0 by assumption), if_neg (show ¬(phisF (m.funcs.getD q Enc.d) q).code = 0 by assumption)]
      refine Ent.lp [] [] rfl rfl rfl ?_ ?_ <;> repeat' first | exact trivial | rfl | exact fun _ _ => rfl | omega | refine And.intro ?_ ?_ | (show (_ : Int) = _; first | omega | (simp only [Int.toNat_natCast]; omega))
      all_goals (rw [e]; rfl)
    · have hz : (q : Int) < m.funcs.length ∧ (chkN m R T q).code = 0 := by assumption
      refine .mk (q + 1) (by omega) (by omega) ?_
      have e : chkN m R T (q + 1) = operandsF m (m.funcs.getD q Enc.d) q := by rw [chkN, if_pos hz.2, chk, if_pos (show (blocksF (m.funcs.getD q Enc.d) q).code = 0 by assumption), if_pos (show (formsF m (m.funcs.getD q Enc.d) q).code = 0 by assumption), if_pos (show (registersF (m.funcs.getD q Enc.d) q).code = 0 by assumption), if_neg (show ¬(operandsF m (m.funcs.getD q Enc.d) q).code = 0 by assumption)]
      refine Ent.lp [] [] rfl rfl rfl ?_ ?_ <;> repeat' first | exact trivial | rfl | exact fun _ _ => rfl | omega | refine And.intro ?_ ?_ | (show (_ : Int) = _; first | omega | (simp only [Int.toNat_natCast]; omega))
      all_goals (rw [e]; rfl)
  · have hz : (q : Int) < m.funcs.length ∧ (chkN m R T q).code = 0 := by assumption
    refine .mk (q + 1) (by omega) (by omega) ?_
    have e : chkN m R T (q + 1) = registersF (m.funcs.getD q Enc.d) q := by rw [chkN, if_pos hz.2, chk, if_pos (show (blocksF (m.funcs.getD q Enc.d) q).code = 0 by assumption), if_pos (show (formsF m (m.funcs.getD q Enc.d) q).code = 0 by assumption), if_neg (show ¬(registersF (m.funcs.getD q Enc.d) q).code = 0 by assumption)]
    refine Ent.lp [] [] rfl rfl rfl ?_ ?_ <;> repeat' first | exact trivial | rfl | exact fun _ _ => rfl | omega | refine And.intro ?_ ?_ | (show (_ : Int) = _; first | omega | (simp only [Int.toNat_natCast]; omega))
    all_goals (rw [e]; rfl)
  · have hz : (q : Int) < m.funcs.length ∧ (chkN m R T q).code = 0 := by assumption
    refine .mk (q + 1) (by omega) (by omega) ?_
    have e : chkN m R T (q + 1) = formsF m (m.funcs.getD q Enc.d) q := by rw [chkN, if_pos hz.2, chk, if_pos (show (blocksF (m.funcs.getD q Enc.d) q).code = 0 by assumption), if_neg (show ¬(formsF m (m.funcs.getD q Enc.d) q).code = 0 by assumption)]
    refine Ent.lp [] [] rfl rfl rfl ?_ ?_ <;> repeat' first | exact trivial | rfl | exact fun _ _ => rfl | omega | refine And.intro ?_ ?_ | (show (_ : Int) = _; first | omega | (simp only [Int.toNat_natCast]; omega))
    all_goals (rw [e]; rfl)
  · have hz : (q : Int) < m.funcs.length ∧ (chkN m R T q).code = 0 := by assumption
    refine .mk (q + 1) (by omega) (by omega) ?_
    have e : chkN m R T (q + 1) = blocksF (m.funcs.getD q Enc.d) q := by rw [chkN, if_pos hz.2, chk, if_neg (show ¬(blocksF (m.funcs.getD q Enc.d) q).code = 0 by assumption)]
    refine Ent.lp [] [] rfl rfl rfl ?_ ?_ <;> repeat' first | exact trivial | rfl | exact fun _ _ => rfl | omega | refine And.intro ?_ ?_ | (show (_ : Int) = _; first | omega | (simp only [Int.toNat_natCast]; omega))
    all_goals (rw [e]; rfl)
  · have e : CheckF m R T = chkN m R T q := by
      unfold CheckF
      rcases hc with h | h
      · rw [show m.funcs.length = q by omega]
      · exact chkN_stay h _ hq
    exact ⟨_, .keep (by rw [e]; rfl) rfl⟩
theorem Right_S (m : ModE) (R : FnE → List Bool) (T : FnE → List (List Bool)) (hR : ∀ f, isRG f (-1) (R f)) (hT : ∀ f, isTab f (T f)) (hs : siz m < 4294967296) (hr : ∀ b i, inI ((C1 (m.funcs.getD b Enc.d)).getD i Enc.d).n) : ASpec Try.prog 6 [eS m] (.b (decide ((CheckF m R T).code = 0))) [] := by
  refine ASpec.enter TYok mixed Try.func6 rfl Try.call6 Try.ntmps6 rfl (rs := [.tmp 2]) rfl (nodupB_ok rfl) (Clo.one rfl) (keep := [0, 1, 2, 3]) ?_; conv => whnf
  repeat' first | (refine And.intro (fun (hb : _ = true) => ?_) (fun (hb : _ = false) => ?_) <;> (try simp only [pickB_or, pickB_and] at hb) <;> (have hc := hb; try simp only [sB, Int.reduceToNat] at hc; try simp only [addZ0] at hc) <;> first | (exfalso; omega) | conv => whnf) | ((first | refine ⟨_, wr64 ti ti, ?_⟩ | refine And.intro si ?_ | refine LitW.frz ?_ | refine Drw.d (by decide +kernel) ?_ | refine Drw.f (by decide +kernel) ?_ | refine Drw0.d (by decide +kernel) ?_ | refine Drw0.f (by decide +kernel) ?_ | refine Drw.l (by decide +kernel) ?_ | refine And.intro tgi ?_ | refine ⟨_, shl1 (by omega), ?_⟩ | refine ⟨_, wru64 ti ti, ?_⟩ | refine ⟨_, fun _ => (IntKind.wrap_u64 _).symm, ?_⟩); conv => whnf) | ((first | refine CallK.mk _ _ (fun _ => Check_S m R T hR hT hs hr) ?_ | ((try (refine CallW.lent ?_; (conv => whnf); try (refine And.intro (by omega) ?_; (conv => whnf)))); refine CallL.mk _ _ (fun _ => Check_S m R T hR hT hs hr) rfl (fun _ _ h => nomatch h) ?_)); conv => whnf) | exact ⟨_, .keep rfl rfl⟩ | fail
end Go.Proofs.Ytecknkgiaahheaa

/- What comes in, opened: modules and their parts as they are read. -/
namespace Go.Proofs.Ytecknkgiaahheaa
open Go.RowKit Go.ChangeShapes Go.WideShapes
set_option linter.unusedVariables false
set_option linter.unusedSimpArgs false
set_option maxRecDepth 100000
def allS : Nat → Prop := fun _ => True
def rngI (x : Int) : Prop := -9223372036854775808 ≤ x ∧ x ≤ 9223372036854775807
def rngU (x : Int) : Prop := 0 ≤ x ∧ x < 18446744073709551616
/-- The numbers in a datum lie within their kinds. -/
class Rng (α : Type) where
  rng : α → Prop
instance : Rng Int := ⟨rngI⟩
instance : Rng ByteArray := ⟨fun _ => True⟩
instance : Rng Bool := ⟨fun _ => True⟩
instance {α : Type} [Rng α] : Rng (List α) := ⟨fun l => ∀ x ∈ l, Rng.rng x⟩
theorem bulk_agg {H : Type} {l : List (DataW H)} : Rows.uptoBulk (.agg l) = Rows.uptoBulkAll l + 1 := by rw [Rows.uptoBulk]
theorem bulk_cons {H : Type} {d : DataW H} {l : List (DataW H)} : Rows.uptoBulkAll (d :: l) = Rows.uptoBulk d + Rows.uptoBulkAll l := by rw [Rows.uptoBulkAll]
theorem bulk_nil {H : Type} : Rows.uptoBulkAll ([] : List (DataW H)) = 0 := by rw [Rows.uptoBulkAll]
instance : Siz Plc := ⟨fun _ => 0, rfl⟩
/-- A datum of a type that is read, as one of ours. -/
structure OpA (t : TypeId) (α : Type) [Enc α] [Siz α] [Rng α] : Prop where
  open_ : ∀ {H : Type} (enc : TypeId × Value → H) (w : World) (base : Nat) (sp : Nat → Bool) (hd : Bool) (fuel : Nat) (cs : List Value) (x : DataW H × List MemPlace),
    DataW.trod enc Try.prog w base sp hd fuel t cs = some x → ∃ d : α, siz d + 1 ≤ Rows.uptoBulk x.1 ∧ Rng.rng d ∧ rels allS W0 w (Enc.enc d) cs
theorem wf_i64 {z : Int} (h : (Lit.int .i64 z).wf = true) : -9223372036854775808 ≤ z ∧ z ≤ 9223372036854775807 := by
  simp [Lit.wf, IntKind.min, IntKind.max, IntKind.signed, IntKind.bits] at h; omega
theorem wf_u64 {z : Int} (h : (Lit.int .u64 z).wf = true) : 0 ≤ z ∧ z < 18446744073709551616 := by
  simp [Lit.wf, IntKind.min, IntKind.max, IntKind.signed, IntKind.bits] at h; omega
theorem op_i64 {t : TypeId} (ht : Try.prog.underlying t = some (.int .i64)) : OpA t Int :=
  ⟨fun enc w base sp hd fuel cs x h => by
    obtain ⟨z, rfl, rfl, hw⟩ := DataW.trod_int ht h
    exact ⟨z, by show 0 + 1 ≤ Rows.uptoBulk (.lit (.int .i64 z)); rw [Rows.uptoBulk]; exact Nat.le_refl _; all_goals simp, wf_i64 hw, _, _, rfl, rfl, rfl⟩⟩
/-- A number without a sign. -/
structure OpU (t : TypeId) : Prop where
  open_ : ∀ {H : Type} (enc : TypeId × Value → H) (w : World) (base : Nat) (sp : Nat → Bool) (hd : Bool) (fuel : Nat) (cs : List Value) (x : DataW H × List MemPlace),
    DataW.trod enc Try.prog w base sp hd fuel t cs = some x → ∃ d : Int, 0 + 1 ≤ Rows.uptoBulk x.1 ∧ rngU d ∧ rels allS W0 w [.i .u64 d] cs
theorem op_u64 {t : TypeId} (ht : Try.prog.underlying t = some (.int .u64)) : OpU t :=
  ⟨fun enc w base sp hd fuel cs x h => by
    obtain ⟨z, rfl, rfl, hw⟩ := DataW.trod_int ht h
    exact ⟨z, by show 0 + 1 ≤ Rows.uptoBulk (.lit (.int .u64 z)); rw [Rows.uptoBulk]; exact Nat.le_refl _; all_goals simp, wf_u64 hw, _, _, rfl, rfl, rfl⟩⟩
theorem op_str {t : TypeId} (ht : Try.prog.underlying t = some .string) : OpA t ByteArray :=
  ⟨fun enc w base sp hd fuel cs x h => by
    obtain ⟨z, rfl, rfl, hs⟩ := DataW.trod_string ht h
    refine ⟨z, ?_, trivial, _, _, rfl, rfl, rfl⟩
    show z.size + 1 ≤ Rows.uptoBulk (.lit (.string z.data.toList))
    rw [Rows.uptoBulk, Array.length_toList]; exact Nat.le_refl _⟩
theorem list_of {α : Type} {p : Nat → α → Prop} : ∀ (n : Nat), (∀ i, i < n → ∃ x, p i x) → ∃ l : List α, l.length = n ∧ ∀ (i : Nat) x, l[i]? = some x → p i x
  | 0, _ => ⟨[], rfl, fun i x h => by simp at h⟩
  | n + 1, h => by
    obtain ⟨l, hl, hp⟩ := list_of n fun i hi => h i (Nat.lt_succ_of_lt hi)
    obtain ⟨x, hx⟩ := h n (Nat.lt_succ_self n)
    refine ⟨l ++ [x], by simp [hl], fun i y hy => ?_⟩
    rcases Nat.lt_trichotomy i n with q | q | q
    · rw [List.getElem?_append_left (by omega)] at hy; exact hp i y hy
    · subst q; rw [List.getElem?_append_right (by omega), hl] at hy; simp at hy; subst hy; exact hx
    · rw [List.getElem?_eq_none (by simp; omega)] at hy; cases hy
theorem choose_to {α : Type} [Inhabited α] {p : Nat → α → Prop} (n : Nat) (h : ∀ i, i < n → ∃ x, p i x) : ∃ f : Nat → α, ∀ i, i < n → p i (f i) := by
  obtain ⟨l, hl, hp⟩ := list_of n h
  refine ⟨fun i => l.getD i default, fun i hi => ?_⟩
  have := hp i l[i] (List.getElem?_eq_getElem (by omega))
  show p i (l.getD i default)
  rwa [List.getD_eq_getElem?_getD, List.getElem?_eq_getElem (by omega)]
theorem bulk_range {H : Type} {α : Type} [Enc α] [Siz α] (D : Nat → DataW H) : ∀ (l : List α) (k : Nat), (∀ i x, l[i]? = some x → siz x + 1 ≤ Rows.uptoBulk (D (k + i))) → siz l ≤ Rows.uptoBulkAll ((List.range l.length).map fun i => D (k + i))
  | [], k, h => Nat.zero_le _
  | x :: l, k, h => by
    have e : siz (x :: l) = l.length + 1 + (siz x + (l.map siz).sum) := rfl
    have e2 : siz l = l.length + (l.map siz).sum := rfl
    have h0 := h 0 x rfl
    have h1 := bulk_range D l (k + 1) fun i y hy => by have := h (i + 1) y (by simpa using hy); rwa [show k + 1 + i = k + (i + 1) by omega]
    rw [List.length_cons, List.range_succ_eq_map, List.map_cons, bulk_cons, List.map_map, e]
    rw [show ((fun i => D (k + i)) ∘ Nat.succ) = fun i => D (k + 1 + i) from funext fun i => by show D (k + (i + 1)) = _; congr 1; omega]
    rw [Nat.add_zero] at h0 ⊢
    omega
theorem OpA.list {t e : TypeId} {α : Type} [Enc α] [Siz α] [Rng α] (ht : Try.prog.underlying t = some (.slice e)) (hc : Try.prog.cellsOf e = Enc.sz α) (ho : ∀ x : α, (Enc.enc x).all AV.one = true) (he : OpA e α) : OpA t (List α) where
  open_ := fun enc w base sp hd fuel cs x h => by
    rcases Go.Deep.open_slice ht h with ⟨rfl, rfl⟩ | ⟨a, len, cap, m, n, D, Pl, rfl, hb, hl, hm, hmm, rfl, hx⟩
    · refine ⟨[], ?_, (fun x hx => by cases hx), _, _, rfl, ⟨none, 0, fun _ => [], rfl, (fun z hz => by cases hz), ⟨Nat.zero_le _, Nat.zero_le _⟩, fun i hi => by cases hi⟩, rfl⟩
      show 0 + 1 ≤ Rows.uptoBulk (.nil)
      rw [Rows.uptoBulk]; exact Nat.le_refl _
    · have hle : len ≤ m := by rw [hmm]; split <;> omega
      obtain ⟨l, hll, hp⟩ := list_of (p := fun i (d : α) => (∃ cs', w.cells? base (a.add (i * Enc.sz α)) (Enc.sz α) = some cs' ∧ rels allS W0 w (Enc.enc d) cs') ∧ Rng.rng d ∧ siz d + 1 ≤ Rows.uptoBulk (D i)) len fun i hi => by
        obtain ⟨cs', h1, h2⟩ := hx i (by omega)
        obtain ⟨d, h3, h4, h5⟩ := he.open_ _ _ _ _ _ _ _ _ h2
        rw [hc] at h1
        exact ⟨d, ⟨cs', h1, h5⟩, h4, h3⟩
      subst hll
      obtain ⟨us, hus⟩ := choose_to (p := fun i cs' => ∀ x, l[i]? = some x → w.cells? base (a.add (i * Enc.sz α)) (Enc.sz α) = some cs' ∧ rels allS W0 w (Enc.enc x) cs') l.length fun i hi => by
        obtain ⟨⟨cs', h1, h2⟩, _⟩ := hp i l[i] (List.getElem?_eq_getElem hi)
        exact ⟨cs', fun x hx => by rw [List.getElem?_eq_getElem hi] at hx; cases hx; exact ⟨h1, h2⟩⟩
      refine ⟨l, ?_, fun x hx => ?_, _, _, rfl, ⟨some a, cap, us, rfl, (fun z hz => by cases hz), ⟨hl, Nat.le_trans hl hm⟩, fun i hi => ?_⟩, rfl⟩
      · rw [show Rows.uptoBulk (DataW.slice (List.map D (List.range l.length)) (List.map (fun j => D (l.length + j)) (List.range (m - l.length)))) = Rows.uptoBulkAll (List.map D (List.range l.length)) + Rows.uptoBulkAll (List.map (fun j => D (l.length + j)) (List.range (m - l.length))) + 1 by rw [Rows.uptoBulk]]
        have := bulk_range D l 0 fun i x hx => by rw [Nat.zero_add]; exact (hp i x hx).2.2
        simp only [Nat.zero_add] at this
        show siz l + 1 ≤ Rows.uptoBulkAll (List.map (fun i => D i) (List.range l.length)) + _ + 1
        omega
      · obtain ⟨i, hi, rfl⟩ := List.getElem_of_mem hx
        exact (hp i l[i] (List.getElem?_eq_getElem hi)).2.1
      · have hg : l.getD i Enc.d = l[i] := by rw [List.getD_eq_getElem?_getD, List.getElem?_eq_getElem hi]; rfl
        obtain ⟨h1, h2⟩ := hus i hi l[i] (List.getElem?_eq_getElem hi)
        obtain ⟨_, hlen, hcell⟩ := World.cells?_some h1
        refine ⟨⟨a, rfl, fun w' h3 h4 j u hu => ?_⟩, ⟨hlen, rels_one h2 (ho _)⟩, ?_⟩
        · have hj : j < Enc.sz α := by have := (List.getElem?_eq_some_iff.1 hu).1; omega
          have := hcell j hj
          rw [hu] at this
          unfold World.cell? at this ⊢
          cases hb : w.heap[((a.add (i * Enc.sz α)).add j).block]? with
          | none => rw [hb] at this; cases this
          | some o =>
            have hlt := (Array.getElem?_eq_some_iff.1 hb).1
            rw [h4 _ hlt trivial, hb]; rw [hb] at this; exact this
        · show rels allS W0 w (Enc.enc (l.getD i Enc.d)) (us i)
          rw [hg]; exact h2
/-- A struct whose fields are of one cell each. -/
theorem trod_flat {H : Type} {enc : TypeId × Value → H} {w : World} {base : Nat} {sp : Nat → Bool} {hd : Bool} {fuel : Nat} {cs : List Value} {x : DataW H × List MemPlace} {t : TypeId} {fs : Array Field}
    (hs : Try.prog.underlying t = some (.struct fs)) (h : DataW.trod enc Try.prog w base sp hd fuel t cs = some x) (n : Nat) (hc : Try.prog.cellsOf t = n) (hn : fs.size = n) (hf : ∀ i : Nat, i < n → (fs[i]?.map (·.offset)) = some i ∧ (fs[i]?.map fun f => Try.prog.cellsOf f.type) = some 1) :
    ∃ (m : Nat) (xs : List (DataW H × List MemPlace)), xs.length = n ∧ x.1 = .agg (xs.map (·.1)) ∧ cs.length = n ∧ ∀ (i : Nat) (f : Field) (c : Value) (y : DataW H × List MemPlace), fs[i]? = some f → cs[i]? = some c → xs[i]? = some y → DataW.trod enc Try.prog w base sp hd m f.type [c] = some y := by
  obtain ⟨xs, m, rfl, rfl, hlen, hxl, hall⟩ := DataW.trod_struct hs h
  refine ⟨m, xs, hxl.trans hn, rfl, hlen.trans hc, fun i f c y hfi hci hyi => ?_⟩
  have hi : i < n := by rw [← hn]; exact (Array.getElem?_eq_some_iff.1 hfi).1
  obtain ⟨h1, h2⟩ := hf i hi
  rw [hfi] at h1 h2
  simp only [Option.map_some, Option.some.injEq] at h1 h2
  have := hall i f hfi
  rw [hyi, h1, h2] at this
  rw [← this]
  congr 1
  obtain ⟨hl, e⟩ := List.getElem?_eq_some_iff.1 hci
  rw [List.drop_eq_getElem_cons hl, e]; rfl
theorem list1 {α : Type} {l : List α} (h : l.length = 1) : ∃ a, l = [a] := by
  match l, h with
  | [a], _ => exact ⟨a, rfl⟩
theorem list2 {α : Type} {l : List α} (h : l.length = 2) : ∃ a b, l = [a, b] := by
  match l, h with
  | [a, b], _ => exact ⟨a, b, rfl⟩
theorem list3 {α : Type} {l : List α} (h : l.length = 3) : ∃ a b c, l = [a, b, c] := by
  match l, h with
  | [a, b, c], _ => exact ⟨a, b, c, rfl⟩
theorem list4 {α : Type} {l : List α} (h : l.length = 4) : ∃ a b c d, l = [a, b, c, d] := by
  match l, h with
  | [a, b, c, d], _ => exact ⟨a, b, c, d, rfl⟩
theorem list7 {α : Type} {l : List α} (h : l.length = 7) : ∃ a b c d e f g, l = [a, b, c, d, e, f, g] := by
  match l, h with
  | [a, b, c, d, e, f, g], _ => exact ⟨a, b, c, d, e, f, g, rfl⟩
/-- A contract, at a call from without. -/
theorem calls_of_A {f : FuncId} {args : List AV} {us : List Value} {w : World} {b : Bool} (h : ASpec Try.prog f args (.b b) []) (hr : rels allS W0 w args us) (hv : Rob allS w Vr) :
    Calls Try.prog f us.toArray w fun e w' => e = .returned (.bool b) ∧ Below w.heap.size w w' :=
  (h.2.2 allS w us hr hv).mono fun e w' ⟨v, β', he, hb, _, _, _, _, hrel⟩ => ⟨by rw [he]; unfold rel at hrel; rw [hrel], hb⟩
theorem open_arg {α : Type} [Enc α] [Siz α] [Rng α] {H : Type} {enc : TypeId × Value → H} {w : World} {base b0 : Nat} {sp : Nat → Bool} {hd : Bool} {r : Reach} {t : TypeId} {v : Value} {d : DataW H} {ps : List MemPlace} {fs : Array Field}
    (ho : OpA t α) (ht : Try.prog.underlying t = some (.struct fs)) (hval : Value.okWide Try.prog w r b0 t v) (h : DataW.Trod enc Try.prog w base sp hd t v d ps) : ∃ x : α, rel allS W0 w (eS x) v ∧ Rng.rng x ∧ siz x + 1 ≤ Rows.uptoBulk d := by
  obtain ⟨cs, rfl, _⟩ := okWide_struct ht hval
  obtain ⟨fuel, hf⟩ := h
  obtain ⟨x, h1, h2, h3⟩ := ho.open_ _ _ _ _ _ _ _ _ hf
  exact ⟨x, ⟨cs.toList, by simp, by simpa [Value.cells] using h3⟩, h2, h1⟩
instance : Rng Plc := ⟨fun x => rngI x.f ∧ rngI x.b ∧ rngI x.i⟩
theorem op_Plc : OpA 28 Plc where
  open_ := fun enc w base sp hd fuel cs x h => by
    obtain ⟨m, xs, h1, h2, h3, h4⟩ := trod_flat Try.underlying28 h 3 (by kernel_rfl) rfl (by decide)
    obtain ⟨c0, c1, c2, rfl⟩ := list3 h3
    obtain ⟨y0, y1, y2, rfl⟩ := list3 h1
    obtain ⟨d0, a0, b0, r0⟩ := (op_i64 Try.underlying3).open_ _ _ _ _ _ _ _ _ (h4 0 _ _ _ rfl rfl rfl)
    obtain ⟨_, _, e0, r0, rn0⟩ := r0
    cases e0
    obtain ⟨d1, a1, b1, r1⟩ := (op_i64 Try.underlying3).open_ _ _ _ _ _ _ _ _ (h4 1 _ _ _ rfl rfl rfl)
    obtain ⟨_, _, e1, r1, rn1⟩ := r1
    cases e1
    obtain ⟨d2, a2, b2, r2⟩ := (op_i64 Try.underlying3).open_ _ _ _ _ _ _ _ _ (h4 2 _ _ _ rfl rfl rfl)
    obtain ⟨_, _, e2, r2, rn2⟩ := r2
    cases e2
    refine ⟨⟨d0, d1, d2⟩, ?_, ⟨b0, b1, b2⟩, ?_⟩
    · rw [h2]
      have e : siz (⟨d0, d1, d2⟩ : Plc) = 0 := rfl
      rw [e, bulk_agg]
      simp only [List.map_cons, List.map_nil, bulk_cons, bulk_nil]
      omega
    · exact ⟨_, _, rfl, r0, ⟨_, _, rfl, r1, ⟨_, _, rfl, r2, rfl⟩⟩⟩
instance : Rng Opd := ⟨fun x => rngI x.k ∧ rngI x.n ∧ rngU x.b⟩
theorem op_Opd : OpA 43 Opd where
  open_ := fun enc w base sp hd fuel cs x h => by
    obtain ⟨m, xs, h1, h2, h3, h4⟩ := trod_flat Try.underlying43 h 3 (by kernel_rfl) rfl (by decide)
    obtain ⟨c0, c1, c2, rfl⟩ := list3 h3
    obtain ⟨y0, y1, y2, rfl⟩ := list3 h1
    obtain ⟨d0, a0, b0, r0⟩ := (op_i64 Try.underlying3).open_ _ _ _ _ _ _ _ _ (h4 0 _ _ _ rfl rfl rfl)
    obtain ⟨_, _, e0, r0, rn0⟩ := r0
    cases e0
    obtain ⟨d1, a1, b1, r1⟩ := (op_i64 Try.underlying3).open_ _ _ _ _ _ _ _ _ (h4 1 _ _ _ rfl rfl rfl)
    obtain ⟨_, _, e1, r1, rn1⟩ := r1
    cases e1
    obtain ⟨d2, a2, b2, r2⟩ := (op_u64 Try.underlying41).open_ _ _ _ _ _ _ _ _ (h4 2 _ _ _ rfl rfl rfl)
    obtain ⟨_, _, e2, r2, rn2⟩ := r2
    cases e2
    refine ⟨⟨d0, d1, d2⟩, ?_, ⟨b0, b1, b2⟩, ?_⟩
    · rw [h2]
      have e : siz (⟨d0, d1, d2⟩ : Opd) = 0 := rfl
      rw [e, bulk_agg]
      simp only [List.map_cons, List.map_nil, bulk_cons, bulk_nil]
      omega
    · exact ⟨_, _, rfl, r0, ⟨_, _, rfl, r1, ⟨_, _, rfl, r2, rfl⟩⟩⟩
instance : Rng InsE := ⟨fun x => rngI x.op ∧ rngI x.reg ∧ rngI x.t ∧ rngI x.n ∧ rngI x.f ∧ Rng.rng x.args ∧ Rng.rng x.to⟩
theorem op_InsE : OpA 55 InsE where
  open_ := fun enc w base sp hd fuel cs x h => by
    obtain ⟨m, xs, h1, h2, h3, h4⟩ := trod_flat Try.underlying55 h 7 (by kernel_rfl) rfl (by decide)
    obtain ⟨c0, c1, c2, c3, c4, c5, c6, rfl⟩ := list7 h3
    obtain ⟨y0, y1, y2, y3, y4, y5, y6, rfl⟩ := list7 h1
    obtain ⟨d0, a0, b0, r0⟩ := (op_i64 Try.underlying3).open_ _ _ _ _ _ _ _ _ (h4 0 _ _ _ rfl rfl rfl)
    obtain ⟨_, _, e0, r0, rn0⟩ := r0
    cases e0
    obtain ⟨d1, a1, b1, r1⟩ := (op_i64 Try.underlying3).open_ _ _ _ _ _ _ _ _ (h4 1 _ _ _ rfl rfl rfl)
    obtain ⟨_, _, e1, r1, rn1⟩ := r1
    cases e1
    obtain ⟨d2, a2, b2, r2⟩ := (op_i64 Try.underlying3).open_ _ _ _ _ _ _ _ _ (h4 2 _ _ _ rfl rfl rfl)
    obtain ⟨_, _, e2, r2, rn2⟩ := r2
    cases e2
    obtain ⟨d3, a3, b3, r3⟩ := (op_i64 Try.underlying3).open_ _ _ _ _ _ _ _ _ (h4 3 _ _ _ rfl rfl rfl)
    obtain ⟨_, _, e3, r3, rn3⟩ := r3
    cases e3
    obtain ⟨d4, a4, b4, r4⟩ := (op_i64 Try.underlying3).open_ _ _ _ _ _ _ _ _ (h4 4 _ _ _ rfl rfl rfl)
    obtain ⟨_, _, e4, r4, rn4⟩ := r4
    cases e4
    obtain ⟨d5, a5, b5, r5⟩ := (OpA.list (α := Opd) Try.underlying53 (by kernel_rfl) (fun _ => rfl) op_Opd).open_ _ _ _ _ _ _ _ _ (h4 5 _ _ _ rfl rfl rfl)
    obtain ⟨_, _, e5, r5, rn5⟩ := r5
    cases e5
    obtain ⟨d6, a6, b6, r6⟩ := (OpA.list (α := Int) Try.underlying31 (by kernel_rfl) (fun _ => rfl) (op_i64 Try.underlying3)).open_ _ _ _ _ _ _ _ _ (h4 6 _ _ _ rfl rfl rfl)
    obtain ⟨_, _, e6, r6, rn6⟩ := r6
    cases e6
    refine ⟨⟨d0, d1, d2, d3, d4, d5, d6⟩, ?_, ⟨b0, b1, b2, b3, b4, b5, b6⟩, ?_⟩
    · rw [h2]
      have e : siz (⟨d0, d1, d2, d3, d4, d5, d6⟩ : InsE) = siz d5 + siz d6 := rfl
      rw [e, bulk_agg]
      simp only [List.map_cons, List.map_nil, bulk_cons, bulk_nil]
      omega
    · exact ⟨_, _, rfl, r0, ⟨_, _, rfl, r1, ⟨_, _, rfl, r2, ⟨_, _, rfl, r3, ⟨_, _, rfl, r4, ⟨_, _, rfl, r5, ⟨_, _, rfl, r6, rfl⟩⟩⟩⟩⟩⟩⟩
instance : Rng BlkE := ⟨fun x => Rng.rng x.code⟩
theorem op_BlkE : OpA 52 BlkE where
  open_ := fun enc w base sp hd fuel cs x h => by
    obtain ⟨m, xs, h1, h2, h3, h4⟩ := trod_flat Try.underlying52 h 1 (by kernel_rfl) rfl (by decide)
    obtain ⟨c0, rfl⟩ := list1 h3
    obtain ⟨y0, rfl⟩ := list1 h1
    obtain ⟨d0, a0, b0, r0⟩ := (OpA.list (α := InsE) Try.underlying50 (by kernel_rfl) (fun _ => rfl) op_InsE).open_ _ _ _ _ _ _ _ _ (h4 0 _ _ _ rfl rfl rfl)
    obtain ⟨_, _, e0, r0, rn0⟩ := r0
    cases e0
    refine ⟨⟨d0⟩, ?_, b0, ?_⟩
    · rw [h2]
      have e : siz (⟨d0⟩ : BlkE) = siz d0 := rfl
      rw [e, bulk_agg]
      simp only [List.map_cons, List.map_nil, bulk_cons, bulk_nil]
      omega
    · exact ⟨_, _, rfl, r0, rfl⟩
instance : Rng FnE := ⟨fun x => True ∧ Rng.rng x.params ∧ rngI x.ret ∧ Rng.rng x.blocks⟩
theorem op_FnE : OpA 34 FnE where
  open_ := fun enc w base sp hd fuel cs x h => by
    obtain ⟨m, xs, h1, h2, h3, h4⟩ := trod_flat Try.underlying34 h 4 (by kernel_rfl) rfl (by decide)
    obtain ⟨c0, c1, c2, c3, rfl⟩ := list4 h3
    obtain ⟨y0, y1, y2, y3, rfl⟩ := list4 h1
    obtain ⟨d0, a0, b0, r0⟩ := (op_str Try.underlying9).open_ _ _ _ _ _ _ _ _ (h4 0 _ _ _ rfl rfl rfl)
    obtain ⟨_, _, e0, r0, rn0⟩ := r0
    cases e0
    obtain ⟨d1, a1, b1, r1⟩ := (OpA.list (α := Int) Try.underlying31 (by kernel_rfl) (fun _ => rfl) (op_i64 Try.underlying3)).open_ _ _ _ _ _ _ _ _ (h4 1 _ _ _ rfl rfl rfl)
    obtain ⟨_, _, e1, r1, rn1⟩ := r1
    cases e1
    obtain ⟨d2, a2, b2, r2⟩ := (op_i64 Try.underlying3).open_ _ _ _ _ _ _ _ _ (h4 2 _ _ _ rfl rfl rfl)
    obtain ⟨_, _, e2, r2, rn2⟩ := r2
    cases e2
    obtain ⟨d3, a3, b3, r3⟩ := (OpA.list (α := BlkE) Try.underlying32 (by kernel_rfl) (fun _ => rfl) op_BlkE).open_ _ _ _ _ _ _ _ _ (h4 3 _ _ _ rfl rfl rfl)
    obtain ⟨_, _, e3, r3, rn3⟩ := r3
    cases e3
    refine ⟨⟨d0, d1, d2, d3⟩, ?_, ⟨trivial, b1, b2, b3⟩, ?_⟩
    · rw [h2]
      have e : siz (⟨d0, d1, d2, d3⟩ : FnE) = siz d0 + siz d1 + siz d3 := rfl
      rw [e, bulk_agg]
      simp only [List.map_cons, List.map_nil, bulk_cons, bulk_nil]
      omega
    · exact ⟨_, _, rfl, r0, ⟨_, _, rfl, r1, ⟨_, _, rfl, r2, ⟨_, _, rfl, r3, rfl⟩⟩⟩⟩
instance : Rng VarE := ⟨fun x => True ∧ rngI x.size⟩
theorem op_VarE : OpA 101 VarE where
  open_ := fun enc w base sp hd fuel cs x h => by
    obtain ⟨m, xs, h1, h2, h3, h4⟩ := trod_flat Try.underlying101 h 2 (by kernel_rfl) rfl (by decide)
    obtain ⟨c0, c1, rfl⟩ := list2 h3
    obtain ⟨y0, y1, rfl⟩ := list2 h1
    obtain ⟨d0, a0, b0, r0⟩ := (op_str Try.underlying9).open_ _ _ _ _ _ _ _ _ (h4 0 _ _ _ rfl rfl rfl)
    obtain ⟨_, _, e0, r0, rn0⟩ := r0
    cases e0
    obtain ⟨d1, a1, b1, r1⟩ := (op_i64 Try.underlying3).open_ _ _ _ _ _ _ _ _ (h4 1 _ _ _ rfl rfl rfl)
    obtain ⟨_, _, e1, r1, rn1⟩ := r1
    cases e1
    refine ⟨⟨d0, d1⟩, ?_, ⟨trivial, b1⟩, ?_⟩
    · rw [h2]
      have e : siz (⟨d0, d1⟩ : VarE) = siz d0 := rfl
      rw [e, bulk_agg]
      simp only [List.map_cons, List.map_nil, bulk_cons, bulk_nil]
      omega
    · exact ⟨_, _, rfl, r0, ⟨_, _, rfl, r1, rfl⟩⟩
instance : Rng ExtE := ⟨fun x => True ∧ Rng.rng x.params ∧ rngI x.ret⟩
theorem op_ExtE : OpA 86 ExtE where
  open_ := fun enc w base sp hd fuel cs x h => by
    obtain ⟨m, xs, h1, h2, h3, h4⟩ := trod_flat Try.underlying86 h 3 (by kernel_rfl) rfl (by decide)
    obtain ⟨c0, c1, c2, rfl⟩ := list3 h3
    obtain ⟨y0, y1, y2, rfl⟩ := list3 h1
    obtain ⟨d0, a0, b0, r0⟩ := (op_str Try.underlying9).open_ _ _ _ _ _ _ _ _ (h4 0 _ _ _ rfl rfl rfl)
    obtain ⟨_, _, e0, r0, rn0⟩ := r0
    cases e0
    obtain ⟨d1, a1, b1, r1⟩ := (OpA.list (α := Int) Try.underlying31 (by kernel_rfl) (fun _ => rfl) (op_i64 Try.underlying3)).open_ _ _ _ _ _ _ _ _ (h4 1 _ _ _ rfl rfl rfl)
    obtain ⟨_, _, e1, r1, rn1⟩ := r1
    cases e1
    obtain ⟨d2, a2, b2, r2⟩ := (op_i64 Try.underlying3).open_ _ _ _ _ _ _ _ _ (h4 2 _ _ _ rfl rfl rfl)
    obtain ⟨_, _, e2, r2, rn2⟩ := r2
    cases e2
    refine ⟨⟨d0, d1, d2⟩, ?_, ⟨trivial, b1, b2⟩, ?_⟩
    · rw [h2]
      have e : siz (⟨d0, d1, d2⟩ : ExtE) = siz d0 + siz d1 := rfl
      rw [e, bulk_agg]
      simp only [List.map_cons, List.map_nil, bulk_cons, bulk_nil]
      omega
    · exact ⟨_, _, rfl, r0, ⟨_, _, rfl, r1, ⟨_, _, rfl, r2, rfl⟩⟩⟩
instance : Rng ModE := ⟨fun x => Rng.rng x.vars ∧ Rng.rng x.exts ∧ Rng.rng x.funcs⟩
theorem op_ModE : OpA 26 ModE where
  open_ := fun enc w base sp hd fuel cs x h => by
    obtain ⟨m, xs, h1, h2, h3, h4⟩ := trod_flat Try.underlying26 h 3 (by kernel_rfl) rfl (by decide)
    obtain ⟨c0, c1, c2, rfl⟩ := list3 h3
    obtain ⟨y0, y1, y2, rfl⟩ := list3 h1
    obtain ⟨d0, a0, b0, r0⟩ := (OpA.list (α := VarE) Try.underlying22 (by kernel_rfl) (fun _ => rfl) op_VarE).open_ _ _ _ _ _ _ _ _ (h4 0 _ _ _ rfl rfl rfl)
    obtain ⟨_, _, e0, r0, rn0⟩ := r0
    cases e0
    obtain ⟨d1, a1, b1, r1⟩ := (OpA.list (α := ExtE) Try.underlying23 (by kernel_rfl) (fun _ => rfl) op_ExtE).open_ _ _ _ _ _ _ _ _ (h4 1 _ _ _ rfl rfl rfl)
    obtain ⟨_, _, e1, r1, rn1⟩ := r1
    cases e1
    obtain ⟨d2, a2, b2, r2⟩ := (OpA.list (α := FnE) Try.underlying24 (by kernel_rfl) (fun _ => rfl) op_FnE).open_ _ _ _ _ _ _ _ _ (h4 2 _ _ _ rfl rfl rfl)
    obtain ⟨_, _, e2, r2, rn2⟩ := r2
    cases e2
    refine ⟨⟨d0, d1, d2⟩, ?_, ⟨b0, b1, b2⟩, ?_⟩
    · rw [h2]
      have e : siz (⟨d0, d1, d2⟩ : ModE) = siz d0 + siz d1 + siz d2 := rfl
      rw [e, bulk_agg]
      simp only [List.map_cons, List.map_nil, bulk_cons, bulk_nil]
      omega
    · exact ⟨_, _, rfl, r0, ⟨_, _, rfl, r1, ⟨_, _, rfl, r2, rfl⟩⟩⟩
end Go.Proofs.Ytecknkgiaahheaa

/- What is right of a right module, and within its kinds. -/
namespace Go.Proofs.Ytecknkgiaahheaa
open Go.RowKit
set_option linter.unusedVariables false
set_option linter.unusedSimpArgs false
theorem rng_at {α : Type} [Enc α] [Rng α] {l : List α} (h : Rng.rng l) (hd : Rng.rng (Enc.d : α)) (i : Nat) : Rng.rng (l.getD i Enc.d) := by
  rcases Nat.lt_or_ge i l.length with hi | hi
  · rw [List.getD_eq_getElem?_getD, List.getElem?_eq_getElem hi]; exact h _ (List.getElem_mem hi)
  · rw [List.getD_eq_getElem?_getD, List.getElem?_eq_none hi]; exact hd
theorem rng0 : rngI 0 := by unfold rngI; omega
theorem rngD_ins : Rng.rng (Enc.d : InsE) := ⟨rng0, rng0, rng0, rng0, rng0, fun x h => (by cases h), fun x h => (by cases h)⟩
theorem rngD_blk : Rng.rng (Enc.d : BlkE) := fun x h => (by cases h)
theorem rngD_opd : Rng.rng (Enc.d : Opd) := ⟨rng0, rng0, by unfold rngU; show (0 : Int) ≤ 0 ∧ (0 : Int) < _; omega⟩
theorem rngD_fn : Rng.rng (Enc.d : FnE) := ⟨trivial, fun x h => (by cases h), rng0, fun x h => (by cases h)⟩
theorem inI_of {x : Int} (h : rngI x) : inI x := by unfold rngI at h; unfold inI; omega
theorem rng_ins {f : FnE} (h : Rng.rng f) (b i : Nat) : Rng.rng ((f.blocks.getD b Enc.d).code.getD i Enc.d) := by
  obtain ⟨_, _, _, h4⟩ := h
  have h5 : Rng.rng (f.blocks.getD b Enc.d) := rng_at h4 rngD_blk b
  exact rng_at (show Rng.rng (f.blocks.getD b Enc.d).code from h5) rngD_ins i
theorem OkF_of {f : FnE} (hz : siz f < 4294967296) (h : Rng.rng f) : OkF f where
  sz := hz
  n := fun b i => inI_of (rng_ins h b i).2.2.2.1
  reg := fun b i => inI_of (rng_ins h b i).2.1
  arg := fun b i k => by
    have h6 := (rng_ins h b i).2.2.2.2.2.1
    exact inI_of (rng_at h6 rngD_opd k).2.1
theorem C1_at {f : FnE} {b i : Nat} (hb : b < f.blocks.length) (hi : i < (f.blocks.getD b Enc.d).code.length) : ∃ q, q < (Code f).length ∧ (C1 f).getD q Enc.d = (f.blocks.getD b Enc.d).code.getD i Enc.d := by
  obtain ⟨rest, e⟩ := Code_split hb hi
  refine ⟨(codeTo f b i).length, by rw [e]; simp, ?_⟩
  unfold C1
  rw [e, List.map_append, List.getD_eq_getElem?_getD, List.getElem?_append_right (by simp), List.length_map, Nat.sub_self]
  rfl
theorem C1_rng {f : FnE} (h : Rng.rng f) (i : Nat) : inI ((C1 f).getD i Enc.d).n := by
  rcases Nat.lt_or_ge i (Code f).length with hi | hi
  · obtain ⟨b, k, _, _, h3, _⟩ := Code_get hi
    rw [h3]; exact inI_of (rng_ins h b k).2.2.2.1
  · rw [List.getD_eq_getElem?_getD, List.getElem?_eq_none (by rw [C1_len]; exact hi)]
    exact inI_of rng0
theorem chkN_zero {m : ModE} {R : FnE → List Bool} {T : FnE → List (List Bool)} (h : (CheckF m R T).code = 0) (i : Nat) (hi : i < m.funcs.length) : (chk m R T (m.funcs.getD i Enc.d) i).code = 0 := by
  have h1 : (chkN m R T (i + 1)).code = 0 := by
    apply Classical.byContradiction
    intro hn
    have := chkN_stay hn m.funcs.length (by omega)
    rw [CheckF, this] at h; exact hn h
  rw [chkN] at h1
  split at h1
  · exact h1
  · rename_i h2; exact absurd h1 h2
/-- What Check says of one function. -/
structure RightF (m : ModE) (f : FnE) : Prop where
  blk : ∃ n, (blocksF f n).code = 0
  frm : ∃ n, (formsF m f n).code = 0
theorem chk_right {m : ModE} {R : FnE → List Bool} {T : FnE → List (List Bool)} {f : FnE} {n : Int} (h : (chk m R T f n).code = 0) : RightF m f := by
  unfold chk at h
  split at h
  · rename_i h1
    split at h
    · rename_i h2; exact ⟨⟨n, h1⟩, ⟨n, h2⟩⟩
    · rename_i h2; exact absurd h h2
  · rename_i h1; exact absurd h h1
theorem RightF.nb {m : ModE} {f : FnE} (h : RightF m f) : 1 ≤ f.blocks.length ∧ f.blocks.length ≤ 64 := by
  obtain ⟨n, h⟩ := h.blk
  unfold blocksF at h
  split at h
  · simp at h
  · omega
theorem RightF.many {m : ModE} {f : FnE} (h : RightF m f) {b i : Nat} (hi : i < lenE f b) : (many f (insE f b i)).1 = (insE f b i).args.length := by
  obtain ⟨n, h⟩ := h.frm
  have hi' : i < (f.blocks.getD b Enc.d).code.length := hi
  have hb : b < f.blocks.length := by
    apply Classical.byContradiction
    intro hb
    rw [List.getD_eq_getElem?_getD, List.getElem?_eq_none (by omega)] at hi'
    exact absurd hi' (Nat.not_lt_zero _)
  obtain ⟨q, hq, e⟩ := C1_at hb hi'
  have h1 := firstF_zero h q hq
  unfold formC at h1
  rw [e] at h1
  split at h1
  · simp at h1
  · rename_i h2
    unfold formedF at h2
    split at h2
    · exact absurd rfl h2
    · rename_i h3
      exact Decidable.not_not.1 (fun h4 => h3 (.inl h4))
theorem RightF.okA {m : ModE} {f : FnE} (h : RightF m f) : OkA f where
  st := fun b i hi ho => by
    have h1 := h.many hi
    unfold Go.Proofs.Ytecknkgiaahheaa.many at h1
    simp [ho] at h1; omega
  ld := fun b i hi ho => by
    have h1 := h.many hi
    unfold Go.Proofs.Ytecknkgiaahheaa.many at h1
    simp [ho] at h1; omega
  nb := by have := h.nb; omega
end Go.Proofs.Ytecknkgiaahheaa

/- Layer 2, whole modules: how great, the same, as new memory. -/
namespace Go.Proofs.Ytecknkgiaahheaa
open Go.RowKit
set_option linter.unusedVariables false
set_option linter.unusedSimpArgs false
set_option maxRecDepth 100000
set_option maxHeartbeats 4000000
/-- So many numbers together. -/
def preN (g : Nat → Nat) : Nat → Nat
  | 0 => 0
  | q + 1 => preN g q + g q
theorem preN_mono {g : Nat → Nat} {q : Nat} : ∀ {k : Nat}, q ≤ k → preN g q ≤ preN g k
  | 0, h => by rw [show q = 0 by omega]; exact Nat.le_refl _
  | k + 1, h => by
    rcases Nat.lt_or_ge q (k + 1) with h2 | h2
    · have := preN_mono (g := g) (q := q) (k := k) (by omega); rw [preN]; omega
    · rw [show q = k + 1 by omega]; exact Nat.le_refl _
theorem preN_in {g : Nat → Nat} {q k : Nat} (h : q < k) : preN g q + g q ≤ preN g k := preN_mono (g := g) (q := q + 1) h
theorem preN_shift (g : Nat → Nat) : ∀ q, preN g (q + 1) = g 0 + preN (fun i => g (i + 1)) q
  | 0 => by simp [preN]
  | q + 1 => by rw [preN, preN_shift g q, preN]; omega
theorem preN_siz {α : Type} [Enc α] [Siz α] (g : α → Nat) (hg : ∀ x, g x ≤ siz x) : ∀ l : List α, l.length + preN (fun i => g (l.getD i Enc.d)) l.length ≤ siz l
  | [] => Nat.le_refl _
  | x :: l => by
    have h1 := preN_siz g hg l
    have e : siz (x :: l) = l.length + 1 + (siz x + (l.map siz).sum) := rfl
    have e2 : siz l = l.length + (l.map siz).sum := rfl
    have h2 := hg x
    rw [List.length_cons, preN_shift]
    show l.length + 1 + (g x + preN (fun i => g (l.getD i Enc.d)) l.length) ≤ _
    omega
def insQ (x : InsE) : Nat := x.args.length + x.to.length
def blkQ (y : BlkE) : Nat := y.code.length + preN (fun k => insQ (y.code.getD k Enc.d)) y.code.length
def fnQ (f : FnE) : Nat := f.params.length + f.blocks.length + preN (fun b => blkQ (f.blocks.getD b Enc.d)) f.blocks.length
def extQ (x : ExtE) : Nat := x.params.length
def modQ (m : ModE) : Nat := m.vars.length + m.exts.length + m.funcs.length + preN (fun i => extQ (m.exts.getD i Enc.d)) m.exts.length + preN (fun i => fnQ (m.funcs.getD i Enc.d)) m.funcs.length
theorem insQ_le (x : InsE) : insQ x ≤ siz x := by
  have h1 := len_siz x.args; have h2 := len_siz x.to
  have e : siz x = siz x.args + siz x.to := rfl
  unfold insQ; omega
theorem blkQ_le (y : BlkE) : blkQ y ≤ siz y := preN_siz insQ insQ_le y.code
theorem fnQ_le (f : FnE) : fnQ f ≤ siz f := by
  have h1 := len_siz f.params
  have h2 := preN_siz blkQ blkQ_le f.blocks
  have e : siz f = siz f.name + siz f.params + siz f.blocks := rfl
  unfold fnQ; omega
theorem extQ_le (x : ExtE) : extQ x ≤ siz x := by
  have h1 := len_siz x.params
  have e : siz x = siz x.name + siz x.params := rfl
  unfold extQ; omega
theorem modQ_le (m : ModE) : modQ m ≤ siz m := by
  have h1 := len_siz m.vars
  have h2 := preN_siz extQ extQ_le m.exts
  have h3 := preN_siz fnQ fnQ_le m.funcs
  have e : siz m = siz m.vars + siz m.exts + siz m.funcs := rfl
  unfold modQ; omega
theorem Few_S (m : ModE) (most : Int) (hm : siz m < 4294967296) : ASpec Try.prog 19 [eS m, .i .i64 most] (.b (decide ((modQ m : Int) ≤ most))) [] := by
  have h0 := modQ_le m
  have e0 : modQ m = m.vars.length + m.exts.length + m.funcs.length + preN (fun i => extQ (m.exts.getD i Enc.d)) m.exts.length + preN (fun i => fnQ (m.funcs.getD i Enc.d)) m.funcs.length := rfl
  refine ASpec.enter TYok mixed Try.func19 rfl Try.call19 Try.ntmps19 rfl (rs := [.tmp 4]) rfl (nodupB_ok rfl) (Clo.one rfl) (keep := [0, 1, 2, 4, 5, 7, 9, 11, 13, 26, 27, 28, 39, 40, 41, 55, 56, 57, 67, 68, 69]) ?_; conv => whnf
  repeat' first | (refine And.intro (fun (hb : _ = true) => ?_) (fun (hb : _ = false) => ?_) <;> (try simp only [pickB_or, pickB_and] at hb) <;> (have hc := hb; try simp only [sB, Int.reduceToNat] at hc; try simp only [addZ0] at hc) <;> first | (exfalso; omega) | conv => whnf) | ((first | refine ⟨_, wr64 ti ti, ?_⟩ | refine And.intro si ?_ | refine LitW.frz ?_ | refine Drw.d (by decide +kernel) ?_ | refine Drw.f (by decide +kernel) ?_ | refine Drw0.d (by decide +kernel) ?_ | refine Drw0.f (by decide +kernel) ?_ | refine Drw.l (by decide +kernel) ?_ | refine And.intro tgi ?_ | refine ⟨_, shl1 (by omega), ?_⟩ | refine ⟨_, wru64 ti ti, ?_⟩ | refine ⟨_, fun _ => (IntKind.wrap_u64 _).symm, ?_⟩); conv => whnf) | exact ⟨_, .keep rfl rfl⟩ | fail
  let N0 := m.vars.length + m.exts.length + m.funcs.length
  refine lp [28, 5] (fun q : Nat => [.i .i64 q, .i .i64 (N0 + preN (fun i => extQ (m.exts.getD i Enc.d)) q : Nat)]) (fun q => [(2, bx m)]) (fun q => q ≤ m.exts.length) (fun q => m.exts.length - q) 0 (by omega) ?_ fun q hq => ?_
  · refine Ent.lp [] [] rfl rfl rfl ?_ ?_ <;> repeat' first | exact trivial | rfl | exact fun _ _ => rfl | omega | refine And.intro ?_ ?_ | (show (_ : Int) = _; first | omega | (simp only [Int.toNat_natCast]; omega))
  conv => whnf
  rcases Nat.lt_or_ge q m.exts.length with hlt | hge
  · have p1 : preN (fun i => extQ (m.exts.getD i Enc.d)) q + extQ (m.exts.getD q Enc.d) ≤ preN (fun i => extQ (m.exts.getD i Enc.d)) m.exts.length := preN_in hlt
    have p2 : extQ (m.exts.getD q Enc.d) = (m.exts.getD q Enc.d).params.length := rfl
    repeat' first | (refine And.intro (fun (hb : _ = true) => ?_) (fun (hb : _ = false) => ?_) <;> (try simp only [pickB_or, pickB_and] at hb) <;> (have hc := hb; try simp only [sB, Int.reduceToNat] at hc; try simp only [addZ0] at hc) <;> first | (exfalso; omega) | conv => whnf) | ((first | refine ⟨_, wr64 ti ti, ?_⟩ | refine And.intro si ?_ | refine LitW.frz ?_ | refine Drw.d (by decide +kernel) ?_ | refine Drw.f (by decide +kernel) ?_ | refine Drw0.d (by decide +kernel) ?_ | refine Drw0.f (by decide +kernel) ?_ | refine Drw.l (by decide +kernel) ?_ | refine And.intro tgi ?_ | refine ⟨_, shl1 (by omega), ?_⟩ | refine ⟨_, wru64 ti ti, ?_⟩ | refine ⟨_, fun _ => (IntKind.wrap_u64 _).symm, ?_⟩); conv => whnf) | exact ⟨_, .keep rfl rfl⟩ | fail
    refine .mk (q + 1) (by omega) (by omega) ?_
    have e : preN (fun i => extQ (m.exts.getD i Enc.d)) (q + 1) = preN (fun i => extQ (m.exts.getD i Enc.d)) q + extQ (m.exts.getD q Enc.d) := rfl
    refine Ent.lp [] [] rfl rfl rfl ?_ ?_ <;> repeat' first | exact trivial | rfl | exact fun _ _ => rfl | omega | refine And.intro ?_ ?_ | (show (_ : Int) = _; first | omega | (simp only [Int.toNat_natCast]; omega))
  obtain rfl : q = m.exts.length := by omega
  repeat' first | (refine And.intro (fun (hb : _ = true) => ?_) (fun (hb : _ = false) => ?_) <;> (try simp only [pickB_or, pickB_and] at hb) <;> (have hc := hb; try simp only [sB, Int.reduceToNat] at hc; try simp only [addZ0] at hc) <;> first | (exfalso; omega) | conv => whnf) | ((first | refine ⟨_, wr64 ti ti, ?_⟩ | refine And.intro si ?_ | refine LitW.frz ?_ | refine Drw.d (by decide +kernel) ?_ | refine Drw.f (by decide +kernel) ?_ | refine Drw0.d (by decide +kernel) ?_ | refine Drw0.f (by decide +kernel) ?_ | refine Drw.l (by decide +kernel) ?_ | refine And.intro tgi ?_ | refine ⟨_, shl1 (by omega), ?_⟩ | refine ⟨_, wru64 ti ti, ?_⟩ | refine ⟨_, fun _ => (IntKind.wrap_u64 _).symm, ?_⟩); conv => whnf) | exact ⟨_, .keep rfl rfl⟩ | fail
  let N1 := N0 + preN (fun i => extQ (m.exts.getD i Enc.d)) m.exts.length
  refine lp [41, 5] (fun q : Nat => [.i .i64 q, .i .i64 (N1 + preN (fun i => fnQ (m.funcs.getD i Enc.d)) q : Nat)]) (fun q => [(2, bx m)]) (fun q => q ≤ m.funcs.length) (fun q => m.funcs.length - q) 0 (by omega) ?_ fun j hj => ?_
  · refine Ent.lp [] [] rfl rfl rfl ?_ ?_ <;> repeat' first | exact trivial | rfl | exact fun _ _ => rfl | omega | refine And.intro ?_ ?_ | (show (_ : Int) = _; first | omega | (simp only [Int.toNat_natCast]; omega))
  conv => whnf
  rcases Nat.lt_or_ge j m.funcs.length with hlt | hge
  · have p1 : preN (fun i => fnQ (m.funcs.getD i Enc.d)) j + fnQ (m.funcs.getD j Enc.d) ≤ preN (fun i => fnQ (m.funcs.getD i Enc.d)) m.funcs.length := preN_in hlt
    have p2 : fnQ (m.funcs.getD j Enc.d) = (m.funcs.getD j Enc.d).params.length + (m.funcs.getD j Enc.d).blocks.length + preN (fun b => blkQ ((m.funcs.getD j Enc.d).blocks.getD b Enc.d)) (m.funcs.getD j Enc.d).blocks.length := rfl
    let N2 := N1 + preN (fun i => fnQ (m.funcs.getD i Enc.d)) j + ((m.funcs.getD j Enc.d).params.length + (m.funcs.getD j Enc.d).blocks.length)
    repeat' first | (refine And.intro (fun (hb : _ = true) => ?_) (fun (hb : _ = false) => ?_) <;> (try simp only [pickB_or, pickB_and] at hb) <;> (have hc := hb; try simp only [sB, Int.reduceToNat] at hc; try simp only [addZ0] at hc) <;> first | (exfalso; omega) | conv => whnf) | ((first | refine ⟨_, wr64 ti ti, ?_⟩ | refine And.intro si ?_ | refine LitW.frz ?_ | refine Drw.d (by decide +kernel) ?_ | refine Drw.f (by decide +kernel) ?_ | refine Drw0.d (by decide +kernel) ?_ | refine Drw0.f (by decide +kernel) ?_ | refine Drw.l (by decide +kernel) ?_ | refine And.intro tgi ?_ | refine ⟨_, shl1 (by omega), ?_⟩ | refine ⟨_, wru64 ti ti, ?_⟩ | refine ⟨_, fun _ => (IntKind.wrap_u64 _).symm, ?_⟩); conv => whnf) | exact ⟨_, .keep rfl rfl⟩ | fail
    refine lp [57, 5] (fun q : Nat => [.i .i64 q, .i .i64 (N2 + preN (fun b => blkQ ((m.funcs.getD j Enc.d).blocks.getD b Enc.d)) q : Nat)]) (fun q => [(2, bx m), (9, bx (m.funcs.getD j Enc.d))]) (fun q => q ≤ (m.funcs.getD j Enc.d).blocks.length) (fun q => (m.funcs.getD j Enc.d).blocks.length - q) 0 (by omega) ?_ fun b hb0 => ?_
    · refine Ent.lp [] [] rfl rfl rfl ?_ ?_ <;> repeat' first | exact trivial | rfl | exact fun _ _ => rfl | omega | refine And.intro ?_ ?_ | (show (_ : Int) = _; first | omega | (simp only [Int.toNat_natCast]; omega))
    conv => whnf
    rcases Nat.lt_or_ge b (m.funcs.getD j Enc.d).blocks.length with hlb | hgb
    · have q1 : preN (fun b => blkQ ((m.funcs.getD j Enc.d).blocks.getD b Enc.d)) b + blkQ ((m.funcs.getD j Enc.d).blocks.getD b Enc.d) ≤ preN (fun b => blkQ ((m.funcs.getD j Enc.d).blocks.getD b Enc.d)) (m.funcs.getD j Enc.d).blocks.length := preN_in hlb
      have q2 : blkQ ((m.funcs.getD j Enc.d).blocks.getD b Enc.d) = ((m.funcs.getD j Enc.d).blocks.getD b Enc.d).code.length + preN (fun k => insQ (((m.funcs.getD j Enc.d).blocks.getD b Enc.d).code.getD k Enc.d)) ((m.funcs.getD j Enc.d).blocks.getD b Enc.d).code.length := rfl
      let N3 := N2 + preN (fun b => blkQ ((m.funcs.getD j Enc.d).blocks.getD b Enc.d)) b + ((m.funcs.getD j Enc.d).blocks.getD b Enc.d).code.length
      repeat' first | (refine And.intro (fun (hb : _ = true) => ?_) (fun (hb : _ = false) => ?_) <;> (try simp only [pickB_or, pickB_and] at hb) <;> (have hc := hb; try simp only [sB, Int.reduceToNat] at hc; try simp only [addZ0] at hc) <;> first | (exfalso; omega) | conv => whnf) | ((first | refine ⟨_, wr64 ti ti, ?_⟩ | refine And.intro si ?_ | refine LitW.frz ?_ | refine Drw.d (by decide +kernel) ?_ | refine Drw.f (by decide +kernel) ?_ | refine Drw0.d (by decide +kernel) ?_ | refine Drw0.f (by decide +kernel) ?_ | refine Drw.l (by decide +kernel) ?_ | refine And.intro tgi ?_ | refine ⟨_, shl1 (by omega), ?_⟩ | refine ⟨_, wru64 ti ti, ?_⟩ | refine ⟨_, fun _ => (IntKind.wrap_u64 _).symm, ?_⟩); conv => whnf) | exact ⟨_, .keep rfl rfl⟩ | fail
      refine lp [69, 5] (fun q : Nat => [.i .i64 q, .i .i64 (N3 + preN (fun k => insQ (((m.funcs.getD j Enc.d).blocks.getD b Enc.d).code.getD k Enc.d)) q : Nat)]) (fun q => [(2, bx m), (9, bx (m.funcs.getD j Enc.d)), (11, bx ((m.funcs.getD j Enc.d).blocks.getD b Enc.d))]) (fun q => q ≤ ((m.funcs.getD j Enc.d).blocks.getD b Enc.d).code.length) (fun q => ((m.funcs.getD j Enc.d).blocks.getD b Enc.d).code.length - q) 0 (by omega) ?_ fun n hn2 => ?_
      · refine Ent.lp [] [] rfl rfl rfl ?_ ?_ <;> repeat' first | exact trivial | rfl | exact fun _ _ => rfl | omega | refine And.intro ?_ ?_ | (show (_ : Int) = _; first | omega | (simp only [Int.toNat_natCast]; omega))
      conv => whnf
      rcases Nat.lt_or_ge n ((m.funcs.getD j Enc.d).blocks.getD b Enc.d).code.length with hln | hgn
      · have r1 : preN (fun k => insQ (((m.funcs.getD j Enc.d).blocks.getD b Enc.d).code.getD k Enc.d)) n + insQ (((m.funcs.getD j Enc.d).blocks.getD b Enc.d).code.getD n Enc.d) ≤ preN (fun k => insQ (((m.funcs.getD j Enc.d).blocks.getD b Enc.d).code.getD k Enc.d)) ((m.funcs.getD j Enc.d).blocks.getD b Enc.d).code.length := preN_in hln
        have r2 : insQ (((m.funcs.getD j Enc.d).blocks.getD b Enc.d).code.getD n Enc.d) = (((m.funcs.getD j Enc.d).blocks.getD b Enc.d).code.getD n Enc.d).args.length + (((m.funcs.getD j Enc.d).blocks.getD b Enc.d).code.getD n Enc.d).to.length := rfl
        repeat' first | (refine And.intro (fun (hb : _ = true) => ?_) (fun (hb : _ = false) => ?_) <;> (try simp only [pickB_or, pickB_and] at hb) <;> (have hc := hb; try simp only [sB, Int.reduceToNat] at hc; try simp only [addZ0] at hc) <;> first | (exfalso; omega) | conv => whnf) | ((first | refine ⟨_, wr64 ti ti, ?_⟩ | refine And.intro si ?_ | refine LitW.frz ?_ | refine Drw.d (by decide +kernel) ?_ | refine Drw.f (by decide +kernel) ?_ | refine Drw0.d (by decide +kernel) ?_ | refine Drw0.f (by decide +kernel) ?_ | refine Drw.l (by decide +kernel) ?_ | refine And.intro tgi ?_ | refine ⟨_, shl1 (by omega), ?_⟩ | refine ⟨_, wru64 ti ti, ?_⟩ | refine ⟨_, fun _ => (IntKind.wrap_u64 _).symm, ?_⟩); conv => whnf) | exact ⟨_, .keep rfl rfl⟩ | fail
        · exact ⟨_, .keep (by rw [decide_eq_false]; omega) rfl⟩
        · refine .mk (n + 1) (by omega) (by omega) ?_
          have e : preN (fun k => insQ (((m.funcs.getD j Enc.d).blocks.getD b Enc.d).code.getD k Enc.d)) (n + 1) = preN (fun k => insQ (((m.funcs.getD j Enc.d).blocks.getD b Enc.d).code.getD k Enc.d)) n + insQ (((m.funcs.getD j Enc.d).blocks.getD b Enc.d).code.getD n Enc.d) := rfl
          refine Ent.lp [] [] rfl rfl rfl ?_ ?_ <;> repeat' first | exact trivial | rfl | exact fun _ _ => rfl | omega | refine And.intro ?_ ?_ | (show (_ : Int) = _; first | omega | (simp only [Int.toNat_natCast]; omega))
      · obtain rfl : n = ((m.funcs.getD j Enc.d).blocks.getD b Enc.d).code.length := by omega
        repeat' first | (refine And.intro (fun (hb : _ = true) => ?_) (fun (hb : _ = false) => ?_) <;> (try simp only [pickB_or, pickB_and] at hb) <;> (have hc := hb; try simp only [sB, Int.reduceToNat] at hc; try simp only [addZ0] at hc) <;> first | (exfalso; omega) | conv => whnf) | ((first | refine ⟨_, wr64 ti ti, ?_⟩ | refine And.intro si ?_ | refine LitW.frz ?_ | refine Drw.d (by decide +kernel) ?_ | refine Drw.f (by decide +kernel) ?_ | refine Drw0.d (by decide +kernel) ?_ | refine Drw0.f (by decide +kernel) ?_ | refine Drw.l (by decide +kernel) ?_ | refine And.intro tgi ?_ | refine ⟨_, shl1 (by omega), ?_⟩ | refine ⟨_, wru64 ti ti, ?_⟩ | refine ⟨_, fun _ => (IntKind.wrap_u64 _).symm, ?_⟩); conv => whnf) | exact ⟨_, .keep rfl rfl⟩ | fail
        refine .mk (b + 1) (by omega) (by omega) ?_
        have e : preN (fun b => blkQ ((m.funcs.getD j Enc.d).blocks.getD b Enc.d)) (b + 1) = preN (fun b => blkQ ((m.funcs.getD j Enc.d).blocks.getD b Enc.d)) b + blkQ ((m.funcs.getD j Enc.d).blocks.getD b Enc.d) := rfl
        refine Ent.lp [] [] rfl rfl rfl ?_ ?_ <;> repeat' first | exact trivial | rfl | exact fun _ _ => rfl | omega | refine And.intro ?_ ?_ | (show (_ : Int) = _; first | omega | (simp only [Int.toNat_natCast]; omega))
    · obtain rfl : b = (m.funcs.getD j Enc.d).blocks.length := by omega
      repeat' first | (refine And.intro (fun (hb : _ = true) => ?_) (fun (hb : _ = false) => ?_) <;> (try simp only [pickB_or, pickB_and] at hb) <;> (have hc := hb; try simp only [sB, Int.reduceToNat] at hc; try simp only [addZ0] at hc) <;> first | (exfalso; omega) | conv => whnf) | ((first | refine ⟨_, wr64 ti ti, ?_⟩ | refine And.intro si ?_ | refine LitW.frz ?_ | refine Drw.d (by decide +kernel) ?_ | refine Drw.f (by decide +kernel) ?_ | refine Drw0.d (by decide +kernel) ?_ | refine Drw0.f (by decide +kernel) ?_ | refine Drw.l (by decide +kernel) ?_ | refine And.intro tgi ?_ | refine ⟨_, shl1 (by omega), ?_⟩ | refine ⟨_, wru64 ti ti, ?_⟩ | refine ⟨_, fun _ => (IntKind.wrap_u64 _).symm, ?_⟩); conv => whnf) | exact ⟨_, .keep rfl rfl⟩ | fail
      refine .mk (j + 1) (by omega) (by omega) ?_
      have e : preN (fun i => fnQ (m.funcs.getD i Enc.d)) (j + 1) = preN (fun i => fnQ (m.funcs.getD i Enc.d)) j + fnQ (m.funcs.getD j Enc.d) := rfl
      refine Ent.lp [] [] rfl rfl rfl ?_ ?_ <;> repeat' first | exact trivial | rfl | exact fun _ _ => rfl | omega | refine And.intro ?_ ?_ | (show (_ : Int) = _; first | omega | (simp only [Int.toNat_natCast]; omega))
  · obtain rfl : j = m.funcs.length := by omega
    repeat' first | (refine And.intro (fun (hb : _ = true) => ?_) (fun (hb : _ = false) => ?_) <;> (try simp only [pickB_or, pickB_and] at hb) <;> (have hc := hb; try simp only [sB, Int.reduceToNat] at hc; try simp only [addZ0] at hc) <;> first | (exfalso; omega) | conv => whnf) | ((first | refine ⟨_, wr64 ti ti, ?_⟩ | refine And.intro si ?_ | refine LitW.frz ?_ | refine Drw.d (by decide +kernel) ?_ | refine Drw.f (by decide +kernel) ?_ | refine Drw0.d (by decide +kernel) ?_ | refine Drw0.f (by decide +kernel) ?_ | refine Drw.l (by decide +kernel) ?_ | refine And.intro tgi ?_ | refine ⟨_, shl1 (by omega), ?_⟩ | refine ⟨_, wru64 ti ti, ?_⟩ | refine ⟨_, fun _ => (IntKind.wrap_u64 _).symm, ?_⟩); conv => whnf) | exact ⟨_, .keep rfl rfl⟩ | fail
theorem ExtE.ext3 : ∀ {x y : ExtE}, x.name = y.name → x.params = y.params → x.ret = y.ret → x = y
  | ⟨_, _, _⟩, ⟨_, _, _⟩, rfl, rfl, rfl => rfl
theorem ModE.ext3 : ∀ {x y : ModE}, x.vars = y.vars → x.exts = y.exts → x.funcs = y.funcs → x = y
  | ⟨_, _, _⟩, ⟨_, _, _⟩, rfl, rfl, rfl => rfl
end Go.Proofs.Ytecknkgiaahheaa

/- Layer 20: a fixed fact; layer 18's Long. -/
namespace Go.Proofs.Ytecknkgiaahheaa
open Go.RowKit
set_option linter.unusedVariables false
set_option linter.unusedSimpArgs false
set_option maxRecDepth 100000
set_option maxHeartbeats 8000000
theorem wkrow1 {g g' : Nat → List AV} (h : wks (g 0) (g' 0)) : ∀ i, i < 1 → wks (g i) (g' i) := fun i hi => by
  obtain rfl : i = 0 := by omega
  exact h
theorem wkrow2 {g g' : Nat → List AV} (h : wks (g 0) (g' 0) ∧ wks (g 1) (g' 1)) : ∀ i, i < 2 → wks (g i) (g' i) := fun i hi => by
  match i, hi with
  | 0, _ => exact h.1
  | 1, _ => exact h.2
theorem wkrow3 {g g' : Nat → List AV} (h : wks (g 0) (g' 0) ∧ wks (g 1) (g' 1) ∧ wks (g 2) (g' 2)) : ∀ i, i < 3 → wks (g i) (g' i) := fun i hi => by
  match i, hi with
  | 0, _ => exact h.1
  | 1, _ => exact h.2.1
  | 2, _ => exact h.2.2
theorem wkInt (x : Int) : wks (Enc.enc x) (Enc.enc x) := ⟨⟨rfl, rfl⟩, trivial⟩
theorem wkOpd (x : Opd) : wks (Enc.enc x) (Enc.enc x) := ⟨⟨rfl, rfl⟩, ⟨rfl, rfl⟩, ⟨rfl, rfl⟩, trivial⟩
theorem wkL {α : Type} [Enc α] (h : ∀ x : α, wks (Enc.enc x) (Enc.enc x)) (l : List α) : wk (eL l) (eL l) := ⟨rfl, rfl, fun i _ => h _⟩
theorem wkIns (x : InsE) : wks (Enc.enc x) (Enc.enc x) := ⟨⟨rfl, rfl⟩, ⟨rfl, rfl⟩, ⟨rfl, rfl⟩, ⟨rfl, rfl⟩, ⟨rfl, rfl⟩, wkL wkOpd _, wkL wkInt _, trivial⟩
theorem wkBlk (x : BlkE) : wks (Enc.enc x) (Enc.enc x) := ⟨wkL wkIns _, trivial⟩
instance (x : Int) : Decidable (rngI x) := inferInstanceAs (Decidable (_ ∧ _))
instance (x : Int) : Decidable (rngU x) := inferInstanceAs (Decidable (_ ∧ _))
def lv0 : InsE := ⟨28, -1, 8, 0, 0, [⟨2, 0, 7⟩, ⟨5, 0, 0⟩], []⟩
def lv1 : InsE := ⟨27, 0, 8, 0, 0, [⟨5, 0, 0⟩], []⟩
def lv2 : InsE := ⟨33, -1, 8, 0, 0, [⟨1, 0, 0⟩], []⟩
def lvF : FnE := ⟨(⟨#[102]⟩ : ByteArray), [], 8, [⟨[lv0, lv1, lv2]⟩]⟩
theorem lv_rng : Rng.rng lvF := by
  refine ⟨trivial, fun x hx => (by cases hx), by unfold rngI; show (-_ : Int) ≤ 8 ∧ (8 : Int) ≤ _; omega, fun x hx => ?_⟩
  obtain rfl := List.mem_singleton.1 hx
  show ∀ x ∈ _, Rng.rng x
  intro x hx
  simp only [List.mem_cons, List.not_mem_nil, or_false] at hx
  rcases hx with rfl | rfl | rfl
  · refine ⟨by decide, by decide, by decide, by decide, by decide, fun x hx => ?_, fun x hx => (by cases hx)⟩
    have hx : x ∈ [(⟨2, 0, 7⟩ : Opd), ⟨5, 0, 0⟩] := hx
    simp only [List.mem_cons, List.not_mem_nil, or_false] at hx
    rcases hx with rfl | rfl <;> exact ⟨by decide, by decide, by decide⟩
  · refine ⟨by decide, by decide, by decide, by decide, by decide, fun x hx => ?_, fun x hx => (by cases hx)⟩
    obtain rfl := List.mem_singleton.1 hx
    exact ⟨by decide, by decide, by decide⟩
  · refine ⟨by decide, by decide, by decide, by decide, by decide, fun x hx => ?_, fun x hx => (by cases hx)⟩
    obtain rfl := List.mem_singleton.1 hx
    exact ⟨by decide, by decide, by decide⟩
theorem lv_len (b : Nat) : lenE lvF b = if b = 0 then 3 else 0 := by
  cases b with
  | zero => rfl
  | succ b => rfl
theorem lv_okF : OkF lvF := OkF_of (by decide +kernel) lv_rng
theorem lv_okA : OkA lvF where
  st := fun b i hi ho => by
    rw [lv_len] at hi
    split at hi
    · rename_i hb; subst hb
      match i, hi with
      | 0, _ => decide
      | 1, _ => exact absurd ho (by decide)
      | 2, _ => exact absurd ho (by decide)
    · exact absurd hi (Nat.not_lt_zero _)
  ld := fun b i hi ho => by
    rw [lv_len] at hi
    split at hi
    · rename_i hb; subst hb
      match i, hi with
      | 0, _ => exact absurd ho (by decide)
      | 1, _ => decide
      | 2, _ => exact absurd ho (by decide)
    · exact absurd hi (Nat.not_lt_zero _)
  nb := by decide
theorem lv_load : isLoad lvF ⟨0, (0 : Nat), (1 : Nat)⟩ := ⟨⟨by decide, by decide⟩, ⟨by decide, by decide⟩, by decide, .zero (by decide) (by decide)⟩
theorem lv_m : mE lvF lv1 0 0 = 2 := by decide +kernel
theorem lv_BK : ∀ q, ¬BK lvF lv1 0 1 q := fun q h => by
  induction h with
  | base h _ _ => exact h 0 (by decide) lv_m
  | step _ _ _ _ ih => exact ih
theorem lv_fnd (i : Nat) : Fnd lvF lv1 0 1 0 i ↔ i = 0 := by
  constructor
  · rintro (⟨_, h⟩ | ⟨h, _⟩)
    · have := h.1; omega
    · exact absurd h (lv_BK _)
  · rintro rfl
    exact .inl ⟨rfl, by decide, by rw [lv_m]; decide, fun j h1 h2 => by omega⟩
theorem lv_src : srcL lvF lv1 0 1 = [⟨0, 0, 0⟩] := by
  unfold srcL
  have e : Code lvF = [(lv0, ⟨0, 0, 0⟩), (lv1, ⟨0, 0, 1⟩), (lv2, ⟨0, 0, 2⟩)] := rfl
  have h0 : @decide (Fnd lvF lv1 0 1 0 0) (Classical.propDecidable _) = true := @decide_eq_true _ (Classical.propDecidable _) ((lv_fnd 0).2 rfl)
  have h1 : @decide (Fnd lvF lv1 0 1 0 1) (Classical.propDecidable _) = false := @decide_eq_false _ (Classical.propDecidable _) fun h => absurd ((lv_fnd 1).1 h) (by decide)
  have h2 : @decide (Fnd lvF lv1 0 1 0 2) (Classical.propDecidable _) = false := @decide_eq_false _ (Classical.propDecidable _) fun h => absurd ((lv_fnd 2).1 h) (by decide)
  have key : ∀ (P : InsE × Plc → Bool) (a b c : InsE × Plc), P a = true → P b = false → P c = false → ([a, b, c].filter P).map (·.2) = [a.2] := by intro P a b c h0 h1 h2; simp [h0, h1, h2]
  rw [e]
  exact key _ (lv0, ⟨0, 0, 0⟩) (lv1, ⟨0, 0, 1⟩) (lv2, ⟨0, 0, 2⟩) h0 h1 h2
theorem lv_beg : srcB lvF lv1 0 1 = false := by
  refine @decide_eq_false _ (Classical.propDecidable _) ?_
  rintro (⟨_, h⟩ | ⟨h, _⟩)
  · exact h 0 (by decide) lv_m
  · exact lv_BK _ h
theorem lv_known : knownE lvF ⟨0, (0 : Nat), (1 : Nat)⟩ lv1 [⟨0, 0, 0⟩] false = (⟨2, 0, 7⟩, true) := by decide +kernel
theorem lv_S : ASpec Try.prog 10 [eS lvF, eS (⟨0, (0 : Nat), (1 : Nat)⟩ : Plc)] (.tup [eL [(⟨0, 0, 0⟩ : Plc)], .b false]) [] := by
  have h := Sources_T lvF 0 0 1 lv_okF lv_okA lv_load
  change ASpec _ _ _ (.tup [eL (srcL lvF lv1 0 1), .b (srcB lvF lv1 0 1)]) [] at h
  rwa [lv_src, lv_beg] at h
theorem lv_K : ASpec Try.prog 12 [eS lvF, eS (⟨0, (0 : Nat), (1 : Nat)⟩ : Plc)] (.tup [eS (⟨2, 0, 7⟩ : Opd), .b true]) [] := by
  have h := Known_T lvF 0 0 1 lv_okF lv_okA lv_load
  change ASpec _ _ _ (.tup [eS (knownE lvF ⟨0, (0 : Nat), (1 : Nat)⟩ lv1 (srcL lvF lv1 0 1) (srcB lvF lv1 0 1)).1, .b (knownE lvF ⟨0, (0 : Nat), (1 : Nat)⟩ lv1 (srcL lvF lv1 0 1) (srcB lvF lv1 0 1)).2]) [] at h
  rwa [lv_src, lv_beg, lv_known] at h
theorem lives20_S : ASpec Try.prog 5 [] (.b true) [] := by
  refine ASpec.enter TYok mixed Try.func5 rfl Try.call5 Try.ntmps5 rfl (rs := [.tmp 0]) rfl (nodupB_ok rfl) (Clo.one rfl) (keep := [0, 1, 2, 3, 4, 5, 6]) ?_; conv => whnf
  repeat' first | (refine And.intro (fun (hb : _ = true) => ?_) (fun (hb : _ = false) => ?_) <;> (try simp only [pickB_or, pickB_and] at hb) <;> (have hc := hb; try simp only [sB, Int.reduceToNat] at hc; try simp only [addZ0] at hc) <;> first | (exfalso; omega) | conv => whnf) | ((first | refine ⟨_, wr64 ti ti, ?_⟩ | refine And.intro si ?_ | refine LitW.frz ?_ | refine Drw.d (by decide +kernel) ?_ | refine Drw.f (by decide +kernel) ?_ | refine Drw0.d (by decide +kernel) ?_ | refine Drw0.f (by decide +kernel) ?_ | refine Drw.l (by decide +kernel) ?_ | refine And.intro tgi ?_ | refine ⟨_, shl1 (by omega), ?_⟩ | refine ⟨_, wru64 ti ti, ?_⟩ | refine ⟨_, fun _ => (IntKind.wrap_u64 _).symm, ?_⟩); conv => whnf) | ((first | refine CallK.mk _ _ (fun _ => lv_S.weak (by repeat' first | exact trivial | exact rfl | refine And.intro ?_ ?_ | refine wkrow1 ?_ | refine wkrow2 ?_ | refine wkrow3 ?_)) ?_ | ((try (refine CallW.lent ?_; (conv => whnf); try (refine And.intro (by omega) ?_; (conv => whnf)))); refine CallL.mk _ _ (fun _ => lv_S.weak (by repeat' first | exact trivial | exact rfl | refine And.intro ?_ ?_ | refine wkrow1 ?_ | refine wkrow2 ?_ | refine wkrow3 ?_)) rfl (fun _ _ h => nomatch h) ?_)); conv => whnf) | ((first | refine CallK.mk _ _ (fun _ => lv_K.weak (by repeat' first | exact trivial | exact rfl | refine And.intro ?_ ?_ | refine wkrow1 ?_ | refine wkrow2 ?_ | refine wkrow3 ?_)) ?_ | ((try (refine CallW.lent ?_; (conv => whnf); try (refine And.intro (by omega) ?_; (conv => whnf)))); refine CallL.mk _ _ (fun _ => lv_K.weak (by repeat' first | exact trivial | exact rfl | refine And.intro ?_ ?_ | refine wkrow1 ?_ | refine wkrow2 ?_ | refine wkrow3 ?_)) rfl (fun _ _ h => nomatch h) ?_)); conv => whnf) | exact ⟨_, .keep rfl rfl⟩ | fail
theorem Long_S (f : FnE) (hs : siz f < 1000000000) : ASpec Try.prog 7 [eS f] (.b (!decide ((modQ ⟨[], [], [f]⟩ : Int) ≤ 800))) [] := by
  have h := Few_S ⟨[], [], [f]⟩ 800 (by show (0 + 0 + (0 + 1 + (siz f + 0))) < _; omega)
  refine ASpec.enter TYok mixed Try.func7 rfl Try.call7 Try.ntmps7 rfl (rs := [.tmp 2]) rfl (nodupB_ok rfl) (Clo.one rfl) (keep := [0, 1, 2]) ?_; conv => whnf
  repeat' first | (refine And.intro (fun (hb : _ = true) => ?_) (fun (hb : _ = false) => ?_) <;> (try simp only [pickB_or, pickB_and] at hb) <;> (have hc := hb; try simp only [sB, Int.reduceToNat] at hc; try simp only [addZ0] at hc) <;> first | (exfalso; omega) | conv => whnf) | ((first | refine ⟨_, wr64 ti ti, ?_⟩ | refine And.intro si ?_ | refine LitW.frz ?_ | refine Drw.d (by decide +kernel) ?_ | refine Drw.f (by decide +kernel) ?_ | refine Drw0.d (by decide +kernel) ?_ | refine Drw0.f (by decide +kernel) ?_ | refine Drw.l (by decide +kernel) ?_ | refine And.intro tgi ?_ | refine ⟨_, shl1 (by omega), ?_⟩ | refine ⟨_, wru64 ti ti, ?_⟩ | refine ⟨_, fun _ => (IntKind.wrap_u64 _).symm, ?_⟩); conv => whnf) | ((first | refine CallK.mk _ _ (fun _ => h.weak (by repeat' first | exact trivial | exact rfl | refine And.intro ?_ ?_ | refine wkrow1 ?_ | exact fun i _ => wkInt _ | exact fun i _ => wkBlk _)) ?_ | ((try (refine CallW.lent ?_; (conv => whnf); try (refine And.intro (by omega) ?_; (conv => whnf)))); refine CallL.mk _ _ (fun _ => h.weak (by repeat' first | exact trivial | exact rfl | refine And.intro ?_ ?_ | refine wkrow1 ?_ | exact fun i _ => wkInt _ | exact fun i _ => wkBlk _)) rfl (fun _ _ h => nomatch h) ?_)); conv => whnf) | exact ⟨_, .keep rfl rfl⟩ | fail
end Go.Proofs.Ytecknkgiaahheaa

/- Layer 20, the document's answer: Load. -/
namespace Go.Proofs.Ytecknkgiaahheaa
open Go.RowKit
set_option linter.unusedVariables false
set_option linter.unusedSimpArgs false
set_option maxRecDepth 100000
set_option maxHeartbeats 8000000
noncomputable def isLoadB (f : FnE) (p : Plc) : Bool := @decide (isLoad f p) (Classical.propDecidable _)
theorem Load20_S (f : FnE) (p : Plc) (hz : siz f < 4294967296) : ASpec Try.prog 25 [eS f, eS p] (.b (isLoadB f p)) [] := by
  have h1 := blocks_le f
  have h3 := code_le f p.b.toNat
  obtain ⟨R, hR⟩ := isRG_ex f (-1)
  have hRl := hR.1
  refine ASpec.enter TYok mixed Try.func25 rfl Try.call25 Try.ntmps25 rfl (rs := [.tmp 4]) rfl (nodupB_ok rfl) (Clo.one rfl) (keep := [0, 1, 2, 3, 4, 5]) ?_; conv => whnf
  repeat' first | (refine And.intro (fun (hb : _ = true) => ?_) (fun (hb : _ = false) => ?_) <;> (try simp only [pickB_or, pickB_and] at hb) <;> (have hc := hb; try simp only [sB, Int.reduceToNat] at hc; try simp only [addZ0] at hc) <;> first | (exfalso; omega) | conv => whnf) | ((first | refine ⟨_, wr64 ti ti, ?_⟩ | refine And.intro si ?_ | refine LitW.frz ?_ | refine Drw.d (by decide +kernel) ?_ | refine Drw.f (by decide +kernel) ?_ | refine Drw0.d (by decide +kernel) ?_ | refine Drw0.f (by decide +kernel) ?_ | refine Drw.l (by decide +kernel) ?_ | refine And.intro tgi ?_ | refine ⟨_, shl1 (by omega), ?_⟩ | refine ⟨_, wru64 ti ti, ?_⟩ | refine ⟨_, fun _ => (IntKind.wrap_u64 _).symm, ?_⟩); conv => whnf) | ((first | refine CallK.mk _ _ (fun _ => Reach_F f R hR hz) ?_ | ((try (refine CallW.lent ?_; (conv => whnf); try (refine And.intro (by omega) ?_; (conv => whnf)))); refine CallL.mk _ _ (fun _ => Reach_F f R hR hz) rfl (fun _ _ h => nomatch h) ?_)); conv => whnf) | exact ⟨_, .keep rfl rfl⟩ | fail
  · refine ⟨_, .keep (congrArg AV.b (@decide_eq_false _ (Classical.propDecidable _) fun h => ?_).symm) rfl⟩
    obtain ⟨p1, p2, _, _⟩ := h
    have p2' : 0 ≤ p.i ∧ p.i < ((f.blocks.getD p.b.toNat Enc.d).code.length : Int) := p2
    omega
  · refine ⟨_, .keep (congrArg AV.b ?_) rfl⟩
    have hb : p.b.toNat < f.blocks.length := by omega
    have hr := hR.2 _ hb
    simp only [pickB_and]
    rw [Bool.eq_iff_iff, Bool.and_eq_true, decide_eq_true_eq]
    unfold isLoadB
    rw [@decide_eq_true_iff _ (Classical.propDecidable _)]
    constructor
    · rintro ⟨h5, h6⟩
      exact ⟨by omega, by show 0 ≤ p.i ∧ p.i < ((f.blocks.getD p.b.toNat Enc.d).code.length : Int); omega, h6, hr.1 h5⟩
    · rintro ⟨_, _, h6, h5⟩
      exact ⟨hr.2 h5, h6⟩
end Go.Proofs.Ytecknkgiaahheaa

/- Layer 20, the document's answer: Sources. -/
namespace Go.Proofs.Ytecknkgiaahheaa
open Go.RowKit
set_option linter.unusedVariables false
set_option linter.unusedSimpArgs false
set_option maxRecDepth 100000
set_option maxHeartbeats 8000000
/-- A table, filled up to a place. -/
def rowU {α : Type} (f : FnE) (g : Nat → Nat → α) (b i t : Nat) : List α := (List.range (if t < b then lenE f t else if t = b then i else 0)).map (g t)
theorem rowU_0 {α : Type} (f : FnE) (g : Nat → Nat → α) (t : Nat) : rowU f g 0 0 t = [] := by
  unfold rowU; simp
theorem rowU_snoc {α : Type} (f : FnE) (g : Nat → Nat → α) (b i : Nat) : rowU f g b (i + 1) b = rowU f g b i b ++ [g b i] := by
  unfold rowU
  simp [List.range_succ]
theorem rowU_ne {α : Type} (f : FnE) (g : Nat → Nat → α) {b i t : Nat} (h : t ≠ b) : rowU f g b (i + 1) t = rowU f g b i t := by
  unfold rowU
  simp [h]
theorem rowU_next {α : Type} (f : FnE) (g : Nat → Nat → α) (b t : Nat) : rowU f g (b + 1) 0 t = rowU f g b (lenE f b) t := by
  unfold rowU
  rcases Nat.lt_trichotomy t b with h | h | h
  · rw [if_pos (show t < b + 1 by omega), if_pos h]
  · subst h; simp
  · simp [show ¬t < b + 1 by omega, show ¬t < b by omega, show ¬t = b by omega]
theorem rowU_len {α : Type} (f : FnE) (g : Nat → Nat → α) (b i : Nat) : (rowU f g b i b).length = i := by
  unfold rowU; rw [if_neg (Nat.lt_irrefl _), if_pos rfl]; simp
theorem rowU_all {α : Type} (f : FnE) (g : Nat → Nat → α) {n t : Nat} (h : t < n) : rowU f g n 0 t = (List.range (lenE f t)).map (g t) := by
  unfold rowU; rw [if_pos h]
/-- The places so far that are asked for. -/
def accP (f : FnE) (P : Nat → Nat → Bool) (b i : Nat) : List Plc := ((codeTo f b i).filter fun c => P c.2.b.toNat c.2.i.toNat).map (·.2)
theorem accP_len {f : FnE} {P : Nat → Nat → Bool} {b i : Nat} (hb : b < f.blocks.length) (hi : i ≤ lenE f b) : (accP f P b i).length ≤ (Code f).length := by
  unfold accP
  rw [List.length_map]
  exact Nat.le_trans (List.length_filter_le _ _) (codeTo_le hb hi)
theorem accP_snoc (f : FnE) (P : Nat → Nat → Bool) (b i : Nat) : accP f P b (i + 1) = if P b i = true then accP f P b i ++ [⟨0, b, i⟩] else accP f P b i := by
  unfold accP
  rw [codeTo_snoc, List.filter_append, List.map_append, List.filter_cons]
  by_cases h : P b i = true
  · rw [if_pos h, if_pos (show P ((b : Int)).toNat ((i : Int)).toNat = true from h)]; rfl
  · rw [if_neg h, if_neg (show ¬P ((b : Int)).toNat ((i : Int)).toNat = true from h)]; simp
theorem accP_next (f : FnE) (P : Nat → Nat → Bool) (b : Nat) : accP f P (b + 1) 0 = accP f P b (lenE f b) := by
  unfold accP; rw [codeTo_next]; rfl
noncomputable def srcP (f : FnE) (y : InsE) (pb pi b i : Nat) : Bool := @decide (Fnd f y pb pi b i) (Classical.propDecidable _)
def mS (f : FnE) (y : InsE) (b i : Nat) : Bool := decide (mE f y b i = 2)
def tabS (f : FnE) (y : InsE) : List (List Bool) := (List.range f.blocks.length).map fun b => (List.range (lenE f b)).map fun i => decide (mE f y b i = 2)
theorem tabS_at {f : FnE} {y : InsE} {b : Nat} (h : b < f.blocks.length) : (tabS f y).getD b [] = (List.range (lenE f b)).map fun i => decide (mE f y b i = 2) := by
  unfold tabS; rw [List.getD_eq_getElem?_getD, List.getElem?_map, List.getElem?_range h]; rfl
theorem map_range_at {α : Type} {g : Nat → α} {n i : Nat} {x : α} (h : i < n) : ((List.range n).map g).getD i x = g i := by
  rw [List.getD_eq_getElem?_getD, List.getElem?_map, List.getElem?_range h]; rfl
theorem Src20_T (f : FnE) (pf : Int) (pb pi : Nat) (hs : OkF f) (ha : OkA f) (h : isLoad f ⟨pf, pb, pi⟩) : ASpec Try.prog 11 [eS f, eS (⟨pf, pb, pi⟩ : Plc)] (.tup [eL (srcL f (insE f pb pi) pb pi), .b (srcB f (insE f pb pi) pb pi)]) [] := by
  have h1 := blocks_le f
  have h2 := hs.sz
  have hnb := ha.nb
  obtain ⟨R, hR⟩ := isRG_ex f (-1)
  have hRl := hR.1
  have hLd := Load20_S f ⟨0, pb, pi⟩ h2
  rw [show isLoadB f ⟨0, pb, pi⟩ = true from @decide_eq_true _ (Classical.propDecidable _) h] at hLd
  obtain ⟨p1, p2, p3, p4⟩ := h
  have q1 : pb < f.blocks.length := by have := p1.2; simp only at this; omega
  have q2 : pi < lenE f pb := by have := p2.2; simp only [Int.toNat_natCast] at this; omega
  have q3 : pi < (f.blocks.getD pb Enc.d).code.length := q2
  have hy : 1 ≤ (insE f pb pi).args.length := ha.ld pb pi q2 p3
  have hyl : (insE f pb pi).args.length < 4294967296 := by have := args_le (insE f pb pi); have := ins_le f pb pi; unfold insE at *; omega
  have hlen : ∀ b, lenE f b ≤ siz f := fun b => code_le f b
  have hms : ∀ b i, i < lenE f b → ASpec Try.prog 27 [eS f, eS (insE f b i), eS (insE f pb pi)] (.i .i64 (mE f (insE f pb pi) b i)) [] := fun b i hi => Meets_S f (insE f b i) _ h2 (ha.st b i hi) hy (by have := args_le (insE f b i); have := ins_le f b i; unfold insE at *; omega) hyl
  have hP : ∀ b i, i < lenE f b → (srcP f (insE f pb pi) pb pi b i = true ↔ 0 < mE f (insE f pb pi) b i ∧ R.getD b false = true ∧ leadB f (insE f pb pi) pb pi b (i + 1) = true) := fun b i hi => by
    have hb : b < f.blocks.length := by
      apply Classical.byContradiction; intro hb
      have hi' : i < (f.blocks.getD b Enc.d).code.length := hi
      rw [List.getD_eq_getElem?_getD, List.getElem?_eq_none (by omega)] at hi'
      exact absurd hi' (Nat.not_lt_zero _)
    unfold srcP leadB
    rw [@decide_eq_true_iff _ (Classical.propDecidable _), @decide_eq_true_iff _ (Classical.propDecidable _), hR.2 b hb]
    exact Fnd_iff p4 hi
  have hB : srcB f (insE f pb pi) pb pi = leadB f (insE f pb pi) pb pi 0 0 := by
    unfold srcB leadB
    by_cases h : begE f (insE f pb pi) pb pi
    · rw [@decide_eq_true _ (Classical.propDecidable _) h, @decide_eq_true _ (Classical.propDecidable _) ((beg_iff (by omega)).1 h)]
    · rw [@decide_eq_false _ (Classical.propDecidable _) h, @decide_eq_false _ (Classical.propDecidable _) fun h' => h ((beg_iff (by omega)).2 h')]
  have hld : ∀ b i, b < f.blocks.length → i ≤ lenE f b → ASpec Try.prog 28 [eS f, eL (tabS f (insE f pb pi)), eS (⟨0, (b : Int), (i : Int)⟩ : Plc), eS (⟨0, (pb : Int), (pi : Int)⟩ : Plc)] (.b (leadB f (insE f pb pi) pb pi b i)) [] := fun b i hb hi => leads_S f (insE f pb pi) (tabS f (insE f pb pi)) 0 0 b i pb pi h2 hnb (by simp [tabS]) (fun c hc => by
    rw [tabS_at hc]
    exact ⟨by simp, fun i hi => by rw [map_range_at hi]; exact decide_eq_true_iff⟩) ⟨hb, hi⟩ q2
  have hS : srcL f (insE f pb pi) pb pi = accP f (srcP f (insE f pb pi) pb pi) f.blocks.length 0 := rfl
  rw [hB, hS]
  have hyi : insE f pb pi = (f.blocks.getD ((pb : Int)).toNat Enc.d).code.getD ((pi : Int)).toNat Enc.d := rfl
  generalize hyg : insE f pb pi = y at *
  generalize srcP f y pb pi = P at *
  have hwn : f.blocks.length = (tabS f y).length := by simp [tabS]
  have hwk : ∀ t, t < (tabS f y).length → wks ((offF 0 fun t => [eL (rowU f (mS f y) f.blocks.length 0 t)]) t) (Enc.enc ((tabS f y).getD t Enc.d)) := fun t ht => by
    rw [← hwn] at ht
    rw [offF_eq, Nat.zero_add, rowU_all f _ ht]
    show wks _ [eL ((tabS f y).getD t [])]
    rw [tabS_at ht]
    exact ⟨wkL (α := Bool) (fun x => ⟨rfl, trivial⟩) _, trivial⟩
  have hcs := Code_siz f
  refine ASpec.enter TYok mixed Try.func11 rfl Try.call11 Try.ntmps11 rfl (rs := [.tmp 4, .tmp 5]) rfl (nodupB_ok rfl) (Clo.one rfl) (keep := [0, 1, 2, 3, 4, 5, 6, 7, 8, 9, 10, 11, 12, 13, 14, 15, 16, 17, 18]) ?_; conv => whnf
  repeat' first | (refine And.intro (fun (hb : _ = true) => ?_) (fun (hb : _ = false) => ?_) <;> (try simp only [pickB_or, pickB_and] at hb) <;> (have hc := hb; try simp only [sB, Int.reduceToNat] at hc; try simp only [addZ0] at hc) <;> first | (exfalso; omega) | conv => whnf) | ((first | refine ⟨_, wr64 ti ti, ?_⟩ | refine And.intro si ?_ | refine LitW.frz ?_ | refine Drw.d (by decide +kernel) ?_ | refine Drw.f (by decide +kernel) ?_ | refine Drw0.d (by decide +kernel) ?_ | refine Drw0.f (by decide +kernel) ?_ | refine Drw.l (by decide +kernel) ?_ | refine And.intro tgi ?_ | refine ⟨_, shl1 (by omega), ?_⟩ | refine ⟨_, wru64 ti ti, ?_⟩ | refine ⟨_, fun _ => (IntKind.wrap_u64 _).symm, ?_⟩); conv => whnf) | ((first | refine CallK.mk _ _ (fun _ => hLd) ?_ | ((try (refine CallW.lent ?_; (conv => whnf); try (refine And.intro (by omega) ?_; (conv => whnf)))); refine CallL.mk _ _ (fun _ => hLd) rfl (fun _ _ h => nomatch h) ?_)); conv => whnf) | ((first | refine CallK.mk _ _ (fun _ => Reach_F f R hR h2) ?_ | ((try (refine CallW.lent ?_; (conv => whnf); try (refine And.intro (by omega) ?_; (conv => whnf)))); refine CallL.mk _ _ (fun _ => Reach_F f R hR h2) rfl (fun _ _ h => nomatch h) ?_)); conv => whnf) | exact ⟨_, .keep rfl rfl⟩ | fail
  · cases hc
  refine lp [12] (fun b : Nat => [.i .i64 b]) (fun b => [(46, .tree 1 f.blocks.length fun t => [eL (rowU f (mE f y) b 0 t)]), (42, .tree 1 f.blocks.length fun t => [eL (rowU f (mS f y) b 0 t)]), (8, bx y), (3, bx (⟨0, pb, pi⟩ : Plc)), (2, bx f)]) (fun b => b ≤ f.blocks.length) (fun b => f.blocks.length - b) 0 (Nat.zero_le _) ?_ fun b hb => ?_
  · rw [← hyg]
    refine Ent.lp [] [] rfl rfl rfl ?_ ?_ <;> repeat' first | exact trivial | rfl | exact fun _ _ => rfl | omega | refine And.intro ?_ ?_ | (show (_ : Int) = _; first | omega | (simp only [Int.toNat_natCast]; omega))
    all_goals first | (intro i hi; show teqs _ [eL (rowU f _ 0 0 i)]; rw [rowU_0]; exact And.intro rfl rfl) | skip
  conv => whnf
  rcases (Nat.lt_or_ge b f.blocks.length).symm with hge | hlt
  · obtain rfl : b = f.blocks.length := by omega
    repeat' first | (refine And.intro (fun (hb : _ = true) => ?_) (fun (hb : _ = false) => ?_) <;> (try simp only [pickB_or, pickB_and] at hb) <;> (have hc := hb; try simp only [sB, Int.reduceToNat] at hc; try simp only [addZ0] at hc) <;> first | (exfalso; omega) | conv => whnf) | ((first | refine ⟨_, wr64 ti ti, ?_⟩ | refine And.intro si ?_ | refine LitW.frz ?_ | refine Drw.d (by decide +kernel) ?_ | refine Drw.f (by decide +kernel) ?_ | refine Drw0.d (by decide +kernel) ?_ | refine Drw0.f (by decide +kernel) ?_ | refine Drw.l (by decide +kernel) ?_ | refine And.intro tgi ?_ | refine ⟨_, shl1 (by omega), ?_⟩ | refine ⟨_, wru64 ti ti, ?_⟩ | refine ⟨_, fun _ => (IntKind.wrap_u64 _).symm, ?_⟩); conv => whnf) | exact ⟨_, .keep rfl rfl⟩ | fail
    refine lp [15, 6] (fun b : Nat => [.i .i64 b, .orow 6 3 0 (accP f P b 0).length]) (fun b => [(6, oL (accP f P b 0)), (46, .tree 1 f.blocks.length fun t => [eL (rowU f (mE f y) f.blocks.length 0 t)]), (42, .tree 1 f.blocks.length fun t => [eL (rowU f (mS f y) f.blocks.length 0 t)]), (8, bx y), (3, bx (⟨0, pb, pi⟩ : Plc)), (2, bx f)]) (fun b => b ≤ f.blocks.length) (fun b => f.blocks.length - b) 0 (Nat.zero_le _) ?_ fun b hb => ?_
    · refine Ent.lp [] [6] rfl rfl rfl ?_ ?_ <;> repeat' first | exact trivial | rfl | exact fun _ _ => rfl | omega | refine And.intro ?_ ?_ | (show (_ : Int) = _; first | omega | (simp only [Int.toNat_natCast]; omega))
      all_goals first | exact fun _ _ => teqs_refl _ | skip
    conv => whnf
    rcases (Nat.lt_or_ge b f.blocks.length).symm with hge | hlt
    · obtain rfl : b = f.blocks.length := by omega
      repeat' first | (refine And.intro (fun (hb : _ = true) => ?_) (fun (hb : _ = false) => ?_) <;> (try simp only [pickB_or, pickB_and] at hb) <;> (have hc := hb; try simp only [sB, Int.reduceToNat] at hc; try simp only [addZ0] at hc) <;> first | (exfalso; omega) | conv => whnf) | ((first | refine ⟨_, wr64 ti ti, ?_⟩ | refine And.intro si ?_ | refine LitW.frz ?_ | refine Drw.d (by decide +kernel) ?_ | refine Drw.f (by decide +kernel) ?_ | refine Drw0.d (by decide +kernel) ?_ | refine Drw0.f (by decide +kernel) ?_ | refine Drw.l (by decide +kernel) ?_ | refine And.intro tgi ?_ | refine ⟨_, shl1 (by omega), ?_⟩ | refine ⟨_, wru64 ti ti, ?_⟩ | refine ⟨_, fun _ => (IntKind.wrap_u64 _).symm, ?_⟩); conv => whnf) | ((first | refine CallK.mk _ _ (fun _ => (hld 0 0 (by omega) (Nat.zero_le _)).weak (by repeat' first | exact trivial | exact rfl | refine And.intro ?_ ?_ | exact fun i _ => wkInt _ | exact fun i _ => wkBlk _ | exact hwk | exact hwn)) ?_ | ((try (refine CallW.lent ?_; (conv => whnf); try (refine And.intro (by omega) ?_; (conv => whnf)))); refine CallL.mk _ _ (fun _ => (hld 0 0 (by omega) (Nat.zero_le _)).weak (by repeat' first | exact trivial | exact rfl | refine And.intro ?_ ?_ | exact fun i _ => wkInt _ | exact fun i _ => wkBlk _ | exact hwk | exact hwn)) rfl (fun _ _ h => nomatch h) ?_)); conv => whnf) | exact ⟨_, .keep rfl rfl⟩ | fail
      exact ⟨_, .tup (.cons (.freeze rfl (by omega) rfl (fun _ _ => rfl) rfl) (.cons (.keep rfl rfl) .nil (nodupB_ok rfl)) (nodupB_ok rfl))⟩
    have hbl := hlen b
    have hlE : lenE f b = (f.blocks.getD b Enc.d).code.length := rfl
    repeat' first | (refine And.intro (fun (hb : _ = true) => ?_) (fun (hb : _ = false) => ?_) <;> (try simp only [pickB_or, pickB_and] at hb) <;> (have hc := hb; try simp only [sB, Int.reduceToNat] at hc; try simp only [addZ0] at hc) <;> first | (exfalso; omega) | conv => whnf) | ((first | refine ⟨_, wr64 ti ti, ?_⟩ | refine And.intro si ?_ | refine LitW.frz ?_ | refine Drw.d (by decide +kernel) ?_ | refine Drw.f (by decide +kernel) ?_ | refine Drw0.d (by decide +kernel) ?_ | refine Drw0.f (by decide +kernel) ?_ | refine Drw.l (by decide +kernel) ?_ | refine And.intro tgi ?_ | refine ⟨_, shl1 (by omega), ?_⟩ | refine ⟨_, wru64 ti ti, ?_⟩ | refine ⟨_, fun _ => (IntKind.wrap_u64 _).symm, ?_⟩); conv => whnf) | exact ⟨_, .keep rfl rfl⟩ | fail
    refine lp [16, 6] (fun i : Nat => [.i .i64 i, .orow 6 3 0 (accP f P b i).length]) (fun i => [(6, oL (accP f P b i)), (46, .tree 1 f.blocks.length fun t => [eL (rowU f (mE f y) f.blocks.length 0 t)]), (42, .tree 1 f.blocks.length fun t => [eL (rowU f (mS f y) f.blocks.length 0 t)]), (8, bx y), (3, bx (⟨0, pb, pi⟩ : Plc)), (2, bx f)]) (fun i => i ≤ lenE f b) (fun i => lenE f b - i) 0 (Nat.zero_le _) ?_ fun i hi => ?_
    · refine Ent.lp [] [] rfl rfl rfl ?_ ?_ <;> repeat' first | exact trivial | rfl | exact fun _ _ => rfl | omega | refine And.intro ?_ ?_ | (show (_ : Int) = _; first | omega | (simp only [Int.toNat_natCast]; omega))
      all_goals first | exact fun _ _ => teqs_refl _ | skip
    have hal := accP_len (P := P) hlt hi
    conv => whnf
    rcases (Nat.lt_or_ge i (lenE f b)).symm with hig | hil
    · obtain rfl : i = lenE f b := by omega
      repeat' first | (refine And.intro (fun (hb : _ = true) => ?_) (fun (hb : _ = false) => ?_) <;> (try simp only [pickB_or, pickB_and] at hb) <;> (have hc := hb; try simp only [sB, Int.reduceToNat] at hc; try simp only [addZ0] at hc) <;> first | (exfalso; omega) | conv => whnf) | ((first | refine ⟨_, wr64 ti ti, ?_⟩ | refine And.intro si ?_ | refine LitW.frz ?_ | refine Drw.d (by decide +kernel) ?_ | refine Drw.f (by decide +kernel) ?_ | refine Drw0.d (by decide +kernel) ?_ | refine Drw0.f (by decide +kernel) ?_ | refine Drw.l (by decide +kernel) ?_ | refine And.intro tgi ?_ | refine ⟨_, shl1 (by omega), ?_⟩ | refine ⟨_, wru64 ti ti, ?_⟩ | refine ⟨_, fun _ => (IntKind.wrap_u64 _).symm, ?_⟩); conv => whnf) | exact ⟨_, .keep rfl rfl⟩ | fail
      refine .mk (b + 1) (by omega) (by omega) ?_
      rw [← accP_next]
      refine Ent.lp [] [] rfl rfl rfl ?_ ?_ <;> repeat' first | exact trivial | rfl | exact fun _ _ => rfl | omega | refine And.intro ?_ ?_ | (show (_ : Int) = _; first | omega | (simp only [Int.toNat_natCast]; omega))
      all_goals first | exact fun _ _ => teqs_refl _ | skip
    have hPi := hP b i hil
    have hz2 : addZ 0 ((b : Int)).toNat = b := by rw [addZ_eq]; omega
    have hz3 : addZ 0 ((i : Int)).toNat = i := by rw [addZ_eq]; omega
    have hz : addZ 0 ((b : Int)).toNat < f.blocks.length := by rw [hz2]; exact hlt
    have hr5 : (rowU f (mE f y) f.blocks.length 0 (addZ 0 ((b : Int)).toNat)).length = lenE f b := by rw [hz2, rowU_all f _ hlt]; simp
    have hr6 : addZ 0 ((i : Int)).toNat < (rowU f (mE f y) f.blocks.length 0 (addZ 0 ((b : Int)).toNat)).length := by rw [hr5, hz3]; exact hil
    have hr7 : (rowU f (mE f y) f.blocks.length 0 b).getD i Enc.d = mE f y b i := by rw [rowU_all f _ hlt, map_range_at hil]
    repeat' first | (refine And.intro (fun (hb : _ = true) => ?_) (fun (hb : _ = false) => ?_) <;> (try simp only [pickB_or, pickB_and] at hb) <;> (have hc := hb; try simp only [sB, Int.reduceToNat] at hc; try simp only [addZ0] at hc) <;> first | (exfalso; omega) | conv => whnf) | ((first | refine ⟨_, wr64 ti ti, ?_⟩ | refine And.intro si ?_ | refine LitW.frz ?_ | refine Drw.d (by decide +kernel) ?_ | refine Drw.f (by decide +kernel) ?_ | refine Drw0.d (by decide +kernel) ?_ | refine Drw0.f (by decide +kernel) ?_ | refine Drw.l (by decide +kernel) ?_ | refine And.intro tgi ?_ | refine ⟨_, shl1 (by omega), ?_⟩ | refine ⟨_, wru64 ti ti, ?_⟩ | refine ⟨_, fun _ => (IntKind.wrap_u64 _).symm, ?_⟩); conv => whnf) | ((first | refine CallK.mk _ _ (fun _ => (hld b (i + 1) hlt (by omega)).weak (by repeat' first | exact trivial | exact rfl | refine And.intro ?_ ?_ | exact fun i _ => wkInt _ | exact fun i _ => wkBlk _ | exact hwk | exact hwn)) ?_ | ((try (refine CallW.lent ?_; (conv => whnf); try (refine And.intro (by omega) ?_; (conv => whnf)))); refine CallL.mk _ _ (fun _ => (hld b (i + 1) hlt (by omega)).weak (by repeat' first | exact trivial | exact rfl | refine And.intro ?_ ?_ | exact fun i _ => wkInt _ | exact fun i _ => wkBlk _ | exact hwk | exact hwn)) rfl (fun _ _ h => nomatch h) ?_)); conv => whnf) | exact ⟨_, .keep rfl rfl⟩ | fail
    · have hP0 : ¬P b i = true := fun h => by
        have h9 := hPi.1 h
        rw [hr7] at hc
        rcases hc with h0 | h0
        · omega
        · exact absurd (h0.symm.trans h9.2.1) (by simp)
      have e : accP f P b (i + 1) = accP f P b i := (accP_snoc f P b i).trans (if_neg hP0)
      refine .mk (i + 1) (by omega) (by omega) ?_
      rw [← e]
      refine Ent.lp [] [] rfl rfl rfl ?_ ?_ <;> repeat' first | exact trivial | rfl | exact fun _ _ => rfl | omega | refine And.intro ?_ ?_ | (show (_ : Int) = _; first | omega | (simp only [Int.toNat_natCast]; omega))
      all_goals first | exact fun _ _ => teqs_refl _ | skip
    · have hP1 : P b i = true := by
        have h8 : ¬(rowU f (mE f y) f.blocks.length 0 b).getD i Enc.d = 0 ∧ R.getD b Enc.d = true := ‹_›
        rw [hr7] at h8
        have h9 : 0 ≤ mE f y b i := (meetsE_rng f (insE f b i) y).1
        exact hPi.2 ⟨by omega, h8.2, hc⟩
      have e : accP f P b (i + 1) = accP f P b i ++ [⟨0, b, i⟩] := (accP_snoc f P b i).trans (if_pos hP1)
      refine .mk (i + 1) (by omega) (by omega) ?_
      refine Ent.lp [(6, 145)] [] rfl rfl rfl ?_ ?_ <;> repeat' first | exact trivial | rfl | exact fun _ _ => rfl | omega | refine And.intro ?_ ?_ | exact snoc_len e | exact snoc_get e rfl | rw [e] | (show (_ : Int) = _; first | omega | (simp only [Int.toNat_natCast]; omega))
      all_goals first | exact fun _ _ => teqs_refl _ | skip
    · have hP0 : ¬P b i = true := fun h => by
        have h9 := (hPi.1 h).2.2
        rw [hc] at h9; cases h9
      have e : accP f P b (i + 1) = accP f P b i := (accP_snoc f P b i).trans (if_neg hP0)
      refine .mk (i + 1) (by omega) (by omega) ?_
      rw [← e]
      refine Ent.lp [] [] rfl rfl rfl ?_ ?_ <;> repeat' first | exact trivial | rfl | exact fun _ _ => rfl | omega | refine And.intro ?_ ?_ | (show (_ : Int) = _; first | omega | (simp only [Int.toNat_natCast]; omega))
      all_goals first | exact fun _ _ => teqs_refl _ | skip
  have hbl := hlen b
  have hlE : lenE f b = (f.blocks.getD b Enc.d).code.length := rfl
  repeat' first | (refine And.intro (fun (hb : _ = true) => ?_) (fun (hb : _ = false) => ?_) <;> (try simp only [pickB_or, pickB_and] at hb) <;> (have hc := hb; try simp only [sB, Int.reduceToNat] at hc; try simp only [addZ0] at hc) <;> first | (exfalso; omega) | conv => whnf) | ((first | refine ⟨_, wr64 ti ti, ?_⟩ | refine And.intro si ?_ | refine LitW.frz ?_ | refine Drw.d (by decide +kernel) ?_ | refine Drw.f (by decide +kernel) ?_ | refine Drw0.d (by decide +kernel) ?_ | refine Drw0.f (by decide +kernel) ?_ | refine Drw.l (by decide +kernel) ?_ | refine And.intro tgi ?_ | refine ⟨_, shl1 (by omega), ?_⟩ | refine ⟨_, wru64 ti ti, ?_⟩ | refine ⟨_, fun _ => (IntKind.wrap_u64 _).symm, ?_⟩); conv => whnf) | exact ⟨_, .keep rfl rfl⟩ | fail
  refine lp [13] (fun i : Nat => [.i .i64 i]) (fun i => [(46, .tree 1 f.blocks.length fun t => [eL (rowU f (mE f y) b i t)]), (42, .tree 1 f.blocks.length fun t => [eL (rowU f (mS f y) b i t)]), (8, bx y), (3, bx (⟨0, pb, pi⟩ : Plc)), (2, bx f)]) (fun i => i ≤ lenE f b) (fun i => lenE f b - i) 0 (Nat.zero_le _) ?_ fun i hi => ?_
  · refine Ent.lp [] [] rfl rfl rfl ?_ ?_ <;> repeat' first | exact trivial | rfl | exact fun _ _ => rfl | omega | refine And.intro ?_ ?_ | (show (_ : Int) = _; first | omega | (simp only [Int.toNat_natCast]; omega))
    all_goals first | exact fun _ _ => teqs_refl _ | skip
  conv => whnf
  rcases (Nat.lt_or_ge i (lenE f b)).symm with hig | hil
  · obtain rfl : i = lenE f b := by omega
    repeat' first | (refine And.intro (fun (hb : _ = true) => ?_) (fun (hb : _ = false) => ?_) <;> (try simp only [pickB_or, pickB_and] at hb) <;> (have hc := hb; try simp only [sB, Int.reduceToNat] at hc; try simp only [addZ0] at hc) <;> first | (exfalso; omega) | conv => whnf) | ((first | refine ⟨_, wr64 ti ti, ?_⟩ | refine And.intro si ?_ | refine LitW.frz ?_ | refine Drw.d (by decide +kernel) ?_ | refine Drw.f (by decide +kernel) ?_ | refine Drw0.d (by decide +kernel) ?_ | refine Drw0.f (by decide +kernel) ?_ | refine Drw.l (by decide +kernel) ?_ | refine And.intro tgi ?_ | refine ⟨_, shl1 (by omega), ?_⟩ | refine ⟨_, wru64 ti ti, ?_⟩ | refine ⟨_, fun _ => (IntKind.wrap_u64 _).symm, ?_⟩); conv => whnf) | exact ⟨_, .keep rfl rfl⟩ | fail
    refine .mk (b + 1) (by omega) (by omega) ?_
    refine Ent.lp [] [] rfl rfl rfl ?_ ?_ <;> repeat' first | exact trivial | rfl | exact fun _ _ => rfl | omega | refine And.intro ?_ ?_ | (show (_ : Int) = _; first | omega | (simp only [Int.toNat_natCast]; omega))
    all_goals first | exact fun t ht => teqs_of (congrArg (fun l => [eL l]) (rowU_next f _ b t).symm) | skip
  have hmt := hms b i hil
  have hr1 := rowU_len f (mE f y) b i
  have hr2 := rowU_len f (mS f y) b i
  have hz : addZ 0 ((b : Int)).toNat < f.blocks.length := by rw [addZ_eq]; omega
  have hz2 : addZ 0 ((b : Int)).toNat = b := by rw [addZ_eq]; omega
  have hr3 : (rowU f (mE f y) b i (addZ 0 ((b : Int)).toNat)).length = i := by rw [hz2]; exact hr1
  have hr4 : (rowU f (mS f y) b i (addZ 0 ((b : Int)).toNat)).length = i := by rw [hz2]; exact hr2
  repeat' first | (refine And.intro (fun (hb : _ = true) => ?_) (fun (hb : _ = false) => ?_) <;> (try simp only [pickB_or, pickB_and] at hb) <;> (have hc := hb; try simp only [sB, Int.reduceToNat] at hc; try simp only [addZ0] at hc) <;> first | (exfalso; omega) | conv => whnf) | ((first | refine ⟨_, wr64 ti ti, ?_⟩ | refine And.intro si ?_ | refine LitW.frz ?_ | refine Drw.d (by decide +kernel) ?_ | refine Drw.f (by decide +kernel) ?_ | refine Drw0.d (by decide +kernel) ?_ | refine Drw0.f (by decide +kernel) ?_ | refine Drw.l (by decide +kernel) ?_ | refine And.intro tgi ?_ | refine ⟨_, shl1 (by omega), ?_⟩ | refine ⟨_, wru64 ti ti, ?_⟩ | refine ⟨_, fun _ => (IntKind.wrap_u64 _).symm, ?_⟩); conv => whnf) | ((first | refine CallK.mk _ _ (fun _ => hmt) ?_ | ((try (refine CallW.lent ?_; (conv => whnf); try (refine And.intro (by omega) ?_; (conv => whnf)))); refine CallL.mk _ _ (fun _ => hmt) rfl (fun _ _ h => nomatch h) ?_)); conv => whnf) | exact ⟨_, .keep rfl rfl⟩ | fail
  refine And.intro ⟨rfl, fun _ _ => rfl⟩ ?_
  conv => whnf
  repeat' first | (refine And.intro (fun (hb : _ = true) => ?_) (fun (hb : _ = false) => ?_) <;> (try simp only [pickB_or, pickB_and] at hb) <;> (have hc := hb; try simp only [sB, Int.reduceToNat] at hc; try simp only [addZ0] at hc) <;> first | (exfalso; omega) | conv => whnf) | ((first | refine ⟨_, wr64 ti ti, ?_⟩ | refine And.intro si ?_ | refine LitW.frz ?_ | refine Drw.d (by decide +kernel) ?_ | refine Drw.f (by decide +kernel) ?_ | refine Drw0.d (by decide +kernel) ?_ | refine Drw0.f (by decide +kernel) ?_ | refine Drw.l (by decide +kernel) ?_ | refine And.intro tgi ?_ | refine ⟨_, shl1 (by omega), ?_⟩ | refine ⟨_, wru64 ti ti, ?_⟩ | refine ⟨_, fun _ => (IntKind.wrap_u64 _).symm, ?_⟩); conv => whnf) | exact ⟨_, .keep rfl rfl⟩ | fail
  refine And.intro ⟨⟨rfl, fun _ _ => leafs_cat (fun _ => rfl) (leafs_lit1 rfl) _⟩, hz⟩ ?_
  conv => whnf
  repeat' first | (refine And.intro (fun (hb : _ = true) => ?_) (fun (hb : _ = false) => ?_) <;> (try simp only [pickB_or, pickB_and] at hb) <;> (have hc := hb; try simp only [sB, Int.reduceToNat] at hc; try simp only [addZ0] at hc) <;> first | (exfalso; omega) | conv => whnf) | ((first | refine ⟨_, wr64 ti ti, ?_⟩ | refine And.intro si ?_ | refine LitW.frz ?_ | refine Drw.d (by decide +kernel) ?_ | refine Drw.f (by decide +kernel) ?_ | refine Drw0.d (by decide +kernel) ?_ | refine Drw0.f (by decide +kernel) ?_ | refine Drw.l (by decide +kernel) ?_ | refine And.intro tgi ?_ | refine ⟨_, shl1 (by omega), ?_⟩ | refine ⟨_, wru64 ti ti, ?_⟩ | refine ⟨_, fun _ => (IntKind.wrap_u64 _).symm, ?_⟩); conv => whnf) | exact ⟨_, .keep rfl rfl⟩ | fail
  refine And.intro ⟨rfl, fun _ _ => rfl⟩ ?_
  conv => whnf
  repeat' first | (refine And.intro (fun (hb : _ = true) => ?_) (fun (hb : _ = false) => ?_) <;> (try simp only [pickB_or, pickB_and] at hb) <;> (have hc := hb; try simp only [sB, Int.reduceToNat] at hc; try simp only [addZ0] at hc) <;> first | (exfalso; omega) | conv => whnf) | ((first | refine ⟨_, wr64 ti ti, ?_⟩ | refine And.intro si ?_ | refine LitW.frz ?_ | refine Drw.d (by decide +kernel) ?_ | refine Drw.f (by decide +kernel) ?_ | refine Drw0.d (by decide +kernel) ?_ | refine Drw0.f (by decide +kernel) ?_ | refine Drw.l (by decide +kernel) ?_ | refine And.intro tgi ?_ | refine ⟨_, shl1 (by omega), ?_⟩ | refine ⟨_, wru64 ti ti, ?_⟩ | refine ⟨_, fun _ => (IntKind.wrap_u64 _).symm, ?_⟩); conv => whnf) | exact ⟨_, .keep rfl rfl⟩ | fail
  refine And.intro ⟨⟨rfl, fun _ _ => leafs_cat (fun _ => rfl) (leafs_lit1 rfl) _⟩, hz⟩ ?_
  conv => whnf
  repeat' first | (refine And.intro (fun (hb : _ = true) => ?_) (fun (hb : _ = false) => ?_) <;> (try simp only [pickB_or, pickB_and] at hb) <;> (have hc := hb; try simp only [sB, Int.reduceToNat] at hc; try simp only [addZ0] at hc) <;> first | (exfalso; omega) | conv => whnf) | ((first | refine ⟨_, wr64 ti ti, ?_⟩ | refine And.intro si ?_ | refine LitW.frz ?_ | refine Drw.d (by decide +kernel) ?_ | refine Drw.f (by decide +kernel) ?_ | refine Drw0.d (by decide +kernel) ?_ | refine Drw0.f (by decide +kernel) ?_ | refine Drw.l (by decide +kernel) ?_ | refine And.intro tgi ?_ | refine ⟨_, shl1 (by omega), ?_⟩ | refine ⟨_, wru64 ti ti, ?_⟩ | refine ⟨_, fun _ => (IntKind.wrap_u64 _).symm, ?_⟩); conv => whnf) | exact ⟨_, .keep rfl rfl⟩ | fail
  refine .mk (i + 1) (by omega) (by omega) ?_
  refine Ent.lp [] [] rfl rfl rfl ?_ ?_ <;> repeat' first | exact trivial | rfl | exact fun _ _ => rfl | omega | refine And.intro ?_ ?_ | (show (_ : Int) = _; first | omega | (simp only [Int.toNat_natCast]; omega))
  · intro t ht
    refine tree_snoc (x := (mE f y b i : Int)) (g' := fun t : Nat => [eL (rowU f (mE f y) b (i + 1) t)]) (l' := rowU f (mE f y) b (i + 1) t) (fun e => ?_) rfl (fun _ => ⟨_, rfl⟩) (fun _ => rfl) fun e => ?_
    · rw [e, hz2]; exact rowU_snoc f _ b i
    · exact congrArg (fun l => [eL l]) (rowU_ne f _ (by rw [hz2] at e; exact e))
  · intro t ht
    refine tree_snoc (x := (mS f y b i : Bool)) (g' := fun t : Nat => [eL (rowU f (mS f y) b (i + 1) t)]) (l' := rowU f (mS f y) b (i + 1) t) (fun e => ?_) rfl (fun _ => ⟨_, rfl⟩) (fun _ => rfl) fun e => ?_
    · rw [e, hz2]; exact rowU_snoc f _ b i
    · exact congrArg (fun l => [eL l]) (rowU_ne f _ (by rw [hz2] at e; exact e))
theorem Src20_N (f : FnE) (p : Plc) (hs : OkF f) (h : ¬isLoad f p) : ASpec Try.prog 11 [eS f, eS p] (.tup [.nil, .b false]) [] := by
  have h1 := blocks_le f
  have hLd := Load20_S f ⟨0, p.b, p.i⟩ hs.sz
  rw [show isLoadB f ⟨0, p.b, p.i⟩ = false from @decide_eq_false _ (Classical.propDecidable _) h] at hLd
  refine ASpec.enter TYok mixed Try.func11 rfl Try.call11 Try.ntmps11 rfl (rs := [.tmp 4, .tmp 5]) rfl (nodupB_ok rfl) (Clo.one rfl) (keep := [0, 1, 2, 3, 4, 5, 6, 7, 8, 9, 10, 11, 12, 13, 14, 15, 16, 17, 18]) ?_; conv => whnf
  repeat' first | (refine And.intro (fun (hb : _ = true) => ?_) (fun (hb : _ = false) => ?_) <;> (try simp only [pickB_or, pickB_and] at hb) <;> (have hc := hb; try simp only [sB, Int.reduceToNat] at hc; try simp only [addZ0] at hc) <;> first | (exfalso; omega) | conv => whnf) | ((first | refine ⟨_, wr64 ti ti, ?_⟩ | refine And.intro si ?_ | refine LitW.frz ?_ | refine Drw.d (by decide +kernel) ?_ | refine Drw.f (by decide +kernel) ?_ | refine Drw0.d (by decide +kernel) ?_ | refine Drw0.f (by decide +kernel) ?_ | refine Drw.l (by decide +kernel) ?_ | refine And.intro tgi ?_ | refine ⟨_, shl1 (by omega), ?_⟩ | refine ⟨_, wru64 ti ti, ?_⟩ | refine ⟨_, fun _ => (IntKind.wrap_u64 _).symm, ?_⟩); conv => whnf) | ((first | refine CallK.mk _ _ (fun _ => hLd) ?_ | ((try (refine CallW.lent ?_; (conv => whnf); try (refine And.intro (by omega) ?_; (conv => whnf)))); refine CallL.mk _ _ (fun _ => hLd) rfl (fun _ _ h => nomatch h) ?_)); conv => whnf) | exact ⟨_, .keep rfl rfl⟩ | fail
  · cases hb
end Go.Proofs.Ytecknkgiaahheaa

/- Layer 20, the document's answer: Known; the lists of the statement. -/
namespace Go.Proofs.Ytecknkgiaahheaa
open Go.RowKit
set_option linter.unusedVariables false
set_option linter.unusedSimpArgs false
set_option maxRecDepth 100000
set_option maxHeartbeats 8000000
/-- The places of all Loads. -/
def isL (f : FnE) (b i : Nat) : Bool := decide ((insE f b i).op = 27)
theorem loads_S (f : FnE) (hz : siz f < 4294967296) : ASpec Try.prog 9 [eS f] (.orow 16 3 0 (accP f (isL f) f.blocks.length 0).length) [(16, oL (accP f (isL f) f.blocks.length 0))] := by
  have h1 := blocks_le f
  have hlen : ∀ b, lenE f b ≤ siz f := fun b => code_le f b
  have hcs := Code_siz f
  refine ASpec.enter TYok mixed Try.func9 rfl Try.call9 Try.ntmps9 rfl (rs := [.tmp 2]) rfl (nd1 _) (Clo.row) (keep := [0, 1, 2, 3, 4, 5, 6, 7, 9, 10, 11, 17, 18, 19]) ?_; conv => whnf
  repeat' first | (refine And.intro (fun (hb : _ = true) => ?_) (fun (hb : _ = false) => ?_) <;> (try simp only [pickB_or, pickB_and] at hb) <;> (have hc := hb; try simp only [sB, Int.reduceToNat] at hc; try simp only [addZ0] at hc) <;> first | (exfalso; omega) | conv => whnf) | ((first | refine ⟨_, wr64 ti ti, ?_⟩ | refine And.intro si ?_ | refine LitW.frz ?_ | refine Drw.d (by decide +kernel) ?_ | refine Drw.f (by decide +kernel) ?_ | refine Drw0.d (by decide +kernel) ?_ | refine Drw0.f (by decide +kernel) ?_ | refine Drw.l (by decide +kernel) ?_ | refine And.intro tgi ?_ | refine ⟨_, shl1 (by omega), ?_⟩ | refine ⟨_, wru64 ti ti, ?_⟩ | refine ⟨_, fun _ => (IntKind.wrap_u64 _).symm, ?_⟩); conv => whnf) | exact ⟨_, .keep rfl rfl⟩ | fail
  refine lp [11, 3] (fun b : Nat => [.i .i64 b, .orow 3 3 0 (accP f (isL f) b 0).length]) (fun b => [(3, oL (accP f (isL f) b 0)), (1, bx f)]) (fun b => b ≤ f.blocks.length) (fun b => f.blocks.length - b) 0 (Nat.zero_le _) ?_ fun b hb0 => ?_
  · refine Ent.lp [] [3] rfl rfl rfl ?_ ?_ <;> repeat' first | exact trivial | rfl | exact fun _ _ => rfl | omega | refine And.intro ?_ ?_ | (show (_ : Int) = _; first | omega | (simp only [Int.toNat_natCast]; omega))
  conv => whnf
  rcases (Nat.lt_or_ge b f.blocks.length).symm with hge | hlt
  · obtain rfl : b = f.blocks.length := by omega
    repeat' first | (refine And.intro (fun (hb : _ = true) => ?_) (fun (hb : _ = false) => ?_) <;> (try simp only [pickB_or, pickB_and] at hb) <;> (have hc := hb; try simp only [sB, Int.reduceToNat] at hc; try simp only [addZ0] at hc) <;> first | (exfalso; omega) | conv => whnf) | ((first | refine ⟨_, wr64 ti ti, ?_⟩ | refine And.intro si ?_ | refine LitW.frz ?_ | refine Drw.d (by decide +kernel) ?_ | refine Drw.f (by decide +kernel) ?_ | refine Drw0.d (by decide +kernel) ?_ | refine Drw0.f (by decide +kernel) ?_ | refine Drw.l (by decide +kernel) ?_ | refine And.intro tgi ?_ | refine ⟨_, shl1 (by omega), ?_⟩ | refine ⟨_, wru64 ti ti, ?_⟩ | refine ⟨_, fun _ => (IntKind.wrap_u64 _).symm, ?_⟩); conv => whnf) | exact ⟨_, .keep rfl rfl⟩ | fail
    exact ⟨_, .give rfl rfl rfl (fun _ _ => rfl) rfl⟩
  have hbl := hlen b
  have hlE : lenE f b = (f.blocks.getD b Enc.d).code.length := rfl
  repeat' first | (refine And.intro (fun (hb : _ = true) => ?_) (fun (hb : _ = false) => ?_) <;> (try simp only [pickB_or, pickB_and] at hb) <;> (have hc := hb; try simp only [sB, Int.reduceToNat] at hc; try simp only [addZ0] at hc) <;> first | (exfalso; omega) | conv => whnf) | ((first | refine ⟨_, wr64 ti ti, ?_⟩ | refine And.intro si ?_ | refine LitW.frz ?_ | refine Drw.d (by decide +kernel) ?_ | refine Drw.f (by decide +kernel) ?_ | refine Drw0.d (by decide +kernel) ?_ | refine Drw0.f (by decide +kernel) ?_ | refine Drw.l (by decide +kernel) ?_ | refine And.intro tgi ?_ | refine ⟨_, shl1 (by omega), ?_⟩ | refine ⟨_, wru64 ti ti, ?_⟩ | refine ⟨_, fun _ => (IntKind.wrap_u64 _).symm, ?_⟩); conv => whnf) | exact ⟨_, .keep rfl rfl⟩ | fail
  refine lp [19, 3] (fun i : Nat => [.i .i64 i, .orow 3 3 0 (accP f (isL f) b i).length]) (fun i => [(3, oL (accP f (isL f) b i)), (1, bx f)]) (fun i => i ≤ lenE f b) (fun i => lenE f b - i) 0 (Nat.zero_le _) ?_ fun i hi0 => ?_
  · refine Ent.lp [] [] rfl rfl rfl ?_ ?_ <;> repeat' first | exact trivial | rfl | exact fun _ _ => rfl | omega | refine And.intro ?_ ?_ | (show (_ : Int) = _; first | omega | (simp only [Int.toNat_natCast]; omega))
  have hal := accP_len (P := isL f) hlt hi0
  conv => whnf
  rcases (Nat.lt_or_ge i (lenE f b)).symm with hig | hil
  · obtain rfl : i = lenE f b := by omega
    repeat' first | (refine And.intro (fun (hb : _ = true) => ?_) (fun (hb : _ = false) => ?_) <;> (try simp only [pickB_or, pickB_and] at hb) <;> (have hc := hb; try simp only [sB, Int.reduceToNat] at hc; try simp only [addZ0] at hc) <;> first | (exfalso; omega) | conv => whnf) | ((first | refine ⟨_, wr64 ti ti, ?_⟩ | refine And.intro si ?_ | refine LitW.frz ?_ | refine Drw.d (by decide +kernel) ?_ | refine Drw.f (by decide +kernel) ?_ | refine Drw0.d (by decide +kernel) ?_ | refine Drw0.f (by decide +kernel) ?_ | refine Drw.l (by decide +kernel) ?_ | refine And.intro tgi ?_ | refine ⟨_, shl1 (by omega), ?_⟩ | refine ⟨_, wru64 ti ti, ?_⟩ | refine ⟨_, fun _ => (IntKind.wrap_u64 _).symm, ?_⟩); conv => whnf) | exact ⟨_, .keep rfl rfl⟩ | fail
    refine .mk (b + 1) (by omega) (by omega) ?_
    rw [← accP_next]
    refine Ent.lp [] [] rfl rfl rfl ?_ ?_ <;> repeat' first | exact trivial | rfl | exact fun _ _ => rfl | omega | refine And.intro ?_ ?_ | (show (_ : Int) = _; first | omega | (simp only [Int.toNat_natCast]; omega))
  repeat' first | (refine And.intro (fun (hb : _ = true) => ?_) (fun (hb : _ = false) => ?_) <;> (try simp only [pickB_or, pickB_and] at hb) <;> (have hc := hb; try simp only [sB, Int.reduceToNat] at hc; try simp only [addZ0] at hc) <;> first | (exfalso; omega) | conv => whnf) | ((first | refine ⟨_, wr64 ti ti, ?_⟩ | refine And.intro si ?_ | refine LitW.frz ?_ | refine Drw.d (by decide +kernel) ?_ | refine Drw.f (by decide +kernel) ?_ | refine Drw0.d (by decide +kernel) ?_ | refine Drw0.f (by decide +kernel) ?_ | refine Drw.l (by decide +kernel) ?_ | refine And.intro tgi ?_ | refine ⟨_, shl1 (by omega), ?_⟩ | refine ⟨_, wru64 ti ti, ?_⟩ | refine ⟨_, fun _ => (IntKind.wrap_u64 _).symm, ?_⟩); conv => whnf) | exact ⟨_, .keep rfl rfl⟩ | fail
  · have e : accP f (isL f) b (i + 1) = accP f (isL f) b i ++ [⟨0, b, i⟩] := (accP_snoc f (isL f) b i).trans (if_pos (decide_eq_true hc))
    refine .mk (i + 1) (by omega) (by omega) ?_
    refine Ent.lp [(3, 32)] [] rfl rfl rfl ?_ ?_ <;> repeat' first | exact trivial | rfl | exact fun _ _ => rfl | omega | refine And.intro ?_ ?_ | exact snoc_len e | exact snoc_get e rfl | rw [e] | (show (_ : Int) = _; first | omega | (simp only [Int.toNat_natCast]; omega))
  · have e : accP f (isL f) b (i + 1) = accP f (isL f) b i := (accP_snoc f (isL f) b i).trans (if_neg (fun h => hc (of_decide_eq_true h)))
    refine .mk (i + 1) (by omega) (by omega) ?_
    rw [← e]
    refine Ent.lp [] [] rfl rfl rfl ?_ ?_ <;> repeat' first | exact trivial | rfl | exact fun _ _ => rfl | omega | refine And.intro ?_ ?_ | (show (_ : Int) = _; first | omega | (simp only [Int.toNat_natCast]; omega))
theorem plc_ext {x y : Plc} (h1 : x.f = y.f) (h2 : x.b = y.b) (h3 : x.i = y.i) : x = y := by
  cases x; cases y; simp only at h1 h2 h3; rw [h1, h2, h3]
theorem places_S (a b : List Plc) (ha : a.length < 4294967296) : ASpec Try.prog 14 [eL a, eL b] (.b (decide (a = b))) [] := by
  refine ASpec.enter TYok mixed Try.func14 rfl Try.call14 Try.ntmps14 rfl (rs := [.tmp 4]) rfl (nodupB_ok rfl) (Clo.one rfl) (keep := [0, 1, 4, 5, 12, 13]) ?_; conv => whnf
  repeat' first | (refine And.intro (fun (hb : _ = true) => ?_) (fun (hb : _ = false) => ?_) <;> (try simp only [pickB_or, pickB_and] at hb) <;> (have hc := hb; try simp only [sB, Int.reduceToNat] at hc; try simp only [addZ0] at hc) <;> first | (exfalso; omega) | conv => whnf) | ((first | refine ⟨_, wr64 ti ti, ?_⟩ | refine And.intro si ?_ | refine LitW.frz ?_ | refine Drw.d (by decide +kernel) ?_ | refine Drw.f (by decide +kernel) ?_ | refine Drw0.d (by decide +kernel) ?_ | refine Drw0.f (by decide +kernel) ?_ | refine Drw.l (by decide +kernel) ?_ | refine And.intro tgi ?_ | refine ⟨_, shl1 (by omega), ?_⟩ | refine ⟨_, wru64 ti ti, ?_⟩ | refine ⟨_, fun _ => (IntKind.wrap_u64 _).symm, ?_⟩); conv => whnf) | exact ⟨_, .keep rfl rfl⟩ | fail
  · exact ⟨_, .keep (congrArg AV.b (decide_eq_false fun h => by rw [h] at hc; exact hc rfl).symm) rfl⟩
  have hlen : a.length = b.length := by omega
  refine lp [13] (fun q : Nat => [.i .i64 q]) (fun q => []) (fun q => q ≤ a.length ∧ ∀ i, i < q → a.getD i Enc.d = b.getD i Enc.d) (fun q => a.length - q) 0 ⟨Nat.zero_le _, fun i h => absurd h (Nat.not_lt_zero _)⟩ ?_ fun q hq => ?_
  · refine Ent.lp [] [] rfl rfl rfl ?_ ?_ <;> repeat' first | exact trivial | rfl | exact fun _ _ => rfl | omega | refine And.intro ?_ ?_ | (show (_ : Int) = _; first | omega | (simp only [Int.toNat_natCast]; omega))
  obtain ⟨hq, hv⟩ := hq
  conv => whnf
  repeat' first | (refine And.intro (fun (hb : _ = true) => ?_) (fun (hb : _ = false) => ?_) <;> (try simp only [pickB_or, pickB_and] at hb) <;> (have hc := hb; try simp only [sB, Int.reduceToNat] at hc; try simp only [addZ0] at hc) <;> first | (exfalso; omega) | conv => whnf) | ((first | refine ⟨_, wr64 ti ti, ?_⟩ | refine And.intro si ?_ | refine LitW.frz ?_ | refine Drw.d (by decide +kernel) ?_ | refine Drw.f (by decide +kernel) ?_ | refine Drw0.d (by decide +kernel) ?_ | refine Drw0.f (by decide +kernel) ?_ | refine Drw.l (by decide +kernel) ?_ | refine And.intro tgi ?_ | refine ⟨_, shl1 (by omega), ?_⟩ | refine ⟨_, wru64 ti ti, ?_⟩ | refine ⟨_, fun _ => (IntKind.wrap_u64 _).symm, ?_⟩); conv => whnf) | exact ⟨_, .keep rfl rfl⟩ | fail
  · exact ⟨_, .keep (congrArg AV.b (decide_eq_false fun h => by rw [h] at hc; simp at hc).symm) rfl⟩
  · refine .mk (q + 1) ⟨by omega, all_step hv (plc_ext hc.1 hc.2.1 hc.2.2)⟩ (by omega) ?_
    refine Ent.lp [] [] rfl rfl rfl ?_ ?_ <;> repeat' first | exact trivial | rfl | exact fun _ _ => rfl | omega | refine And.intro ?_ ?_ | (show (_ : Int) = _; first | omega | (simp only [Int.toNat_natCast]; omega))
  · exact ⟨_, .keep (congrArg AV.b (decide_eq_true (ext_getD hlen fun i hi => hv i (by omega))).symm) rfl⟩
theorem Known20_T (f : FnE) (pf : Int) (pb pi : Nat) (hs : OkF f) (ha : OkA f) (h : isLoad f ⟨pf, pb, pi⟩) : ASpec Try.prog 13 [eS f, eS (⟨pf, pb, pi⟩ : Plc)]
    (.tup [eS (knownE f ⟨pf, pb, pi⟩ (insE f pb pi) (srcL f (insE f pb pi) pb pi) (srcB f (insE f pb pi) pb pi)).1, .b (knownE f ⟨pf, pb, pi⟩ (insE f pb pi) (srcL f (insE f pb pi) pb pi) (srcB f (insE f pb pi) pb pi)).2]) [] := by
  have h1 := blocks_le f
  have h2 := hs.sz
  have hS := Src20_T f pf pb pi hs ha h
  obtain ⟨p1, p2, p3, p4⟩ := h
  have q1 : pb < f.blocks.length := by have := p1.2; simp only at this; omega
  have q2 : pi < lenE f pb := by have := p2.2; simp only [Int.toNat_natCast] at this; omega
  have p3' : (insE f pb pi).op = 27 := p3
  have p5 : 0 ≤ (⟨pf, pb, pi⟩ : Plc).i ∧ (⟨pf, pb, pi⟩ : Plc).i < ((f.blocks.getD (⟨pf, pb, pi⟩ : Plc).b.toNat Enc.d).code.length : Int) := p2
  have hy : 1 ≤ (insE f pb pi).args.length := ha.ld pb pi q2 p3
  have hyl : (insE f pb pi).args.length < 4294967296 := by have := args_le (insE f pb pi); have := ins_le f pb pi; unfold insE at *; omega
  have hsrc := srcL_in (f := f) (y := insE f pb pi) (pb := pb) (pi := pi)
  have hms : ∀ x : InsE, (x.op = 28 → 2 ≤ x.args.length) → x.args.length < 4294967296 → ASpec Try.prog 27 [eS f, eS x, eS (insE f pb pi)] (.i .i64 (meetsE f x (insE f pb pi))) [] := fun x hx hx2 => Meets_S f x _ h2 hx hy hx2 hyl
  have hpl : f.params.length ≤ siz f := by have := len_siz f.params; have e : siz f = siz f.name + siz f.params + siz f.blocks := rfl; omega
  generalize hyg : insE f pb pi = y at *
  generalize hl : srcL f y pb pi = l at *
  generalize srcB f y pb pi = bg at *
  refine ASpec.enter TYok mixed Try.func13 rfl Try.call13 Try.ntmps13 rfl (rs := [.cell 4 43, .tmp 5]) rfl (nodupB_ok rfl) (Clo.one rfl) (keep := [0, 1, 2, 3, 4, 5, 6, 7, 8, 9, 10]) ?_; conv => whnf
  repeat' first | (refine And.intro (fun (hb : _ = true) => ?_) (fun (hb : _ = false) => ?_) <;> (try simp only [pickB_or, pickB_and] at hb) <;> (have hc := hb; try simp only [sB, Int.reduceToNat] at hc; try simp only [addZ0] at hc) <;> first | (exfalso; omega) | conv => whnf) | ((first | refine ⟨_, wr64 ti ti, ?_⟩ | refine And.intro si ?_ | refine LitW.frz ?_ | refine Drw.d (by decide +kernel) ?_ | refine Drw.f (by decide +kernel) ?_ | refine Drw0.d (by decide +kernel) ?_ | refine Drw0.f (by decide +kernel) ?_ | refine Drw.l (by decide +kernel) ?_ | refine And.intro tgi ?_ | refine ⟨_, shl1 (by omega), ?_⟩ | refine ⟨_, wru64 ti ti, ?_⟩ | refine ⟨_, fun _ => (IntKind.wrap_u64 _).symm, ?_⟩); conv => whnf) | ((first | refine CallK.mk _ _ (fun _ => hS) ?_ | ((try (refine CallW.lent ?_; (conv => whnf); try (refine And.intro (by omega) ?_; (conv => whnf)))); refine CallL.mk _ _ (fun _ => hS) rfl (fun _ _ h => nomatch h) ?_)); conv => whnf) | exact ⟨_, .keep rfl rfl⟩ | fail
  · exact ⟨_, .tup (.cons (.keep (by unfold knownE; rw [if_pos (hc.imp id fun h => by omega)]; rfl) rfl) (.cons (.keep (by unfold knownE; rw [if_pos (hc.imp id fun h => by omega)]) rfl) .nil (by simp)) (by simp))⟩
  have hl1 : l.length = 1 := by omega
  have hbg : bg = false := hc.1
  obtain ⟨b, i, hq, hb1, hi1⟩ := hsrc (l.getD 0 Enc.d) (by rw [List.getD_eq_getElem?_getD, List.getElem?_eq_getElem (by omega)]; exact List.getElem_mem _)
  have g1 : 0 ≤ (l.getD (Int.toNat 0) Enc.d).b ∧ (l.getD (Int.toNat 0) Enc.d).b < f.blocks.length := by rw [show l.getD (Int.toNat 0) Enc.d = _ from hq]; exact ⟨by show (0 : Int) ≤ b; omega, by show (b : Int) < _; omega⟩
  have g2 : 0 ≤ (l.getD (Int.toNat 0) Enc.d).i ∧ (l.getD (Int.toNat 0) Enc.d).i < ((f.blocks.getD (l.getD (Int.toNat 0) Enc.d).b.toNat Enc.d).code.length : Int) := by rw [show l.getD (Int.toNat 0) Enc.d = _ from hq]; exact ⟨by show (0 : Int) ≤ i; omega, by show (i : Int) < (lenE f b : Int); omega⟩
  have g3 : (f.blocks.getD (l.getD (Int.toNat 0) Enc.d).b.toNat Enc.d).code.getD (l.getD (Int.toNat 0) Enc.d).i.toNat Enc.d = insE f b i := by rw [show l.getD (Int.toNat 0) Enc.d = _ from hq]; rfl
  have g5 : (insE f b i).op = 28 → 2 ≤ (insE f b i).args.length := ha.st b i hi1
  have g6 : (insE f b i).args.length < 4294967296 := by have := args_le (insE f b i); have := ins_le f b i; unfold insE at *; omega
  have g8 := hms (insE f b i) g5 g6
  have g9 : (insE f b i).op = 28 → ¬((b : Int) = pb ∧ (i : Int) = pi) := fun h1 h2 => by
    have e1 : b = pb := by omega
    have e2 : i = pi := by omega
    rw [e1, e2, hyg, p3'] at h1
    exact absurd h1 (by decide)
  have g10 : (l.getD 0 Enc.d).b = b ∧ (l.getD 0 Enc.d).i = i := by rw [show l.getD 0 Enc.d = _ from hq]; exact ⟨rfl, rfl⟩
  rw [← g3] at g8 g5 g6 g9
  have hk : knownE f ⟨pf, pb, pi⟩ y l bg = knownV f ⟨pf, pb, pi⟩ y ((f.blocks.getD (l.getD (Int.toNat 0) Enc.d).b.toNat Enc.d).code.getD (l.getD (Int.toNat 0) Enc.d).i.toNat Enc.d) (l.getD (Int.toNat 0) Enc.d) := by
    unfold knownE
    rw [if_neg (by rintro (h | h); exact absurd h (by rw [hbg]; decide); exact h hl1)]; rfl
  rw [← hyg] at g8
  repeat' first | (refine And.intro (fun (hb : _ = true) => ?_) (fun (hb : _ = false) => ?_) <;> (try simp only [pickB_or, pickB_and] at hb) <;> (have hc := hb; try simp only [sB, Int.reduceToNat] at hc; try simp only [addZ0] at hc) <;> first | (exfalso; omega) | conv => whnf) | ((first | refine ⟨_, wr64 ti ti, ?_⟩ | refine And.intro si ?_ | refine LitW.frz ?_ | refine Drw.d (by decide +kernel) ?_ | refine Drw.f (by decide +kernel) ?_ | refine Drw0.d (by decide +kernel) ?_ | refine Drw0.f (by decide +kernel) ?_ | refine Drw.l (by decide +kernel) ?_ | refine And.intro tgi ?_ | refine ⟨_, shl1 (by omega), ?_⟩ | refine ⟨_, wru64 ti ti, ?_⟩ | refine ⟨_, fun _ => (IntKind.wrap_u64 _).symm, ?_⟩); conv => whnf) | ((first | refine CallK.mk _ _ (fun _ => g8) ?_ | ((try (refine CallW.lent ?_; (conv => whnf); try (refine And.intro (by omega) ?_; (conv => whnf)))); refine CallL.mk _ _ (fun _ => g8) rfl (fun _ _ h => nomatch h) ?_)); conv => whnf) | exact ⟨_, .keep rfl rfl⟩ | fail
  · have e := hk.trans (if_pos (by rw [← hyg]; exact hc))
    rw [e]
    exact ⟨_, .tup (.cons (.keep rfl rfl) (.cons (.keep rfl rfl) .nil (by simp)) (by simp))⟩
  have hn : (((f.blocks.getD (l.getD (Int.toNat 0) Enc.d).b.toNat Enc.d).code.getD (l.getD (Int.toNat 0) Enc.d).i.toNat Enc.d).op = 28 ∧ ((f.blocks.getD (l.getD (Int.toNat 0) Enc.d).b.toNat Enc.d).code.getD (l.getD (Int.toNat 0) Enc.d).i.toNat Enc.d).t = y.t) ∧ meetsE f ((f.blocks.getD (l.getD (Int.toNat 0) Enc.d).b.toNat Enc.d).code.getD (l.getD (Int.toNat 0) Enc.d).i.toNat Enc.d) y = 2 := by rw [← hyg]; exact hc
  have g11 := g5 hn.1.1
  have g12 := g9 hn.1.1
  have e1 := hk.trans (if_neg (fun h => by rcases h with (h | h) | h; exact h hn.1.1; exact h hn.1.2; exact h hn.2))
  repeat' first | (refine And.intro (fun (hb : _ = true) => ?_) (fun (hb : _ = false) => ?_) <;> (try simp only [pickB_or, pickB_and] at hb) <;> (have hc := hb; try simp only [sB, Int.reduceToNat] at hc; try simp only [addZ0] at hc) <;> first | (exfalso; omega) | conv => whnf) | ((first | refine ⟨_, wr64 ti ti, ?_⟩ | refine And.intro si ?_ | refine LitW.frz ?_ | refine Drw.d (by decide +kernel) ?_ | refine Drw.f (by decide +kernel) ?_ | refine Drw0.d (by decide +kernel) ?_ | refine Drw0.f (by decide +kernel) ?_ | refine Drw.l (by decide +kernel) ?_ | refine And.intro tgi ?_ | refine ⟨_, shl1 (by omega), ?_⟩ | refine ⟨_, wru64 ti ti, ?_⟩ | refine ⟨_, fun _ => (IntKind.wrap_u64 _).symm, ?_⟩); conv => whnf) | exact ⟨_, .keep rfl rfl⟩ | fail
  · have e2 := e1.trans (if_pos ⟨hc.1, fun h => hc.2.elim (fun g => g h.1) (fun g => by have h3 : (l.getD 0 Enc.d).i < (pi : Int) := h.2; have g3 : (pi : Int) < (l.getD 0 Enc.d).i := g; omega)⟩)
    rw [e2]
    exact ⟨_, .tup (.cons (.keep rfl rfl) (.cons (.keep rfl rfl) .nil (by simp)) (by simp))⟩
  · have e2 := e1.trans (if_neg (fun h => hc.elim (fun g => g.elim (fun g => g h.1.1) (fun g => g h.1.2)) (fun g => h.2 (by
      have g3 : (l.getD 0 Enc.d).b = (pb : Int) := g.1
      have g4 : ¬(pi : Int) < (l.getD 0 Enc.d).i := g.2
      refine ⟨g3, ?_⟩
      show (l.getD 0 Enc.d).i < (pi : Int)
      rw [g10.1] at g3
      rw [g10.2] at g4 ⊢
      have : ¬(i : Int) = pi := fun h => g12 ⟨g3, h⟩
      omega))))
    rw [e2]
    exact ⟨_, .tup (.cons (.keep rfl rfl) (.cons (.keep rfl rfl) .nil (by simp)) (by simp))⟩
theorem Known20_N (f : FnE) (p : Plc) (hs : OkF f) (h : ¬isLoad f p) : ASpec Try.prog 13 [eS f, eS p] (.tup [eS (Enc.d : Opd), .b false]) [] := by
  have hS := Src20_N f p hs h
  refine ASpec.enter TYok mixed Try.func13 rfl Try.call13 Try.ntmps13 rfl (rs := [.cell 4 43, .tmp 5]) rfl (nodupB_ok rfl) (Clo.one rfl) (keep := [0, 1, 2, 3, 4, 5, 6, 7, 8, 9, 10]) ?_; conv => whnf
  repeat' first | (refine And.intro (fun (hb : _ = true) => ?_) (fun (hb : _ = false) => ?_) <;> (try simp only [pickB_or, pickB_and] at hb) <;> (have hc := hb; try simp only [sB, Int.reduceToNat] at hc; try simp only [addZ0] at hc) <;> first | (exfalso; omega) | conv => whnf) | ((first | refine ⟨_, wr64 ti ti, ?_⟩ | refine And.intro si ?_ | refine LitW.frz ?_ | refine Drw.d (by decide +kernel) ?_ | refine Drw.f (by decide +kernel) ?_ | refine Drw0.d (by decide +kernel) ?_ | refine Drw0.f (by decide +kernel) ?_ | refine Drw.l (by decide +kernel) ?_ | refine And.intro tgi ?_ | refine ⟨_, shl1 (by omega), ?_⟩ | refine ⟨_, wru64 ti ti, ?_⟩ | refine ⟨_, fun _ => (IntKind.wrap_u64 _).symm, ?_⟩); conv => whnf) | ((first | refine CallK.mk _ _ (fun _ => hS) ?_ | ((try (refine CallW.lent ?_; (conv => whnf); try (refine And.intro (by omega) ?_; (conv => whnf)))); refine CallL.mk _ _ (fun _ => hS) rfl (fun _ _ h => nomatch h) ?_)); conv => whnf) | exact ⟨_, .keep rfl rfl⟩ | fail
  all_goals skip
theorem Known_N (f : FnE) (p : Plc) (hs : OkF f) (h : ¬isLoad f p) : ASpec Try.prog 12 [eS f, eS p] (.tup [eS (Enc.d : Opd), .b false]) [] := by
  have hS := Sources_N f p hs h
  refine ASpec.enter TYok mixed Try.func12 rfl Try.call12 Try.ntmps12 rfl (rs := [.cell 4 43, .tmp 5]) rfl (nodupB_ok rfl) (Clo.one rfl) (keep := [0, 1, 2, 3, 4, 5, 6, 7, 8, 10, 11, 12]) ?_; conv => whnf
  repeat' first | (refine And.intro (fun (hb : _ = true) => ?_) (fun (hb : _ = false) => ?_) <;> (try simp only [pickB_or, pickB_and] at hb) <;> (have hc := hb; try simp only [sB, Int.reduceToNat] at hc; try simp only [addZ0] at hc) <;> first | (exfalso; omega) | conv => whnf) | ((first | refine ⟨_, wr64 ti ti, ?_⟩ | refine And.intro si ?_ | refine LitW.frz ?_ | refine Drw.d (by decide +kernel) ?_ | refine Drw.f (by decide +kernel) ?_ | refine Drw0.d (by decide +kernel) ?_ | refine Drw0.f (by decide +kernel) ?_ | refine Drw.l (by decide +kernel) ?_ | refine And.intro tgi ?_ | refine ⟨_, shl1 (by omega), ?_⟩ | refine ⟨_, wru64 ti ti, ?_⟩ | refine ⟨_, fun _ => (IntKind.wrap_u64 _).symm, ?_⟩); conv => whnf) | ((first | refine CallK.mk _ _ (fun _ => hS) ?_ | ((try (refine CallW.lent ?_; (conv => whnf); try (refine And.intro (by omega) ?_; (conv => whnf)))); refine CallL.mk _ _ (fun _ => hS) rfl (fun _ _ h => nomatch h) ?_)); conv => whnf) | exact ⟨_, .keep rfl rfl⟩ | fail
  all_goals skip
end Go.Proofs.Ytecknkgiaahheaa

/- Layer 20: ClobTells: the statement's function. -/
namespace Go.Proofs.Ytecknkgiaahheaa
open Go.RowKit
set_option linter.unusedVariables false
set_option linter.unusedSimpArgs false
set_option maxRecDepth 100000
set_option maxHeartbeats 8000000
/-- Both ways say the same. -/
theorem Both (f : FnE) (x : Plc) (hs : OkF f) (ha : OkA f) (h : isLoad f x) : ∃ (l : List Plc) (bg : Bool) (v : Opd) (ok : Bool), l.length < 4294967296 ∧
    ASpec Try.prog 10 [eS f, eS x] (.tup [eL l, .b bg]) [] ∧ ASpec Try.prog 11 [eS f, eS x] (.tup [eL l, .b bg]) [] ∧
    ASpec Try.prog 12 [eS f, eS x] (.tup [eS v, .b ok]) [] ∧ ASpec Try.prog 13 [eS f, eS x] (.tup [eS v, .b ok]) [] := by
  obtain ⟨pf, pb, pi⟩ := x
  have h0 := h.1.1
  have h1 := h.2.1.1
  obtain ⟨b, rfl⟩ : ∃ b : Nat, pb = b := ⟨pb.toNat, by simp only at h0; omega⟩
  obtain ⟨i, rfl⟩ : ∃ i : Nat, pi = i := ⟨pi.toNat, by simp only at h1; omega⟩
  refine ⟨_, _, _, _, ?_, Sources_T f pf b i hs ha h, Src20_T f pf b i hs ha h, Known_T f pf b i hs ha h, Known20_T f pf b i hs ha h⟩
  unfold srcL
  rw [List.length_map]
  exact Nat.lt_of_le_of_lt (Nat.le_trans (List.length_filter_le _ _) (Code_siz f)) hs.sz
theorem ClobTells_S (m : ModE) (p : Plc) (hm : siz m ≤ 1048576) (hr : Rng.rng m) : ASpec Try.prog 3 [eS m, eS p] (.b true) [] := by
  have h2 : siz m < 4294967296 := by omega
  have hfl := funcs_le m
  obtain ⟨R, hR⟩ : ∃ R : FnE → List Bool, ∀ f, isRG f (-1) (R f) := ⟨fun f => Classical.choose (isRG_ex f (-1)), fun f => Classical.choose_spec (isRG_ex f (-1))⟩
  obtain ⟨T, hT⟩ : ∃ T : FnE → List (List Bool), ∀ f, isTab f (T f) := ⟨fun f => Classical.choose (isTab_ex f), fun f => Classical.choose_spec (isTab_ex f)⟩
  have hf : ∀ k, Rng.rng (m.funcs.getD k Enc.d) := fun k => rng_at hr.2.2 rngD_fn k
  have hRt := Right_S m R T hR hT h2 (fun b i => C1_rng (hf b) i)
  refine ASpec.enter TYok mixed Try.func3 rfl Try.call3 Try.ntmps3 rfl (rs := [.tmp 4]) rfl (nodupB_ok rfl) (Clo.one rfl) (keep := [0, 1, 2, 3, 4, 6, 7, 9, 10, 11, 12, 13, 14, 15, 16, 17, 24, 25, 26, 38, 39, 40]) ?_; conv => whnf
  repeat' first | (refine And.intro (fun (hb : _ = true) => ?_) (fun (hb : _ = false) => ?_) <;> (try simp only [pickB_or, pickB_and] at hb) <;> (have hc := hb; try simp only [sB, Int.reduceToNat] at hc; try simp only [addZ0] at hc) <;> first | (exfalso; omega) | conv => whnf) | ((first | refine ⟨_, wr64 ti ti, ?_⟩ | refine And.intro si ?_ | refine LitW.frz ?_ | refine Drw.d (by decide +kernel) ?_ | refine Drw.f (by decide +kernel) ?_ | refine Drw0.d (by decide +kernel) ?_ | refine Drw0.f (by decide +kernel) ?_ | refine Drw.l (by decide +kernel) ?_ | refine And.intro tgi ?_ | refine ⟨_, shl1 (by omega), ?_⟩ | refine ⟨_, wru64 ti ti, ?_⟩ | refine ⟨_, fun _ => (IntKind.wrap_u64 _).symm, ?_⟩); conv => whnf) | ((first | refine CallK.mk _ _ (fun _ => lives20_S) ?_ | ((try (refine CallW.lent ?_; (conv => whnf); try (refine And.intro (by omega) ?_; (conv => whnf)))); refine CallL.mk _ _ (fun _ => lives20_S) rfl (fun _ _ h => nomatch h) ?_)); conv => whnf) | ((first | refine CallK.mk _ _ (fun _ => hRt) ?_ | ((try (refine CallW.lent ?_; (conv => whnf); try (refine And.intro (by omega) ?_; (conv => whnf)))); refine CallL.mk _ _ (fun _ => hRt) rfl (fun _ _ h => nomatch h) ?_)); conv => whnf) | exact ⟨_, .keep rfl rfl⟩ | fail
  · cases hb
  have hright : ∀ k, k < m.funcs.length → RightF m (m.funcs.getD k Enc.d) := fun k hk => chk_right (chkN_zero hc k hk)
  refine lp [26] (fun k : Nat => [.i .i64 k]) (fun k => [(3, bx p), (2, bx m)]) (fun k => k ≤ m.funcs.length) (fun k => m.funcs.length - k) 0 (Nat.zero_le _) ?_ fun k hk => ?_
  · refine Ent.lp [] [] rfl rfl rfl ?_ ?_ <;> repeat' first | exact trivial | rfl | exact fun _ _ => rfl | omega | refine And.intro ?_ ?_ | (show (_ : Int) = _; first | omega | (simp only [Int.toNat_natCast]; omega))
  conv => whnf
  rcases (Nat.lt_or_ge k m.funcs.length).symm with hge | hlt
  · obtain rfl : k = m.funcs.length := by omega
    repeat' first | (refine And.intro (fun (hb : _ = true) => ?_) (fun (hb : _ = false) => ?_) <;> (try simp only [pickB_or, pickB_and] at hb) <;> (have hc := hb; try simp only [sB, Int.reduceToNat] at hc; try simp only [addZ0] at hc) <;> first | (exfalso; omega) | conv => whnf) | ((first | refine ⟨_, wr64 ti ti, ?_⟩ | refine And.intro si ?_ | refine LitW.frz ?_ | refine Drw.d (by decide +kernel) ?_ | refine Drw.f (by decide +kernel) ?_ | refine Drw0.d (by decide +kernel) ?_ | refine Drw0.f (by decide +kernel) ?_ | refine Drw.l (by decide +kernel) ?_ | refine And.intro tgi ?_ | refine ⟨_, shl1 (by omega), ?_⟩ | refine ⟨_, wru64 ti ti, ?_⟩ | refine ⟨_, fun _ => (IntKind.wrap_u64 _).symm, ?_⟩); conv => whnf) | exact ⟨_, .keep rfl rfl⟩ | fail
  have hrf := hright k hlt
  have hrg := hf k
  have hsz : siz (m.funcs.getD k Enc.d) ≤ 1048576 := Nat.le_trans (fn_le m k) hm
  have hacl : (accP (m.funcs.getD k Enc.d) (isL (m.funcs.getD k Enc.d)) (m.funcs.getD k Enc.d).blocks.length 0).length ≤ siz (m.funcs.getD k Enc.d) := by
    unfold accP; rw [List.length_map]
    exact Nat.le_trans (List.length_filter_le _ _) (Code_siz _)
  repeat' first | (refine And.intro (fun (hb : _ = true) => ?_) (fun (hb : _ = false) => ?_) <;> (try simp only [pickB_or, pickB_and] at hb) <;> (have hc := hb; try simp only [sB, Int.reduceToNat] at hc; try simp only [addZ0] at hc) <;> first | (exfalso; omega) | conv => whnf) | ((first | refine ⟨_, wr64 ti ti, ?_⟩ | refine And.intro si ?_ | refine LitW.frz ?_ | refine Drw.d (by decide +kernel) ?_ | refine Drw.f (by decide +kernel) ?_ | refine Drw0.d (by decide +kernel) ?_ | refine Drw0.f (by decide +kernel) ?_ | refine Drw.l (by decide +kernel) ?_ | refine And.intro tgi ?_ | refine ⟨_, shl1 (by omega), ?_⟩ | refine ⟨_, wru64 ti ti, ?_⟩ | refine ⟨_, fun _ => (IntKind.wrap_u64 _).symm, ?_⟩); conv => whnf) | ((first | refine CallK.mk _ _ (fun _ => Long_S (m.funcs.getD k Enc.d) (by omega)) ?_ | ((try (refine CallW.lent ?_; (conv => whnf); try (refine And.intro (by omega) ?_; (conv => whnf)))); refine CallL.mk _ _ (fun _ => Long_S (m.funcs.getD k Enc.d) (by omega)) rfl (fun _ _ h => nomatch h) ?_)); conv => whnf) | ((first | refine CallK.mk _ _ (fun _ => CopyFunc_S (m.funcs.getD k Enc.d) (by omega)) ?_ | ((try (refine CallW.lent ?_; (conv => whnf); try (refine And.intro (by omega) ?_; (conv => whnf)))); refine CallL.mk _ _ (fun _ => CopyFunc_S (m.funcs.getD k Enc.d) (by omega)) rfl (fun _ _ h => nomatch h) ?_)); conv => whnf) | ((first | refine CallK.mk _ _ (fun _ => loads_S (m.funcs.getD k Enc.d) (by omega)) ?_ | ((try (refine CallW.lent ?_; (conv => whnf); try (refine And.intro (by omega) ?_; (conv => whnf)))); refine CallL.mk _ _ (fun _ => loads_S (m.funcs.getD k Enc.d) (by omega)) rfl (fun _ _ h => nomatch h) ?_)); conv => whnf) | exact ⟨_, .keep rfl rfl⟩ | fail
  · refine .mk (k + 1) (by omega) (by omega) ?_
    refine Ent.lp [] [] rfl rfl rfl ?_ ?_ <;> repeat' first | exact trivial | rfl | exact fun _ _ => rfl | omega | refine And.intro ?_ ?_ | (show (_ : Int) = _; first | omega | (simp only [Int.toNat_natCast]; omega))
  generalize hfe : m.funcs.getD k Enc.d = f at *
  have hs : OkF f := OkF_of (by omega) hrg
  have ha : OkA f := hrf.okA
  obtain ⟨L, hL⟩ : ∃ L, L = accP f (isL f) f.blocks.length 0 ++ [p] := ⟨_, rfl⟩
  have hLl : L.length = (accP f (isL f) f.blocks.length 0).length + 1 := by rw [hL, List.length_append]; rfl
  refine lp [40] (fun q : Nat => [.i .i64 q]) (fun q => [(38, oL L), (7, bx f), (6, bx f), (3, bx p), (2, bx m)]) (fun q => q ≤ L.length) (fun q => L.length - q) 0 (Nat.zero_le _) ?_ fun q hq => ?_
  · rw [← hfe] at hL ⊢
    refine Ent.lp [] [] rfl rfl rfl ?_ ?_ <;> repeat' first | exact trivial | rfl | exact fun _ _ => rfl | omega | refine And.intro ?_ ?_ | exact snoc_len hL | exact snoc_get hL rfl | rw [hL] | (show (_ : Int) = _; first | omega | (simp only [Int.toNat_natCast]; omega))
    all_goals skip
  conv => whnf
  rcases (Nat.lt_or_ge q L.length).symm with hge | hql
  · obtain rfl : q = L.length := by omega
    repeat' first | (refine And.intro (fun (hb : _ = true) => ?_) (fun (hb : _ = false) => ?_) <;> (try simp only [pickB_or, pickB_and] at hb) <;> (have hc := hb; try simp only [sB, Int.reduceToNat] at hc; try simp only [addZ0] at hc) <;> first | (exfalso; omega) | conv => whnf) | ((first | refine ⟨_, wr64 ti ti, ?_⟩ | refine And.intro si ?_ | refine LitW.frz ?_ | refine Drw.d (by decide +kernel) ?_ | refine Drw.f (by decide +kernel) ?_ | refine Drw0.d (by decide +kernel) ?_ | refine Drw0.f (by decide +kernel) ?_ | refine Drw.l (by decide +kernel) ?_ | refine And.intro tgi ?_ | refine ⟨_, shl1 (by omega), ?_⟩ | refine ⟨_, wru64 ti ti, ?_⟩ | refine ⟨_, fun _ => (IntKind.wrap_u64 _).symm, ?_⟩); conv => whnf) | ((first | refine CallK.mk _ _ (fun _ => Funcs_S f f (by omega)) ?_ | ((try (refine CallW.lent ?_; (conv => whnf); try (refine And.intro (by omega) ?_; (conv => whnf)))); refine CallL.mk _ _ (fun _ => Funcs_S f f (by omega)) rfl (fun _ _ h => nomatch h) ?_)); conv => whnf) | exact ⟨_, .keep rfl rfl⟩ | fail
    · simp at hb
    · refine .mk (k + 1) (by omega) (by omega) ?_
      refine Ent.lp [] [] rfl rfl rfl ?_ ?_ <;> repeat' first | exact trivial | rfl | exact fun _ _ => rfl | omega | refine And.intro ?_ ?_ | (show (_ : Int) = _; first | omega | (simp only [Int.toNat_natCast]; omega))
  have hz : addZ 0 ((q : Int)).toNat = q := by rw [addZ_eq]; omega
  have hz2 : addZ 0 ((q : Int)).toNat < L.length := by rw [hz]; exact hql
  by_cases hld : isLoad f (L.getD (addZ 0 ((q : Int)).toNat) Enc.d)
  · obtain ⟨l, bg, v, ok, a0, a1, a2, a3, a4⟩ := Both f _ hs ha hld
    repeat' first | (refine And.intro (fun (hb : _ = true) => ?_) (fun (hb : _ = false) => ?_) <;> (try simp only [pickB_or, pickB_and] at hb) <;> (have hc := hb; try simp only [sB, Int.reduceToNat] at hc; try simp only [addZ0] at hc) <;> first | (exfalso; omega) | conv => whnf) | ((first | refine ⟨_, wr64 ti ti, ?_⟩ | refine And.intro si ?_ | refine LitW.frz ?_ | refine Drw.d (by decide +kernel) ?_ | refine Drw.f (by decide +kernel) ?_ | refine Drw0.d (by decide +kernel) ?_ | refine Drw0.f (by decide +kernel) ?_ | refine Drw.l (by decide +kernel) ?_ | refine And.intro tgi ?_ | refine ⟨_, shl1 (by omega), ?_⟩ | refine ⟨_, wru64 ti ti, ?_⟩ | refine ⟨_, fun _ => (IntKind.wrap_u64 _).symm, ?_⟩); conv => whnf) | ((first | refine CallK.mk _ _ (fun _ => a1) ?_ | ((try (refine CallW.lent ?_; (conv => whnf); try (refine And.intro (by omega) ?_; (conv => whnf)))); refine CallL.mk _ _ (fun _ => a1) rfl (fun _ _ h => nomatch h) ?_)); conv => whnf) | ((first | refine CallK.mk _ _ (fun _ => a2) ?_ | ((try (refine CallW.lent ?_; (conv => whnf); try (refine And.intro (by omega) ?_; (conv => whnf)))); refine CallL.mk _ _ (fun _ => a2) rfl (fun _ _ h => nomatch h) ?_)); conv => whnf) | ((first | refine CallK.mk _ _ (fun _ => a3) ?_ | ((try (refine CallW.lent ?_; (conv => whnf); try (refine And.intro (by omega) ?_; (conv => whnf)))); refine CallL.mk _ _ (fun _ => a3) rfl (fun _ _ h => nomatch h) ?_)); conv => whnf) | ((first | refine CallK.mk _ _ (fun _ => a4) ?_ | ((try (refine CallW.lent ?_; (conv => whnf); try (refine And.intro (by omega) ?_; (conv => whnf)))); refine CallL.mk _ _ (fun _ => a4) rfl (fun _ _ h => nomatch h) ?_)); conv => whnf) | ((first | refine CallK.mk _ _ (fun _ => places_S l l a0) ?_ | ((try (refine CallW.lent ?_; (conv => whnf); try (refine And.intro (by omega) ?_; (conv => whnf)))); refine CallL.mk _ _ (fun _ => places_S l l a0) rfl (fun _ _ h => nomatch h) ?_)); conv => whnf) | exact ⟨_, .keep rfl rfl⟩ | fail
    · simp at hb
    · refine .mk (q + 1) (by omega) (by omega) ?_
      refine Ent.lp [] [] rfl rfl rfl ?_ ?_ <;> repeat' first | exact trivial | rfl | exact fun _ _ => rfl | omega | refine And.intro ?_ ?_ | (show (_ : Int) = _; first | omega | (simp only [Int.toNat_natCast]; omega))
  · have a1 := Sources_N f _ hs hld
    have a2 := Src20_N f _ hs hld
    have a3 := Known_N f _ hs hld
    have a4 := Known20_N f _ hs hld
    repeat' first | (refine And.intro (fun (hb : _ = true) => ?_) (fun (hb : _ = false) => ?_) <;> (try simp only [pickB_or, pickB_and] at hb) <;> (have hc := hb; try simp only [sB, Int.reduceToNat] at hc; try simp only [addZ0] at hc) <;> first | (exfalso; omega) | conv => whnf) | ((first | refine ⟨_, wr64 ti ti, ?_⟩ | refine And.intro si ?_ | refine LitW.frz ?_ | refine Drw.d (by decide +kernel) ?_ | refine Drw.f (by decide +kernel) ?_ | refine Drw0.d (by decide +kernel) ?_ | refine Drw0.f (by decide +kernel) ?_ | refine Drw.l (by decide +kernel) ?_ | refine And.intro tgi ?_ | refine ⟨_, shl1 (by omega), ?_⟩ | refine ⟨_, wru64 ti ti, ?_⟩ | refine ⟨_, fun _ => (IntKind.wrap_u64 _).symm, ?_⟩); conv => whnf) | ((first | refine CallK.mk _ _ (fun _ => a1) ?_ | ((try (refine CallW.lent ?_; (conv => whnf); try (refine And.intro (by omega) ?_; (conv => whnf)))); refine CallL.mk _ _ (fun _ => a1) rfl (fun _ _ h => nomatch h) ?_)); conv => whnf) | ((first | refine CallK.mk _ _ (fun _ => a2) ?_ | ((try (refine CallW.lent ?_; (conv => whnf); try (refine And.intro (by omega) ?_; (conv => whnf)))); refine CallL.mk _ _ (fun _ => a2) rfl (fun _ _ h => nomatch h) ?_)); conv => whnf) | ((first | refine CallK.mk _ _ (fun _ => a3) ?_ | ((try (refine CallW.lent ?_; (conv => whnf); try (refine And.intro (by omega) ?_; (conv => whnf)))); refine CallL.mk _ _ (fun _ => a3) rfl (fun _ _ h => nomatch h) ?_)); conv => whnf) | ((first | refine CallK.mk _ _ (fun _ => a4) ?_ | ((try (refine CallW.lent ?_; (conv => whnf); try (refine And.intro (by omega) ?_; (conv => whnf)))); refine CallL.mk _ _ (fun _ => a4) rfl (fun _ _ h => nomatch h) ?_)); conv => whnf) | ((first | refine CallK.mk _ _ (fun _ => (places_S [] [] (by decide)).weak (by repeat' first | exact trivial | exact rfl | refine And.intro ?_ ?_)) ?_ | ((try (refine CallW.lent ?_; (conv => whnf); try (refine And.intro (by omega) ?_; (conv => whnf)))); refine CallL.mk _ _ (fun _ => (places_S [] [] (by decide)).weak (by repeat' first | exact trivial | exact rfl | refine And.intro ?_ ?_)) rfl (fun _ _ h => nomatch h) ?_)); conv => whnf) | exact ⟨_, .keep rfl rfl⟩ | fail
    · simp at hb
    · refine .mk (q + 1) (by omega) (by omega) ?_
      refine Ent.lp [] [] rfl rfl rfl ?_ ?_ <;> repeat' first | exact trivial | rfl | exact fun _ _ => rfl | omega | refine And.intro ?_ ?_ | (show (_ : Int) = _; first | omega | (simp only [Int.toNat_natCast]; omega))
end Go.Proofs.Ytecknkgiaahheaa
