/- A scope with one label at which the run comes again: a loop. -/
import Derived.Test.YtjdiohhniiooeaaDoorPrt
import Derived.ScopeJumps
namespace Go.Proofs.YtjdiohhniiooeaaDoor
open Go.RowKit
set_option linter.unusedVariables false
section
variable {P : Program} {E : Env} {Q : Exit → Act → World → Prop} {l : Slots} {own : Own} {F : World → Prop}
theorem jump_mono {n : Nat} {J J' : Act → World → Prop} (h : ∀ a w, J a w → J' a w) : ∀ (e : Exit) (a : Act) (w : World), Exit.jump n J Q e a w → Exit.jump n J' Q e a w := fun e a w hq => by
  cases e <;> first | exact ⟨hq.1, h _ _ hq.2⟩ | exact hq
theorem ex_min {ι : Type} {I : ι → Prop} (μ : ι → Nat) : ∀ (k : Nat) (i : ι), I i → μ i = k → ∃ i, I i ∧ ∀ j, I j → μ i ≤ μ j := fun k => by
  induction k using Nat.strongRecOn with
  | _ k ih =>
    intro i hi hk
    by_cases h : ∃ j, I j ∧ μ j < k
    · obtain ⟨j, hj, hlt⟩ := h
      exact ih (μ j) hlt j hj rfl
    · exact ⟨i, hi, fun j hj => Nat.le_of_not_lt fun hlt => h ⟨j, hj, hk ▸ hlt⟩⟩
theorem wp_scope_ix {ι : Type} {c rest : Code} {n : Nat} (I : ι → Act → World → Prop) (μ : ι → Nat) (hf : findLabel c n = some rest) {a : Act} {w : World}
    (first : c.wp P (Exit.jump n (fun a w => ∃ j, I j a w) Q) a w)
    (pass : ∀ i a w, I i a w → rest.wp P (Exit.jump n (fun a' w' => ∃ j, I j a' w' ∧ μ j < μ i) Q) a w) : (Code.scope c).wp P Q a w := by
  classical
  have least : ∀ a w, (∃ i, I i a w) → ∃ i, I i a w ∧ ∀ j, I j a w → μ i ≤ μ j := fun a w h => ex_min μ _ h.choose h.choose_spec rfl
  let m : Act → World → Nat := fun a w => if h : ∃ i, I i a w then μ (least a w h).choose else 0
  refine wp_scope_jumps n (fun a w => ∃ j, I j a w) m hf first fun a w hJ => ?_
  have hm : m a w = μ (least a w hJ).choose := dif_pos hJ
  refine Code.wp_mono (jump_mono (fun a' w' h => ?_) ) (pass _ a w (least a w hJ).choose_spec.1)
  obtain ⟨j, hj, hlt⟩ := h
  have hJ' : ∃ i, I i a' w' := ⟨j, hj⟩
  refine ⟨hJ', ?_⟩
  have hm' : m a' w' = μ (least a' w' hJ').choose := dif_pos hJ'
  have := (least a' w' hJ').choose_spec.2 j hj
  omega
/-- What stands behind the label on the code's spine. -/
@[reducible] def behindLabel : Code → Code
  | .seq (.label _) b => b
  | .seq _ b => behindLabel b
  | c => c
theorem SC.scopeF {ι : Type} {c b : Code} {n : Nat} (Ml : ι → Slots) (Mo : ι → Own) (Inv : ι → World → Prop) (μ : ι → Nat) (hb : behindLabel c = b) (hf : findLabel c n = some (.seq .skip b))
    (first : (∀ i, SC P E (Exit.jump n (fun a w => ∃ j, St.sat E ⟨Ml j, Mo j, fun w => F w ∧ Inv j w⟩ a w) Q) (.seq (.label n) b) (Ml i) (Mo i) (fun w => F w ∧ Inv i w)) → SC P E (Exit.jump n (fun a w => ∃ j, St.sat E ⟨Ml j, Mo j, fun w => F w ∧ Inv j w⟩ a w) Q) c l own F)
    (round : ∀ i, SC P E (Exit.jump n (fun a w => ∃ j, St.sat E ⟨Ml j, Mo j, fun w => F w ∧ Inv j w⟩ a w ∧ μ j < μ i) Q) b (Ml i) (Mo i) (fun w => F w ∧ Inv i w)) : SC P E Q (.scope c) l own F :=
  ⟨fun a w ha hw => wp_scope_ix (fun i a w => St.sat E ⟨Ml i, Mo i, fun w => F w ∧ Inv i w⟩ a w) μ hf
    ((first fun i => ⟨fun a w ha hw => wp_seq (wp_label (Code.wp_mono (jump_mono fun a' w' h => ⟨h.choose, h.choose_spec.1⟩) ((round i).out a w ha hw)))⟩).out a w ha hw)
    fun i a w h => wp_seq (wp_skip ((round i).out a w h.1 h.2))⟩
theorem SC.into {c : Code} {l' : Slots} {own' : Own} {F' : World → Prop} (K : SC P E Q c l' own' F') (hl : Sub l l') (ho : own = own') (hf : ∀ w, F w → F' w) : SC P E Q c l own F := ⟨fun a w ha hw => K.out a w (ha.sub hl) (ho ▸ hw.weaken hf)⟩
theorem SE.permO {e : Exit} {own' : Own} (h : own.Perm own') (K : SE E Q e l own' F) : SE E Q e l own F := ⟨fun a w ha hw => K.out a w ha (hw.perm h)⟩
theorem SC.goto {n : Nat} (h : SE E Q (.goto n) l own F) : SC P E Q (.goto n) l own F := ⟨fun a w ha hw => wp_goto (h.out a w ha hw)⟩
theorem SE.jumpF {ι : Type} {Ml : ι → Slots} {Mo : ι → Own} {G : ι → World → Prop} {μ : ι → Nat} {n m : Nat} (i : ι) (hl : Sub l (Ml i)) (ho : own = Mo i) (hf : ∀ w, F w → G i w) (hμ : μ i < m) :
    SE E (Exit.jump n (fun a w => ∃ j, St.sat E ⟨Ml j, Mo j, G j⟩ a w ∧ μ j < m) Q) (.goto n) l own F :=
  ⟨fun a w ha hw => ⟨rfl, i, ⟨ha.sub hl, ho ▸ hw.weaken hf⟩, hμ⟩⟩
theorem SE.jump_ret {n : Nat} {J : Act → World → Prop} (h : SE E Q .ret l own F) : SE E (Exit.jump n J Q) .ret l own F := ⟨h.out⟩
theorem SE.then_goto {n : Nat} {K : Act → World → Prop} (h : SE E Q (.goto n) l own F) : SE E (Exit.then K Q) (.goto n) l own F := ⟨h.out⟩
end
end Go.Proofs.YtjdiohhniiooeaaDoor
