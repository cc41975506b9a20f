/- Regions that draw the order of their operations: walked once, in an order of the prover's own. -/
import Derived.Test.YtjdiohhniiooeaaDoorEng
import Derived.OrdersHeld
import Derived.StillTail
namespace Go.Proofs.YtjdiohhniiooeaaDoor
open Go.RowKit
set_option linter.unusedVariables false

variable {P : Program} {ops : Array Oper} {Q : Exit → Act → World → Prop} {S : World → Prop}
/-- The head of a region (its first n operations), whichever comes up: S stands behind each; then what L says. -/
def wpX (P : Program) (ops : Array Oper) (Q : Exit → Act → World → Prop) (S : World → Prop) (n : Nat) (L : Array Bool → Act → World → Prop) : Nat → Array Bool → Act → World → Prop
  | 0, listed, a, w => L listed a w
  | f + 1, listed, a, w =>
    Region.ready .any ops listed ≠ [] ∧ ∀ i ∈ Region.ready .any ops listed, i < n ∧ wpOp P ops Q i (fun a' w' => S w' ∧ wpX P ops Q S n L f (listed.setIfInBounds i true) a' w') a w
theorem wpAny_of_X {n g : Nat} {L : Array Bool → Act → World → Prop} (hL : ∀ listed a w, L listed a w → wpAny P .any ops Q g listed a w) :
    ∀ (f : Nat) (listed : Array Bool) (a : Act) (w : World), wpX P ops Q S n L f listed a w → wpAny P .any ops Q (f + g) listed a w
  | 0, listed, a, w, h => by rw [Nat.zero_add]; exact hL _ _ _ h
  | f + 1, listed, a, w, h => by
    rw [show f + 1 + g = (f + g) + 1 by omega]
    exact ⟨fun h0 => absurd h0 h.1, fun i hi => wpOp_mono (fun a' w' h' => wpAny_of_X hL f _ a' w' h'.2) (h.2 i hi).2⟩
theorem wpX_first {n i : Nat} {oi : Oper} {v : Value} {L : Array Bool → Act → World → Prop} (hi : ops[i]? = some oi) (hsel : ∀ (j : Nat) (o : Oper) cs b, ops[j]? = some o → o.op ≠ .select cs b)
    (hs : n < ops.size → Region.sinkB .any ops n = true) (hc : Region.chainB .any ops n = true) (hin : i < n) (hns : n ≤ ops.size)
    (hQ : ∀ c a w, Q (.panic c) (a.put oi.dst v) w → Q (.panic c) a w)
    (hdone : ∀ listed a w, L listed a w → ∀ j ∈ Region.ready .any ops listed, n ≤ j) :
    ∀ (f : Nat) (listed : Array Bool) (a : Act) (w : World), HeadInv .any ops n listed →
      (∀ j oj, ops[j]? = some oj → j ≠ i → listed.getD j true = false → (∀ e ∈ oj.after, Region.binds .any e = true → e.on ≠ i) → oi.apart ops oj = true) →
      i ∈ Region.ready .any ops listed → YieldsIf P ops S oi v a → S w →
      wpX P ops Q S n L f (listed.setIfInBounds i true) (a.put oi.dst v) w → wpX P ops Q S n L (f + 1) listed a w := by
  have hlt : ∀ (listed : Array Bool), HeadInv .any ops n listed → i ∈ Region.ready .any ops listed → ∀ j ∈ Region.ready .any ops listed, j < n := by
    intro listed inv hr j hj
    rcases Nat.lt_or_ge j n with h | h
    · exact h
    · rcases Nat.lt_or_ge n ops.size with hn | hn
      · exact absurd hj (tail_waits (hs hn) hc hn inv _ i rfl hin (mem_ready.1 hr).1 j h)
      · obtain ⟨_, oj, hoj, _⟩ := mem_ready.1 hj
        have := (Array.getElem?_eq_some_iff.1 hoj).1
        omega
  intro f
  induction f with
  | zero =>
    intro listed a w inv _ hr hy hS H
    refine ⟨fun h => (by rw [h] at hr; cases hr), fun j hj => ?_⟩
    have hjn := hlt listed inv hr j hj
    refine ⟨hjn, ?_⟩
    by_cases hji : j = i
    · subst hji; exact hy.wpOp hi hS ⟨hS, H⟩
    · have := hdone _ _ _ H j (ready_mono hj hji)
      omega
  | succ f ih =>
    intro listed a w inv hfree hr hy hS H
    have hun := (mem_ready.1 hr).1
    refine ⟨fun h => (by rw [h] at hr; cases hr), fun j hj => ?_⟩
    have hjn := hlt listed inv hr j hj
    refine ⟨hjn, ?_⟩
    by_cases hji : j = i
    · subst hji; exact hy.wpOp hi hS ⟨hS, H⟩
    · have h1 := (H.2 j (ready_mono hj hji)).2
      obtain ⟨hjun, oj, hoj, hall⟩ := mem_ready.1 hj
      have hnot : ∀ e ∈ oj.after, Region.binds .any e = true → e.on ≠ i := fun e he hb heq => by
        have h1 := hall e he hb
        rw [heq, getD_both hun] at h1
        cases h1
      have h2 := wpOp_putIf hoj (hfree j oj hoj hji hjun hnot) (fun cs b => hsel i oi cs b hi) (fun cs b => hsel j oj cs b hoj) hQ hy h1
      have hfree' : ∀ k ok, ops[k]? = some ok → k ≠ i → (listed.setIfInBounds j true).getD k true = false →
          (∀ e ∈ ok.after, Region.binds .any e = true → e.on ≠ i) → oi.apart ops ok = true := fun k ok hk hki hun hno => by
        refine hfree k ok hk hki ?_ hno
        by_cases hjk : j = k
        · subst hjk; exact hjun
        · rw [getD_set_ne true hjk] at hun; exact hun
      refine wpOp_mono (fun a' w' h3 => ⟨h3.2.1, ih (listed.setIfInBounds j true) a' w' (inv.set hj hjn) hfree' (ready_mono hr (Ne.symm hji)) h3.1 h3.2.1 ?_⟩) h2
      rw [Array.setIfInBounds_comm _ _ hji]
      exact h3.2.2

/-! ## The walk -/
/-- Nothing in the region panics. -/
def calmQ (Q : Exit → Act → World → Prop) : Exit → Act → World → Prop := fun e a w => e = .normal ∧ Q .normal a w
/-- What stands behind the head: the tail, in its forced order. -/
def tailL (P : Program) (ops : Array Oper) (Q : Exit → Act → World → Prop) (n : Nat) : Array Bool → Act → World → Prop := fun listed a w =>
  Region.seqB .any ops (ops.size - n) n listed = true ∧ wpList P ops (calmQ Q) (ops.toList.drop n) a w
variable {E : Env} {l : Slots} {own : Own} {F : World → Prop} {n f : Nat} {listed : Array Bool}
structure SD (P : Program) (E : Env) (ops : Array Oper) (Q : Exit → Act → World → Prop) (S : World → Prop) (n f : Nat) (listed : Array Bool) (l : Slots) (own : Own) (F : World → Prop) : Prop where
  out : ∀ a w, Has E.n l a → SP E own F w → HeadInv .any ops n listed → S w → wpX P ops (calmQ Q) S n (tailL P ops Q n) f listed a w
/-- What is asked of the region's text. -/
def Region.okX (ops : Array Oper) (n : Nat) : Bool :=
  Region.noSelect ops && decide (n ≤ ops.size) && (decide (ops.size ≤ n) || Region.sinkB .any ops n) && Region.chainB .any ops n
theorem SC.draw {id : Nat} {os : List Oper} (n : Nat) (hm : P.follows .mixedOrders = true) (hB : Region.okX os.toArray n = true) (hS : ∀ w, SP E own F w → S w)
    (h : SD P E os.toArray Q S n n (Array.replicate os.toArray.size false) l own F) : SC P E Q (.region id os.toArray true) l own F := by
  refine ⟨fun a w ha hw => ?_⟩
  simp only [Region.okX, Bool.and_eq_true, decide_eq_true_eq, Bool.or_eq_true] at hB
  obtain ⟨⟨⟨hsel, hn⟩, hs⟩, hc⟩ := hB
  have hw' : SP E own F { w with drawn := w.drawn + 1 } := ⟨⟨hw.below.os, hw.below.tape, hw.below.output, hw.below.size, hw.below.block⟩, fun r hr => by
    have := hw.ok r hr
    exact Res.ok_congr (w := w) (w' := { w with drawn := w.drawn + 1 }) (fun _ _ => rfl) this, hw.new, hw.nodup, fun w' h1 h2 => hw.rob w' h1 h2⟩
  have inv0 : HeadInv .any os.toArray n (Array.replicate os.toArray.size false) :=
    ⟨by simp, fun j oj _ hl => (by rw [getD_replicate_false] at hl; cases hl), fun t _ ht => getD_in (by simpa using ht) (getD_replicate_false _ _)⟩
  have H := h.out a _ ha hw' inv0 (hS _ hw')
  refine Code.wp_mono (Q := calmQ Q) (fun e a w hq => by obtain ⟨rfl, hq⟩ := hq; exact hq) (wp_region_any hm ?_)
  have := wpAny_of_X (g := os.toArray.size - n) (fun listed a w hL => by
    have hl : (os.drop n).length = os.toArray.size - n := by simp
    rw [← hl]
    exact wpAny_of_seq (os.drop n) n listed a w (fun j => by simp) (by rw [hl]; exact hL.1) (by simpa using hL.2)) n _ a _ H
  rwa [show n + (os.toArray.size - n) = os.toArray.size by omega] at this
/-- An operation that only reads, and may come up now, is taken first. -/
theorem SD.take (i : Nat) {o : Oper} {own' : Own} {F' : World → Prop} {d : Nat} {g : Bool} {v : Value} (hi : ops[i]? = some o) (hS : S = SP E own' F')
    (hB : (Region.okX ops n && decide (i < n) && Region.free .any ops listed i && (Region.ready .any ops listed).contains i) = true)
    (hp : PStep P E ops o l own' F' d g v) (K : SD P E ops Q S n f (listed.setIfInBounds i true) ((d, g, v) :: l) own F) : SD P E ops Q S n (f + 1) listed l own F := by
  refine ⟨fun a w ha hw inv hSw => ?_⟩
  simp only [Region.okX, Bool.and_eq_true, decide_eq_true_eq, Bool.or_eq_true, List.contains_iff_mem] at hB
  obtain ⟨⟨⟨⟨⟨⟨hsel, hn⟩, hs⟩, hc⟩, hin⟩, hfree⟩, hr⟩ := hB
  have hwant := wanted_gd ha hp.gd_
  have hput := ha.put hp.lt g v
  rw [← hp.dst] at hput
  have hy : YieldsIf P ops S o (gv g v) a := by
    cases g with
    | true => exact .inl ⟨hwant, fun w hw => hp.run a w ha (hS ▸ hw) rfl⟩
    | false => exact .inr ⟨hwant, rfl⟩
  exact wpX_first (oi := o) (v := gv g v) hi (Region.noSelect_spec hsel) (fun h => hs.resolve_left (by omega)) hc hin hn
    (fun c a w h => by cases h.1) (fun listed a w hL => seqB_ready hL.1) f listed a w inv (Region.free_spec hi hfree) hr hy hSw
    (K.out _ w hput hw (inv.set hr hin) hSw)
/-- The one operation that may come up now is carried out. -/
def oneQ (P : Program) (ops : Array Oper) (Q : Exit → Act → World → Prop) (S : World → Prop) (n f : Nat) (listed : Array Bool) : Exit → Act → World → Prop := fun e a w =>
  e = .normal ∧ S w ∧ wpX P ops (calmQ Q) S n (tailL P ops Q n) f listed a w
theorem one_wp {i : Nat} {o : Oper} (hi : ops[i]? = some o) {a : Act} {w : World} (h : SL P E ops (oneQ P ops Q S n f (listed.setIfInBounds i true)) [o] l own F) (ha : Has E.n l a) (hw : SP E own F w) :
    wpOp P ops (calmQ Q) i (fun a' w' => S w' ∧ wpX P ops (calmQ Q) S n (tailL P ops Q n) f (listed.setIfInBounds i true) a' w') a w := by
  have H := h.out a w ha hw
  unfold wpOp
  simp only [hi]
  unfold wpList at H
  have conv : ∀ (a : Act) (w : World), wpList P ops (oneQ P ops Q S n f (listed.setIfInBounds i true)) [] a w → S w ∧ wpX P ops (calmQ Q) S n (tailL P ops Q n) f (listed.setIfInBounds i true) a w := fun a w h => by
    unfold wpList at h; exact h.2
  split
  · rename_i hw'
    rw [if_pos hw'] at H
    rcases H with H | ⟨_, a', w', H⟩
    · refine .inl ?_
      have hpan : ∀ c a w, oneQ P ops Q S n f (listed.setIfInBounds i true) (.panic c) a w → calmQ Q (.panic c) a w := fun c a w h => by cases h.1
      unfold Oper.wp at H ⊢
      generalize (execOp a.eval o).run P w = r at *
      cases r with
      | ok x w' =>
        cases x <;> simp only [Oper.upon] at H ⊢
        case value u => exact conv _ _ H
        case skip => exact conv _ _ H
        case defer d => exact conv _ _ H
        case enter f' args =>
          refine Calls.mono H fun e w'' he => ?_
          cases e with
          | returned u => exact conv _ _ he
          | panicked c => exact hpan _ _ _ he
          | outgrown => obtain ⟨a', w', h⟩ := he; cases h.1
        case row row args => exact Rows.mono H fun u w'' he => conv _ _ he
      | halt x w' =>
        cases x <;> simp only [Oper.upon] at H ⊢
        case panic u => exact hpan _ _ _ H
    · cases H.1
  · rename_i hw'
    rw [if_neg hw'] at H
    exact conv _ _ H
theorem SD.one (i : Nat) {o : Oper} (hi : ops[i]? = some o) (hB : (decide (Region.ready .any ops listed = [i]) && decide (i < n)) = true)
    (h : HeadInv .any ops n (listed.setIfInBounds i true) → SL P E ops (oneQ P ops Q S n f (listed.setIfInBounds i true)) [o] l own F) : SD P E ops Q S n (f + 1) listed l own F := by
  refine ⟨fun a w ha hw inv hSw => ?_⟩
  simp only [Bool.and_eq_true, decide_eq_true_eq] at hB
  have hinv := inv.set (i := i) (by rw [hB.1]; simp) hB.2
  refine ⟨by rw [hB.1]; simp, fun j hj => ?_⟩
  rw [hB.1] at hj
  obtain rfl : j = i := by simpa using hj
  exact ⟨hB.2, one_wp hi (h hinv) ha hw⟩
theorem SD.keep {l' : Slots} (hs : Sub l l') (K : SD P E ops Q S n f listed l' own F) : SD P E ops Q S n f listed l own F := ⟨fun a w ha hw hi hS => K.out a w (ha.sub hs) hw hi hS⟩
/-- Two that may come up now: each of them, carried out. -/
theorem SD.two (i j : Nat) {o o' : Oper} (hi : ops[i]? = some o) (hj : ops[j]? = some o') (hB : (decide (Region.ready .any ops listed = [i, j]) && decide (i < n) && decide (j < n)) = true)
    (h1 : HeadInv .any ops n (listed.setIfInBounds i true) → SL P E ops (oneQ P ops Q S n f (listed.setIfInBounds i true)) [o] l own F)
    (h2 : HeadInv .any ops n (listed.setIfInBounds j true) → SL P E ops (oneQ P ops Q S n f (listed.setIfInBounds j true)) [o'] l own F) : SD P E ops Q S n (f + 1) listed l own F := by
  refine ⟨fun a w ha hw inv hSw => ?_⟩
  simp only [Bool.and_eq_true, decide_eq_true_eq] at hB
  refine ⟨by rw [hB.1.1]; simp, fun k hk => ?_⟩
  have hin := inv.set (i := k) hk
  rw [hB.1.1] at hk
  rcases List.mem_cons.1 hk with rfl | hk
  · exact ⟨hB.1.2, one_wp hi (h1 (hin hB.1.2)) ha hw⟩
  · obtain rfl : k = j := by simpa using hk
    exact ⟨hB.2, one_wp hj (h2 (hin hB.2)) ha hw⟩
/-- Three that may come up now. -/
theorem SD.three (i j m : Nat) {o o' o'' : Oper} (hi : ops[i]? = some o) (hj : ops[j]? = some o') (hm : ops[m]? = some o'') (hB : (decide (Region.ready .any ops listed = [i, j, m]) && decide (i < n) && decide (j < n) && decide (m < n)) = true)
    (h1 : HeadInv .any ops n (listed.setIfInBounds i true) → SL P E ops (oneQ P ops Q S n f (listed.setIfInBounds i true)) [o] l own F)
    (h2 : HeadInv .any ops n (listed.setIfInBounds j true) → SL P E ops (oneQ P ops Q S n f (listed.setIfInBounds j true)) [o'] l own F)
    (h3 : HeadInv .any ops n (listed.setIfInBounds m true) → SL P E ops (oneQ P ops Q S n f (listed.setIfInBounds m true)) [o''] l own F) : SD P E ops Q S n (f + 1) listed l own F := by
  refine ⟨fun a w ha hw inv hSw => ?_⟩
  simp only [Bool.and_eq_true, decide_eq_true_eq] at hB
  refine ⟨by rw [hB.1.1.1]; simp, fun k hk => ?_⟩
  have hin := inv.set (i := k) hk
  rw [hB.1.1.1] at hk
  rcases List.mem_cons.1 hk with rfl | hk
  · exact ⟨hB.1.1.2, one_wp hi (h1 (hin hB.1.1.2)) ha hw⟩
  · rcases List.mem_cons.1 hk with rfl | hk
    · exact ⟨hB.1.2, one_wp hj (h2 (hin hB.1.2)) ha hw⟩
    · obtain rfl : k = m := by simpa using hk
      exact ⟨hB.2, one_wp hm (h3 (hin hB.2)) ha hw⟩
/-- Several ways that meet again. -/
theorem SD.join1 {α : Type} {f' : Nat} {listed' : Array Bool} {L : α → Slots} {O : α → Own} {G : α → World → Prop} (h1 : (∀ x, SD P E ops Q S n f' listed' (L x) (O x) (G x)) → SD P E ops Q S n f listed l own F) (h2 : ∀ x, SD P E ops Q S n f' listed' (L x) (O x) (G x)) : SD P E ops Q S n f listed l own F := h1 h2
theorem SD.join2 {α β : Type} {f' : Nat} {listed' : Array Bool} {L : α → β → Slots} {O : α → β → Own} {G : α → β → World → Prop} (h1 : (∀ x y, SD P E ops Q S n f' listed' (L x y) (O x y) (G x y)) → SD P E ops Q S n f listed l own F) (h2 : ∀ x y, SD P E ops Q S n f' listed' (L x y) (O x y) (G x y)) : SD P E ops Q S n f listed l own F := h1 h2
theorem SD.join3 {α β γ : Type} {f' : Nat} {listed' : Array Bool} {L : α → β → γ → Slots} {O : α → β → γ → Own} {G : α → β → γ → World → Prop} (h1 : (∀ x y z, SD P E ops Q S n f' listed' (L x y z) (O x y z) (G x y z)) → SD P E ops Q S n f listed l own F) (h2 : ∀ x y z, SD P E ops Q S n f' listed' (L x y z) (O x y z) (G x y z)) : SD P E ops Q S n f listed l own F := h1 h2
theorem SD.join4 {α β γ δ : Type} {f' : Nat} {listed' : Array Bool} {L : α → β → γ → δ → Slots} {O : α → β → γ → δ → Own} {G : α → β → γ → δ → World → Prop} (h1 : (∀ x y z u, SD P E ops Q S n f' listed' (L x y z u) (O x y z u) (G x y z u)) → SD P E ops Q S n f listed l own F) (h2 : ∀ x y z u, SD P E ops Q S n f' listed' (L x y z u) (O x y z u) (G x y z u)) : SD P E ops Q S n f listed l own F := h1 h2
theorem SD.lst {listed' : Array Bool} (h : listed = listed') (K : SD P E ops Q S n f listed' l own F) : SD P E ops Q S n f listed l own F := h ▸ K
theorem SD.perm {own' : Own} (h : own.Perm own') (K : SD P E ops Q S n f listed l own' F) : SD P E ops Q S n f listed l own F := by
  refine ⟨fun a w ha hw inv hS => K.out a w ha ?_ inv hS⟩
  have hf : (Own.feet own).Perm (Own.feet own') := List.Perm.flatMap_right _ h
  exact ⟨hw.below, fun r hr => hw.ok r (h.mem_iff.2 hr), fun k hk => hw.new k (hf.mem_iff.2 hk), hf.nodup_iff.1 hw.nodup, fun w' hs he => hw.rob w' hs fun k hk hg => he k hk ⟨hg.1, fun hk' => hg.2 (hf.mem_iff.2 hk')⟩⟩
theorem SE.next (hS : ∀ w, SP E own F w → S w) (inv : HeadInv .any ops n listed) (K : SD P E ops Q S n f listed l own F) : SE E (oneQ P ops Q S n f listed) .normal l own F :=
  ⟨fun a w ha hw => ⟨rfl, hS w hw, K.out a w ha hw inv (hS w hw)⟩⟩
/-- The head is done: the tail. -/
theorem SD.tail (hB : Region.seqB .any ops (ops.size - n) n listed = true) {os : List Oper} (ho : ops.toList.drop n = os) (h : SL P E ops (calmQ Q) os l own F) : SD P E ops Q S n 0 listed l own F :=
  ⟨fun a w ha hw _ _ => ⟨hB, by rw [ho]; exact h.out a w ha hw⟩⟩
theorem SE.calm (h : SE E Q .normal l own F) : SE E (calmQ Q) .normal l own F := ⟨fun a w ha hw => ⟨rfl, h.out a w ha hw⟩⟩
theorem feet_sub {a b : Own} (hs : a.Sublist b) : (Own.feet a).Sublist (Own.feet b) := by
  unfold Own.feet
  induction hs with
  | slnil => exact List.Sublist.refl _
  | cons a _ ih => rw [List.flatMap_cons]; exact ih.trans (List.sublist_append_right _ _)
  | cons_cons a _ ih => rw [List.flatMap_cons, List.flatMap_cons]; exact (List.Sublist.refl _).append ih
/-- Of what is owned less may be told. -/
theorem SP.drop {own' : Own} {F' : World → Prop} {w : World} (h : SP E own F w) (hs : own'.Sublist own) (hf : ∀ w, F w → F' w) : SP E own' F' w := by
  have hfeet := feet_sub hs
  exact ⟨h.below, fun r hr => h.ok r (hs.subset hr), fun k hk => h.new k (hfeet.subset hk), h.nodup.sublist hfeet, fun w' h1 h2 => hf _ (h.rob w' h1 fun k hk hg => h2 k hk ⟨hg.1, fun hk' => hg.2 (hfeet.subset hk')⟩)⟩
end Go.Proofs.YtjdiohhniiooeaaDoor
