/- Blocks of which a part is told of. -/
import Derived.Test.YtjdiohhniiooeaaDoorStr
namespace Go.Proofs.YtjdiohhniiooeaaDoor
open Go.RowKit
set_option linter.unusedVariables false
/-- A block of which some cells are told of. -/
def Mtch : List Value → List (Option Value) → Prop
  | [], [] => True
  | v :: vs, c :: cs => (match c with | none => True | some u => v = u) ∧ Mtch vs cs
  | _, _ => False
theorem Mtch.get : ∀ {vs : List Value} {cs : List (Option Value)} (_ : Mtch vs cs) {i : Nat} {v : Value} (_ : nth cs i = some (some v)), vs[i]? = some v
  | [], [], _, i, v, h => by cases i <;> cases h
  | v0 :: vs, c :: cs, hm, 0, v, h => by
    have e : c = some v := by simpa [nth] using h
    subst e
    have := hm.1
    simpa using this
  | v0 :: vs, c :: cs, hm, i + 1, v, h => by
    have := Mtch.get hm.2 (i := i) (v := v) (by simpa [nth] using h)
    simpa using this
  | [], _ :: _, hm, _, _, _ => hm.elim
  | _ :: _, [], hm, _, _, _ => hm.elim
def Prt (b : Nat) (cs : List (Option Value)) : Res :=
  .gen [b] (fun w => ∃ vs t, w.heap[b]? = some (.cells (vs : List Value).toArray t (0, 0)) ∧ Mtch vs cs) fun w w' h ⟨vs, t, h1, h2⟩ => ⟨vs, t, (h b (by simp)).trans h1, h2⟩
inductive Weak : Own → Own → Prop
  | nil : Weak [] []
  | drop (r : Res) {a b : Own} : Weak a b → Weak (r :: a) b
  | same (r : Res) {a b : Own} : Weak a b → Weak (r :: a) (r :: b)
  | prt (b : Nat) {vs : List Value} {cs : List (Option Value)} {a a' : Own} : Mtch vs cs → Weak a a' → Weak (.blk b vs :: a) (Prt b cs :: a')
theorem Weak.feet {a b : Own} (h : Weak a b) : (Own.feet b).Sublist (Own.feet a) := by
  unfold Own.feet
  induction h with
  | nil => exact List.Sublist.refl _
  | drop r _ ih => rw [List.flatMap_cons]; exact ih.trans (List.sublist_append_right _ _)
  | same r _ ih => rw [List.flatMap_cons, List.flatMap_cons]; exact (List.Sublist.refl _).append ih
  | prt b _ _ ih => rw [List.flatMap_cons, List.flatMap_cons]; exact (List.Sublist.refl _).append ih
theorem Weak.ok {w : World} {a b : Own} (h : Weak a b) (ha : ∀ r ∈ a, r.ok w) : ∀ r ∈ b, r.ok w := by
  induction h with
  | nil => exact ha
  | drop r _ ih => exact ih fun r hr => ha r (List.mem_cons_of_mem _ hr)
  | same r _ ih =>
    intro r' hr
    rcases List.mem_cons.1 hr with rfl | hr
    · exact ha _ (List.mem_cons_self ..)
    · exact ih (fun r hr => ha r (List.mem_cons_of_mem _ hr)) _ hr
  | prt b hm _ ih =>
    intro r' hr
    rcases List.mem_cons.1 hr with rfl | hr
    · obtain ⟨t, ht⟩ := ha _ (List.mem_cons_self ..)
      exact ⟨_, t, ht, hm⟩
    · exact ih (fun r hr => ha r (List.mem_cons_of_mem _ hr)) _ hr
theorem SE.fall {P : Program} {E : Env} {fn : Func} {R : Ending → World → Prop} {l : Slots} {own : Own} {F : World → Prop} (h : SE E (bodyPost P fn R) .ret l own F) : SE E (bodyPost P fn R) .normal l own F := ⟨h.out⟩
section
variable {P : Program} {E : Env} {ops : Array Oper} {l : Slots} {own own' : Own} {F F' : World → Prop} {w : World}
theorem SP.weak (h : SP E own F w) (hs : Weak own own') (hf : ∀ w, F w → F' w) : SP E own' F' w := by
  have hfeet := hs.feet
  exact ⟨h.below, hs.ok h.ok, fun k hk => h.new k (hfeet.subset hk), h.nodup.sublist hfeet, fun w' h1 h2 => hf _ (h.rob w' h1 fun k hk hg => h2 k hk ⟨hg.1, fun hk' => hg.2 (hfeet.subset hk')⟩)⟩
theorem PS.load_prt {d b k off : Nat} {g b1 : Bool} {a : Addr} {ty T : TypeId} {pos : String} {after : Array Edge} {gu : Option (Nat × Bool)} {x : Operand} {v : Value} {cs : List (Option Value)} (hx : opnd l x = some (b1, .pointer (some a))) (h1 : g = true → b1 = true) (ha : a = ⟨b, off, none⟩) (hk : nth own k = some (Prt b cs)) (hc : nth cs off = some (some v)) (hT : ∀ w, (isAgg T).run P w = .ok false w)
    (hd : Nat.blt d E.n = true) (hg : gd ops l gu = some g) : PStep P E ops ⟨some d, .load T x, ty, pos, after, gu⟩ l own F d g v :=
  .mk rfl hd hg fun ac w hac hw hgt => by
    rw [nth_eq] at hk
    obtain ⟨vs, t, ht, hm⟩ := hw.ok _ (List.mem_of_getElem? hk)
    simp only [execOp, hac.eval hx (h1 hgt)]
    exact run_next (run_load1 hT (by rw [ha, cell_blk ht, hm.get hc]))
end
end Go.Proofs.YtjdiohhniiooeaaDoor
