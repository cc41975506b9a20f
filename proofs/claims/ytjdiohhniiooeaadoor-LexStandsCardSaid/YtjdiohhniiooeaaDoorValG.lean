/- Structs compared; two variables made in one statement; slices of values that are only read. -/
import Derived.Test.YtjdiohhniiooeaaDoorMem2
namespace Go.Proofs.YtjdiohhniiooeaaDoor
open Go.RowKit
set_option linter.unusedVariables false

section
variable {P : Program} {E : Env} {ops : Array Oper} {Q : Exit → Act → World → Prop} {S : World → Prop} {rest : List Oper} {l : Slots} {own : Own} {F : World → Prop} {n f : Nat} {listed : Array Bool}
theorem PS.eqlA {d : Nat} {g b1 b2 : Bool} {ty T T' : TypeId} {pos : String} {after : Array Edge} {gu : Option (Nat × Bool)} {x y : Operand} {u v : Value} {t : Bool}
    (hx : opnd l x = some (b1, u)) (h1 : g = true → b1 = true) (hy : opnd l y = some (b2, v)) (h2 : g = true → b2 = true) (hr : ∀ x y w, (do eqGuard .eql T x y u v; binOp .eql T u v).run P w = .ok (.bool t) w)
    (hd : Nat.blt d E.n = true) (hg : gd ops l gu = some g) : PStep P E ops ⟨some d, .binOp .eql T x y T', ty, pos, after, gu⟩ l own F d g (.bool t) :=
  .mk rfl hd hg fun ac w hac hw hgt => by
    simp only [execOp, hac.eval hx (h1 hgt), hac.eval hy (h2 hgt)]
    exact run_next (hr x y w)
/-- A call whose contract tells the value. -/
theorem SL.callP {fn : FuncId} {xs : List Operand} {vs : List Value} {r : Value} {ats : Array TypeId} {d : Nat} {g : Bool} {ty : TypeId} {pos : String} {after : Array Edge} {gu : Option (Nat × Bool)} {Pre : World → Prop}
    (hf : ∀ args w, (callFunc fn args).run P w = .ok (.enter fn args) w) (hx : Args l g xs vs) (hs : g = true → Spec P fn vs Pre (fun v _ => v = r)) (hpre : ∀ w, F w → g = true → Pre w)
    (hd : Nat.blt d E.n = true) (hg : gd ops l gu = some g) (K : SL P E ops Q rest ((d, g, r) :: l) own F) :
    SL P E ops Q (⟨some d, .call ⟨.value (.func fn), xs.toArray, ats⟩, ty, pos, after, gu⟩ :: rest) l own F := by
  refine ⟨fun a w ha hw => ?_⟩
  have hwant := wanted_gd (o := ⟨some d, .call ⟨.value (.func fn), xs.toArray, ats⟩, ty, pos, after, gu⟩) ha hg
  unfold wpList
  cases g with
  | true =>
    rw [if_pos hwant]
    refine .inl ?_
    unfold Oper.wp
    rw [run_call hf rfl (hx.map ha rfl), Oper.upon_enter]
    refine (hs rfl (E.good own) w (fun w' h1 h2 => hpre w' (hw.rob w' h1 h2) rfl)).mono ?_
    rintro e w' ⟨v, rfl, hb, hr⟩
    have hv : v = r := hr w' (Nat.le_refl _) fun _ _ _ => rfl
    subst hv
    exact K.out _ _ (ha.put hd true v) ((hw.call (φ := fun _ => True) hb (fun _ _ _ => trivial)).weaken fun w h => h.1)
  | false =>
    rw [if_neg (by rw [hwant]; simp)]
    exact K.out _ _ (ha.put hd false r) hw
/-- Two variables are made, in whichever order. -/
theorem Has.swap {m : Nat} {a : Act} {i j : Nat} {p q : Bool × Value} (hne : Nat.beq i j = false) (h : Has m ((i, p) :: (j, q) :: l) a) : Has m ((j, q) :: (i, p) :: l) a := by
  have hne' : i ≠ j := Nat.ne_of_beq_eq_false hne
  refine ⟨h.size, h.defers, fun k b v hl => h.at_ k b v ?_⟩
  simp only [look] at hl ⊢
  cases h1 : Nat.beq i k <;> cases h2 : Nat.beq j k <;> simp only [h1, h2, cond_true, cond_false] at hl ⊢ <;> try exact hl
  exact absurd ((Nat.eq_of_beq_eq_true h1).trans (Nat.eq_of_beq_eq_true h2).symm) hne'
theorem SP.swap {r s : Res} {w : World} (h : SP E (r :: s :: own) F w) : SP E (s :: r :: own) F w := by
  have hp : (Own.feet (r :: s :: own)).Perm (Own.feet (s :: r :: own)) := List.Perm.flatMap_right _ (List.Perm.swap ..)
  exact ⟨h.below, fun x hx => h.ok x ((List.Perm.swap r s own).mem_iff.1 hx), fun k hk => h.new k (hp.mem_iff.2 hk), hp.nodup_iff.1 h.nodup, fun w' h1 h2 => h.rob w' h1 fun k hk hg => h2 k hk ⟨hg.1, fun q => hg.2 (hp.mem_iff.2 q)⟩⟩
theorem run_alloc {T : TypeId} {z : Value} {cs : List Value} {ρ : Operand → Value} {d : Nat} {ty : TypeId} {pos : String} {after : Array Edge} {w : World} (hz : ∀ w, (zeroValue T).run P w = .ok z w) (hc : z.cells.toList = cs) :
    (execOp ρ ⟨some d, .alloc T, ty, pos, after, none⟩).run P w = .ok (.value (.pointer (some ⟨w.heap.size, 0, none⟩))) (w.alloc (.cells cs.toArray T)) := by
  subst hc
  simp only [execOp]
  refine run_next ?_
  simp only [Instr.alloc, Sem.run_bind, hz, Result.andThen, newVar, newRow, run_newObj_alloc]
  rfl
theorem SD.alloc2 (i j : Nat) {d e : Nat} {T T' ty ty' : TypeId} {pos pos' : String} {after after' : Array Edge} {z z' : Value} {cs cs' : List Value} (hi : ops[i]? = some ⟨some d, .alloc T, ty, pos, after, none⟩) (hj : ops[j]? = some ⟨some e, .alloc T', ty', pos', after', none⟩)
    (hz : ∀ w, (zeroValue T).run P w = .ok z w) (hc : z.cells.toList = cs) (hz' : ∀ w, (zeroValue T').run P w = .ok z' w) (hc' : z'.cells.toList = cs')
    (hB : (decide (Region.ready .any ops listed = [i, j]) && decide (Region.ready .any ops (listed.setIfInBounds i true) = [j]) && decide (Region.ready .any ops (listed.setIfInBounds j true) = [i]) && decide (i < n) && decide (j < n)) = true)
    (hd : Nat.blt d E.n = true) (he : Nat.blt e E.n = true) (hde : Nat.beq d e = false) (hij : Nat.beq i j = false) (hS : ∀ own' w, own.Sublist own' → SP E own' F w → S w)
    (K : ∀ b c, SD P E ops Q S n f ((listed.setIfInBounds i true).setIfInBounds j true) ((e, true, .pointer (some ⟨c, 0, none⟩)) :: (d, true, .pointer (some ⟨b, 0, none⟩)) :: l) (.blk c cs' :: .blk b cs :: own) F) :
    SD P E ops Q S n (f + 2) listed l own F := by
  refine ⟨fun a w ha hw inv hSw => ?_⟩
  simp only [Bool.and_eq_true, decide_eq_true_eq] at hB
  obtain ⟨⟨⟨⟨hr, hr1⟩, hr2⟩, hin⟩, hjn⟩ := hB
  have hij' : i ≠ j := Nat.ne_of_beq_eq_false hij
  have inv1 := inv.set (i := i) (by rw [hr]; simp) hin
  have inv2 := inv.set (i := j) (by rw [hr]; simp) hjn
  have inv12 := inv1.set (i := j) (by rw [hr1]; simp) hjn
  have hsize : (w.alloc (.cells cs.toArray T)).heap.size = w.heap.size + 1 := by show (w.heap.push _).size = _; simp
  have hw1 := hw.alloc T cs
  have hw2 := hw.alloc T' cs'
  have s1 : own.Sublist (.blk w.heap.size cs :: own) := List.Sublist.cons _ (List.Sublist.refl _)
  have s2 : own.Sublist (.blk w.heap.size cs' :: own) := List.Sublist.cons _ (List.Sublist.refl _)
  have step : ∀ {o : Oper} {k : Nat} {v : Value} {a : Act} {w w' : World} {KK : Act → World → Prop}, ops[k]? = some o → o.guard = none → (execOp a.eval o).run P w = .ok (.value v) w' → KK (a.put o.dst v) w' → wpOp P ops (calmQ Q) k KK a w := by
    intro o k v a w w' KK ho hg hrun hk
    unfold wpOp
    simp only [ho, Region.wanted, hg, if_true]
    refine .inl ?_
    unfold Oper.wp
    rw [hrun, Oper.upon_value]; exact hk
  refine ⟨by rw [hr]; simp, fun k hk => ?_⟩
  rw [hr] at hk
  rcases List.mem_cons.1 hk with rfl | hk
  · refine ⟨hin, step hi rfl (run_alloc hz hc) ⟨hS _ _ s1 hw1, by rw [hr1]; simp, fun k' hk' => ?_⟩⟩
    rw [hr1] at hk'
    obtain rfl : k' = j := by simpa using hk'
    have hw12 := hw1.alloc T' cs'
    have hS2 := hS _ _ (List.Sublist.cons _ s1) hw12
    exact ⟨hjn, step hj rfl (run_alloc hz' hc') ⟨hS2, (K _ _).out _ _ ((ha.put hd true _).put he true _) hw12 inv12 hS2⟩⟩
  · obtain rfl : k = j := by simpa using hk
    refine ⟨hjn, step hj rfl (run_alloc hz' hc') ⟨hS _ _ s2 hw2, by rw [hr2]; simp, fun k' hk' => ?_⟩⟩
    rw [hr2] at hk'
    obtain rfl : k' = i := by simpa using hk'
    have hw12 := hw2.alloc T cs
    have hS2 := hS _ _ (List.Sublist.cons _ s2) hw12
    refine ⟨hin, step hi rfl (run_alloc hz hc) ⟨hS2, ?_⟩⟩
    rw [Array.setIfInBounds_comm _ _ (Ne.symm hij')]
    exact (K _ _).out _ _ (((ha.put he true _).put hd true _).swap hde) hw12.swap inv12 hS2

/-! ## Slices that are only read -/
/-- A slice at A reads as the list xs, each element by its cells. -/
def Sl {α : Type} (sz : Nat) (cells : α → List Value) (A : Option Addr) (xs : List α) (w : World) : Prop :=
  ∀ i x, xs[i]? = some x → ∃ ad, A = some ad ∧ ∀ j u, (cells x)[j]? = some u → w.cell? (ad.add (i * sz + j)) = some u
theorem add_add (a : Addr) (i j : Nat) : (a.add i).add j = a.add (i + j) := by
  unfold Addr.add
  by_cases hi : i = 0 <;> by_cases hj : j = 0 <;> simp [hi, hj, Nat.add_assoc]
theorem Sl.cell {α : Type} {sz : Nat} {cells : α → List Value} {ad : Addr} {xs : List α} {w : World} (h : Sl sz cells (some ad) xs w) {i : Nat} {m : Int} {x : α} (hx : xs[i]? = some x) (hm : m.toNat = i) :
    ∀ j u, (cells x)[j]? = some u → w.cell? ((ad.add (m.toNat * sz)).add j) = some u := fun j u hu => by
  obtain ⟨ad', hA, hc⟩ := h i x hx
  cases hA
  rw [add_add, hm]; exact hc j u hu
theorem Sl.at_ {α : Type} {sz : Nat} {cells : α → List Value} {ad : Addr} {xs : List α} {w : World} (h : Sl sz cells (some ad) xs w) {i : Nat} {m : Int} {x : α} (hx : xs[i]? = some x) (hm : m.toNat = i) {j : Nat} {u : Value} (hu : nth (cells x) j = some u) :
    w.cell? ((ad.add (m.toNat * sz)).add j) = some u := h.cell hx hm j u (by rw [← nth_eq]; exact hu)
/-- A block that reads as a list of structs. -/
theorem Sl.of_blk {α : Type} {sz b : Nat} {cells : α → List Value} {xs : List α} {cs : List Value} {w : World} (hsz : ∀ x, (cells x).length = sz) (hc : xs.flatMap cells = cs) (h : (Res.blk b cs).ok w) : Sl sz cells (some ⟨b, 0, none⟩) xs w := by
  obtain ⟨t, ht⟩ := h
  intro i x hx
  refine ⟨_, rfl, fun j u hu => ?_⟩
  rw [add_none, cell_blk ht, Nat.zero_add, ← hc]
  have key : ∀ (xs : List α) (i : Nat), xs[i]? = some x → (xs.flatMap cells)[i * sz + j]? = some u := by
    intro xs
    induction xs with
    | nil => intro i h; simp at h
    | cons y xs ih =>
      intro i h
      rw [List.flatMap_cons]
      have hj : j < sz := by have := (List.getElem?_eq_some_iff.1 hu).1; rw [hsz] at this; exact this
      cases i with
      | zero =>
        simp only [List.getElem?_cons_zero, Option.some.injEq] at h
        subst h
        rw [Nat.zero_mul, Nat.zero_add, List.getElem?_append_left (by rw [hsz]; exact hj)]; exact hu
      | succ i =>
        rw [List.getElem?_cons_succ] at h
        rw [List.getElem?_append_right (by rw [hsz, Nat.add_mul]; omega), hsz, show (i + 1) * sz + j - sz = i * sz + j by rw [Nat.add_mul]; omega]
        exact ih i h
  exact key xs i hx
end
end Go.Proofs.YtjdiohhniiooeaaDoor
