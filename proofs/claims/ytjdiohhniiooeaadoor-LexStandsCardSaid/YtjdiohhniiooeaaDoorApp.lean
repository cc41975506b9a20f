/- The engine: slices of the call's own that grow. -/
import Derived.Test.YtjdiohhniiooeaaDoorMem3
import Derived.Deep.AppendSrc
namespace Go.Proofs.YtjdiohhniiooeaaDoor
open Go.RowKit
set_option linter.unusedVariables false
variable {P : Program} {E : Env} {ops : Array Oper} {Q : Exit → Act → World → Prop} {rest : List Oper} {l : Slots} {own : Own} {F : World → Prop}
theorem SP.drew {w : World} (h : SP E own F w) : SP E own F w.drew :=
  ⟨⟨h.below.os, h.below.tape, h.below.output, h.below.size, h.below.block⟩, fun r hr => Res.ok_congr (w := w) (w' := w.drew) (fun _ _ => rfl) (h.ok r hr), h.new, h.nodup, fun w' h1 h2 => h.rob w' h1 h2⟩
theorem SP.perm {own' : Own} {w : World} (h : own.Perm own') (hw : SP E own F w) : SP E own' F w := by
  have hf : (Own.feet own).Perm (Own.feet own') := List.Perm.flatMap_right _ h
  exact ⟨hw.below, fun r hr => hw.ok r (h.mem_iff.2 hr), fun k hk => hw.new k (hf.mem_iff.2 hk), hf.nodup_iff.1 hw.nodup, fun w' hs he => hw.rob w' hs fun k hk hg => he k hk ⟨hg.1, fun hk' => hg.2 (hf.mem_iff.2 hk')⟩⟩
theorem SL.perm {own' : Own} (h : own.Perm own') (K : SL P E ops Q rest l own' F) : SL P E ops Q rest l own F := ⟨fun a w ha hw => K.out a w ha (hw.perm h)⟩
theorem SE.perm {e : Exit} {own' : Own} (h : own.Perm own') (K : SE E Q e l own' F) : SE E Q e l own F := ⟨fun a w ha hw => K.out a w ha (hw.perm h)⟩
/-! ## One of what is owned, turned -/
theorem feet_cons (r : Res) (own : Own) : Own.feet (r :: own) = r.foot ++ own.feet := by unfold Own.feet; rw [List.flatMap_cons]
theorem setAt_feet {r r' : Res} : ∀ {own : Own} {k : Nat}, nth own k = some r → (Own.feet own).Nodup → r'.foot.Nodup → (∀ j ∈ r'.foot, j ∈ r.foot ∨ j ∉ Own.feet own) →
    (Own.feet (setAt own k r')).Nodup ∧ (∀ j ∈ Own.feet (setAt own k r'), j ∈ r'.foot ∨ (j ∈ Own.feet own ∧ j ∉ r.foot)) ∧ (∀ s ∈ setAt own k r', s = r' ∨ (s ∈ own ∧ ∀ j ∈ s.foot, j ∉ r.foot))
  | x :: own, 0, hk, hnd, hn, hj => by
    simp only [nth, Option.some.injEq] at hk
    subst hk
    rw [feet_cons] at hnd hj
    have h := List.nodup_append.1 hnd
    have hd : ∀ j ∈ Own.feet own, j ∉ x.foot := fun j h1 h2 => h.2.2 j h2 j h1 rfl
    simp only [setAt]
    rw [feet_cons]
    refine ⟨List.nodup_append.2 ⟨hn, h.2.1, fun a ha b hb hab => ?_⟩, fun j hj' => ?_, fun s hs => ?_⟩
    · subst hab
      rcases hj a ha with q | q
      · exact hd a hb q
      · exact q (List.mem_append_right _ hb)
    · rcases List.mem_append.1 hj' with q | q
      · exact .inl q
      · exact .inr ⟨by rw [feet_cons]; exact List.mem_append_right _ q, hd j q⟩
    · rcases List.mem_cons.1 hs with q | q
      · exact .inl q
      · exact .inr ⟨List.mem_cons_of_mem _ q, fun j hj'' => hd j (List.mem_flatMap.2 ⟨s, q, hj''⟩)⟩
  | x :: own, k + 1, hk, hnd, hn, hj => by
    rw [feet_cons] at hnd
    have h := List.nodup_append.1 hnd
    have hrf : ∀ j ∈ r.foot, j ∈ Own.feet own := fun j hjr => List.mem_flatMap.2 ⟨r, mem_nth (l := own) (k := k) hk, hjr⟩
    have hx : ∀ j ∈ x.foot, j ∉ Own.feet own := fun j h1 h2 => h.2.2 j h1 j h2 rfl
    have hj' : ∀ j ∈ r'.foot, j ∈ r.foot ∨ j ∉ Own.feet own := fun j hq => (hj j hq).imp id fun q q' => q (by rw [feet_cons]; exact List.mem_append_right _ q')
    obtain ⟨h1, h2, h3⟩ := setAt_feet (own := own) (k := k) hk h.2.1 hn hj'
    simp only [setAt]
    rw [feet_cons]
    refine ⟨List.nodup_append.2 ⟨h.1, h1, fun a ha b hb hab => ?_⟩, fun j hq => ?_, fun s hs => ?_⟩
    · subst hab
      rcases h2 a hb with q | q
      · rcases hj a q with z | z
        · exact hx a ha (hrf a z)
        · exact z (by rw [feet_cons]; exact List.mem_append_left _ ha)
      · exact hx a ha q.1
    · rcases List.mem_append.1 hq with q | q
      · exact .inr ⟨by rw [feet_cons]; exact List.mem_append_left _ q, fun z => hx j q (hrf j z)⟩
      · rcases h2 j q with z | z
        · exact .inl z
        · exact .inr ⟨by rw [feet_cons]; exact List.mem_append_right _ z.1, z.2⟩
    · rcases List.mem_cons.1 hs with q | q
      · subst q; exact .inr ⟨List.mem_cons_self, fun j hjx z => hx j hjx (hrf j z)⟩
      · rcases h3 s q with z | z
        · exact .inl z
        · exact .inr ⟨List.mem_cons_of_mem _ z.1, z.2⟩
theorem SP.turn {r r' : Res} {k : Nat} {w w' : World} (h : SP E own F w) (hk : nth own k = some r) (hos : w'.os = w.os) (htape : w'.tape = w.tape) (hout : w'.output = w.output) (hsize : w.heap.size ≤ w'.heap.size)
    (hne : ∀ i, i < w.heap.size → i ∉ r.foot → w'.heap[i]? = w.heap[i]?) (hok : r'.ok w') (hn : r'.foot.Nodup) (hf : ∀ j ∈ r'.foot, (j ∈ r.foot ∨ w.heap.size ≤ j) ∧ j < w'.heap.size) : SP E (setAt own k r') F w' := by
  have hrf : ∀ j ∈ r.foot, j ∈ own.feet := fun j hjr => List.mem_flatMap.2 ⟨r, mem_nth hk, hjr⟩
  obtain ⟨h1, h2, h3⟩ := setAt_feet (r' := r') hk h.nodup hn fun j hj => (hf j hj).1.imp id fun q q' => by have := (h.new j q').2; omega
  refine ⟨⟨hos.trans h.below.os, htape.trans h.below.tape, hout.trans h.below.output, Nat.le_trans h.below.size hsize, fun i hi hx => ?_⟩, fun s hs => ?_, fun j hj => ?_, h1, fun w'' hs he => h.rob w'' (Nat.le_trans hsize hs) fun i hi hg => ?_⟩
  · refine (hne i (Nat.lt_of_lt_of_le hi h.below.size) fun q => ?_).trans (h.below.block i hi hx)
    rcases (h.new i (hrf i q)).1 with z | z
    · omega
    · exact hx z
  · rcases h3 s hs with rfl | ⟨q, q'⟩
    · exact hok
    · exact Res.ok_congr (fun j hj => hne j (h.new j (List.mem_flatMap.2 ⟨s, q, hj⟩)).2 (q' j hj)) (h.ok s q)
  · rcases h2 j hj with q | q
    · refine ⟨?_, (hf j q).2⟩
      rcases (hf j q).1 with z | z
      · exact (h.new j (hrf j z)).1
      · exact .inl (Nat.le_trans h.below.size z)
    · exact ⟨(h.new j q.1).1, Nat.lt_of_lt_of_le (h.new j q.1).2 hsize⟩
  · have hir : i ∉ r.foot := fun q => hg.2 (hrf i q)
    refine (he i (Nat.lt_of_lt_of_le hi hsize) ⟨hg.1, fun q => ?_⟩).trans (hne i hi hir)
    rcases h2 i q with z | z
    · rcases (hf i z).1 with y | y
      · exact hir y
      · omega
    · exact hg.2 z.1
/-- One of what is owned reads otherwise. -/
theorem SP.see {r r' : Res} {k : Nat} {w : World} (h : SP E own F w) (hk : nth own k = some r) (hok : r'.ok w) (hf : r'.foot.Sublist r.foot) : SP E (setAt own k r') F w := by
  have hm := mem_nth hk
  have hrn : r.foot.Nodup := by
    obtain ⟨own1, own2, rfl⟩ := List.append_of_mem hm
    have := h.nodup
    rw [feet_append, feet_cons] at this
    exact (List.nodup_append.1 (List.nodup_append.1 this).2.1).1
  exact h.turn hk rfl rfl rfl (Nat.le_refl _) (fun _ _ _ => rfl) hok (hrn.sublist hf) fun j hj => ⟨.inl (hf.subset hj), (h.new j (List.mem_flatMap.2 ⟨r, hm, hf.subset hj⟩)).2⟩
theorem SL.see {r r' : Res} {k : Nat} {own' : Own} (hk : nth own k = some r) (hok : ∀ w, r.ok w → r'.ok w) (hf : r'.foot.Sublist r.foot) (ho : setAt own k r' = own') (K : SL P E ops Q rest l own' F) : SL P E ops Q rest l own F :=
  ⟨fun a w ha hw => K.out a w ha (ho ▸ hw.see hk (hok w (hw.ok r (mem_nth hk))) hf)⟩
theorem SC.see {c : Code} {r r' : Res} {k : Nat} {own' : Own} (hk : nth own k = some r) (hok : ∀ w, r.ok w → r'.ok w) (hf : r'.foot.Sublist r.foot) (ho : setAt own k r' = own') (K : SC P E Q c l own' F) : SC P E Q c l own F :=
  ⟨fun a w ha hw => K.out a w ha (ho ▸ hw.see hk (hok w (hw.ok r (mem_nth hk))) hf)⟩
theorem SE.see {e : Exit} {r r' : Res} {k : Nat} {own' : Own} (hk : nth own k = some r) (hok : ∀ w, r.ok w → r'.ok w) (hf : r'.foot.Sublist r.foot) (ho : setAt own k r' = own') (K : SE E Q e l own' F) : SE E Q e l own F :=
  ⟨fun a w ha hw => K.out a w ha (ho ▸ hw.see hk (hok w (hw.ok r (mem_nth hk))) hf)⟩
/-- A fact of what is owned. -/
theorem SL.knowR {r : Res} {k : Nat} {p : Prop} (hk : nth own k = some r) (h : ∀ w, r.ok w → p) (K : p → SL P E ops Q rest l own F) : SL P E ops Q rest l own F := ⟨fun a w ha hw => (K (h w (hw.ok r (mem_nth hk)))).out a w ha hw⟩
theorem SC.knowR {c : Code} {r : Res} {k : Nat} {p : Prop} (hk : nth own k = some r) (h : ∀ w, r.ok w → p) (K : p → SC P E Q c l own F) : SC P E Q c l own F := ⟨fun a w ha hw => (K (h w (hw.ok r (mem_nth hk)))).out a w ha hw⟩
theorem SE.knowR {e : Exit} {r : Res} {k : Nat} {p : Prop} (hk : nth own k = some r) (h : ∀ w, r.ok w → p) (K : p → SE E Q e l own F) : SE E Q e l own F := ⟨fun a w ha hw => (K (h w (hw.ok r (mem_nth hk)))).out a w ha hw⟩

/-! ## A slice of the call's own, nil or not, with room behind what it holds -/
/-- The row at block o (none: nil) holds xs, with room for cap. -/
def Res.row {α : Type} (sz : Nat) (cells : α → List Value) (o : Option Nat) (xs : List α) (cap : Nat) : Res :=
  .gen o.toList (fun w => xs.length ≤ cap ∧ match o with
    | none => xs = [] ∧ cap = 0
    | some b => ∃ t junk, junk.length = (cap - xs.length) * sz ∧ w.heap[b]? = some (.cells (xs.flatMap cells ++ junk).toArray t (0, 0)))
    (fun w w' h ho => by
      refine ⟨ho.1, ?_⟩
      cases o with
      | none => exact ho.2
      | some b =>
        obtain ⟨t, junk, hj, hb⟩ := ho.2
        exact ⟨t, junk, hj, (h b (by simp)).trans hb⟩)
def rowA (o : Option Nat) : Option Addr := o.map (⟨·, 0, none⟩)
section
variable {α : Type} {sz cap : Nat} {cells : α → List Value} {o : Option Nat} {xs : List α}
theorem row_some (hne : xs ≠ []) {w : World} (h : (Res.row sz cells o xs cap).ok w) : ∃ b, o = some b := by
  cases o with
  | none => exact absurd h.2.1 hne
  | some b => exact ⟨b, rfl⟩
theorem row_nil {w : World} : (Res.row sz cells none ([] : List α) 0).ok w := ⟨Nat.le_refl _, rfl, rfl⟩
theorem row_blk {b : Nat} {w : World} (h : (Res.blk b (xs.flatMap cells)).ok w) : (Res.row sz cells (some b) xs xs.length).ok w := by
  obtain ⟨t, ht⟩ := h
  exact ⟨Nat.le_refl _, t, [], by simp, by simpa using ht⟩
/-- A row reads as a list. -/
theorem row_Sl (hsz : ∀ x, (cells x).length = sz) {w : World} (h : (Res.row sz cells o xs cap).ok w) : Sl sz cells (rowA o) xs w := by
  cases o with
  | none =>
    obtain ⟨_, rfl, _⟩ := h
    exact fun i x hx => by simp at hx
  | some b =>
    obtain ⟨_, t, junk, hj, hb⟩ := h
    refine fun i x hx => ⟨⟨b, 0, none⟩, rfl, fun j u hu => ?_⟩
    rw [add_none, cell_blk hb]
    have hlt : i * sz + j < (xs.flatMap cells).length := by
      have := nth_flat hsz (x := x) (j := j) (u := u) (by rw [nth_eq]; exact hu) hx
      rw [nth_eq] at this
      exact (List.getElem?_eq_some_iff.1 this).1
    rw [List.getElem?_append_left (by omega), Nat.zero_add, ← nth_eq]
    exact nth_flat hsz (by rw [nth_eq]; exact hu) hx
variable {d k i j off n : Nat} {g b1 b2 : Bool} {ty T : TypeId} {pos : String} {after : Array Edge} {gu : Option (Nat × Bool)} {x y : Operand} {v : Value} {vs : List Value} {a : Addr} {b : Nat} {e e' : α}
theorem row_cell (hsz : ∀ x, (cells x).length = sz) {w : World} (h : (Res.row sz cells (some b) xs cap).ok w) (hi : xs[i]? = some e) (hu : nth (cells e) j = some v) : w.cell? ⟨b, i * sz + j, none⟩ = some v := by
  obtain ⟨ad, had, hc⟩ := row_Sl hsz h i e hi
  cases had
  have := hc j v (by rw [← nth_eq]; exact hu)
  rwa [add_none, Nat.zero_add] at this
theorem PS.load_row (hx : opnd l x = some (b1, .pointer (some a))) (h1 : g = true → b1 = true) (ha : a = ⟨b, off, none⟩) (hk : nth own k = some (Res.row sz cells (some b) xs cap)) (hsz : ∀ x, (cells x).length = sz) (hi : xs[i]? = some e) (hu : nth (cells e) j = some v) (hq : off = i * sz + j)
    (hT : ∀ w, (isAgg T).run P w = .ok false w) (hd : Nat.blt d E.n = true) (hg : gd ops l gu = some g) : PStep P E ops ⟨some d, .load T x, ty, pos, after, gu⟩ l own F d g v := by
  refine .mk rfl hd hg fun ac w hac hw hgt => ?_
  have hok := hw.ok _ (mem_nth hk)
  simp only [execOp, hac.eval hx (h1 hgt)]
  refine run_next (run_load1 hT ?_)
  subst ha hq
  exact row_cell hsz hok hi hu
theorem PS.load_row_agg (hx : opnd l x = some (b1, .pointer (some a))) (h1 : g = true → b1 = true) (ha : a = ⟨b, off, none⟩) (hk : nth own k = some (Res.row sz cells (some b) xs cap)) (hsz : ∀ x, (cells x).length = sz) (hi : xs[i]? = some e) (hvs : cells e = vs) (hq : off = i * sz)
    (hT : ∀ w, (isAgg T).run P w = .ok true w) (hs : ∀ w, (sizeOf T).run P w = .ok sz w) (hd : Nat.blt d E.n = true) (hg : gd ops l gu = some g) : PStep P E ops ⟨some d, .load T x, ty, pos, after, gu⟩ l own F d g (.agg vs.toArray) := by
  refine .mk rfl hd hg fun ac w hac hw hgt => ?_
  have hok := hw.ok _ (mem_nth hk)
  simp only [execOp, hac.eval hx (h1 hgt)]
  subst ha hq hvs
  refine run_next (run_loadN hT (by rw [hsz]; exact hs) fun j v hv => ?_)
  rw [add_none]
  exact row_cell hsz hok hi (by rw [nth_eq]; exact hv)
theorem splice_append_left {β : Type} : ∀ (us zs : List β) (n : Nat) (vs : List β), n + vs.length ≤ us.length → splice (us ++ zs) n vs = splice us n vs ++ zs
  | us, zs, n, [], _ => by rw [splice_nil, splice_nil]
  | us, zs, n, v :: vs, h => by
    simp only [List.length_cons] at h
    rw [splice_cons, splice_cons, List.set_append_left _ _ (by omega), splice_append_left _ _ _ _ (by rw [List.length_set]; omega)]
theorem splice_flat_at (hsz : ∀ x, (cells x).length = sz) (vs : List Value) (he : cells e' = splice (cells e) j vs) (hj : j + vs.length ≤ sz) : ∀ (xs : List α) (i : Nat), xs[i]? = some e → splice (xs.flatMap cells) (i * sz + j) vs = (xs.set i e').flatMap cells
  | [], i, h => by simp at h
  | x :: xs, 0, h => by
    simp only [List.getElem?_cons_zero, Option.some.injEq] at h
    subst h
    rw [Nat.zero_mul, Nat.zero_add, List.flatMap_cons, List.set_cons_zero, List.flatMap_cons, splice_append_left _ _ _ _ (by rw [hsz]; omega), he]
  | x :: xs, i + 1, h => by
    rw [List.getElem?_cons_succ] at h
    rw [List.flatMap_cons, List.set_cons_succ, List.flatMap_cons, ← splice_flat_at hsz vs he hj xs i h,
      show (i + 1) * sz + j = (cells x).length + (i * sz + j) by rw [hsz, Nat.add_mul]; omega]
    generalize (cells x) = ys
    induction ys with
    | nil => simp
    | cons a ys ih =>
      rw [List.cons_append, List.length_cons, show ys.length + 1 + (i * sz + j) = (ys.length + (i * sz + j)) + 1 by omega]
      cases vs with
      | nil => rw [splice_nil, splice_nil]; rfl
      | cons v vs =>
        simp only [splice, List.cons_append]
        rw [ih]
/-- A store into a row: some cells of an element. -/
theorem SL.store_row {own' : Own} {ys : List α} (hp : opnd l x = some (b1, .pointer (some a))) (h1 : b1 = true) (hv : opnd l y = some (b2, v)) (h2 : b2 = true) (ha : a = ⟨b, off, none⟩) (hk : nth own k = some (Res.row sz cells (some b) xs cap)) (hsz : ∀ x, (cells x).length = sz)
    (hi : xs[i]? = some e) (hq : off = i * sz + j) (hvs : v.cells.toList = vs) (hn : ∀ w, (sizeOf T).run P w = .ok n w) (hl : vs.length = n) (hj : j + n ≤ sz) (he : cells e' = splice (cells e) j vs) (hone : vs.all (·.oneCell') = true) (hys : xs.set i e' = ys) (hown : setAt own k (Res.row sz cells (some b) ys cap) = own')
    (hg : gd ops l gu = some true) (K : SL P E ops Q rest l own' F) : SL P E ops Q (⟨none, .store T x y, ty, pos, after, gu⟩ :: rest) l own F := by
  refine ⟨fun ac w hac hw => ?_⟩
  unfold wpList
  rw [if_pos (wanted_gd hac hg)]
  refine .inl ?_
  obtain ⟨hle, t, junk, hjunk, ht⟩ := hw.ok _ (mem_nth hk)
  have hilt : i < xs.length := (List.getElem?_eq_some_iff.1 hi).1
  have hfl : (xs.flatMap cells).length = xs.length * sz := flat_length hsz xs
  have hbound : i * sz + j + n ≤ xs.length * sz := by
    have := Nat.mul_le_mul_right sz (Nat.succ_le_of_lt hilt)
    rw [Nat.succ_mul] at this; omega
  obtain ⟨w', hr, e1, e2, e3, e4, e5, e6⟩ := run_storeCells_blk (P := P) b t vs 0 off _ w ht (by rw [List.length_append, hfl]; omega) hone
  have hrun : (Instr.storeAt T (.pointer (some a)) v).run P w = .ok () w' := by
    unfold Instr.storeAt storeVar
    have hsz' : v.cells.size = n := by rw [← hl, ← hvs]; simp
    simp only [Instr.sureAddr, Sem.run_bind, Sem.run_pure, Result.andThen, hn, hsz', ne_eq, not_true_eq_false, if_false, hvs, ha]
    exact hr
  have hex : (execOp ac.eval ⟨none, .store T x y, ty, pos, after, gu⟩).run P w = .ok .skip w' := by
    simp only [execOp, hac.eval hp h1, hac.eval hv h2]
    rw [Sem.run_bind, hrun]; rfl
  unfold Oper.wp
  rw [hex, Oper.upon_skip]
  subst hown hys
  refine K.out _ _ hac (hw.turn hk e1 e2 e3 (by omega) (fun q hq' hnf => e6 q fun z => hnf (by subst z; simp [Res.row, Res.foot])) ?_ (by simp [Res.row, Res.foot]) fun q hq' => ?_)
  · refine ⟨by rw [List.length_set]; exact hle, t, junk, by rw [List.length_set]; exact hjunk, ?_⟩
    rw [e5, Nat.add_zero, splice_append_left _ _ _ _ (by rw [hfl]; omega), hq, splice_flat_at hsz vs he (by omega) xs i hi]
  · have : q = b := by simpa [Res.row, Res.foot] using hq'
    subst this
    exact ⟨.inl (by simp [Res.row, Res.foot]), by rw [e4]; exact (hw.new q (List.mem_flatMap.2 ⟨_, mem_nth hk, by simp [Res.row, Res.foot]⟩)).2⟩
end
end Go.Proofs.YtjdiohhniiooeaaDoor
