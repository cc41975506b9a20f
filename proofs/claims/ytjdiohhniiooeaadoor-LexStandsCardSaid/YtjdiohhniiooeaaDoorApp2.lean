/- The engine: append to a slice of the call's own. -/
import Derived.Test.YtjdiohhniiooeaaDoorApp
import Derived.Laws.AppendOwn
namespace Go.Proofs.YtjdiohhniiooeaaDoor
open Go.RowKit
set_option linter.unusedVariables false
variable {P : Program} {E : Env} {ops : Array Oper} {Q : Exit → Act → World → Prop} {rest : List Oper} {l : Slots} {own : Own} {F : World → Prop}
theorem growBy_le (need : Nat) : ∀ (r c : Nat), c < 2 * need + 192 → Builtin.growBy need r c ≤ 2 * need + 192
  | 0, c, h => by unfold Builtin.growBy; omega
  | r + 1, c, h => by
    unfold Builtin.growBy
    split
    · omega
    · exact growBy_le need r _ (by omega)
theorem nextslicecap_le {need cap : Nat} (h : cap < need) : Builtin.nextslicecap need cap ≤ 2 * need + 192 := by
  unfold Builtin.nextslicecap
  split
  · omega
  · split
    · omega
    · exact growBy_le need 4 cap (by omega)
theorem zeroCells_size (z : Array Value) (n : Nat) : (Builtin.zeroCells z n).size = n * z.size := by unfold Builtin.zeroCells; simp
section
variable {α : Type} {sz cap : Nat} {cells : α → List Value} {o : Option Nat} {xs ys : List α}
variable {d k n B c : Nat} {b1 b2 : Bool} {ty T T' e : TypeId} {pos : String} {after : Array Edge} {gu : Option (Nat × Bool)} {x y : Operand} {v u : Value} {vs : List Value} {a : Addr} {b : Nat}
theorem one_flat (hone : ∀ x, (cells x).all (·.oneCell') = true) : ∀ u ∈ ys.flatMap cells, u.oneCell' = true := fun u hu => by
  obtain ⟨x, _, hx⟩ := List.mem_flatMap.1 hu
  exact List.all_eq_true.1 (hone x) u hx
theorem Src.ofSl {e' : TypeId} (hT : P.underlying T' = some (.slice e')) (hsz : ∀ x, (cells x).length = sz) (hone : ∀ x, (cells x).all (·.oneCell') = true) {A : Option Addr} {w : World} (h : Sl sz cells A ys w) : Src P sz T' (.slice A ys.length c) ys.length (ys.flatMap cells) w := by
  cases A with
  | none =>
    have : ys = [] := by
      cases ys with
      | nil => rfl
      | cons y ys => obtain ⟨ad, h1, _⟩ := h 0 y rfl; cases h1
    subst this
    exact Src.ofNil w hT c
  | some ad =>
    refine Src.ofSlice w hT ad ys.length c _ (flat_length hsz ys) (fun j u hu => ?_) (one_flat hone)
    have hj : j < (ys.flatMap cells).length := (List.getElem?_eq_some_iff.1 hu).1
    rw [flat_length hsz] at hj
    have hsz0 : 0 < sz := by rcases Nat.eq_zero_or_pos sz with q | q; subst q; simp at hj; exact q
    have hi : j / sz < ys.length := Nat.div_lt_of_lt_mul (by rw [Nat.mul_comm]; exact hj)
    have hjm : j % sz < sz := Nat.mod_lt _ hsz0
    have hx : ys[j / sz]? = some ys[j / sz] := List.getElem?_eq_getElem hi
    obtain ⟨ad', h1, h2⟩ := h _ _ hx
    cases h1
    have hu' : nth (cells ys[j / sz]) (j % sz) = some ((cells ys[j / sz])[j % sz]'(by rw [hsz]; exact hjm)) := by rw [nth_eq]; exact List.getElem?_eq_getElem _
    have e1 := nth_flat hsz hu' hx
    have e2 := h2 (j % sz) _ (by rw [← nth_eq]; exact hu')
    rw [Nat.mul_comm, Nat.div_add_mod] at e2
    rw [Nat.mul_comm, Nat.div_add_mod, nth_eq, hu] at e1
    rw [e2]; exact e1.symm
theorem run_callApp {ρ : Operand → Value} {ats : Array TypeId} {v u r : Value} {w w' : World} (hx : ρ x = v) (hy : ρ y = u) (h : (Builtin.append_ ats ty #[v, u]).run P w = .ok r w') :
    (execOp ρ ⟨some d, .call ⟨.builtin .append, [x, y].toArray, ats⟩, ty, pos, after, gu⟩).run P w = .ok (.value r) w' := by
  simp [execOp, resolve, invoke, builtin, hx, hy, h]

theorem SL.append (hk : nth own k = some (Res.row sz cells o xs cap)) (hx : opnd l x = some (true, .slice (rowA o) xs.length cap)) (hy : opnd l y = some (true, u)) (hsz : ∀ x, (cells x).length = sz) (hone : ∀ x, (cells x).all (·.oneCell') = true)
    (hsrc : ∀ w, SP E own F w → Src P sz T' u ys.length (ys.flatMap cells) w) (hT : P.underlying T = some (.slice e)) (hi : rowInfo P e = some (sz, B, some sz))
    (hb : (2 * (xs.length + ys.length) + 192) * B ≤ 281474976710656) (h63 : xs.length + ys.length ≤ 9223372036854775807)
    (hd : Nat.blt d E.n = true) (hg : gd ops l gu = some true)
    (K : ∀ o' cap', SL P E ops Q rest ((d, true, .slice (rowA o') (xs ++ ys).length cap') :: l) (setAt own k (Res.row sz cells o' (xs ++ ys) cap')) F) :
    SL P E ops Q (⟨some d, .call ⟨.builtin .append, #[x, y], #[T, T']⟩, ty, pos, after, gu⟩ :: rest) l own F := by
  obtain ⟨i, hi1, hi2⟩ := Option.map_eq_some_iff.1 hi
  simp only [Prod.mk.injEq] at hi2
  obtain ⟨rfl, rfl, hz⟩ := hi2
  obtain ⟨z, hz1, hz2⟩ := Option.map_eq_some_iff.1 hz
  refine ⟨fun ac w hac hw => ?_⟩
  have hok := hw.ok _ (mem_nth hk)
  have hs := hsrc w hw
  have hlt : ∀ j ∈ (Res.row i.size cells o xs cap).foot, j < w.heap.size := fun j hj => (hw.new j (List.mem_flatMap.2 ⟨_, mem_nth hk, hj⟩)).2
  have hlen : (xs ++ ys).length = xs.length + ys.length := List.length_append
  unfold wpList
  rw [if_pos (wanted_gd hac hg)]
  refine .inl ?_
  unfold Oper.wp
  rcases Nat.lt_or_ge cap (xs.length + ys.length) with hgrow | hroom
  · have hfit : Builtin.nextslicecap (xs.length + ys.length) cap * i.bytes ≤ 281474976710656 := Nat.le_trans (Nat.mul_le_mul_right _ (nextslicecap_le hgrow)) hb
    have hold : (Builtin.firstCells i.size xs.length (.slice (rowA o) xs.length cap)).run P w.drew = .ok (xs.flatMap cells).toArray w.drew := by
      have hl := row_Sl hsz hok
      exact (Src.ofSl (c := cap) hT hsz hone hl).cellsD
    have hrun := run_append_grow_src w T T' ty e i z hT hi1 hz1 (rowA o) xs.length cap (xs.flatMap cells) hold u ys.length (ys.flatMap cells) hs hgrow (by omega) hfit
    rw [run_callApp (hac.eval hx rfl) (hac.eval hy rfl) hrun, Oper.upon_value]
    have hc := grownCap_ge w (xs.length + ys.length) cap e
    generalize hcap : grownCap w (xs.length + ys.length) cap e = cap' at *
    have K' := K (some w.heap.size) cap'
    rw [hlen] at K'
    refine K'.out _ _ (hac.put hd true _) ?_
    have hsz1 : (w.drew.alloc (.cells ((xs.flatMap cells ++ ys.flatMap cells).toArray ++ Builtin.zeroCells z.cells (cap' - (xs.length + ys.length))) e)).heap.size = w.heap.size + 1 := by
      show (w.heap.push _).size = _
      simp
    refine hw.drew.turn (w' := w.drew.alloc _) hk rfl rfl rfl (by rw [hsz1]; exact Nat.le_succ _) (fun j hj _ => Below.heap_alloc w.drew _ j hj) ?_ (by simp [Res.row, Res.foot]) fun j hj => ?_
    · refine ⟨by rw [hlen]; exact hc, e, (Builtin.zeroCells z.cells (cap' - (xs.length + ys.length))).toList, by rw [Array.length_toList, zeroCells_size, hz2, hlen], ?_⟩
      have := heap_alloc_new w.drew (.cells ((xs.flatMap cells ++ ys.flatMap cells).toArray ++ Builtin.zeroCells z.cells (cap' - (xs.length + ys.length))) e)
      rw [List.flatMap_append]
      refine this.trans ?_
      congr 2
      apply Array.ext'
      simp
    · have : j = w.heap.size := by simpa [Res.row, Res.foot] using hj
      subst this
      exact ⟨.inr (Nat.le_refl _), by rw [hsz1]; exact Nat.lt_succ_self _⟩
  · cases o with
    | none =>
      obtain ⟨_, rfl, rfl⟩ := hok
      have : ys = [] := List.eq_nil_of_length_eq_zero (by simpa using hroom)
      subst this
      have hrun : (Builtin.append_ #[T, T'] ty #[.slice none 0 0, u]).run P w = .ok (.slice none 0 0) w := by
        have hcells := hs.cells
        rcases hs.kind with ⟨e', hk'⟩ | hk' <;> simp [Builtin.append_, run_underlying hT, run_underlying hk', sizeOf, typeInfo, hi1, hs.len] <;> (have hcells' : (Builtin.firstCells i.size 0 u).run P w = .ok #[] w := by simpa using hcells) <;> simp [hcells']
      have := run_callApp (P := P) (d := d) (pos := pos) (after := after) (gu := gu) (hac.eval hx rfl) (hac.eval hy rfl) hrun
      rw [show (Value.slice (rowA none) ([] : List α).length 0) = .slice none 0 0 from rfl] at *
      rw [this, Oper.upon_value]
      exact (K none 0).out _ _ (hac.put hd true _) (hw.see hk row_nil (List.Sublist.refl _))
    | some b =>
      obtain ⟨hle, t, junk, hjunk, ht⟩ := hok
      have hfl : (xs.flatMap cells).length = xs.length * i.size := flat_length hsz xs
      have hfl' : (ys.flatMap cells).length = ys.length * i.size := flat_length hsz ys
      have hm : xs.length * i.size + (cap - xs.length) * i.size = cap * i.size := by rw [← Nat.add_mul]; congr 1; omega
      have hm2 : (xs.length + ys.length) * i.size ≤ cap * i.size := Nat.mul_le_mul_right _ hroom
      rw [Nat.add_mul] at hm2
      have hone' : (ys.flatMap cells).all (·.oneCell') = true := List.all_eq_true.2 (one_flat hone)
      obtain ⟨w', hr, e1, e2, e3, e4, e5, e6⟩ := run_storeCells_blk (P := P) b t (ys.flatMap cells) 0 (xs.length * i.size) _ w ht (by rw [List.length_append, hfl, hfl']; omega) hone'
      have hrun : (Builtin.append_ #[T, T'] ty #[.slice (some ⟨b, 0, none⟩) xs.length cap, u]).run P w = .ok (.slice (some ⟨b, 0, none⟩) (xs.length + ys.length) cap) w' := by
        rcases hs.kind with ⟨e', hk'⟩ | hk' <;> simp [Builtin.append_, run_underlying hT, run_underlying hk', sizeOf, typeInfo, hi1, hs.len, hroom, hs.cells, Addr.add_lit, hr]
      rw [run_callApp (hac.eval hx rfl) (hac.eval hy rfl) hrun, Oper.upon_value]
      have K' := K (some b) cap
      rw [hlen] at K'
      refine K'.out _ _ (hac.put hd true _) (hw.turn hk e1 e2 e3 (by omega) (fun q hq' hnf => e6 q fun z => hnf (by subst z; simp [Res.row, Res.foot])) ?_ (by simp [Res.row, Res.foot]) fun q hq' => ?_)
      · refine ⟨by rw [hlen]; exact hroom, t, junk.drop (ys.length * i.size), ?_, ?_⟩
        · rw [List.length_drop, hjunk, hlen, ← Nat.sub_mul]; congr 1; omega
        · rw [e5, Nat.add_zero, ← hfl, splice_append, splice_zero _ _ (by rw [hfl', hjunk, Nat.sub_mul]; omega), hfl', List.flatMap_append, List.append_assoc]
      · have : q = b := by simpa [Res.row, Res.foot] using hq'
        subst this
        exact ⟨.inl (by simp [Res.row, Res.foot]), by rw [e4]; exact hlt q (by simp [Res.row, Res.foot])⟩
/-- append(l, y), l the call's own: the one element lies in a block that is let go. -/
theorem SL.append1 {y : α} {cs : List Value} {b0 : Nat} {z : Operand} (hk : nth own k = some (Res.row sz cells o xs cap)) (hx : opnd l x = some (true, .slice (rowA o) xs.length cap)) (hy : opnd l z = some (true, .slice (some ⟨b0, 0, none⟩) 1 c)) (hcs : cells y = cs) (hsz : ∀ x, (cells x).length = sz) (hone : ∀ x, (cells x).all (·.oneCell') = true)
    (hT : P.underlying T = some (.slice e)) (hi : rowInfo P e = some (sz, B, some sz)) (hb : (2 * (xs.length + 1) + 192) * B ≤ 281474976710656) (h63 : xs.length + 1 ≤ 9223372036854775807)
    (hd : Nat.blt d E.n = true) (hg : gd ops l gu = some true)
    (K : ∀ o' cap', SL P E ops Q rest ((d, true, .slice (rowA o') (xs ++ [y]).length cap') :: l) (setAt own k (Res.row sz cells o' (xs ++ [y]) cap')) F) :
    SL P E ops Q (⟨some d, .call ⟨.builtin .append, [x, z].toArray, [T, T].toArray⟩, ty, pos, after, gu⟩ :: rest) l (.blk b0 cs :: own) F := by
  subst hcs
  refine SL.append (ys := [y]) (k := k + 1) (own := .blk b0 (cells y) :: own) hk hx hy hsz hone (fun w hw => ?_) hT hi hb h63 hd hg fun o' cap' => ⟨fun a w ha hw => ?_⟩
  · exact Src.ofSl (ys := [y]) hT hsz hone (Sl.of_blk (cells := cells) hsz (by simp) (hw.ok _ List.mem_cons_self))
  · exact (K o' cap').out a w ha (hw.drop (List.sublist_cons_self _ _) fun _ h => h)
theorem SP.row0 {w : World} (h : SP E own F w) : SP E (Res.row sz cells none ([] : List α) 0 :: own) F w := by
  have e : Own.feet (Res.row sz cells none ([] : List α) 0 :: own) = own.feet := by rw [feet_cons]; rfl
  refine ⟨h.below, fun r hr => ?_, by rw [e]; exact h.new, by rw [e]; exact h.nodup, fun w' h1 h2 => h.rob w' h1 fun k hk hg => h2 k hk ⟨hg.1, by rw [e]; exact hg.2⟩⟩
  rcases List.mem_cons.1 hr with rfl | q
  · exact row_nil
  · exact h.ok r q
/-- A row that is not there yet. -/
theorem SL.row0 (sz : Nat) (cells : α → List Value) (K : SL P E ops Q rest l (Res.row sz cells none ([] : List α) 0 :: own) F) : SL P E ops Q rest l own F := ⟨fun a w ha hw => K.out a w ha hw.row0⟩
theorem SC.row0 {c : Code} (sz : Nat) (cells : α → List Value) (K : SC P E Q c l (Res.row sz cells none ([] : List α) 0 :: own) F) : SC P E Q c l own F := ⟨fun a w ha hw => K.out a w ha hw.row0⟩
theorem SL.own_eq {own' : Own} (h : own = own') (K : SL P E ops Q rest l own' F) : SL P E ops Q rest l own F := h ▸ K
theorem SE.own_eq {ex : Exit} {own' : Own} (h : own = own') (K : SE E Q ex l own' F) : SE E Q ex l own F := h ▸ K
/-- What is owned and told as a row, as a fact. -/
theorem own_row {w : World} (h : ∀ r ∈ own, r.ok w) (hk : nth own k = some (Res.row sz cells o xs cap)) (hsz : ∀ x, (cells x).length = sz) : Sl sz cells (rowA o) xs w := row_Sl hsz (h _ (mem_nth hk))
/-- A slice literal without elements is a row. -/
theorem SL.blkRow {own' : Own} (hk : nth own k = some (.blk b vs)) (hvs : xs.flatMap cells = vs) (ho : setAt own k (Res.row sz cells (some b) xs xs.length) = own') (K : SL P E ops Q rest l own' F) : SL P E ops Q rest l own F :=
  SL.see (r' := Res.row sz cells (some b) xs xs.length) hk (fun w h => by subst hvs; exact row_blk h) (List.Sublist.refl _) ho K
end
end Go.Proofs.YtjdiohhniiooeaaDoor
