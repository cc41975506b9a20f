/- The engine, memory: new blocks, stores, results that lie in memory. -/
import Derived.Test.YtjdiohhniiooeaaDoorMem
import Derived.Laws.MakeOwn
namespace Go.Proofs.YtjdiohhniiooeaaDoor
open Go.RowKit
set_option linter.unusedVariables false

variable {P : Program} {E : Env} {ops : Array Oper} {Q : Exit → Act → World → Prop} {rest : List Oper} {l : Slots} {own : Own} {F : World → Prop}
section
variable {d k n i b off : Nat} {b1 b2 : Bool} {ty T : TypeId} {pos : String} {after : Array Edge} {gu : Option (Nat × Bool)} {x y : Operand} {v : Value} {vs cs : List Value} {a : Addr}
/-- An operation that makes a block of the call's own. -/
theorem SL.new {o : Oper} {t : TypeId} (u : Nat → Value) (cs : List Value) (hdst : o.dst = some d) (hd : Nat.blt d E.n = true) (hg : gd ops l o.guard = some true)
    (hrun : ∀ a w, Has E.n l a → SP E own F w → (execOp a.eval o).run P w = .ok (.value (u w.heap.size)) (w.alloc (.cells cs.toArray t)))
    (K : ∀ b, SL P E ops Q rest ((d, true, u b) :: l) (.blk b cs :: own) F) : SL P E ops Q (o :: rest) l own F := by
  refine ⟨fun a w ha hw => ?_⟩
  unfold wpList
  rw [if_pos (wanted_gd ha hg)]
  refine .inl ?_
  unfold Oper.wp
  rw [hrun a w ha hw, Oper.upon_value, hdst]
  exact (K w.heap.size).out _ _ (ha.put hd true _) (hw.alloc t cs)
theorem SL.alloc {z : Value} (hz : ∀ w, (zeroValue T).run P w = .ok z w) (hc : z.cells.toList = cs) (hd : Nat.blt d E.n = true) (hg : gd ops l gu = some true)
    (K : ∀ b, SL P E ops Q rest ((d, true, .pointer (some ⟨b, 0, none⟩)) :: l) (.blk b cs :: own) F) : SL P E ops Q (⟨some d, .alloc T, ty, pos, after, gu⟩ :: rest) l own F :=
  SL.new (t := T) (fun b => .pointer (some ⟨b, 0, none⟩)) cs rfl hd hg (fun a w ha hw => by
    subst hc
    simp only [execOp]
    refine run_next ?_
    simp only [Instr.alloc, Sem.run_bind, hz, Result.andThen, newVar, newRow, run_newObj_alloc]
    rfl) K
theorem SL.box (hx : opnd l x = some (b1, v)) (h1 : b1 = true) (hc : v.cells.toList = cs) (hd : Nat.blt d E.n = true) (hg : gd ops l gu = some true)
    (K : ∀ b, SL P E ops Q rest ((d, true, .pointer (some ⟨b, 0, none⟩)) :: l) (.blk b cs :: own) F) : SL P E ops Q (⟨some d, .box T x, ty, pos, after, gu⟩ :: rest) l own F :=
  SL.new (t := T) (fun b => .pointer (some ⟨b, 0, none⟩)) cs rfl hd hg (fun a w ha hw => by
    subst hc
    simp only [execOp, ha.eval hx h1]
    refine run_next ?_
    simp only [Instr.box, Sem.run_bind, Result.andThen, newVar, newRow, run_newObj_alloc]
    rfl) K
theorem zeros_eq (z : List Value) (n : Nat) : ((Array.range n).map (z.toArray[· % z.toArray.size]!)) = ((List.range n).map (z.toArray[· % z.length]!)).toArray := by
  simp [← List.toArray_range]
def zerosL (z : List Value) (n : Nat) : List Value := (List.range n).map (z.toArray[· % z.length]!)
/-- A slice literal: all its elements, in order. -/
def dense (sz : Nat) : Nat → List (Nat × Value) → List Value → Prop
  | _, [], [] => True
  | k, (i, v) :: r, cs => i = k ∧ v.cells.size = sz ∧ ∃ cs', cs = v.cells.toList ++ cs' ∧ dense sz (k + 1) r cs'
  | _, _, _ => False
theorem splice_zero {α : Type} : ∀ (zs vs : List α), vs.length ≤ zs.length → splice zs 0 vs = vs ++ zs.drop vs.length
  | zs, [], _ => by simp [splice_nil]
  | [], v :: vs, h => by simp at h
  | z :: zs, v :: vs, h => by rw [splice, splice_zero zs vs (by simpa using h)]; simp
theorem dense_fill {sz : Nat} : ∀ (us : List (Nat × Value)) (k : Nat) (cs pre zs : List Value), dense sz k us cs → pre.length = k * sz → zs.length = us.length * sz →
    fills (fun i => some (i * sz, sz)) (pre ++ zs) us = some (pre ++ cs)
  | [], k, [], pre, zs, _, _, hz => by
    have : zs = [] := List.eq_nil_of_length_eq_zero (by simpa using hz)
    subst this; rfl
  | (i, v) :: r, k, cs, pre, zs, ⟨hi, hv, cs', hcs, hr⟩, hp, hz => by
    subst hi hcs
    have hl : v.cells.toList.length = sz := by simpa using hv
    have hzl : zs.length = r.length * sz + sz := by rw [hz, List.length_cons, Nat.add_mul, Nat.one_mul]
    have c1 : Nat.beq v.cells.size sz = true := by rw [hv]; exact Nat.beq_refl _
    have c2 : Nat.ble (i * sz + sz) (pre ++ zs).length = true := Nat.ble_eq_true_of_le (by rw [List.length_append, hp, hzl]; omega)
    simp only [fills, c1, c2, Bool.and_self, cond_true]
    rw [← hp, splice_append, splice_zero _ _ (by rw [hl, hzl]; omega), ← List.append_assoc, ← List.append_assoc]
    exact dense_fill r (i + 1) cs' (pre ++ v.cells.toList) _ hr (by rw [List.length_append, hp, hl, Nat.add_mul, Nat.one_mul]) (by rw [List.length_drop, hl, hzl]; omega)
theorem SL.buildSlice {ps : List (Nat × Operand)} {us : List (Nat × Value)} {e sz len : Nat} {z : Value} (hp : Parts l true ps us) (hT : P.underlying T = some (.slice e)) (hs : ∀ w, (sizeOf e).run P w = .ok sz w) (hz : ∀ w, (zeroValue e).run P w = .ok z w)
    (hf : dense sz 0 us cs) (hlen : us.length = len) (hlim : len * sz ≤ 16777216) (hd : Nat.blt d E.n = true) (hg : gd ops l gu = some true)
    (K : ∀ b, SL P E ops Q rest ((d, true, .slice (some ⟨b, 0, none⟩) len len) :: l) (.blk b cs :: own) F) : SL P E ops Q (⟨some d, .buildSlice T len ps.toArray, ty, pos, after, gu⟩ :: rest) l own F :=
  SL.new (t := e) (fun b => .slice (some ⟨b, 0, none⟩) len len) cs rfl hd hg (fun a w ha hw => by
    have hm := hp.map ha rfl
    have key : ∀ zs : Array Value, zs.size = len * sz → Instr.fill (fun i => some (i * sz, sz)) zs us = some cs.toArray := fun zs h => by
      have := dense_fill us 0 cs [] zs.toList hf (by simp) (by simpa [hlen] using h)
      simpa using fills_eq _ _ _ _ this
    simp only [execOp]
    refine run_next ?_
    unfold Instr.buildSlice
    have hlim' : ¬ (len * sz > 2 ^ 24) := by omega
    simp only [Sem.run_bind, Result.andThen, run_underlying hT, hs, hlim', if_false, List.map_toArray, hm]
    split
    · rename_i h0
      simp only [Sem.run_bind, Sem.run_pure, Result.andThen]
      rw [key _ (by simp)]
      simp only [Sem.run_bind, Result.andThen, newRow, run_newObj_alloc]
      rfl
    · simp only [Sem.run_bind, Sem.run_pure, Result.andThen, hz]
      rw [key _ (by simp)]
      simp only [Sem.run_bind, Result.andThen, newRow, run_newObj_alloc]
      rfl) K
theorem setCell_blk {w : World} {b o : Nat} {cs : List Value} {t : TypeId} (v : Value) (h : w.heap[b]? = some (.cells cs.toArray t (0, 0))) : (w.setCell ⟨b, o, none⟩ v).heap[b]? = some (.cells (cs.set o v).toArray t (0, 0)) := by
  simp [World.setCell, Array.getElem?_modify, h]
theorem run_storeCells_blk (b t : Nat) : ∀ (vs : List Value) (i o : Nat) (cs : List Value) (w : World), w.heap[b]? = some (.cells cs.toArray t (0, 0)) → o + i + vs.length ≤ cs.length → vs.all (·.oneCell') = true →
    ∃ w', (storeCells ⟨b, o, none⟩ vs i).run P w = .ok () w' ∧ w'.os = w.os ∧ w'.tape = w.tape ∧ w'.output = w.output ∧ w'.heap.size = w.heap.size ∧ w'.heap[b]? = some (.cells (splice cs (o + i) vs).toArray t (0, 0)) ∧ ∀ j, j ≠ b → w'.heap[j]? = w.heap[j]?
  | [], i, o, cs, w, h, _, _ => ⟨w, rfl, rfl, rfl, rfl, rfl, by rw [splice_nil]; exact h, fun _ _ => rfl⟩
  | v :: r, i, o, cs, w, h, hl, h1 => by
    simp only [List.all_cons, Bool.and_eq_true] at h1
    have hl' : o + i < cs.length := by simp only [List.length_cons] at hl; omega
    have hcell : w.cell? ⟨b, o + i, none⟩ = some cs[o + i] := by rw [cell_blk h]; exact List.getElem?_eq_getElem hl'
    have hfr : w.frozen? ⟨b, o + i, none⟩ = false := by simp [World.frozen?, h]
    obtain ⟨w', hr, e1, e2, e3, e4, e5, e6⟩ := run_storeCells_blk b t r (i + 1) o (cs.set (o + i) v) (w.setCell ⟨b, o + i, none⟩ v) (setCell_blk v h) (by simp only [List.length_cons, List.length_set] at *; omega) h1.2
    refine ⟨w', ?_, e1, e2, e3, by rw [e4]; simp [World.setCell], by rw [splice_cons]; exact e5, fun j hj => (e6 j hj).trans (Below.heap_setCell _ _ _ _ hj)⟩
    unfold storeCells
    have hs : (store ⟨b, o + i, none⟩ v).run P w = .ok () (w.setCell ⟨b, o + i, none⟩ v) := by
      have h2 := h1.1
      cases v <;> first | (simp [Value.oneCell'] at h2; done) | simp [store, Sem.run, hcell, hfr]
    rw [add_none, Sem.run_bind, hs]
    exact hr
theorem SL.store_own {own' : Own} {cs' : List Value} (hp : opnd l x = some (b1, .pointer (some a))) (h1 : b1 = true) (hv : opnd l y = some (b2, v)) (h2 : b2 = true) (ha : a = ⟨b, off, none⟩) (hk : nth own k = some (.blk b cs))
    (hvs : v.cells.toList = vs) (hn : ∀ w, (sizeOf T).run P w = .ok n w) (hl : vs.length = n) (hle : off + n ≤ cs.length) (hone : vs.all (·.oneCell') = true) (hcs : splice cs off vs = cs') (hown : setAt own k (.blk b cs') = own')
    (hg : gd ops l gu = some true) (K : SL P E ops Q rest l own' F) : SL P E ops Q (⟨none, .store T x y, ty, pos, after, gu⟩ :: rest) l own F := by
  refine ⟨fun ac w hac hw => ?_⟩
  unfold wpList
  rw [if_pos (wanted_gd hac hg)]
  refine .inl ?_
  obtain ⟨t, ht⟩ := hw.blk hk
  obtain ⟨w', hr, e1, e2, e3, e4, e5, e6⟩ := run_storeCells_blk (P := P) b t vs 0 off cs w ht (by omega) hone
  have hrun : (Instr.storeAt T (.pointer (some a)) v).run P w = .ok () w' := by
    unfold Instr.storeAt storeVar
    have hsz : v.cells.size = n := by rw [← hl, ← hvs]; simp
    simp only [Instr.sureAddr, Sem.run_bind, Sem.run_pure, Result.andThen, hn, hsz, ne_eq, not_true_eq_false, if_false, hvs, ha]
    exact hr
  have hex : (execOp ac.eval ⟨none, .store T x y, ty, pos, after, gu⟩).run P w = .ok .skip w' := by
    simp only [execOp, hac.eval hp h1, hac.eval hv h2]
    rw [Sem.run_bind, hrun]; rfl
  unfold Oper.wp
  rw [hex, Oper.upon_skip]
  subst hcs hown
  exact K.out _ _ hac (hw.set hk e1 e2 e3 e4 e5 e6)
/-- The call gives a block up: it stays as it is from here on. -/
theorem SP.give {r : Res} {w : World} (h : SP E (r :: own) F w) : SP E own (fun w => F w ∧ r.ok w) w := by
  have hnd := h.nodup
  unfold Own.feet at hnd
  rw [List.flatMap_cons, List.nodup_append] at hnd
  refine ⟨h.below, fun r' hr => h.ok r' (List.mem_cons_of_mem _ hr), fun k hk => h.new k (by unfold Own.feet at *; rw [List.flatMap_cons]; exact List.mem_append_right _ hk), hnd.2.1, fun w' hs he => ⟨h.rob w' hs fun k hk hg => he k hk ⟨hg.1, fun hk' => hg.2 ?_⟩, ?_⟩⟩
  · unfold Own.feet at *; rw [List.flatMap_cons]; exact List.mem_append_right _ hk'
  · have h0 := h.ok r List.mem_cons_self
    have key : ∀ k ∈ r.foot, w'.heap[k]? = w.heap[k]? := fun k hk => by
      have hn := h.new k (by unfold Own.feet; rw [List.flatMap_cons]; exact List.mem_append_left _ hk)
      exact he k hn.2 ⟨.inr hn.1, fun hk' => hnd.2.2 k hk k hk' rfl⟩
    exact Res.ok_congr key h0
theorem SL.give {r : Res} (K : SL P E ops Q rest l own (fun w => F w ∧ r.ok w)) : SL P E ops Q rest l (r :: own) F := ⟨fun a w ha hw => K.out a w ha hw.give⟩
theorem SC.give {c : Code} {r : Res} (K : SC P E Q c l own (fun w => F w ∧ r.ok w)) : SC P E Q c l (r :: own) F := ⟨fun a w ha hw => K.out a w ha hw.give⟩
theorem SE.give {e : Exit} {r : Res} (K : SE E Q e l own (fun w => F w ∧ r.ok w)) : SE E Q e l (r :: own) F := ⟨fun a w ha hw => K.out a w ha hw.give⟩
theorem SC.perm {c : Code} {own' : Own} (h : own.Perm own') (K : SC P E Q c l own' F) : SC P E Q c l own F := by
  have hf : (Own.feet own).Perm (Own.feet own') := List.Perm.flatMap_right _ h
  exact ⟨fun a w ha hw => K.out a w ha ⟨hw.below, fun r hr => hw.ok r (h.mem_iff.2 hr), fun k hk => hw.new k (hf.mem_iff.2 hk), hf.nodup_iff.1 hw.nodup, fun w' hs he => hw.rob w' hs fun k hk hg => he k hk ⟨hg.1, fun hk' => hg.2 (hf.mem_iff.2 hk')⟩⟩⟩
end

/-- What of a type's row an append asks: cells, bytes, cells of its zero. -/
def rowInfo (P : Program) (e : TypeId) : Option (Nat × Nat × Option Nat) := (P.info? e).map fun i => (i.size, i.bytes, i.zero.map (·.cells.size))
/-! ## Results that lie in memory -/
section
variable {fn : Func} {p r s k b : Nat} {T : TypeId} {u v : Value} {cs vs : List Value} {a : Addr} {w : World} {n : Nat}
theorem results_cell (hres : fn.results = #[.cell p T]) (hT : ∀ w, (isAgg T).run P w = .ok true w) (hs : ∀ w, (sizeOf T).run P w = .ok cs.length w) {ac : Act} (ha : Has n l ac) (hl : look l p = some (true, .pointer (some ⟨b, 0, none⟩)))
    {t : TypeId} (hb : w.heap[b]? = some (.cells cs.toArray t (0, 0))) : (results fn ac.tmps).run P w = .ok (.agg cs.toArray) w := by
  have e := ha.eval (x := .tmp p) hl rfl
  simp only [Act.eval, Array.getD_eq_getD_getElem?] at e
  have hc := run_loadCells_list (P := P) w ⟨b, 0, none⟩ cs (fun j v hj => by rw [add_none, cell_blk hb, Nat.zero_add]; exact hj)
  simp [results, hres, e, asAddr, loadVar, hT, hs, hc]
theorem results_cell_tmp (hres : fn.results = #[.cell p T, .tmp r]) (hT : ∀ w, (isAgg T).run P w = .ok true w) (hs : ∀ w, (sizeOf T).run P w = .ok cs.length w) {ac : Act} (ha : Has n l ac) (hl : look l p = some (true, .pointer (some ⟨b, 0, none⟩)))
    (hl' : look l r = some (true, v)) {t : TypeId} (hb : w.heap[b]? = some (.cells cs.toArray t (0, 0))) : (results fn ac.tmps).run P w = .ok (.tuple #[.agg cs.toArray, v]) w := by
  have e := ha.eval (x := .tmp p) hl rfl
  have e' := ha.eval (x := .tmp r) hl' rfl
  simp only [Act.eval, Array.getD_eq_getD_getElem?] at e e'
  have hc := run_loadCells_list (P := P) w ⟨b, 0, none⟩ cs (fun j v hj => by rw [add_none, cell_blk hb, Nat.zero_add]; exact hj)
  simp [results, hres, e, e', asAddr, loadVar, hT, hs, hc]
/-- The end of a call whose one result is a struct of values. -/
theorem finVc (hres : fn.results = #[.cell p T]) (hT : ∀ w, (isAgg T).run P w = .ok true w) (hs : ∀ w, (sizeOf T).run P w = .ok n w) (hl : look l p = some (true, .pointer (some a))) (ha : a = ⟨b, 0, none⟩) (hk : nth own k = some (.blk b cs)) (hn : cs.length = n)
    (hv : ∀ w, F w → Value.agg cs.toArray = u) (hX : E.X = [] := by rfl) : SE E (bodyPost P fn fun e w' => e = .returned u ∧ Below E.w0.heap.size E.w0 w') .ret l own F :=
  ⟨fun ac w hac hw => by
    obtain ⟨t, ht⟩ := hw.blk hk
    subst ha hn
    exact ⟨hac.defers, _, results_cell hres hT hs hac hl ht, by rw [hv w hw.now], (hX ▸ hw.below).below⟩⟩
theorem finVct (hres : fn.results = #[.cell p T, .tmp r]) (hT : ∀ w, (isAgg T).run P w = .ok true w) (hs : ∀ w, (sizeOf T).run P w = .ok n w) (hl : look l p = some (true, .pointer (some a))) (ha : a = ⟨b, 0, none⟩) (hk : nth own k = some (.blk b cs)) (hn : cs.length = n)
    (hl' : look l r = some (true, v)) (hv : ∀ w, F w → Value.tuple #[.agg cs.toArray, v] = u) (hX : E.X = [] := by rfl) : SE E (bodyPost P fn fun e w' => e = .returned u ∧ Below E.w0.heap.size E.w0 w') .ret l own F :=
  ⟨fun ac w hac hw => by
    obtain ⟨t, ht⟩ := hw.blk hk
    subst ha hn
    exact ⟨hac.defers, _, results_cell_tmp hres hT hs hac hl hl' ht, by rw [hv w hw.now], (hX ▸ hw.below).below⟩⟩
end

/-! ## Contracts of calls that are handed blocks, or hand some back -/
/-- The call is handed the resources rs; it hands rs' back; what it says stands as long as what it does not hand back stays. -/
def SpecG (P : Program) (f : FuncId) (args : List Value) (rs : Own) (Pre : World → Prop) (rs' : Value → Own) (Φ : Value → World → Prop) : Prop :=
  ∀ (S : Nat → Prop) (w : World), (∀ r ∈ rs, r.ok w) → rs.feet.Nodup → (∀ k ∈ rs.feet, k < w.heap.size ∧ ¬ S k) → Rob S w Pre →
    Calls P f args.toArray w fun e w' => ∃ v, e = .returned v ∧ BelowX rs.feet w w' ∧ (∀ r ∈ rs' v, r.ok w') ∧ (Own.feet (rs' v)).Nodup ∧
      (∀ k ∈ Own.feet (rs' v), (w.heap.size ≤ k ∨ k ∈ rs.feet) ∧ k < w'.heap.size) ∧ Rob (fun k => (S k ∨ w.heap.size ≤ k ∨ k ∈ rs.feet) ∧ k ∉ Own.feet (rs' v)) w' (Φ v)
section
variable {f : FuncId} {fn : Func} {c : Code} {args vs : List Value} {rs : Own} {rs' : Value → Own} {Pre : World → Prop} {Φ : Value → World → Prop} {n d : Nat} {v : Value}
theorem Spec.G (h : Spec P f args Pre Φ) : SpecG P f args [] Pre (fun _ => []) Φ := fun S w _ _ _ hr => (h S w hr).mono fun e w' ⟨v, he, hb, hp⟩ =>
  ⟨v, he, ⟨hb.os, hb.tape, hb.output, hb.size, fun k hk _ => hb.block k hk⟩, by simp, by simp [Own.feet], by simp [Own.feet], fun w'' h1 h2 => hp w'' h1 fun k hk hg => h2 k hk ⟨by rcases hg with q | q; exact .inl q; exact .inr (.inl q), by simp [Own.feet]⟩⟩
theorem SpecG.enter (hf : P.funcs[f]? = some fn) (hb : fn.body = some c) (hnt : fn.ntmps = n) (hn : args.length ≤ n) (hl : start args 0 = l)
    (h : ∀ (S : Nat → Prop) (w : World), SC P ⟨n, S, w, rs.feet⟩ (bodyPost P fn fun e w' => ∃ v, e = .returned v ∧ BelowX rs.feet w w' ∧ (∀ r ∈ rs' v, r.ok w') ∧ (Own.feet (rs' v)).Nodup ∧
      (∀ k ∈ Own.feet (rs' v), (w.heap.size ≤ k ∨ k ∈ rs.feet) ∧ k < w'.heap.size) ∧ Rob (fun k => (S k ∨ w.heap.size ≤ k ∨ k ∈ rs.feet) ∧ k ∉ Own.feet (rs' v)) w' (Φ v)) c l rs Pre) : SpecG P f args rs Pre rs' Φ := by
  subst hl hnt
  intro S w hok hnd hft hr
  refine calls_of_wp hf hb ((h S w).out _ w (Has.start hn) ⟨BelowX.refl _ _, hok, fun k hk => ⟨.inr hk, (hft k hk).1⟩, hnd, fun w' hs he => ?_⟩)
  exact hr w' hs fun k hk hS => he k hk ⟨.inl hS, fun hk' => (hft k hk').2 hS⟩
theorem feet_append (a b : Own) : Own.feet (a ++ b) = a.feet ++ b.feet := by unfold Own.feet; rw [List.flatMap_append]
theorem SL.callG {xs : List Operand} {ats : Array TypeId} {ty : TypeId} {pos : String} {after : Array Edge} {gu : Option (Nat × Bool)}
    (hf : ∀ args w, (callFunc f args).run P w = .ok (.enter f args) w) (hx : Args l true xs vs) (hs : SpecG P f vs rs Pre rs' Φ) (hpre : ∀ w, F w → Pre w)
    (hd : Nat.blt d E.n = true) (hg : gd ops l gu = some true) (K : ∀ v, SL P E ops Q rest ((d, true, v) :: l) (rs' v ++ own) (fun w => F w ∧ Φ v w)) :
    SL P E ops Q (⟨some d, .call ⟨.value (.func f), xs.toArray, ats⟩, ty, pos, after, gu⟩ :: rest) l (rs ++ own) F := by
  refine ⟨fun a w ha hw => ?_⟩
  unfold wpList
  rw [if_pos (wanted_gd (o := ⟨some d, .call ⟨.value (.func f), xs.toArray, ats⟩, ty, pos, after, gu⟩) ha hg)]
  refine .inl ?_
  unfold Oper.wp
  rw [run_call hf rfl (hx.map ha rfl), Oper.upon_enter]
  have hnd := hw.nodup
  have hnew := hw.new
  rw [feet_append] at hnd hnew
  have hnd' := List.nodup_append.1 hnd
  refine (hs (E.good (rs ++ own)) w (fun r hr => hw.ok r (List.mem_append_left _ hr)) hnd'.1 (fun k hk => ⟨(hnew k (List.mem_append_left _ hk)).2, fun hg => hg.2 (by rw [feet_append]; exact List.mem_append_left _ hk)⟩) (fun w' h1 h2 => hpre w' (hw.rob w' h1 h2))).mono ?_
  rintro e w' ⟨v, rfl, hb, hok, hnd2, hft2, hr⟩
  have hown : ∀ k ∈ own.feet, k ∉ rs.feet := fun k hk hk' => hnd'.2.2 k hk' k hk rfl
  have hownlt : ∀ k ∈ own.feet, k < w.heap.size := fun k hk => (hnew k (List.mem_append_right _ hk)).2
  have hrs0 : ∀ k ∈ rs.feet, E.w0.heap.size ≤ k ∨ k ∈ E.X := fun k hk => (hnew k (List.mem_append_left _ hk)).1
  refine (K v).out _ _ (ha.put hd true v) ⟨⟨hb.os.trans hw.below.os, hb.tape.trans hw.below.tape, hb.output.trans hw.below.output, Nat.le_trans hw.below.size hb.size, fun k hk hx => ?_⟩, fun r hr' => ?_, fun k hk => ?_, ?_, fun w'' h1 h2 => ⟨hw.rob w'' (Nat.le_trans hb.size h1) fun k hk hg => ?_, hr w'' h1 fun k hk hg => h2 k hk ?_⟩⟩
  · refine (hb.block k (Nat.lt_of_lt_of_le hk hw.below.size) fun hk' => ?_).trans (hw.below.block k hk hx)
    rcases hrs0 k hk' with q | q
    · omega
    · exact hx q
  · rcases List.mem_append.1 hr' with hr' | hr'
    · exact hok r hr'
    · have h0 := hw.ok r (List.mem_append_right _ hr')
      have key : ∀ k ∈ r.foot, w'.heap[k]? = w.heap[k]? := fun k hk => by
        have hk' : k ∈ own.feet := List.mem_flatMap.2 ⟨r, hr', hk⟩
        exact hb.block k (hownlt k hk') (hown k hk')
      exact Res.ok_congr key h0
  · rw [feet_append] at hk
    rcases List.mem_append.1 hk with hk | hk
    · refine ⟨?_, (hft2 k hk).2⟩
      rcases (hft2 k hk).1 with q | q
      · exact .inl (Nat.le_trans hw.below.size q)
      · exact hrs0 k q
    · exact ⟨(hnew k (List.mem_append_right _ hk)).1, Nat.lt_of_lt_of_le (hownlt k hk) hb.size⟩
  · rw [feet_append, List.nodup_append]
    refine ⟨hnd2, hnd'.2.1, fun a ha b hb' hab => ?_⟩
    subst hab
    rcases (hft2 a ha).1 with q | q
    · have := hownlt a hb'; omega
    · exact hown a hb' q
  · have hkr : k ∉ rs.feet := fun q => hg.2 (by rw [feet_append]; exact List.mem_append_left _ q)
    refine (h2 k (Nat.lt_of_lt_of_le hk hb.size) ⟨hg.1, fun q => ?_⟩).trans (hb.block k hk hkr)
    rw [feet_append] at q
    rcases List.mem_append.1 q with q | q
    · rcases (hft2 k q).1 with z | z
      · omega
      · exact hkr z
    · exact hg.2 (by rw [feet_append]; exact List.mem_append_right _ q)
  · have hown' : k ∉ own.feet := fun q => by
      rcases hg.1 with z | z | z
      · exact z.2 (by rw [feet_append]; exact List.mem_append_right _ q)
      · have := hownlt k q; omega
      · exact hown k q z
    refine ⟨?_, by rw [feet_append]; exact fun q => (List.mem_append.1 q).elim hg.2 hown'⟩
    rcases hg.1 with z | z | z
    · exact z.1
    · exact .inr (.inl (Nat.le_trans hw.below.size z))
    · exact .inr (hrs0 k z)
/-- The end of such a call: what is handed back is the first of what is owned. -/
theorem finG {S : Nat → Prop} (hrun : ∀ a w, Has E.n l a → SP E own F w → (results fn a.tmps).run P w = .ok v w) (hS : E.S = S) (hX : E.X = rs.feet) (hsub : (rs' v).Sublist own) (hv : ∀ w, F w → Φ v w) :
    SE E (bodyPost P fn fun e w' => ∃ v, e = .returned v ∧ BelowX rs.feet E.w0 w' ∧ (∀ r ∈ rs' v, r.ok w') ∧ (Own.feet (rs' v)).Nodup ∧
      (∀ k ∈ Own.feet (rs' v), (E.w0.heap.size ≤ k ∨ k ∈ rs.feet) ∧ k < w'.heap.size) ∧ Rob (fun k => (S k ∨ E.w0.heap.size ≤ k ∨ k ∈ rs.feet) ∧ k ∉ Own.feet (rs' v)) w' (Φ v)) .ret l own F :=
  ⟨fun a w ha hw => by
    have h := hw.drop hsub hv
    subst hS
    refine ⟨ha.defers, v, hrun a w ha hw, v, rfl, hX ▸ h.below, h.ok, h.nodup, fun k hk => hX ▸ h.new k hk, fun w'' h1 h2 => h.rob w'' h1 fun k hk hg => h2 k hk ?_⟩
    unfold Env.good at hg; rw [hX] at hg; exact hg⟩
end
end Go.Proofs.YtjdiohhniiooeaaDoor
