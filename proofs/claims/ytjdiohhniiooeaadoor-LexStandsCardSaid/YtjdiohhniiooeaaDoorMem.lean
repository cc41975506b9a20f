/- The engine, memory: blocks that the call owns, structs, slices. -/
import Derived.Test.YtjdiohhniiooeaaDoorDraw
import Derived.Laws.IdiomCopy
import Derived.Laws.Cells
namespace Go.Proofs.YtjdiohhniiooeaaDoor
open Go.RowKit
set_option linter.unusedVariables false

variable {P : Program} {E : Env} {ops : Array Oper} {Q : Exit → Act → World → Prop} {rest : List Oper} {l : Slots} {own : Own} {F : World → Prop}

/-! ## Lists of cells -/
def splice {α : Type} : List α → Nat → List α → List α
  | zs, 0, [] => zs
  | _ :: zs, 0, v :: vs => v :: splice zs 0 vs
  | z :: zs, n + 1, vs => z :: splice zs n vs
  | [], _, _ => []
theorem splice_nil {α : Type} : ∀ (zs : List α) (n : Nat), splice zs n [] = zs
  | [], 0 => rfl
  | [], _ + 1 => rfl
  | _ :: _, 0 => rfl
  | z :: zs, n + 1 => by rw [splice, splice_nil zs n]
theorem splice_length {α : Type} : ∀ (zs : List α) (n : Nat) (vs : List α), (splice zs n vs).length = zs.length
  | [], 0, [] => rfl
  | [], 0, _ :: _ => rfl
  | [], _ + 1, [] => rfl
  | [], _ + 1, _ :: _ => rfl
  | _ :: _, 0, [] => rfl
  | _ :: zs, 0, v :: vs => by rw [splice, List.length_cons, splice_length zs 0 vs, List.length_cons]
  | z :: zs, n + 1, vs => by rw [splice, List.length_cons, splice_length zs n vs, List.length_cons]
theorem splice_cons {α : Type} : ∀ (zs : List α) (n : Nat) (v : α) (vs : List α), splice zs n (v :: vs) = splice (zs.set n v) (n + 1) vs
  | [], 0, v, [] => rfl
  | [], 0, v, _ :: _ => rfl
  | [], _ + 1, v, [] => rfl
  | [], _ + 1, v, _ :: _ => rfl
  | _ :: zs, 0, v, vs => by rw [splice, List.set_cons_zero, splice]
  | z :: zs, n + 1, v, vs => by rw [splice, splice_cons zs n v vs, List.set_cons_succ, splice]
theorem splice_append {α : Type} : ∀ (as zs vs : List α), splice (as ++ zs) as.length vs = as ++ splice zs 0 vs
  | [], zs, vs => rfl
  | a :: as, zs, vs => by rw [List.cons_append, List.length_cons, splice, splice_append as zs vs, List.cons_append]
def setAt {α : Type} : List α → Nat → α → List α
  | [], _, _ => []
  | _ :: l, 0, y => y :: l
  | x :: l, i + 1, y => x :: setAt l i y
theorem setAt_eq {α : Type} : ∀ (l : List α) (i : Nat) (y : α), setAt l i y = l.set i y
  | [], _, _ => rfl
  | _ :: _, 0, _ => rfl
  | x :: l, i + 1, y => by rw [setAt, setAt_eq l i y, List.set_cons_succ]
/-- n of them from a place on. -/
def cut {α : Type} : List α → Nat → Nat → List α
  | _, _, 0 => []
  | [], _, _ + 1 => []
  | x :: l, 0, n + 1 => x :: cut l 0 n
  | _ :: l, o + 1, n + 1 => cut l o (n + 1)
theorem cut_eq {α : Type} : ∀ (l : List α) (o n : Nat), cut l o n = (l.drop o).take n
  | l, o, 0 => by simp [cut]
  | [], o, n + 1 => by simp [cut]
  | x :: l, 0, n + 1 => by rw [cut, cut_eq l 0 n]; simp
  | x :: l, o + 1, n + 1 => by rw [cut, cut_eq l o (n + 1)]; simp

/-! ## Own blocks -/
theorem feet_nth {b : Nat} {cs : List Value} : ∀ {own : Own} {k : Nat}, nth own k = some (.blk b cs) → b ∈ own.feet
  | _ :: _, 0, h => by simp only [nth, Option.some.injEq] at h; subst h; simp [Own.feet, Res.foot]
  | r :: own, k + 1, h => by have := feet_nth (own := own) (k := k) h; unfold Own.feet at *; rw [List.flatMap_cons]; exact List.mem_append_right _ this
theorem feet_setAt {b : Nat} {cs cs' : List Value} : ∀ {own : Own} {k : Nat}, nth own k = some (.blk b cs) → Own.feet (setAt own k (.blk b cs')) = own.feet
  | _ :: _, 0, h => by simp only [nth, Option.some.injEq] at h; subst h; simp [Own.feet, Res.foot, setAt]
  | r :: own, k + 1, h => by have := feet_setAt (cs' := cs') (own := own) (k := k) h; unfold Own.feet at *; rw [setAt, List.flatMap_cons, List.flatMap_cons, this]
theorem mem_nth {α : Type} {l : List α} {k : Nat} {x : α} (h : nth l k = some x) : x ∈ l := by rw [nth_eq] at h; exact List.mem_of_getElem? h
theorem SP.blk {k b : Nat} {cs : List Value} {w : World} (h : SP E own F w) (hk : nth own k = some (.blk b cs)) : ∃ t, w.heap[b]? = some (.cells cs.toArray t (0, 0)) := h.ok _ (mem_nth hk)
/-- Another world that differs in an owned block alone. -/
theorem SP.set {k b : Nat} {cs cs' : List Value} {w w' : World} {t : TypeId} (h : SP E own F w) (hk : nth own k = some (.blk b cs)) (hos : w'.os = w.os) (htape : w'.tape = w.tape) (hout : w'.output = w.output)
    (hsize : w'.heap.size = w.heap.size) (hb : w'.heap[b]? = some (.cells cs'.toArray t (0, 0))) (hne : ∀ i, i ≠ b → w'.heap[i]? = w.heap[i]?) : SP E (setAt own k (.blk b cs')) F w' := by
  have hbf := feet_nth hk
  have hbn := h.new b hbf
  have hfeet := feet_setAt (cs' := cs') hk
  refine ⟨⟨hos.trans h.below.os, htape.trans h.below.tape, hout.trans h.below.output, by rw [hsize]; exact h.below.size, fun i hi hx => (hne i (fun e => by rcases hbn.1 with q | q; omega; exact hx (e ▸ q))).trans (h.below.block i hi hx)⟩, fun r hr => ?_, by rw [hfeet, hsize]; exact h.new, by rw [hfeet]; exact h.nodup, fun w'' hs he => ?_⟩
  · have key : ∀ (own : Own) (k : Nat), nth own k = some (.blk b cs) → own.feet.Nodup → ∀ r ∈ setAt own k (.blk b cs'), r = .blk b cs' ∨ (r ∈ own ∧ b ∉ r.foot) := by
      intro own
      induction own with
      | nil => intro k hk; simp [nth] at hk
      | cons x own ih =>
        intro k hk hnd r hr
        unfold Own.feet at hnd
        rw [List.flatMap_cons, List.nodup_append] at hnd
        cases k with
        | zero =>
          simp only [nth, Option.some.injEq] at hk
          subst hk
          simp only [setAt, List.mem_cons] at hr
          rcases hr with rfl | hr
          · exact .inl rfl
          · refine .inr ⟨List.mem_cons_of_mem _ hr, fun hb => ?_⟩
            exact hnd.2.2 b (by simp [Res.foot]) b (List.mem_flatMap.2 ⟨r, hr, hb⟩) rfl
        | succ k =>
          simp only [setAt, List.mem_cons] at hr
          rcases hr with rfl | hr
          · refine .inr ⟨List.mem_cons_self .., fun hb => ?_⟩
            exact hnd.2.2 b hb b (feet_nth (own := own) (k := k) hk) rfl
          · rcases ih k hk hnd.2.1 r hr with h | h
            · exact .inl h
            · exact .inr ⟨List.mem_cons_of_mem _ h.1, h.2⟩
    rcases key own k hk h.nodup r hr with rfl | ⟨hr, hb'⟩
    · exact ⟨t, hb⟩
    · have := h.ok r hr
      exact Res.ok_congr (fun c hc => hne c fun e => hb' (e ▸ hc)) this
  · refine h.rob w'' (by rw [← hsize]; exact hs) fun i hi hg => ?_
    have hib : i ≠ b := fun e => hg.2 (e ▸ hbf)
    exact (he i (by rw [hsize]; exact hi) ⟨hg.1, by rw [hfeet]; exact hg.2⟩).trans (hne i hib)
theorem SP.alloc {w : World} (h : SP E own F w) (t : TypeId) (cs : List Value) : SP E (.blk w.heap.size cs :: own) F (w.alloc (.cells cs.toArray t)) := by
  have hsz : (w.alloc (.cells cs.toArray t)).heap.size = w.heap.size + 1 := by
    show (w.heap.push _).size = _
    simp
  refine ⟨h.below.then_ ((Below.refl _ _).alloc (Nat.le_refl _) _), fun r hr => ?_, fun k hk => ?_, ?_, fun w' hs he => h.rob w' (by omega) fun k hk hg => ?_⟩
  · rcases List.mem_cons.1 hr with rfl | hr
    · exact ⟨t, heap_alloc_new w _⟩
    · have := h.ok r hr
      have hn := fun k hk => (h.new k (List.mem_flatMap.2 ⟨r, hr, hk⟩)).2
      exact Res.ok_congr (fun c hc => Below.heap_alloc w _ c (hn c hc)) this
  · unfold Own.feet at hk
    rw [List.flatMap_cons] at hk
    rcases List.mem_append.1 hk with hk | hk
    · simp only [Res.foot, List.mem_singleton] at hk; subst hk; exact ⟨.inl h.below.size, by omega⟩
    · exact ⟨(h.new k hk).1, by have := (h.new k hk).2; omega⟩
  · unfold Own.feet
    rw [List.flatMap_cons, List.nodup_append]
    refine ⟨by simp [Res.foot], h.nodup, fun a ha b hb => ?_⟩
    simp only [Res.foot, List.mem_singleton] at ha
    subst ha
    have := (h.new b hb).2; omega
  · refine (he k (by omega) ⟨hg.1, fun hk' => ?_⟩).trans (Below.heap_alloc w _ k hk)
    unfold Own.feet at hk'
    rw [List.flatMap_cons] at hk'
    rcases List.mem_append.1 hk' with hk' | hk'
    · simp only [Res.foot, List.mem_singleton] at hk'; omega
    · exact hg.2 hk'

/-! ## Cells read -/
theorem cell_blk {w : World} {b i : Nat} {cs : List Value} {t : TypeId} {fr : Nat × Nat} (h : w.heap[b]? = some (.cells cs.toArray t fr)) : w.cell? ⟨b, i, none⟩ = cs[i]? := by
  simp [World.cell?, h]
theorem add_none (b o j : Nat) : (⟨b, o, none⟩ : Addr).add j = ⟨b, o + j, none⟩ := by unfold Addr.add; split <;> simp_all
theorem run_load1 {T : TypeId} {a : Addr} {v : Value} {w : World} (hT : ∀ w, (isAgg T).run P w = .ok false w) (h : w.cell? a = some v) : (Instr.loadAt T (.pointer (some a))).run P w = .ok v w := by
  simp [Instr.loadAt, Instr.sureAddr, loadVar, hT, load, Sem.run, h]
theorem run_loadN {T : TypeId} {a : Addr} {vs : List Value} {w : World} (hT : ∀ w, (isAgg T).run P w = .ok true w) (hn : ∀ w, (sizeOf T).run P w = .ok vs.length w) (h : ∀ j v, vs[j]? = some v → w.cell? (a.add j) = some v) :
    (Instr.loadAt T (.pointer (some a))).run P w = .ok (.agg vs.toArray) w := by
  have := run_loadCells_list (P := P) w a vs h
  simp [Instr.loadAt, Instr.sureAddr, loadVar, hT, hn, this]
theorem run_next {v : Value} {w w' : World} {s : Sem Value} (h : s.run P w = .ok v w') : Sem.run P (do let x ← s; pure (Next.value x)) w = .ok (.value v) w' := by
  simp [h]

theorem run_eqlN {T e n c : Nat} {A : Option Addr} {x y : Operand} {w : World} (hT : P.underlying T = some (.slice e)) :
    (do eqGuard .eql T x y (.slice A n c) (.slice none 0 0); binOp .eql T (.slice A n c) (.slice none 0 0)).run P w = .ok (.bool A.isNone) w := by
  have h : (Op.equal T (.slice A n c) (.slice none 0 0)).run P w = .ok A.isNone w := by
    simp only [Op.equal, Op.maxDepth]
    exact Lib.run_equalIn_slice_nil w 9999 T e A n c 0 0 hT
  have h2 : (binOp .eql T (.slice A n c) (.slice none 0 0)).run P w = .ok (.bool A.isNone) w := by
    simp only [binOp, Sem.run_bind, h]; rfl
  have hg : (eqGuard .eql T x y (.slice A n c) (.slice none 0 0)).run P w = .ok () w := rfl
  rw [Sem.run_bind, hg]; exact h2
theorem run_neqN {T e n c : Nat} {A : Option Addr} {x y : Operand} {w : World} (hT : P.underlying T = some (.slice e)) :
    (do eqGuard .neq T x y (.slice A n c) (.slice none 0 0); binOp .neq T (.slice A n c) (.slice none 0 0)).run P w = .ok (.bool (!A.isNone)) w := by
  have h : (Op.equal T (.slice A n c) (.slice none 0 0)).run P w = .ok A.isNone w := by
    simp only [Op.equal, Op.maxDepth]
    exact Lib.run_equalIn_slice_nil w 9999 T e A n c 0 0 hT
  have h2 : (binOp .neq T (.slice A n c) (.slice none 0 0)).run P w = .ok (.bool (!A.isNone)) w := by
    simp only [binOp, Sem.run_bind, h]; rfl
  have hg : (eqGuard .neq T x y (.slice A n c) (.slice none 0 0)).run P w = .ok () w := rfl
  rw [Sem.run_bind, hg]; exact h2
section
variable {d k n i b off : Nat} {g b1 b2 : Bool} {ty T : TypeId} {pos : String} {after : Array Edge} {gu : Option (Nat × Bool)} {x y : Operand} {v : Value} {vs cs : List Value} {a : Addr} {kk : IntKind} {m : Int}
theorem PS.load_own (hx : opnd l x = some (b1, .pointer (some a))) (h1 : g = true → b1 = true) (ha : a = ⟨b, off, none⟩) (hk : nth own k = some (.blk b cs)) (hc : nth cs off = some v) (hT : ∀ w, (isAgg T).run P w = .ok false w)
    (hd : Nat.blt d E.n = true) (hg : gd ops l gu = some g) : PStep P E ops ⟨some d, .load T x, ty, pos, after, gu⟩ l own F d g v :=
  .mk rfl hd hg fun ac w hac hw hgt => by
    obtain ⟨t, ht⟩ := hw.blk hk
    rw [nth_eq] at hc
    simp only [execOp, hac.eval hx (h1 hgt)]
    exact run_next (run_load1 hT (by rw [ha, cell_blk ht, hc]))
theorem PS.load_own_agg (hx : opnd l x = some (b1, .pointer (some a))) (h1 : g = true → b1 = true) (ha : a = ⟨b, off, none⟩) (hk : nth own k = some (.blk b cs)) (hc : cut cs off n = vs) (hn : vs.length = n)
    (hT : ∀ w, (isAgg T).run P w = .ok true w) (hs : ∀ w, (sizeOf T).run P w = .ok n w) (hd : Nat.blt d E.n = true) (hg : gd ops l gu = some g) : PStep P E ops ⟨some d, .load T x, ty, pos, after, gu⟩ l own F d g (.agg vs.toArray) :=
  .mk rfl hd hg fun ac w hac hw hgt => by
    obtain ⟨t, ht⟩ := hw.blk hk
    simp only [execOp, hac.eval hx (h1 hgt)]
    refine run_next (run_loadN hT (by rw [hn]; exact hs) fun j u hj => ?_)
    rw [ha, add_none, cell_blk ht]
    rw [cut_eq] at hc
    rw [← hc, List.getElem?_take] at hj
    split at hj
    · rw [← hj, List.getElem?_drop]
    · cases hj
/-- A load out of memory that is not the call's own. -/
theorem PS.load_F (hx : opnd l x = some (b1, .pointer (some a))) (h1 : g = true → b1 = true) (hT : ∀ w, (isAgg T).run P w = .ok false w) (hF : ∀ w, F w → g = true → w.cell? a = some v)
    (hd : Nat.blt d E.n = true) (hg : gd ops l gu = some g) : PStep P E ops ⟨some d, .load T x, ty, pos, after, gu⟩ l own F d g v :=
  .mk rfl hd hg fun ac w hac hw hgt => by
    simp only [execOp, hac.eval hx (h1 hgt)]
    exact run_next (run_load1 hT (hF w hw.now hgt))
theorem PS.load_F_agg (hx : opnd l x = some (b1, .pointer (some a))) (h1 : g = true → b1 = true) (hn : vs.length = n) (hT : ∀ w, (isAgg T).run P w = .ok true w) (hs : ∀ w, (sizeOf T).run P w = .ok n w)
    (hF : ∀ w, F w → g = true → ∀ j u, vs[j]? = some u → w.cell? (a.add j) = some u) (hd : Nat.blt d E.n = true) (hg : gd ops l gu = some g) : PStep P E ops ⟨some d, .load T x, ty, pos, after, gu⟩ l own F d g (.agg vs.toArray) :=
  .mk rfl hd hg fun ac w hac hw hgt => by
    simp only [execOp, hac.eval hx (h1 hgt)]
    exact run_next (run_loadN hT (by rw [hn]; exact hs) (hF w hw.now hgt))
theorem PS.fieldAddr {o : Nat} (hx : opnd l x = some (b1, .pointer (some a))) (h1 : g = true → b1 = true) (hf : ∀ a w, (Instr.fieldAt T (.pointer (some a)) i).run P w = .ok (.pointer (some (a.add o))) w)
    (hd : Nat.blt d E.n = true) (hg : gd ops l gu = some g) : PStep P E ops ⟨some d, .fieldAddr T x i, ty, pos, after, gu⟩ l own F d g (.pointer (some (a.add o))) :=
  .mk rfl hd hg fun ac w hac hw hgt => by
    simp only [execOp, hac.eval hx (h1 hgt)]
    exact run_next (hf a w)
theorem PS.field1 {o : Nat} (hx : opnd l x = some (b1, .agg cs.toArray)) (h1 : g = true → b1 = true) (hf : ∀ (cs : List Value) v w, cs[o]? = some v → (Instr.field T (.agg cs.toArray) i).run P w = .ok v w) (hv : nth cs o = some v)
    (hd : Nat.blt d E.n = true) (hg : gd ops l gu = some g) : PStep P E ops ⟨some d, .field T x i, ty, pos, after, gu⟩ l own F d g v :=
  .mk rfl hd hg fun ac w hac hw hgt => by
    simp only [execOp, hac.eval hx (h1 hgt)]
    exact run_next (hf _ _ w (by rw [← nth_eq]; exact hv))
/-- An element's place. -/
theorem PS.indexAddr {e sz c : Nat} (hx : opnd l x = some (b1, .slice (some a) n c)) (h1 : g = true → b1 = true) (hy : opnd l y = some (b2, .int kk m)) (h2 : g = true → b2 = true) (hT : P.underlying T = some (.slice e)) (hs : ∀ w, (sizeOf e).run P w = .ok sz w)
    (hb : ∀ w, F w → g = true → 0 ≤ m ∧ m < n) (hd : Nat.blt d E.n = true) (hg : gd ops l gu = some g) : PStep P E ops ⟨some d, .indexAddr T x y, ty, pos, after, gu⟩ l own F d g (.pointer (some (a.add (m.toNat * sz)))) :=
  .mk rfl hd hg fun ac w hac hw hgt => by
    have hm := hb w hw.now hgt
    simp only [execOp, hac.eval hx (h1 hgt), hac.eval hy (h2 hgt)]
    refine run_next ?_
    simp [Instr.indexAt, asIntOf, run_underlying hT, hs, hm.1, hm.2]
theorem PS.len_slice {e c : Nat} {A : Option Addr} (hx : opnd l x = some (b1, .slice A n c)) (h1 : g = true → b1 = true) (hT : P.underlying T = some (.slice e)) (hd : Nat.blt d E.n = true) (hg : gd ops l gu = some g) :
    PStep P E ops ⟨some d, .call ⟨.builtin .len, [x].toArray, [T].toArray⟩, ty, pos, after, gu⟩ l own F d g (.int .i64 n) :=
  .mk rfl hd hg fun ac w hac hw hgt => by
    have e := hac.eval hx (h1 hgt)
    simp [execOp, resolve, invoke, builtin, Builtin.len_, e, run_underlying hT, goInt]
theorem PS.len_string {s : ByteArray} (hx : opnd l x = some (b1, .string s)) (h1 : g = true → b1 = true) (hT : P.underlying T = some .string) (hd : Nat.blt d E.n = true) (hg : gd ops l gu = some g) :
    PStep P E ops ⟨some d, .call ⟨.builtin .len, [x].toArray, [T].toArray⟩, ty, pos, after, gu⟩ l own F d g (.int .i64 s.size) :=
  .mk rfl hd hg fun ac w hac hw hgt => by
    have e := hac.eval hx (h1 hgt)
    simp [execOp, resolve, invoke, builtin, Builtin.len_, e, run_underlying hT, goInt]
theorem PS.eqlN {e c : Nat} {A : Option Addr} {T' : TypeId} (hx : opnd l x = some (b1, .slice A n c)) (h1 : g = true → b1 = true) (hy : opnd l y = some (b2, .slice none 0 0)) (h2 : g = true → b2 = true) (hT : P.underlying T = some (.slice e))
    (hd : Nat.blt d E.n = true) (hg : gd ops l gu = some g) : PStep P E ops ⟨some d, .binOp .eql T x y T', ty, pos, after, gu⟩ l own F d g (.bool A.isNone) :=
  .mk rfl hd hg fun ac w hac hw hgt => by
    simp only [execOp, hac.eval hx (h1 hgt), hac.eval hy (h2 hgt)]
    exact run_next (run_eqlN hT)
theorem PS.neqN {e c : Nat} {A : Option Addr} {T' : TypeId} (hx : opnd l x = some (b1, .slice A n c)) (h1 : g = true → b1 = true) (hy : opnd l y = some (b2, .slice none 0 0)) (h2 : g = true → b2 = true) (hT : P.underlying T = some (.slice e))
    (hd : Nat.blt d E.n = true) (hg : gd ops l gu = some g) : PStep P E ops ⟨some d, .binOp .neq T x y T', ty, pos, after, gu⟩ l own F d g (.bool (!A.isNone)) :=
  .mk rfl hd hg fun ac w hac hw hgt => by
    simp only [execOp, hac.eval hx (h1 hgt), hac.eval hy (h2 hgt)]
    exact run_next (run_neqN hT)
/-- A struct's value out of its parts. -/
def Parts (l : Slots) (g : Bool) : List (Nat × Operand) → List (Nat × Value) → Prop
  | [], [] => True
  | (i, x) :: xs, (j, v) :: vs => i = j ∧ (∃ b, opnd l x = some (b, v) ∧ (g = true → b = true)) ∧ Parts l g xs vs
  | _, _ => False
theorem Parts.map {n : Nat} {a : Act} {g : Bool} (ha : Has n l a) (hg : g = true) : ∀ {xs : List (Nat × Operand)} {vs : List (Nat × Value)}, Parts l g xs vs → xs.map (fun p => (p.1, a.eval p.2)) = vs
  | [], [], _ => rfl
  | (i, x) :: xs, (j, v) :: vs, ⟨hij, ⟨b, hb, hgb⟩, h⟩ => by subst hij; rw [List.map_cons, Parts.map ha hg h, ha.eval hb (hgb hg)]
def fills (place : Nat → Option (Nat × Nat)) : List Value → List (Nat × Value) → Option (List Value)
  | cs, [] => some cs
  | cs, (i, v) :: r =>
    match place i with
    | none => none
    | some (off, size) => bif Nat.beq v.cells.size size && Nat.ble (off + size) cs.length then fills place (splice cs off v.cells.toList) r else none
theorem splice_fold (off : Nat) : ∀ (vs : List Value) (k : Nat) (cs : List Value), (vs.zipIdx k).foldl (fun (cs : Array Value) (p : Value × Nat) => cs.setIfInBounds (off + p.2) p.1) cs.toArray = (splice cs (off + k) vs).toArray
  | [], k, cs => by simp [splice_nil]
  | v :: vs, k, cs => by
    rw [List.zipIdx_cons, List.foldl_cons]
    simp only [List.setIfInBounds_toArray]
    rw [splice_fold off vs (k + 1), splice_cons, Nat.add_assoc]
theorem fills_eq (place : Nat → Option (Nat × Nat)) : ∀ (parts : List (Nat × Value)) (cs cs' : List Value), fills place cs parts = some cs' → Instr.fill place cs.toArray parts = some cs'.toArray
  | [], cs, cs', h => by simp only [fills, Option.some.injEq] at h; subst h; rfl
  | (i, v) :: r, cs, cs', h => by
    simp only [fills] at h
    unfold Instr.fill
    cases hp : place i with
    | none => simp [hp] at h
    | some p =>
      obtain ⟨off, size⟩ := p
      simp only [hp] at h ⊢
      cases hb : (Nat.beq v.cells.size size && Nat.ble (off + size) cs.length) with
      | false => simp [hb] at h
      | true =>
        simp only [hb, cond_true] at h
        simp only [Bool.and_eq_true] at hb
        have h1 : v.cells.size = size := Nat.eq_of_beq_eq_true hb.1
        have h2 : off + size ≤ cs.length := Nat.le_of_ble_eq_true hb.2
        have hif : (decide (v.cells.size ≠ size) || decide (off + v.cells.size > cs.toArray.size)) = false := by simp [h1]; omega
        simp only [hif, Bool.false_eq_true, if_false]
        have := splice_fold off v.cells.toList 0 cs
        rw [Nat.add_zero] at this
        rw [← fills_eq place r _ _ h, ← this]
        congr 1
        rw [← Array.foldl_toList, Array.toList_zipIdx]
theorem PS.build {ps : List (Nat × Operand)} {us : List (Nat × Value)} {fs : Array Field} {places : Array (Nat × Nat)} {z : List Value} (hp : Parts l g ps us) (hT : P.underlying T = some (.struct fs)) (hz : ∀ w, (zeroValue T).run P w = .ok (.agg z.toArray) w)
    (hpl : ∀ w, (fs.mapM fun f => (do pure (f.offset, ← sizeOf f.type) : Sem (Nat × Nat))).run P w = .ok places w) (hf : fills (fun i => places[i]?) z us = some vs)
    (hd : Nat.blt d E.n = true) (hg : gd ops l gu = some g) : PStep P E ops ⟨some d, .build T ps.toArray, ty, pos, after, gu⟩ l own F d g (.agg vs.toArray) :=
  .mk rfl hd hg fun ac w hac hw hgt => by
    have e := hp.map hac hgt
    have hf' := fills_eq _ _ _ _ hf
    simp only [execOp]
    refine run_next ?_
    unfold Instr.build
    simp only [Sem.run_bind, hz, Result.andThen, Value.cells, run_underlying hT, hpl, List.map_toArray, e, hf']
    rfl
end
end Go.Proofs.YtjdiohhniiooeaaDoor
