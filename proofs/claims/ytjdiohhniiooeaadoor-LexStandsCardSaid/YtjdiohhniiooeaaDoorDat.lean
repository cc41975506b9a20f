/- Data that lies in memory: what is told of it, and the steps that read it. -/
import Derived.Test.YtjdiohhniiooeaaDoorAut
namespace Go.Proofs.YtjdiohhniiooeaaDoor
open Go.RowKit
set_option linter.unusedVariables false
/-- A slice, with what it leads to. -/
structure SlD (α : Type) where
  a : Option Addr
  cap : Nat
  l : List α
def SlD.cells {α : Type} (s : SlD α) : List Value := [.slice s.a s.l.length s.cap]
/-- Data of a type: its cells, what is told of the memory that it leads to, and some datum. -/
class Dat (α : Type) where
  cells : α → List Value
  sz : Nat
  len : ∀ x, (cells x).length = sz
  one : ∀ x, (cells x).all (·.oneCell') = true
  ok : α → World → Prop
  d : α
instance : Dat Int := ⟨fun z => [.int .i64 z], 1, fun _ => rfl, fun _ => rfl, fun _ _ => True, 0⟩
instance : Dat Bool := ⟨fun z => [.bool z], 1, fun _ => rfl, fun _ => rfl, fun _ _ => True, false⟩
instance : Dat ByteArray := ⟨fun z => [.string z], 1, fun _ => rfl, fun _ => rfl, fun s _ => s.size ≤ maxLen, ByteArray.empty⟩
/-- A slice reads as its list, and each of its elements is told of. -/
structure SlD.rd {α : Type} [Dat α] (s : SlD α) (w : World) : Prop where
  sl : Sl (Dat.sz α) Dat.cells s.a s.l w
  el : ∀ x ∈ s.l, Dat.ok x w
  le : s.l.length ≤ maxLen
instance {α : Type} [Dat α] : Dat (SlD α) := ⟨SlD.cells, 1, fun _ => rfl, fun _ => rfl, SlD.rd, ⟨none, 0, []⟩⟩
def SlD.nil {α : Type} : SlD α := ⟨none, 0, []⟩
theorem SlD.nil_rd {α : Type} [Dat α] (w : World) : (SlD.nil : SlD α).rd w := ⟨fun i x hx => by simp [SlD.nil] at hx, fun x hx => by simp [SlD.nil] at hx, Nat.zero_le _⟩
def d0 : Addr := ⟨0, 0, none⟩
theorem getD_some {α : Type} {xs : List α} {i : Nat} {d : α} (h : i < xs.length) : xs[i]? = some (xs.getD i d) := by
  rw [List.getD_eq_getElem?_getD, List.getElem?_eq_getElem h]; rfl
theorem getD_mem {α : Type} {xs : List α} {i : Nat} {d : α} (h : i < xs.length) : xs.getD i d ∈ xs := List.mem_of_getElem? (getD_some h)
theorem SlD.rd.at {α : Type} [Dat α] {s : SlD α} {w : World} (h : s.rd w) {i : Nat} (hi : i < s.l.length) : Dat.ok (s.l.getD i Dat.d) w := h.el _ (getD_mem hi)
section
variable {α : Type} [Dat α] {A : Option Addr} {xs : List α} {w : World}
theorem Sl.isSome (h : Sl (Dat.sz α) Dat.cells A xs w) {i : Nat} (hi : i < xs.length) : ∃ ad, A = some ad := by
  obtain ⟨ad, h1, _⟩ := h i _ (getD_some (d := Dat.d) hi); exact ⟨ad, h1⟩
variable {P : Program} {E : Env} {ops : Array Oper} {Q : Exit → Act → World → Prop} {rest : List Oper} {l : Slots} {own : Own} {F : World → Prop}
variable {d : Nat} {g b1 b2 : Bool} {ty T : TypeId} {pos : String} {after : Array Edge} {gu : Option (Nat × Bool)} {x y : Operand} {v : Value} {a : Addr} {kk : IntKind} {m : Int}
theorem PS.indexS {e c n : Nat} (hx : opnd l x = some (b1, .slice A n c)) (h1 : g = true → b1 = true) (hy : opnd l y = some (b2, .int kk m)) (h2 : g = true → b2 = true) (hT : P.underlying T = some (.slice e)) (hs : ∀ w, (sizeOf e).run P w = .ok (Dat.sz α) w)
    (hS : ∀ w, SP E own F w → g = true → Sl (Dat.sz α) Dat.cells A xs w) (hn : n = xs.length) (hb : g = true → 0 ≤ m ∧ m < xs.length) (hd : Nat.blt d E.n = true) (hg : gd ops l gu = some g) :
    PStep P E ops ⟨some d, .indexAddr T x y, ty, pos, after, gu⟩ l own F d g (.pointer (some ((A.getD d0).add (m.toNat * Dat.sz α)))) :=
  .mk rfl hd hg fun ac w hac hw hgt => by
    have hm := hb hgt
    obtain ⟨ad, rfl⟩ := (hS w hw hgt).isSome (i := m.toNat) (by omega)
    subst hn
    simp only [execOp, hac.eval hx (h1 hgt), hac.eval hy (h2 hgt)]
    refine run_next ?_
    simp [Instr.indexAt, asIntOf, run_underlying hT, hs, hm.1, hm.2]
theorem Sl.cellS (h : Sl (Dat.sz α) Dat.cells A xs w) {i : Nat} (hi : i < xs.length) {j : Nat} {u : Value} (hu : (Dat.cells (xs.getD i Dat.d))[j]? = some u) : w.cell? (((A.getD d0).add (i * Dat.sz α)).add j) = some u := by
  obtain ⟨ad, h1, h2⟩ := h i _ (getD_some (d := Dat.d) hi)
  subst h1
  rw [add_add]; exact h2 j u hu
/-- A whole element, a struct. -/
theorem PS.loadS {vs : List Value} (hx : opnd l x = some (b1, .pointer (some ((A.getD d0).add (m.toNat * Dat.sz α))))) (h1 : g = true → b1 = true) (hS : ∀ w, SP E own F w → g = true → Sl (Dat.sz α) Dat.cells A xs w) (hb : g = true → 0 ≤ m ∧ m < xs.length) (hvs : Dat.cells (xs.getD m.toNat Dat.d) = vs)
    (hT : ∀ w, (isAgg T).run P w = .ok true w) (hs : ∀ w, (sizeOf T).run P w = .ok (Dat.sz α) w) (hd : Nat.blt d E.n = true) (hg : gd ops l gu = some g) : PStep P E ops ⟨some d, .load T x, ty, pos, after, gu⟩ l own F d g (.agg vs.toArray) :=
  .mk rfl hd hg fun ac w hac hw hgt => by
    have hm := hb hgt
    simp only [execOp, hac.eval hx (h1 hgt)]
    subst hvs
    exact run_next (run_loadN hT (by rw [Dat.len]; exact hs) fun j v hv => (hS w hw hgt).cellS (by omega) hv)
/-- A whole element of one cell. -/
theorem PS.loadS1 (hx : opnd l x = some (b1, .pointer (some ((A.getD d0).add (m.toNat * Dat.sz α))))) (h1 : g = true → b1 = true) (hS : ∀ w, SP E own F w → g = true → Sl (Dat.sz α) Dat.cells A xs w) (hb : g = true → 0 ≤ m ∧ m < xs.length) (hu : nth (Dat.cells (xs.getD m.toNat Dat.d)) 0 = some v)
    (hT : ∀ w, (isAgg T).run P w = .ok false w) (hd : Nat.blt d E.n = true) (hg : gd ops l gu = some g) : PStep P E ops ⟨some d, .load T x, ty, pos, after, gu⟩ l own F d g v :=
  .mk rfl hd hg fun ac w hac hw hgt => by
    have hm := hb hgt
    simp only [execOp, hac.eval hx (h1 hgt)]
    refine run_next (run_load1 hT ?_)
    have := (hS w hw hgt).cellS (i := m.toNat) (j := 0) (by omega) (by rw [← nth_eq]; exact hu)
    rwa [add_add, Nat.add_zero] at this
/-- A field of an element. -/
theorem PS.loadSF {j : Nat} (hx : opnd l x = some (b1, .pointer (some (((A.getD d0).add (m.toNat * Dat.sz α)).add j)))) (h1 : g = true → b1 = true) (hS : ∀ w, SP E own F w → g = true → Sl (Dat.sz α) Dat.cells A xs w) (hb : g = true → 0 ≤ m ∧ m < xs.length) (hu : nth (Dat.cells (xs.getD m.toNat Dat.d)) j = some v)
    (hT : ∀ w, (isAgg T).run P w = .ok false w) (hd : Nat.blt d E.n = true) (hg : gd ops l gu = some g) : PStep P E ops ⟨some d, .load T x, ty, pos, after, gu⟩ l own F d g v :=
  .mk rfl hd hg fun ac w hac hw hgt => by
    have hm := hb hgt
    simp only [execOp, hac.eval hx (h1 hgt)]
    exact run_next (run_load1 hT ((hS w hw hgt).cellS (by omega) (by rw [← nth_eq]; exact hu)))
end
/-! ## Rows of the call's own -/
section
variable {P : Program} {E : Env} {ops : Array Oper} {Q : Exit → Act → World → Prop} {rest : List Oper} {l : Slots} {own : Own} {F : World → Prop} {α : Type} [Dat α]
def Rw (o : Option Nat) (xs : List α) (cap : Nat) : Res := Res.row (Dat.sz α) Dat.cells o xs cap
theorem Rw.sl {o : Option Nat} {xs : List α} {cap : Nat} {w : World} (h : (Rw o xs cap).ok w) : Sl (Dat.sz α) Dat.cells (rowA o) xs w := row_Sl Dat.len h
/-- A row, given up: it stays as it is from here on. -/
theorem SP.giveR {o : Option Nat} {xs : List α} {cap : Nat} {own' : Own} (hp : own.Perm (Rw o xs cap :: own')) (hel : ∀ w, F w → ∀ x ∈ xs, Dat.ok x w) (hle : xs.length ≤ maxLen) {w : World} (h : SP E own F w) : SP E own' (fun w => F w ∧ Dat.ok (⟨rowA o, cap, xs⟩ : SlD α) w) w :=
  (h.perm hp).give.weaken fun w h => ⟨h.1, ⟨Rw.sl h.2, hel w h.1, hle⟩⟩
theorem SL.giveR {o : Option Nat} {xs : List α} {cap : Nat} {own' : Own} (hp : own.Perm (Rw o xs cap :: own')) (hel : ∀ w, F w → ∀ x ∈ xs, Dat.ok x w) (hle : xs.length ≤ maxLen) (K : SL P E ops Q rest l own' (fun w => F w ∧ Dat.ok (⟨rowA o, cap, xs⟩ : SlD α) w)) : SL P E ops Q rest l own F :=
  ⟨fun a w ha hw => K.out a w ha (hw.giveR hp hel hle)⟩
theorem SE.giveR {e : Exit} {o : Option Nat} {xs : List α} {cap : Nat} {own' : Own} (hp : own.Perm (Rw o xs cap :: own')) (hel : ∀ w, F w → ∀ x ∈ xs, Dat.ok x w) (hle : xs.length ≤ maxLen) (K : SE E Q e l own' (fun w => F w ∧ Dat.ok (⟨rowA o, cap, xs⟩ : SlD α) w)) : SE E Q e l own F :=
  ⟨fun a w ha hw => K.out a w ha (hw.giveR hp hel hle)⟩
/-- A store to an element's cells. -/
theorem SL.storeR {o : Option Nat} {xs ys : List α} {cap k j n : Nat} {b1 b2 : Bool} {T ty : TypeId} {pos : String} {after : Array Edge} {gu : Option (Nat × Bool)} {x y : Operand} {v : Value} {vs : List Value} {m : Int} {e' : α} {a : Addr} {own' : Own} (hp : opnd l x = some (b1, .pointer (some a))) (h1 : b1 = true) (hv : opnd l y = some (b2, v)) (h2 : b2 = true)
    (ha : a = ((((rowA o).getD d0).add (m.toNat * Dat.sz α)).add j)) (hk : nth own k = some (Rw o xs cap)) (hb : 0 ≤ m ∧ m < xs.length) (hvs : v.cells.toList = vs) (hn : ∀ w, (sizeOf T).run P w = .ok n w) (hl : vs.length = n) (hj : j + n ≤ Dat.sz α)
    (he : Dat.cells e' = splice (Dat.cells (xs.getD m.toNat Dat.d)) j vs) (hone : vs.all (·.oneCell') = true) (hys : xs.set m.toNat e' = ys) (hown : setAt own k (Rw o ys cap) = own') (hg : gd ops l gu = some true) (K : SL P E ops Q rest l own' F) :
    SL P E ops Q (⟨none, .store T x y, ty, pos, after, gu⟩ :: rest) l own F := by
  refine ⟨fun ac w hac hw => ?_⟩
  obtain ⟨b, rfl⟩ := row_some (sz := Dat.sz α) (cells := Dat.cells) (cap := cap) (fun e : xs = [] => by rw [e] at hb; simp at hb; omega) (hw.ok _ (mem_nth hk))
  exact (SL.store_row (i := m.toNat) (j := j) hp h1 hv h2 (by rw [ha]; show (((⟨b, 0, none⟩ : Addr).add _).add _) = _; rw [add_add, add_none]) hk Dat.len (getD_some (d := Dat.d) (by omega)) (Nat.zero_add _) hvs hn hl hj he hone hys hown hg K).out ac w hac hw
end
/-! ## Loops -/
section
variable {P : Program} {E : Env} {Q : Exit → Act → World → Prop} {l : Slots} {own : Own} {F : World → Prop}
theorem SC.loopF {ι : Type} {c : Code} (Ml : ι → Slots) (Mo : ι → Own) (Inv : ι → World → Prop) (μ : ι → Nat) (i : ι) (hl : Sub l (Ml i)) (ho : own = Mo i) (hi : ∀ w, F w → Inv i w)
    (round : ∀ i, SC P E (Exit.then (fun a w => ∃ j, St.sat E ⟨Ml j, Mo j, fun w => F w ∧ Inv j w⟩ a w ∧ μ j < μ i) Q) c (Ml i) (Mo i) (fun w => F w ∧ Inv i w)) : SC P E Q (.loop c) l own F :=
  SC.loop (fun i => ⟨Ml i, Mo i, fun w => F w ∧ Inv i w⟩) μ i rfl hl (fun w h => ⟨h, hi w h⟩) round |> fun h => ho ▸ h
theorem SE.againF {ι : Type} {Ml : ι → Slots} {Mo : ι → Own} {G : ι → World → Prop} {μ : ι → Nat} {n : Nat} (i : ι) (hl : Sub l (Ml i)) (ho : own = Mo i) (hf : ∀ w, F w → G i w) (hμ : μ i < n) :
    SE E (Exit.then (fun a w => ∃ j, St.sat E ⟨Ml j, Mo j, G j⟩ a w ∧ μ j < n) Q) .normal l own F :=
  ⟨fun a w ha hw => ⟨i, ⟨ha.sub hl, ho ▸ hw.weaken hf⟩, hμ⟩⟩
theorem SC.cutF {ι : Type} {x y : Code} (Ml : ι → Slots) (Mo : ι → Own) (Inv : ι → World → Prop) (h1 : SC P E (Exit.then (fun a w => ∃ i, St.sat E ⟨Ml i, Mo i, fun w => F w ∧ Inv i w⟩ a w) Q) x l own F) (h2 : ∀ i, SC P E Q y (Ml i) (Mo i) (fun w => F w ∧ Inv i w)) : SC P E Q (.seq x y) l own F :=
  SC.cut (fun i => ⟨Ml i, Mo i, fun w => F w ∧ Inv i w⟩) h1 h2
theorem SE.meetF {ι : Type} {Ml : ι → Slots} {Mo : ι → Own} {G : ι → World → Prop} (i : ι) (hl : Sub l (Ml i)) (ho : own = Mo i) (hf : ∀ w, F w → G i w) : SE E (Exit.then (fun a w => ∃ i, St.sat E ⟨Ml i, Mo i, G i⟩ a w) Q) .normal l own F :=
  ⟨fun a w ha hw => ⟨i, ha.sub hl, ho ▸ hw.weaken hf⟩⟩
theorem SE.drop {e : Exit} {own' : Own} (hs : own'.Sublist own) (K : SE E Q e l own' F) : SE E Q e l own F := ⟨fun a w ha hw => K.out a w ha (hw.drop hs fun _ h => h)⟩
end
/-! ## Calls -/
section
variable {P : Program} {E : Env} {ops : Array Oper} {Q : Exit → Act → World → Prop} {rest : List Oper} {l : Slots} {own : Own} {F : World → Prop}
/-- A call that reads memory, told by its value. -/
theorem SL.callR {fn : FuncId} {xs : List Operand} {vs : List Value} {r : Value} {ats : Array TypeId} {d : Nat} {g : Bool} {ty : TypeId} {pos : String} {after : Array Edge} {gu : Option (Nat × Bool)} {Pre : World → Prop}
    (hf : ∀ args w, (callFunc fn args).run P w = .ok (.enter fn args) w) (hx : Args l g xs vs) (hs : g = true → Spec P fn vs Pre (fun v _ => v = r)) (hpre : ∀ w, F w → (∀ r ∈ own, r.ok w) → g = true → Pre w)
    (hd : Nat.blt d E.n = true) (hg : gd ops l gu = some g) (K : SL P E ops Q rest ((d, g, r) :: l) own F) :
    SL P E ops Q (⟨some d, .call ⟨.value (.func fn), xs.toArray, ats⟩, ty, pos, after, gu⟩ :: rest) l own F := by
  refine ⟨fun a w ha hw => ?_⟩
  have hwant := wanted_gd (o := ⟨some d, .call ⟨.value (.func fn), xs.toArray, ats⟩, ty, pos, after, gu⟩) ha hg
  unfold wpList
  cases g with
  | true =>
    rw [if_pos hwant]
    refine .inl ?_
    unfold Oper.wp
    rw [run_call hf rfl (hx.map ha rfl), Oper.upon_enter]
    refine (hs rfl (fun _ => True) w (fun w' h1 h2 => hpre w' (hw.rob w' h1 fun k hk _ => h2 k hk trivial) (fun r hr => ?_) rfl)).mono ?_
    · exact Res.ok_congr (fun k hk => h2 k (hw.new k (List.mem_flatMap.2 ⟨r, hr, hk⟩)).2 trivial) (hw.ok r hr)
    · rintro e w' ⟨v, rfl, hb, hr⟩
      have hv : v = r := hr w' (Nat.le_refl _) fun _ _ _ => rfl
      subst hv
      exact K.out _ _ (ha.put hd true _) ((hw.call (φ := fun _ => True) hb (fun _ _ _ => trivial)).weaken fun w h => h.1)
  | false =>
    rw [if_neg (by rw [hwant]; simp)]
    exact K.out _ _ (ha.put hd false _) hw
/-- A contract: the call gives a datum, of which something stands robustly. -/
def SpecE {D : Type} (P : Program) (f : FuncId) (args : List Value) (Pre : World → Prop) (val : D → Value) (φ : D → World → Prop) : Prop :=
  ∀ (S : Nat → Prop) (w : World), Rob S w Pre → Calls P f args.toArray w fun e w' => ∃ x, e = .returned (val x) ∧ Below w.heap.size w w' ∧ Rob (fun k => S k ∨ w.heap.size ≤ k) w' (φ x)
theorem SpecE.enter {D : Type} {val : D → Value} {φ : D → World → Prop} {f : FuncId} {fn : Func} {c : Code} {args : List Value} {Pre : World → Prop} {n : Nat} {l : Slots} (hf : P.funcs[f]? = some fn) (hb : fn.body = some c) (hnt : fn.ntmps = n) (hn : args.length ≤ n) (hl : start args 0 = l)
    (h : ∀ (S : Nat → Prop) (w : World), SC P ⟨n, S, w, []⟩ (bodyPost P fn fun e w' => ∃ x, e = .returned (val x) ∧ Below w.heap.size w w' ∧ Rob (fun k => S k ∨ w.heap.size ≤ k) w' (φ x)) c l [] Pre) : SpecE P f args Pre val φ := by
  subst hl hnt
  intro S w hr
  exact calls_of_wp hf hb ((h S w).out _ w (Has.start hn) ⟨BelowX.refl _ _, by simp, by simp [Own.feet], by simp [Own.feet], fun w' h1 h2 => hr w' h1 fun k hk hS => h2 k hk ⟨.inl hS, by simp [Own.feet]⟩⟩)
theorem finE {D : Type} {val : D → Value} {φ : D → World → Prop} {fn : Func} {S : Nat → Prop} {v : Value} (x : D) (hv : v = val x) (hrun : ∀ a w, Has E.n l a → SP E own F w → (results fn a.tmps).run P w = .ok v w) (hS : E.S = S) (hφ : ∀ w, F w → φ x w) (hX : E.X = [] := by rfl) :
    SE E (bodyPost P fn fun e w' => ∃ x, e = .returned (val x) ∧ Below E.w0.heap.size E.w0 w' ∧ Rob (fun k => S k ∨ E.w0.heap.size ≤ k) w' (φ x)) .ret l own F :=
  ⟨fun a w ha hw => ⟨ha.defers, v, hrun a w ha hw, x, by rw [hv], (hX ▸ hw.below).below, Env.good_of hw hS hX hφ⟩⟩
theorem run1 {fn : Func} {r : Nat} {v : Value} (hres : fn.results = #[.tmp r]) (hl : look l r = some (true, v)) : ∀ a w, Has E.n l a → SP E own F w → (results fn a.tmps).run P w = .ok v w := fun _ _ ha _ => results_run1 hres ha hl
theorem run2 {fn : Func} {r s : Nat} {u v : Value} (hres : fn.results = #[.tmp r, .tmp s]) (hl : look l r = some (true, u)) (hl' : look l s = some (true, v)) : ∀ a w, Has E.n l a → SP E own F w → (results fn a.tmps).run P w = .ok (.tuple #[u, v]) w := fun _ _ ha _ => results_run2 hres ha hl hl'
theorem runc {fn : Func} {p k b n : Nat} {T : TypeId} {cs : List Value} {a : Addr} (hres : fn.results = #[.cell p T]) (hT : ∀ w, (isAgg T).run P w = .ok true w) (hs : ∀ w, (sizeOf T).run P w = .ok n w) (hl : look l p = some (true, .pointer (some a))) (ha : a = ⟨b, 0, none⟩) (hk : nth own k = some (.blk b cs)) (hn : cs.length = n) :
    ∀ a w, Has E.n l a → SP E own F w → (results fn a.tmps).run P w = .ok (.agg cs.toArray) w := fun ac w hac hw => by
  obtain ⟨t, ht⟩ := hw.blk hk
  subst ha hn
  exact results_cell hres hT hs hac hl ht
theorem runct {fn : Func} {p r k b n : Nat} {T : TypeId} {cs : List Value} {a : Addr} {v : Value} (hres : fn.results = #[.cell p T, .tmp r]) (hT : ∀ w, (isAgg T).run P w = .ok true w) (hs : ∀ w, (sizeOf T).run P w = .ok n w) (hl : look l p = some (true, .pointer (some a))) (ha : a = ⟨b, 0, none⟩) (hk : nth own k = some (.blk b cs)) (hn : cs.length = n) (hl' : look l r = some (true, v)) :
    ∀ a w, Has E.n l a → SP E own F w → (results fn a.tmps).run P w = .ok (.tuple #[.agg cs.toArray, v]) w := fun ac w hac hw => by
  obtain ⟨t, ht⟩ := hw.blk hk
  subst ha hn
  exact results_cell_tmp hres hT hs hac hl hl' ht
/-- A call that gives data, told of. What it asks may lie in what the call owns, too. -/
theorem SL.callE {D : Type} {val : D → Value} {φ : D → World → Prop} {fn : FuncId} {xs : List Operand} {vs : List Value} {ats : Array TypeId} {d : Nat} {ty : TypeId} {pos : String} {after : Array Edge} {gu : Option (Nat × Bool)} {Pre : World → Prop}
    (hf : ∀ args w, (callFunc fn args).run P w = .ok (.enter fn args) w) (hx : Args l true xs vs) (hs : SpecE P fn vs Pre val φ) (hpre : ∀ w, F w → Pre w)
    (hd : Nat.blt d E.n = true) (hg : gd ops l gu = some true) (K : ∀ x, SL P E ops Q rest ((d, true, val x) :: l) own (fun w => F w ∧ φ x w)) :
    SL P E ops Q (⟨some d, .call ⟨.value (.func fn), xs.toArray, ats⟩, ty, pos, after, gu⟩ :: rest) l own F := by
  refine ⟨fun a w ha hw => ?_⟩
  have hwant := wanted_gd (o := ⟨some d, .call ⟨.value (.func fn), xs.toArray, ats⟩, ty, pos, after, gu⟩) ha hg
  unfold wpList
  rw [if_pos hwant]
  refine .inl ?_
  unfold Oper.wp
  rw [run_call hf rfl (hx.map ha rfl), Oper.upon_enter]
  refine (hs (E.good own) w (fun w' h1 h2 => hpre w' (hw.rob w' h1 h2))).mono ?_
  rintro e w' ⟨x, rfl, hb, hr⟩
  exact (K x).out _ _ (ha.put hd true _) (hw.call hb hr)
end
/-! ## Ways through loops -/
def thenL {R V : Type} (x : Sum R V) (g : V → R) : R := match x with
  | .inl r => r
  | .inr v => g v
def thenS {R V W : Type} (x : Sum R V) (g : V → Sum R W) : Sum R W := match x with
  | .inl r => .inl r
  | .inr v => g v
def letV {R V : Type} (x : V) (g : V → R) : R := g x
theorem thenL_inl {R V : Type} {x : Sum R V} {g : V → R} {r : R} (h : x = .inl r) : thenL x g = r := by rw [h]; rfl
theorem thenL_inr {R V : Type} {x : Sum R V} {g : V → R} {v : V} (h : x = .inr v) : thenL x g = g v := by rw [h]; rfl
theorem thenS_inl {R V W : Type} {x : Sum R V} {g : V → Sum R W} {r : R} (h : x = .inl r) : thenS x g = .inl r := by rw [h]; rfl
theorem thenS_inr {R V W : Type} {x : Sum R V} {g : V → Sum R W} {v : V} (h : x = .inr v) : thenS x g = g v := by rw [h]; rfl
theorem letV_eq {R V : Type} {x y : V} {g : V → R} (h : x = y) : letV x g = g y := by rw [h]; rfl
theorem all_snoc {α : Type} {p : α → Prop} {xs : List α} {y : α} (h : ∀ x ∈ xs, p x) (hy : p y) : ∀ x ∈ xs ++ [y], p x := fun x hx => by
  rcases List.mem_append.1 hx with q | q
  · exact h x q
  · rw [List.mem_singleton.1 q]; exact hy
theorem all_cons {α : Type} {p : α → Prop} {xs : List α} {y : α} (hy : p y) (h : ∀ x ∈ xs, p x) : ∀ x ∈ y :: xs, p x := fun x hx => by
  rcases List.mem_cons.1 hx with q | q
  · rw [q]; exact hy
  · exact h x q
theorem add_zero (a : Addr) : a.add 0 = a := by unfold Addr.add; simp
section
variable {P : Program} {E : Env} {l : Slots} {own : Own} {F : World → Prop}
theorem fin2 {fn : Func} {r s : Nat} {v v' : Value} {Φ : Value → World → Prop} {S : Nat → Prop} (hres : fn.results = #[.tmp r, .tmp s]) (hl : look l r = some (true, v)) (hl' : look l s = some (true, v')) (hS : E.S = S) (hv : ∀ w, F w → Φ (.tuple #[v, v']) w) (hX : E.X = [] := by rfl) :
    SE E (bodyPost P fn fun e w' => ∃ v, e = .returned v ∧ Below E.w0.heap.size E.w0 w' ∧ Rob (fun k => S k ∨ E.w0.heap.size ≤ k) w' (Φ v)) .ret l own F :=
  ⟨fun _ _ ha hw => ⟨ha.defers, _, results_run2 hres ha hl hl', _, rfl, (hX ▸ hw.below).below, Env.good_of hw hS hX hv⟩⟩
end
theorem SD.know {P : Program} {E : Env} {ops : Array Oper} {Q : Exit → Act → World → Prop} {S : World → Prop} {n f : Nat} {listed : Array Bool} {l : Slots} {own : Own} {F : World → Prop} {p : Prop} (h : ∀ w, F w → p) (K : p → SD P E ops Q S n f listed l own F) : SD P E ops Q S n f listed l own F :=
  ⟨fun a w ha hw => (K (h w hw.now)).out a w ha hw⟩
end Go.Proofs.YtjdiohhniiooeaaDoor
