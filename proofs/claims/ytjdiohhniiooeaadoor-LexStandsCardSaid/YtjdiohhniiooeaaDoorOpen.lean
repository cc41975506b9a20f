/- What comes in, opened: data of any shape read off the given reader. -/
import Derived.Test.YtjdiohhniiooeaaDoorDat
import Derived.WalkKit
import Derived.ProofKit
import Derived.OpenShut
import Derived.ChangeOld
import Derived.Below
import Derived.Deep.Slices
namespace Go.Proofs.YtjdiohhniiooeaaDoor
open Go.RowKit
set_option linter.unusedVariables false
/-- What was there is as it was. -/
def Agree (w w' : World) : Prop := ∀ k, k < w.heap.size → w'.heap[k]? = w.heap[k]?
theorem Agree.cell {w w' : World} (h : Agree w w') {a : Addr} {v : Value} (hc : w.cell? a = some v) : w'.cell? a = some v := by
  unfold World.cell? at hc ⊢
  cases hb : w.heap[a.block]? with
  | none => rw [hb] at hc; cases hc
  | some o =>
    have hlt : a.block < w.heap.size := (Array.getElem?_eq_some_iff.1 hb).1
    rw [h _ hlt, hb]; rw [hb] at hc; exact hc
/-- Data of a type: its cells, and what is told of the memory. -/
structure Opens (P : Program) (t : TypeId) {α : Type} (cells : α → List Value) (ok : α → World → Prop) : Prop where
  open_ : ∀ {H : Type} (enc : TypeId × Value → H) (w : World) (base : Nat) (sp : Nat → Bool) (hd : Bool) (fuel : Nat) (cs : List Value) (x : DataW H × List MemPlace),
    DataW.trod enc P w base sp hd fuel t cs = some x → ∃ d, cs = cells d ∧ ok d w
  stay : ∀ d w w', ok d w → Agree w w' → ok d w'
variable {P : Program}
theorem Opens.int {t : TypeId} {k : IntKind} (ht : P.underlying t = some (.int k)) : Opens P t (fun z : Int => [.int k z]) (fun z _ => (Lit.int k z).wf = true) :=
  ⟨fun enc w base sp hd fuel cs x h => by
    obtain ⟨z, hz, _, hw⟩ := DataW.trod_int ht h
    exact ⟨z, hz, hw⟩, fun _ _ _ h _ => h⟩
theorem Opens.bool {t : TypeId} (ht : P.underlying t = some .bool) : Opens P t (fun b : Bool => [.bool b]) (fun _ _ => True) :=
  ⟨fun enc w base sp hd fuel cs x h => by
    obtain ⟨z, hz, _⟩ := DataW.trod_bool ht h
    exact ⟨z, hz, trivial⟩, fun _ _ _ h _ => h⟩
theorem Opens.string {t : TypeId} (ht : P.underlying t = some .string) : Opens P t (fun s : ByteArray => [.string s]) (fun s _ => s.size ≤ maxLen) :=
  ⟨fun enc w base sp hd fuel cs x h => by
    obtain ⟨z, hz, _, hs⟩ := DataW.trod_string ht h
    exact ⟨z, hz, hs⟩, fun _ _ _ h _ => h⟩
theorem Opens.slice_ {t e : TypeId} (ht : P.underlying t = some (.slice e)) : Opens P t (fun q : Option Addr × Nat × Nat => [.slice q.1 q.2.1 q.2.2]) (fun _ _ => True) :=
  ⟨fun enc w base sp hd fuel cs x h => by
    rcases Go.Deep.open_slice ht h with ⟨rfl, _⟩ | ⟨a, len, cap, m, n, D, Pl, rfl, _⟩
    · exact ⟨(none, 0, 0), rfl, trivial⟩
    · exact ⟨(some a, len, cap), rfl, trivial⟩, fun _ _ _ h _ => h⟩
def SlD.ok {α : Type} (sz : Nat) (cells : α → List Value) (ok : α → World → Prop) (s : SlD α) (w : World) : Prop :=
  Sl sz cells s.a s.l w ∧ (∀ x ∈ s.l, ok x w) ∧ s.l.length ≤ s.cap ∧ s.cap ≤ maxLen
theorem list_of {α : Type} {p : Nat → α → Prop} : ∀ (n : Nat), (∀ i, i < n → ∃ x, p i x) → ∃ l : List α, l.length = n ∧ ∀ (i : Nat) x, l[i]? = some x → p i x
  | 0, _ => ⟨[], rfl, fun i x h => by simp at h⟩
  | n + 1, h => by
    obtain ⟨l, hl, hp⟩ := list_of n fun i hi => h i (Nat.lt_succ_of_lt hi)
    obtain ⟨x, hx⟩ := h n (Nat.lt_succ_self n)
    refine ⟨l ++ [x], by simp [hl], fun i y hy => ?_⟩
    rcases Nat.lt_trichotomy i n with q | q | q
    · rw [List.getElem?_append_left (by omega)] at hy; exact hp i y hy
    · subst q; rw [List.getElem?_append_right (by omega), hl] at hy; simp at hy; subst hy; exact hx
    · rw [List.getElem?_eq_none (by simp; omega)] at hy; cases hy
theorem Sl.agree {α : Type} {sz : Nat} {cells : α → List Value} {A : Option Addr} {xs : List α} {w w' : World} (h : Sl sz cells A xs w) (ha : Agree w w') : Sl sz cells A xs w' := fun i x hx => by
  obtain ⟨ad, hA, hc⟩ := h i x hx
  exact ⟨ad, hA, fun j u hu => ha.cell (hc j u hu)⟩
theorem Opens.slice {t e : TypeId} {α : Type} {cells : α → List Value} {ok : α → World → Prop} (ht : P.underlying t = some (.slice e)) {sz : Nat} (hc : P.cellsOf e = sz) (he : Opens P e cells ok) : Opens P t (SlD.cells (α := α)) (SlD.ok sz cells ok) where
  open_ := fun enc w base sp hd fuel cs x h => by
    rcases Go.Deep.open_slice ht h with ⟨rfl, _⟩ | ⟨a, len, cap, m, n, D, Pl, rfl, hb, hl, hm, hmm, _, hx⟩
    · exact ⟨⟨none, 0, []⟩, rfl, fun i x hx => by simp at hx, fun x hx => by simp at hx, Nat.le_refl _, Nat.zero_le _⟩
    · have hle : len ≤ m := by rw [hmm]; split <;> omega
      obtain ⟨l, hll, hp⟩ := list_of (p := fun i d => w.cells? base (a.add (i * sz)) sz = some (cells d) ∧ ok d w) len fun i hi => by
        obtain ⟨cs', h1, h2⟩ := hx i (by omega)
        obtain ⟨d, rfl, hd⟩ := he.open_ _ _ _ _ _ _ _ _ h2
        rw [hc] at h1
        exact ⟨d, h1, hd⟩
      refine ⟨⟨some a, cap, l⟩, by unfold SlD.cells; rw [hll], fun i x hx => ⟨a, rfl, fun j u hu => ?_⟩, fun x hx => ?_, by rw [hll]; exact hl, hm⟩
      · obtain ⟨h1, _⟩ := hp i x hx
        obtain ⟨_, hlen, hcell⟩ := World.cells?_some h1
        have hj : j < sz := by have := (List.getElem?_eq_some_iff.1 hu).1; omega
        have := hcell j hj
        rw [Go.Proofs.YtjdiohhniiooeaaDoor.add_add] at this
        rw [this]; exact hu
      · obtain ⟨i, hi⟩ := List.getElem?_of_mem hx
        exact (hp i x hi).2
  stay := fun d w w' h ha => ⟨h.1.agree ha, fun x hx => he.stay _ _ _ (h.2.1 x hx) ha, h.2.2⟩
/-- A struct's field. -/
theorem trod_field {H : Type} {enc : TypeId × Value → H} {w : World} {base : Nat} {sp : Nat → Bool} {hd : Bool} {fuel : Nat} {cs : List Value} {x : DataW H × List MemPlace} {t : TypeId} {fs : Array Field}
    (hs : P.underlying t = some (.struct fs)) (h : DataW.trod enc P w base sp hd fuel t cs = some x) {α : Type} {cells : α → List Value} {ok : α → World → Prop} (i : Nat) {f : Field} (hf : fs[i]? = some f) {n o : Nat} (ho : f.offset = o) (hc : P.cellsOf f.type = n) (he : Opens P f.type cells ok) :
    ∃ d, cut cs o n = cells d ∧ ok d w := by
  obtain ⟨xs, m, _, _, _, hlen, hall⟩ := DataW.trod_struct hs h
  have h1 := hall i f hf
  have hi : i < xs.length := by rw [hlen]; exact (Array.getElem?_eq_some_iff.1 hf).1
  rw [List.getElem?_eq_getElem hi, hc, ho, ← cut_eq] at h1
  exact he.open_ _ _ _ _ _ _ _ _ h1
theorem trod_size {H : Type} {enc : TypeId × Value → H} {w : World} {base : Nat} {sp : Nat → Bool} {hd : Bool} {fuel : Nat} {cs : List Value} {x : DataW H × List MemPlace} {t : TypeId} {fs : Array Field}
    (hs : P.underlying t = some (.struct fs)) (h : DataW.trod enc P w base sp hd fuel t cs = some x) {n : Nat} (hc : P.cellsOf t = n) : cs.length = n := by
  obtain ⟨_, _, _, _, hl, _, _⟩ := DataW.trod_struct hs h
  rw [hl, hc]
theorem wf_i64 {z : Int} (h : (Lit.int .i64 z).wf = true) : -9223372036854775808 ≤ z ∧ z ≤ 9223372036854775807 := by
  simp [Lit.wf, IntKind.min, IntKind.max, IntKind.signed, IntKind.bits] at h; omega
theorem wf_u64 {z : Int} (h : (Lit.int .u64 z).wf = true) : 0 ≤ z ∧ z < 18446744073709551616 := by
  simp [Lit.wf, IntKind.min, IntKind.max, IntKind.signed, IntKind.bits] at h; omega
end Go.Proofs.YtjdiohhniiooeaaDoor
namespace Go.Proofs.YtjdiohhniiooeaaDoor
open Go.RowKit
open Go.ChangeShapes Go.WideShapes
set_option linter.unusedVariables false
variable {P : Program}
theorem open_agg_arg {H : Type} {enc : TypeId × Value → H} {w : World} {base b0 : Nat} {sp : Nat → Bool} {hd : Bool} {r : Reach} {t : TypeId} {v : Value} {d : DataW H} {ps : List MemPlace} {α : Type} {cells : α → List Value} {ok : α → World → Prop} {fs : Array Field}
    (ho : Opens P t cells ok) (ht : P.underlying t = some (.struct fs)) (hval : Value.okWide P w r b0 t v) (h : DataW.Trod enc P w base sp hd t v d ps) : ∃ x, v = .agg (cells x).toArray ∧ ok x w := by
  obtain ⟨cs, rfl, _⟩ := okWide_struct ht hval
  obtain ⟨fuel, hf⟩ := h
  obtain ⟨x, hx, hok⟩ := ho.open_ _ _ _ _ _ _ _ _ hf
  exact ⟨x, by rw [← hx]; simp [Value.cells], hok⟩
theorem open_slice_arg {H : Type} {enc : TypeId × Value → H} {w : World} {base b0 : Nat} {sp : Nat → Bool} {hd : Bool} {r : Reach} {t e : TypeId} {v : Value} {d : DataW H} {ps : List MemPlace} {α : Type} {ok : SlD α → World → Prop}
    (ho : Opens P t (SlD.cells (α := α)) ok) (ht : P.underlying t = some (.slice e)) (hval : Value.okWide P w r b0 t v) (h : DataW.Trod enc P w base sp hd t v d ps) : ∃ s : SlD α, v = .slice s.a s.l.length s.cap ∧ ok s w := by
  obtain ⟨a, l, c, rfl⟩ := okWide_slice ht hval
  obtain ⟨fuel, hf⟩ := h
  obtain ⟨x, hx, hok⟩ := ho.open_ _ _ _ _ _ _ _ _ hf
  exact ⟨x, by simpa [SlD.cells, Value.cells] using hx, hok⟩
/-- A contract, at a call from without. -/
theorem calls_of_S {f : FuncId} {args : List Value} {Pre : World → Prop} {r : Value} (h : Spec P f args Pre (fun v _ => v = r)) (w : World) (hpre : ∀ w', Agree w w' → Pre w') :
    Calls P f args.toArray w fun e w' => e = .returned r ∧ Below w.heap.size w w' :=
  (h (fun _ => True) w fun w' _ h2 => hpre w' fun k hk => h2 k hk trivial).mono fun e w' ⟨v, he, hb, hv⟩ => ⟨by rw [he, hv w' (Nat.le_refl _) fun _ _ _ => rfl], hb⟩
theorem Opens.weak {t : TypeId} {α : Type} {cells : α → List Value} {ok ok' : α → World → Prop} (h : Opens P t cells ok) (hw : ∀ d w, ok d w → ok' d w) (hs : ∀ d w w', ok' d w → Agree w w' → ok' d w') : Opens P t cells ok' :=
  ⟨fun enc w base sp hd fuel cs x hx => by obtain ⟨d, h1, h2⟩ := h.open_ enc w base sp hd fuel cs x hx; exact ⟨d, h1, hw d w h2⟩, hs⟩
theorem Opens.sliceD {t e : TypeId} {α : Type} [Dat α] (ht : P.underlying t = some (.slice e)) (hc : P.cellsOf e = Dat.sz α) (he : Opens P e (Dat.cells (α := α)) Dat.ok) : Opens P t (SlD.cells (α := α)) SlD.rd :=
  (Opens.slice ht hc he).weak (fun d w h => ⟨h.1, h.2.1, Nat.le_trans h.2.2.1 h.2.2.2⟩) fun d w w' h ha => ⟨h.sl.agree ha, fun x hx => he.stay _ _ _ (h.el x hx) ha, h.le⟩
theorem opens_i64 {t : TypeId} (ht : P.underlying t = some (.int .i64)) : Opens P t (Dat.cells (α := Int)) Dat.ok := (Opens.int ht).weak (fun _ _ _ => trivial) fun _ _ _ h _ => h
theorem opens_bool {t : TypeId} (ht : P.underlying t = some .bool) : Opens P t (Dat.cells (α := Bool)) Dat.ok := (Opens.bool ht).weak (fun _ _ _ => trivial) fun _ _ _ h _ => h
theorem opens_str {t : TypeId} (ht : P.underlying t = some .string) : Opens P t (Dat.cells (α := ByteArray)) Dat.ok := Opens.string ht
theorem list1 {α : Type} {l : List α} (h : l.length = 1) : ∃ a, l = [a] := by
  match l, h with
  | [a], _ => exact ⟨a, rfl⟩
theorem list2 {α : Type} {l : List α} (h : l.length = 2) : ∃ a b, l = [a, b] := by
  match l, h with
  | [a, b], _ => exact ⟨a, b, rfl⟩
theorem list3 {α : Type} {l : List α} (h : l.length = 3) : ∃ a b c, l = [a, b, c] := by
  match l, h with
  | [a, b, c], _ => exact ⟨a, b, c, rfl⟩
theorem list4 {α : Type} {l : List α} (h : l.length = 4) : ∃ a b c d, l = [a, b, c, d] := by
  match l, h with
  | [a, b, c, d], _ => exact ⟨a, b, c, d, rfl⟩
theorem list5 {α : Type} {l : List α} (h : l.length = 5) : ∃ a b c d e, l = [a, b, c, d, e] := by
  match l, h with
  | [a, b, c, d, e], _ => exact ⟨a, b, c, d, e, rfl⟩
theorem list6 {α : Type} {l : List α} (h : l.length = 6) : ∃ a b c d e f, l = [a, b, c, d, e, f] := by
  match l, h with
  | [a, b, c, d, e, f], _ => exact ⟨a, b, c, d, e, f, rfl⟩
theorem list7 {α : Type} {l : List α} (h : l.length = 7) : ∃ a b c d e f g, l = [a, b, c, d, e, f, g] := by
  match l, h with
  | [a, b, c, d, e, f, g], _ => exact ⟨a, b, c, d, e, f, g, rfl⟩
end Go.Proofs.YtjdiohhniiooeaaDoor
