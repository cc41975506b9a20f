/- The engine, memory: slices made; blocks that read as lists of structs; contracts told by resources. -/
import Derived.Test.YtjdiohhniiooeaaDoorValG
namespace Go.Proofs.YtjdiohhniiooeaaDoor
open Go.RowKit
set_option linter.unusedVariables false

/-! ## Rows of structs -/
def rep {α : Type} (c : Nat) (zs : List α) : List α := (List.replicate c zs).flatten
theorem rep_succ {α : Type} (c : Nat) (zs : List α) : rep (c + 1) zs = zs ++ rep c zs := by unfold rep; rw [List.replicate_succ, List.flatten_cons]
theorem rep_length {α : Type} (c : Nat) (zs : List α) : (rep c zs).length = c * zs.length := by
  induction c with
  | zero => simp [rep]
  | succ c ih => rw [rep_succ, List.length_append, ih, Nat.add_mul]; omega
theorem rep_flat {α β : Type} (c : Nat) (x : α) (cells : α → List β) : rep c (cells x) = (List.replicate c x).flatMap cells := by
  induction c with
  | zero => rfl
  | succ c ih => rw [rep_succ, List.replicate_succ, List.flatMap_cons, ih]
theorem madeCells_rep (zs : List Value) (c sz : Nat) (h : zs.length = sz) : madeCells zs.toArray (c * sz) = (rep c zs).toArray := by
  unfold madeCells
  rw [zeros_eq]
  congr 1
  subst h
  induction c with
  | zero => simp [rep]
  | succ c ih =>
    rw [rep_succ, show (c + 1) * zs.length = zs.length + c * zs.length by rw [Nat.add_mul]; omega, List.range_add, List.map_append, List.map_map]
    congr 1
    · refine List.ext_getElem (by simp) fun i h1 h2 => ?_
      simp at h1
      simp [Nat.mod_eq_of_lt h1, h1]
    · rw [← ih]
      refine List.map_congr_left fun i _ => ?_
      simp
variable {α : Type} {cells : α → List Value} {sz : Nat}
theorem nth_flat (hsz : ∀ x, (cells x).length = sz) {x : α} {j : Nat} {u : Value} (hu : nth (cells x) j = some u) : ∀ {xs : List α} {i : Nat}, xs[i]? = some x → nth (xs.flatMap cells) (i * sz + j) = some u := by
  rw [nth_eq] at hu
  intro xs
  induction xs with
  | nil => intro i h; simp at h
  | cons y xs ih =>
    intro i h
    rw [List.flatMap_cons, nth_eq]
    have hj : j < sz := by have := (List.getElem?_eq_some_iff.1 hu).1; rw [hsz] at this; exact this
    cases i with
    | zero =>
      simp only [List.getElem?_cons_zero, Option.some.injEq] at h
      subst h
      rw [Nat.zero_mul, Nat.zero_add, List.getElem?_append_left (by rw [hsz]; exact hj)]; exact hu
    | succ i =>
      rw [List.getElem?_cons_succ] at h
      rw [List.getElem?_append_right (by rw [hsz, Nat.add_mul]; omega), hsz, show (i + 1) * sz + j - sz = i * sz + j by rw [Nat.add_mul]; omega, ← nth_eq]
      exact ih h
theorem splice_flat (hsz : ∀ x, (cells x).length = sz) (v : α) : ∀ (xs : List α) (i : Nat), i < xs.length → splice (xs.flatMap cells) (i * sz) (cells v) = (xs.set i v).flatMap cells
  | [], i, h => by simp at h
  | x :: xs, 0, _ => by
    rw [Nat.zero_mul, List.flatMap_cons, List.set_cons_zero, List.flatMap_cons, splice_zero _ _ (by rw [List.length_append, hsz, hsz]; omega)]
    rw [List.drop_append_of_le_length (by rw [hsz, hsz]; omega), List.drop_eq_nil_of_le (by rw [hsz, hsz]; omega), List.nil_append]
  | x :: xs, i + 1, h => by
    rw [List.flatMap_cons, List.set_cons_succ, List.flatMap_cons, ← splice_flat hsz v xs i (by simp only [List.length_cons] at h; omega),
      show (i + 1) * sz = (cells x).length + i * sz by rw [hsz, Nat.add_mul]; omega]
    generalize (cells x) = ys
    induction ys with
    | nil => simp
    | cons a ys ih =>
      rw [List.cons_append, List.length_cons, show ys.length + 1 + i * sz = (ys.length + i * sz) + 1 by omega]
      simp only [splice, List.cons_append]
      rw [ih]
theorem cut_flat (hsz : ∀ x, (cells x).length = sz) {x : α} {xs : List α} {i : Nat} (h : xs[i]? = some x) : cut (xs.flatMap cells) (i * sz) sz = cells x := by
  rw [cut_eq]
  refine List.ext_getElem? fun j => ?_
  rcases Nat.lt_or_ge j sz with hj | hj
  · rw [List.getElem?_take_of_lt hj, List.getElem?_drop, ← nth_eq]
    have := nth_flat hsz (x := x) (j := j) (u := (cells x)[j]'(by rw [hsz]; exact hj)) (by rw [nth_eq]; exact List.getElem?_eq_getElem _) h
    rw [this]; exact (List.getElem?_eq_getElem _).symm
  · rw [List.getElem?_eq_none (by rw [List.length_take]; omega), List.getElem?_eq_none (by rw [hsz]; exact hj)]
theorem flat_length (hsz : ∀ x, (cells x).length = sz) (xs : List α) : (xs.flatMap cells).length = xs.length * sz := by
  induction xs with
  | nil => simp
  | cons x xs ih => rw [List.flatMap_cons, List.length_append, ih, hsz, List.length_cons, Nat.add_mul]; omega

variable {P : Program} {E : Env} {ops : Array Oper} {Q : Exit → Act → World → Prop} {rest : List Oper} {l : Slots} {own : Own} {F : World → Prop}
/-! ## A slice made -/
theorem SL.makeSlice {d e sz B n c : Nat} {b1 b2 : Bool} {k1 k2 : IntKind} {m m' : Int} {ty T : TypeId} {pos : String} {after : Array Edge} {gu : Option (Nat × Bool)} {x y : Operand} {z : Value} {zs : List Value}
    (hx : opnd l x = some (b1, .int k1 m)) (h1 : b1 = true) (hy : opnd l y = some (b2, .int k2 m')) (h2 : b2 = true) (hm : m = n) (hm' : m' = c) (hnc : n ≤ c) (hT : P.underlying T = some (.slice e))
    (hB : (P.info? e).map (·.bytes) = some B) (hs : ∀ w, (sizeOf e).run P w = .ok sz w) (hz : ∀ w, (zeroValue e).run P w = .ok z w) (hzs : z.cells.toList = zs) (hlen : zs.length = sz) (hb : B * c ≤ 281474976710656) (h63 : c ≤ 9223372036854775807)
    (hd : Nat.blt d E.n = true) (hg : gd ops l gu = some true)
    (K : ∀ b, SL P E ops Q rest ((d, true, .slice (some ⟨b, 0, none⟩) n c) :: l) (.blk b (rep c zs) :: own) F) : SL P E ops Q (⟨some d, .makeSlice T x y, ty, pos, after, gu⟩ :: rest) l own F :=
  SL.new (t := e) (fun b => .slice (some ⟨b, 0, none⟩) n c) (rep c zs) rfl hd hg (fun a w ha hw => by
    obtain ⟨i, hi, hiB⟩ := Option.map_eq_some_iff.1 hB
    replace hiB : i.bytes = B := hiB
    have hsi := hs w
    have hzi := hz w
    simp [Go.sizeOf, typeInfo, hi] at hsi
    simp [zeroValue, typeInfo, hi] at hzi
    have hzz : i.zero = some z := by
      cases hq : i.zero with
      | none => rw [hq] at hzi; simp at hzi
      | some z' => rw [hq] at hzi; simp at hzi; rw [hzi]
    simp only [execOp, ha.eval hx h1, ha.eval hy h2]
    refine run_next ?_
    have hb' : ((B * c : Nat) : Int) ≤ 281474976710656 := by omega
    rw [Int.natCast_mul] at hb'
    have := run_make (P := P) w T e i z hT hi hzz k1 k2 m m' (by omega) (by omega) (by rw [hiB, hm']; exact hb') (by omega)
    rw [this, hm, hm', hsi, Int.toNat_natCast, Int.toNat_natCast, show z.cells = zs.toArray by rw [← hzs], madeCells_rep _ _ _ hlen]) K

/-! ## Calls told by what is owned -/
/-- What is owned reads as told. -/
theorem own_get {w : World} {k b : Nat} {cs : List Value} (h : ∀ r ∈ own, r.ok w) (hk : nth own k = some (.blk b cs)) : (Res.blk b cs).ok w := h _ (mem_nth hk)
/-- A call that reads what is owned, and tells a plain fact of its value. -/
theorem SL.callQ {fn : FuncId} {xs : List Operand} {vs : List Value} {ats : Array TypeId} {d : Nat} {g : Bool} {ty : TypeId} {pos : String} {after : Array Edge} {gu : Option (Nat × Bool)} {Pre : World → Prop} {p : Value → Prop}
    (hf : ∀ args w, (callFunc fn args).run P w = .ok (.enter fn args) w) (hx : Args l g xs vs) (hs : g = true → Spec P fn vs Pre (fun v _ => p v)) (hpre : ∀ w, F w → (∀ r ∈ own, r.ok w) → g = true → Pre w)
    (hd : Nat.blt d E.n = true) (hg : gd ops l gu = some g) (K : ∀ v, (g = true → p v) → SL P E ops Q rest ((d, g, v) :: l) own F) :
    SL P E ops Q (⟨some d, .call ⟨.value (.func fn), xs.toArray, ats⟩, ty, pos, after, gu⟩ :: rest) l own F := by
  refine ⟨fun a w ha hw => ?_⟩
  have hwant := wanted_gd (o := ⟨some d, .call ⟨.value (.func fn), xs.toArray, ats⟩, ty, pos, after, gu⟩) ha hg
  unfold wpList
  cases g with
  | true =>
    rw [if_pos hwant]
    refine .inl ?_
    unfold Oper.wp
    rw [run_call hf rfl (hx.map ha rfl), Oper.upon_enter]
    refine (hs rfl (fun _ => True) w (fun w' h1 h2 => hpre w' (hw.rob w' h1 fun k hk _ => h2 k hk trivial) (fun r hr => ?_) rfl)).mono ?_
    · have h0 := hw.ok r hr
      have key : ∀ k ∈ r.foot, w'.heap[k]? = w.heap[k]? := fun k hk => h2 k (hw.new k (List.mem_flatMap.2 ⟨r, hr, hk⟩)).2 trivial
      exact Res.ok_congr key h0
    · rintro e w' ⟨v, rfl, hb, hr⟩
      exact (K v fun _ => hr w' (Nat.le_refl _) fun _ _ _ => rfl).out _ _ (ha.put hd true v) ((hw.call (φ := fun _ => True) hb (fun _ _ _ => trivial)).weaken fun w h => h.1)
  | false =>
    rw [if_neg (by rw [hwant]; simp)]
    exact (K undef (fun h => by cases h)).out _ _ (ha.put hd false undef) hw

/-! ## Truth values compared -/
theorem PS.eqlB {d : Nat} {g b1 b2 s t : Bool} {ty T T' : TypeId} {pos : String} {after : Array Edge} {gu : Option (Nat × Bool)} {x y : Operand}
    (hx : opnd l x = some (b1, .bool s)) (h1 : g = true → b1 = true) (hy : opnd l y = some (b2, .bool t)) (h2 : g = true → b2 = true) (hT : P.underlying T = some .bool)
    (hd : Nat.blt d E.n = true) (hg : gd ops l gu = some g) : PStep P E ops ⟨some d, .binOp .eql T x y T', ty, pos, after, gu⟩ l own F d g (.bool (s == t)) :=
  .mk rfl hd hg fun ac w hac hw hgt => by
    simp only [execOp, hac.eval hx (h1 hgt), hac.eval hy (h2 hgt)]
    have h : (Op.equal T (.bool s) (.bool t)).run P w = .ok (s == t) w := run_equal_bool w T s t hT
    have h2 : (binOp .eql T (.bool s) (.bool t)).run P w = .ok (.bool (s == t)) w := by
      simp only [binOp, Sem.run_bind, h]; rfl
    have hg : (eqGuard .eql T x y (.bool s) (.bool t)).run P w = .ok () w := rfl
    exact run_next (by rw [Sem.run_bind, hg]; exact h2)

/-! ## Ends -/
section
variable {fn : Func} {p r s k b n : Nat} {T : TypeId} {u v : Value} {cs vs : List Value} {a : Addr} {Φ : Value → World → Prop} {S : Nat → Prop}
theorem finc (hres : fn.results = #[.cell p T]) (hT : ∀ w, (isAgg T).run P w = .ok true w) (hs : ∀ w, (sizeOf T).run P w = .ok n w) (hl : look l p = some (true, .pointer (some a))) (ha : a = ⟨b, 0, none⟩) (hk : nth own k = some (.blk b cs)) (hn : cs.length = n)
    (hS : E.S = S) (hv : ∀ w, F w → Φ (.agg cs.toArray) w) (hX : E.X = [] := by rfl) :
    SE E (bodyPost P fn fun e w' => ∃ v, e = .returned v ∧ Below E.w0.heap.size E.w0 w' ∧ Rob (fun k => S k ∨ E.w0.heap.size ≤ k) w' (Φ v)) .ret l own F :=
  ⟨fun ac w hac hw => by
    obtain ⟨t, ht⟩ := hw.blk hk
    subst ha hn
    exact ⟨hac.defers, _, results_cell hres hT hs hac hl ht, _, rfl, (hX ▸ hw.below).below, Env.good_of hw hS hX hv⟩⟩
theorem finct (hres : fn.results = #[.cell p T, .tmp r]) (hT : ∀ w, (isAgg T).run P w = .ok true w) (hs : ∀ w, (sizeOf T).run P w = .ok n w) (hl : look l p = some (true, .pointer (some a))) (ha : a = ⟨b, 0, none⟩) (hk : nth own k = some (.blk b cs)) (hn : cs.length = n)
    (hl' : look l r = some (true, v)) (hS : E.S = S) (hv : ∀ w, F w → Φ (.tuple #[.agg cs.toArray, v]) w) (hX : E.X = [] := by rfl) :
    SE E (bodyPost P fn fun e w' => ∃ v, e = .returned v ∧ Below E.w0.heap.size E.w0 w' ∧ Rob (fun k => S k ∨ E.w0.heap.size ≤ k) w' (Φ v)) .ret l own F :=
  ⟨fun ac w hac hw => by
    obtain ⟨t, ht⟩ := hw.blk hk
    subst ha hn
    exact ⟨hac.defers, _, results_cell_tmp hres hT hs hac hl hl' ht, _, rfl, (hX ▸ hw.below).below, Env.good_of hw hS hX hv⟩⟩
/-- The end of a call that was handed blocks and hands none back: results in a cell and a slot. -/
theorem finGct {rs : Own} (hres : fn.results = #[.cell p T, .tmp r]) (hT : ∀ w, (isAgg T).run P w = .ok true w) (hs : ∀ w, (sizeOf T).run P w = .ok n w) (hl : look l p = some (true, .pointer (some a))) (ha : a = ⟨b, 0, none⟩) (hk : nth own k = some (.blk b cs)) (hn : cs.length = n)
    (hl' : look l r = some (true, v)) (hS : E.S = S) (hX : E.X = rs.feet) (hv : ∀ w, F w → Φ (.tuple #[.agg cs.toArray, v]) w) :
    SE E (bodyPost P fn fun e w' => ∃ v, e = .returned v ∧ BelowX rs.feet E.w0 w' ∧ (∀ r ∈ (([] : Own)), r.ok w') ∧ (Own.feet []).Nodup ∧
      (∀ k ∈ Own.feet [], (E.w0.heap.size ≤ k ∨ k ∈ rs.feet) ∧ k < w'.heap.size) ∧ Rob (fun k => (S k ∨ E.w0.heap.size ≤ k ∨ k ∈ rs.feet) ∧ k ∉ Own.feet []) w' (Φ v)) .ret l own F := by
  refine finG (rs := rs) (rs' := fun _ => []) (v := .tuple #[.agg cs.toArray, v]) (fun ac w hac hw => ?_) hS hX (List.nil_sublist _) hv
  obtain ⟨t, ht⟩ := hw.blk hk
  subst ha hn
  exact results_cell_tmp hres hT hs hac hl hl' ht
end
end Go.Proofs.YtjdiohhniiooeaaDoor
namespace Go.Proofs.YtjdiohhniiooeaaDoor
open Go.RowKit
variable {P : Program} {E : Env} {ops : Array Oper} {Q : Exit → Act → World → Prop} {rest : List Oper} {l : Slots} {own : Own} {F : World → Prop}
theorem SL.blk_eq {b : Nat} {cs cs' : List Value} (h : cs = cs') (K : SL P E ops Q rest l (.blk b cs' :: own) F) : SL P E ops Q rest l (.blk b cs :: own) F := h ▸ K
theorem SC.blk_eq {c : Code} {b : Nat} {cs cs' : List Value} (h : cs = cs') (K : SC P E Q c l (.blk b cs' :: own) F) : SC P E Q c l (.blk b cs :: own) F := h ▸ K
theorem SE.blk_eq {e : Exit} {b : Nat} {cs cs' : List Value} (h : cs = cs') (K : SE E Q e l (.blk b cs' :: own) F) : SE E Q e l (.blk b cs :: own) F := h ▸ K
theorem SE.fact {e : Exit} {F' : World → Prop} (h : ∀ w, F w → F' w) (K : SE E Q e l own F') : SE E Q e l own F := ⟨fun a w ha hw => K.out a w ha (hw.weaken h)⟩
theorem add2_none (b o i j : Nat) : ((⟨b, o, none⟩ : Addr).add i).add j = ⟨b, o + i + j, none⟩ := by rw [add_none, add_none]
theorem nth_flat' {α : Type} {cells : α → List Value} {sz q i j : Nat} {x : α} {u : Value} {xs : List α} (hsz : ∀ x, (cells x).length = sz) (hx : xs[i]? = some x) (hu : nth (cells x) j = some u) (hq : q = i * sz + j) : nth (xs.flatMap cells) q = some u := by
  subst hq; exact nth_flat hsz hu hx
theorem splice_flat' {α : Type} {cells : α → List Value} {sz q i : Nat} {v : α} {xs ys : List α} (hsz : ∀ x, (cells x).length = sz) (hi : i < xs.length) (hq : q = i * sz) (hy : xs.set i v = ys) : splice (xs.flatMap cells) q (cells v) = ys.flatMap cells := by
  subst hq hy; exact splice_flat hsz v xs i hi
theorem cut_flat' {α : Type} {cells : α → List Value} {sz q i : Nat} {x : α} {xs : List α} (hsz : ∀ x, (cells x).length = sz) (hx : xs[i]? = some x) (hq : q = i * sz) : cut (xs.flatMap cells) q sz = cells x := by
  subst hq; exact cut_flat hsz hx
theorem run_callT {ρ : Operand → Value} {f : FuncId} {x : Operand} {xs : List Operand} {vs : List Value} {ats : Array TypeId} {d : Option Nat} {ty : TypeId} {pos : String} {after : Array Edge} {gu : Option (Nat × Bool)} {w : World}
    (hf : ∀ args w, (callFunc f args).run P w = .ok (.enter f args) w) (hρ : ρ x = .func (.func f) #[] #[]) (hx : xs.map ρ = vs) :
    (execOp ρ ⟨d, .call ⟨.value x, xs.toArray, ats⟩, ty, pos, after, gu⟩).run P w = .ok (.enter f vs.toArray) w := by
  simp [execOp, resolve, hρ, Deferred.ofValue, invoke, hf, hx, List.map_toArray]
/-- A call of what a slot holds. -/
theorem SL.callVT {f : FuncId} {x : Operand} {b1 : Bool} {xs : List Operand} {vs : List Value} {r : Value} {ats : Array TypeId} {d : Nat} {g : Bool} {ty : TypeId} {pos : String} {after : Array Edge} {gu : Option (Nat × Bool)}
    (hc : opnd l x = some (b1, .func (.func f) #[] #[])) (h1 : g = true → b1 = true)
    (hf : ∀ args w, (callFunc f args).run P w = .ok (.enter f args) w) (hx : Args l g xs vs) (hs : g = true → SpecV P f vs r)
    (hd : Nat.blt d E.n = true) (hg : gd ops l gu = some g) (K : SL P E ops Q rest ((d, g, r) :: l) own F) :
    SL P E ops Q (⟨some d, .call ⟨.value x, xs.toArray, ats⟩, ty, pos, after, gu⟩ :: rest) l own F := by
  refine ⟨fun a w ha hw => ?_⟩
  have hwant := wanted_gd (o := ⟨some d, .call ⟨.value x, xs.toArray, ats⟩, ty, pos, after, gu⟩) ha hg
  unfold wpList
  cases g with
  | true =>
    rw [if_pos hwant]
    refine .inl ?_
    unfold Oper.wp
    rw [run_callT hf (ha.eval hc (h1 rfl)) (hx.map ha rfl), Oper.upon_enter]
    refine (hs rfl w).mono ?_
    rintro e w' ⟨rfl, hb⟩
    exact K.out _ _ (ha.put hd true r) ((hw.call (φ := fun _ => True) hb (fun _ _ _ => trivial)).weaken fun w h => h.1)
  | false =>
    rw [if_neg (by rw [hwant]; simp)]
    exact K.out _ _ (ha.put hd false r) hw
end Go.Proofs.YtjdiohhniiooeaaDoor
