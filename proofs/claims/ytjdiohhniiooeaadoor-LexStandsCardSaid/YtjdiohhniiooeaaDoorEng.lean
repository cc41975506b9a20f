/- A small logic for walking Go code: a state is a list of slots with values, a list of blocks that the call owns, and a fact on the world that only new blocks and writes to owned blocks leave standing. -/
import Derived.WalkKit
import Derived.Below
import Derived.WalkLawsBesides
import Derived.WalkSpells
import Derived.KernelRfl
namespace Go.Proofs.YtjdiohhniiooeaaDoor
open Go.RowKit
set_option linter.unusedVariables false

/-! ## Slots -/
/-- slot, guard, value: where the guard is true the slot holds the value, else nothing. -/
abbrev Slots := List (Nat × Bool × Value)
def look : Slots → Nat → Option (Bool × Value)
  | [], _ => none
  | (s, b, v) :: l, i => bif Nat.beq s i then some (b, v) else look l i
def gv (b : Bool) (v : Value) : Value := bif b then v else undef
/-- The frame holds what the list says. -/
structure Has (n : Nat) (l : Slots) (a : Act) : Prop where
  size : a.tmps.size = n
  defers : a.defers = []
  at_ : ∀ i b v, look l i = some (b, v) → a.tmps[i]? = some (gv b v)
theorem Has.put {n d : Nat} {l : Slots} {a : Act} (h : Has n l a) (hd : Nat.blt d n = true) (b : Bool) (v : Value) : Has n ((d, b, v) :: l) (a.put (some d) (gv b v)) := by
  have hd' : d < n := by simpa [Nat.blt_eq] using hd
  refine ⟨by simpa [Act.put] using h.size, h.defers, fun i b' v' hl => ?_⟩
  simp only [Act.put]
  by_cases hi : d = i
  · subst hi
    simp only [look, Nat.beq_refl, cond_true] at hl
    injection hl with hl; injection hl with h1 h2; subst h1 h2
    have hs := h.size
    rw [Array.getElem?_setIfInBounds_self_of_lt (by omega)]
  · have hb : Nat.beq d i = false := by rw [← Bool.not_eq_true]; simpa using hi
    simp only [look, hb, cond_false] at hl
    rw [Array.getElem?_setIfInBounds_ne hi]
    exact h.at_ i b' v' hl
def opnd (l : Slots) : Operand → Option (Bool × Value)
  | .tmp s => look l s
  | .const v => some (true, v)
  | .func f => some (true, .func (.func f) #[] #[])
  | .global g => some (true, .pointer (some ⟨g, 0, none⟩))
theorem Has.eval {n : Nat} {l : Slots} {a : Act} {x : Operand} {b : Bool} {v : Value} (h : Has n l a) (hx : opnd l x = some (b, v)) (hb : b = true) : a.eval x = v := by
  subst hb
  cases x with
  | tmp s =>
    have := h.at_ s true v hx
    simp only [gv, cond_true] at this
    simp only [Act.eval, Array.getD_eq_getD_getElem?, this, Option.getD_some]
  | const c => simp only [opnd, Option.some.injEq, Prod.mk.injEq, true_and] at hx; simpa [Act.eval] using hx
  | func f => simp only [opnd, Option.some.injEq, Prod.mk.injEq, true_and] at hx; simpa [Act.eval] using hx
  | global g => simp only [opnd, Option.some.injEq, Prod.mk.injEq, true_and] at hx; simpa [Act.eval] using hx
/-- The guard of an operation: what it reads as. -/
def gd (ops : Array Oper) (l : Slots) : Option (Nat × Bool) → Option Bool
  | none => some true
  | some (j, w) =>
    match ((ops[j]?).bind (·.dst)).bind (look l), w with
    | some (b, .bool x), true => some (b && x)
    | some (b, .bool x), false => some (b && !x)
    | _, _ => none
theorem wanted_gd {n : Nat} {ops : Array Oper} {l : Slots} {a : Act} {o : Oper} {g : Bool} (h : Has n l a) (hg : gd ops l o.guard = some g) : Region.wanted o (yielded ops a.tmps) = g := by
  unfold Region.wanted
  cases hq : o.guard with
  | none => rw [hq] at hg; simpa [gd] using hg
  | some p =>
    obtain ⟨j, w⟩ := p
    rw [hq] at hg
    simp only [gd] at hg
    cases hd : (ops[j]?).bind (·.dst) with
    | none => simp [hd] at hg
    | some s =>
      simp only [hd, Option.bind_some] at hg
      cases hl : look l s with
      | none => simp [hl] at hg
      | some r =>
        obtain ⟨b, v⟩ := r
        have ht := h.at_ s b v hl
        cases v with
        | bool x =>
          simp only [yielded, hd, Option.bind_some, ht, gv]
          cases b <;> cases x <;> cases w <;> simp_all [undef]
        | _ => simp [hl] at hg

/-! ## The world -/
/-- What the call owns. -/
inductive Res where
  | blk (b : Nat) (cs : List Value)
  | gen (foot : List Nat) (ok : World → Prop) (cong : ∀ w w' : World, (∀ k ∈ foot, w'.heap[k]? = w.heap[k]?) → ok w → ok w')
/-- The blocks that it lies in. -/
def Res.foot : Res → List Nat
  | .blk b _ => [b]
  | .gen f _ _ => f
def Res.ok (w : World) : Res → Prop
  | .blk b cs => ∃ t, w.heap[b]? = some (.cells cs.toArray t (0, 0))
  | .gen _ p _ => p w
theorem Res.ok_congr {r : Res} {w w' : World} (h : ∀ k ∈ r.foot, w'.heap[k]? = w.heap[k]?) (ho : r.ok w) : r.ok w' := by
  cases r with
  | blk b cs => obtain ⟨t, ht⟩ := ho; exact ⟨t, (h b (by simp [Res.foot])).trans ht⟩
  | gen f p c => exact c w w' h ho
abbrev Own := List Res
def Own.feet (own : Own) : List Nat := own.flatMap Res.foot
/-- A fact that stands as long as the blocks of S that are there stay as they are. -/
def Rob (S : Nat → Prop) (w : World) (φ : World → Prop) : Prop :=
  ∀ w' : World, w.heap.size ≤ w'.heap.size → (∀ k, k < w.heap.size → S k → w'.heap[k]? = w.heap[k]?) → φ w'
/-- Nothing that was there has turned, but for the blocks of X. -/
structure BelowX (X : List Nat) (w w' : World) : Prop where
  os : w'.os = w.os
  tape : w'.tape = w.tape
  output : w'.output = w.output
  size : w.heap.size ≤ w'.heap.size
  block : ∀ k, k < w.heap.size → k ∉ X → w'.heap[k]? = w.heap[k]?
theorem BelowX.refl (X : List Nat) (w : World) : BelowX X w w := ⟨rfl, rfl, rfl, Nat.le_refl _, fun _ _ _ => rfl⟩
theorem BelowX.then_ {X : List Nat} {a b c : World} (h : BelowX X a b) (k : Below b.heap.size b c) : BelowX X a c :=
  ⟨k.os.trans h.os, k.tape.trans h.tape, k.output.trans h.output, Nat.le_trans h.size k.size, fun i hi hx => (k.block i (Nat.lt_of_lt_of_le hi h.size)).trans (h.block i hi hx)⟩
theorem BelowX.below {a b : World} (h : BelowX [] a b) : Below a.heap.size a b := ⟨h.os, h.tape, h.output, h.size, fun k hk => h.block k hk (by simp)⟩
structure Env where
  n : Nat
  S : Nat → Prop
  w0 : World
  X : List Nat
def Env.good (E : Env) (own : Own) (k : Nat) : Prop := (E.S k ∨ E.w0.heap.size ≤ k ∨ k ∈ E.X) ∧ k ∉ own.feet
structure SP (E : Env) (own : Own) (F : World → Prop) (w : World) : Prop where
  below : BelowX E.X E.w0 w
  ok : ∀ r ∈ own, r.ok w
  new : ∀ k ∈ own.feet, (E.w0.heap.size ≤ k ∨ k ∈ E.X) ∧ k < w.heap.size
  nodup : own.feet.Nodup
  rob : Rob (E.good own) w F

/-! ## Judgements -/
structure SL (P : Program) (E : Env) (ops : Array Oper) (Q : Exit → Act → World → Prop) (rest : List Oper) (l : Slots) (own : Own) (F : World → Prop) : Prop where
  out : ∀ a w, Has E.n l a → SP E own F w → wpList P ops Q rest a w
structure SC (P : Program) (E : Env) (Q : Exit → Act → World → Prop) (c : Code) (l : Slots) (own : Own) (F : World → Prop) : Prop where
  out : ∀ a w, Has E.n l a → SP E own F w → c.wp P Q a w
structure SE (E : Env) (Q : Exit → Act → World → Prop) (e : Exit) (l : Slots) (own : Own) (F : World → Prop) : Prop where
  out : ∀ a w, Has E.n l a → SP E own F w → Q e a w

variable {P : Program} {E : Env} {ops : Array Oper} {Q : Exit → Act → World → Prop} {rest : List Oper} {l : Slots} {own : Own} {F : World → Prop}

theorem tt {g : Bool} : g = true → true = true := fun _ => rfl
theorem and_l {a b : Bool} (h : (a && b) = true) : a = true := (Bool.and_eq_true_iff.1 h).1
theorem pk_or {g s : Bool} (h : g = true) (hs : s = false) : (g && !s) = true := by rw [h, hs]; rfl
theorem pk_and {g s : Bool} (h : g = true) (hs : s = true) : (g && s) = true := by rw [h, hs]; rfl
theorem SL.nil (h : SE E Q .normal l own F) : SL P E ops Q [] l own F := ⟨h.out⟩
/-- An operation that gives a value and leaves the world alone. -/
structure PStep (P : Program) (E : Env) (ops : Array Oper) (o : Oper) (l : Slots) (own : Own) (F : World → Prop) (d : Nat) (g : Bool) (v : Value) : Prop where
  dst : o.dst = some d
  lt : Nat.blt d E.n = true
  gd_ : gd ops l o.guard = some g
  run : ∀ a w, Has E.n l a → SP E own F w → g = true → (execOp a.eval o).run P w = .ok (.value v) w
theorem SL.val {o : Oper} {d : Nat} {g : Bool} (v : Value) (hdst : o.dst = some d) (hd : Nat.blt d E.n = true) (hg : gd ops l o.guard = some g)
    (hrun : ∀ a w, Has E.n l a → SP E own F w → g = true → (execOp a.eval o).run P w = .ok (.value v) w)
    (K : SL P E ops Q rest ((d, g, v) :: l) own F) : SL P E ops Q (o :: rest) l own F := by
  refine ⟨fun a w ha hw => ?_⟩
  have hwant := wanted_gd ha hg
  have hput := ha.put hd g v
  unfold wpList
  cases g with
  | true =>
    rw [if_pos hwant]
    refine .inl ?_
    unfold Oper.wp
    rw [hrun a w ha hw rfl, Oper.upon_value, hdst]
    exact K.out _ _ hput hw
  | false =>
    rw [if_neg (by rw [hwant]; simp), hdst]
    exact K.out _ _ hput hw
theorem SL.step {o : Oper} {d : Nat} {g : Bool} {v : Value} (h : PStep P E ops o l own F d g v) (K : SL P E ops Q rest ((d, g, v) :: l) own F) : SL P E ops Q (o :: rest) l own F :=
  SL.val v h.dst h.lt h.gd_ h.run K
/-- Slots that are wanted no more. -/
def Sub (l : Slots) : Slots → Prop
  | [] => True
  | (s, b, v) :: r => look l s = some (b, v) ∧ Sub l r
theorem Sub.look {l : Slots} : ∀ {l' : Slots}, Sub l l' → ∀ i b v, look l' i = some (b, v) → look l i = some (b, v)
  | [], _, _, _, _, h => by simp [Proofs.YtjdiohhniiooeaaDoor.look] at h
  | (s, b', v') :: r, ⟨h1, h2⟩, i, b, v, h => by
    simp only [Proofs.YtjdiohhniiooeaaDoor.look] at h
    cases hb : Nat.beq s i with
    | true =>
      rw [hb, cond_true] at h
      have : s = i := Nat.eq_of_beq_eq_true hb
      subst this
      rw [h1]; exact h
    | false =>
      rw [hb, cond_false] at h
      exact h2.look i b v h
theorem Has.sub {n : Nat} {l l' : Slots} {a : Act} (h : Has n l a) (hs : Sub l l') : Has n l' a := ⟨h.size, h.defers, fun i b v hl => h.at_ i b v (hs.look i b v hl)⟩
theorem SL.keep {l' : Slots} (hs : Sub l l') (K : SL P E ops Q rest l' own F) : SL P E ops Q rest l own F := ⟨fun a w ha hw => K.out a w (ha.sub hs) hw⟩
theorem SC.keep {c : Code} {l' : Slots} (hs : Sub l l') (K : SC P E Q c l' own F) : SC P E Q c l own F := ⟨fun a w ha hw => K.out a w (ha.sub hs) hw⟩

theorem SC.seq {x y : Code} (h : ∀ K : Act → World → Prop, (∀ a w, y.wp P Q a w → K a w) → SC P E (Exit.then K Q) x l own F) : SC P E Q (.seq x y) l own F :=
  ⟨fun a w ha hw => wp_seq_k fun K hK => (h K hK).out a w ha hw⟩
theorem SC.region {id : Nat} {os : List Oper} (h : SL P E os.toArray Q os l own F) : SC P E Q (.region id os.toArray false) l own F :=
  ⟨fun a w ha hw => wp_region_lit (h.out a w ha hw)⟩
theorem SC.block {id : Nat} {c : Code} (h : SC P E (Exit.inBlock id Q) c l own F) : SC P E Q (.block id c) l own F := ⟨fun a w ha hw => wp_block (h.out a w ha hw)⟩
theorem SC.ret (h : SE E Q .ret l own F) : SC P E Q .ret l own F := ⟨fun a w ha hw => wp_ret (h.out a w ha hw)⟩
theorem SC.skip (h : SE E Q .normal l own F) : SC P E Q .skip l own F := ⟨fun a w ha hw => wp_skip (h.out a w ha hw)⟩
theorem SC.exit {id : Nat} (h : SE E Q (.exit id) l own F) : SC P E Q (.exit id) l own F := ⟨fun a w ha hw => wp_exit (h.out a w ha hw)⟩
theorem SC.cond {c : Operand} {x y : Code} {t : Bool} (hc : opnd l c = some (true, .bool t)) (h1 : t = true → SC P E Q x l own F) (h2 : t = false → SC P E Q y l own F) : SC P E Q (.cond c x y) l own F :=
  ⟨fun a w ha hw => wp_cond_split (ha.eval hc rfl) (fun h => (h1 h).out a w ha hw) (fun h => (h2 h).out a w ha hw)⟩
theorem SE.thenK {K : Act → World → Prop} {y : Code} (hK : ∀ a w, y.wp P Q a w → K a w) (h : SC P E Q y l own F) : SE E (Exit.then K Q) .normal l own F := ⟨fun a w ha hw => hK _ _ (h.out a w ha hw)⟩
theorem SE.then_ret {K : Act → World → Prop} (h : SE E Q .ret l own F) : SE E (Exit.then K Q) .ret l own F := ⟨h.out⟩
theorem SE.then_exit {K : Act → World → Prop} {i : Nat} (h : SE E Q (.exit i) l own F) : SE E (Exit.then K Q) (.exit i) l own F := ⟨h.out⟩
theorem SE.block_normal {id : Nat} (h : SE E Q .normal l own F) : SE E (Exit.inBlock id Q) .normal l own F := ⟨h.out⟩
theorem SE.block_ret {id : Nat} (h : SE E Q .ret l own F) : SE E (Exit.inBlock id Q) .ret l own F := ⟨h.out⟩
theorem SE.block_same {id : Nat} (h : SE E Q .normal l own F) : SE E (Exit.inBlock id Q) (.exit id) l own F := ⟨fun a w ha hw => by simp only [Exit.inBlock, if_true]; exact h.out a w ha hw⟩
theorem SE.block_other {id i : Nat} (hi : Nat.beq i id = false) (h : SE E Q (.exit i) l own F) : SE E (Exit.inBlock id Q) (.exit i) l own F :=
  ⟨fun a w ha hw => by simp only [Exit.inBlock, if_neg (Nat.ne_of_beq_eq_false hi)]; exact h.out a w ha hw⟩


theorem run_shl {k k' : IntKind} {m n : Int} {T : TypeId} {x y : Operand} {w : World} (hn : 0 ≤ n) :
    Sem.run P (do let __do_lift ← (do eqGuard .shl T x y (.int k m) (.int k' n); binOp .shl T (.int k m) (.int k' n)); pure (Next.value __do_lift)) w = .ok (.value (.int k (k.wrap (m * 2 ^ (min n.toNat k.bits))))) w := by
  have : ¬ n < 0 := by omega
  simp [eqGuard, binOp, Op.shift, this]
theorem run_shr {k k' : IntKind} {m n : Int} {T : TypeId} {x y : Operand} {w : World} (hn : 0 ≤ n) :
    Sem.run P (do let __do_lift ← (do eqGuard .shr T x y (.int k m) (.int k' n); binOp .shr T (.int k m) (.int k' n)); pure (Next.value __do_lift)) w = .ok (.value (.int k (m / 2 ^ (min n.toNat k.bits)))) w := by
  have : ¬ n < 0 := by omega
  simp [eqGuard, binOp, Op.shift, this]
  rw [Int.fdiv_eq_ediv_of_nonneg]
  exact Int.le_of_lt (Int.pow_pos (by decide))
theorem run_quo {k : IntKind} {m n : Int} {T : TypeId} {x y : Operand} {w : World} (hn : n ≠ 0) :
    Sem.run P (do let __do_lift ← (do eqGuard .quo T x y (.int k m) (.int k n); binOp .quo T (.int k m) (.int k n)); pure (Next.value __do_lift)) w = .ok (.value (.int k (k.wrap (m.tdiv n)))) w := by
  simp [eqGuard, binOp, Op.intDiv, hn]
theorem run_rem {k : IntKind} {m n : Int} {T : TypeId} {x y : Operand} {w : World} (hn : n ≠ 0) :
    Sem.run P (do let __do_lift ← (do eqGuard .rem T x y (.int k m) (.int k n); binOp .rem T (.int k m) (.int k n)); pure (Next.value __do_lift)) w = .ok (.value (.int k (m.tmod n))) w := by
  simp [eqGuard, binOp, Op.intDiv, hn]
theorem run_conv {k k' : IntKind} {m : Int} {T T' : TypeId} {w : World} (hT : P.underlying T = some (.int k)) (hT' : P.underlying T' = some (.int k')) :
    Sem.run P (do let __do_lift ← convert T T' (.int k m); pure (Next.value __do_lift)) w = .ok (.value (.int k' (k'.wrap m))) w := by
  simp [convert, run_underlying hT, run_underlying hT', Conv.intToInt]
def nth {α : Type} : List α → Nat → Option α
  | [], _ => none
  | x :: _, 0 => some x
  | _ :: l, i + 1 => nth l i
theorem nth_eq {α : Type} : ∀ (l : List α) (i : Nat), nth l i = l[i]?
  | [], _ => rfl
  | _ :: _, 0 => rfl
  | _ :: l, i + 1 => by rw [nth, nth_eq l i, List.getElem?_cons_succ]
theorem run_extract {us : List Value} {i : Nat} {v : Value} {w : World} (hi : nth us i = some v) :
    Sem.run P (do let __do_lift ← Instr.extract (.tuple us.toArray) i; pure (Next.value __do_lift)) w = .ok (.value v) w := by
  rw [nth_eq] at hi
  simp [Instr.extract, hi]

/-! ## Calls -/
/-- A contract: wherever what it asks stands robustly, the call returns; old memory is as it was; what it says of the value stands robustly. -/
def Spec (P : Program) (f : FuncId) (args : List Value) (Pre : World → Prop) (Φ : Value → World → Prop) : Prop :=
  ∀ (S : Nat → Prop) (w : World), Rob S w Pre → Calls P f args.toArray w fun e w' => ∃ v, e = .returned v ∧ Below w.heap.size w w' ∧ Rob (fun k => S k ∨ w.heap.size ≤ k) w' (Φ v)
/-- A contract of a call that only computes a value out of values. -/
def SpecV (P : Program) (f : FuncId) (args : List Value) (r : Value) : Prop :=
  ∀ w : World, Calls P f args.toArray w fun e w' => e = .returned r ∧ Below w.heap.size w w'
theorem SpecV.of_same {f : FuncId} {args : List Value} {r : Value} (h : ∀ w, Calls P f args.toArray w fun e w' => e = .returned r ∧ w = w') : SpecV P f args r :=
  fun w => (h w).mono fun _ _ ⟨he, hw⟩ => ⟨he, hw ▸ Below.refl _ _⟩
def Args (l : Slots) (g : Bool) : List Operand → List Value → Prop
  | [], [] => True
  | x :: xs, v :: vs => (∃ b, opnd l x = some (b, v) ∧ (g = true → b = true)) ∧ Args l g xs vs
  | _, _ => False
theorem Args.map {n : Nat} {a : Act} {g : Bool} (ha : Has n l a) (hg : g = true) : ∀ {xs : List Operand} {vs : List Value}, Args l g xs vs → xs.map a.eval = vs
  | [], [], _ => rfl
  | x :: xs, v :: vs, ⟨⟨b, hb, hgb⟩, h⟩ => by rw [List.map_cons, Args.map ha hg h, ha.eval hb (hgb hg)]
theorem run_call {ρ : Operand → Value} {f : FuncId} {xs : List Operand} {vs : List Value} {ats : Array TypeId} {d : Option Nat} {ty : TypeId} {pos : String} {after : Array Edge} {gu : Option (Nat × Bool)} {w : World}
    (hf : ∀ args w, (callFunc f args).run P w = .ok (.enter f args) w) (hρ : ρ (.func f) = .func (.func f) #[] #[]) (hx : xs.map ρ = vs) :
    (execOp ρ ⟨d, .call ⟨.value (.func f), xs.toArray, ats⟩, ty, pos, after, gu⟩).run P w = .ok (.enter f vs.toArray) w := by
  simp [execOp, resolve, hρ, Deferred.ofValue, invoke, hf, hx, List.map_toArray]
theorem SP.call {w w' : World} {φ : World → Prop} (h : SP E own F w) (hb : Below w.heap.size w w') (hr : Rob (fun k => E.good own k ∨ w.heap.size ≤ k) w' φ) : SP E own (fun w => F w ∧ φ w) w' := by
  refine ⟨h.below.then_ hb, fun r hr' => ?_, fun k hk => ⟨(h.new k hk).1, Nat.lt_of_lt_of_le (h.new k hk).2 hb.size⟩, h.nodup, fun w'' hs heq => ⟨h.rob w'' (Nat.le_trans hb.size hs) fun k hk hg => ?_, hr w'' hs fun k hk hg => heq k hk ?_⟩⟩
  · have hn : ∀ k ∈ r.foot, w'.heap[k]? = w.heap[k]? := fun k hk => hb.block k (h.new k (List.mem_flatMap.2 ⟨r, hr', hk⟩)).2
    have := h.ok r hr'
    exact Res.ok_congr hn this
  · exact (heq k (Nat.lt_of_lt_of_le hk hb.size) hg).trans (hb.block k hk)
  · rcases hg with hg | hg
    · exact hg
    · exact ⟨.inr (.inl (Nat.le_trans h.below.size hg)), fun hk' => by have := (h.new k hk').2; omega⟩
theorem SP.weaken {w : World} {F' : World → Prop} (h : SP E own F w) (hf : ∀ w, F w → F' w) : SP E own F' w := ⟨h.below, h.ok, h.new, h.nodup, fun w' hs he => hf _ (h.rob w' hs he)⟩
theorem SP.now {w : World} (h : SP E own F w) : F w := h.rob w (Nat.le_refl _) fun _ _ _ => rfl
theorem SL.call {f : FuncId} {xs : List Operand} {vs : List Value} {ats : Array TypeId} {d : Nat} {g : Bool} {ty : TypeId} {pos : String} {after : Array Edge} {gu : Option (Nat × Bool)} {Pre : World → Prop} {Φ : Value → World → Prop}
    (hf : ∀ args w, (callFunc f args).run P w = .ok (.enter f args) w) (hx : Args l g xs vs) (hs : g = true → Spec P f vs Pre Φ) (hpre : ∀ w, F w → g = true → Pre w)
    (hd : Nat.blt d E.n = true) (hg : gd ops l gu = some g) (K : ∀ v, SL P E ops Q rest ((d, g, v) :: l) own (fun w => F w ∧ (g = true → Φ v w))) :
    SL P E ops Q (⟨some d, .call ⟨.value (.func f), xs.toArray, ats⟩, ty, pos, after, gu⟩ :: rest) l own F := by
  refine ⟨fun a w ha hw => ?_⟩
  have hwant := wanted_gd (o := ⟨some d, .call ⟨.value (.func f), xs.toArray, ats⟩, ty, pos, after, gu⟩) ha hg
  unfold wpList
  cases g with
  | true =>
    rw [if_pos hwant]
    refine .inl ?_
    unfold Oper.wp
    rw [run_call hf rfl (hx.map ha rfl), Oper.upon_enter]
    refine (hs rfl (E.good own) w (fun w' h1 h2 => hpre w' (hw.rob w' h1 h2) rfl)).mono ?_
    rintro e w' ⟨v, rfl, hb, hr⟩
    exact (K v).out _ _ (ha.put hd true v) ((hw.call hb hr).weaken fun w h => ⟨h.1, fun _ => h.2⟩)
  | false =>
    rw [if_neg (by rw [hwant]; simp)]
    exact (K undef).out _ _ (ha.put hd false undef) (hw.weaken fun w h => ⟨h, fun h' => by cases h'⟩)
theorem SL.callV {f : FuncId} {xs : List Operand} {vs : List Value} {r : Value} {ats : Array TypeId} {d : Nat} {g : Bool} {ty : TypeId} {pos : String} {after : Array Edge} {gu : Option (Nat × Bool)}
    (hf : ∀ args w, (callFunc f args).run P w = .ok (.enter f args) w) (hx : Args l g xs vs) (hs : g = true → SpecV P f vs r)
    (hd : Nat.blt d E.n = true) (hg : gd ops l gu = some g) (K : SL P E ops Q rest ((d, g, r) :: l) own F) :
    SL P E ops Q (⟨some d, .call ⟨.value (.func f), xs.toArray, ats⟩, ty, pos, after, gu⟩ :: rest) l own F := by
  refine ⟨fun a w ha hw => ?_⟩
  have hwant := wanted_gd (o := ⟨some d, .call ⟨.value (.func f), xs.toArray, ats⟩, ty, pos, after, gu⟩) ha hg
  unfold wpList
  cases g with
  | true =>
    rw [if_pos hwant]
    refine .inl ?_
    unfold Oper.wp
    rw [run_call hf rfl (hx.map ha rfl), Oper.upon_enter]
    refine (hs rfl w).mono ?_
    rintro e w' ⟨rfl, hb⟩
    exact K.out _ _ (ha.put hd true r) ((hw.call (φ := fun _ => True) hb (fun _ _ _ => trivial)).weaken fun w h => h.1)
  | false =>
    rw [if_neg (by rw [hwant]; simp)]
    exact K.out _ _ (ha.put hd false r) hw

theorem PS.ext {f : FuncId} {xs : List Operand} {vs : List Value} {r : Value} {ats : Array TypeId} {d : Nat} {g : Bool} {ty : TypeId} {pos : String} {after : Array Edge} {gu : Option (Nat × Bool)}
    (hx : Args l g xs vs) (hs : g = true → ∀ w, (callFunc f vs.toArray).run P w = .ok (.value r) w)
    (hd : Nat.blt d E.n = true) (hg : gd ops l gu = some g) :
    PStep P E ops ⟨some d, .call ⟨.value (.func f), xs.toArray, ats⟩, ty, pos, after, gu⟩ l own F d g (r) :=
  .mk rfl hd hg (fun a w ha _ hgt => by
    have e := hx.map ha hgt
    have e' := hs hgt w
    simp [execOp, resolve, Deferred.ofValue, invoke, Act.eval, List.map_toArray, e, e'])
/-! ## The way in, the way out -/
theorem Rob.mono {S : Nat → Prop} {w : World} {φ ψ : World → Prop} (h : Rob S w φ) (hi : ∀ w, φ w → ψ w) : Rob S w ψ := fun w' h1 h2 => hi w' (h w' h1 h2)
def start : List Value → Nat → Slots
  | [], _ => []
  | v :: vs, k => (k, true, v) :: start vs (k + 1)
theorem look_start (i : Nat) (b : Bool) (v : Value) : ∀ (vs : List Value) (k : Nat), look (start vs k) i = some (b, v) → b = true ∧ k ≤ i ∧ vs[i - k]? = some v
  | [], k, h => by simp [start, look] at h
  | u :: vs, k, h => by
    simp only [start, look] at h
    cases hb : Nat.beq k i with
    | true =>
      rw [hb, cond_true] at h
      have : k = i := Nat.eq_of_beq_eq_true hb
      subst this
      simp only [Option.some.injEq, Prod.mk.injEq] at h
      exact ⟨h.1.symm, Nat.le_refl _, by simp [h.2]⟩
    | false =>
      rw [hb, cond_false] at h
      obtain ⟨h1, h2, h3⟩ := look_start i b v vs _ h
      refine ⟨h1, by omega, ?_⟩
      rw [show i - k = (i - (k + 1)) + 1 from by omega, List.getElem?_cons_succ]
      exact h3
theorem Has.start {n : Nat} {args : List Value} (h : args.length ≤ n) : Has n (start args 0) ⟨args.toArray ++ Array.replicate (n - args.toArray.size) undef, []⟩ := by
  refine ⟨by simp; omega, rfl, fun i b v hl => ?_⟩
  obtain ⟨rfl, _, h3⟩ := look_start i b v args 0 hl
  simp only [Nat.sub_zero] at h3
  have hi : i < args.length := (List.getElem?_eq_some_iff.1 h3).1
  simp only [gv, cond_true]
  rw [Array.getElem?_append_left (by simpa using hi)]
  simpa using h3
/-- A function's contract out of its body. -/
theorem Spec.enter {f : FuncId} {fn : Func} {c : Code} {args : List Value} {Pre : World → Prop} {Φ : Value → World → Prop} {l : Slots} (hf : P.funcs[f]? = some fn) (hb : fn.body = some c) {n : Nat} (hnt : fn.ntmps = n) (hn : args.length ≤ n)
    (hl : start args 0 = l)
    (h : ∀ (S : Nat → Prop) (w : World), SC P ⟨n, S, w, []⟩ (bodyPost P fn fun e w' => ∃ v, e = .returned v ∧ Below w.heap.size w w' ∧ Rob (fun k => S k ∨ w.heap.size ≤ k) w' (Φ v)) c l [] Pre) : Spec P f args Pre Φ := by
  subst hl hnt
  intro S w hr
  refine calls_of_wp hf hb ((h S w).out _ w (Has.start hn) ⟨BelowX.refl _ _, by simp, by simp [Own.feet], by simp [Own.feet], fun w' hs he => ?_⟩)
  exact hr w' hs fun k hk hS => he k hk ⟨.inl hS, by simp [Own.feet]⟩
theorem SpecV.enter {f : FuncId} {fn : Func} {c : Code} {args : List Value} {r : Value} {l : Slots} (hf : P.funcs[f]? = some fn) (hb : fn.body = some c) {n : Nat} (hnt : fn.ntmps = n) (hn : args.length ≤ n)
    (hl : start args 0 = l)
    (h : ∀ w : World, SC P ⟨n, fun _ => True, w, []⟩ (bodyPost P fn fun e w' => e = .returned r ∧ Below w.heap.size w w') c l [] (fun _ => True)) : SpecV P f args r := by
  subst hl hnt
  intro w
  exact calls_of_wp hf hb ((h w).out _ w (Has.start hn) ⟨BelowX.refl _ _, by simp, by simp [Own.feet], by simp [Own.feet], fun _ _ _ => trivial⟩)
theorem results_run1 {fn : Func} {r : Nat} {v : Value} {n : Nat} {a : Act} {w : World} (hres : fn.results = #[.tmp r]) (ha : Has n l a) (hl : look l r = some (true, v)) : (results fn a.tmps).run P w = .ok v w := by
  have := ha.eval (x := .tmp r) hl rfl
  simp only [Act.eval] at this
  rw [results_tmp hres, this]
theorem results_run2 {fn : Func} {r s : Nat} {u v : Value} {n : Nat} {a : Act} {w : World} (hres : fn.results = #[.tmp r, .tmp s]) (ha : Has n l a) (hl : look l r = some (true, u)) (hl' : look l s = some (true, v)) : (results fn a.tmps).run P w = .ok (.tuple #[u, v]) w := by
  have h1 := ha.eval (x := .tmp r) hl rfl
  have h2 := ha.eval (x := .tmp s) hl' rfl
  simp only [Act.eval] at h1 h2
  rw [results_tmp2 hres, h1, h2]
theorem finV1 {fn : Func} {r : Nat} {v u : Value} (hres : fn.results = #[.tmp r]) (hl : look l r = some (true, v)) (hv : ∀ w, F w → v = u) (hX : E.X = [] := by rfl) : SE E (bodyPost P fn fun e w' => e = .returned u ∧ Below E.w0.heap.size E.w0 w') .ret l own F :=
  ⟨fun a w ha hw => ⟨ha.defers, v, results_run1 hres ha hl, by rw [hv w hw.now], (hX ▸ hw.below).below⟩⟩
theorem finV2 {fn : Func} {r s : Nat} {v v' u : Value} (hres : fn.results = #[.tmp r, .tmp s]) (hl : look l r = some (true, v)) (hl' : look l s = some (true, v')) (hv : ∀ w, F w → Value.tuple #[v, v'] = u) (hX : E.X = [] := by rfl) :
    SE E (bodyPost P fn fun e w' => e = .returned u ∧ Below E.w0.heap.size E.w0 w') .ret l own F :=
  ⟨fun a w ha hw => ⟨ha.defers, _, results_run2 hres ha hl hl', by rw [hv w hw.now], (hX ▸ hw.below).below⟩⟩
theorem Env.good_of {w' : World} {S : Nat → Prop} (h : SP E own F w') (hS : E.S = S) (hX : E.X = []) {φ : World → Prop} (hf : ∀ w, F w → φ w) : Rob (fun k => (S k ∨ E.w0.heap.size ≤ k)) w' φ := by
  subst hS
  exact fun w'' hs he => hf _ (h.rob w'' hs fun k hk hg => he k hk (by rcases hg.1 with h | h | h; exact .inl h; exact .inr h; rw [hX] at h; cases h))
theorem fin1 {fn : Func} {r : Nat} {v : Value} {Φ : Value → World → Prop} {S : Nat → Prop} (hres : fn.results = #[.tmp r]) (hl : look l r = some (true, v)) (hS : E.S = S) (hv : ∀ w, F w → Φ v w) (hX : E.X = [] := by rfl) :
    SE E (bodyPost P fn fun e w' => ∃ v, e = .returned v ∧ Below E.w0.heap.size E.w0 w' ∧ Rob (fun k => S k ∨ E.w0.heap.size ≤ k) w' (Φ v)) .ret l own F :=
  ⟨fun _ _ ha hw => ⟨ha.defers, v, results_run1 hres ha hl, v, rfl, (hX ▸ hw.below).below, Env.good_of hw hS hX hv⟩⟩

/-! ## Tests decided; a cut -/
theorem SC.cond_t {c : Operand} {x y : Code} {t : Bool} (hc : opnd l c = some (true, .bool t)) (ht : t = true) (h1 : SC P E Q x l own F) : SC P E Q (.cond c x y) l own F :=
  SC.cond hc (fun _ => h1) (fun h => by rw [ht] at h; cases h)
theorem SC.cond_f {c : Operand} {x y : Code} {t : Bool} (hc : opnd l c = some (true, .bool t)) (ht : t = false) (h1 : SC P E Q y l own F) : SC P E Q (.cond c x y) l own F :=
  SC.cond hc (fun h => by rw [ht] at h; cases h) (fun _ => h1)
structure St where
  l : Slots
  own : Own
  F : World → Prop
def St.sat (E : Env) (s : St) (a : Act) (w : World) : Prop := Has E.n s.l a ∧ SP E s.own s.F w
/-- The ways through a statement meet again: what stands behind it, whichever was gone. -/
theorem SC.cut {α : Type} (M : α → St) {x y : Code} (h1 : SC P E (Exit.then (fun a w => ∃ i, (M i).sat E a w) Q) x l own F) (h2 : ∀ i, SC P E Q y (M i).l (M i).own (M i).F) : SC P E Q (.seq x y) l own F :=
  ⟨fun a w ha hw => wp_seq (Code.wp_mono (fun e _ _ h => by
    cases e with
    | normal => obtain ⟨i, hi⟩ := h; exact (h2 i).out _ _ hi.1 hi.2
    | _ => exact h) (h1.out a w ha hw))⟩
theorem SE.meet {α : Type} {M : α → St} (i : α) {l' : Slots} {F' : World → Prop} (hM : M i = ⟨l', own, F'⟩) (hs : Sub l l') (hf : ∀ w, F w → F' w) : SE E (Exit.then (fun a w => ∃ i, (M i).sat E a w) Q) .normal l own F :=
  ⟨fun a w ha hw => ⟨i, by rw [hM]; exact ⟨ha.sub hs, hw.weaken hf⟩⟩⟩
theorem wp_loop_ix {α : Type} {c : Code} (I : α → Act → World → Prop) (μ : α → Nat) {a : Act} {w : World} (i : α) (h₀ : I i a w)
    (round : ∀ i a w, I i a w → c.wp P (Exit.then (fun a' w' => ∃ j, I j a' w' ∧ μ j < μ i) Q) a w) : (Code.loop c).wp P Q a w := by
  intro b k cs
  have key : ∀ n i a w, μ i = n → I i a w → ∃ e a' w', Q e a' w' ∧ Arrives P (lone (b.at a (.code c :: .inLoop c :: k)) cs w) b k cs e a' w' := by
    intro n
    induction n using Nat.strongRecOn with
    | _ n ih =>
      intro i a w hn hI
      obtain ⟨e, a₁, w₁, hq, harr⟩ := round i a w hI b (.inLoop c :: k) cs
      cases e with
      | normal =>
        obtain ⟨j, hI₁, hlt⟩ := hq
        obtain ⟨e₂, a₂, w₂, hq₂, harr₂⟩ := ih (μ j) (hn ▸ hlt) j a₁ w₁ rfl hI₁
        exact ⟨e₂, a₂, w₂, hq₂, .of_steps (Steps.trans harr (.one step_inLoop)) harr₂⟩
      | _ => exact ⟨_, a₁, w₁, hq, .pass (x := .inLoop c) rfl (fun _ _ => .inl (by simp)) harr⟩
  obtain ⟨e, a', w', hq, harr⟩ := key _ i a w rfl h₀
  exact ⟨e, a', w', hq, .of_steps (.one step_loop) harr⟩
theorem SC.loop {α : Type} (M : α → St) (μ : α → Nat) {c : Code} (i : α) {l' : Slots} {F' : World → Prop} (hM : M i = ⟨l', own, F'⟩) (hs : Sub l l') (hf : ∀ w, F w → F' w)
    (round : ∀ i, SC P E (Exit.then (fun a w => ∃ j, (M j).sat E a w ∧ μ j < μ i) Q) c (M i).l (M i).own (M i).F) : SC P E Q (.loop c) l own F :=
  ⟨fun a w ha hw => wp_loop_ix (fun i a w => (M i).sat E a w) μ i (by rw [hM]; exact ⟨ha.sub hs, hw.weaken hf⟩) fun i a w h => (round i).out a w h.1 h.2⟩
theorem SE.again {α : Type} {M : α → St} {μ : α → Nat} {n : Nat} (i : α) {l' : Slots} {F' : World → Prop} (hM : M i = ⟨l', own, F'⟩) (hs : Sub l l') (hf : ∀ w, F w → F' w) (hμ : μ i < n) :
    SE E (Exit.then (fun a w => ∃ j, (M j).sat E a w ∧ μ j < n) Q) .normal l own F :=
  ⟨fun a w ha hw => ⟨i, by rw [hM]; exact ⟨⟨ha.sub hs, hw.weaken hf⟩, hμ⟩⟩⟩
/-- What the fact on the world says of values may be used. -/
theorem SC.know {c : Code} {p : Prop} (h : ∀ w, F w → p) (K : p → SC P E Q c l own F) : SC P E Q c l own F := ⟨fun a w ha hw => (K (h w hw.now)).out a w ha hw⟩
theorem SL.know {p : Prop} (h : ∀ w, F w → p) (K : p → SL P E ops Q rest l own F) : SL P E ops Q rest l own F := ⟨fun a w ha hw => (K (h w hw.now)).out a w ha hw⟩
theorem SE.know {e : Exit} {p : Prop} (h : ∀ w, F w → p) (K : p → SE E Q e l own F) : SE E Q e l own F := ⟨fun a w ha hw => (K (h w hw.now)).out a w ha hw⟩
theorem SL.fact {F' : World → Prop} (h : ∀ w, F w → F' w) (K : SL P E ops Q rest l own F') : SL P E ops Q rest l own F := ⟨fun a w ha hw => K.out a w ha (hw.weaken h)⟩
theorem SC.fact {c : Code} {F' : World → Prop} (h : ∀ w, F w → F' w) (K : SC P E Q c l own F') : SC P E Q c l own F := ⟨fun a w ha hw => K.out a w ha (hw.weaken h)⟩

theorem wr_i64 {z : Int} (h : -9223372036854775808 ≤ z ∧ z ≤ 9223372036854775807) : IntKind.i64.wrap z = z := by rw [IntKind.wrap_i64]; omega
theorem wr_u64 {z : Int} (h : 0 ≤ z ∧ z ≤ 18446744073709551615) : IntKind.u64.wrap z = z := by rw [IntKind.wrap_u64]; omega
theorem wr_u8 {z : Int} (h : 0 ≤ z ∧ z ≤ 255) : IntKind.u8.wrap z = z := by rw [IntKind.wrap_u8]; omega
/-! ## Operations on numbers and truths -/
section
variable {d : Nat} {g b1 b2 b3 : Bool} {ty : TypeId} {pos : String} {after : Array Edge} {gu : Option (Nat × Bool)} {x y c : Operand} {T T' : TypeId} {k : IntKind} {m n : Int} {u v z : Value} {s t : Bool}
theorem PS.move (hx : opnd l x = some (b1, v)) (h1 : g = true → b1 = true) (hd : Nat.blt d E.n = true) (hg : gd ops l gu = some g) :
    PStep P E ops ⟨some d, .move x, ty, pos, after, gu⟩ l own F d g (v) :=
  .mk rfl hd hg (fun a w ha _ hgt => by have e := ha.eval hx (h1 hgt); simp only [execOp, e]; rfl)
theorem PS.assign (hx : opnd l x = some (b1, v)) (h1 : g = true → b1 = true) (hd : Nat.blt d E.n = true) (hg : gd ops l gu = some g) :
    PStep P E ops ⟨some d, .assign x, ty, pos, after, gu⟩ l own F d g (v) :=
  .mk rfl hd hg (fun a w ha _ hgt => by have e := ha.eval hx (h1 hgt); simp only [execOp, e]; rfl)
theorem PS.lss (hx : opnd l x = some (b1, .int k m)) (h1 : g = true → b1 = true) (hy : opnd l y = some (b2, .int k n)) (h2 : g = true → b2 = true) (hd : Nat.blt d E.n = true) (hg : gd ops l gu = some g) :
    PStep P E ops ⟨some d, .binOp .lss T x y T', ty, pos, after, gu⟩ l own F d g (.bool (decide (m < n))) :=
  .mk rfl hd hg (fun a w ha _ hgt => by have e := ha.eval hx (h1 hgt); have e' := ha.eval hy (h2 hgt); simp only [execOp, e, e']; simp [go_sem])
theorem PS.leq (hx : opnd l x = some (b1, .int k m)) (h1 : g = true → b1 = true) (hy : opnd l y = some (b2, .int k n)) (h2 : g = true → b2 = true) (hd : Nat.blt d E.n = true) (hg : gd ops l gu = some g) :
    PStep P E ops ⟨some d, .binOp .leq T x y T', ty, pos, after, gu⟩ l own F d g (.bool (decide (m ≤ n))) :=
  .mk rfl hd hg (fun a w ha _ hgt => by have e := ha.eval hx (h1 hgt); have e' := ha.eval hy (h2 hgt); simp only [execOp, e, e']; simp [go_sem])
theorem PS.gtr (hx : opnd l x = some (b1, .int k m)) (h1 : g = true → b1 = true) (hy : opnd l y = some (b2, .int k n)) (h2 : g = true → b2 = true) (hd : Nat.blt d E.n = true) (hg : gd ops l gu = some g) :
    PStep P E ops ⟨some d, .binOp .gtr T x y T', ty, pos, after, gu⟩ l own F d g (.bool (decide (n < m))) :=
  .mk rfl hd hg (fun a w ha _ hgt => by have e := ha.eval hx (h1 hgt); have e' := ha.eval hy (h2 hgt); simp only [execOp, e, e']; simp [go_sem])
theorem PS.geq (hx : opnd l x = some (b1, .int k m)) (h1 : g = true → b1 = true) (hy : opnd l y = some (b2, .int k n)) (h2 : g = true → b2 = true) (hd : Nat.blt d E.n = true) (hg : gd ops l gu = some g) :
    PStep P E ops ⟨some d, .binOp .geq T x y T', ty, pos, after, gu⟩ l own F d g (.bool (decide (n ≤ m))) :=
  .mk rfl hd hg (fun a w ha _ hgt => by have e := ha.eval hx (h1 hgt); have e' := ha.eval hy (h2 hgt); simp only [execOp, e, e']; simp [go_sem])
theorem PS.eql (hx : opnd l x = some (b1, .int k m)) (h1 : g = true → b1 = true) (hy : opnd l y = some (b2, .int k n)) (h2 : g = true → b2 = true) (hd : Nat.blt d E.n = true) (hg : gd ops l gu = some g) :
    PStep P E ops ⟨some d, .binOp .eql T x y T', ty, pos, after, gu⟩ l own F d g (.bool (m == n)) :=
  .mk rfl hd hg (fun a w ha _ hgt => by have e := ha.eval hx (h1 hgt); have e' := ha.eval hy (h2 hgt); simp only [execOp, e, e']; simp [go_sem])
theorem PS.neq (hx : opnd l x = some (b1, .int k m)) (h1 : g = true → b1 = true) (hy : opnd l y = some (b2, .int k n)) (h2 : g = true → b2 = true) (hd : Nat.blt d E.n = true) (hg : gd ops l gu = some g) :
    PStep P E ops ⟨some d, .binOp .neq T x y T', ty, pos, after, gu⟩ l own F d g (.bool (m != n)) :=
  .mk rfl hd hg (fun a w ha _ hgt => by have e := ha.eval hx (h1 hgt); have e' := ha.eval hy (h2 hgt); simp only [execOp, e, e']; simp [go_sem])
theorem PS.add (hx : opnd l x = some (b1, .int k m)) (h1 : g = true → b1 = true) (hy : opnd l y = some (b2, .int k n)) (h2 : g = true → b2 = true) (hd : Nat.blt d E.n = true) (hg : gd ops l gu = some g) :
    PStep P E ops ⟨some d, .binOp .add T x y T', ty, pos, after, gu⟩ l own F d g (.int k (k.wrap (m + n))) :=
  .mk rfl hd hg (fun a w ha _ hgt => by have e := ha.eval hx (h1 hgt); have e' := ha.eval hy (h2 hgt); simp only [execOp, e, e']; simp [go_sem])
theorem PS.add_in (hx : opnd l x = some (b1, .int k m)) (h1 : g = true → b1 = true) (hy : opnd l y = some (b2, .int k n)) (h2 : g = true → b2 = true) (hin : g = true → k.wrap (m + n) = m + n) (hd : Nat.blt d E.n = true) (hg : gd ops l gu = some g) :
    PStep P E ops ⟨some d, .binOp .add T x y T', ty, pos, after, gu⟩ l own F d g (.int k (m + n)) :=
  .mk rfl hd hg (fun a w ha _ hgt => by have e := ha.eval hx (h1 hgt); have e' := ha.eval hy (h2 hgt); simp only [execOp, e, e']; simp [go_sem, hin hgt])
theorem PS.sub (hx : opnd l x = some (b1, .int k m)) (h1 : g = true → b1 = true) (hy : opnd l y = some (b2, .int k n)) (h2 : g = true → b2 = true) (hd : Nat.blt d E.n = true) (hg : gd ops l gu = some g) :
    PStep P E ops ⟨some d, .binOp .sub T x y T', ty, pos, after, gu⟩ l own F d g (.int k (k.wrap (m - n))) :=
  .mk rfl hd hg (fun a w ha _ hgt => by have e := ha.eval hx (h1 hgt); have e' := ha.eval hy (h2 hgt); simp only [execOp, e, e']; simp [go_sem])
theorem PS.sub_in (hx : opnd l x = some (b1, .int k m)) (h1 : g = true → b1 = true) (hy : opnd l y = some (b2, .int k n)) (h2 : g = true → b2 = true) (hin : g = true → k.wrap (m - n) = m - n) (hd : Nat.blt d E.n = true) (hg : gd ops l gu = some g) :
    PStep P E ops ⟨some d, .binOp .sub T x y T', ty, pos, after, gu⟩ l own F d g (.int k (m - n)) :=
  .mk rfl hd hg (fun a w ha _ hgt => by have e := ha.eval hx (h1 hgt); have e' := ha.eval hy (h2 hgt); simp only [execOp, e, e']; simp [go_sem, hin hgt])
theorem PS.mul (hx : opnd l x = some (b1, .int k m)) (h1 : g = true → b1 = true) (hy : opnd l y = some (b2, .int k n)) (h2 : g = true → b2 = true) (hd : Nat.blt d E.n = true) (hg : gd ops l gu = some g) :
    PStep P E ops ⟨some d, .binOp .mul T x y T', ty, pos, after, gu⟩ l own F d g (.int k (k.wrap (m * n))) :=
  .mk rfl hd hg (fun a w ha _ hgt => by have e := ha.eval hx (h1 hgt); have e' := ha.eval hy (h2 hgt); simp only [execOp, e, e']; simp [go_sem])
theorem PS.mul_in (hx : opnd l x = some (b1, .int k m)) (h1 : g = true → b1 = true) (hy : opnd l y = some (b2, .int k n)) (h2 : g = true → b2 = true) (hin : g = true → k.wrap (m * n) = m * n) (hd : Nat.blt d E.n = true) (hg : gd ops l gu = some g) :
    PStep P E ops ⟨some d, .binOp .mul T x y T', ty, pos, after, gu⟩ l own F d g (.int k (m * n)) :=
  .mk rfl hd hg (fun a w ha _ hgt => by have e := ha.eval hx (h1 hgt); have e' := ha.eval hy (h2 hgt); simp only [execOp, e, e']; simp [go_sem, hin hgt])
theorem PS.not (hx : opnd l x = some (b1, .bool s)) (h1 : g = true → b1 = true) (hd : Nat.blt d E.n = true) (hg : gd ops l gu = some g) :
    PStep P E ops ⟨some d, .unOp .not T x, ty, pos, after, gu⟩ l own F d g (.bool (!s)) :=
  .mk rfl hd hg (fun a w ha _ hgt => by have e := ha.eval hx (h1 hgt); simp only [execOp, e]; simp [go_sem])
/-- What a || b, a && b read as: the second one is asked where it is wanted. -/
theorem PS.pick_or (hc : opnd l c = some (b1, .bool s)) (h1 : g = true → b1 = true) (hy : opnd l y = some (b2, .bool t)) (h2 : g = true → s = false → b2 = true) (hd : Nat.blt d E.n = true) (hg : gd ops l gu = some g) :
    PStep P E ops ⟨some d, .pick c (.const (.bool true)) y, ty, pos, after, gu⟩ l own F d g (.bool (s || t)) :=
  .mk rfl hd hg (fun a w ha _ hgt => by
    have e := ha.eval hc (h1 hgt)
    cases s with
    | true => simp only [execOp, e]; rfl
    | false => have e' := ha.eval hy (h2 hgt rfl); simp only [execOp, e, e']; rfl)
theorem PS.pick_and (hc : opnd l c = some (b1, .bool s)) (h1 : g = true → b1 = true) (hy : opnd l y = some (b2, .bool t)) (h2 : g = true → s = true → b2 = true) (hd : Nat.blt d E.n = true) (hg : gd ops l gu = some g) :
    PStep P E ops ⟨some d, .pick c y (.const (.bool false)), ty, pos, after, gu⟩ l own F d g (.bool (s && t)) :=
  .mk rfl hd hg (fun a w ha _ hgt => by
    have e := ha.eval hc (h1 hgt)
    cases s with
    | false => simp only [execOp, e]; rfl
    | true => have e' := ha.eval hy (h2 hgt rfl); simp only [execOp, e, e']; rfl)
variable {k' : IntKind} {i : Nat} {us : List Value}
theorem PS.and (hx : opnd l x = some (b1, .int k m)) (h1 : g = true → b1 = true) (hy : opnd l y = some (b2, .int k n)) (h2 : g = true → b2 = true) (hd : Nat.blt d E.n = true) (hg : gd ops l gu = some g) :
    PStep P E ops ⟨some d, .binOp .and T x y T', ty, pos, after, gu⟩ l own F d g (.int k (bits .and k m n)) :=
  .mk rfl hd hg (fun a w ha _ hgt => by have e := ha.eval hx (h1 hgt); have e' := ha.eval hy (h2 hgt); simp only [execOp, e, e']; simp [go_sem])
theorem PS.or (hx : opnd l x = some (b1, .int k m)) (h1 : g = true → b1 = true) (hy : opnd l y = some (b2, .int k n)) (h2 : g = true → b2 = true) (hd : Nat.blt d E.n = true) (hg : gd ops l gu = some g) :
    PStep P E ops ⟨some d, .binOp .or T x y T', ty, pos, after, gu⟩ l own F d g (.int k (bits .or k m n)) :=
  .mk rfl hd hg (fun a w ha _ hgt => by have e := ha.eval hx (h1 hgt); have e' := ha.eval hy (h2 hgt); simp only [execOp, e, e']; simp [go_sem])
theorem PS.xor (hx : opnd l x = some (b1, .int k m)) (h1 : g = true → b1 = true) (hy : opnd l y = some (b2, .int k n)) (h2 : g = true → b2 = true) (hd : Nat.blt d E.n = true) (hg : gd ops l gu = some g) :
    PStep P E ops ⟨some d, .binOp .xor T x y T', ty, pos, after, gu⟩ l own F d g (.int k (bits .xor k m n)) :=
  .mk rfl hd hg (fun a w ha _ hgt => by have e := ha.eval hx (h1 hgt); have e' := ha.eval hy (h2 hgt); simp only [execOp, e, e']; simp [go_sem])
theorem PS.andNot (hx : opnd l x = some (b1, .int k m)) (h1 : g = true → b1 = true) (hy : opnd l y = some (b2, .int k n)) (h2 : g = true → b2 = true) (hd : Nat.blt d E.n = true) (hg : gd ops l gu = some g) :
    PStep P E ops ⟨some d, .binOp .andNot T x y T', ty, pos, after, gu⟩ l own F d g (.int k (bits .andNot k m n)) :=
  .mk rfl hd hg (fun a w ha _ hgt => by have e := ha.eval hx (h1 hgt); have e' := ha.eval hy (h2 hgt); simp only [execOp, e, e']; simp [go_sem])
theorem PS.shl (hx : opnd l x = some (b1, .int k m)) (h1 : g = true → b1 = true) (hy : opnd l y = some (b2, .int k' n)) (h2 : g = true → b2 = true) (hn : 0 ≤ n) (hd : Nat.blt d E.n = true) (hg : gd ops l gu = some g) :
    PStep P E ops ⟨some d, .binOp .shl T x y T', ty, pos, after, gu⟩ l own F d g (.int k (k.wrap (m * 2 ^ (min n.toNat k.bits)))) :=
  .mk rfl hd hg (fun a w ha _ hgt => by have e := ha.eval hx (h1 hgt); have e' := ha.eval hy (h2 hgt); simp only [execOp, e, e']; exact run_shl hn)
theorem PS.shr (hx : opnd l x = some (b1, .int k m)) (h1 : g = true → b1 = true) (hy : opnd l y = some (b2, .int k' n)) (h2 : g = true → b2 = true) (hn : 0 ≤ n) (hd : Nat.blt d E.n = true) (hg : gd ops l gu = some g) :
    PStep P E ops ⟨some d, .binOp .shr T x y T', ty, pos, after, gu⟩ l own F d g (.int k (m / 2 ^ (min n.toNat k.bits))) :=
  .mk rfl hd hg (fun a w ha _ hgt => by have e := ha.eval hx (h1 hgt); have e' := ha.eval hy (h2 hgt); simp only [execOp, e, e']; exact run_shr hn)
theorem PS.quo (hx : opnd l x = some (b1, .int k m)) (h1 : g = true → b1 = true) (hy : opnd l y = some (b2, .int k n)) (h2 : g = true → b2 = true) (hn : g = true → n ≠ 0) (hd : Nat.blt d E.n = true) (hg : gd ops l gu = some g) :
    PStep P E ops ⟨some d, .binOp .quo T x y T', ty, pos, after, gu⟩ l own F d g (.int k (k.wrap (m.tdiv n))) :=
  .mk rfl hd hg (fun a w ha _ hgt => by have e := ha.eval hx (h1 hgt); have e' := ha.eval hy (h2 hgt); simp only [execOp, e, e']; exact run_quo (hn hgt))
theorem PS.rem (hx : opnd l x = some (b1, .int k m)) (h1 : g = true → b1 = true) (hy : opnd l y = some (b2, .int k n)) (h2 : g = true → b2 = true) (hn : g = true → n ≠ 0) (hd : Nat.blt d E.n = true) (hg : gd ops l gu = some g) :
    PStep P E ops ⟨some d, .binOp .rem T x y T', ty, pos, after, gu⟩ l own F d g (.int k (m.tmod n)) :=
  .mk rfl hd hg (fun a w ha _ hgt => by have e := ha.eval hx (h1 hgt); have e' := ha.eval hy (h2 hgt); simp only [execOp, e, e']; exact run_rem (hn hgt))
theorem PS.neg (hx : opnd l x = some (b1, .int k m)) (h1 : g = true → b1 = true) (hd : Nat.blt d E.n = true) (hg : gd ops l gu = some g) :
    PStep P E ops ⟨some d, .unOp .neg T x, ty, pos, after, gu⟩ l own F d g (.int k (k.wrap (0 - m))) :=
  .mk rfl hd hg (fun a w ha _ hgt => by have e := ha.eval hx (h1 hgt); simp only [execOp, e]; rfl)
theorem PS.conv (hx : opnd l x = some (b1, .int k m)) (h1 : g = true → b1 = true) (hT : P.underlying T = some (.int k)) (hT' : P.underlying T' = some (.int k')) (hd : Nat.blt d E.n = true) (hg : gd ops l gu = some g) :
    PStep P E ops ⟨some d, .convert T T' x, ty, pos, after, gu⟩ l own F d g (.int k' (k'.wrap m)) :=
  .mk rfl hd hg (fun a w ha _ hgt => by have e := ha.eval hx (h1 hgt); simp only [execOp, e]; exact run_conv hT hT')
theorem PS.extract (hx : opnd l x = some (b1, .tuple us.toArray)) (h1 : g = true → b1 = true) (hi : nth us i = some v) (hd : Nat.blt d E.n = true) (hg : gd ops l gu = some g) :
    PStep P E ops ⟨some d, .extract x i, ty, pos, after, gu⟩ l own F d g (v) :=
  .mk rfl hd hg (fun a w ha _ hgt => by have e := ha.eval hx (h1 hgt); simp only [execOp, e]; exact run_extract hi)
end
end Go.Proofs.YtjdiohhniiooeaaDoor
