/- Plain: what an instruction makes of values. -/
import Derived.Test.YtffimfmicapaaaaPl
namespace Go.Proofs.Ytffimfmicapaaaa.Pl
def number (z : Int) : Vl := ⟨1, z, 0, 0⟩
def loosely (op t f : Int) (b : Vl) : Vl :=
  bif (decide (11 ≤ op) && decide (op ≤ 13) && (b.k == 3 || decide (IntKind.u64.wrap t ≤ b.b))) || f != 0 then Vl.zero else any
def clear (op t n f : Int) (a b : Vl) : Vl × Int :=
  bif op == 29 then (⟨a.k, a.b, a.bl, IntKind.i64.wrap (a.off + IntKind.i64.wrap b.b)⟩, 0)
  else bif decide (20 ≤ op) then (number (conv op n t a.b).1, 0)
  else bif t == 65 then (number (bif decide (a = b) == (op == 14) then 1 else 0), 0)
  else bif (apply op t f a.b b.b).2 == 0 then (number (apply op t f a.b b.b).1, 0)
  else bif (apply op t f a.b b.b).2 == 1 then (Vl.zero, 0) else (Vl.zero, (apply op t f a.b b.b).2)
/-- The operands, as they are read. -/
def row (ws : List Int) (xs : List Vl) : List Vl := List.zipWith norm ws xs
def at_ (l : List Vl) (i : Nat) : Vl := l.getD i Vl.zero
def isDiv (op : Int) : Bool := decide (4 ≤ op) && decide (op ≤ 7)
def made (op t n f : Int) (l : List Vl) : Vl × Int :=
  bif isDiv op && divisor op t (at_ l 0) (at_ l 1) != 0 then (Vl.zero, divisor op t (at_ l 0) (at_ l 1))
  else bif op == 24 then (bif l.any (·.k == 0) then (any, 0) else (at_ l 0, 0))
  else bif op == 23 then (chosen (at_ l 0) (at_ l 1) (at_ l 2), 0)
  else bif l.any (·.k == 0) then (Vl.zero, 0)
  else bif l.any (·.k == 3) then (loosely op t f (at_ l 1), 0)
  else clear op t n f (at_ l 0) (at_ l 1)
def eval (op t n f : Int) (xs : List Vl) : Vl × Int :=
  match kinds op t n f with
  | none => (Vl.zero, 3)
  | some ws => bif ws.length != xs.length then (Vl.zero, 3) else made op t n f (row ws xs)
end Go.Proofs.Ytffimfmicapaaaa.Pl
namespace Go.Proofs.Ytffimfmicapaaaa.Pl
def arity (op : Int) : Nat := if op ≤ 19 then 2 else if op ≤ 22 then 1 else if op = 23 then 3 else if op = 24 then 1 else 2
theorem kinds_len {op t n f : Int} {ws : List Int} (h : kinds op t n f = some ws) : ws.length = arity op ∧ 1 ≤ op ∧ (op ≤ 24 ∨ op = 29) := by
  revert h
  unfold kinds
  simp only [Bool.cond_eq_ite]
  repeat' split
  all_goals intro h
  all_goals first | (cases h; done) | skip
  all_goals (cases h; rename_i h1 _; simp at *; unfold arity; (repeat' split) <;> omega)
theorem arity_le (op : Int) : 1 ≤ arity op ∧ arity op ≤ 3 := by
  unfold arity
  (repeat' split) <;> omega
theorem norm_range {t : Int} {v : Vl} : 0 ≤ (norm t v).b ∧ (norm t v).b < 18446744073709551616 := by
  unfold norm
  split
  · rename_i h
    have h1 := mod_range t.toNat v.b
    have h2 : t.toNat ≤ 64 := by
      rcases Classical.em (1 ≤ t ∧ t ≤ 64) with q | q
      · omega
      · exact absurd (mask_zero.2 q) h.2
    have h3 := pow_le_int h2
    simp only; omega
  · repeat' split
    all_goals (simp [Vl.zero])
theorem row_length {ws : List Int} {xs : List Vl} (h : ws.length = xs.length) : (row ws xs).length = xs.length := by unfold row; rw [List.length_zipWith, h]; omega
theorem row_get {ws : List Int} {xs : List Vl} {j : Nat} {t : Int} {x : Vl} (ht : ws[j]? = some t) (hx : xs[j]? = some x) : (row ws xs)[j]? = some (norm t x) := by
  unfold row; rw [List.getElem?_zipWith, ht, hx]
theorem row_range {ws : List Int} {xs : List Vl} {y : Vl} (h : y ∈ row ws xs) : 0 ≤ y.b ∧ y.b < 18446744073709551616 := by
  obtain ⟨j, hj⟩ := List.getElem?_of_mem h
  unfold row at hj
  rw [List.getElem?_zipWith] at hj
  split at hj
  · cases hj; exact norm_range
  · cases hj
theorem at_get {l : List Vl} {i : Nat} (h : i < l.length) : l[i]? = some (at_ l i) := by unfold at_; rw [List.getD_eq_getElem?_getD, List.getElem?_eq_getElem h]; rfl
/-- The row, filled up to a place. -/
def fill (ws : List Int) (xs : List Vl) (j : Nat) : List Vl := (row ws xs).take j ++ List.replicate (xs.length - j) Vl.zero
def has (q : Int) (ws : List Int) (xs : List Vl) (j : Nat) : Bool := ((row ws xs).take j).any (·.k == q)
theorem fill_length {ws : List Int} {xs : List Vl} {j : Nat} (h : ws.length = xs.length) (hj : j ≤ xs.length) : (fill ws xs j).length = xs.length := by
  unfold fill; rw [List.length_append, List.length_take, row_length h, List.length_replicate]; omega
theorem fill_succ {ws : List Int} {xs : List Vl} {j : Nat} {y : Vl} (h : ws.length = xs.length) (hy : (row ws xs)[j]? = some y) : (fill ws xs j).set j y = fill ws xs (j + 1) := by
  have hj : j < xs.length := by have := (List.getElem?_eq_some_iff.1 hy).1; rwa [row_length h] at this
  have hl : ((row ws xs).take j).length = j := by rw [List.length_take, row_length h]; omega
  unfold fill
  rw [List.set_append_right _ _ (by omega), hl, Nat.sub_self, show xs.length - j = (xs.length - (j + 1)) + 1 by omega, List.replicate_succ, List.set_cons_zero, List.take_add_one, hy]
  simp
theorem has_succ {ws : List Int} {xs : List Vl} {j : Nat} {y : Vl} (q : Int) (hy : (row ws xs)[j]? = some y) : has q ws xs (j + 1) = (has q ws xs j || y.k == q) := by
  unfold has; rw [List.take_add_one, hy]; simp
theorem fill_all {ws : List Int} {xs : List Vl} (h : ws.length = xs.length) : fill ws xs xs.length = row ws xs := by
  unfold fill; rw [Nat.sub_self, List.take_of_length_le (by rw [row_length h]; exact Nat.le_refl _)]; simp
theorem has_all {ws : List Int} {xs : List Vl} (q : Int) (h : ws.length = xs.length) : has q ws xs xs.length = (row ws xs).any (·.k == q) := by
  unfold has; rw [List.take_of_length_le (by rw [row_length h]; exact Nat.le_refl _)]
theorem eval_made {op t n f : Int} {ws : List Int} {xs : List Vl} (hk : kinds op t n f = some ws) (h : ws.length = xs.length) : eval op t n f xs = made op t n f (row ws xs) := by
  unfold eval; rw [hk]; simp [h]
theorem eval_bad {op t n f : Int} {b : Bool} {ws : List Int} {xs : List Vl} (hb : b = (kinds op t n f).isNone) (hw : ws = (kinds op t n f).getD []) (c : (b || (ws.length : Int) != (xs.length : Int)) = true) : eval op t n f xs = (Vl.zero, 3) := by
  unfold eval
  cases hk : kinds op t n f with
  | none => rfl
  | some ws' =>
    rw [hk] at hb hw
    simp at hb hw
    subst hb hw
    have c' : (ws.length != xs.length) = true := by simp at c ⊢; omega
    show (bif ws.length != xs.length then (Vl.zero, 3) else made op t n f (row ws xs)) = _
    rw [c']; rfl
theorem eval_good {op t n f : Int} {b : Bool} {ws : List Int} {xs : List Vl} (hb : b = (kinds op t n f).isNone) (hw : ws = (kinds op t n f).getD []) (c : (b || (ws.length : Int) != (xs.length : Int)) = false) : kinds op t n f = some ws ∧ ws.length = xs.length := by
  cases hk : kinds op t n f with
  | none => rw [hk] at hb; subst hb; simp at c
  | some ws' =>
    rw [hk] at hb hw
    simp at hb hw
    subst hb hw
    simp at c
    exact ⟨rfl, by omega⟩
end Go.Proofs.Ytffimfmicapaaaa.Pl
namespace Go.Proofs.Ytffimfmicapaaaa.Pl
theorem arity_div {op : Int} (h : (decide (4 ≤ op) && decide (op ≤ 7)) = true) : arity op = 2 := by simp at h; unfold arity; rw [if_pos (by omega)]
theorem arity_shift {op : Int} (h : (decide (11 ≤ op) && decide (op ≤ 13)) = true) : arity op = 2 := by simp at h; unfold arity; rw [if_pos (by omega)]
theorem arity_23 {op : Int} (h : (op == 23) = true) : arity op = 3 := by simp at h; subst h; rfl
theorem arity_clear {op : Int} (h : (op == 24) = false) (h' : (op == 23) = false) : arity op = 2 ∨ arity op = 1 ∧ (op == 29) = false ∧ decide (20 ≤ op) = true := by
  simp at h h' ⊢; unfold arity; (repeat' split) <;> omega
end Go.Proofs.Ytffimfmicapaaaa.Pl
