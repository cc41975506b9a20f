/- Plain: laws of what an instruction makes of values. -/
import Derived.Test.YtffimfmicapaaaaPlE
namespace Go.Proofs.Ytffimfmicapaaaa.Pl
/-- The number of a value is one of 64 bits. -/
def Rg (z : Int) : Prop := 0 ≤ z ∧ z < 18446744073709551616
theorem mod_rg {n : Nat} (h : n ≤ 64) (z : Int) : Rg (z % 2 ^ n) := by
  have h1 := mod_range n z
  have h2 := pow_le_int h
  unfold Rg; omega
theorem mask_le {t : Int} (h : ¬ mask t = 0) : t.toNat ≤ 64 := by
  rcases Classical.em (1 ≤ t ∧ t ≤ 64) with q | q
  · omega
  · exact absurd (mask_zero.2 q) h
theorem rg0 : Rg 0 := by unfold Rg; decide
theorem conv_rg (op p q v : Int) : Rg (conv op p q v).1 := by
  unfold conv
  split
  · exact rg0
  · rename_i h
    have hp : ¬ mask p = 0 := fun e => h (.inl e)
    have hq : ¬ mask q = 0 := fun e => h (.inr e)
    repeat' split
    · exact mod_rg (mask_le hp) _
    · exact mod_rg (mask_le hq) _
    · exact mod_rg (mask_le hq) _
    · exact rg0
theorem apply_rg (op w f a b : Int) : Rg (apply op w f a b).1 := by
  unfold apply
  cases h : badA op w f with
  | true => exact rg0
  | false =>
    obtain ⟨⟨n, rfl, h1, h2⟩, _⟩ := goodA h
    simp only [cond_false, Int.toNat_natCast]
    unfold cutR
    cases ((core op n f (a % 2 ^ n) (b % 2 ^ n)).2 != 0)
    · exact mod_rg h2 _
    · exact rg0
theorem norm_rg (t : Int) (v : Vl) : Rg (norm t v).b := norm_range
theorem at_rg {ws : List Int} {xs : List Vl} (i : Nat) : Rg (at_ (row ws xs) i).b := by
  unfold at_
  rw [List.getD_eq_getElem?_getD]
  cases h : (row ws xs)[i]? with
  | none => exact rg0
  | some y => exact row_range (List.mem_of_getElem? h)
theorem made_rg (op t n f : Int) (ws : List Int) (xs : List Vl) : Rg (made op t n f (row ws xs)).1.b := by
  have h0 := at_rg (ws := ws) (xs := xs) 0
  have h1 := at_rg (ws := ws) (xs := xs) 1
  have h2 := at_rg (ws := ws) (xs := xs) 2
  unfold made
  generalize at_ (row ws xs) 0 = a at *
  generalize at_ (row ws xs) 1 = b at *
  generalize at_ (row ws xs) 2 = c at *
  have r1 : Rg 1 := by unfold Rg; decide
  unfold chosen loosely clear number
  simp only [Bool.cond_eq_ite]
  repeat' split
  all_goals first | exact rg0 | exact h0 | exact h1 | exact h2 | exact r1 | exact conv_rg _ _ _ _ | exact apply_rg _ _ _ _ _
theorem eval_rg (op t n f : Int) (xs : List Vl) : Rg (eval op t n f xs).1.b := by
  unfold eval
  split
  · exact rg0
  · rename_i ws _
    cases h : (ws.length != xs.length)
    · exact made_rg _ _ _ _ _ _
    · exact rg0
end Go.Proofs.Ytffimfmicapaaaa.Pl
