/- The engine and the contracts of the functions that the statement reaches, part 2. -/
import Derived.Test.YtecknkgiaahheaaMa
/- Writing into what is owned in depth. -/
namespace Go.Proofs.Ytecknkgiaahheaa
open Go.RowKit
set_option linter.unusedVariables false
set_option linter.unusedSimpArgs false
/-- A state told from another one. -/
theorem Gam.to {E : Env} {tb : Tb} {s s' : Sl} {o o' : Os} {β β' : Nat → Wt} {a : Act} {w w' : World} (h : Gam E tb s o β a w)
    (hs : ∀ d c v, lk s' d = some (c, v) → lk s d = some (c, v) ∧ (∀ id, men id v = true → Core (β id) (β' id)) ∧ ∀ id, menP id v = true → ∀ p, rsub (β' id) p = rsub (β id) p)
    (hf : ∀ k ∈ feet o' β', k ∈ feet o β) (hn : (feet o' β').Nodup) (hk : (o'.map (·.1)).Nodup) (hos : w'.os = w.os) (ht : w'.tape = w.tape) (ho : w'.output = w.output) (hz : w.heap.size ≤ w'.heap.size) (hb : ∀ k, k < w.heap.size → k ∉ feet o β → w'.heap[k]? = w.heap[k]?)
    (hob : Comp (E.good o β) w (E.good o' β') w' → ∀ id ob', lk o' id = some ob' → orel (E.good o' β') β' w' (β' id) ob') : Gam E tb s' o' β' a w' := by
  have hc : Comp (E.good o β) w (E.good o' β') w' := ⟨hz, fun k hk hg => ⟨⟨hg.1, fun q => hg.2 (hf k q)⟩, hb k hk hg.2⟩⟩
  refine ⟨h.size, h.defers, h.tbok, fun i c' v hl => ?_, hob hc, ⟨hos.trans h.below.os, ht.trans h.below.tape, ho.trans h.below.output, Nat.le_trans h.below.size hz, fun k hk hx => (hb k (Nat.lt_of_lt_of_le hk h.below.size) fun q => ?_).trans (h.below.block k hk hx)⟩, fun k hk => ⟨(h.new k (hf k hk)).1, Nat.lt_of_lt_of_le (h.new k (hf k hk)).2 hz⟩, hn, hk⟩
  · obtain ⟨g1, g2, g3⟩ := hs i c' v hl
    obtain ⟨u, h1, h2⟩ := h.slots i c' v g1
    exact ⟨u, h1, fun hg => rel_core _ _ g2 g3 (rel_mono hc _ _ (h2 hg))⟩
  · rcases (h.new k q).1 with z | z
    · omega
    · exact hx z
/-- Who speaks of what lies below, among boxes. -/
def omenP (d : Nat) : Obj → Bool
  | .box _ _ cs => menPs d cs
  | _ => false
theorem orel_core {S : Nat → Prop} {β β' : Nat → Wt} {w : World} {W : Wt} : ∀ {ob : Obj}, (∀ id, omen id ob = true → Core (β id) (β' id)) → (∀ id, omenP id ob = true → ∀ p, rsub (β' id) p = rsub (β id) p) → orel S β w W ob → orel S β' w W ob
  | .box p q cs, hm, hp, ⟨b, us, ty, h1, h2, h3, h4, h5⟩ => ⟨b, us, ty, h1, h2, h3, rels_core cs us hm hp h4, h5⟩
  | .row q e n get, hm, hp, h => h
  | .tree e n get, hm, hp, h => h
  | .mp e n get fF, hm, hp, h => h
/-- The content of a tree, some cells down a way others. -/
def updG : Pth → (Nat → List AV) → Nat → Nat → List AV → (Nat → List AV)
  | [], get, i, j, xs => setG get i j xs
  | (a, c) :: p, get, i, j, xs => setC get a c (match nthN c (get a) with
    | some (.row nz e n g) => .row nz e n (updG p g i j xs)
    | _ => .nil)
theorem updG_eq {nz' : Option Bool} {e n i j : Nat} {g : Nat → List AV} {xs : List AV} : ∀ {p : Pth} {nz : Option Bool} {e0 N : Nat} {get : Nat → List AV}, subR (.row nz e0 N get) p (.row nz' e n g) → setR (.row nz' e n (setG g i j xs)) (.row nz e0 N get) p = .row nz e0 N (updG p get i j xs)
  | [], nz, e0, N, get, h => by
    simp only [subR, AV.row.injEq] at h
    obtain ⟨rfl, rfl, rfl, rfl⟩ := h
    rfl
  | (a, c) :: p, nz, e0, N, get, h => by
    simp only [subR] at h
    obtain ⟨ha, x', hx', hs⟩ := h
    rw [setR, updG, nthN_eq, hx']
    cases x' with
    | row nz1 e1 n1 g1 =>
      simp only [Option.getD_some]
      rw [updG_eq hs]
    | _ => cases p <;> simp [subR] at hs
/-- Some cells of a tree written. -/
theorem tree_write {S : Nat → Prop} {w : World} {sb : Sub} {p : Pth} {nz nz' : Option Bool} {e0 N e n : Nat} {get g : Nat → List AV} {u : Value} {F : List Nat} {i j k : Nat} (h : treeD S w sb (.row nz e0 N get) [] u F) (hs : subR (.row nz e0 N get) p (.row nz' e n g)) (hi : i < n) (hj : j + k ≤ e) :
    ∃ b off cells ty A M B, (sb p).1 = some ⟨b, off, none⟩ ∧ w.heap[b]? = some (.cells (cells : List Value).toArray ty (0, 0)) ∧ off + (sb p).2 * e ≤ cells.length ∧ i < (sb p).2 ∧ F = A ++ (M ++ B) ∧ b ∈ A ∧
      ∀ (S' : Nat → Prop) (w' : World) (sb' : Sub) (xs : List AV) (vs : List Value) (Fx' : List Nat), xs.length = k → F.Nodup → Comp S w S' w' → (∀ q ∈ A ++ B, q ≠ b → w'.heap[q]? = w.heap[q]?) → w'.heap[b]? = some (.cells (splice cells (off + (i * e + j)) vs).toArray ty (0, 0)) → vs.all (·.oneCell') = true →
        (∀ r, (∀ c t, j ≤ c → c < j + k → r ≠ p ++ (i, c) :: t) → sb' r = sb r) → treeDs S' w' sb' xs p i j vs Fx' → treeD S' w' sb' (.row nz e0 N (updG p get i j xs)) [] u (A ++ (Fx' ++ B)) := by
  obtain ⟨uy, Fy, A0, B0, rfl, y1, y2⟩ := focus h hs
  rw [List.nil_append] at y1
  obtain ⟨b, off, cells, ty, A1, M, B1, z1, z2, z3, z4, rfl, z6⟩ := node_seg y1 hi hj
  refine ⟨b, off, cells, ty, A0 ++ b :: A1, M, B1 ++ B0, z1, z2, z3, z4, by simp [List.append_assoc], by simp, fun S' w' sb' xs vs Fx' hl hnd hc hF hb hone hsb hx => ?_⟩
  have hbA : ∀ q ∈ A0 ++ B0, q ≠ b := fun q hq e => by
    subst e
    rw [List.nodup_append] at hnd
    obtain ⟨_, n2, n3⟩ := hnd
    rcases List.mem_append.1 hq with z | z
    · exact n3 q z q (by simp) rfl
    · have n4 := (List.nodup_append.1 n2).2.2
      exact n4 q (by simp) q z rfl
  have hbB : ∀ q ∈ A1 ++ B1, q ≠ b := fun q hq e => by
    subst e
    have n2 := (List.nodup_append.1 hnd).2.1
    have n3 := (List.nodup_append.1 n2).1
    rw [List.nodup_cons] at n3
    exact n3.1 (by simp only [List.mem_append] at hq ⊢; rcases hq with hq | hq <;> simp [hq])
  have hnode := z6 S' w' sb' xs vs Fx' hl hc (fun q hq => hF q (by simp only [List.mem_append, List.mem_cons] at hq ⊢; rcases hq with hq | hq <;> simp [hq]) (hbB q hq)) hb hone
    (hsb p fun c t _ _ hp => by have := congrArg List.length hp; simp at this)
    (fun i' c r hne => hsb _ fun c' t h1 h2 hp => by
      have := List.append_cancel_left hp
      simp only [List.cons.injEq, Prod.mk.injEq] at this
      rcases hne with h | h
      · exact h this.1.1
      · omega) hx
  have hres := y2 S' w' sb' (.row nz' e n (setG g i j xs)) (b :: (A1 ++ (Fx' ++ B1))) hc (fun q hq => hF q (by simp only [List.mem_append, List.mem_cons] at hq ⊢; rcases hq with hq | hq <;> simp [hq]) (hbA q hq))
    (fun r hr => by rw [List.nil_append]; exact hsb r fun c t _ _ hp => hr _ hp) (by rw [List.nil_append]; exact hnode)
  rw [updG_eq hs] at hres
  simpa [List.append_assoc] using hres
end Go.Proofs.Ytecknkgiaahheaa

/- Stores into what is owned in depth. -/
namespace Go.Proofs.Ytecknkgiaahheaa
open Go.RowKit
set_option linter.unusedVariables false
set_option linter.unusedSimpArgs false
/-- A cell that leads nowhere that is owned. -/
def leafA : AV → Bool
  | .row _ _ _ _ => false
  | .nil => false
  | .agg _ => false
  | x => noOwn x
def leafs : List AV → Bool
  | [] => true
  | x :: xs => leafA x && leafs xs
theorem leafA_tree {S : Nat → Prop} {β : Nat → Wt} {w : World} {sb : Sub} {x : AV} {p : Pth} {u : Value} (hl : leafA x = true) (h : rel S β w x u) : treeD S w sb x p u [] := by
  have hr : isRow x = false := by cases x <;> first | rfl | cases hl
  have hn : noOwn x = true := by cases x <;> first | exact hl | cases hl
  exact (treeD_flat hr).2 ⟨rfl, noOwn_rel hn h⟩
theorem leafs_tree {S : Nat → Prop} {β : Nat → Wt} {w : World} {sb : Sub} {p : Pth} {i : Nat} : ∀ {xs : List AV} {j : Nat} {us : List Value}, leafs xs = true → rels S β w xs us → treeDs S w sb xs p i j us []
  | [], j, us, hl, h => ⟨h, rfl⟩
  | x :: xs, j, us, hl, h => by
    simp only [leafs, Bool.and_eq_true] at hl
    obtain ⟨u, us', rfl, h1, h2⟩ := h
    exact ⟨u, us', [], [], rfl, rfl, leafA_tree hl.1 h1, leafs_tree hl.2 h2⟩
theorem foot_nodup {β : Nat → Wt} {id : Nat} {ob : Obj} : ∀ {o : Os}, lk o id = some ob → (feet o β).Nodup → (β id).foot.Nodup
  | [], hl, _ => by simp [lk] at hl
  | (j, ob') :: o, hl, hn => by
    rw [feet_cons, List.nodup_append] at hn
    rw [lk_cons] at hl
    split at hl
    · rename_i e; subst e; exact hn.1
    · exact foot_nodup hl hn.2.1
/-- The same place, other blocks below. -/
def footW (W : Wt) (F : List Nat) : Wt := ⟨W.a, W.cap, F, W.ok, W.sub⟩
theorem footW_core (W : Wt) (F : List Nat) : Core W (footW W F) := ⟨rfl, rfl, rfl⟩
theorem footW_rsub (W : Wt) (F : List Nat) : ∀ p, rsub (footW W F) p = rsub W p
  | [] => rfl
  | _ :: _ => rfl
section
variable {P : Program} {T : TT} {E : Env} {tb : Tb} {s : Sl} {o : Os} {β : Nat → Wt} {a : Act} {w : World} {t : TypeId} {ti : TI}
/-- Those beside. -/
theorem objs_beside {o' : Os} {w' : World} {β' : Nat → Wt} {id : Nat} {ob : Obj} (hg : Gam E tb s o β a w) (hlk : lk o id = some ob) (hc : Comp (E.good o β) w (E.good o' β') w') (hβ : ∀ i, i ≠ id → β' i = β i) (hco : Core (β id) (β' id)) (hrs : ∀ p, rsub (β' id) p = rsub (β id) p)
    (hb : ∀ k, k < w.heap.size → k ∉ (β id).foot → w'.heap[k]? = w.heap[k]?) {i : Nat} {ob' : Obj} (hi : i ≠ id) (hl : lk o i = some ob') : orel (E.good o' β') β' w' (β' i) ob' := by
  rw [hβ i hi]
  refine orel_core (β := β) (fun j _ => ?_) (fun j _ p => ?_) (orel_mono hc (fun k hk => hb k (hg.new k (foot_feet hl k hk)).2 (foot_disj hlk hl hi hg.nodup k hk)) (hg.objs i ob' hl))
  · by_cases hj : j = id
    · subst hj; exact hco
    · rw [hβ j hj]; exact Core.refl _
  · by_cases hj : j = id
    · subst hj; exact hrs p
    · rw [hβ j hj]
theorem store_tree {id e0 N e n i j : Nat} {get g : Nat → List AV} {q : Pth} {nz' : Option Bool} {vs : List AV} {u : Value} {ad : Addr} (hti : TIok P t ti) (hg : Gam E tb s o β a w) (hlk : lk o id = some (.tree e0 N get)) (hsub : subR (.row none e0 N get) q (.row nz' e n g)) (hi : i < n) (hj : j + vs.length ≤ e) (hlen : vs.length = ti.sz) (hleaf : leafs vs = true)
    (hr : rels (E.good o β) β w vs u.cells.toList) (hone : u.cells.toList.all (·.oneCell') = true) (had : (rsub (β id) q).1 = some ad) :
    ∃ w' β', (Instr.storeAt t (.pointer (some (ad.add (i * e + j)))) u).run P w = .ok () w' ∧ Gam E tb s ((id, .tree e0 N (updG q get i j vs)) :: rem o id) β' a w' := by
  obtain ⟨hok, ht⟩ := hg.objs id _ hlk
  obtain ⟨hr1, hr2⟩ := feet_rem hlk hg.nodup
  have hnd := foot_nodup hlk hg.nodup
  obtain ⟨b, off, cells, ty, A, M, B, z1, z2, z3, z4, z5, z6, z7⟩ := tree_write ht hsub hi hj
  rw [z1] at had
  cases had
  have hrl := rels_len hr
  have hsz : u.cells.size = ti.sz := by rw [← hlen, ← hrl]; simp
  have hroom : off + (i * e + j) + ti.sz ≤ cells.length := by
    have := Nat.mul_le_mul_right e (show i + 1 ≤ (rsub (β id) q).2 by omega)
    rw [Nat.add_mul, Nat.one_mul] at this
    omega
  obtain ⟨w', hrun, q1, q2, q3, q4, q5, q6⟩ := run_store hti z2 hroom hsz hone
  have hbf : b ∈ (β id).foot := by rw [z5]; simp only [List.mem_append]; exact .inl z6
  refine ⟨w', setB β id (footW (β id) (A ++ ([] ++ B))), by rw [add_none]; exact hrun, ?_⟩
  have hkey : ∀ p ∈ rem o id, p.1 ≠ id := fun p hp e => by
    have := rem_keys (c := id) hg.keys
    exact this (List.mem_map.2 ⟨p, hp, e⟩)
  have hfe : feet ((id, .tree e0 N (updG q get i j vs)) :: rem o id) (setB β id (footW (β id) (A ++ ([] ++ B)))) = (A ++ B) ++ feet (rem o id) β := by
    rw [feet_cons, setB_self, feet_setB hkey]; rfl
  have hAB : (A ++ B).Sublist (β id).foot := by
    rw [z5]; exact (List.Sublist.refl A).append (List.sublist_append_right M B)
  have hsubf := feet_sub (β := β) (rem_sub (o := o) (c := id))
  refine hg.to (fun d c v hl => ⟨hl, fun k _ => ?_, fun k _ p => ?_⟩) (fun k hk => ?_) ?_ ?_ q1 q2 q3 (by omega) (fun k hk hx => q6 k fun e => hx (by subst e; exact foot_feet hlk k hbf)) fun hc id' ob' hl => ?_
  · by_cases hk : k = id
    · subst hk; rw [setB_self]; exact footW_core _ _
    · rw [setB_ne hk]; exact Core.refl _
  · by_cases hk : k = id
    · subst hk; rw [setB_self]; exact footW_rsub _ _ p
    · rw [setB_ne hk]
  · rw [hfe] at hk
    rcases List.mem_append.1 hk with z | z
    · exact foot_feet hlk k (hAB.subset z)
    · exact hsubf.subset z
  · rw [hfe]
    exact List.nodup_append.2 ⟨hnd.sublist hAB, hg.nodup.sublist hsubf, fun x hx y hy e => by subst e; exact hr1 x (hAB.subset hx) hy⟩
  · rw [List.map_cons, List.nodup_cons]
    exact ⟨rem_keys hg.keys, hg.keys.sublist (rem_sub.map _)⟩
  · rw [lk_cons] at hl
    split at hl
    · rename_i hid
      cases hl; subst hid
      rw [setB_self]
      refine ⟨hok, ?_⟩
      have hsb : ∀ r, rsub (footW (β id) (A ++ ([] ++ B))) r = rsub (β id) r := footW_rsub _ _
      exact z7 _ w' _ vs _ [] rfl hnd hc (fun k hk hkb => q6 k hkb) q5 hone (fun r _ => hsb r) (leafs_tree (β := β) hleaf (rels_mono hc _ _ hr))
    · rename_i hid
      have hne : id' ≠ id := fun e => hid e.symm
      rw [lk_rem hne] at hl
      exact objs_beside hg hlk hc (fun i hi => setB_ne hi) (by rw [setB_self]; exact footW_core _ _) (by rw [setB_self]; exact footW_rsub _ _) (fun k _ hk => q6 k fun e => hk (by subst e; exact hbf)) hne hl
def storeT (ti : TI) (o : Os) (p v : AV) (K : Os → Prop) : Prop := match stor v with
  | true => cellsK v fun vs => match Nat.beq vs.length ti.sz && leafs vs with
    | true => match p with
      | .rp id e i j => match lk o id with
        | some (.tree e' n get) => match Nat.beq e e' && Nat.ble (j + vs.length) e with
          | true => i < n ∧ remK o id fun o1 => K ((id, .tree e' n (setG get i j vs)) :: o1)
          | false => False
        | _ => False
      | .pp id q e i j => match lk o id with
        | some (.tree e0 N get) => navK [] 0 q e0 N get fun e' n g => match Nat.beq e e' && Nat.ble (j + vs.length) e with
          | true => i < n ∧ remK o id fun o1 => K ((id, .tree e0 N (updG q get i j vs)) :: o1)
          | false => False
        | _ => False
      | _ => False
    | false => False
  | false => False
theorem storeT_ok {x y : Operand} {p v : AV} {K : Os → Prop} {ty : TypeId} {pos : String} {after : Array Edge} {gu : Option (Nat × Bool)} (hti : TIok P t ti) (hx : Opn tb s 0 x p) (hy : Opn tb s 0 y v) (h : storeT ti o p v K) : ∃ o', K o' ∧ Mut P tb s o ⟨none, .store t x y, ty, pos, after, gu⟩ s o' := by
  unfold storeT at h
  split at h
  · rename_i hst
    obtain ⟨vs, h, hvs⟩ := cellsK_ok h
    split at h
    · rename_i hlv
      simp only [Bool.and_eq_true] at hlv
      obtain ⟨hlen, hleaf⟩ := hlv
      have hlen := Nat.eq_of_beq_eq_true hlen
      split at h
      · rename_i id e i j
        split at h
        · rename_i e' n get hlk
          split at h
          · rename_i hb
            simp only [Bool.and_eq_true] at hb
            have hb1 := Nat.eq_of_beq_eq_true hb.1
            have hb2 := Nat.le_of_ble_eq_true hb.2
            subst hb1
            obtain ⟨hi, h⟩ := h
            have h := remK_ok h
            refine ⟨_, h, fun E β a w hg _ K Q hK => ?_⟩
            have hc := tg_zero hg.tbok
            have h1 := hx.eval hg hc
            have h2 := hy.eval hg hc
            unfold rel at h1
            obtain ⟨h0, ad, e1, e2⟩ := h1
            have hr := hvs _ _ _ _ h2 (stor_or hst)
            obtain ⟨w', β', hrun, hG⟩ := store_tree (q := []) hti hg hlk (nz' := none) rfl hi hb2 hlen hleaf hr (stor_one hst h2) (ad := ad) e1
            have hex : (execOp a.eval ⟨none, .store t x y, ty, pos, after, gu⟩).run P w = .ok .skip w' := by
              simp only [execOp, e2]
              rw [Sem.run_bind, hrun]; rfl
            unfold Oper.wp
            rw [hex, Oper.upon_skip]
            exact hK _ _ _ hG
          · cases h
        · cases h
      · rename_i id q e i j
        split at h
        · rename_i e0 N get hlk
          obtain ⟨e', n, g, hk, hnav⟩ := navK_ok h
          clear h
          have h := hk
          clear hk
          split at h
          · rename_i hb
            simp only [Bool.and_eq_true] at hb
            have hb1 := Nat.eq_of_beq_eq_true hb.1
            have hb2 := Nat.le_of_ble_eq_true hb.2
            subst hb1
            obtain ⟨hi, h⟩ := h
            have h := remK_ok h
            refine ⟨_, h, fun E β a w hg _ K Q hK => ?_⟩
            have hc := tg_zero hg.tbok
            have h1 := hx.eval hg hc
            have h2 := hy.eval hg hc
            obtain ⟨nz', hsub⟩ := hnav rfl none
            unfold rel at h1
            obtain ⟨h0, ad, e1, e2⟩ := h1
            have hr := hvs _ _ _ _ h2 (stor_or hst)
            obtain ⟨w', β', hrun, hG⟩ := store_tree hti hg hlk hsub hi hb2 hlen hleaf hr (stor_one hst h2) (ad := ad) e1
            have hex : (execOp a.eval ⟨none, .store t x y, ty, pos, after, gu⟩).run P w = .ok .skip w' := by
              simp only [execOp, e2]
              rw [Sem.run_bind, hrun]; rfl
            unfold Oper.wp
            rw [hex, Oper.upon_skip]
            exact hK _ _ _ hG
          · cases h
        · cases h
      · cases h
    · cases h
  · cases h
end
end Go.Proofs.Ytecknkgiaahheaa

/- Rows go into a tree, and out of it. -/
namespace Go.Proofs.Ytecknkgiaahheaa
open Go.RowKit
set_option linter.unusedVariables false
set_option linter.unusedSimpArgs false
mutual
/-- The same at the end of another way. -/
theorem treeD_move {S : Nat → Prop} {w : World} {sb sb' : Sub} : ∀ (x : AV) (p p' : Pth) (u : Value) (F : List Nat), (∀ r, sb' (p' ++ r) = sb (p ++ r)) → treeD S w sb x p u F → treeD S w sb' x p' u F
  | .row nz e n get, p, p', u, F, hs, h => by
    unfold treeD at h ⊢
    have hp : sb' p' = sb p := by have := hs []; rwa [List.append_nil, List.append_nil] at this
    obtain ⟨h1, h2, h3, h4⟩ := h
    rw [hp]
    refine ⟨h1, h2, h3, h4.imp id ?_⟩
    rintro ⟨b, off, cells, ty, us, FS, g1, rfl, g3, g4, g5⟩
    exact ⟨b, off, cells, ty, us, FS, g1, rfl, g3, g4, fun i hi => ⟨(g5 i hi).1, treeDs_move (get i) p p' i 0 (us i) (FS i) hs (g5 i hi).2⟩⟩
  | .i k z, p, p', u, F, hs, h => h
  | .b t, p, p', u, F, hs, h => h
  | .s x, p, p', u, F, hs, h => h
  | .v x, p, p', u, F, hs, h => h
  | .nil, p, p', u, F, hs, h => by
    unfold treeD at h ⊢
    exact ⟨h.1, h.2.1, by have := hs []; rw [List.append_nil, List.append_nil] at this; rw [this]; exact h.2.2⟩
  | .agg cs, p, p', u, F, hs, h => h
  | .tup cs, p, p', u, F, hs, h => h
  | .cp cs, p, p', u, F, hs, h => h
  | .op id off, p, p', u, F, hs, h => h
  | .orow id e off n, p, p', u, F, hs, h => h
  | .rp id e i j, p, p', u, F, hs, h => h
  | .clo f cs, p, p', u, F, hs, h => h
  | .omap id, p, p', u, F, hs, h => h
  | .ifc t x, p, p', u, F, hs, h => h
  | .any, p, p', u, F, hs, h => h
  | .pth _ _ _ _ _, p, p', u, F, hs, h => h
  | .pp _ _ _ _ _, p, p', u, F, hs, h => h
theorem treeDs_move {S : Nat → Prop} {w : World} {sb sb' : Sub} : ∀ (xs : List AV) (p p' : Pth) (i j : Nat) (us : List Value) (F : List Nat), (∀ r, sb' (p' ++ r) = sb (p ++ r)) → treeDs S w sb xs p i j us F → treeDs S w sb' xs p' i j us F
  | [], p, p', i, j, us, F, hs, h => h
  | v :: vs, p, p', i, j, us, F, hs, h => by
    unfold treeDs at h ⊢
    obtain ⟨u, us', F1, F2, rfl, rfl, h1, h2⟩ := h
    exact ⟨u, us', F1, F2, rfl, rfl, treeD_move v _ _ u F1 (fun r => by rw [List.append_assoc, List.append_assoc]; exact hs _) h1, treeDs_move vs p p' i (j + 1) us' F2 hs h2⟩
end
/-- What is left of a way behind its beginning. -/
def strip : Pth → Pth → Option Pth
  | [], r => some r
  | _ :: _, [] => none
  | x :: p, y :: r => if x = y then strip p r else none
theorem strip_app : ∀ (p r : Pth), strip p (p ++ r) = some r
  | [], r => rfl
  | x :: p, r => by simp [strip, strip_app p r]
theorem strip_some : ∀ {p r t : Pth}, strip p r = some t → r = p ++ t
  | [], r, t, h => by simp [strip] at h; exact h
  | _ :: _, [], t, h => by simp [strip] at h
  | x :: p, y :: r, t, h => by
    simp only [strip] at h
    split at h
    · rename_i e; subst e; rw [strip_some h]; rfl
    · cases h
/-- A row put in at the end of a way: where all lies. -/
def graft (W : Wt) (p : Pth) (D : Sub) : Sub := fun r => match strip p r with
  | some t => D t
  | none => W.sub r
theorem graft_in {W W' : Wt} {q : Pth} {i j : Nat} {D : Sub} (h : W'.sub = graft W (q ++ [(i, j)]) D) (r : Pth) : rsub W' ((q ++ [(i, j)]) ++ r) = D r := by
  cases hq : (q ++ [(i, j)]) ++ r with
  | nil => simp at hq
  | cons x t =>
    rw [rsub, h, graft, ← hq, strip_app]
theorem graft_out {W W' : Wt} {q : Pth} {i j : Nat} {D : Sub} (h : W'.sub = graft W (q ++ [(i, j)]) D) (hc : Core W W') {r : Pth} (hr : ∀ t, r ≠ (q ++ [(i, j)]) ++ t) : rsub W' r = rsub W r := by
  cases r with
  | nil => rw [rsub, rsub, hc.1, hc.2.1]
  | cons x t =>
    rw [rsub, rsub, h, graft]
    cases hs : strip (q ++ [(i, j)]) (x :: t) with
    | none => rfl
    | some t' => exact absurd (strip_some hs) (hr t')
/-- A row whose cells are leaves, as a tree. -/
theorem row_tree {S : Nat → Prop} {β : Nat → Wt} {w : World} {W : Wt} {q : Option Nat} {e n : Nat} {g : Nat → List AV} (hl : ∀ i, i < n → leafs (g i) = true) (h : orel S β w W (.row q e n g)) : treeD S w (rsub W) (.row none e n g) [] (.slice W.a n W.cap) W.foot := by
  obtain ⟨h1, h2, h3⟩ := h
  unfold treeD
  refine ⟨rfl, (fun z hz => by cases hz), ⟨h1, h2⟩, ?_⟩
  rcases h3 with ⟨z1, z2, z3⟩ | ⟨b, off, cells, ty, us, z1, z2, z3, z4, z5⟩
  · exact .inl ⟨z1, z2, z3⟩
  · refine .inr ⟨b, off, cells, ty, us, fun _ => [], z1, ?_, z3, z4.1, fun i hi => ⟨(z5 i hi).1, leafs_tree (hl i hi) (z5 i hi).2⟩⟩
    rw [z2]
    have : ∀ l : List Nat, l.flatMap (fun _ => ([] : List Nat)) = [] := fun l => by induction l <;> simp_all
    rw [this]
/-- The object of a row that is put in. -/
def rowIn : Option Obj → Nat → Nat → ((Nat → List AV) → Prop → Prop) → Prop
  | some (.tree e n g), e', n', K => match Nat.beq e e' with
    | true => K g (n = n')
    | false => False
  | some (.row _ e n g), e', n', K => match Nat.beq e e' with
    | true => K g (n = n' ∧ ∀ i, i < n → leafs (g i) = true)
    | false => False
  | _, _, _, _ => False
theorem rowIn_ok {ob : Option Obj} {e' n' : Nat} {K : (Nat → List AV) → Prop → Prop} (h : rowIn ob e' n' K) : ∃ o g A, ob = some o ∧ K g A ∧ ∀ (S : Nat → Prop) (β : Nat → Wt) (w : World) (W : Wt), A → orel S β w W o → treeD S w (rsub W) (.row none e' n' g) [] (.slice W.a n' W.cap) W.foot := by
  unfold rowIn at h
  split at h
  · rename_i e n g e1 n1 K1
    split at h
    · rename_i hb
      have hb := Nat.eq_of_beq_eq_true hb
      subst hb
      exact ⟨_, _, _, rfl, h, fun S β w W hA ho => by subst hA; exact ho.2⟩
    · cases h
  · rename_i q e n g e1 n1 K1
    split at h
    · rename_i hb
      have hb := Nat.eq_of_beq_eq_true hb
      subst hb
      exact ⟨_, _, _, rfl, h, fun S β w W hA ho => by obtain ⟨rfl, hA⟩ := hA; exact row_tree hA ho⟩
    · cases h
  · cases h
/-- Slots that lead nowhere below the rows of a tree. -/
def keyP (id d : Nat) : Sl → Bool
  | [] => false
  | (d', _, v) :: s => (Nat.beq d' d && menP id v) || keyP id d s
def dropP (id : Nat) (s0 : Sl) : Sl → Sl
  | [] => []
  | (d, c, v) :: s => bif keyP id d s0 then dropP id s0 s else (d, c, v) :: dropP id s0 s
theorem keyP_lk {id d c : Nat} {v : AV} : ∀ {s : Sl}, lk s d = some (c, v) → keyP id d s = false → menP id v = false
  | [], h, _ => by simp [lk] at h
  | (d', c', v') :: s, h, hk => by
    simp only [keyP, Bool.or_eq_false_iff, Bool.and_eq_false_iff] at hk
    rw [lk_cons] at h
    split at h
    · rename_i e; subst e; cases h
      rcases hk.1 with z | z
      · simp at z
      · exact z
    · exact keyP_lk h hk.2
theorem dropP_lk {id d c : Nat} {v : AV} {s0 : Sl} : ∀ {s : Sl}, lk (dropP id s0 s) d = some (c, v) → lk s d = some (c, v) ∧ keyP id d s0 = false
  | [], h => by simp [dropP, lk] at h
  | (d', c', v') :: s, h => by
    simp only [dropP] at h
    cases hb : keyP id d' s0 with
    | true =>
      rw [hb, cond_true] at h
      obtain ⟨h1, h2⟩ := dropP_lk h
      have : d' ≠ d := fun e => by subst e; rw [hb] at h2; cases h2
      exact ⟨by rw [lk_cons, if_neg this]; exact h1, h2⟩
    | false =>
      rw [hb, cond_false, lk_cons] at h
      split at h
      · rename_i e; subst e; exact ⟨by rw [lk_cons, if_pos rfl]; exact h, hb⟩
      · rename_i e
        obtain ⟨h1, h2⟩ := dropP_lk h
        exact ⟨by rw [lk_cons, if_neg e]; exact h1, h2⟩
/-- Does no box lead below the rows of a tree? -/
def noBoxP (id : Nat) : Os → Bool
  | [] => true
  | (_, ob) :: o => !omenP id ob && noBoxP id o
theorem noBoxP_at {id : Nat} : ∀ {o : Os} {i : Nat} {ob : Obj}, noBoxP id o = true → lk o i = some ob → omenP id ob = false
  | [], i, ob, _, h => by simp [lk] at h
  | (j, ob') :: o, i, ob, hb, h => by
    simp only [noBoxP, Bool.and_eq_true, Bool.not_eq_true'] at hb
    rw [lk_cons] at h
    split at h
    · cases h; exact hb.1
    · exact noBoxP_at hb.2 h
section
variable {P : Program} {T : TT} {E : Env} {tb : Tb} {s : Sl} {o : Os} {β : Nat → Wt} {a : Act} {w : World} {t : TypeId} {ti : TI}
/-- A row put into a tree. -/
theorem store_in {id d e0 N e n i j e' n' : Nat} {get g g' : Nat → List AV} {q : Pth} {nz' : Option Bool} {u : Value} {ad : Addr} {obd : Obj} (hti : TIok P t ti) (hsz : ti.sz = 1) (hg : Gam E tb s o β a w) (hlk : lk o id = some (.tree e0 N get)) (hsub : subR (.row none e0 N get) q (.row nz' e n g)) (hi : i < n) (hj : j + 1 ≤ e)
    (hne : d ≠ id) (hld : lk o d = some obd) (htd : treeD (E.good o β) w (rsub (β d)) (.row none e' n' g') [] (.slice (β d).a n' (β d).cap) (β d).foot) (hok' : (β d).ok = true) (hu : rel (E.good o β) β w (.orow d e' 0 n') u) (hbx : noBoxP id o = true) (had : (rsub (β id) q).1 = some ad) :
    ∃ w' β', (Instr.storeAt t (.pointer (some (ad.add (i * e + j)))) u).run P w = .ok () w' ∧ Gam E tb (dropP id s s) ((id, .tree e0 N (updG q get i j [.row none e' n' g'])) :: rem (rem o d) id) β' a w' := by
  obtain ⟨hok, ht⟩ := hg.objs id _ hlk
  have hnd := foot_nodup hlk hg.nodup
  have hndd := foot_nodup hld hg.nodup
  obtain ⟨b, off, cells, ty, A, M, B, z1, z2, z3, z4, z5, z6, z7⟩ := tree_write (k := 1) ht hsub hi hj
  rw [z1] at had
  cases had
  unfold rel at hu
  obtain ⟨_, rfl⟩ := hu
  have hu2 : Value.slice ((β d).a.map (·.add (0 * e'))) n' ((β d).cap - 0) = .slice (β d).a n' (β d).cap := by
    rw [Nat.zero_mul, Nat.sub_zero]
    congr 1
    cases (β d).a <;> rfl
  rw [hu2]
  have hroom : off + (i * e + j) + ti.sz ≤ cells.length := by
    have := Nat.mul_le_mul_right e (show i + 1 ≤ (rsub (β id) q).2 by omega)
    rw [Nat.add_mul, Nat.one_mul] at this
    omega
  obtain ⟨w', hrun, q1, q2, q3, q4, q5, q6⟩ := run_store (q := .slice (β d).a n' (β d).cap) hti z2 hroom (by rw [hsz]; rfl) rfl
  have hbf : b ∈ (β id).foot := by rw [z5]; simp only [List.mem_append]; exact .inl z6
  have hbd : b ∉ (β d).foot := fun hx => foot_disj hlk hld hne hg.nodup b hx hbf
  let W' : Wt := ⟨(β id).a, (β id).cap, A ++ ((β d).foot ++ B), (β id).ok, graft (β id) (q ++ [(i, j)]) (rsub (β d))⟩
  have hcore : Core (β id) W' := ⟨rfl, rfl, rfl⟩
  have hlk' : lk (rem o d) id = some (.tree e0 N get) := by rw [lk_rem (fun e => hne e.symm)]; exact hlk
  obtain ⟨hr1, hr2⟩ := feet_rem hlk hg.nodup
  obtain ⟨hd1, hd2⟩ := feet_rem hld hg.nodup
  have hsd := feet_sub (β := β) (rem_sub (o := o) (c := d))
  have hnr : (feet (rem o d) β).Nodup := hg.nodup.sublist hsd
  obtain ⟨hi1, hi2⟩ := feet_rem hlk' hnr
  have hsi := feet_sub (β := β) (rem_sub (o := rem o d) (c := id))
  have hkr : ((rem o d).map (·.1)).Nodup := hg.keys.sublist (rem_sub.map _)
  have hkey : ∀ p ∈ rem (rem o d) id, p.1 ≠ id := fun p hp e => by
    have := rem_keys (c := id) hkr
    exact this (List.mem_map.2 ⟨p, hp, e⟩)
  refine ⟨w', setB β id W', by rw [add_none]; exact hrun, ?_⟩
  have hfe : feet ((id, .tree e0 N (updG q get i j [.row none e' n' g'])) :: rem (rem o d) id) (setB β id W') = (A ++ ((β d).foot ++ B)) ++ feet (rem (rem o d) id) β := by
    rw [feet_cons, setB_self, feet_setB hkey]
  have hAB : (A ++ B).Sublist (β id).foot := by
    rw [z5]; exact (List.Sublist.refl A).append (List.sublist_append_right M B)
  have hout : ∀ k, k < w.heap.size → k ∉ (β id).foot → w'.heap[k]? = w.heap[k]? := fun k _ hk => q6 k fun e => hk (by subst e; exact hbf)
  refine hg.to (fun d' c v hl => ?_) (fun k hk => ?_) ?_ ?_ q1 q2 q3 (by omega) (fun k hk hx => q6 k fun e => hx (by subst e; exact foot_feet hlk k hbf)) fun hc id' ob' hl => ?_
  · obtain ⟨h1, h2⟩ := dropP_lk hl
    refine ⟨h1, fun k _ => ?_, fun k hk p => ?_⟩
    · by_cases hk : k = id
      · subst hk; rw [setB_self]; exact hcore
      · rw [setB_ne hk]; exact Core.refl _
    · by_cases hki : k = id
      · subst hki; rw [keyP_lk h1 h2] at hk; cases hk
      · rw [setB_ne hki]
  · rw [hfe] at hk
    simp only [List.mem_append] at hk
    rcases hk with (z | z | z) | z
    · exact foot_feet hlk k (hAB.subset (by simp [z]))
    · exact foot_feet hld k z
    · exact foot_feet hlk k (hAB.subset (by simp [z]))
    · exact hsd.subset (hsi.subset z)
  · rw [hfe]
    refine List.nodup_append.2 ⟨?_, hnr.sublist hsi, fun x hx y hy e => ?_⟩
    · have n0 := hnd.sublist hAB
      rw [List.nodup_append] at n0
      refine List.nodup_append.2 ⟨n0.1, List.nodup_append.2 ⟨hndd, n0.2.1, fun x hx y hy e => ?_⟩, fun x hx y hy e => ?_⟩
      · subst e; exact foot_disj hlk hld hne hg.nodup x hx (hAB.subset (by simp [hy]))
      · subst e
        rcases List.mem_append.1 hy with z | z
        · exact foot_disj hlk hld hne hg.nodup x z (hAB.subset (by simp [hx]))
        · exact n0.2.2 x hx x z rfl
    · subst e
      simp only [List.mem_append] at hx
      rcases hx with z | z | z
      · exact hi1 x (hAB.subset (by simp [z])) hy
      · exact hd1 x z (hsi.subset hy)
      · exact hi1 x (hAB.subset (by simp [z])) hy
  · rw [List.map_cons, List.nodup_cons]
    exact ⟨rem_keys hkr, hkr.sublist (rem_sub.map _)⟩
  · rw [lk_cons] at hl
    split at hl
    · rename_i hid
      cases hl; subst hid
      rw [setB_self]
      refine ⟨hok, ?_⟩
      have hcell : treeD (E.good ((id, .tree e0 N (updG q get i j [.row none e' n' g'])) :: rem (rem o d) id) (setB β id W')) w' (rsub W') (.row none e' n' g') (q ++ [(i, j)]) (.slice (β d).a n' (β d).cap) (β d).foot :=
        treeD_move _ [] _ _ _ (fun r => graft_in (W := β id) rfl r) (treeD_mono hc _ _ _ _ (fun k hk => q6 k fun e => hbd (by subst e; exact hk)) (fun _ => rfl) htd)
      refine z7 _ w' _ [.row none e' n' g'] [.slice (β d).a n' (β d).cap] (β d).foot rfl hnd hc (fun k hk hkb => q6 k hkb) q5 rfl (fun r hr => ?_) ⟨_, _, _, [], rfl, by simp, hcell, rfl, rfl⟩
      refine graft_out rfl hcore fun t ht => hr j t (Nat.le_refl _) (by omega) ?_
      rw [ht]; simp
    · rename_i hid
      have hne2 : id' ≠ id := fun e => hid e.symm
      rw [lk_rem hne2] at hl
      have hne3 : id' ≠ d := fun e => by
        subst e
        rw [lk_none (rem_keys hg.keys)] at hl; cases hl
      rw [lk_rem hne3] at hl
      rw [setB_ne hne2]
      refine orel_core (β := β) (fun k _ => ?_) (fun k hk p => ?_) (orel_mono hc (fun k hk => hout k (hg.new k (foot_feet hl k hk)).2 (foot_disj hlk hl hne2 hg.nodup k hk)) (hg.objs id' ob' hl))
      · by_cases hk : k = id
        · subst hk; rw [setB_self]; exact hcore
        · rw [setB_ne hk]; exact Core.refl _
      · by_cases hki : k = id
        · subst hki; rw [noBoxP_at hbx hl] at hk; cases hk
        · rw [setB_ne hki]
end
end Go.Proofs.Ytecknkgiaahheaa

/- Rows go into a tree, and out of it: the operations. -/
namespace Go.Proofs.Ytecknkgiaahheaa
open Go.RowKit
set_option linter.unusedVariables false
set_option linter.unusedSimpArgs false
mutual
theorem menP_men {k : Nat} : ∀ {x : AV}, menP k x = true → men k x = true
  | .pth id p e off n, h => h
  | .pp id p e i j, h => h
  | .agg cs, h => menPs_mens (x := cs) h
  | .tup cs, h => menPs_mens (x := cs) h
  | .clo f cs, h => menPs_mens (x := cs) h
  | .ifc t x, h => menP_men (x := x) h
  | .i _ _, h => nomatch h
  | .b _, h => nomatch h
  | .s _, h => nomatch h
  | .v _, h => nomatch h
  | .nil, h => nomatch h
  | .row _ _ _ _, h => nomatch h
  | .cp _, h => nomatch h
  | .op _ _, h => nomatch h
  | .orow _ _ _ _, h => nomatch h
  | .rp _ _ _ _, h => nomatch h
  | .omap _, h => nomatch h
  | .any, h => nomatch h
theorem menPs_mens {k : Nat} : ∀ {x : List AV}, menPs k x = true → mens k x = true
  | [], h => nomatch h
  | y :: ys, h => by
    simp only [menPs, mens, Bool.or_eq_true] at h ⊢
    exact h.imp menP_men menPs_mens
end
def dropPK (id : Nat) (s0 : Sl) : Sl → (Sl → Prop) → Prop
  | [], K => K []
  | (d, c, v) :: s, K => match keyP id d s0 with
    | true => dropPK id s0 s K
    | false => dropPK id s0 s fun r => K ((d, c, v) :: r)
theorem dropPK_ok {id : Nat} {s0 : Sl} : ∀ {s : Sl} {K : Sl → Prop}, dropPK id s0 s K → K (dropP id s0 s)
  | [], K, h => h
  | (d, c, v) :: s, K, h => by
    simp only [dropPK] at h
    simp only [dropP]
    split at h
    · rename_i hb; rw [hb]; exact dropPK_ok h
    · rename_i hb; rw [hb]; exact dropPK_ok (K := fun r => K ((d, c, v) :: r)) h
theorem setR_upd {y y' : AV} {i j : Nat} : ∀ {p : Pth} {nz : Option Bool} {e0 N : Nat} {get : Nat → List AV}, subR (.row nz e0 N get) (p ++ [(i, j)]) y → setR y' (.row nz e0 N get) (p ++ [(i, j)]) = .row nz e0 N (updG p get i j [y'])
  | [], nz, e0, N, get, h => by
    simp only [List.nil_append, subR] at h
    obtain ⟨ha, x', hx', hs⟩ := h
    simp only [List.nil_append, setR, updG, AV.row.injEq, true_and]
    funext k
    simp only [setC, setG]
    split
    · have : ∀ (l : List AV) (j : Nat) (z : AV), j < l.length → l.set j z = splice l j [z] := fun l => by
        induction l with
        | nil => intro j z h; simp at h
        | cons a l ih => intro j z h; cases j with
          | zero => simp [splice, splice_nil]
          | succ j => simp only [List.set_cons_succ, splice]; rw [ih j z (by simpa using h)]
      exact this _ _ _ (List.getElem?_eq_some_iff.1 hx').1
    · rfl
  | (a, c) :: p, nz, e0, N, get, h => by
    simp only [List.cons_append, subR] at h
    obtain ⟨ha, x', hx', hs⟩ := h
    rw [List.cons_append, setR, updG, nthN_eq, hx']
    cases x' with
    | row nz1 e1 n1 g1 =>
      simp only [Option.getD_some]
      rw [setR_upd hs]
    | _ => cases p <;> simp [subR] at hs
theorem leafs_rels {S : Nat → Prop} {w : World} {sb : Sub} {p : Pth} {i : Nat} : ∀ {xs : List AV} {j : Nat} {us : List Value} {F : List Nat}, leafs xs = true → treeDs S w sb xs p i j us F → F = [] ∧ rels S W0 w xs us
  | [], j, us, F, hl, h => ⟨h.2, h.1⟩
  | x :: xs, j, us, F, hl, h => by
    simp only [leafs, Bool.and_eq_true] at hl
    unfold treeDs at h
    obtain ⟨u, us', F1, F2, rfl, rfl, h1, h2⟩ := h
    have hr : isRow x = false := by cases x <;> first | rfl | (have := hl.1; cases this)
    obtain ⟨rfl, k1⟩ := (treeD_flat hr).1 h1
    obtain ⟨rfl, k2⟩ := leafs_rels hl.2 h2
    exact ⟨rfl, u, us', rfl, k1, k2⟩
section
variable {P : Program} {T : TT} {E : Env} {tb : Tb} {s : Sl} {o : Os} {β : Nat → Wt} {a : Act} {w : World} {t : TypeId} {ti : TI}
/-- A row taken out of a tree. -/
theorem take_out {id q x e0 N e n i j : Nat} {get g2 : Nat → List AV} {p0 : Pth} {nz2 : Option Bool} (hg : Gam E tb s o β a w) (hlk : lk o id = some (.tree e0 N get)) (hsub : subR (.row none e0 N get) (p0 ++ [(i, j)]) (.row nz2 e n g2)) (hleaf : ∀ i, i < n → leafs (g2 i) = true) (hfr : fresh q s o = true)
    (hx : lk s x = some (0, .pth id (p0 ++ [(i, j)]) e 0 n)) :
    ∃ β', Gam E tb ((x, 0, .orow q e 0 n) :: s) ((q, .row none e n g2) :: (id, .tree e0 N (updG p0 get i j [.any])) :: rem o id) β' a w := by
  obtain ⟨hok, ht⟩ := hg.objs id _ hlk
  have hnd := foot_nodup hlk hg.nodup
  obtain ⟨hr1, hr2⟩ := feet_rem hlk hg.nodup
  have hsi := feet_sub (β := β) (rem_sub (o := o) (c := id))
  simp only [fresh, Bool.and_eq_true, Bool.not_eq_true'] at hfr
  have hqo : ∀ p ∈ o, p.1 ≠ q := fun p hp => omens_keys hfr.2 p hp
  have hqid : q ≠ id := fun e => by subst e; exact hqo _ (lk_mem hlk) rfl
  obtain ⟨uy, Fy, A, B, e1, y1, y2⟩ := focus ht hsub
  rw [List.nil_append] at y1
  have hsetR := setR_upd (y' := .any) hsub
  have y1' := y1
  unfold treeD at y1'
  obtain ⟨hu, _, hle, hnode⟩ := y1'
  have hFy : (Fy = [] ∧ (rsub (β id) (p0 ++ [(i, j)])).1 = none ∧ (rsub (β id) (p0 ++ [(i, j)])).2 = 0) ∨ ∃ b off cells ty us, (rsub (β id) (p0 ++ [(i, j)])).1 = some ⟨b, off, none⟩ ∧ Fy = [b] ∧ w.heap[b]? = some (.cells (cells : List Value).toArray ty (0, 0)) ∧ off + (rsub (β id) (p0 ++ [(i, j)])).2 * e ≤ cells.length ∧ ∀ i, i < n → rowAt cells off e us i ∧ rels (E.good o β) W0 w (g2 i) (us i) := by
    rcases hnode with ⟨z1, z2, z3⟩ | ⟨b, off, cells, ty, us, FS, z1, z2, z3, z4, z5⟩
    · exact .inl ⟨z3, z1, z2⟩
    · refine .inr ⟨b, off, cells, ty, us, z1, ?_, z3, z4, fun k hk => ⟨(z5 k hk).1, (leafs_rels (hleaf k hk) (z5 k hk).2).2⟩⟩
      have : ∀ k ∈ List.range n, FS k = [] := fun k hk => (leafs_rels (hleaf k (List.mem_range.1 hk)) (z5 k (List.mem_range.1 hk)).2).1
      rw [z2, List.flatMap_eq_nil_iff.2 this]
  let Wq : Wt := ⟨(rsub (β id) (p0 ++ [(i, j)])).1, (rsub (β id) (p0 ++ [(i, j)])).2, Fy, true, sub0⟩
  have hkey : ∀ p ∈ rem o id, p.1 ≠ id := fun p hp e => by
    have := rem_keys (c := id) hg.keys
    exact this (List.mem_map.2 ⟨p, hp, e⟩)
  have hkq : ∀ p ∈ (id, Obj.tree e0 N (updG p0 get i j [.any])) :: rem o id, p.1 ≠ q := fun p hp e => by
    rcases List.mem_cons.1 hp with z | z
    · subst z; exact hqid e.symm
    · exact hqo p (rem_sub.subset z) e
  have hfe : feet ((q, .row none e n g2) :: (id, .tree e0 N (updG p0 get i j [.any])) :: rem o id) (setB (setB β id (footW (β id) (A ++ ([] ++ B)))) q Wq) = Fy ++ ((A ++ B) ++ feet (rem o id) β) := by
    rw [feet_cons, setB_self, feet_setB hkq, feet_cons, setB_self, feet_setB hkey]; rfl
  have hnd2 := hnd
  rw [e1] at hnd2
  have hAB : (A ++ B).Sublist (β id).foot := by
    rw [e1]; exact (List.Sublist.refl A).append (List.sublist_append_right Fy B)
  have hFs : ∀ k ∈ Fy, k ∈ (β id).foot := fun k hk => by rw [e1]; simp [hk]
  have hFAB : ∀ k ∈ Fy, k ∉ A ++ B := fun k hk hk2 => by
    rw [List.nodup_append] at hnd2
    rcases List.mem_append.1 hk2 with z | z
    · exact hnd2.2.2 k z k (by simp [hk]) rfl
    · exact (List.nodup_append.1 hnd2.2.1).2.2 k hk k z rfl
  have hβ : ∀ k, k ≠ q → Core (β k) (setB (setB β id (footW (β id) (A ++ ([] ++ B)))) q Wq k) ∧ ∀ p, rsub (setB (setB β id (footW (β id) (A ++ ([] ++ B)))) q Wq k) p = rsub (β k) p := fun k hk => by
    rw [setB_ne hk]
    by_cases hki : k = id
    · subst hki; rw [setB_self]; exact ⟨footW_core _ _, footW_rsub _ _⟩
    · rw [setB_ne hki]; exact ⟨Core.refl _, fun _ => rfl⟩
  have hG : Gam E tb s ((q, .row none e n g2) :: (id, .tree e0 N (updG p0 get i j [.any])) :: rem o id) (setB (setB β id (footW (β id) (A ++ ([] ++ B)))) q Wq) a w := by
    refine hg.to (fun d c v hl => ⟨hl, fun k hk => ?_, fun k hk p => ?_⟩) (fun k hk => ?_) ?_ ?_ rfl rfl rfl (Nat.le_refl _) (fun _ _ _ => rfl) fun hc id' ob' hl => ?_
    · exact (hβ k fun e => by subst e; rw [smen_lk hl hfr.1] at hk; cases hk).1
    · refine (hβ k fun e => ?_).2 p
      subst e
      have h1 := smen_lk hl hfr.1
      rw [menP_men hk] at h1; cases h1
    · rw [hfe] at hk
      simp only [List.mem_append] at hk
      rcases hk with z | (z | z) | z
      · exact foot_feet hlk k (hFs k z)
      · exact foot_feet hlk k (hAB.subset (by simp [z]))
      · exact foot_feet hlk k (hAB.subset (by simp [z]))
      · exact hsi.subset z
    · rw [hfe]
      have n2 := hnd2
      rw [List.nodup_append] at n2
      refine List.nodup_append.2 ⟨(List.nodup_append.1 n2.2.1).1, List.nodup_append.2 ⟨hnd.sublist hAB, hg.nodup.sublist hsi, fun x hx y hy e => by subst e; exact hr1 x (hAB.subset hx) hy⟩, fun x hx y hy e => ?_⟩
      subst e
      rcases List.mem_append.1 hy with z | z
      · exact hFAB x hx z
      · exact hr1 x (hFs x hx) z
    · rw [List.map_cons, List.map_cons, List.nodup_cons, List.nodup_cons]
      refine ⟨fun hm => ?_, rem_keys hg.keys, hg.keys.sublist (rem_sub.map _)⟩
      rw [← List.map_cons (f := Prod.fst) (a := (id, Obj.tree e0 N (updG p0 get i j [.any])))] at hm
      obtain ⟨p, hp, e⟩ := List.mem_map.1 hm
      exact hkq p hp e
    · rw [lk_cons] at hl
      split at hl
      · rename_i hid
        cases hl; subst hid
        rw [setB_self]
        refine ⟨hle.1, hle.2, ?_⟩
        rcases hFy with ⟨rfl, z1, z2⟩ | ⟨b, off, cells, ty, us, z1, z2, z3, z4, z5⟩
        · exact .inl ⟨z1, z2, rfl⟩
        · exact .inr ⟨b, off, cells, ty, us, z1, z2, z3, ⟨z4, (fun _ h => nomatch h)⟩, fun k hk => ⟨(z5 k hk).1, rels_mono hc _ _ (z5 k hk).2⟩⟩
      · rename_i hid
        rw [lk_cons] at hl
        split at hl
        · rename_i hid2
          cases hl; subst hid2
          rw [setB_ne (fun e => hqid e.symm), setB_self]
          refine ⟨hok, ?_⟩
          have := y2 _ w (rsub (footW (β id) (A ++ ([] ++ B)))) .any [] hc (fun _ _ => rfl) (fun r _ => footW_rsub _ _ _) ⟨rfl, by rw [hu]; rfl⟩
          rw [hsetR] at this
          exact this
        · rename_i hid2
          have hne : id' ≠ id := fun e => hid2 e.symm
          rw [lk_rem hne] at hl
          have hnq : id' ≠ q := fun e => hid e.symm
          rw [setB_ne hnq, setB_ne hne]
          obtain ⟨m1, m2⟩ := omens_lk hl hfr.2
          refine orel_core (β := β) (fun k hk => (hβ k fun e => ?_).1) (fun k hk p => (hβ k fun e => ?_).2 p) (orel_mono hc (fun _ _ => rfl) (hg.objs id' ob' hl))
          · subst e; rw [m1] at hk; cases hk
          · subst e
            have h2 : omen k ob' = true := by
              cases ob' with
              | box p q cs => exact menPs_mens hk
              | row => cases hk
              | tree => cases hk
              | mp => cases hk
            rw [m1] at h2; cases h2
  obtain ⟨u, s1, s2⟩ := hg.slots x 0 _ hx
  have htg := tg_zero hg.tbok
  have hru := s2 htg
  refine ⟨setB (setB β id (footW (β id) (A ++ ([] ++ B)))) q Wq, hG.slotsTo hG.tbok fun d c v hl => ?_⟩
  rw [lk_cons] at hl
  split at hl
  · rename_i hd
    cases hl; subst hd
    refine ⟨u, s1, fun _ => ?_⟩
    unfold rel at hru
    obtain ⟨_, rfl⟩ := hru
    exact ⟨by rw [setB_self], by rw [setB_self]⟩
  · exact hG.slots d c v hl
end
end Go.Proofs.Ytecknkgiaahheaa

/- What is owned in depth: the operations' steps. -/
namespace Go.Proofs.Ytecknkgiaahheaa
open Go.RowKit
set_option linter.unusedVariables false
set_option linter.unusedSimpArgs false
section
variable {P : Program} {T : TT} {tb : Tb} {s : Sl} {o : Os} {c : Nat} {t : TypeId} {ti : TI} {x y : Operand} {u v p : AV}
def storeO (ti : TI) (s : Sl) (o : Os) (p : AV) (d e' n' : Nat) (K : Sl → Os → Prop) : Prop := match Nat.beq ti.sz 1 with
  | true => match p with
    | .rp id e i j => match lk o id with
      | some (.tree e1 n get) => match Nat.beq e e1 && Nat.ble (j + 1) e && !Nat.beq d id && noBoxP id o with
        | true => rowIn (lk o d) e' n' fun g A => (A ∧ i < n) ∧ remK o d fun o1 => remK o1 id fun o2 => dropPK id s s fun s => K s ((id, .tree e1 n (setG get i j [.row none e' n' g])) :: o2)
        | false => False
      | _ => False
    | .pp id q e i j => match lk o id with
      | some (.tree e0 N get) => navK [] 0 q e0 N get fun e1 n g0 => match Nat.beq e e1 && Nat.ble (j + 1) e && !Nat.beq d id && noBoxP id o with
        | true => rowIn (lk o d) e' n' fun g A => (A ∧ i < n) ∧ remK o d fun o1 => remK o1 id fun o2 => dropPK id s s fun s => K s ((id, .tree e0 N (updG q get i j [.row none e' n' g])) :: o2)
        | false => False
      | _ => False
    | _ => False
  | false => False
theorem beq_ne {a b : Nat} (h : (!Nat.beq a b) = true) : a ≠ b := fun e => by subst e; simp at h
theorem storeO_ok {d e' n' : Nat} {K : Sl → Os → Prop} {ty : TypeId} {pos : String} {after : Array Edge} {gu : Option (Nat × Bool)} (hti : TIok P t ti) (hx : Opn tb s 0 x p) (hy : Opn tb s 0 y (.orow d e' 0 n')) (h : storeO ti s o p d e' n' K) : ∃ s' o', K s' o' ∧ (∀ i q v', lk s' i = some (q, v') → lk s i = some (q, v')) ∧ Mut P tb s o ⟨none, .store t x y, ty, pos, after, gu⟩ s' o' := by
  unfold storeO at h
  split at h
  · rename_i hsz
    have hsz := Nat.eq_of_beq_eq_true hsz
    split at h
    · rename_i id e i j
      split at h
      · rename_i e1 n get hlk
        split at h
        · rename_i hb
          simp only [Bool.and_eq_true] at hb
          obtain ⟨⟨⟨hb1, hb2⟩, hb3⟩, hb4⟩ := hb
          have hb1 := Nat.eq_of_beq_eq_true hb1
          have hb2 := Nat.le_of_ble_eq_true hb2
          have hb3 := beq_ne hb3
          subst hb1
          obtain ⟨obd, g, A, hld, ⟨⟨hA, hi⟩, hK⟩, hrow⟩ := rowIn_ok h
          have hK := dropPK_ok (remK_ok (remK_ok hK))
          refine ⟨_, _, hK, fun i q v' hl => (dropP_lk hl).1, fun E β a w hg _ K' Q hK' => ?_⟩
          have hc := tg_zero hg.tbok
          have h1 := hx.eval hg hc
          have h2 := hy.eval hg hc
          have hok' : (β d).ok = true := h2.1
          unfold rel at h1
          obtain ⟨h0, ad, e1', e2⟩ := h1
          obtain ⟨w', β', hrun, hG⟩ := store_in (q := []) (nz' := none) hti hsz hg hlk rfl hi hb2 hb3 hld (hrow _ _ _ _ hA (hg.objs d _ hld)) hok' h2 hb4 (ad := ad) e1'
          have hex : (execOp a.eval ⟨none, .store t x y, ty, pos, after, gu⟩).run P w = .ok .skip w' := by
            simp only [execOp, e2]
            rw [Sem.run_bind, hrun]; rfl
          unfold Oper.wp
          rw [hex, Oper.upon_skip]
          exact hK' _ _ _ hG
        · cases h
      · cases h
    · rename_i id q e i j
      split at h
      · rename_i e0 N get hlk
        obtain ⟨e1, n, g0, hk, hnav⟩ := navK_ok h
        clear h
        have h := hk
        clear hk
        split at h
        · rename_i hb
          simp only [Bool.and_eq_true] at hb
          obtain ⟨⟨⟨hb1, hb2⟩, hb3⟩, hb4⟩ := hb
          have hb1 := Nat.eq_of_beq_eq_true hb1
          have hb2 := Nat.le_of_ble_eq_true hb2
          have hb3 := beq_ne hb3
          subst hb1
          obtain ⟨obd, g, A, hld, ⟨⟨hA, hi⟩, hK⟩, hrow⟩ := rowIn_ok h
          have hK := dropPK_ok (remK_ok (remK_ok hK))
          refine ⟨_, _, hK, fun i q v' hl => (dropP_lk hl).1, fun E β a w hg _ K' Q hK' => ?_⟩
          have hc := tg_zero hg.tbok
          have h1 := hx.eval hg hc
          have h2 := hy.eval hg hc
          have hok' : (β d).ok = true := h2.1
          obtain ⟨nz', hsub⟩ := hnav rfl none
          unfold rel at h1
          obtain ⟨h0, ad, e1', e2⟩ := h1
          obtain ⟨w', β', hrun, hG⟩ := store_in hti hsz hg hlk hsub hi hb2 hb3 hld (hrow _ _ _ _ hA (hg.objs d _ hld)) hok' h2 hb4 (ad := ad) e1'
          have hex : (execOp a.eval ⟨none, .store t x y, ty, pos, after, gu⟩).run P w = .ok .skip w' := by
            simp only [execOp, e2]
            rw [Sem.run_bind, hrun]; rfl
          unfold Oper.wp
          rw [hex, Oper.upon_skip]
          exact hK' _ _ _ hG
        · cases h
      · cases h
    · cases h
  · cases h
/-- The end of a way. -/
def lastK : Pth → Pth → (Pth → Nat → Nat → Prop) → Prop
  | [], _, _ => False
  | [(i, j)], acc, K => K acc i j
  | x :: y :: r, acc, K => lastK (y :: r) (acc ++ [x]) K
theorem lastK_ok : ∀ {p acc : Pth} {K : Pth → Nat → Nat → Prop}, lastK p acc K → ∃ p0 i j, acc ++ p = p0 ++ [(i, j)] ∧ K p0 i j
  | [], _, _, h => h.elim
  | [(i, j)], acc, K, h => ⟨acc, i, j, rfl, h⟩
  | x :: y :: r, acc, K, h => by
    obtain ⟨p0, i, j, e, hk⟩ := lastK_ok (p := y :: r) h
    exact ⟨p0, i, j, by rw [← e]; simp, hk⟩
/-- A row that something is put behind, taken out of its tree. -/
def takK (p : Oper) (s : Sl) (o : Os) (K : Sl → Os → Prop) : Prop := match p.op with
  | .call ⟨.builtin .append, xs, _⟩ => match xs.toList with
    | [.tmp x, _] => match lk s x with
      | some (0, .pth id q e 0 n) => match lk o id with
        | some (.tree e0 N get) => navK [] 0 q e0 N get fun e' n' g => match Nat.beq e e' with
          | true => (n = n' ∧ ∀ i, i < n' → leafs (g i) = true) ∧ lastK q [] fun p0 i j => match fresh (x + 100000) s o with
            | true => remK o id fun o1 => K ((x, 0, .orow (x + 100000) e 0 n) :: s) ((x + 100000, .row none e n g) :: (id, .tree e0 N (updG p0 get i j [.any])) :: o1)
            | false => False
          | false => False
        | _ => False
      | _ => K s o
    | _ => K s o
  | _ => K s o
theorem takK_ok {p : Oper} {K : Sl → Os → Prop} (h : takK p s o K) : ∃ s' o', K s' o' ∧ (∀ d q v', lk s' d = some (q, v') → ∃ v, lk s d = some (q, v)) ∧ ∀ (E : Env) (tb : Tb) (β : Nat → Wt) (a : Act) (w : World), Gam E tb s o β a w → ∃ β', Gam E tb s' o' β' a w := by
  have triv : K s o → ∃ s' o', K s' o' ∧ (∀ d q v', lk s' d = some (q, v') → ∃ v, lk s d = some (q, v)) ∧ ∀ (E : Env) (tb : Tb) (β : Nat → Wt) (a : Act) (w : World), Gam E tb s o β a w → ∃ β', Gam E tb s' o' β' a w := fun h => ⟨s, o, h, fun d q v hl => ⟨v, hl⟩, fun E tb β a w hg => ⟨β, hg⟩⟩
  unfold takK at h
  split at h
  · split at h
    · rename_i x _ _
      split at h
      · rename_i id q e n hx
        split at h
        · rename_i e0 N get hlk
          obtain ⟨e', n', g, hk, hnav⟩ := navK_ok h
          clear h
          have h := hk
          clear hk
          split at h
          · rename_i hb
            have hb := Nat.eq_of_beq_eq_true hb
            subst hb
            obtain ⟨⟨rfl, hleaf⟩, h⟩ := h
            obtain ⟨p0, i, j, e1, hk2⟩ := lastK_ok h
            clear h
            have h := hk2
            clear hk2
            rw [List.nil_append] at e1
            subst e1
            split at h
            · rename_i hfr
              have hk3 := remK_ok h
              refine ⟨_, _, hk3, fun d q v' hl => ?_, fun E tb β a w hg => ?_⟩
              · rw [lk_cons] at hl
                split at hl
                · rename_i hd; subst hd; cases hl; exact ⟨_, hx⟩
                · exact ⟨v', hl⟩
              · obtain ⟨nz', hsub⟩ := hnav rfl none
                exact take_out hg hlk hsub hleaf hfr hx
            · cases h
          · cases h
        · cases h
      · exact triv h
    · exact triv h
  · exact triv h
/-- Is there a slice among them that is nil? -/
def hasNil : List AV → Bool
  | [] => false
  | .nil :: _ => true
  | _ :: xs => hasNil xs
def leafN : AV → Bool
  | .nil => true
  | x => leafA x
def leafNs : List AV → Bool
  | [] => true
  | x :: xs => leafN x && leafNs xs
theorem leafN_tree {S : Nat → Prop} {β : Nat → Wt} {w : World} {sb : Sub} {x : AV} {p : Pth} {u : Value} (hs : sb p = (none, 0)) (hl : leafN x = true) (h : rel S β w x u) : treeD S w sb x p u [] := by
  cases x
  case nil => unfold treeD; exact ⟨rfl, h, hs⟩
  all_goals first | exact leafA_tree hl h | cases hl
theorem leafNs_tree {S : Nat → Prop} {β : Nat → Wt} {w : World} {sb : Sub} {p : Pth} {i : Nat} (hs : ∀ j, sb (p ++ [(i, j)]) = (none, 0)) : ∀ {xs : List AV} {j : Nat} {us : List Value}, leafNs xs = true → rels S β w xs us → treeDs S w sb xs p i j us []
  | [], j, us, hl, h => ⟨h, rfl⟩
  | x :: xs, j, us, hl, h => by
    simp only [leafNs, Bool.and_eq_true] at hl
    obtain ⟨u, us', rfl, h1, h2⟩ := h
    exact ⟨u, us', [], [], rfl, rfl, leafN_tree (hs j) hl.1 h1, leafNs_tree hs hl.2 h2⟩
/-- A new row of rows. -/
def makT (ti : TI) (d : Nat) (zero : List AV) (u v : AV) (K : AV → Os → Prop) : Prop := match ti.el, u, v with
  | some (_, e, B), .i _ m, .i _ m' => match leafNs zero with
    | true => (0 ≤ m ∧ m' = m ∧ B * m.toNat ≤ 281474976710656 ∧ m ≤ 9223372036854775807) ∧ K (.orow d e 0 m.toNat) [(d, .tree e m.toNat fun _ => zero)]
    | false => False
  | _, _, _ => False
theorem makT_ok {d : Nat} {dst : Option Nat} {ti' : TI} {K : AV → Os → Prop} (hti : TIok P t ti) (hti' : ∀ e n b, ti.el = some (e, n, b) → TIok P e ti') (hz' : ti'.zero ≠ []) (hx : Opn tb s c x u) (hy : Opn tb s c y v) (h : makT ti d (ti'.zero.map constC) u v K) : ∃ r no, K r no ∧ Add P tb s o c dst (.makeSlice t x y) r no := by
  unfold makT at h
  split at h
  · rename_i e0 e B k m k' m' hel
    split at h
    · rename_i hleaf
      obtain ⟨⟨h0, rfl, hB, h63⟩, h⟩ := h
      refine ⟨_, _, h, fun E tb' s' o' β a w he hs ho hf hg hc hc' ty pos after gu K Q hK => ?_⟩
      obtain ⟨hu, hs', inf, z, i1, i2, i3, i4, i5, i6⟩ := hti.el _ _ _ hel
      subst i2 i3
      obtain ⟨⟨z', q1, q2⟩, q3, q4⟩ := (hti' _ _ _ hel).zero hz'
      have hzz : z' = z := by
        have := q1 w
        simp [zeroValue, typeInfo, i1, i4] at this
        exact this.symm
      subst hzz
      have h1 := (hx.to he (hs x (by simp [Op.operands]))).eval hg hc'
      have h2 := (hy.to he (hs y (by simp [Op.operands]))).eval hg hc'
      unfold rel at h1 h2
      have hlen : ti'.zero.length = inf.size := by rw [← q2, ← i5]; simp
      have hrun : (execOp a.eval ⟨dst, .makeSlice t x y, ty, pos, after, gu⟩).run P w = .ok (.value (.slice (some ⟨w.heap.size, 0, none⟩) m'.toNat m'.toNat)) (w.alloc (.cells (madeCells z'.cells (m'.toNat * inf.size)) e0)) := by
        simp only [execOp, h1, h2]
        refine run_next (run_make w t e0 inf z' hu i1 i4 k k' m' m' h0 (Int.le_refl _) ?_ h63)
        have : ((inf.bytes * m'.toNat : Nat) : Int) ≤ ((281474976710656 : Nat) : Int) := Int.ofNat_le.2 hB
        rw [Int.natCast_mul, Int.toNat_of_nonneg h0] at this
        exact this
      unfold Oper.wp
      rw [hrun, Oper.upon_value]
      have hadd := hg.add (d := d) (W := ⟨some ⟨w.heap.size, 0, none⟩, m'.toNat, [w.heap.size], true, sub0⟩) (ob := .tree inf.size m'.toNat fun _ => ti'.zero.map constC) (w' := w.alloc (.cells (madeCells z'.cells (m'.toNat * inf.size)) e0)) (hf (d, _) (List.mem_singleton.2 rfl))
        (fun k hk => by simp only [List.mem_singleton] at hk; subst hk; exact ⟨Nat.le_refl _, by rw [heap_push]; exact Nat.lt_succ_self _⟩) (by simp) rfl rfl rfl (by rw [heap_push]; omega) (fun k hk => Below.heap_alloc w _ k hk)
        fun hc => ⟨rfl, by
          unfold treeD
          refine ⟨rfl, (fun z hz => by cases hz), ⟨Nat.le_refl _, by unfold maxLen; omega⟩, .inr ⟨w.heap.size, 0, (madeCells z'.cells (m'.toNat * inf.size)).toList, e0, fun _ => ti'.zero, fun _ => [], rfl, ?_, ?_, ?_, fun i hi => ⟨⟨⟨hlen, q4⟩, fun j u hj => ?_⟩, ?_⟩⟩⟩
          · have : ∀ l : List Nat, l.flatMap (fun _ => ([] : List Nat)) = [] := fun l => by induction l <;> simp_all
            rw [this]
          · rw [Array.toArray_toList]; exact heap_alloc_new w _
          · simp [size_madeCells, rsub]
          · rw [Nat.zero_add, ← hlen, show z'.cells = ti'.zero.toArray by rw [← q2]]
            exact zeros_at _ _ hi hj
          · exact leafNs_tree (β := β) (fun j => rfl) hleaf (constCs_rel _)⟩
      exact hK _ _ _ hadd ⟨by rw [setB_self], by rw [setB_self, Nat.zero_mul]; rfl⟩
    · cases h
  · cases h
end
end Go.Proofs.Ytecknkgiaahheaa

/- Maps that the call makes: keys of ints, elements ints. -/
namespace Go.Proofs.Ytecknkgiaahheaa
open Go.RowKit
set_option linter.unusedVariables false
set_option linter.unusedSimpArgs false
/-- A block is a map of at most n entries with this content. -/
def mapD (P : Program) (k e : Nat) (ks : Bool) (n : Nat) (F : List Int → Int) (D : DataW Unit) (es : Array MapEntry) (clock : Nat) : Prop :=
  Go.WideElems.Fit P k (plainElem (H := Unit) P e) es clock ∧ es.size ≤ n ∧ D = .map ((es.toList.map (Go.WideElems.rg P k (plainElem (H := Unit) P e))).foldr DataW.insert []) ∧
    ∀ (zs : List Int) (kl : Lit), keyOf P k (keyV ks zs) = some kl → D.atKey kl (.lit (.int .i64 0)) = .lit (.int .i64 (F zs))
def mapX (P : Program) (k e : Nat) (ks : Bool) (n : Nat) (F : List Int → Int) (x : Go.Obj) : Prop := ∃ D es clock, x = .map es clock ∧ mapD P k e ks n F D es clock
def mset (F : List Int → Int) (zs : List Int) (v : Int) : List Int → Int := fun k => if k = zs then v else F k
theorem mapX_le {P : Program} {k e : Nat} {ks : Bool} {n n' : Nat} {F F' : List Int → Int} (hn : n ≤ n') (hF : ∀ zs, F zs = F' zs) : ∀ x, mapX P k e ks n F x → mapX P k e ks n' F' x := by
  rintro x ⟨D, es, clock, rfl, h1, h2, h3, h4⟩
  exact ⟨D, es, clock, rfl, h1, Nat.le_trans h2 hn, h3, fun zs kl hk => by rw [h4 zs kl hk, hF]⟩
/-- The ints of a key. -/
def intsK : List AV → (List Int → Prop) → Prop
  | [], K => K []
  | .i .i64 z :: l, K => intsK l fun zs => K (z :: zs)
  | _ :: _, _ => False
def keyK (ks : Bool) (v : AV) (K : List Int → Prop) : Prop := match ks, v with
  | false, .i .i64 z => K [z]
  | true, .agg cs => intsK cs K
  | _, _ => False
def inIs : List Int → Prop
  | [] => True
  | z :: zs => (-9223372036854775808 ≤ z ∧ z ≤ 9223372036854775807) ∧ inIs zs
theorem inIs_all : ∀ {zs : List Int}, inIs zs → ∀ z ∈ zs, inI z
  | [], _, z, hz => nomatch hz
  | x :: zs, h, z, hz => by
    rcases List.mem_cons.1 hz with rfl | hz
    · exact h.1
    · exact inIs_all h.2 z hz
theorem intsK_ok : ∀ {l : List AV} {K : List Int → Prop}, intsK l K → ∃ zs, K zs ∧ ∀ (S : Nat → Prop) (β : Nat → Wt) (w : World) (us : List Value), rels S β w l us → us = zs.map fun z => Value.int .i64 z
  | [], K, h => ⟨[], h, fun S β w us hr => by unfold rels at hr; subst hr; rfl⟩
  | v :: l, K, h => by
    unfold intsK at h
    split at h
    · cases ‹_ = []›
    · rename_i z l' e
      cases e
      obtain ⟨zs, h1, h2⟩ := intsK_ok h
      refine ⟨_, h1, fun S β w us hr => ?_⟩
      unfold rels at hr
      obtain ⟨u, us', rfl, r1, r2⟩ := hr
      unfold rel at r1
      rw [h2 S β w us' r2, r1]; rfl
    · cases h
theorem keyK_ok {ks : Bool} {v : AV} {K : List Int → Prop} (h : keyK ks v K) : ∃ zs, K zs ∧ (ks = false → zs.length = 1) ∧ ∀ (S : Nat → Prop) (β : Nat → Wt) (w : World) (u : Value), rel S β w v u → u = keyV ks zs := by
  unfold keyK at h
  split at h
  · exact ⟨_, h, fun _ => rfl, fun S β w u hr => by unfold rel at hr; rw [hr]; rfl⟩
  · obtain ⟨zs, h1, h2⟩ := intsK_ok h
    refine ⟨zs, h1, (fun h => by cases h), fun S β w u hr => ?_⟩
    unfold rel at hr
    obtain ⟨us, rfl, r⟩ := hr
    rw [h2 _ _ _ _ r]; rfl
  · cases h
theorem keyV_inj {ks : Bool} {zs zs' : List Int} (h1 : ks = false → zs.length = 1) (h : keyV ks zs = keyV ks zs') : zs = zs' := by
  cases ks with
  | true =>
    unfold keyV at h
    simp only [Value.agg.injEq] at h
    have h := congrArg Array.toList h
    simp only at h
    have key : ∀ (a b : List Int), a.map (fun z => Value.int .i64 z) = b.map (fun z => Value.int .i64 z) → a = b := by
      intro a
      induction a with
      | nil => intro b h; cases b with
        | nil => rfl
        | cons _ _ => cases h
      | cons x a ih => intro b h; cases b with
        | nil => cases h
        | cons y b =>
          simp only [List.map_cons, List.cons.injEq, Value.int.injEq] at h
          rw [h.1.2, ih b h.2]
    exact key _ _ h
  | false =>
    have hl := h1 rfl
    match zs, hl with
    | [z], _ =>
      unfold keyV at h
      simp only at h
      split at h
      · cases h; rfl
      · cases h
section
variable {P : Program} {tb : Tb} {s : Sl} {o : Os} {c : Nat} {t : Nat} {ti : TI} {x y z : Operand} {u v q : AV}
def mkmA (P : Program) (t d : Nat) (ti : TI) (K : AV → Os → Prop) : Prop := match ti.mp with
  | some (k, e, ks, m) => K (.omap d) [(d, .mp (mapX P k e ks 0 fun _ => 0) 0 0 fun _ => 0)]
  | none => False
theorem mkmA_ok {d : Nat} {dst : Option Nat} {K : AV → Os → Prop} (hti : TIok P t ti) (h : mkmA P t d ti K) : ∃ r no, K r no ∧ Add P tb s o c dst (.makeMap t none) r no := by
  unfold mkmA at h
  split at h
  · rename_i k e ks m hm
    refine ⟨_, _, h, fun E tb' s' o' β a w he hs ho hf hg hc hc' ty pos after gu K Q hK => ?_⟩
    have hrun : (execOp a.eval ⟨dst, .makeMap t none, ty, pos, after, gu⟩).run P w = .ok (.value (.map (some w.heap.size))) (w.alloc (.map #[] 0)) := by
      simp only [execOp]
      exact run_next (run_makeMap t w)
    unfold Oper.wp
    rw [hrun, Oper.upon_value]
    have hadd := hg.add (d := d) (W := ⟨some ⟨w.heap.size, 0, none⟩, 0, [w.heap.size], true, sub0⟩) (ob := .mp (mapX P k e ks 0 fun _ => 0) 0 0 fun _ => 0) (w' := w.alloc (.map #[] 0)) (hf (d, _) (List.mem_singleton.2 rfl))
      (fun k hk => by simp only [List.mem_singleton] at hk; subst hk; exact ⟨Nat.le_refl _, by rw [heap_push]; exact Nat.lt_succ_self _⟩) (by simp) rfl rfl rfl (by rw [heap_push]; omega) (fun k hk => Below.heap_alloc w _ k hk)
      fun hc => ⟨⟨rfl, rfl, rfl⟩, w.heap.size, _, rfl, rfl, heap_alloc_new w _, ⟨.map [], #[], 0, rfl, by
        obtain ⟨es, clock, h1, h2, h3, h4⟩ := World.ownsMap_made (H := Unit) w P k (plainElem P e)
        rw [heap_alloc_new] at h1
        cases h1
        exact ⟨h2, h3, h4, fun zs kl _ => rfl⟩⟩, fun _ h => nomatch h⟩
    exact hK _ _ _ hadd ⟨by rw [setB_self], w.heap.size, by rw [setB_self], rfl⟩
  · cases h
def lokA (P : Program) (tb : Tb) (c : Nat) (ti : TI) (o : Os) (u v : AV) (K : AV → Prop) : Prop := match ti.mp, u with
  | some (k, e, ks, m), .omap id => match lk o id with
    | some (.mp Φ t' n F) => keyK ks v fun zs => match Nat.beq zs.length m with
      | true => Φ = mapX P k e ks n F ∧ need tb c (inIs zs) (K (.i .i64 (F zs)))
      | false => False
    | _ => False
  | _, _ => False
theorem lokA_ok {K : AV → Prop} (hti : TIok P t ti) (hx : Opn tb s c x u) (hy : Opn tb s c y v) (h : lokA P tb c ti o u v K) : ∃ r, K r ∧ Val P tb s o c (.lookup t x y false) r := by
  unfold lokA at h
  split at h
  · rename_i k e ks m id hm
    have M := hti.mp _ _ _ _ hm
    split at h
    · rename_i Φ t' n F hlk
      have h' := keyK_ok h
      clear h
      obtain ⟨zs, h, hz1, hz2⟩ := h'
      split at h
      · rename_i hlen
        have hlen := Nat.eq_of_beq_eq_true hlen
        obtain ⟨rfl, h⟩ := h
        obtain ⟨hin, h⟩ := need_ok h
        refine ⟨_, h, fun E tb' s' o' β a w he hs ho hg hc hc' d ty pos after gu => ?_⟩
        have h1 := (hx.to he (hs x (by simp [Op.operands]))).eval hg hc'
        have h2 := (hy.to he (hs y (by simp [Op.operands]))).eval hg hc'
        unfold rel at h1
        obtain ⟨h0, b, e1, e2⟩ := h1
        obtain ⟨r0, b', x', r1, r2, r3, ⟨D, es, clock, rfl, f1, f2, f3, f4⟩, r4⟩ := hg.objs id _ (ho _ _ hlk)
        rw [r1] at e1
        cases e1
        have hkv := hz2 _ _ _ _ h2
        obtain ⟨kl, hkl⟩ := M.key zs hlen (inIs_all (hin hc))
        have hown : w.ownsMap P k (plainElem (H := Unit) P e) b n D := ⟨es, clock, r3, f1, f2, f3⟩
        obtain ⟨cc, hrun, hat, _⟩ := hown.lookup_int M.kd M.und M.el (M.zr w) hkl
        rw [f4 zs kl hkl] at hat
        have hcc : F zs = cc := by simpa using hat
        refine ⟨.int .i64 (F zs), ?_, by unfold rel; rfl⟩
        simp only [execOp, e2, hkv]
        rw [hcc]; exact run_next hrun
      · cases h
    · cases h
  · cases h
def mupA (P : Program) (ti : TI) (o : Os) (u v q : AV) (K : Os → Prop) : Prop := match ti.mp, u, q with
  | some (k, e, ks, m), .omap id, .i .i64 r => match lk o id with
    | some (.mp Φ t' n F) => keyK ks v fun zs => match Nat.beq zs.length m with
      | true => Φ = mapX P k e ks n F ∧ (n < 9223372036854775807 ∧ inIs zs ∧ -9223372036854775808 ≤ r ∧ r ≤ 9223372036854775807) ∧ upK o id (.mp (mapX P k e ks (n + 1) (mset F zs r)) t' (n + 1) (mset F zs r)) K
      | false => False
    | _ => False
  | _, _, _ => False
theorem mapX_put {k e : Nat} {ks : Bool} {m n : Nat} {F : List Int → Int} {D : DataW Unit} {es : Array MapEntry} {clock b : Nat} {w : World} {zs : List Int} {r : Int} (M : MapOk P t k e ks m) (hb : w.heap[b]? = some (.map es clock)) (f1 : Go.WideElems.Fit P k (plainElem (H := Unit) P e) es clock) (f2 : es.size ≤ n) (f3 : D = .map ((es.toList.map (Go.WideElems.rg P k (plainElem (H := Unit) P e))).foldr DataW.insert []))
    (f4 : ∀ (zs : List Int) (kl : Lit), keyOf P k (keyV ks zs) = some kl → D.atKey kl (.lit (.int .i64 0)) = .lit (.int .i64 (F zs))) (hz1 : ks = false → zs.length = 1) (hlen : zs.length = m) (hin : ∀ z ∈ zs, inI z) (hn : n < maxLen) (hr : inI r) :
    ∃ w', (Instr.mapUpdate t (.map (some b)) (keyV ks zs) (.int .i64 r)).run P w = .ok () w' ∧ w'.os = w.os ∧ w'.tape = w.tape ∧ w'.output = w.output ∧ w'.heap.size = w.heap.size ∧ (∀ j, j ≠ b → w'.heap[j]? = w.heap[j]?) ∧ ∃ x, w'.heap[b]? = some x ∧ mapX P k e ks (n + 1) (mset F zs r) x := by
  obtain ⟨kl, hkl⟩ := M.key zs hlen hin
  have hwf : (Lit.int .i64 r).wf = true := by
    unfold Lit.wf
    simp only [Bool.and_eq_true, decide_eq_true_eq]
    exact hr
  have hv : plainElem (H := Unit) P e (.int .i64 r) = some (.lit (.int .i64 r), []) := plainElem_int M.el hwf
  have hown : w.ownsMap P k (plainElem (H := Unit) P e) b n D := ⟨es, clock, hb, f1, f2, f3⟩
  obtain ⟨w', hrun, ⟨es', clock', g1, g2, g3, g4⟩, hgr⟩ := hown.update M.kd M.und hn hkl hv
  obtain ⟨es2, clock2, hrun2, _⟩ := Go.Maps.fit_store (R' := plainElem (H := Unit) P e) M.kd M.und hb f1 (Nat.lt_of_le_of_lt f2 hn) (fun _ _ _ _ hz => hz) hkl hv
  have hw : w' = Go.ChangeMaps.setBlock w b (.map es2 clock2) := by
    rw [hrun2] at hrun
    cases hrun
    rfl
  refine ⟨w', hrun, hgr.os, hgr.tape, hgr.output, by rw [hw]; simp [Go.ChangeMaps.setBlock], fun j hj => by rw [hw]; exact Go.ChangeMaps.heap_setBlock_other hb _ (fun e => hj e), _, g1, _, es', clock', rfl, g2, g3, rfl, fun zs' kl' hk' => ?_⟩
  have hD : Go.Maps.IsMap D := ⟨_, f3⟩
  rw [← g4]
  by_cases e : zs' = zs
  · subst e
    rw [hkl] at hk'
    cases hk'
    rw [Go.Maps.atKey_put_same hD (M.kd.key hkl)]
    unfold mset; rw [if_pos rfl]
  · have hne : kl' ≠ kl := fun h => by
      subst h
      exact e (keyV_inj hz1 (M.kd.inj hkl hk')).symm
    rw [Go.Maps.atKey_put_other hne, f4 zs' kl' hk']
    unfold mset; rw [if_neg e]
theorem mupA_ok {op : Op} {K : Os → Prop} {ty : TypeId} {pos : String} {after : Array Edge} {gu : Option (Nat × Bool)} (hop : op = .mapUpdate t x y z ∨ op = .insert t x y z) (hti : TIok P t ti) (hx : Opn tb s 0 x u) (hy : Opn tb s 0 y v) (hz : Opn tb s 0 z q) (h : mupA P ti o u v q K) : ∃ o', K o' ∧ Mut P tb s o ⟨none, op, ty, pos, after, gu⟩ s o' := by
  unfold mupA at h
  split at h
  · rename_i k e ks m id r hm
    have M := hti.mp _ _ _ _ hm
    split at h
    · rename_i Φ t' n F hlk
      have h' := keyK_ok h
      clear h
      obtain ⟨zs, h, hz1, hz2⟩ := h'
      split at h
      · rename_i hlen
        have hlen := Nat.eq_of_beq_eq_true hlen
        obtain ⟨rfl, ⟨hn, hin, hr1, hr2⟩, h⟩ := h
        have h := upK_ok h
        refine ⟨_, h, fun E β a w hg _ K Q hK => ?_⟩
        have hc := tg_zero hg.tbok
        have h1 := hx.eval hg hc
        have h2 := hy.eval hg hc
        have h3 := hz.eval hg hc
        unfold rel at h1 h3
        obtain ⟨h0, b, e1, e2⟩ := h1
        obtain ⟨r0, b', x', r1, r2, r3, ⟨D, es, clock, rfl, f1, f2, f3, f4⟩, r4⟩ := hg.objs id _ hlk
        rw [r1] at e1
        cases e1
        have hkv := hz2 _ _ _ _ h2
        obtain ⟨w', hrun, q1, q2, q3, q4, q5, xx, q6, q7⟩ := mapX_put M r3 f1 f2 f3 f4 hz1 hlen (inIs_all hin) (show n < maxLen by unfold maxLen; omega) ⟨hr1, hr2⟩
        have hex : (execOp a.eval ⟨none, op, ty, pos, after, gu⟩).run P w = .ok .skip w' := by
          rcases hop with rfl | rfl <;>
          · simp only [execOp, e2, hkv, h3]
            rw [Sem.run_bind, hrun]; rfl
        unfold Oper.wp
        rw [hex, Oper.upon_skip]
        exact hK _ _ β (hg.setO hlk q1 q2 q3 q4 (fun k hk => q5 k fun e => hk (by rw [r2, e]; simp)) fun hc => ⟨r0, b, xx, r1, r2, q6, q7, r4⟩)
      · cases h
    · cases h
  · cases h
/-- A slice literal that the call owns. -/
def litO (ti : TI) (tb : Tb) (s : Sl) (c d n : Nat) (ps : List (Nat × Operand)) (K : AV → Os → Prop) : Prop := match ti.el with
  | some (_, e, _) => match Nat.beq ps.length n && Nat.ble (n * e) 16777216 && Nat.ble n 16777216 with
    | true => litK tb s c e 0 ps fun cs => K (.orow d e 0 n) [(d, .row none e n (litF cs))]
    | false => False
  | none => False
theorem litO_ok {n d : Nat} {dst : Option Nat} {ps : List (Nat × Operand)} {K : AV → Os → Prop} (hti : TIok P t ti) (h : litO ti tb s c d n ps K) : ∃ r no, K r no ∧ Add P tb s o c dst (.buildSlice t n ps.toArray) r no := by
  unfold litO at h
  split at h
  · rename_i e0 e B hel
    split at h
    · rename_i hb
      simp only [Bool.and_eq_true] at hb
      have hb1 := Nat.eq_of_beq_eq_true hb.1.1
      have hb2 := Nat.le_of_ble_eq_true hb.1.2
      have hb3 := Nat.le_of_ble_eq_true hb.2
      obtain ⟨cs, h1, hl, h2⟩ := litK_ok h
      refine ⟨_, _, h1, fun E tb' s' o' β a w he hs ho hf hg hc hc' ty pos after gu K Q hK => ?_⟩
      obtain ⟨us, g1, g2, g3⟩ := h2 (E.good o' β) β w a fun x v hx hv => (hv.to he (hs x (by simp [Op.operands]; simpa using hx))).eval hg hc'
      have hrun := run_lit (d := dst) (ty := ty) (pos := pos) (after := after) (gu := gu) hti hel hb1 hb2 g2 w
      unfold Oper.wp
      rw [hrun, Oper.upon_value]
      have hfl : ∀ l : List (List Value), (∀ i, i < l.length → (l.getD i []).length = e) → l.flatten.length = l.length * e := by
        intro l
        induction l with
        | nil => intro _; simp
        | cons x l ih =>
          intro hx
          have h0 := hx 0 (by simp)
          have := ih fun i hi => by have := hx (i + 1) (by simpa using hi); simpa using this
          simp only [List.getD_cons_zero] at h0
          simp only [List.flatten_cons, List.length_append, this, List.length_cons, h0, Nat.add_mul, Nat.one_mul]; omega
      have hadd := hg.add (d := d) (W := ⟨some ⟨w.heap.size, 0, none⟩, n, [w.heap.size], true, sub0⟩) (ob := .row none e n (litF cs)) (w' := w.alloc (.cells us.flatten.toArray e0)) (hf (d, _) (List.mem_singleton.2 rfl))
        (fun k hk => by simp only [List.mem_singleton] at hk; subst hk; exact ⟨Nat.le_refl _, by rw [heap_push]; exact Nat.lt_succ_self _⟩) (by simp) rfl rfl rfl (by rw [heap_push]; omega) (fun k hk => Below.heap_alloc w _ k hk)
        fun hc => ⟨Nat.le_refl _, by unfold maxLen; omega, .inr ⟨w.heap.size, 0, us.flatten, e0, fun i => us.getD i [], rfl, rfl, heap_alloc_new w _, ⟨by rw [hfl us fun i hi => (g3 i (by omega)).1.1, Nat.zero_add, g1, hl, hb1]; exact Nat.le_refl _, fun _ h => by cases h⟩, fun i hi => ⟨⟨(g3 i (by omega)).1, fun j u hj => by
          rw [Nat.zero_add, flat_eq]
          exact flatN_at (fun i hi => (g3 i (by omega)).1.1) (by omega) hj⟩, by
          rw [litF_eq _ _ (by omega)]
          exact rels_mono hc _ _ (g3 i (by omega)).2⟩⟩⟩
      exact hK _ _ _ hadd ⟨by rw [setB_self], by rw [setB_self, Nat.zero_mul]; rfl⟩
    · cases h
  · cases h
/-- A literal stays as it is, or is owned. -/
inductive LitW (A B : Prop) : Prop
  | frz (h : A)
  | own (h : B)
end
end Go.Proofs.Ytecknkgiaahheaa

/- A list of operations, carried out on what is known. -/
namespace Go.Proofs.Ytecknkgiaahheaa
open Go.RowKit
set_option linter.unusedVariables false
set_option linter.unusedSimpArgs false
def withT (T : TT) (t : Nat) (K : TI → Prop) : Prop := match lk T t with
  | some ti => K ti
  | none => False
theorem withT_ok {P : Program} {T : TT} {t : Nat} {K : TI → Prop} (hT : TTok P T) (h : withT T t K) : ∃ ti, K ti ∧ TIok P t ti := by
  unfold withT at h
  split at h
  · rename_i ti e; exact ⟨ti, h, hT _ _ e⟩
  · cases h
/-- The callee's value: a function, with what it caught. -/
def funK (v : AV) (K : FuncId → List AV → Prop) : Prop := match v with
  | .clo f cs => K f cs
  | _ => False
def isNilA : AV → Bool
  | .nil => true
  | _ => false
def add1 (P : Program) (T : TT) (ops : Array Oper) (tb : Tb) (s : Sl) (o : Os) (c d : Nat) (op : Op) (K : AV → Os → Prop) : Prop := match op with
  | .move x => get tb s c x fun v => forceK v fun v => K v []
  | .assign x => get tb s c x fun v => forceK v fun v => K v []
  | .binOp bo t x y _ => get tb s c x fun u => get tb s c y fun v => match isNilA v with
    | true => withT T t fun ti => nilA ti bo u v fun r => K r []
    | false => binA T tb c bo t u v fun r => K r []
  | .unOp un _ x => get tb s c x fun v => unA tb c un v fun r => K r []
  | .pick z a b => pickA ops tb s c z a b fun r => K r []
  | .convert t t' x => withT T t fun ti => withT T t' fun ti' => get tb s c x fun v => match ti'.str with
    | true => cnvS T tb c ti v fun r => K r []
    | false => cnvA tb c ti ti' v fun r => K r []
  | .fieldAddr t x f => withT T t fun ti => get tb s c x fun v => match treeV o v with
    | true => fldT ti f v fun r => K r []
    | false => fldA ti f v fun r => K r []
  | .indexAddr t x y => withT T t fun ti => get tb s c x fun u => get tb s c y fun v => match treeV o u with
    | true => idxT tb c ti o u v fun r => K r []
    | false => idxA tb c ti o u v fun r => K r []
  | .load t x => withT T t fun ti => get tb s c x fun v => match treeV o v with
    | true => loadT tb c ti o v fun r => K r []
    | false => loadA tb c ti o v fun r => K r []
  | .extract x i => get tb s c x fun v => extA i v fun r => K r []
  | .index t x y => withT T t fun ti => get tb s c x fun u => get tb s c y fun v => chrA tb c ti u v fun r => K r []
  | .build t ps => withT T t fun ti => bldA ti tb s c ps.toList fun r => K r []
  | .buildSlice t n ps => withT T t fun ti => LitW (litA ti tb s c n ps.toList fun r => K r []) (litO ti tb s c d n ps.toList K)
  | .makeFunc fn f cs => funA tb s c fn f.toList cs.toList fun r => K r []
  | .nilCheck x => get tb s c x fun v => chkA v fun r => K r []
  | .box t x => get tb s c x fun v => boxA t d v K
  | .alloc t => withT T t fun ti => allA t ti d K
  | .makeSlice t x y => withT T t fun ti => match ti.el with
    | some (e, _, _) => withT T e fun te => match te.zero with
      | [] => False
      | z :: zs => get tb s c x fun u => get tb s c y fun v => match hasNil (constC z :: zs.map constC) with
        | true => makT ti d (constC z :: zs.map constC) u v K
        | false => makA ti d (constC z :: zs.map constC) u v K
    | none => False
  | .call ⟨.builtin .len, xs, ts⟩ => match xs.toList, ts.toList with
    | [x], [t] => withT T t fun ti => get tb s c x fun v => match treeV o v with
      | true => lenT ti v fun r => K r []
      | false => lenA ti v fun r => K r []
    | _, _ => False
  | .call ⟨.builtin .min, xs, ts⟩ => match xs.toList, ts.toList with
    | [x, y], [_, _] => get tb s c x fun u => get tb s c y fun v => minA u v fun r => K r []
    | _, _ => False
  | .slice t x lo hi none => withT T t fun ti => get tb s c x fun v => getO tb s c lo fun l => getO tb s c hi fun h => slcA tb c ti o v l h fun r => K r []
  | .call ⟨.value x, xs, _⟩ => get tb s c x fun v => funK v fun f cs => capK tb s c xs.toList fun vs => match noOwns vs && noOwns cs with
    | true => CallK P tb c f (vs ++ cs) K
    | false => lendsK tb c o 40 (vs ++ cs) fun vs => CallL P tb c f vs K
  | .makeMap t none => withT T t fun ti => mkmA P t d ti K
  | .lookup t x y false => withT T t fun ti => get tb s c x fun u => get tb s c y fun v => lokA P tb c ti o u v fun r => K r []
  | _ => False
section
variable {P : Program} {T : TT} {ops : Array Oper} {tb : Tb} {s : Sl} {o : Os} {c d : Nat}
theorem run_enter {ρ : Operand → Value} {f : FuncId} {x : Operand} {xs : List Operand} {us cs : List Value} {ats : Array TypeId} {d : Option Nat} {ty : TypeId} {pos : String} {after : Array Edge} {gu : Option (Nat × Bool)} {w : World}
    (hf : ∀ args w, (callFunc f args).run P w = .ok (.enter f args) w) (hρ : ρ x = .func (.func f) #[] cs.toArray) (hx : xs.map ρ = us) :
    (execOp ρ ⟨d, .call ⟨.value x, xs.toArray, ats⟩, ty, pos, after, gu⟩).run P w = .ok (.enter f (us ++ cs).toArray) w := by
  simp [execOp, resolve, hρ, Deferred.ofValue, invoke, hf, hx, List.map_toArray]
theorem toA {α : Type} {xs : Array α} : xs.toList.toArray = xs := Array.toArray_toList
theorem add1_ok {op : Op} {dst : Option Nat} {K : AV → Os → Prop} (hT : TTok P T) (ht : TbOk tb) (hgi : GI ops tb s) (h : add1 P T ops tb s o c d op K) : ∃ r no, K r no ∧ Add P tb s o c dst op r no := by
  unfold add1 at h
  split at h
  case h_1 => obtain ⟨v, h, hx⟩ := get_ok h; exact ⟨v, [], force_ok h, (move_ok hx).add⟩
  case h_2 => obtain ⟨v, h, hx⟩ := get_ok h; exact ⟨v, [], force_ok h, (assign_ok hx).add⟩
  case h_3 =>
    obtain ⟨u, h, hx⟩ := get_ok h
    obtain ⟨v, h, hy⟩ := get_ok h
    split at h
    · obtain ⟨ti, h, hti⟩ := withT_ok hT h
      obtain ⟨r, h, hv⟩ := nilA_ok (o := o) hti hx hy h
      exact ⟨r, [], h, hv.add⟩
    · obtain ⟨r, h, hv⟩ := binA_ok (o := o) hT hx hy h
      exact ⟨r, [], h, hv.add⟩
  case h_4 => obtain ⟨v, h, hx⟩ := get_ok h; obtain ⟨r, h, hv⟩ := unA_ok (o := o) hx h; exact ⟨r, [], h, hv.add⟩
  case h_5 => obtain ⟨r, h, hv⟩ := pickA_ok (o := o) ht hgi h; exact ⟨r, [], h, hv.add⟩
  case h_6 =>
    obtain ⟨ti, h, hti⟩ := withT_ok hT h
    obtain ⟨ti', h, hti'⟩ := withT_ok hT h
    obtain ⟨v, h, hx⟩ := get_ok h
    split at h
    · rename_i hst
      obtain ⟨r, h, hv⟩ := cnvS_ok (o := o) hT hti hti' hst hx h
      exact ⟨r, [], h, hv.add⟩
    · obtain ⟨r, h, hv⟩ := cnvA_ok (o := o) hti hti' hx h
      exact ⟨r, [], h, hv.add⟩
  case h_7 =>
    obtain ⟨ti, h, hti⟩ := withT_ok hT h
    obtain ⟨v, h, hx⟩ := get_ok h
    split at h
    · obtain ⟨r, h, hv⟩ := fldT_ok (o := o) hti hx h; exact ⟨r, [], h, hv.add⟩
    · obtain ⟨r, h, hv⟩ := fldA_ok (o := o) hti hx h; exact ⟨r, [], h, hv.add⟩
  case h_8 =>
    obtain ⟨ti, h, hti⟩ := withT_ok hT h
    obtain ⟨u, h, hx⟩ := get_ok h
    obtain ⟨v, h, hy⟩ := get_ok h
    split at h
    · obtain ⟨r, h, hv⟩ := idxT_ok hti hx hy h; exact ⟨r, [], h, hv.add⟩
    · obtain ⟨r, h, hv⟩ := idxA_ok hti hx hy h; exact ⟨r, [], h, hv.add⟩
  case h_9 =>
    obtain ⟨ti, h, hti⟩ := withT_ok hT h
    obtain ⟨v, h, hx⟩ := get_ok h
    split at h
    · obtain ⟨r, h, hv⟩ := loadT_ok hti hx h; exact ⟨r, [], h, hv.add⟩
    · obtain ⟨r, h, hv⟩ := loadA_ok hti hx h; exact ⟨r, [], h, hv.add⟩
  case h_10 => obtain ⟨v, h, hx⟩ := get_ok h; obtain ⟨r, h, hv⟩ := extA_ok (o := o) hx h; exact ⟨r, [], h, hv.add⟩
  case h_11 =>
    obtain ⟨ti, h, hti⟩ := withT_ok hT h
    obtain ⟨u, h, hx⟩ := get_ok h
    obtain ⟨v, h, hy⟩ := get_ok h
    obtain ⟨r, h, hv⟩ := chrA_ok (o := o) hti hx hy h
    exact ⟨r, [], h, hv.add⟩
  case h_12 => obtain ⟨ti, h, hti⟩ := withT_ok hT h; obtain ⟨r, h, hv⟩ := bldA_ok (o := o) hti h; rw [toA] at hv; exact ⟨r, [], h, hv.add⟩
  case h_13 =>
    obtain ⟨ti, h, hti⟩ := withT_ok hT h
    rcases h with h | h
    · obtain ⟨r, h, hv⟩ := litA_ok (o := o) (dst := dst) hti h; rw [toA] at hv; exact ⟨r, [], h, hv⟩
    · obtain ⟨r, no, h, hv⟩ := litO_ok (o := o) (dst := dst) hti h; rw [toA] at hv; exact ⟨r, no, h, hv⟩
  case h_14 => obtain ⟨r, h, hv⟩ := funA_ok (P := P) (o := o) h; rw [toA, toA] at hv; exact ⟨r, [], h, hv.add⟩
  case h_15 =>
    obtain ⟨v, h, hx⟩ := get_ok h
    have := chkA_ok (P := P) (o := o) hx h
    exact ⟨v, [], this.1, this.2.add⟩
  case h_16 => obtain ⟨v, h, hx⟩ := get_ok h; exact boxA_ok hx h
  case h_17 => obtain ⟨ti, h, hti⟩ := withT_ok hT h; exact allA_ok hti h
  case h_18 =>
    obtain ⟨ti, h, hti⟩ := withT_ok hT h
    split at h
    · rename_i e n b hel
      obtain ⟨te, h, hte⟩ := withT_ok hT h
      split at h
      · cases h
      · rename_i z zs hz
        obtain ⟨u, h, hx⟩ := get_ok h
        obtain ⟨v, h, hy⟩ := get_ok h
        split at h
        · refine makT_ok hti (fun e' n' b' he' => ?_) (by rw [hz]; simp) hx hy (by rw [hz]; exact h)
          rw [hel] at he'
          cases he'; exact hte
        · refine makA_ok hti (fun e' n' b' he' => ?_) (by rw [hz]; simp) hx hy (by rw [hz]; exact h)
          rw [hel] at he'
          cases he'; exact hte
    · cases h
  case h_19 =>
    split at h
    · rename_i x t hxs hts
      obtain ⟨ti, h, hti⟩ := withT_ok hT h
      obtain ⟨v, h, hx⟩ := get_ok h
      have e1 := congrArg List.toArray hxs
      have e2 := congrArg List.toArray hts
      rw [toA] at e1 e2
      subst e1 e2
      split at h
      · obtain ⟨r, h, hv⟩ := lenT_ok (o := o) hti hx h
        exact ⟨r, [], h, hv.add⟩
      · obtain ⟨r, h, hv⟩ := lenA_ok (o := o) hti hx h
        exact ⟨r, [], h, hv.add⟩
    · cases h
  case h_20 =>
    split at h
    · rename_i x y t t' hxs hts
      obtain ⟨u, h, hx⟩ := get_ok h
      obtain ⟨v, h, hy⟩ := get_ok h
      obtain ⟨r, h, hv⟩ := minA_ok (o := o) (t := t) (t' := t') hx hy h
      have e1 := congrArg List.toArray hxs
      have e2 := congrArg List.toArray hts
      rw [toA] at e1 e2
      subst e1 e2
      exact ⟨r, [], h, hv.add⟩
    · cases h
  case h_21 =>
    obtain ⟨ti, h, hti⟩ := withT_ok hT h
    obtain ⟨v, h, hx⟩ := get_ok h
    obtain ⟨l, h, hl⟩ := getO_ok h
    obtain ⟨m, h, hm⟩ := getO_ok h
    obtain ⟨r, h, hv⟩ := slcA_ok (o := o) hti hx hl hm h
    exact ⟨r, [], h, hv.add⟩
  case h_22 =>
    rename_i x xs ts
    obtain ⟨v, h, hx⟩ := get_ok h
    cases v with
    | clo f cs =>
      obtain ⟨vs, h, hvs⟩ := capK_ok h
      split at h
      · rename_i hno
        simp only [Bool.and_eq_true] at hno
        obtain ⟨r, no, hs, k⟩ := h
        refine ⟨r, no, k, fun E tb' s' o' β a w he hs' ho hfr hg hc hc' ty pos after gu K' Q hK => ?_⟩
        obtain ⟨henter, ⟨hm, hm2⟩, hcall⟩ := hs hc
        have hv := (hx.to he (hs' x (by simp [Op.operands, Call.operands]))).eval hg hc'
        have hargs := hvs (E.good o' β) β w a fun x' v' hx' hv' => (hv'.to he (hs' x' (by simp [Op.operands, Call.operands]; exact .inr (by simpa using hx')))).eval hg hc'
        unfold rel at hv
        obtain ⟨cus, e1, e2⟩ := hv
        unfold Oper.wp
        rw [← toA (xs := xs), run_enter henter e1 rfl, Oper.upon_enter]
        refine (hcall (E.good o' β) w _ (rels_app (noOwns_rel hno.1 hargs) (noOwns_rel hno.2 e2)) hg.vars).mono ?_
        rintro e w' ⟨q, β', rfl, hb, h1, h2, h3, h4, h5⟩
        obtain ⟨β2, g1, g2⟩ := hg.called hfr hb h1 h2 h3 h4 h5 hm hm2
        exact hK q w' β2 g1 g2
      · obtain ⟨vs', h, hl⟩ := lendsK_ok h
        obtain ⟨r, no, hs, hr, hfl, k⟩ := h
        refine ⟨r, no, k, fun E tb' s' o' β a w he hs' ho hfr hg hc hc' ty pos after gu K' Q hK => ?_⟩
        obtain ⟨henter, ⟨hm, hm2⟩, hcall⟩ := hs hc
        have hv := (hx.to he (hs' x (by simp [Op.operands, Call.operands]))).eval hg hc'
        have hargs := hvs (E.good o' β) β w a fun x' v' hx' hv' => (hv'.to he (hs' x' (by simp [Op.operands, Call.operands]; exact .inr (by simpa using hx')))).eval hg hc'
        unfold rel at hv
        obtain ⟨cus, e1, e2⟩ := hv
        unfold Oper.wp
        rw [← toA (xs := xs), run_enter henter e1 rfl, Oper.upon_enter]
        refine (hcall (fun _ => True) w _ (hl E tb' s' o' β a w _ hc ho hg (rels_app hargs e2)) (hg.vars.comp ⟨Nat.le_refl _, fun _ _ _ => ⟨trivial, rfl⟩⟩)).mono ?_
        rintro e w' ⟨q, β', rfl, hb, h1, h2, h3, h4, h5⟩
        obtain ⟨β2, g1, g2⟩ := hg.called hfr hb (fun id ob hl => flatO_rel (hfl id ob hl) (h1 id ob hl)) h2 h3 h4 (noFz_rel hr h5) hm hm2
        exact hK q w' β2 g1 g2
    | _ => cases h
  case h_23 =>
    obtain ⟨ti, h, hti⟩ := withT_ok hT h
    exact mkmA_ok hti h
  case h_24 =>
    obtain ⟨ti, h, hti⟩ := withT_ok hT h
    obtain ⟨u, h, hx⟩ := get_ok h
    obtain ⟨v, h, hy⟩ := get_ok h
    obtain ⟨r, h, hv⟩ := lokA_ok (o := o) hti hx hy h
    exact ⟨r, [], h, hv.add⟩
  all_goals cases h
end
end Go.Proofs.Ytecknkgiaahheaa

/- Lists of operations in their order. -/
namespace Go.Proofs.Ytecknkgiaahheaa
open Go.RowKit
set_option linter.unusedVariables false
set_option linter.unusedSimpArgs false
/-- Every condition that a slot names is in the table. -/
def Reg (tb : Tb) (s : Sl) : Prop := ∀ d c v, lk s d = some (c, v) → c = 0 ∨ lkS tb c = true
def gval (ops : Array Oper) (tb : Tb) (s : Sl) : Option (Nat × Bool) → (Tb → Nat → Prop) → Prop
  | none, K => K tb 0
  | some (j, w), K => match ops[j]? with
    | some p => match p.dst with
      | some t => match lk s t with
        | some (p, .b b) => match lkS tb (cn j w) with
          | true => K tb (cn j w)
          | false => match p with
            | 0 => K ((cn j w, 0, match w with
              | true => b
              | false => !b) :: tb) (cn j w)
            | p => K ((cn j w, p, (match w with
              | true => b
              | false => !b) && tg tb p) :: tb) (cn j w)
        | _ => False
      | none => False
    | none => False
theorem lkS_iff {tb : Tb} {c : Nat} : lkS tb c = true ↔ ∃ p q, lk tb c = some (p, q) := by
  unfold lkS
  split
  · rename_i x h; exact ⟨fun _ => ⟨x.1, x.2, h⟩, fun _ => rfl⟩
  · rename_i h; exact ⟨(fun h => by cases h), (fun ⟨p, q, h'⟩ => by rw [h] at h'; cases h')⟩
theorem cn_pos (j : Nat) (w : Bool) : cn j w ≠ 0 := by unfold cn; cases w <;> simp
theorem cn_inj {j j' : Nat} {w w' : Bool} (h : cn j w = cn j' w') : j = j' ∧ w = w' := by
  unfold cn at h
  cases w <;> cases w' <;> simp at h ⊢ <;> omega
/-- A condition as it reads. -/
structure Cond (ops : Array Oper) (tb : Tb) (s : Sl) (gu : Option (Nat × Bool)) (c : Nat) : Prop where
  read : (gu = none ∧ c = 0) ∨ ∃ j w, gu = some (j, w) ∧ c = cn j w ∧ lkS tb c = true
theorem gval_ok {ops : Array Oper} {tb : Tb} {s : Sl} {gu : Option (Nat × Bool)} {K : Tb → Nat → Prop} (ht : TbOk tb) (hgi : GI ops tb s) (hr : Reg tb s) (h : gval ops tb s gu K) :
    ∃ tb' c, K tb' c ∧ Ext tb tb' ∧ TbOk tb' ∧ GI ops tb' s ∧ Reg tb' s ∧ Cond ops tb' s gu c ∧ (c = 0 ∨ lkS tb' c = true) := by
  cases gu with
  | none => exact ⟨tb, 0, h, Ext.refl _, ht, hgi, hr, ⟨.inl ⟨rfl, rfl⟩⟩, .inl rfl⟩
  | some jw =>
    obtain ⟨j, w⟩ := jw
    simp only [gval] at h
    split at h
    · rename_i pj hpj
      split at h
      · rename_i t hd
        split at h
        · rename_i p b hl
          split at h
          · rename_i hS
            exact ⟨tb, cn j w, h, Ext.refl _, ht, hgi, hr, ⟨.inr ⟨j, w, rfl, rfl, hS⟩⟩, .inr hS⟩
          · rename_i hS
            have hnone : lk tb (cn j w) = none := by
              cases hq : lk tb (cn j w) with
              | none => rfl
              | some x => rw [lkS_iff.2 ⟨x.1, x.2, hq⟩] at hS; cases hS
            have key : ∃ q, K ((cn j w, p, q) :: tb) (cn j w) ∧ q = ((b == w) && tg tb p) := by
              split at h
              · refine ⟨_, h, ?_⟩
                rw [tg_zero ht]
                cases b <;> cases w <;> rfl
              · refine ⟨_, h, ?_⟩
                cases b <;> cases w <;> rfl
            obtain ⟨q, h, hq⟩ := key
            have hne : p ≠ cn j w := fun e => by
              rcases hr _ _ _ hl with h0 | h0
              · exact cn_pos j w (e ▸ h0)
              · rw [e, hS] at h0; cases h0
            have hext : Ext tb ((cn j w, p, q) :: tb) := fun c x hx => by
              rw [lk_cons]
              split
              · rename_i e; rw [← e, hnone] at hx; cases hx
              · exact hx
            have htg : ∀ c, c ≠ cn j w → tg ((cn j w, p, q) :: tb) c = tg tb c := fun c hc => by
              unfold tg; rw [lk_cons, if_neg fun e => hc e.symm]
            have hself : lk ((cn j w, p, q) :: tb) (cn j w) = some (p, q) := by rw [lk_cons, if_pos rfl]
            refine ⟨_, _, h, hext, ⟨fun c p' x hx hxt => ?_, ?_, fun c p' x hx => ?_⟩, fun j' w' p' q' hx => ?_, fun d c v hd' => ?_, ⟨.inr ⟨j, w, rfl, rfl, lkS_iff.2 ⟨p, q, hself⟩⟩⟩, .inr (lkS_iff.2 ⟨p, q, hself⟩)⟩
            · rw [lk_cons] at hx
              split at hx
              · cases hx
                rw [htg _ hne]
                rw [hq] at hxt
                simp only [Bool.and_eq_true] at hxt
                exact hxt.2
              · have hp' : p' ≠ cn j w ∨ p' = cn j w := by by_cases e : p' = cn j w; exact .inr e; exact .inl e
                rcases hp' with e | e
                · rw [htg _ e]; exact ht.up c p' x hx hxt
                · rw [e]; unfold tg; rw [hself]
                  have := ht.up c p' x hx hxt
                  -- an old one can't stand below a new one
                  exfalso
                  rcases ht.par c p' x hx with h0 | ⟨q1, y1, h0⟩
                  · exact cn_pos j w (by rw [← e, h0])
                  · rw [e, hnone] at h0; cases h0
            · rw [lk_cons, if_neg (cn_pos j w)]; exact ht.old
            · rw [lk_cons] at hx
              split at hx
              · cases hx
                rcases hr _ _ _ hl with h0 | h0
                · exact .inl h0
                · obtain ⟨p', q', h1⟩ := lkS_iff.1 h0
                  exact .inr ⟨p', q', hext _ _ h1⟩
              · rcases ht.par c p' x hx with h0 | ⟨q1, y1, h0⟩
                · exact .inl h0
                · exact .inr ⟨q1, y1, hext _ _ h0⟩
            · rw [lk_cons] at hx
              split at hx
              · rename_i e
                cases hx
                obtain ⟨rfl, rfl⟩ := cn_inj e
                exact ⟨t, b, by rw [hpj]; exact hd, hl, by rw [htg _ hne]; exact hq⟩
              · obtain ⟨t', b', e1, e2, e3⟩ := hgi j' w' p' q' hx
                refine ⟨t', b', e1, e2, ?_⟩
                have : p' ≠ cn j w := fun e => by
                  rcases hr _ _ _ e2 with h0 | h0
                  · exact cn_pos j w (e ▸ h0)
                  · rw [e, hS] at h0; cases h0
                rw [htg _ this]; exact e3
            · rcases hr d c v hd' with h0 | h0
              · exact .inl h0
              · obtain ⟨p', q', h1⟩ := lkS_iff.1 h0
                exact .inr (lkS_iff.2 ⟨p', q', hext _ _ h1⟩)
        · cases h
      · cases h
    · cases h
end Go.Proofs.Ytecknkgiaahheaa

/- What is owned is given up where data of it is kept elsewhere. -/
namespace Go.Proofs.Ytecknkgiaahheaa
open Go.RowKit
set_option linter.unusedVariables false
set_option linter.unusedSimpArgs false
mutual
/-- A value, where the row c stays as it is from here on; what is asked for that (A). -/
def frz (c e N : Nat) (g : Nat → List AV) (A : Prop) : AV → (AV → Prop → Prop) → Prop
  | .orow id e' off n, K => match Nat.beq id c with
    | true => match Nat.beq e' e with
      | true => K (.row none e' n (offF off g)) (off + n ≤ N ∧ A)
      | false => False
    | false => K (.orow id e' off n) A
  | .agg cs, K => frzs c e N g A cs fun cs A => K (.agg cs) A
  | .tup cs, K => frzs c e N g A cs fun cs A => K (.tup cs) A
  | .clo f cs, K => frzs c e N g A cs fun cs A => K (.clo f cs) A
  | .ifc t x, K => frz c e N g A x fun x A => K (.ifc t x) A
  | v, K => K v A
def frzs (c e N : Nat) (g : Nat → List AV) (A : Prop) : List AV → (List AV → Prop → Prop) → Prop
  | [], K => K [] A
  | x :: xs, K => frz c e N g A x fun x A => frzs c e N g A xs fun xs A => K (x :: xs) A
end
/-- What a value says, another one says. -/
def Cnv (c e N : Nat) (g : Nat → List AV) (R R' : (Nat → Prop) → (Nat → Wt) → World → Prop) : Prop :=
  ∀ (S S' : Nat → Prop) (β : Nat → Wt) (w : World), Comp S w S' w → (∀ off n u, off + n ≤ N → rel S β w (.orow c e off n) u → rel S' β w (.row none e n (offF off g)) u) → R S β w → R' S' β w
mutual
theorem frz_ok {c e N : Nat} {g : Nat → List AV} : ∀ {A : Prop} {v : AV} {K : AV → Prop → Prop}, frz c e N g A v K → ∃ v' A', K v' A' ∧ (A' → A) ∧ ∀ u, A' → Cnv c e N g (fun S β w => rel S β w v u) (fun S β w => rel S β w v' u)
  | A, .orow id e' off n, K, h => by
    simp only [frz] at h
    split at h
    · rename_i hb
      obtain rfl := Nat.eq_of_beq_eq_true hb
      split at h
      · rename_i hb
        obtain rfl := Nat.eq_of_beq_eq_true hb
        exact ⟨_, _, h, fun h => h.2, fun u ha S S' β w hc H hr => H _ _ _ ha.1 hr⟩
      · cases h
    · exact ⟨_, _, h, fun z => z, fun u ha S S' β w hc H hr => rel_mono hc _ _ hr⟩
  | A, .agg cs, K, h => by
    simp only [frz] at h
    obtain ⟨vs, A', h1, h3, h2⟩ := frzs_ok (vs := cs) h
    refine ⟨_, _, h1, h3, fun u ha S S' β w hc H hr => ?_⟩
    obtain ⟨us, e1, e2⟩ := hr
    exact ⟨us, e1, h2 us ha S S' β w hc H e2⟩
  | A, .tup cs, K, h => by
    simp only [frz] at h
    obtain ⟨vs, A', h1, h3, h2⟩ := frzs_ok (vs := cs) h
    refine ⟨_, _, h1, h3, fun u ha S S' β w hc H hr => ?_⟩
    obtain ⟨us, e1, e2⟩ := hr
    exact ⟨us, e1, h2 us ha S S' β w hc H e2⟩
  | A, .clo f cs, K, h => by
    simp only [frz] at h
    obtain ⟨vs, A', h1, h3, h2⟩ := frzs_ok (vs := cs) h
    refine ⟨_, _, h1, h3, fun u ha S S' β w hc H hr => ?_⟩
    obtain ⟨us, e1, e2⟩ := hr
    exact ⟨us, e1, h2 us ha S S' β w hc H e2⟩
  | A, .ifc t x, K, h => by
    simp only [frz] at h
    obtain ⟨v, A', h1, h3, h2⟩ := frz_ok (v := x) h
    refine ⟨_, _, h1, h3, fun u ha S S' β w hc H hr => ?_⟩
    obtain ⟨u', e1, e2⟩ := hr
    exact ⟨u', e1, h2 u' ha S S' β w hc H e2⟩
  | A, .i k z, K, h => ⟨_, _, h, fun z => z, fun u ha S S' β w hc H hr => rel_mono hc _ _ hr⟩
  | A, .b t, K, h => ⟨_, _, h, fun z => z, fun u ha S S' β w hc H hr => rel_mono hc _ _ hr⟩
  | A, .s t, K, h => ⟨_, _, h, fun z => z, fun u ha S S' β w hc H hr => rel_mono hc _ _ hr⟩
  | A, .v t, K, h => ⟨_, _, h, fun z => z, fun u ha S S' β w hc H hr => rel_mono hc _ _ hr⟩
  | A, .nil, K, h => ⟨_, _, h, fun z => z, fun u ha S S' β w hc H hr => rel_mono hc _ _ hr⟩
  | A, .row nz e n g, K, h => ⟨_, _, h, fun z => z, fun u ha S S' β w hc H hr => rel_mono hc _ _ hr⟩
  | A, .cp cs, K, h => ⟨_, _, h, fun z => z, fun u ha S S' β w hc H hr => rel_mono hc _ _ hr⟩
  | A, .op id off, K, h => ⟨_, _, h, fun z => z, fun u ha S S' β w hc H hr => rel_mono hc _ _ hr⟩
  | A, .rp id e i j, K, h => ⟨_, _, h, fun z => z, fun u ha S S' β w hc H hr => rel_mono hc _ _ hr⟩
  | A, .omap id, K, h => ⟨_, _, h, fun z => z, fun u ha S S' β w hc H hr => rel_mono hc _ _ hr⟩
  | A, .any, K, h => ⟨_, _, h, fun z => z, fun u ha S S' β w hc H hr => rel_mono hc _ _ hr⟩
  | A, .pth _ _ _ _ _, K, h => ⟨_, _, h, fun z => z, fun u ha S S' β w hc H hr => rel_mono hc _ _ hr⟩
  | A, .pp _ _ _ _ _, K, h => ⟨_, _, h, fun z => z, fun u ha S S' β w hc H hr => rel_mono hc _ _ hr⟩
theorem frzs_ok {c e N : Nat} {g : Nat → List AV} : ∀ {A : Prop} {vs : List AV} {K : List AV → Prop → Prop}, frzs c e N g A vs K → ∃ vs' A', K vs' A' ∧ (A' → A) ∧ ∀ us, A' → Cnv c e N g (fun S β w => rels S β w vs us) (fun S β w => rels S β w vs' us)
  | A, [], K, h => ⟨_, _, h, id, fun us ha S S' β w hc H hr => hr⟩
  | A, x :: xs, K, h => by
    simp only [frzs] at h
    obtain ⟨v, A1, h, h3, h1⟩ := frz_ok (v := x) h
    obtain ⟨vs, A2, h, h4, h2⟩ := frzs_ok (vs := xs) h
    refine ⟨_, _, h, fun h => h3 (h4 h), fun us ha S S' β w hc H hr => ?_⟩
    obtain ⟨u, us', e1, e2, e3⟩ := hr
    exact ⟨u, us', e1, h1 u (h4 ha) S S' β w hc H e2, h2 us' ha S S' β w hc H e3⟩
end
def frzS (c e N : Nat) (g : Nat → List AV) (A : Prop) : Sl → (Sl → Prop → Prop) → Prop
  | [], K => K [] A
  | (d, q, v) :: s, K => frz c e N g A v fun v A => frzS c e N g A s fun s A => K ((d, q, v) :: s) A
theorem frzS_ok {c e N : Nat} {g : Nat → List AV} : ∀ {A : Prop} {s : Sl} {K : Sl → Prop → Prop}, frzS c e N g A s K → ∃ s' A', K s' A' ∧ (A' → A) ∧ ∀ d q v', lk s' d = some (q, v') → ∃ v, lk s d = some (q, v) ∧ ∀ u, A' → Cnv c e N g (fun S β w => rel S β w v u) (fun S β w => rel S β w v' u)
  | A, [], K, h => ⟨_, _, h, id, fun d q v hl => by simp [lk] at hl⟩
  | A, (d, q, v) :: s, K, h => by
    simp only [frzS] at h
    obtain ⟨v', A1, h, h3, h1⟩ := frz_ok h
    obtain ⟨s', A2, h, h4, h2⟩ := frzS_ok h
    refine ⟨_, _, h, fun h => h3 (h4 h), fun d' q' v2 hl => ?_⟩
    rw [lk_cons] at hl ⊢
    split at hl
    · rename_i hd; rw [if_pos hd]; cases hl; exact ⟨_, rfl, fun u ha => h1 u (h4 ha)⟩
    · rename_i hd; rw [if_neg hd]; exact h2 _ _ _ hl
def frzO (c e N : Nat) (g : Nat → List AV) (A : Prop) : Os → (Os → Prop → Prop) → Prop
  | [], K => K [] A
  | (i, .box p q cs) :: o, K => frzs c e N g A cs fun cs A => frzO c e N g A o fun o A => K ((i, .box p q cs) :: o) A
  | (i, .row q a b f) :: o, K => frzO c e N g A o fun o A => K ((i, .row q a b f) :: o) A
  | (i, .tree a b f) :: o, K => frzO c e N g A o fun o A => K ((i, .tree a b f) :: o) A
  | (i, .mp a b f fF) :: o, K => frzO c e N g A o fun o A => K ((i, .mp a b f fF) :: o) A
theorem frzO_ok {c e N : Nat} {g : Nat → List AV} : ∀ {A : Prop} {o : Os} {K : Os → Prop → Prop}, frzO c e N g A o K → ∃ o' A', K o' A' ∧ (A' → A) ∧ o'.map (·.1) = o.map (·.1) ∧ ∀ i ob', lk o' i = some ob' → ∃ ob, lk o i = some ob ∧ ∀ W, A' → Cnv c e N g (fun S β w => orel S β w W ob) (fun S β w => orel S β w W ob')
  | A, [], K, h => ⟨_, _, h, id, rfl, fun i ob hl => by simp [lk] at hl⟩
  | A, (i, .box p q cs) :: o, K, h => by
    simp only [frzO] at h
    obtain ⟨cs', A1, h, h3, h1⟩ := frzs_ok h
    obtain ⟨o', A2, h, h4, hk, h2⟩ := frzO_ok h
    refine ⟨_, _, h, fun h => h3 (h4 h), by simp only [List.map_cons, hk], fun j ob hl => ?_⟩
    rw [lk_cons] at hl ⊢
    split at hl
    · rename_i hd; rw [if_pos hd]; cases hl
      refine ⟨_, rfl, fun W ha S S' β w hc H hr => ?_⟩
      obtain ⟨b, us, ty, r1, r2, r3, r4, r5⟩ := hr
      exact ⟨b, us, ty, r1, r2, r3, h1 us (h4 ha) S S' β w hc H r4, r5⟩
    · rename_i hd; rw [if_neg hd]; exact h2 _ _ hl
  | A, (i, .row q a b f) :: o, K, h => by
    simp only [frzO] at h
    obtain ⟨o', A2, h, h4, hk, h2⟩ := frzO_ok h
    refine ⟨_, _, h, h4, by simp only [List.map_cons, hk], fun j ob hl => ?_⟩
    rw [lk_cons] at hl ⊢
    split at hl
    · rename_i hd; rw [if_pos hd]; cases hl
      exact ⟨_, rfl, fun W ha S S' β w hc H hr => orel_mono hc (fun _ _ => rfl) hr⟩
    · rename_i hd; rw [if_neg hd]; exact h2 _ _ hl
  | A, (i, .tree a b f) :: o, K, h => by
    simp only [frzO] at h
    obtain ⟨o', A2, h, h4, hk, h2⟩ := frzO_ok h
    refine ⟨_, _, h, h4, by simp only [List.map_cons, hk], fun j ob hl => ?_⟩
    rw [lk_cons] at hl ⊢
    split at hl
    · rename_i hd; rw [if_pos hd]; cases hl
      exact ⟨_, rfl, fun W ha S S' β w hc H hr => orel_mono hc (fun _ _ => rfl) hr⟩
    · rename_i hd; rw [if_neg hd]; exact h2 _ _ hl
  | A, (i, .mp a b f fF) :: o, K, h => by
    simp only [frzO] at h
    obtain ⟨o', A2, h, h4, hk, h2⟩ := frzO_ok h
    refine ⟨_, _, h, h4, by simp only [List.map_cons, hk], fun j ob hl => ?_⟩
    rw [lk_cons] at hl ⊢
    split at hl
    · rename_i hd; rw [if_pos hd]; cases hl
      exact ⟨_, rfl, fun W ha S S' β w hc H hr => orel_mono hc (fun _ _ => rfl) hr⟩
    · rename_i hd; rw [if_neg hd]; exact h2 _ _ hl
theorem feet_keys {β : Nat → Wt} : ∀ {o o' : Os}, o'.map (·.1) = o.map (·.1) → feet o' β = feet o β
  | [], [], _ => rfl
  | (i, ob) :: o, (j, ob') :: o', h => by
    simp only [List.map_cons, List.cons.injEq] at h
    rw [feet_cons, feet_cons, feet_keys h.2, h.1]
  | [], _ :: _, h => by cases h
  | _ :: _, [], h => by cases h
mutual
/-- The rows that a value speaks of. -/
def idsA : AV → List Nat
  | .orow id _ _ _ => [id]
  | .agg cs => idsAs cs
  | .tup cs => idsAs cs
  | .clo _ cs => idsAs cs
  | .ifc _ x => idsA x
  | _ => []
def idsAs : List AV → List Nat
  | [] => []
  | x :: xs => idsA x ++ idsAs xs
end
def opIds (s : Sl) : List Operand → List Nat
  | [] => []
  | .tmp t :: l => match lk s t with
    | some (_, v) => idsA v ++ opIds s l
    | none => opIds s l
  | _ :: l => opIds s l
/-- What is given up ahead of an operation. -/
def preIds (p : Oper) (s : Sl) (o : Os) : List Nat := match p.op with
  | .buildSlice _ _ ps => opIds s (ps.toList.map (·.2))
  | .store _ (.tmp t) y => match lk s t with
    | some (_, .rp id _ _ _) => match isTree (lk o id) with
      | true => []
      | false => opIds s [y]
    | _ => []
  | _ => []
def frzAll : List Nat → Sl → Os → (Sl → Os → Prop) → Prop
  | [], s, o, K => K s o
  | c :: l, s, o, K => match lk o c with
    | some (.row _ e N g) => frzS c e N g True s fun s A => frzO c e N g A (rem o c) fun o A => A ∧ frzAll l s o K
    | _ => frzAll l s o K
def forceN : List Nat → (List Nat → Prop) → Prop
  | [], K => K []
  | x :: l, K => forceN l fun l => K (x :: l)
theorem forceN_ok : ∀ {l : List Nat} {K : List Nat → Prop}, forceN l K → K l
  | [], K, h => h
  | x :: l, K, h => forceN_ok (l := l) h
def preK (p : Oper) (tb : Tb) (s : Sl) (o : Os) (K : Sl → Os → Prop) : Prop := match tb with
  | [] => takK p s o fun s o => forceN (preIds p s o) fun l => frzAll l s o K
  | _ => K s o
theorem frzAll_ok : ∀ {l : List Nat} {s : Sl} {o : Os} {K : Sl → Os → Prop}, frzAll l s o K → ∃ s' o', K s' o' ∧ (∀ d q v', lk s' d = some (q, v') → ∃ v, lk s d = some (q, v)) ∧ ∀ (E : Env) (β : Nat → Wt) (a : Act) (w : World), Gam E [] s o β a w → Gam E [] s' o' β a w
  | [], s, o, K, h => ⟨s, o, h, fun d q v hl => ⟨v, hl⟩, fun E β a w hg => hg⟩
  | c :: l, s, o, K, h => by
    simp only [frzAll] at h
    split at h
    · rename_i e N g hl
      obtain ⟨s1, A1, h, _, h1⟩ := frzS_ok h
      obtain ⟨o1, A2, h, hA, hk, h2⟩ := frzO_ok h
      obtain ⟨ha, h⟩ := h
      obtain ⟨s2, o2, h, h3, h4⟩ := frzAll_ok h
      refine ⟨s2, o2, h, fun d q v' hl => ?_, fun E β a w hg => h4 E β a w ?_⟩
      · obtain ⟨v, hv⟩ := h3 d q v' hl
        obtain ⟨v2, hv2, _⟩ := h1 d q v hv
        exact ⟨v2, hv2⟩
      have hf : feet o1 β = feet (rem o c) β := feet_keys hk
      have hgood : E.good o1 β = E.good (rem o c) β := by unfold Env.good; rw [hf]
      have hc := hg.delC (c := c)
      have H : ∀ off n u, off + n ≤ N → rel (E.good o β) β w (.orow c e off n) u → rel (E.good (rem o c) β) β w (.row none e n (offF off g)) u := fun off n u hn hr => by
        unfold rel at hr
        obtain ⟨_, rfl⟩ := hr
        have := hg.freeze hl hn
        rwa [show (fun i => g (off + i)) = offF off g from funext fun i => (offF_eq off g i).symm] at this
      have hd := hg.del (c := c)
      refine ⟨hd.size, hd.defers, hd.tbok, fun d q v' hl' => ?_, fun i ob' hl' => ?_, hd.below, by rw [hf]; exact hd.new, by rw [hf]; exact hd.nodup, by rw [hk]; exact hd.keys⟩
      · obtain ⟨v, hv, hcv⟩ := h1 d q v' hl'
        obtain ⟨u, e1, e2⟩ := hg.slots d q v hv
        exact ⟨u, e1, fun ht => by rw [hgood]; exact hcv u (hA ha) _ _ β w hc H (e2 ht)⟩
      · obtain ⟨ob, hob, hcv⟩ := h2 i ob' hl'
        have hi : i ≠ c := fun e => by subst e; rw [lk_none (rem_keys hg.keys)] at hob; cases hob
        rw [lk_rem hi] at hob
        rw [hgood]
        exact hcv _ ha _ _ β w hc H (hg.objs i ob hob)
    · exact frzAll_ok h
theorem preK_ok {p : Oper} {tb : Tb} {s : Sl} {o : Os} {K : Sl → Os → Prop} (h : preK p tb s o K) : ∃ s' o', K s' o' ∧ (tb ≠ [] → s' = s) ∧ (∀ d q v', lk s' d = some (q, v') → ∃ v, lk s d = some (q, v)) ∧ ∀ (E : Env) (β : Nat → Wt) (a : Act) (w : World), Gam E tb s o β a w → ∃ β', Gam E tb s' o' β' a w := by
  unfold preK at h
  split at h
  · obtain ⟨s1, o1, hk, g1, g2⟩ := takK_ok h
    obtain ⟨s', o', h, h1, h2⟩ := frzAll_ok (forceN_ok hk)
    refine ⟨s', o', h, fun h => absurd rfl h, fun d q v' hl => ?_, fun E β a w hg => ?_⟩
    · obtain ⟨v, hv⟩ := h1 d q v' hl
      exact g1 d q v hv
    · obtain ⟨β1, hg1⟩ := g2 E [] β a w hg
      exact ⟨β1, h2 E β1 a w hg1⟩
  · exact ⟨s, o, h, fun _ => rfl, fun d q v hl => ⟨v, hl⟩, fun E β a w hg => ⟨β, hg⟩⟩
end Go.Proofs.Ytecknkgiaahheaa

/- Calls that change what is handed to them. -/
namespace Go.Proofs.Ytecknkgiaahheaa
open Go.RowKit
set_option linter.unusedVariables false
set_option linter.unusedSimpArgs false
/-- What is owned holds. -/
structure OB (S : Nat → Prop) (β : Nat → Wt) (w : World) (o : Os) : Prop where
  objs : ∀ id ob, lk o id = some ob → orel S β w (β id) ob
  nodup : (feet o β).Nodup
  keys : (o.map (·.1)).Nodup
  lt : ∀ k ∈ feet o β, k < w.heap.size
def isBox : Obj → Bool
  | .box _ _ _ => true
  | _ => false
/-- A call that is handed what the caller owns (os), and hands back what became of it (no); boxes stay where they are. -/
def ASpecF (fx : Bool) (P : Program) (f : FuncId) (args : List AV) (os : Os) (r : AV) (no : Os) : Prop :=
  (∀ args w, (callFunc f args).run P w = .ok (.enter f args) w) ∧ Clo r no ∧ ∀ (S : Nat → Prop) (β : Nat → Wt) (w : World) (us : List Value), OB S β w os → (∀ k, S k → k ∉ feet os β) → rels S β w args us → Rob S w Vr →
    Calls P f us.toArray w fun e w' => ∃ v β', e = .returned v ∧ BelowX (feet os β) w w' ∧
    (∀ id ob, lk no id = some ob → orel (fun k => (S k ∨ w.heap.size ≤ k ∨ k ∈ feet os β) ∧ k ∉ feet no β') β' w' (β' id) ob) ∧ (∀ k ∈ feet no β', (w.heap.size ≤ k ∨ k ∈ feet os β) ∧ k < w'.heap.size) ∧ (feet no β').Nodup ∧ (no.map (·.1)).Nodup ∧
    (∀ id ob, lk os id = some ob → (fx || isBox ob) = true → (lk no id).isSome = true → β' id = β id) ∧ rel (fun k => (S k ∨ w.heap.size ≤ k ∨ k ∈ feet os β) ∧ k ∉ feet no β') β' w' r v
abbrev ASpecM := ASpecF false
/-- The rest of what is owned. -/
def dropO (os : Os) : Os → Os
  | [] => []
  | (i, ob) :: o => match lk os i with
    | some _ => dropO os o
    | none => (i, ob) :: dropO os o
def subO (o : Os) : Os → Prop
  | [] => True
  | (i, ob) :: os => lk o i = some ob ∧ subO o os
/-- Who speaks of what is handed over: of boxes that stay anybody may. -/
def chkM (s : Sl) (o1 no : Os) : Os → Bool
  | [] => true
  | (i, .box _ _ _) :: os => (match lk no i with
    | some _ => true
    | none => fresh i s o1) && chkM s o1 no os
  | (i, .row _ _ _ _) :: os => fresh i s o1 && chkM s o1 no os
  | (i, .tree _ _ _) :: os => fresh i s o1 && chkM s o1 no os
  | (i, .mp _ _ _ _) :: os => fresh i s o1 && chkM s o1 no os
def chkB (s : Sl) (o1 os : Os) : Os → Bool
  | [] => true
  | (i, _) :: no => (match lk os i with
    | some _ => true
    | none => fresh i s o1) && chkB s o1 os no
def keysOf : Os → List Nat
  | [] => []
  | (i, _) :: o => i :: keysOf o
theorem keysOf_eq : ∀ o : Os, keysOf o = o.map (·.1)
  | [] => rfl
  | (i, ob) :: o => by rw [keysOf, keysOf_eq o]; rfl
/-- .. whatever is told of where boxes lie. -/
def subP (o : Os) : Os → Prop
  | [] => True
  | (i, .box none q cs) :: os => (∃ p, lk o i = some (.box p q cs)) ∧ subP o os
  | (_, .box (some _) _ _) :: _ => False
  | (i, .row q e n g) :: os => lk o i = some (.row q e n g) ∧ subP o os
  | (i, .tree e n g) :: os => lk o i = some (.tree e n g) ∧ subP o os
  | (i, .mp e n g fF) :: os => lk o i = some (.mp e n g fF) ∧ subP o os
/-- Boxes lie where they lay. -/
def rePin (o os : Os) : Os → Os
  | [] => []
  | (i, .box p q cs) :: no => match lk os i, lk o i with
    | some (.box _ _ _), some (.box p' _ _) => (i, .box p' q cs) :: rePin o os no
    | _, _ => (i, .box p q cs) :: rePin o os no
  | (i, .row q e n g) :: no => (i, .row q e n g) :: rePin o os no
  | (i, .tree e n g) :: no => (i, .tree e n g) :: rePin o os no
  | (i, .mp e n g fF) :: no => (i, .mp e n g fF) :: rePin o os no
def unP (os : Os) : Os → Os
  | [] => []
  | (i, .box p q cs) :: o => match lk os i with
    | some _ => (i, .box none q cs) :: unP os o
    | none => (i, .box p q cs) :: unP os o
  | (i, .row q e n g) :: o => (i, .row q e n g) :: unP os o
  | (i, .tree e n g) :: o => (i, .tree e n g) :: unP os o
  | (i, .mp e n g fF) :: o => (i, .mp e n g fF) :: unP os o
def memN' (d : Nat) : List Nat → Bool
  | [] => false
  | x :: l => Nat.beq x d || memN' d l
def nodN : Os → Bool
  | [] => true
  | (i, _) :: o => !memN' i (keysOf o) && nodN o
theorem memN'_iff {d : Nat} : ∀ {l : List Nat}, memN' d l = true ↔ d ∈ l
  | [] => by simp [memN']
  | x :: l => by
    simp only [memN', Bool.or_eq_true, memN'_iff, List.mem_cons, Nat.beq_eq]
    exact ⟨fun h => h.imp Eq.symm id, fun h => h.imp Eq.symm id⟩
theorem nodN_ok : ∀ {o : Os}, nodN o = true → (o.map (·.1)).Nodup
  | [], _ => List.nodup_nil
  | (i, ob) :: o, h => by
    simp only [nodN, Bool.and_eq_true, Bool.not_eq_true'] at h
    rw [List.map_cons, List.nodup_cons, ← keysOf_eq]
    exact ⟨(fun hm => by rw [memN'_iff.2 hm] at h; cases h.1), by rw [keysOf_eq]; exact nodN_ok h.2⟩
/-- .. or what is handed over stays where it is. -/
def chkStay (no : Os) : Os → Bool
  | [] => true
  | (i, _) :: os => (lk no i).isSome && chkStay no os
def chkW (fx : Bool) (s : Sl) (o1 no os : Os) : Bool := (fx && chkStay no os) || chkM s o1 no os
theorem chkStay_at {no : Os} : ∀ {os : Os} {i : Nat} {ob : Obj}, chkStay no os = true → lk os i = some ob → (lk no i).isSome = true
  | [], i, ob, _, h => by simp [lk] at h
  | (j, ob') :: os, i, ob, h, hl => by
    simp only [chkStay, Bool.and_eq_true] at h
    rw [lk_cons] at hl
    split at hl
    · rename_i e; subst e; exact h.1
    · exact chkStay_at h.2 hl
inductive CallM (P : Program) (s : Sl) (o : Os) (f : FuncId) (vs : List AV) (K : AV → Os → Prop) : Prop
  | mk {fx : Bool} (os : Os) (r : AV) (no : Os) (hs : subP o os) (hc : (nodN os && (chkW fx s (dropO os o) no os && chkB s (dropO os o) os no)) = true) (h : ASpecF fx P f vs os r no) (k : K r (rePin o os no ++ dropO os o))
/-- A call: it reads what is owned, or changes it. -/
inductive CallW (A B : Prop) : Prop
  | lent (h : A)
  | chg (h : B)
theorem lk_dropO {os : Os} {i : Nat} : ∀ {o : Os}, lk (dropO os o) i = (match lk os i with
  | some _ => none
  | none => lk o i)
  | [] => by cases h : lk os i <;> simp [dropO, lk]
  | (j, ob) :: o => by
    simp only [dropO]
    cases hj : lk os j with
    | some x =>
      rw [lk_dropO, lk_cons]
      by_cases e : j = i
      · subst e; rw [hj]
      · rw [if_neg e]
    | none =>
      simp only
      rw [lk_cons, lk_cons, lk_dropO]
      by_cases e : j = i
      · subst e; simp [hj]
      · rw [if_neg e, if_neg e]
theorem dropO_sub {os : Os} : ∀ {o : Os}, (dropO os o).Sublist o
  | [] => List.Sublist.refl _
  | (j, ob) :: o => by
    simp only [dropO]
    split
    · exact List.Sublist.cons _ dropO_sub
    · exact List.Sublist.cons_cons _ dropO_sub
theorem subO_lk {o : Os} : ∀ {os : Os} {i : Nat} {ob : Obj}, subO o os → lk os i = some ob → lk o i = some ob
  | [], i, ob, _, h => by simp [lk] at h
  | (j, ob') :: os, i, ob, h, hl => by
    rw [lk_cons] at hl
    split at hl
    · rename_i e; cases hl; subst e; exact h.1
    · exact subO_lk h.2 hl
theorem subO_mem {o : Os} : ∀ {os : Os}, subO o os → ∀ p ∈ os, lk o p.1 = some p.2
  | [], _, p, hp => nomatch hp
  | (j, ob') :: os, h, p, hp => by
    rcases List.mem_cons.1 hp with rfl | hp
    · exact h.1
    · exact subO_mem h.2 p hp
theorem chkM_row {s : Sl} {o1 no : Os} : ∀ {os : Os} {i : Nat} {ob : Obj}, chkM s o1 no os = true → lk os i = some ob → (isBox ob = true ∧ (lk no i).isSome = true) ∨ fresh i s o1 = true
  | [], i, ob, _, h => by simp [lk] at h
  | (j, .box p q cs) :: os, i, ob, h, hl => by
    simp only [chkM, Bool.and_eq_true] at h
    rw [lk_cons] at hl
    split at hl
    · rename_i e; cases hl; subst e
      cases hq : lk no j with
      | some x => exact .inl ⟨rfl, rfl⟩
      | none => rw [hq] at h; exact .inr h.1
    · exact chkM_row h.2 hl
  | (j, .row _ _ _ _) :: os, i, ob, h, hl => by
    simp only [chkM, Bool.and_eq_true] at h
    rw [lk_cons] at hl
    split at hl
    · rename_i e; cases hl; subst e; exact .inr h.1
    · exact chkM_row h.2 hl
  | (j, .tree _ _ _) :: os, i, ob, h, hl => by
    simp only [chkM, Bool.and_eq_true] at h
    rw [lk_cons] at hl
    split at hl
    · rename_i e; cases hl; subst e; exact .inr h.1
    · exact chkM_row h.2 hl
  | (j, .mp _ _ _ _) :: os, i, ob, h, hl => by
    simp only [chkM, Bool.and_eq_true] at h
    rw [lk_cons] at hl
    split at hl
    · rename_i e; cases hl; subst e; exact .inr h.1
    · exact chkM_row h.2 hl
theorem chkW_row {fx : Bool} {s : Sl} {o1 no os : Os} {i : Nat} {ob : Obj} (h : chkW fx s o1 no os = true) (hl : lk os i = some ob) : ((fx || isBox ob) = true ∧ (lk no i).isSome = true) ∨ fresh i s o1 = true := by
  unfold chkW at h
  rcases Bool.or_eq_true _ _ ▸ h with h | h
  · rw [Bool.and_eq_true] at h
    exact .inl ⟨by rw [h.1]; rfl, chkStay_at h.2 hl⟩
  · exact (chkM_row h hl).imp (fun ⟨a, b⟩ => ⟨by rw [a, Bool.or_true], b⟩) id
theorem chkB_at {s : Sl} {o1 os : Os} : ∀ {no : Os} {i : Nat} {ob : Obj}, chkB s o1 os no = true → lk no i = some ob → (lk os i).isSome = true ∨ fresh i s o1 = true
  | [], i, ob, _, h => by simp [lk] at h
  | (j, ob') :: no, i, ob, h, hl => by
    simp only [chkB, Bool.and_eq_true] at h
    rw [lk_cons] at hl
    split at hl
    · rename_i e; cases hl; subst e
      cases hq : lk os j with
      | some x => exact .inl rfl
      | none => rw [hq] at h; exact .inr h.1
    · exact chkB_at h.2 hl
section
variable {P : Program} {tb : Tb} {s : Sl} {o : Os}
/-- The state behind a call that changed what it was handed. -/
theorem Gam.changed {E : Env} {β β' : Nat → Wt} {a : Act} {w w' : World} {os no : Os} {r : AV} {v : Value} (h : Gam E tb s o β a w) (hs : subO o os) (hko : (os.map (·.1)).Nodup) {fx : Bool} (hcA : chkW fx s (dropO os o) no os = true) (hcB : chkB s (dropO os o) os no = true) (hb : BelowX (feet os β) w w')
    (h1 : ∀ id ob, lk no id = some ob → orel (fun k => (E.good o β k ∨ w.heap.size ≤ k ∨ k ∈ feet os β) ∧ k ∉ feet no β') β' w' (β' id) ob) (h2 : ∀ k ∈ feet no β', (w.heap.size ≤ k ∨ k ∈ feet os β) ∧ k < w'.heap.size) (h3 : (feet no β').Nodup) (h4 : (no.map (·.1)).Nodup)
    (h6 : ∀ id ob, lk os id = some ob → (fx || isBox ob) = true → (lk no id).isSome = true → β' id = β id)
    (h5 : rel (fun k => (E.good o β k ∨ w.heap.size ≤ k ∨ k ∈ feet os β) ∧ k ∉ feet no β') β' w' r v) (hm : Clo r no) :
    ∃ β2, Gam E tb s (no ++ dropO os o) β2 a w' ∧ rel (E.good (no ++ dropO os o) β2) β2 w' r v ∧ ∀ id ob, lk os id = some ob → isBox ob = true → (lk no id).isSome = true → β2 id = β id := by
  obtain ⟨hm, hm2⟩ := hm
  let β2 : Nat → Wt := fun i => if (lk no i).isSome then β' i else β i
  have hnew : ∀ id, (lk no id).isSome = true → β2 id = β' id := fun id h => if_pos h
  have hold : ∀ id, lk no id = none → β2 id = β id := fun id h => if_neg (by rw [h]; simp)
  have hsub := dropO_sub (os := os) (o := o)
  have hkey : ∀ p ∈ no, (lk no p.1).isSome = true := fun p hp => by rw [lk_key hp h4]; rfl
  -- the rest does not stand in no
  have hrest : ∀ i ob, lk (dropO os o) i = some ob → lk os i = none ∧ lk o i = some ob := fun i ob hl => by
    rw [lk_dropO] at hl
    split at hl
    · cases hl
    · rename_i hq; exact ⟨hq, hl⟩
  have hmen : ∀ i, (lk no i).isSome = true → (β2 i = β i) ∨ (smen i s = false ∧ omens i (dropO os o) = false) := fun i hi => by
    obtain ⟨ob, hob⟩ := Option.isSome_iff_exists.1 hi
    have fr : fresh i s (dropO os o) = true → smen i s = false ∧ omens i (dropO os o) = false := fun h => by
      simpa only [fresh, Bool.and_eq_true, Bool.not_eq_true'] using h
    rcases chkB_at hcB hob with q | q
    · obtain ⟨ob', hob'⟩ := Option.isSome_iff_exists.1 q
      rcases chkW_row hcA hob' with ⟨e1, e2⟩ | e
      · exact .inl ((hnew i hi).trans (h6 i ob' hob' e1 e2))
      · exact .inr (fr e)
    · exact .inr (fr q)
  have hdis : ∀ p ∈ dropO os o, lk no p.1 = none := fun p hp => by
    have hk1 : ((dropO os o).map (·.1)).Nodup := h.keys.sublist (hsub.map _)
    have hl := lk_key hp hk1
    obtain ⟨q1, q2⟩ := hrest _ _ hl
    cases hq : lk no p.1 with
    | none => rfl
    | some ob =>
      exfalso
      rcases chkB_at hcB hq with e | e
      · rw [q1] at e; cases e
      · simp only [fresh, Bool.and_eq_true, Bool.not_eq_true'] at e
        exact omens_keys e.2 p hp rfl
  have feetOs : ∀ k ∈ feet os β, k ∈ feet o β := fun k hk => by
    obtain ⟨p, hp, hkp⟩ := List.mem_flatMap.1 hk
    exact foot_feet (subO_mem hs p hp) k hkp
  have feetDis : ∀ k ∈ feet (dropO os o) β, k ∉ feet os β := fun k hk hk' => by
    obtain ⟨p, hp, hkp⟩ := List.mem_flatMap.1 hk
    obtain ⟨q, hq, hkq⟩ := List.mem_flatMap.1 hk'
    have hk1 : ((dropO os o).map (·.1)).Nodup := h.keys.sublist (hsub.map _)
    have hl := hrest _ _ (lk_key hp hk1)
    have hlq := subO_mem hs q hq
    by_cases e : p.1 = q.1
    · have := lk_key hq hko
      rw [← e, hl.1] at this; cases this
    · exact foot_disj hlq hl.2 e h.nodup k hkp hkq
  have f1 : feet no β2 = feet no β' := by
    unfold feet
    exact flatMap_congr fun p hp => by rw [hnew _ (hkey p hp)]
  have f2 : feet (dropO os o) β2 = feet (dropO os o) β := by
    unfold feet
    exact flatMap_congr fun p hp => by rw [hold _ (hdis p hp)]
  have hfe : feet (no ++ dropO os o) β2 = feet no β' ++ feet (dropO os o) β := by rw [feet_app, f1, f2]
  have hgood : ∀ k, ((E.good o β k ∨ w.heap.size ≤ k ∨ k ∈ feet os β) ∧ k ∉ feet no β') → E.good (no ++ dropO os o) β2 k := fun k ⟨hk, hn⟩ => by
    refine ⟨?_, fun hm => ?_⟩
    · rcases hk with hk | hk | hk
      · exact hk.1
      · exact .inr (.inl (Nat.le_trans h.below.size hk))
      · exact .inr (h.new k (feetOs k hk)).1
    · rw [hfe] at hm
      rcases List.mem_append.1 hm with q | q
      · exact hn q
      · rcases hk with hk | hk | hk
        · exact hk.2 ((feet_sub hsub).subset q)
        · have := (h.new k ((feet_sub hsub).subset q)).2; omega
        · exact feetDis k q hk
  have hcBl : ∀ k, k < w.heap.size → E.good o β k → w'.heap[k]? = w.heap[k]? := fun k hk hg => hb.block k hk fun q => hg.2 (feetOs k q)
  have hc : Comp (E.good o β) w (E.good (no ++ dropO os o) β2) w' := ⟨hb.size, fun k hk hg => ⟨hgood k ⟨.inl hg, fun q => by
    rcases (h2 k q).1 with e | e
    · omega
    · exact hg.2 (feetOs k e)⟩, hcBl k hk hg⟩⟩
  have hc' : Comp (fun k => (E.good o β k ∨ w.heap.size ≤ k ∨ k ∈ feet os β) ∧ k ∉ feet no β') w' (E.good (no ++ dropO os o) β2) w' := ⟨Nat.le_refl _, fun k _ hk => ⟨hgood k hk, rfl⟩⟩
  refine ⟨β2, ⟨h.size, h.defers, h.tbok, fun i c v hl => ?_, fun id ob hl => ?_, ?_, fun k hk => ?_, ?_, ?_⟩, ?_, fun id ob hl hb hs => (hnew id hs).trans (h6 id ob hl (by rw [hb, Bool.or_true]) hs)⟩
  · obtain ⟨u, e1, e2⟩ := h.slots i c v hl
    refine ⟨u, e1, fun hg => rel_agr _ _ (fun id hid => ?_) (rel_mono hc _ _ (e2 hg))⟩
    cases hq : lk no id with
    | none => exact hold id hq
    | some ob =>
      rcases hmen id (by rw [hq]; rfl) with e | e
      · exact e
      · have := smen_lk hl e.1
        rw [this] at hid; cases hid
  · rw [lk_app] at hl
    cases hq : lk no id with
    | some ob' =>
      rw [hq] at hl
      cases hl
      rw [hnew id (by rw [hq]; rfl)]
      refine orel_agr (fun id' hid => ?_) (orel_mono hc' (fun _ _ => rfl) (h1 id ob hq))
      exact hnew id' (hm2 id ob hq id' hid)
    | none =>
      rw [hq] at hl
      rw [hold id hq]
      have hl' : lk (dropO os o) id = some ob := hl
      have hlo := (hrest _ _ hl').2
      refine orel_agr (fun id' hid => ?_) (orel_mono hc (fun k hk => hb.block k (h.new k (foot_feet hlo k hk)).2 (feetDis k (foot_feet hl' k hk))) (h.objs id ob hlo))
      cases hq' : lk no id' with
      | none => exact hold id' hq'
      | some ob' =>
        rcases hmen id' (by rw [hq']; rfl) with e | e
        · exact e
        · have := (omens_lk hl' e.2).1
          rw [this] at hid; cases hid
  · exact ⟨hb.os.trans h.below.os, hb.tape.trans h.below.tape, hb.output.trans h.below.output, Nat.le_trans h.below.size hb.size, fun k hk hx => (hb.block k (Nat.lt_of_lt_of_le hk h.below.size) fun q => by
      rcases (h.new k (feetOs k q)).1 with e | e
      · omega
      · exact hx e).trans (h.below.block k hk hx)⟩
  · rw [hfe] at hk
    rcases List.mem_append.1 hk with q | q
    · refine ⟨?_, (h2 k q).2⟩
      rcases (h2 k q).1 with e | e
      · exact .inl (Nat.le_trans h.below.size e)
      · exact (h.new k (feetOs k e)).1
    · have := h.new k ((feet_sub hsub).subset q)
      exact ⟨this.1, Nat.lt_of_lt_of_le this.2 hb.size⟩
  · rw [hfe]
    refine List.nodup_append.2 ⟨h3, h.nodup.sublist (feet_sub hsub), fun x hx y hy e => ?_⟩
    subst e
    rcases (h2 x hx).1 with q | q
    · have := (h.new x ((feet_sub hsub).subset hy)).2; omega
    · exact feetDis x hy q
  · rw [List.map_append]
    refine List.nodup_append.2 ⟨h4, h.keys.sublist (hsub.map _), fun x hx y hy e => ?_⟩
    subst e
    obtain ⟨p, hp, rfl⟩ := List.mem_map.1 hx
    obtain ⟨q, hq, e⟩ := List.mem_map.1 hy
    have := hdis q hq
    rw [e] at this
    have h6 := hkey p hp
    rw [this] at h6; cases h6
  · exact rel_agr _ _ (fun id hid => hnew id (hm id hid)) (rel_mono hc' _ _ h5)
theorem OB.of {E : Env} {β : Nat → Wt} {a : Act} {w : World} {os : Os} (h : Gam E tb s o β a w) (hs : subO o os) (hk : (os.map (·.1)).Nodup) : OB (E.good o β) β w os ∧ ∀ k, E.good o β k → k ∉ feet os β := by
  refine ⟨⟨fun id ob hl => h.objs id ob (subO_lk hs hl), ?_, hk, fun k hk' => ?_⟩, fun k hk' hm => ?_⟩
  · induction os with
    | nil => exact List.nodup_nil
    | cons p os ih =>
      obtain ⟨i, ob⟩ := p
      rw [List.map_cons, List.nodup_cons] at hk
      rw [feet_cons]
      refine List.nodup_append.2 ⟨?_, ih hs.2 hk.2, fun x hx y hy e => ?_⟩
      · obtain ⟨p, q, hpq⟩ := List.append_of_mem (lk_mem hs.1)
        have hn := h.nodup
        rw [hpq, feet_app, feet_cons] at hn
        exact (List.nodup_append.1 (List.nodup_append.1 hn).2.1).1
      · subst e
        obtain ⟨p, hp, hxp⟩ := List.mem_flatMap.1 hy
        have hne : p.1 ≠ i := fun e => hk.1 (List.mem_map.2 ⟨p, hp, e⟩)
        exact foot_disj hs.1 (subO_mem hs.2 p hp) hne h.nodup x hxp hx
  · obtain ⟨p, hp, hkp⟩ := List.mem_flatMap.1 hk'
    exact (h.new k (foot_feet (subO_mem hs p hp) k hkp)).2
  · obtain ⟨p, hp, hkp⟩ := List.mem_flatMap.1 hm
    exact hk'.2 (foot_feet (subO_mem hs p hp) k hkp)
theorem unP_keys {os : Os} : ∀ {o : Os}, (unP os o).map (·.1) = o.map (·.1)
  | [] => rfl
  | (i, .box p q cs) :: o => by
    simp only [unP]
    split <;> simp only [List.map_cons, unP_keys]
  | (i, .row q e n g) :: o => by simp only [unP, List.map_cons, unP_keys]
  | (i, .tree e n g) :: o => by simp only [unP, List.map_cons, unP_keys]
  | (i, .mp e n g fF) :: o => by simp only [unP, List.map_cons, unP_keys]
theorem rePin_keys {o os : Os} : ∀ {no : Os}, (rePin o os no).map (·.1) = no.map (·.1)
  | [] => rfl
  | (i, .box p q cs) :: no => by
    simp only [rePin]
    split <;> simp only [List.map_cons, rePin_keys]
  | (i, .row q e n g) :: no => by simp only [rePin, List.map_cons, rePin_keys]
  | (i, .tree e n g) :: no => by simp only [rePin, List.map_cons, rePin_keys]
  | (i, .mp e n g fF) :: no => by simp only [rePin, List.map_cons, rePin_keys]
def unOb : Obj → Obj
  | .box _ q cs => .box none q cs
  | ob => ob
def unIf (os : Os) (i : Nat) (ob : Obj) : Obj := match lk os i with
  | some _ => unOb ob
  | none => ob
theorem lk_unP {os : Os} {i : Nat} : ∀ {o : Os}, lk (unP os o) i = (lk o i).map (unIf os i)
  | [] => by simp [unP, lk]
  | (j, .box p q cs) :: o => by
    simp only [unP]
    split
    · rename_i x hq
      rw [lk_cons, lk_cons, lk_unP]
      by_cases e : j = i
      · subst e; simp [hq, unOb, unIf]
      · rw [if_neg e, if_neg e]
    · rename_i hq
      rw [lk_cons, lk_cons, lk_unP]
      by_cases e : j = i
      · subst e; simp [hq, unIf]
      · rw [if_neg e, if_neg e]
  | (j, .row q e' n g) :: o => by
    simp only [unP]
    rw [lk_cons, lk_cons, lk_unP]
    by_cases e : j = i
    · subst e; cases h : lk os j <;> simp [unOb, unIf, h]
    · rw [if_neg e, if_neg e]
  | (j, .tree e' n g) :: o => by
    simp only [unP]
    rw [lk_cons, lk_cons, lk_unP]
    by_cases e : j = i
    · subst e; cases h : lk os j <;> simp [unOb, unIf, h]
    · rw [if_neg e, if_neg e]
  | (j, .mp e' n g fF) :: o => by
    simp only [unP]
    rw [lk_cons, lk_cons, lk_unP]
    by_cases e : j = i
    · subst e; cases h : lk os j <;> simp [unOb, unIf, h]
    · rw [if_neg e, if_neg e]
theorem orel_un {S : Nat → Prop} {β : Nat → Wt} {w : World} {W : Wt} : ∀ {ob : Obj}, orel S β w W ob → orel S β w W (unOb ob)
  | .box p q cs, ⟨b, us, ty, h1, h2, h3, h4, h5, h6, h7, h8⟩ => ⟨b, us, ty, h1, h2, h3, h4, h5, h6, (fun _ h => nomatch h), h8⟩
  | .row q e n g, h => h
  | .tree e n g, h => h
  | .mp e n g fF, h => h
theorem feet_same {β : Nat → Wt} : ∀ {o o' : Os}, o'.map (·.1) = o.map (·.1) → feet o' β = feet o β
  | [], [], _ => rfl
  | (i, ob) :: o, (j, ob') :: o', h => by
    simp only [List.map_cons, List.cons.injEq] at h
    rw [feet_cons, feet_cons, feet_same h.2, h.1]
  | [], _ :: _, h => by cases h
/-- The same things are owned, told otherwise. -/
theorem Gam.retell {E : Env} {β : Nat → Wt} {a : Act} {w : World} {o' : Os} (h : Gam E tb s o β a w) (hk : o'.map (·.1) = o.map (·.1)) (ho : ∀ id ob', lk o' id = some ob' → orel (E.good o β) β w (β id) ob') : Gam E tb s o' β a w := by
  have hfe : feet o' β = feet o β := feet_same hk
  have hg : E.good o' β = E.good o β := by unfold Env.good; rw [hfe]
  exact ⟨h.size, h.defers, h.tbok, fun d c v hl => by rw [hg]; exact h.slots d c v hl, fun id ob hl => by rw [hg]; exact ho id ob hl, h.below, by rw [hfe]; exact h.new, by rw [hfe]; exact h.nodup, by rw [hk]; exact h.keys⟩
theorem subP_subO : ∀ {os : Os} {o : Os}, subP o os → ∀ {os0 : Os}, (∀ p ∈ os, (lk os0 p.1).isSome = true) → subO (unP os0 o) os
  | [], _, _, _, _ => trivial
  | (i, .box none q cs) :: os, o, ⟨⟨p, h⟩, h2⟩, os0, hm => by
    refine ⟨?_, subP_subO h2 fun p hp => hm p (List.mem_cons_of_mem _ hp)⟩
    obtain ⟨x, hx⟩ := Option.isSome_iff_exists.1 (hm (i, _) List.mem_cons_self)
    rw [lk_unP, h, Option.map_some]; unfold unIf; rw [hx]; rfl
  | (i, .box (some _) _ _) :: _, _, h, _, _ => nomatch h
  | (i, .row q e n g) :: os, o, ⟨h, h2⟩, os0, hm => by
    refine ⟨?_, subP_subO h2 fun p hp => hm p (List.mem_cons_of_mem _ hp)⟩
    rw [lk_unP, h, Option.map_some]; unfold unIf
    split <;> rfl
  | (i, .tree e n g) :: os, o, ⟨h, h2⟩, os0, hm => by
    refine ⟨?_, subP_subO h2 fun p hp => hm p (List.mem_cons_of_mem _ hp)⟩
    rw [lk_unP, h, Option.map_some]; unfold unIf
    split <;> rfl
  | (i, .mp e n g fF) :: os, o, ⟨h, h2⟩, os0, hm => by
    refine ⟨?_, subP_subO h2 fun p hp => hm p (List.mem_cons_of_mem _ hp)⟩
    rw [lk_unP, h, Option.map_some]; unfold unIf
    split <;> rfl
theorem dropO_unP {os : Os} : ∀ {o : Os}, dropO os (unP os o) = dropO os o
  | [] => rfl
  | (i, .box p q cs) :: o => by
    cases h : lk os i with
    | some x => simp only [unP, dropO, h]; exact dropO_unP
    | none => simp only [unP, dropO, h]; rw [dropO_unP]
  | (i, .row q e n g) :: o => by
    cases h : lk os i with
    | some x => simp only [unP, dropO, h]; exact dropO_unP
    | none => simp only [unP, dropO, h]; rw [dropO_unP]
  | (i, .tree e n g) :: o => by
    cases h : lk os i with
    | some x => simp only [unP, dropO, h]; exact dropO_unP
    | none => simp only [unP, dropO, h]; rw [dropO_unP]
  | (i, .mp e n g fF) :: o => by
    cases h : lk os i with
    | some x => simp only [unP, dropO, h]; exact dropO_unP
    | none => simp only [unP, dropO, h]; rw [dropO_unP]
theorem lk_rePin {o os : Os} {i : Nat} {ob : Obj} : ∀ {no : Os}, lk (rePin o os no) i = some ob → lk no i = some ob ∨ ∃ p q cs p' x y, lk no i = some (.box p q cs) ∧ ob = .box p' q cs ∧ lk o i = some (.box p' x y) ∧ ∃ b, lk os i = some b ∧ isBox b = true
  | [], h => by simp [rePin, lk] at h
  | (j, .box p q cs) :: no, h => by
    simp only [rePin] at h
    split at h
    · rename_i p1 q1 c1 p' x y h1 h2
      rw [lk_cons] at h ⊢
      split at h
      · rename_i e; cases h; subst e
        rw [if_pos rfl]
        exact .inr ⟨p, q, cs, p', x, y, rfl, rfl, h2, _, h1, rfl⟩
      · rename_i e; rw [if_neg e]; exact lk_rePin h
    · rw [lk_cons] at h ⊢
      split at h
      · rename_i e; cases h; subst e; rw [if_pos rfl]; exact .inl rfl
      · rename_i e; rw [if_neg e]; exact lk_rePin h
  | (j, .row q e' n g) :: no, h => by
    simp only [rePin] at h
    rw [lk_cons] at h ⊢
    split at h
    · rename_i e; cases h; subst e; rw [if_pos rfl]; exact .inl rfl
    · rename_i e; rw [if_neg e]; exact lk_rePin h
  | (j, .tree e' n g) :: no, h => by
    simp only [rePin] at h
    rw [lk_cons] at h ⊢
    split at h
    · rename_i e; cases h; subst e; rw [if_pos rfl]; exact .inl rfl
    · rename_i e; rw [if_neg e]; exact lk_rePin h
  | (j, .mp e' n g fF) :: no, h => by
    simp only [rePin] at h
    rw [lk_cons] at h ⊢
    split at h
    · rename_i e; cases h; subst e; rw [if_pos rfl]; exact .inl rfl
    · rename_i e; rw [if_neg e]; exact lk_rePin h
theorem Gam.unpin {E : Env} {β : Nat → Wt} {a : Act} {w : World} {os : Os} (h : Gam E tb s o β a w) : Gam E tb s (unP os o) β a w := h.retell unP_keys fun id ob' hl => by
  rw [lk_unP] at hl
  obtain ⟨ob, h1, h2⟩ := Option.map_eq_some_iff.1 hl
  subst h2
  unfold unIf
  split
  · exact orel_un (h.objs id ob h1)
  · exact h.objs id ob h1
theorem Gam.repin {E : Env} {β β2 : Nat → Wt} {a a' : Act} {w w' : World} {tb' : Tb} {s' : Sl} {os no o1 : Os} (h0 : Gam E tb s o β a w) (h : Gam E tb' s' (no ++ o1) β2 a' w') (hβ : ∀ id ob, lk os id = some ob → isBox ob = true → (lk no id).isSome = true → β2 id = β id) : Gam E tb' s' (rePin o os no ++ o1) β2 a' w' := h.retell (by rw [List.map_append, List.map_append, rePin_keys]) fun id ob' hl => by
  rw [lk_app] at hl
  cases hq : lk (rePin o os no) id with
  | none =>
    rw [hq] at hl
    have : lk no id = none := by
      refine lk_none fun hm => ?_
      rw [← rePin_keys (o := o) (os := os)] at hm
      obtain ⟨p, hp, e⟩ := List.mem_map.1 hm
      have hk : ((rePin o os no).map (·.1)).Nodup := by
        have := h.keys
        rw [List.map_append] at this
        rw [rePin_keys]; exact (List.nodup_append.1 this).1
      have := lk_key hp hk
      rw [e, hq] at this; cases this
    exact h.objs id ob' (by rw [lk_app, this]; exact hl)
  | some ob =>
    rw [hq] at hl
    obtain rfl : ob = ob' := by cases hl; rfl
    rcases lk_rePin hq with h1 | ⟨p, q, cs, p', x, y, h1, rfl, h2, b, h3, h4⟩
    · exact h.objs id ob (by rw [lk_app, h1]; rfl)
    · obtain ⟨b1, us, ty, g1, g2, g3, g4, g5, g6, g7, g8⟩ := h.objs id _ (by rw [lk_app, h1]; rfl)
      obtain ⟨b2, us', ty', k1, k2, k3, k4, k5, k6, k7, k8⟩ := h0.objs id _ h2
      have e := hβ id b h3 h4 (by rw [h1]; rfl)
      refine ⟨b1, us, ty, g1, g2, g3, g4, g5, g6, fun b0 hb => ?_, g8⟩
      have := k7 b0 hb
      rw [e, k1] at g1
      cases g1; exact this
end
end Go.Proofs.Ytecknkgiaahheaa

/- Lists of operations in their order: all of them. -/
namespace Go.Proofs.Ytecknkgiaahheaa
open Go.RowKit
set_option linter.unusedVariables false
set_option linter.unusedSimpArgs false
/-- Without what stands under a condition. -/
def uncK : Sl → (Sl → Prop) → Prop
  | [], K => K []
  | (d, c, v) :: l, K => match c with
    | 0 => uncK l fun r => K ((d, 0, v) :: r)
    | _ => match lk l d with
      | none => uncK l K
      | some _ => False
theorem uncK_ok : ∀ {s : Sl} {K : Sl → Prop}, uncK s K → ∃ s', K s' ∧ ∀ d c v, lk s' d = some (c, v) → c = 0 ∧ lk s d = some (c, v)
  | [], K, h => ⟨[], h, fun d c v hl => by simp [lk] at hl⟩
  | (d, c, v) :: l, K, h => by
    simp only [uncK] at h
    split at h
    · obtain ⟨s', h1, h2⟩ := uncK_ok h
      refine ⟨_, h1, fun d' c' v' hl => ?_⟩
      rw [lk_cons] at hl ⊢
      split at hl
      · rename_i e; rw [if_pos e]; cases hl; exact ⟨rfl, rfl⟩
      · rename_i e; rw [if_neg e]; exact h2 _ _ _ hl
    · split at h
      · rename_i hn
        obtain ⟨s', h1, h2⟩ := uncK_ok h
        refine ⟨_, h1, fun d' c' v' hl => ?_⟩
        have := h2 _ _ _ hl
        refine ⟨this.1, ?_⟩
        rw [lk_cons, if_neg fun e => by rw [e, this.2] at hn; cases hn]
        exact this.2
      · cases h
def memN (d : Nat) : List Nat → Bool
  | [] => false
  | x :: l => bif Nat.beq x d then true else memN d l
/-- The slots that are wanted later. -/
def pruK (keep : List Nat) : Sl → (Sl → Prop) → Prop
  | [], K => K []
  | (d, c, v) :: l, K => match memN d keep with
    | true => match c with
      | 0 => forceK v fun v => pruK keep l fun r => K ((d, 0, v) :: r)
      | _ => False
    | false => pruK keep l K
theorem pruK_ok {keep : List Nat} : ∀ {s : Sl} {K : Sl → Prop}, pruK keep s K → ∃ s', K s' ∧ ∀ d c v, lk s' d = some (c, v) → lk s d = some (c, v) ∧ memN d keep = true ∧ c = 0
  | [], K, h => ⟨[], h, fun d c v hl => by simp [lk] at hl⟩
  | (d, c, v) :: l, K, h => by
    simp only [pruK] at h
    split at h
    · rename_i hm
      split at h
      · have h := force_ok h
        obtain ⟨s', h1, h2⟩ := pruK_ok h
        refine ⟨_, h1, fun d' c' v' hl => ?_⟩
        rw [lk_cons] at hl ⊢
        split at hl
        · rename_i e; rw [if_pos e]; cases hl; exact ⟨rfl, e ▸ hm, rfl⟩
        · rename_i e; rw [if_neg e]; exact h2 _ _ _ hl
      · cases h
    · rename_i hm
      obtain ⟨s', h1, h2⟩ := pruK_ok h
      refine ⟨_, h1, fun d' c' v' hl => ?_⟩
      have := h2 _ _ _ hl
      rw [lk_cons, if_neg fun e => by rw [e] at hm; rw [hm] at this; cases this.2.1]
      exact this
/-- A slot is written. -/
def putK (tb : Tb) (s : Sl) (d c : Nat) (v : AV) (K : Tb → Sl → Prop) : Prop := match tb with
  | [] => K [] ((d, c, v) :: s)
  | t :: tb => match lk s d with
    | none => K (t :: tb) ((d, c, v) :: s)
    | some _ => match c with
      | 0 => uncK s fun s => K [] ((d, 0, v) :: s)
      | _ => False
def appK : Os → Os → (Os → Prop) → Prop
  | [], o, K => K o
  | x :: l, o, K => appK l o fun r => K (x :: r)
theorem appK_ok : ∀ {l o : Os} {K : Os → Prop}, appK l o K → K (l ++ o)
  | [], o, K, h => h
  | x :: l, o, K, h => appK_ok (l := l) h
def addX (P : Program) (T : TT) (n : Nat) (ops : Array Oper) (dst : Option Nat) (tb : Tb) (s : Sl) (o : Os) (c : Nat) (op : Op) (F : Tb → Sl → Os → Prop) : Prop := match dst with
  | some d => match Nat.blt d n with
    | true => add1 P T ops tb s o c d op fun v no => match freshs no s o && (Nat.beq c 0 || no.isEmpty) with
      | true => putK tb s d c v fun tb s => appK no o fun o => F tb s o
      | false => False
    | false => False
  | none => add1 P T ops tb s o c 0 op fun v no => match no with
    | [] => F tb s o
    | _ => False
/-- A call that changes what it is handed. -/
def mutX (P : Program) (n : Nat) (dst : Option Nat) (tb : Tb) (s : Sl) (o : Os) (f : FuncId) (vs : List AV) (F : Tb → Sl → Os → Prop) : Prop := match dst with
  | some d => match Nat.blt d n with
    | true => CallM P s o f vs fun r o => putK tb s d 0 r fun tb s => F tb s o
    | false => False
  | none => CallM P s o f vs fun _ o => F tb s o
def callX (P : Program) (T : TT) (n : Nat) (ops : Array Oper) (dst : Option Nat) (tb : Tb) (s : Sl) (o : Os) (c : Nat) (x : Operand) (xs : Array Operand) (ts : Array TypeId) (F : Tb → Sl → Os → Prop) : Prop := match c with
  | 0 => get tb s 0 x fun v => funK v fun f cs => capK tb s 0 xs.toList fun vs => match noOwns vs && noOwns cs with
    | true => addX P T n ops dst tb s o 0 (.call ⟨.value x, xs, ts⟩) F
    | false => CallW (addX P T n ops dst tb s o 0 (.call ⟨.value x, xs, ts⟩) F) (mutX P n dst tb s o f (vs ++ cs) F)
  | c => addX P T n ops dst tb s o c (.call ⟨.value x, xs, ts⟩) F
def ifNil (tb : Tb) (K : Prop) : Prop := match tb with
  | [] => K
  | _ => False
theorem ifNil_ok {tb : Tb} {K : Prop} (h : ifNil tb K) : tb = [] ∧ K := by
  unfold ifNil at h
  split at h
  · exact ⟨rfl, h⟩
  · cases h
def ownR (s : Sl) (x : Operand) : Bool := match opA s x with
  | some (_, .orow _ _ _ _) => true
  | _ => false
def exec (P : Program) (T : TT) (n : Nat) (ops : Array Oper) : List Oper → Tb → Sl → Os → (Sl → Os → Prop) → Prop
  | [], tb, s, o, K => match tb with
    | [] => K s o
    | _ => uncK s fun s => K s o
  | p :: rest, tb, s, o, K => preK p tb s o fun s o => gval ops tb s p.guard fun tb c => match p.op with
    | .store t x y => match p.dst, c with
      | none, 0 => withT T t fun ti => get tb s 0 x fun u => get tb s 0 y fun v => match treeV o u with
        | true => match v with
          | .orow d e' 0 n' => ifNil tb (storeO ti s o u d e' n' fun s o => exec P T n ops rest [] s o K)
          | _ => storeT ti o u v fun o => exec P T n ops rest tb s o K
        | false => storeA ti o u v fun o => exec P T n ops rest tb s o K
      | _, _ => False
    | .mapUpdate t x y z => match p.dst, c with
      | none, 0 => withT T t fun ti => get tb s 0 x fun u => get tb s 0 y fun v => get tb s 0 z fun q => mupA P ti o u v q fun o => exec P T n ops rest tb s o K
      | _, _ => False
    | .insert t x y z => match p.dst, c with
      | none, 0 => withT T t fun ti => get tb s 0 x fun u => get tb s 0 y fun v => get tb s 0 z fun q => mupA P ti o u v q fun o => exec P T n ops rest tb s o K
      | _, _ => False
    | .slice t x (some lo) hi none => match ownR s x with
      | true => match p.dst, c with
        | some d, 0 => match Nat.blt d n with
          | true => withT T t fun ti => get tb s 0 x fun u => get tb s 0 lo fun v => getO tb s 0 hi fun q => sloA ti s o d u v q fun r o => putK tb s d 0 r fun tb s => exec P T n ops rest tb s o K
          | false => False
        | _, _ => False
      | false => addX P T n ops p.dst tb s o c (.slice t x (some lo) hi none) fun tb s o => exec P T n ops rest tb s o K
    | .call ⟨.builtin .append, xs, ts⟩ => match p.dst, c, xs.toList, ts.toList with
      | some d, 0, [x, y], [t, t'] => match Nat.blt d n with
        | true => withT T t fun ti => withT T t' fun ti' => match ti'.el with
          | some _ => get tb s 0 x fun u => get tb s 0 y fun v => appA false ti s o d u v fun r o => putK tb s d 0 r fun tb s => exec P T n ops rest tb s o K
          | none => match ti'.str with
            | true => get tb s 0 x fun u => get tb s 0 y fun v => appA true ti s o d u v fun r o => putK tb s d 0 r fun tb s => exec P T n ops rest tb s o K
            | false => False
        | false => False
      | _, _, _, _ => False
    | .call ⟨.value x, xs, ts⟩ => callX P T n ops p.dst tb s o c x xs ts fun tb s o => exec P T n ops rest tb s o K
    | op => addX P T n ops p.dst tb s o c op fun tb s o => exec P T n ops rest tb s o K
section
variable {P : Program} {T : TT} {ops : Array Oper} {tb : Tb} {s : Sl} {o : Os} {c d n : Nat}
theorem Cond.wanted {E : Env} {β : Nat → Wt} {a : Act} {w : World} {p : Oper} (h : Cond ops tb s p.guard c) (hgi : GI ops tb s) (hg : Gam E tb s o β a w) : Region.wanted p (yielded ops a.tmps) = tg tb c := by
  unfold Region.wanted
  rcases h.read with ⟨h1, rfl⟩ | ⟨j, wt, h1, rfl, h3⟩
  · rw [h1]; exact (tg_zero hg.tbok).symm
  · rw [h1]
    obtain ⟨p', q, hq⟩ := lkS_iff.1 h3
    obtain ⟨t, b, e1, e2, e3⟩ := hgi _ _ _ _ hq
    obtain ⟨u, e4, e5⟩ := hg.slots _ _ _ e2
    have e6 : tg tb (cn j wt) = q := by unfold tg; rw [hq]
    rw [e6, e3]
    simp only [yielded, e1, Option.bind_some, e4]
    cases hp : tg tb p' with
    | true =>
      rw [hp] at e5
      have := e5 rfl
      unfold rel at this
      subst this
      cases b <;> cases wt <;> simp [gv]
    | false => simp [gv, undef]
/-- The table of conditions, kept with what it says. -/
structure TInv (ops : Array Oper) (tb : Tb) (s : Sl) : Prop where
  gi : GI ops tb s
  reg : Reg tb s
theorem TInv.nil (hs : ∀ d c v, lk s d = some (c, v) → c = 0) : TInv ops [] s := ⟨fun j w p q h => by simp [lk] at h, fun d c v h => .inl (hs d c v h)⟩
theorem TbOk.nil : TbOk [] := ⟨fun c p x h => by simp [lk] at h, rfl, fun c p x h => by simp [lk] at h⟩
theorem TInv.put {v : AV} (h : TInv ops tb s) (hd : lk s d = none) (hc : c = 0 ∨ lkS tb c = true) : TInv ops tb ((d, c, v) :: s) := by
  refine ⟨fun j w p q hx => ?_, fun d' c' v' hl => ?_⟩
  · obtain ⟨t, b, e1, e2, e3⟩ := h.gi j w p q hx
    exact ⟨t, b, e1, by rw [lk_cons, if_neg fun e => by rw [e, e2] at hd; cases hd]; exact e2, e3⟩
  · rw [lk_cons] at hl
    split at hl
    · cases hl; exact hc
    · exact h.reg _ _ _ hl
theorem TInv.zero (h : TInv ops [] s) : ∀ d c v, lk s d = some (c, v) → c = 0 := fun d c v hl => by
  rcases h.reg d c v hl with h0 | h0
  · exact h0
  · cases h0
theorem putK_ok {v : AV} {K : Tb → Sl → Prop} (hi : TInv ops tb s) (hc : c = 0 ∨ lkS tb c = true) (h : putK tb s d c v K) :
    ∃ tb' s', K tb' s' ∧ TInv ops tb' s' ∧ ∀ (E : Env) (o : Os) (β : Nat → Wt) (a : Act) (w : World), Gam E tb ((d, c, v) :: s) o β a w → Gam E tb' s' o β a w := by
  unfold putK at h
  split at h
  · refine ⟨_, _, h, ⟨fun j w p q hx => by simp [lk] at hx, fun d' c' v' hl => ?_⟩, fun E o β a w hg => hg⟩
    rw [lk_cons] at hl
    split at hl
    · cases hl
      rcases hc with h0 | h0
      · exact .inl h0
      · cases h0
    · exact hi.reg _ _ _ hl
  · split at h
    · rename_i hn; exact ⟨_, _, h, hi.put hn hc, fun E o β a w hg => hg⟩
    · split at h
      · rename_i t tb _ _ _
        obtain ⟨s', h1, h2⟩ := uncK_ok h
        refine ⟨_, _, h1, TInv.nil fun d' c' v' hl => ?_, fun E o β a w hg => hg.slotsTo TbOk.nil fun d' c' v' hl => ?_⟩
        · rw [lk_cons] at hl
          split at hl
          · cases hl; rfl
          · exact (h2 _ _ _ hl).1
        · have key : c' = 0 ∧ lk ((d, 0, v) :: s) d' = some (c', v') := by
            rw [lk_cons] at hl ⊢
            split at hl
            · rename_i e; cases hl; exact ⟨rfl, by rw [if_pos e]⟩
            · rename_i e; rw [if_neg e]; exact h2 _ _ _ hl
          obtain ⟨rfl, key⟩ := key
          obtain ⟨u, e1, e2⟩ := hg.slots _ _ _ key
          rw [tg_zero hg.tbok] at e1
          rw [tg_zero TbOk.nil]
          exact ⟨u, e1, fun _ => e2 (tg_zero hg.tbok)⟩
      · cases h
theorem put_none (a : Act) (v : Value) : a.put none v = a := rfl
/-- An operation that adds, carried out or not. -/
theorem Add.step {E : Env} {β : Nat → Wt} {a : Act} {w : World} {p : Oper} {v : AV} {no : Os} {K : Act → World → Prop} {Q : Exit → Act → World → Prop} (h : Add P tb s o c p.dst p.op v no) (hgi : GI ops tb s) (hcond : Cond ops tb s p.guard c) (hf : freshs no s o = true) (hc : (Nat.beq c 0 || no.isEmpty) = true)
    (hg : Gam E tb s o β a w) (hK : ∀ u w' β', Gam E tb s (no ++ o) β' a w' → (tg tb c = true → rel (E.good (no ++ o) β') β' w' v u) → K (a.put p.dst (gv (tg tb c) u)) w') :
    if Region.wanted p (yielded ops a.tmps) then p.wp P a w K Q ∨ (p.asks P a w ∧ LetsOut Q) else K (a.put p.dst undef) w := by
  rw [hcond.wanted hgi hg]
  cases ht : tg tb c with
  | true =>
    rw [if_pos rfl]
    refine .inl ?_
    obtain ⟨dst, op, ty, pos, after, gu⟩ := p
    refine h E tb s o β a w (Ext.refl _) (fun _ _ _ _ => rfl) (fun _ _ h => h) (freshs_all hf) hg ht ht ty pos after gu K Q fun u w' β' h1 h2 => ?_
    have := hK u w' β' h1 fun _ => h2
    rw [ht] at this
    exact this
  | false =>
    rw [if_neg (by simp)]
    have hno : no = [] := by
      simp only [Bool.or_eq_true] at hc
      rcases hc with h0 | h0
      · rw [Nat.eq_of_beq_eq_true h0, tg_zero hg.tbok] at ht; cases ht
      · cases no with
        | nil => rfl
        | cons x l => cases h0
    subst hno
    have := hK undef w β hg fun h => by rw [ht] at h; cases h
    rw [ht] at this
    exact this
theorem exec_ok (hT : TTok P T) : ∀ {rest : List Oper} {tb : Tb} {s : Sl} {o : Os} {K : Sl → Os → Prop}, TbOk tb → TInv ops tb s → exec P T n ops rest tb s o K → ∀ {E : Env} {Q : Exit → Act → World → Prop}, E.n = n → (∀ s' o', K s' o' → ∀ β a w, Gam E [] s' o' β a w → Q .normal a w) →
    ∀ β a w, Gam E tb s o β a w → wpList P ops Q rest a w
  | [], tb, s, o, K, ht, hi, h, E, Q, hn, hQ, β, a, w, hg => by
    simp only [exec] at h
    unfold wpList
    split at h
    · exact hQ _ _ h β a w hg
    · obtain ⟨s', h1, h2⟩ := uncK_ok h
      refine hQ _ _ h1 β a w (hg.slotsTo TbOk.nil fun d' c' v' hl => ?_)
      obtain ⟨rfl, key⟩ := h2 _ _ _ hl
      obtain ⟨u, e1, e2⟩ := hg.slots _ _ _ key
      rw [tg_zero hg.tbok] at e1
      rw [tg_zero TbOk.nil]
      exact ⟨u, e1, fun _ => e2 (tg_zero hg.tbok)⟩
  | p :: rest, tb0, s, o, K, ht, hi, h, E, Q, hn, hQ, β, a, w, hg0 => by
    simp only [exec] at h
    have hpre := preK_ok h
    clear h
    obtain ⟨s, o, h, hs0, hs1, hgm⟩ := hpre
    obtain ⟨β1, hg1⟩ := hgm E β a w hg0
    clear hg0
    have hg0 := hg1
    clear hg1
    generalize β1 = β at hg0
    have hi : TInv ops tb0 s := by
      cases tb0 with
      | nil => exact TInv.nil (fun d c v hl => (hs1 d c v hl).elim fun v' hv => hi.zero d c v' hv)
      | cons x l => rw [hs0 (by simp)]; exact hi
    clear hs0 hs1 hgm
    have h0 := gval_ok ht hi.gi hi.reg h
    clear h
    obtain ⟨tb, c, h, hext, ht', hgi, hreg, hcond, hcreg⟩ := h0
    have hi' : TInv ops tb s := ⟨hgi, hreg⟩
    have hg : Gam E tb s o β a w := hg0.slotsTo ht' fun d c v hl => by
      obtain ⟨u, e1, e2⟩ := hg0.slots d c v hl
      have : tg tb c = tg tb0 c := by
        rcases hi.reg d c v hl with h0 | h0
        · rw [h0, tg_zero ht', tg_zero ht]
        · obtain ⟨p', q', h1⟩ := lkS_iff.1 h0
          unfold tg; rw [h1, hext _ _ h1]
      rw [this]; exact ⟨u, e1, e2⟩
    unfold wpList
    have hwant := hcond.wanted hgi hg
    -- what a turning operation asks
    have turn : ∀ {s' : Sl} {o' : Os}, c = 0 → (∀ d, p.dst = some d → d < n) → Mut P tb s o p s' o' → (∀ β' a' w', Gam E tb s' o' β' a' w' → wpList P ops Q rest a' w') → if Region.wanted p (yielded ops a.tmps) then p.wp P a w (wpList P ops Q rest) Q ∨ (p.asks P a w ∧ LetsOut Q) else wpList P ops Q rest (a.put p.dst undef) w := fun {s' o'} hc hd hm hk => by
      rw [hwant, hc, tg_zero hg.tbok, if_pos rfl]
      exact .inl (hm E β a w hg (fun d hd' => by rw [hn]; exact hd d hd') _ _ fun a' w' β' hg' => hk β' a' w' hg')
    -- what an adding one does
    have adds : ∀ {op : Op}, p.op = op → addX P T n ops p.dst tb s o c op (fun tb s o => exec P T n ops rest tb s o K) → if Region.wanted p (yielded ops a.tmps) then p.wp P a w (wpList P ops Q rest) Q ∨ (p.asks P a w ∧ LetsOut Q) else wpList P ops Q rest (a.put p.dst undef) w := fun {op} hop h => by
      unfold addX at h
      split at h
      · rename_i d hd
        split at h
        · rename_i hlt
          have hlt : d < n := by simpa [Nat.blt_eq] using hlt
          obtain ⟨v, no, h, hadd⟩ := add1_ok (dst := p.dst) hT ht' hgi h
          split at h
          · rename_i hb
            simp only [Bool.and_eq_true] at hb
            rw [← hop] at hadd
            obtain ⟨tb2, s2, h, hi2, hgo⟩ := putK_ok hi' hcreg h
            have h := appK_ok h
            refine hadd.step hgi hcond hb.1 hb.2 hg fun u w' β' hg' hr => ?_
            rw [hd]
            have hg2 := hgo E _ β' _ w' (hg'.put (by rw [hn]; exact hlt) hr)
            exact exec_ok hT hg2.tbok hi2 h hn hQ _ _ _ hg2
          · cases h
        · cases h
      · rename_i hd
        obtain ⟨v, no, h, hadd⟩ := add1_ok (dst := p.dst) hT ht' hgi h
        split at h
        · rw [← hop] at hadd
          refine hadd.step hgi hcond rfl (by simp) hg fun u w' β' hg' hr => ?_
          rw [hd, put_none]
          exact exec_ok hT ht' hi' h hn hQ _ _ _ hg'
        · cases h
    split at h
    · rename_i t x y hop
      split at h
      · rename_i hd
        obtain ⟨ti, h, hti⟩ := withT_ok hT h
        obtain ⟨u, h, hx⟩ := get_ok h
        obtain ⟨v, h, hy⟩ := get_ok h
        obtain ⟨pd, pop, pty, ppos, paf, pgu⟩ := p
        simp only at hop hd
        subst hop hd
        split at h
        · split at h
          · obtain ⟨htb, h⟩ := ifNil_ok h
            obtain ⟨s', o', hk3, hs', hm⟩ := storeO_ok (tb := tb) (s := s) (ty := pty) (pos := ppos) (after := paf) (gu := pgu) hti hx hy h
            refine turn rfl (fun d hd => by cases hd) hm fun β' a' w' hg' => ?_
            subst htb
            exact exec_ok hT TbOk.nil (TInv.nil fun d c v hl => hi'.zero d c v (hs' _ _ _ hl)) hk3 hn hQ _ _ _ hg'
          · obtain ⟨o', h, hm⟩ := storeT_ok (tb := tb) (s := s) (ty := pty) (pos := ppos) (after := paf) (gu := pgu) hti hx hy h
            exact turn rfl (fun d hd => by cases hd) hm fun β' a' w' hg' => exec_ok hT ht' hi' h hn hQ _ _ _ hg'
        · obtain ⟨o', h, hm⟩ := storeA_ok (tb := tb) (s := s) (ty := pty) (pos := ppos) (after := paf) (gu := pgu) hti hx hy h
          exact turn rfl (fun d hd => by cases hd) hm fun β' a' w' hg' => exec_ok hT ht' hi' h hn hQ _ _ _ hg'
      · cases h
    · rename_i t x y z hop
      split at h
      · rename_i hd
        obtain ⟨ti, h, hti⟩ := withT_ok hT h
        obtain ⟨u, h, hx⟩ := get_ok h
        obtain ⟨v, h, hy⟩ := get_ok h
        obtain ⟨q, h, hz⟩ := get_ok h
        obtain ⟨pd, pop, pty, ppos, paf, pgu⟩ := p
        simp only at hop hd
        subst hop hd
        obtain ⟨o', h, hm⟩ := mupA_ok (tb := tb) (s := s) (ty := pty) (pos := ppos) (after := paf) (gu := pgu) (.inl rfl) hti hx hy hz h
        exact turn rfl (fun d hd => by cases hd) hm fun β' a' w' hg' => exec_ok hT ht' hi' h hn hQ _ _ _ hg'
      · cases h
    · rename_i t x y z hop
      split at h
      · rename_i hd
        obtain ⟨ti, h, hti⟩ := withT_ok hT h
        obtain ⟨u, h, hx⟩ := get_ok h
        obtain ⟨v, h, hy⟩ := get_ok h
        obtain ⟨q, h, hz⟩ := get_ok h
        obtain ⟨pd, pop, pty, ppos, paf, pgu⟩ := p
        simp only at hop hd
        subst hop hd
        obtain ⟨o', h, hm⟩ := mupA_ok (tb := tb) (s := s) (ty := pty) (pos := ppos) (after := paf) (gu := pgu) (.inr rfl) hti hx hy hz h
        exact turn rfl (fun d hd => by cases hd) hm fun β' a' w' hg' => exec_ok hT ht' hi' h hn hQ _ _ _ hg'
      · cases h
    · rename_i t x lo hi hop
      split at h
      · split at h
        · rename_i d hd
          split at h
          · rename_i hlt
            have hlt : d < n := by simpa [Nat.blt_eq] using hlt
            obtain ⟨ti, h, hti⟩ := withT_ok hT h
            obtain ⟨u, h, hx⟩ := get_ok h
            obtain ⟨v, h, hlo⟩ := get_ok h
            obtain ⟨q, h, hhi⟩ := getO_ok h
            obtain ⟨pd, pop, pty, ppos, paf, pgu⟩ := p
            simp only at hop hd
            subst hop hd
            obtain ⟨r, o', h, hm⟩ := sloA_ok (tb := tb) (s := s) (ty := pty) (pos := ppos) (after := paf) (gu := pgu) hti hx hlo hhi h
            obtain ⟨tb2, s2, h, hi2, hgo⟩ := putK_ok hi' (.inl rfl) h
            refine turn rfl (fun d hd => by cases hd; exact hlt) hm fun β' a' w' hg' => ?_
            have hg2 := hgo E _ β' _ w' hg'
            exact exec_ok hT hg2.tbok hi2 h hn hQ _ _ _ hg2
          · cases h
        · cases h
      · exact adds hop h
    · rename_i xs ts hop
      split at h
      · rename_i d x y t t' hd hxs hts
        split at h
        · rename_i hlt
          have hlt : d < n := by simpa [Nat.blt_eq] using hlt
          obtain ⟨ti, h, hti⟩ := withT_ok hT h
          obtain ⟨ti', h, hti'⟩ := withT_ok hT h
          split at h
          · rename_i q hel
            obtain ⟨u, h, hx⟩ := get_ok h
            obtain ⟨v, h, hy⟩ := get_ok h
            obtain ⟨pd, pop, pty, ppos, paf, pgu⟩ := p
            simp only at hop hd
            have e1 := congrArg List.toArray hxs
            have e2 := congrArg List.toArray hts
            rw [toA] at e1 e2
            subst hop hd e1 e2
            obtain ⟨r, o', h, hm⟩ := appA_ok (tb := tb) (s := s) (ty := pty) (pos := ppos) (after := paf) (gu := pgu) hti (show kindS P _ false from ⟨_, (hti'.el q.1 q.2.1 q.2.2 hel).1⟩) hx hy h
            obtain ⟨tb2, s2, h, hi2, hgo⟩ := putK_ok hi' (.inl rfl) h
            refine turn rfl (fun d hd => by cases hd; exact hlt) hm fun β' a' w' hg' => ?_
            have hg2 := hgo E _ β' _ w' hg'
            exact exec_ok hT hg2.tbok hi2 h hn hQ _ _ _ hg2
          · split at h
            · rename_i hst
              obtain ⟨u, h, hx⟩ := get_ok h
              obtain ⟨v, h, hy⟩ := get_ok h
              obtain ⟨pd, pop, pty, ppos, paf, pgu⟩ := p
              simp only at hop hd
              have e1 := congrArg List.toArray hxs
              have e2 := congrArg List.toArray hts
              rw [toA] at e1 e2
              subst hop hd e1 e2
              obtain ⟨r, o', h, hm⟩ := appA_ok (tb := tb) (s := s) (ty := pty) (pos := ppos) (after := paf) (gu := pgu) hti (show kindS P _ true from hti'.str hst) hx hy h
              obtain ⟨tb2, s2, h, hi2, hgo⟩ := putK_ok hi' (.inl rfl) h
              refine turn rfl (fun d hd => by cases hd; exact hlt) hm fun β' a' w' hg' => ?_
              have hg2 := hgo E _ β' _ w' hg'
              exact exec_ok hT hg2.tbok hi2 h hn hQ _ _ _ hg2
            · cases h
        · cases h
      · cases h
    · rename_i x xs ts hop
      have adds' := adds hop
      unfold callX at h
      split at h
      · obtain ⟨v, h, hx⟩ := get_ok h
        cases v with
        | clo f cs =>
          obtain ⟨vs, h, hvs⟩ := capK_ok h
          split at h
          · exact adds' h
          · cases h with
            | lent h => exact adds' h
            | chg h =>
              have key : ∀ {G : AV → Os → Prop} {L : Act → World → Prop}, CallM P s o f (vs ++ cs) G → (∀ r o', G r o' → ∀ u w' β', Gam E tb s o' β' a w' → rel (E.good o' β') β' w' r u → L (a.put p.dst u) w') → p.wp P a w L Q := fun {G L} hC hL => by
                obtain @⟨fx, os, r, no, hsub, hchk, hsp, k⟩ := hC
                obtain ⟨henter, hclo, hcall⟩ := hsp
                simp only [Bool.and_eq_true] at hchk
                have hv := hx.eval hg (tg_zero hg.tbok)
                have hargs := hvs (E.good o β) β w a fun x' v' hx' hv' => hv'.eval hg (tg_zero hg.tbok)
                unfold rel at hv
                obtain ⟨cus, e1, e2⟩ := hv
                obtain ⟨pd, pop, pty, ppos, paf, pgu⟩ := p
                simp only at hop
                subst hop
                unfold Oper.wp
                rw [← toA (xs := xs), run_enter henter e1 rfl, Oper.upon_enter]
                have hko := nodN_ok hchk.1
                have hg1 : Gam E tb s (unP os o) β a w := hg.unpin
                have hsub1 : subO (unP os o) os := subP_subO hsub fun p hp => by rw [lk_key hp hko]; rfl
                have hgood : E.good (unP os o) β = E.good o β := by unfold Env.good; rw [feet_same (β := β) (unP_keys (os := os) (o := o))]
                obtain ⟨hob, hap⟩ := OB.of hg1 hsub1 hko
                rw [hgood] at hob hap
                refine (hcall (E.good o β) β w _ hob hap (rels_app hargs e2) hg.vars).mono ?_
                rintro e w' ⟨q, β', rfl, hb, h1, h2, h3, h4, h6, h5⟩
                rw [← hgood] at h1 h5
                have hch := hg1.changed hsub1 hko (by rw [dropO_unP]; exact hchk.2.1) (by rw [dropO_unP]; exact hchk.2.2) hb h1 h2 h3 h4 h6 h5 hclo
                rw [dropO_unP] at hch
                obtain ⟨β2, g1, g2, g3⟩ := hch
                have g4 := hg.repin (os := os) g1 g3
                refine hL r _ k q w' β2 g4 ?_
                have hgood2 : E.good (rePin o os no ++ dropO os o) β2 = E.good (no ++ dropO os o) β2 := by unfold Env.good; rw [feet_same (β := β2) (show (rePin o os no ++ dropO os o).map (·.1) = (no ++ dropO os o).map (·.1) by rw [List.map_append, List.map_append, rePin_keys])]
                rw [hgood2]; exact g2
              rw [hwant, tg_zero hg.tbok, if_pos rfl]
              unfold mutX at h
              split at h
              · rename_i d hd
                split at h
                · rename_i hlt
                  have hlt : d < n := by simpa [Nat.blt_eq] using hlt
                  refine .inl (key h fun r o' h u w' β' hg' hr => ?_)
                  rw [hd]
                  obtain ⟨tb2, s2, h, hi2, hgo⟩ := putK_ok hi' (.inl rfl) h
                  have hg2 := hgo E _ β' _ w' (by
                    have := hg'.put (d := d) (c := 0) (by rw [hn]; exact hlt) fun _ => hr
                    rw [tg_zero hg'.tbok] at this
                    exact this)
                  exact exec_ok hT hg2.tbok hi2 h hn hQ _ _ _ hg2
                · cases h
              · rename_i hd
                refine .inl (key h fun r o' h u w' β' hg' hr => ?_)
                rw [hd, put_none]
                exact exec_ok hT ht' hi' h hn hQ _ _ _ hg'
        | _ => cases h
      · exact adds' h
    · rename_i op hop1 hop2 hop3 hop4 hop5
      exact adds rfl h
end
end Go.Proofs.Ytecknkgiaahheaa

/- Regions that draw the order of their operations. -/
namespace Go.Proofs.Ytecknkgiaahheaa
open Go.RowKit
set_option linter.unusedVariables false
set_option linter.unusedSimpArgs false
/-- What one operation of a region's head gives. -/
structure HRec where
  d : Nat
  c : Nat
  v : AV
  no : Os
def edgeB (ops : Array Oper) (i j : Nat) : Bool := match ops[i]? with
  | some p => p.after.toList.any fun e => Nat.beq e.on j && Region.binds .any e
  | none => false
def backB (ops : Array Oper) : Bool := (List.range ops.size).all fun i => match ops[i]? with
  | some p => p.after.toList.all fun e => !Region.binds .any e || Nat.blt e.on i
  | none => true
def dstB (ops : Array Oper) (j t : Nat) : Bool := match ops[j]? with
  | some p => match p.dst with
    | some t' => Nat.beq t' t
    | none => false
  | none => false
def useB (ops : Array Oper) (n : Nat) : Bool := (List.range n).all fun i => match ops[i]? with
  | some p => (p.op.operands.toList.all fun x => (tmpO x).all fun t => (List.range n).all fun j => !dstB ops j t || (Nat.blt j i && edgeB ops i j)) && (match p.guard with
    | none => true
    | some (j, _) => Nat.blt j i && edgeB ops i j)
  | none => true
def fullA (n g : Nat) : Array Bool := Array.replicate n true ++ Array.replicate g false
def drawB (ops : Array Oper) (n : Nat) : Bool :=
  Nat.ble n ops.size && (Nat.ble ops.size n || Region.sinkB .any ops n) && Region.chainB .any ops n && backB ops && useB ops n && Region.seqB .any ops (ops.size - n) n (fullA n (ops.size - n))
/-- Is a slot an operand of some operation? -/
def usedB (t : Nat) : List Oper → Bool
  | [] => false
  | p :: l => (p.op.operands.toList.any fun x => (tmpO x).any fun t' => Nat.beq t' t) || usedB t l
/-- The operations that come in any order; an assign to a slot that nobody here reads is one of them. -/
def headN (ops : List Oper) : List Oper → Nat
  | [] => 0
  | p :: rest => match p.dst with
    | none => 0
    | some d => match p.op with
      | .assign _ => bif usedB d ops then 0 else headN ops rest + 1
      | .call ⟨.builtin .append, _, _⟩ => 0
      | _ => headN ops rest + 1
/-- The slots that are written so. -/
def asgN (ops : List Oper) : Nat → List Oper → (List Nat → Prop) → Prop
  | 0, _, K => K []
  | _ + 1, [], K => K []
  | n + 1, p :: rest, K => match p.op with
    | .assign _ => match p.dst with
      | some d => asgN ops n rest fun l => K (d :: l)
      | none => asgN ops n rest K
    | _ => asgN ops n rest K
theorem asgN_ok {ops : List Oper} : ∀ {n : Nat} {l : List Oper} {K : List Nat → Prop}, asgN ops n l K → ∃ ds, K ds
  | 0, _, K, h => ⟨_, h⟩
  | _ + 1, [], K, h => ⟨_, h⟩
  | n + 1, p :: rest, K, h => by
    simp only [asgN] at h
    split at h
    · split at h
      · obtain ⟨ds, h⟩ := asgN_ok h; exact ⟨_, h⟩
      · exact asgN_ok h
    · exact asgN_ok h
def minK (ds : List Nat) : List Nat → (List Nat → Prop) → Prop
  | [], K => K []
  | k :: l, K => match memN k ds with
    | true => minK ds l K
    | false => minK ds l fun r => K (k :: r)
theorem minK_ok {ds : List Nat} : ∀ {l : List Nat} {K : List Nat → Prop}, minK ds l K → ∃ r, K r
  | [], K, h => ⟨_, h⟩
  | k :: l, K, h => by
    simp only [minK] at h
    split at h
    · exact minK_ok h
    · obtain ⟨r, h⟩ := minK_ok h; exact ⟨_, h⟩
def headK (P : Program) (T : TT) (n : Nat) (ops : Array Oper) (o : Os) : Nat → List Oper → Tb → Sl → List HRec → (List Oper → Tb → Sl → List HRec → Prop) → Prop
  | 0, l, tb, s, acc, K => K l tb s acc
  | _ + 1, [], _, _, _, _ => False
  | f + 1, p :: rest, tb, s, acc, K => gval ops tb s p.guard fun tb c => match p.dst with
    | some d => match Nat.blt d n && !(lkS0 s d) with
      | true => add1 P T ops tb s o c d p.op fun v no => match Nat.beq c 0 || no.isEmpty with
        | true => headK P T n ops o f rest tb ((d, c, v) :: s) (⟨d, c, v, no⟩ :: acc) K
        | false => False
      | false => False
    | none => False
where lkS0 (s : Sl) (d : Nat) : Bool := match lk s d with
  | some _ => true
  | none => false
/-- Operations that make no new object and leave the memory alone. -/
def clsB : Op → Bool
  | .move _ => true
  | .assign _ => true
  | .extract _ _ => true
  | .fieldAddr _ _ _ => true
  | .indexAddr _ _ _ => true
  | .load _ _ => true
  | _ => false
theorem add1v_ok {P : Program} {T : TT} {ops : Array Oper} {tb : Tb} {s : Sl} {o : Os} {c d : Nat} {op : Op} {K : AV → Os → Prop} (hT : TTok P T) (hc : clsB op = true) (h : add1 P T ops tb s o c d op K) : ∃ r, K r [] ∧ Val P tb s o c op r := by
  cases op <;> simp only [clsB, Bool.false_eq_true, reduceCtorEq] at hc
  case move => obtain ⟨v, h, hx⟩ := get_ok h; exact ⟨v, force_ok h, move_ok hx⟩
  case assign => obtain ⟨v, h, hx⟩ := get_ok h; exact ⟨v, force_ok h, assign_ok hx⟩
  case load =>
    obtain ⟨ti, h, hti⟩ := withT_ok hT h
    obtain ⟨v, h, hx⟩ := get_ok h
    split at h
    · obtain ⟨r, h, hv⟩ := loadT_ok hti hx h; exact ⟨r, h, hv⟩
    · obtain ⟨r, h, hv⟩ := loadA_ok hti hx h; exact ⟨r, h, hv⟩
  case fieldAddr =>
    obtain ⟨ti, h, hti⟩ := withT_ok hT h
    obtain ⟨v, h, hx⟩ := get_ok h
    split at h
    · obtain ⟨r, h, hv⟩ := fldT_ok (o := o) hti hx h; exact ⟨r, h, hv⟩
    · obtain ⟨r, h, hv⟩ := fldA_ok (o := o) hti hx h; exact ⟨r, h, hv⟩
  case indexAddr =>
    obtain ⟨ti, h, hti⟩ := withT_ok hT h
    obtain ⟨u, h, hx⟩ := get_ok h
    obtain ⟨v, h, hy⟩ := get_ok h
    split at h
    · obtain ⟨r, h, hv⟩ := idxT_ok hti hx hy h; exact ⟨r, h, hv⟩
    · obtain ⟨r, h, hv⟩ := idxA_ok hti hx hy h; exact ⟨r, h, hv⟩
  case extract => obtain ⟨v, h, hx⟩ := get_ok h; obtain ⟨r, h, hv⟩ := extA_ok (o := o) hx h; exact ⟨r, h, hv⟩
/-! ## A region's head in any order -/
inductive Run (P : Program) (ops : Array Oper) (n : Nat) (o : Os) : List Oper → Tb → Sl → List HRec → Tb → Sl → Prop
  | nil {tb s} : TbOk tb → TInv ops tb s → Run P ops n o [] tb s [] tb s
  | cons {p rest tb s tb1 c d v no recs tbF sF} : Ext tb tb1 → TbOk tb1 → TInv ops tb1 s → Cond ops tb1 s p.guard c → (c = 0 ∨ lkS tb1 c = true) → p.dst = some d → d < n → lk s d = none → Add P tb1 s o c (some d) p.op v no → (clsB p.op = true → no = [] ∧ Val P tb1 s o c p.op v) → (c = 0 ∨ no = []) →
      Run P ops n o rest tb1 ((d, c, v) :: s) recs tbF sF → Run P ops n o (p :: rest) tb s (⟨d, c, v, no⟩ :: recs) tbF sF
theorem headK_ok {P : Program} {T : TT} {n : Nat} {ops : Array Oper} {o : Os} (hT : TTok P T) : ∀ {f : Nat} {l : List Oper} {tb : Tb} {s : Sl} {acc : List HRec} {K : List Oper → Tb → Sl → List HRec → Prop}, TbOk tb → TInv ops tb s → headK P T n ops o f l tb s acc K →
    ∃ recs tbF sF, f ≤ l.length ∧ K (l.drop f) tbF sF (recs.reverse ++ acc) ∧ Run P ops n o (l.take f) tb s recs tbF sF
  | 0, l, tb, s, acc, K, ht, hi, h => ⟨[], tb, s, Nat.zero_le _, by simpa [headK] using h, by simpa using Run.nil ht hi⟩
  | f + 1, [], tb, s, acc, K, ht, hi, h => nomatch h
  | f + 1, p :: rest, tb, s, acc, K, ht, hi, h => by
    simp only [headK] at h
    have h0 := gval_ok ht hi.gi hi.reg h
    clear h
    obtain ⟨tb1, c, h, hext, ht', hgi, hreg, hcond, hcreg⟩ := h0
    split at h
    · rename_i d hd
      split at h
      · rename_i hb
        simp only [Bool.and_eq_true, Bool.not_eq_true'] at hb
        have hlt : d < n := by simpa [Nat.blt_eq] using hb.1
        have hnone : lk s d = none := by
          have := hb.2
          unfold headK.lkS0 at this
          split at this
          · cases this
          · assumption
        have hav : ∃ v no, (match Nat.beq c 0 || no.isEmpty with
          | true => headK P T n ops o f rest tb1 ((d, c, v) :: s) (⟨d, c, v, no⟩ :: acc) K
          | false => False) ∧ Add P tb1 s o c (some d) p.op v no ∧ (clsB p.op = true → no = [] ∧ Val P tb1 s o c p.op v) := by
          by_cases hcl : clsB p.op = true
          · obtain ⟨r, h, hv⟩ := add1v_ok hT hcl h
            exact ⟨r, [], h, hv.add, fun _ => ⟨rfl, hv⟩⟩
          · obtain ⟨v, no, h, hadd⟩ := add1_ok (dst := some d) hT ht' hgi h
            exact ⟨v, no, h, hadd, fun e => absurd e hcl⟩
        obtain ⟨v, no, h, hadd, hval⟩ := hav
        split at h
        · rename_i hno
          simp only [Bool.or_eq_true] at hno
          obtain ⟨recs, tbF, sF, h1, h2, h3⟩ := headK_ok hT (f := f) ht' (TInv.put ⟨hgi, hreg⟩ hnone hcreg) h
          refine ⟨⟨d, c, v, no⟩ :: recs, tbF, sF, Nat.succ_le_succ h1, by simpa using h2, .cons hext ht' ⟨hgi, hreg⟩ hcond hcreg hd hlt hnone hadd hval ?_ h3⟩
          rcases hno with q | q
          · exact .inl (Nat.eq_of_beq_eq_true q)
          · exact .inr (by cases no with
            | nil => rfl
            | cons => cases q)
        · cases h
      · cases h
    · cases h
/-- What is known when just the operations of L have been carried out. -/
def stS (L : Nat → Bool) : List HRec → Nat → Sl → Sl
  | [], _, s => s
  | r :: rs, k, s => stS L rs (k + 1) (bif L k then (r.d, r.c, r.v) :: s else s)
def stO (L : Nat → Bool) : List HRec → Nat → Os → Os
  | [], _, o => o
  | r :: rs, k, o => stO L rs (k + 1) (bif L k then r.no ++ o else o)
theorem stS_old {L : Nat → Bool} {t : Nat} : ∀ {recs : List HRec} {k : Nat} {s : Sl}, (∀ (i : Nat) (r : HRec), recs[i]? = some r → r.d = t → L (k + i) = false) → lk (stS L recs k s) t = lk s t
  | [], _, _, _ => rfl
  | r :: rs, k, s, h => by
    rw [stS, stS_old fun i r' hr hd => by have := h (i + 1) r' (by simpa using hr) hd; rw [show k + 1 + i = k + (i + 1) by omega]; exact this]
    have := h 0 r rfl
    cases hL : L k with
    | true =>
      rw [cond_true, lk_cons, if_neg fun e => by have := this e; rw [Nat.add_zero, hL] at this; cases this]
    | false => rfl
theorem stS_new {L : Nat → Bool} {t : Nat} : ∀ {recs : List HRec} {k : Nat} {s : Sl} {i : Nat} {r : HRec}, recs[i]? = some r → r.d = t → L (k + i) = true → (∀ (j : Nat) (r' : HRec), recs[j]? = some r' → r'.d = t → j = i) → lk (stS L recs k s) t = some (r.c, r.v)
  | [], _, _, _, _, h, _, _, _ => by simp at h
  | r0 :: rs, k, s, 0, r, h, hd, hL, hu => by
    simp at h
    subst h
    rw [stS, stS_old fun j r' hr hd' => by have := hu (j + 1) r' (by simpa using hr) hd'; omega]
    rw [Nat.add_zero] at hL
    rw [hL, cond_true, lk_cons, if_pos hd]
  | r0 :: rs, k, s, i + 1, r, h, hd, hL, hu => by
    rw [stS]
    refine stS_new (i := i) (by simpa using h) hd (by rw [show k + 1 + i = k + (i + 1) by omega]; exact hL) fun j r' hr hd' => ?_
    have := hu (j + 1) r' (by simpa using hr) hd'
    omega
theorem stO_congr {L L' : Nat → Bool} : ∀ {recs : List HRec} {k : Nat} {o : Os}, (∀ i, k ≤ i → L i = L' i) → stO L recs k o = stO L' recs k o
  | [], _, _, _ => rfl
  | r :: rs, k, o, h => by rw [stO, stO, h k (Nat.le_refl _), stO_congr fun i hi => h i (by omega)]
theorem stO_app {L : Nat → Bool} : ∀ {recs : List HRec} {k : Nat} {a o : Os}, (stO L recs k (a ++ o)).Perm (a ++ stO L recs k o)
  | [], _, _, _ => List.Perm.refl _
  | r :: rs, k, a, o => by
    rw [stO, stO]
    cases L k with
    | false => exact stO_app
    | true =>
      simp only [cond_true]
      have e1 := stO_app (L := L) (recs := rs) (k := k + 1) (a := r.no) (o := a ++ o)
      have e2 := stO_app (L := L) (recs := rs) (k := k + 1) (a := a) (o := o)
      have e3 := stO_app (L := L) (recs := rs) (k := k + 1) (a := r.no) (o := o)
      refine e1.trans ((List.Perm.append_left _ e2).trans ?_)
      refine List.Perm.trans ?_ (List.Perm.append_left _ e3.symm)
      rw [← List.append_assoc, ← List.append_assoc]
      exact List.perm_append_comm.append_right _
theorem stO_set {L : Nat → Bool} : ∀ {recs : List HRec} {k : Nat} {o : Os} {i : Nat} {r : HRec}, recs[i]? = some r → L (k + i) = false → (stO (fun j => bif Nat.beq (k + i) j then true else L j) recs k o).Perm (r.no ++ stO L recs k o)
  | [], _, _, _, _, h, _ => by simp at h
  | r0 :: rs, k, o, 0, r, h, hL => by
    simp at h
    subst h
    rw [Nat.add_zero] at hL
    rw [stO, stO, hL, Nat.add_zero]
    simp only [Nat.beq_refl, cond_true, cond_false]
    rw [stO_congr (L' := L) fun i hi => by
      have : Nat.beq k i = false := by rw [← Bool.not_eq_true]; simp; omega
      rw [this]; rfl]
    exact stO_app
  | r0 :: rs, k, o, i + 1, r, h, hL => by
    rw [stO, stO]
    have hk : Nat.beq (k + (i + 1)) k = false := by rw [← Bool.not_eq_true]; simp
    rw [hk, cond_false]
    have := stO_set (L := L) (recs := rs) (k := k + 1) (o := bif L k then r0.no ++ o else o) (i := i) (r := r) (by simpa using h) (by rw [show k + 1 + i = k + (i + 1) by omega]; exact hL)
    rw [show k + 1 + i = k + (i + 1) by omega] at this
    exact this
theorem Gam.permO {E : Env} {tb : Tb} {s : Sl} {o o' : Os} {β : Nat → Wt} {a : Act} {w : World} (hp : o.Perm o') (h : Gam E tb s o β a w) : Gam E tb s o' β a w := by
  have hf : (feet o β).Perm (feet o' β) := List.Perm.flatMap_right _ hp
  have hk : (o'.map (·.1)).Nodup := (hp.map (·.1)).nodup_iff.1 h.keys
  have hg : E.good o' β = E.good o β := by
    funext k; unfold Env.good; rw [hf.mem_iff]
  refine ⟨h.size, h.defers, h.tbok, by rw [hg]; exact h.slots, fun id ob hl => ?_, h.below, fun k hk => h.new k (hf.mem_iff.2 hk), hf.nodup_iff.1 h.nodup, hk⟩
  rw [hg]
  exact h.objs id ob (lk_key (hp.mem_iff.2 (lk_mem hl)) h.keys)
theorem Gam.sameS {E : Env} {tb : Tb} {s s' : Sl} {o : Os} {β : Nat → Wt} {a : Act} {w : World} (hs : ∀ t, lk s' t = lk s t) (h : Gam E tb s o β a w) : Gam E tb s' o β a w :=
  h.slotsTo h.tbok fun d c v hl => h.slots d c v (by rw [← hs]; exact hl)
/-- No number that one operation brings in is spoken of by another one that may come up ahead of it. -/
def cloB (ops : Array Oper) (n : Nat) : Nat → Nat → Nat → Bool
  | 0, _, _ => false
  | f + 1, j, i => edgeB ops j i || (List.range n).any fun k => edgeB ops j k && cloB ops n f k i
def recMen (d : Nat) (r : HRec) : Bool := men d r.v || omens d r.no
def newB (ops : Array Oper) (n : Nat) (recs : List HRec) : Bool := (List.range n).all fun i => match recs[i]? with
  | some r => match r.no with
    | [] => true
    | no => no.all fun p => (List.range n).all fun j => Nat.beq i j || match recs[j]? with
      | some r' => !recMen p.1 r' || cloB ops n n j i
      | none => true
  | none => true
def accO : List HRec → Os → Os
  | [], o => o
  | r :: rs, o => r.no ++ accO rs o
theorem accO_app : ∀ {a b : List HRec} {o : Os}, accO (a ++ b) o = accO a (accO b o)
  | [], b, o => rfl
  | r :: a, b, o => by rw [List.cons_append, accO, accO, accO_app]
theorem stO_full : ∀ {recs : List HRec} {k : Nat} {o : Os}, stO (fun _ => true) recs k o = accO recs.reverse o
  | [], _, _ => rfl
  | r :: rs, k, o => by rw [stO, cond_true, stO_full, List.reverse_cons, accO_app]; rfl
end Go.Proofs.Ytecknkgiaahheaa

/- Regions that draw the order of their operations: the whole. -/
namespace Go.Proofs.Ytecknkgiaahheaa
open Go.RowKit
set_option linter.unusedVariables false
set_option linter.unusedSimpArgs false
theorem stS_some {t : Nat} : ∀ {recs : List HRec} {k : Nat} {s : Sl}, (lk s t).isSome = true ∨ (∃ r ∈ recs, r.d = t) → (lk (stS (fun _ => true) recs k s) t).isSome = true
  | [], _, _, h => by
    rcases h with h | ⟨r, h, _⟩
    · exact h
    · cases h
  | r :: rs, k, s, h => by
    rw [stS, cond_true]
    refine stS_some ?_
    rw [lk_cons]
    rcases h with h | ⟨r', h, hd⟩
    · by_cases e : r.d = t
      · exact .inl (by rw [if_pos e]; rfl)
      · exact .inl (by rw [if_neg e]; exact h)
    · rcases List.mem_cons.1 h with rfl | h
      · exact .inl (by rw [if_pos hd]; rfl)
      · exact .inr ⟨r', h, hd⟩
structure HAt (P : Program) (ops : Array Oper) (n : Nat) (o : Os) (s : Sl) (tbF : Tb) (recs : List HRec) (i : Nat) (p : Oper) (r : HRec) : Prop where
  ex : ∃ tb1, Ext tb1 tbF ∧ TbOk tb1 ∧ TInv ops tb1 (stS (fun _ => true) (recs.take i) 0 s) ∧ Cond ops tb1 (stS (fun _ => true) (recs.take i) 0 s) p.guard r.c ∧ (r.c = 0 ∨ lkS tb1 r.c = true) ∧ Add P tb1 (stS (fun _ => true) (recs.take i) 0 s) o r.c (some r.d) p.op r.v r.no ∧ (clsB p.op = true → r.no = [] ∧ Val P tb1 (stS (fun _ => true) (recs.take i) 0 s) o r.c p.op r.v)
  dst : p.dst = some r.d
  lt : r.d < n
  fr : lk (stS (fun _ => true) (recs.take i) 0 s) r.d = none
  one : r.c = 0 ∨ r.no = []
theorem stS_k {recs : List HRec} {k k' : Nat} {s : Sl} : stS (fun _ => true) recs k s = stS (fun _ => true) recs k' s := by
  induction recs generalizing k k' s with
  | nil => rfl
  | cons r rs ih => rw [stS, stS, ih (k := k + 1) (k' := k' + 1)]
theorem Run.all {P : Program} {ops : Array Oper} {n : Nat} {o : Os} {l : List Oper} {tb tbF : Tb} {s sF : Sl} {recs : List HRec} (h : Run P ops n o l tb s recs tbF sF) :
    recs.length = l.length ∧ TbOk tbF ∧ TInv ops tbF sF ∧ Ext tb tbF ∧ sF = stS (fun _ => true) recs 0 s ∧ ∀ i p r, l[i]? = some p → recs[i]? = some r → HAt P ops n o s tbF recs i p r := by
  induction h with
  | nil h1 h2 => exact ⟨rfl, h1, h2, Ext.refl _, rfl, fun i p r h => by simp at h⟩
  | cons h1 h2 h3 h4 h5 h6 h7 h8 h9 hv h10 _ ih =>
    obtain ⟨i1, i2, i3, i4, i5, i6⟩ := ih
    refine ⟨by simp [i1], i2, i3, h1.trans i4, by rw [i5, stS, cond_true]; exact stS_k, fun i p r hp hr => ?_⟩
    cases i with
    | zero =>
      simp at hp hr
      subst hp hr
      exact ⟨⟨_, i4, h2, h3, h4, h5, h9, hv⟩, h6, h7, h8, h10⟩
    | succ i =>
      have := i6 i p r (by simpa using hp) (by simpa using hr)
      obtain ⟨⟨tb1, a1, a2, a3, a4, a5, a6, a7⟩, b1, b2, b3, b4⟩ := this
      have e : ∀ (x : HRec) (xs : List HRec) (s : Sl), stS (fun _ => true) (x :: xs) 0 s = stS (fun _ => true) xs 0 ((x.d, x.c, x.v) :: s) := fun x xs s => by rw [stS, cond_true]; exact stS_k
      refine ⟨⟨tb1, a1, a2, ?_, ?_, a5, ?_, ?_⟩, b1, b2, ?_, b4⟩
      all_goals (rw [List.take_succ_cons, e])
      all_goals assumption
def cntF (listed : Array Bool) : Nat → Nat
  | 0 => 0
  | n + 1 => cntF listed n + (bif listed.getD n false then 0 else 1)
theorem cntF_set {listed : Array Bool} {i : Nat} (hi : i < listed.size) (hl : listed.getD i false = false) : ∀ {n : Nat}, (i < n → cntF (listed.setIfInBounds i true) n + 1 = cntF listed n) ∧ (n ≤ i → cntF (listed.setIfInBounds i true) n = cntF listed n)
  | 0 => ⟨fun h => by omega, fun _ => rfl⟩
  | n + 1 => by
    obtain ⟨h1, h2⟩ := cntF_set hi hl (n := n)
    simp only [cntF]
    refine ⟨fun h => ?_, fun h => ?_⟩
    · by_cases e : i = n
      · subst e
        rw [h2 (Nat.le_refl _), hl]
        have : (listed.setIfInBounds i true).getD i false = true := by simp [hi]
        rw [this]; rfl
      · rw [getD_set_ne false e]
        have := h1 (by omega); omega
    · rw [getD_set_ne false (by omega), h2 (by omega)]
theorem cntF_zero {listed : Array Bool} : ∀ {n : Nat}, cntF listed n = 0 → ∀ i, i < n → listed.getD i false = true
  | 0, _, i, h => by omega
  | n + 1, h, i, hi => by
    simp only [cntF] at h
    by_cases e : i = n
    · subst e
      cases hq : listed.getD i false with
      | true => rfl
      | false => rw [hq] at h; simp at h
    · exact cntF_zero (n := n) (by omega) i (by omega)
theorem cntF_pos {listed : Array Bool} : ∀ {n : Nat}, cntF listed n ≠ 0 → ∃ i, i < n ∧ listed.getD i false = false ∧ ∀ j, j < i → listed.getD j false = true
  | 0, h => absurd rfl h
  | n + 1, h => by
    by_cases h0 : cntF listed n = 0
    · simp only [cntF, h0] at h
      refine ⟨n, Nat.lt_succ_self _, ?_, fun j hj => cntF_zero h0 j hj⟩
      cases hq : listed.getD n false with
      | true => rw [hq] at h; simp at h
      | false => rfl
    · obtain ⟨i, h1, h2, h3⟩ := cntF_pos h0
      exact ⟨i, by omega, h2, h3⟩
theorem cntF_all : ∀ {n m : Nat}, n ≤ m → cntF (Array.replicate m false) n = n
  | 0, m, _ => rfl
  | n + 1, m, h => by simp only [cntF, getD_replicate_false, cond_false, cntF_all (show n ≤ m by omega)]
section
variable {P : Program} {E : Env} {ops : Array Oper} {Q : Exit → Act → World → Prop} {n N : Nat} {o : Os} {s sF : Sl} {tbF : Tb} {recs : List HRec}
theorem cloB_ok {listed : Array Bool} (inv : HeadInv .any ops n listed) : ∀ {f j i : Nat}, cloB ops n f j i = true → listed.getD j false = true → listed.getD i false = true
  | 0, j, i, h, _ => nomatch h
  | f + 1, j, i, h, hj => by
    have edge : ∀ {a b : Nat}, edgeB ops a b = true → listed.getD a false = true → listed.getD b false = true := fun {a b} he ha => by
      unfold edgeB at he
      split at he
      · rename_i p hp
        obtain ⟨e, he1, he2⟩ := List.any_eq_true.1 he
        simp only [Bool.and_eq_true] at he2
        rw [← Nat.eq_of_beq_eq_true he2.1]
        exact inv.closed a p hp ha e (by simpa using he1) he2.2
      · cases he
    simp only [cloB, Bool.or_eq_true] at h
    rcases h with h | h
    · exact edge h hj
    · obtain ⟨k, _, hk⟩ := List.any_eq_true.1 h
      simp only [Bool.and_eq_true] at hk
      exact cloB_ok inv hk.2 (edge hk.1 hj)
structure StepAt (P : Program) (ops : Array Oper) (N : Nat) (o : Os) (s : Sl) (tbF : Tb) (recs : List HRec) (E : Env) (listed : Array Bool) (i : Nat) (β : Nat → Wt) (a : Act) (w : World) (p : Oper) (r : HRec) : Prop where
  hp : ops[i]? = some p
  hr : recs[i]? = some r
  dst : p.dst = some r.d
  lt : r.d < N
  want : Region.wanted p (yielded ops a.tmps) = tg tbF r.c
  add : tg tbF r.c = true → ∀ (K : Act → World → Prop) (Q : Exit → Act → World → Prop), (∀ u w' β', Gam E tbF (stS (fun k => listed.getD k false) recs 0 s) (r.no ++ stO (fun k => listed.getD k false) recs 0 o) β' a w' → rel (E.good (r.no ++ stO (fun k => listed.getD k false) recs 0 o) β') β' w' r.v u → K (a.put p.dst u) w') → p.wp P a w K Q
  val : clsB p.op = true → r.no = [] ∧ (tg tbF r.c = true → ∃ u, (execOp a.eval p).run P w = .ok (.value u) w ∧ rel (E.good (stO (fun k => listed.getD k false) recs 0 o) β) β w r.v u)
  one : r.c = 0 ∨ r.no = []
  post : ∀ (u : Value) (w' : World) (β' : Nat → Wt), Gam E tbF (stS (fun k => listed.getD k false) recs 0 s) (r.no ++ stO (fun k => listed.getD k false) recs 0 o) β' a w' → (tg tbF r.c = true → rel (E.good (r.no ++ stO (fun k => listed.getD k false) recs 0 o) β') β' w' r.v u) → Gam E tbF (stS (fun k => (listed.setIfInBounds i true).getD k false) recs 0 s) (stO (fun k => (listed.setIfInBounds i true).getD k false) recs 0 o) β' (a.put p.dst (gv (tg tbF r.c) u)) w'
  dist : ∀ (j : Nat) (r' : HRec), recs[j]? = some r' → r'.d = r.d → j = i
theorem draw_at (hrun : Run P ops N o (ops.toList.take n) [] s recs tbF sF) (hn : n ≤ ops.size) (b5 : useB ops n = true) (hnew : newB ops n recs = true) (hfr : ∀ r ∈ recs, freshs r.no s o = true) (hN : E.n = N) {listed : Array Bool} {β : Nat → Wt} {a : Act} {w : World} {i : Nat}
    (inv : HeadInv .any ops n listed) (hg : Gam E tbF (stS (fun i => listed.getD i false) recs 0 s) (stO (fun i => listed.getD i false) recs 0 o) β a w) (hi : i ∈ Region.ready .any ops listed) (hin : i < n) : ∃ p r, StepAt P ops N o s tbF recs E listed i β a w p r := by
  obtain ⟨rlen, rtb, rinv, rext, rsF, rat⟩ := hrun.all
  have hlen : recs.length = n := by rw [rlen, List.length_take]; simp; omega
  have hat : ∀ i, i < n → ∃ p r, ops[i]? = some p ∧ recs[i]? = some r ∧ HAt P ops N o s tbF recs i p r := fun i hi => by
    have h1 : ops[i]? = some ops[i] := Array.getElem?_eq_getElem (by omega)
    have h2 : recs[i]? = some recs[i] := List.getElem?_eq_getElem (by omega)
    exact ⟨_, _, h1, h2, rat i _ _ (by rw [List.getElem?_take, if_pos hi]; simp) h2⟩
  have dist : ∀ (i j : Nat) (r r' : HRec), recs[i]? = some r → recs[j]? = some r' → r.d = r'.d → i = j := by
    have one : ∀ (i j : Nat) (r r' : HRec), i < j → recs[i]? = some r → recs[j]? = some r' → r.d ≠ r'.d := fun i j r r' hij hr hr' e => by
      obtain ⟨p, r1, _, h2, h3⟩ := hat j (by rw [← hlen]; exact (List.getElem?_eq_some_iff.1 hr').1)
      rw [hr'] at h2
      cases h2
      have hm : r ∈ recs.take j := List.mem_of_getElem? (i := i) (by rw [List.getElem?_take, if_pos hij]; exact hr)
      have := stS_some (t := r'.d) (k := 0) (s := s) (.inr ⟨r, hm, e⟩)
      rw [h3.fr] at this; cases this
    intro i j r r' hr hr' e
    rcases Nat.lt_trichotomy i j with q | q | q
    · exact absurd e (one i j r r' q hr hr')
    · exact q
    · exact absurd e.symm (one j i r' r q hr' hr)
  have hs0 : ∀ r ∈ recs, lk s r.d = none := fun r hr => by
    obtain ⟨i, hi⟩ := List.mem_iff_getElem?.1 hr
    obtain ⟨p, r1, _, h2, h3⟩ := hat i (by rw [← hlen]; exact (List.getElem?_eq_some_iff.1 hi).1)
    rw [hi] at h2
    cases h2
    cases hq : lk s r.d with
    | none => rfl
    | some x =>
      have := stS_some (t := r.d) (recs := recs.take i) (k := 0) (s := s) (.inl (by rw [hq]; rfl))
      rw [h3.fr] at this; cases this
  obtain ⟨hiun, p, hp1, hedges⟩ := mem_ready.1 hi
  obtain ⟨p0, r, hp, hr, hA⟩ := hat i hin
  rw [hp] at hp1
  cases hp1
  obtain ⟨⟨tb1, a1, a2, a3, a4, a5, a6, a7⟩, d1, d2, d3, d4⟩ := hA
  have hLi : listed.getD i false = false := getD_both hiun
  -- what it reads is as it was when the region was gone through in order
  have hedge : ∀ j, edgeB ops i j = true → listed.getD j false = true := fun j hj => by
    unfold edgeB at hj
    rw [hp] at hj
    obtain ⟨e, he1, he2⟩ := List.any_eq_true.1 hj
    simp only [Bool.and_eq_true] at he2
    rw [← Nat.eq_of_beq_eq_true he2.1]
    exact hedges e (by simpa using he1) he2.2
  have huse := List.all_eq_true.1 b5 i (List.mem_range.2 hin)
  simp only [hp, Bool.and_eq_true] at huse
  have hdst : ∀ j r', j < n → recs[j]? = some r' → dstB ops j r'.d = true := fun j r' hj hr' => by
    obtain ⟨pj, rj, h1, h2, h3⟩ := hat j hj
    rw [hr'] at h2
    cases h2
    unfold dstB
    rw [h1]
    simp [h3.dst]
  have hsame : ∀ t, (∀ j, j < n → dstB ops j t = true → j < i ∧ edgeB ops i j = true) → lk (stS (fun k => listed.getD k false) recs 0 s) t = lk (stS (fun _ => true) (recs.take i) 0 s) t := fun t ht => by
    by_cases hex : ∃ (j : Nat) (rj : HRec), recs[j]? = some rj ∧ rj.d = t
    · obtain ⟨j, rj, h1, h2⟩ := hex
      have hj : j < n := by rw [← hlen]; exact (List.getElem?_eq_some_iff.1 h1).1
      obtain ⟨h3, h4⟩ := ht j hj (h2 ▸ hdst j rj hj h1)
      have hu : ∀ (k : Nat) (r' : HRec), recs[k]? = some r' → r'.d = t → k = j := fun k r' hk hd' => dist k j r' rj hk h1 (by rw [hd', h2])
      rw [stS_new h1 h2 (by rw [Nat.zero_add]; exact hedge j h4) hu]
      rw [stS_new (recs := recs.take i) (i := j) (r := rj) (by rw [List.getElem?_take, if_pos h3]; exact h1) h2 rfl fun k r' hk hd' => hu k r' (by
        rw [List.getElem?_take] at hk
        split at hk
        · exact hk
        · cases hk) hd']
    · rw [stS_old fun k r' hk hd' => absurd ⟨k, r', hk, hd'⟩ hex]
      rw [stS_old fun k r' hk hd' => absurd ⟨k, r', (by
        rw [List.getElem?_take] at hk
        split at hk
        · exact hk
        · cases hk), hd'⟩ hex]
  have hops : ∀ x ∈ p.op.operands, ∀ t ∈ tmpO x, lk (stS (fun k => listed.getD k false) recs 0 s) t = lk (stS (fun _ => true) (recs.take i) 0 s) t := fun x hx t ht => hsame t fun j hj hd => by
    have h1 := List.all_eq_true.1 huse.1 x (by simpa using hx)
    have h2 := List.all_eq_true.1 h1 t ht
    have h3 := List.all_eq_true.1 h2 j (List.mem_range.2 hj)
    rw [hd] at h3
    simp only [Bool.not_true, Bool.false_or, Bool.and_eq_true] at h3
    exact ⟨by simpa [Nat.blt_eq] using h3.1, h3.2⟩
  -- is it wanted?
  have hwant : Region.wanted p (yielded ops a.tmps) = tg tbF r.c ∧ tg tbF r.c = tg tb1 r.c := by
    have htg : tg tbF r.c = tg tb1 r.c := by
      rcases a5 with q | q
      · rw [q, tg_zero rtb, tg_zero a2]
      · obtain ⟨p', q', h1⟩ := lkS_iff.1 q
        unfold tg; rw [h1, a1 _ _ h1]
    refine ⟨?_, htg⟩
    rcases a4.read with ⟨h1, h2⟩ | ⟨j, wt, h1, h2, h3⟩
    · unfold Region.wanted; rw [h1, h2]; exact (tg_zero rtb).symm
    · obtain ⟨p', q, hq⟩ := lkS_iff.1 h3
      rw [h2] at hq
      obtain ⟨t, b, e1, e2, e3⟩ := a3.gi _ _ _ _ hq
      have hgu := huse.2
      rw [h1] at hgu
      simp only [Bool.and_eq_true] at hgu
      have hji : j < i := by simpa [Nat.blt_eq] using hgu.1
      have e2' : lk (stS (fun k => listed.getD k false) recs 0 s) t = some (p', .b b) := by
        rw [hsame t fun j' hj' hd' => ?_, e2]
        have hjj : j' = j := by
          obtain ⟨pj, rj, g1, g2, g3⟩ := hat j (by omega)
          obtain ⟨pj', rj', g1', g2', g3'⟩ := hat j' hj'
          have : rj.d = t := by
            rw [g1] at e1
            simp only [Option.bind_some, g3.dst, Option.some.injEq] at e1
            exact e1
          have h' : rj'.d = t := by
            unfold dstB at hd'
            rw [g1'] at hd'
            simp only [g3'.dst] at hd'
            exact Nat.eq_of_beq_eq_true hd'
          exact dist j' j rj' rj g2' g2 (by rw [h', this])
        rw [hjj]; exact ⟨hji, hgu.2⟩
      obtain ⟨u, e4, e5⟩ := hg.slots _ _ _ e2'
      unfold Region.wanted
      rw [h1, htg, h2]
      have e6 : tg tb1 (cn j wt) = q := by unfold tg; rw [hq]
      rw [e6, e3]
      simp only [yielded, e1, Option.bind_some, e4]
      have htp : tg tbF p' = tg tb1 p' := by
        rcases a3.reg _ _ _ e2 with q | q
        · rw [q, tg_zero rtb, tg_zero a2]
        · obtain ⟨p2, q2, h1⟩ := lkS_iff.1 q
          unfold tg; rw [h1, a1 _ _ h1]
      rw [htp] at e4 e5 ⊢
      cases hp : tg tb1 p' with
      | true =>
        rw [hp] at e5
        have := e5 rfl
        unfold rel at this
        subst this
        cases b <;> cases wt <;> simp [gv]
      | false => simp [gv, undef]
  have hbeq : (fun j => bif Nat.beq (0 + i) j then true else listed.getD j false) = fun j => (listed.setIfInBounds i true).getD j false := by
    funext j
    rw [Nat.zero_add]
    by_cases e : i = j
    · subst e
      have : i < listed.size := by rw [inv.size]; omega
      simp [this]
    · have : Nat.beq i j = false := by rw [← Bool.not_eq_true]; simpa using e
      rw [this, cond_false, getD_set_ne false e]
  -- nothing that it brings in is spoken of
  have hfresh : ∀ q ∈ r.no, fresh q.1 (stS (fun k => listed.getD k false) recs 0 s) (stO (fun k => listed.getD k false) recs 0 o) = true := fun q hq => by
    have h0 := freshs_all (hfr r (List.mem_of_getElem? hr)) q hq
    simp only [fresh, Bool.and_eq_true, Bool.not_eq_true'] at h0 ⊢
    have hno : ∀ j r', recs[j]? = some r' → listed.getD j false = true → recMen q.1 r' = false := fun j r' hr' hL => by
      have hj : j < n := by rw [← hlen]; exact (List.getElem?_eq_some_iff.1 hr').1
      have h1 := List.all_eq_true.1 hnew i (List.mem_range.2 hin)
      rw [hr] at h1
      cases hm : recMen q.1 r' with
      | false => rfl
      | true =>
        exfalso
        have hne : i ≠ j := fun e => by rw [← e, hLi] at hL; cases hL
        cases hq' : r.no with
        | nil => rw [hq'] at hq; cases hq
        | cons x l =>
          simp only [hq'] at h1
          have h2 := List.all_eq_true.1 h1 q (by rw [← hq']; exact hq)
          have h3 := List.all_eq_true.1 h2 j (List.mem_range.2 hj)
          have : Nat.beq i j = false := by rw [← Bool.not_eq_true]; simpa using hne
          simp only [this, Bool.false_or, hr', hm, Bool.not_true] at h3
          have := cloB_ok inv h3 hL
          rw [hLi] at this; cases this
    have key : ∀ (l : List HRec) (k : Nat) (s : Sl) (o : Os), smen q.1 s = false → omens q.1 o = false → (∀ j r', l[j]? = some r' → listed.getD (k + j) false = true → recMen q.1 r' = false) → smen q.1 (stS (fun k => listed.getD k false) l k s) = false ∧ omens q.1 (stO (fun k => listed.getD k false) l k o) = false := by
      intro l
      induction l with
      | nil => intro k s o h1 h2 _; exact ⟨h1, h2⟩
      | cons x l ih' =>
        intro k s o h1 h2 h3
        rw [stS, stO]
        have h3' : ∀ j r', l[j]? = some r' → listed.getD (k + 1 + j) false = true → recMen q.1 r' = false := fun j r' hj hL => h3 (j + 1) r' (by simpa using hj) (by rw [show k + (j + 1) = k + 1 + j by omega]; exact hL)
        cases hL : listed.getD k false with
        | false => exact ih' (k + 1) s o h1 h2 h3'
        | true =>
          have h4 := h3 0 x rfl (by rw [Nat.add_zero]; exact hL)
          simp only [recMen, Bool.or_eq_false_iff] at h4
          simp only [cond_true]
          refine ih' (k + 1) _ _ (by simp only [smen, h4.1, h1, Bool.or_self]) ?_ h3'
          have : ∀ (a b : Os), omens q.1 a = false → omens q.1 b = false → omens q.1 (a ++ b) = false := by
            intro a
            induction a with
            | nil => intro b _ h; exact h
            | cons y a iha =>
              intro b ha hb
              obtain ⟨yi, yo⟩ := y
              simp only [omens, Bool.or_eq_false_iff, List.cons_append] at ha ⊢
              exact ⟨ha.1, iha b ha.2 hb⟩
          exact this _ _ h4.2 h2
    exact key recs 0 s o h0.1 h0.2 fun j r' hr' hL => hno j r' hr' (by rw [Nat.zero_add] at hL; exact hL)
  have holdo : ∀ id ob, lk o id = some ob → lk (stO (fun k => listed.getD k false) recs 0 o) id = some ob := by
    have key : ∀ (l : List HRec) (k : Nat) (o' : Os), (∀ r ∈ l, ∀ q ∈ r.no, lk o q.1 = none) → ∀ id ob, lk o id = some ob → lk o' id = some ob → lk (stO (fun k => listed.getD k false) l k o') id = some ob := by
      intro l
      induction l with
      | nil => intro k o' _ id ob _ h; exact h
      | cons x l ih' =>
        intro k o' hx id ob h1 h2
        rw [stO]
        refine ih' (k + 1) _ (fun r hr => hx r (List.mem_cons_of_mem _ hr)) id ob h1 ?_
        cases listed.getD k false with
        | false => exact h2
        | true =>
          rw [cond_true, lk_app]
          cases hq : lk x.no id with
          | none => exact h2
          | some ob' =>
            have := hx x List.mem_cons_self _ (lk_mem hq)
            rw [h1] at this; cases this
    intro id ob h
    refine key recs 0 o (fun r hr q hq => ?_) id ob h h
    have h0 := freshs_all (hfr r hr) q hq
    simp only [fresh, Bool.and_eq_true, Bool.not_eq_true'] at h0
    cases hl : lk o q.1 with
    | none => rfl
    | some ob' => exact absurd rfl (omens_lk hl h0.2).2
  -- the state behind it
  have hpost : ∀ (u : Value) (w' : World) (β' : Nat → Wt), Gam E tbF (stS (fun k => listed.getD k false) recs 0 s) (r.no ++ stO (fun k => listed.getD k false) recs 0 o) β' a w' → (tg tbF r.c = true → rel (E.good (r.no ++ stO (fun k => listed.getD k false) recs 0 o) β') β' w' r.v u) → Gam E tbF (stS (fun k => (listed.setIfInBounds i true).getD k false) recs 0 s) (stO (fun k => (listed.setIfInBounds i true).getD k false) recs 0 o) β' (a.put p.dst (gv (tg tbF r.c) u)) w' := fun u w' β' hg' hrel => by
    rw [d1]
    have h1 := hg'.put (d := r.d) (by rw [hN]; exact d2) hrel
    rw [← hbeq]
    refine (h1.permO (stO_set (i := i) hr (by rw [Nat.zero_add]; exact hLi)).symm).sameS fun t => ?_
    rw [hbeq]
    by_cases ht : r.d = t
    · subst ht
      rw [lk_cons, if_pos rfl]
      exact stS_new hr rfl (by
        have : i < listed.size := by rw [inv.size]; omega
        simp [this]) fun k r' hk hd' => dist k i r' r hk hr hd'
    · rw [lk_cons, if_neg ht]
      by_cases hex : ∃ (j : Nat) (rj : HRec), recs[j]? = some rj ∧ rj.d = t ∧ listed.getD j false = true
      · obtain ⟨j, rj, g1, g2, g3⟩ := hex
        have hu : ∀ (k : Nat) (r' : HRec), recs[k]? = some r' → r'.d = t → k = j := fun k r' hk hd' => dist k j r' rj hk g1 (by rw [hd', g2])
        have hij : i ≠ j := fun e => by rw [← e, hLi] at g3; cases g3
        rw [stS_new g1 g2 (by rw [Nat.zero_add, getD_set_ne false hij]; exact g3) hu, stS_new g1 g2 (by rw [Nat.zero_add]; exact g3) hu]
      · rw [stS_old fun k r' hk hd' => ?_, stS_old fun k r' hk hd' => ?_]
        · rw [Nat.zero_add]
          cases hq : listed.getD k false with
          | false => rfl
          | true => exact absurd ⟨k, r', hk, hd', hq⟩ hex
        · rw [Nat.zero_add]
          have hik : i ≠ k := fun e => by subst e; rw [hr] at hk; cases hk; exact ht hd'
          rw [getD_set_ne false hik]
          cases hq : listed.getD k false with
          | false => rfl
          | true => exact absurd ⟨k, r', hk, hd', hq⟩ hex
  refine ⟨p, r, ⟨hp, hr, d1, by exact d2, hwant.1, fun ht K Q hK => ?_, fun hcl => ⟨(a7 hcl).1, fun ht => ?_⟩, d4, hpost, fun j r' hj hd => dist j i r' r hj hr hd⟩⟩
  · obtain ⟨dst, op, ty, pos, after, gu⟩ := p
    simp only at d1
    subst d1
    exact a6 E tbF _ _ β a w a1 hops holdo hfresh hg (by rw [← hwant.2]; exact ht) ht ty pos after gu K Q hK
  · obtain ⟨dst, op, ty, pos, after, gu⟩ := p
    exact (a7 hcl).2 E tbF _ _ β a w a1 hops holdo hg (by rw [← hwant.2]; exact ht) ht dst ty pos after gu
theorem draw_step (hrun : Run P ops N o (ops.toList.take n) [] s recs tbF sF) (hn : n ≤ ops.size) (b5 : useB ops n = true) (hnew : newB ops n recs = true) (hfr : ∀ r ∈ recs, freshs r.no s o = true) (hN : E.n = N) {listed : Array Bool} {β : Nat → Wt} {a : Act} {w : World} {i : Nat}
    (inv : HeadInv .any ops n listed) (hg : Gam E tbF (stS (fun i => listed.getD i false) recs 0 s) (stO (fun i => listed.getD i false) recs 0 o) β a w) (hi : i ∈ Region.ready .any ops listed) (hin : i < n) {K : Act → World → Prop}
    (hK : ∀ β' a' w', Gam E tbF (stS (fun k => (listed.setIfInBounds i true).getD k false) recs 0 s) (stO (fun k => (listed.setIfInBounds i true).getD k false) recs 0 o) β' a' w' → K a' w') : wpOp P ops Q i K a w := by
  obtain ⟨p, r, H⟩ := draw_at hrun hn b5 hnew hfr hN inv hg hi hin
  have rtb := hrun.all.2.1
  unfold wpOp
  simp only [H.hp]
  rw [H.want]
  cases ht : tg tbF r.c with
  | true =>
    rw [if_pos rfl]
    refine .inl (H.add ht _ _ fun u w' β' h1 h2 => ?_)
    have := H.post u w' β' h1 fun _ => h2
    rw [ht] at this
    exact hK _ _ _ this
  | false =>
    rw [if_neg (by simp)]
    have hno : r.no = [] := by
      rcases H.one with q | q
      · rw [q, tg_zero rtb] at ht; cases ht
      · exact q
    have := H.post undef w β (by rw [hno]; exact hg) fun h => by rw [ht] at h; cases h
    rw [ht] at this
    exact hK _ _ _ this
theorem draw_any (hrun : Run P ops N o (ops.toList.take n) [] s recs tbF sF) (hB : drawB ops n = true) (hnew : newB ops n recs = true) (hfr : ∀ r ∈ recs, freshs r.no s o = true) (hN : E.n = N)
    (htail : ∀ β a w, Gam E tbF sF (accO recs.reverse o) β a w → wpList P ops Q (ops.toList.drop n) a w) :
    ∀ (f : Nat) (listed : Array Bool) (β : Nat → Wt) (a : Act) (w : World), HeadInv .any ops n listed → cntF listed n = f → Gam E tbF (stS (fun i => listed.getD i false) recs 0 s) (stO (fun i => listed.getD i false) recs 0 o) β a w → wpAny P .any ops Q (f + (ops.size - n)) listed a w := by
  obtain ⟨rlen, rtb, rinv, rext, rsF, rat⟩ := hrun.all
  simp only [drawB, Bool.and_eq_true, Bool.or_eq_true] at hB
  obtain ⟨⟨⟨⟨⟨b1, b2⟩, b3⟩, b4⟩, b5⟩, b6⟩ := hB
  have hn : n ≤ ops.size := Nat.le_of_ble_eq_true b1
  have hlen : recs.length = n := by rw [rlen, List.length_take]; simp; omega
  intro f
  induction f with
  | zero =>
    intro listed β a w inv hc hg
    have hall := cntF_zero hc
    have hfull : listed = fullA n (ops.size - n) := by
      refine Array.ext_getElem? fun i => ?_
      have hsz := inv.size
      rcases Nat.lt_or_ge i n with q | q
      · have h1 := hall i q
        have hi : i < listed.size := by omega
        have h2 : listed[i]? = some true := by
          rw [Array.getElem?_eq_getElem hi]; simp [hi] at h1; rw [h1]
        rw [h2]; simp [fullA, Array.getElem?_append, q]
      · rcases Nat.lt_or_ge i ops.size with q' | q'
        · have h1 := inv.tail i q q'
          have hi : i < listed.size := by omega
          have h2 : listed[i]? = some false := by
            rw [Array.getElem?_eq_getElem hi]; simp [hi] at h1; rw [h1]
          rw [h2]; simp [fullA, Array.getElem?_append, Nat.not_lt.2 q, Array.getElem?_replicate]; omega
        · rw [Array.getElem?_eq_none (by omega), Array.getElem?_eq_none (by simp [fullA]; omega)]
    have e1 : stS (fun i => listed.getD i false) recs 0 s = sF := by
      rw [rsF]
      have : ∀ (l : List HRec) (k : Nat) (s : Sl), k + l.length ≤ n → stS (fun i => listed.getD i false) l k s = stS (fun _ => true) l k s := by
        intro l
        induction l with
        | nil => intros; rfl
        | cons r l ih =>
          intro k s hk
          simp only [List.length_cons] at hk
          rw [stS, stS, hall k (by omega)]
          exact ih _ _ (by omega)
      exact this recs 0 s (by omega)
    have e2 : stO (fun i => listed.getD i false) recs 0 o = accO recs.reverse o := by
      rw [← stO_full (k := 0)]
      have : ∀ (l : List HRec) (k : Nat) (o : Os), k + l.length ≤ n → stO (fun i => listed.getD i false) l k o = stO (fun _ => true) l k o := by
        intro l
        induction l with
        | nil => intros; rfl
        | cons r l ih =>
          intro k o hk
          simp only [List.length_cons] at hk
          rw [stO, stO, hall k (by omega)]
          exact ih _ _ (by omega)
      exact this recs 0 o (by omega)
    rw [e1, e2] at hg
    have hdl : (ops.toList.drop n).length = ops.size - n := by simp
    rw [Nat.zero_add, ← hdl]
    refine wpAny_of_seq (ops.toList.drop n) n listed a w (fun j => by simp) ?_ (htail β a w hg)
    rw [hdl, hfull]; exact b6
  | succ f ih =>
    intro listed β a w inv hc hg
    rw [show f + 1 + (ops.size - n) = (f + (ops.size - n)) + 1 by omega]
    -- an operation that may come up is one of the head's
    obtain ⟨i0, hi0, hi0l, hi0m⟩ := cntF_pos (n := n) (listed := listed) (by omega)
    have hback : ∀ i p, ops[i]? = some p → ∀ e ∈ p.after, Region.binds .any e = true → e.on < i := fun i p hp e he hb => by
      have hi : i < ops.size := (Array.getElem?_eq_some_iff.1 hp).1
      have := List.all_eq_true.1 b4 i (List.mem_range.2 hi)
      simp only [hp] at this
      have := List.all_eq_true.1 this e (by simpa using he)
      simp only [hb, Bool.not_true, Bool.false_or] at this
      simpa [Nat.blt_eq] using this
    have hready0 : i0 ∈ Region.ready .any ops listed := by
      have h1 : ops[i0]? = some ops[i0] := Array.getElem?_eq_getElem (by omega)
      exact mem_ready.2 ⟨getD_in (by rw [inv.size]; omega) hi0l, _, h1, fun e he hb => hi0m _ (hback i0 _ h1 e he hb)⟩
    refine ⟨(fun h => by rw [h] at hready0; cases hready0), fun i hi => ?_⟩
    have hin : i < n := by
      rcases Nat.lt_or_ge i n with h | h
      · exact h
      · rcases b2 with q | q
        · have := Nat.le_of_ble_eq_true q
          obtain ⟨_, oj, hoj, _⟩ := mem_ready.1 hi
          have := (Array.getElem?_eq_some_iff.1 hoj).1
          omega
        · obtain ⟨_, oj, hoj, _⟩ := mem_ready.1 hi
          have hlt := (Array.getElem?_eq_some_iff.1 hoj).1
          exact absurd hi (tail_waits q b3 (by omega) inv _ i0 rfl hi0 (getD_in (by rw [inv.size]; omega) hi0l) i h)
    have hLi : listed.getD i false = false := getD_both (mem_ready.1 hi).1
    have inv' := inv.set hi hin
    have hcnt : cntF (listed.setIfInBounds i true) n = f := by
      have := (cntF_set (listed := listed) (i := i) (by rw [inv.size]; omega) hLi (n := n)).1 hin
      omega
    exact draw_step hrun hn b5 hnew hfr hN inv hg hi hin fun β' a' w' hg' => ih _ β' a' w' inv' hcnt hg'
end
end Go.Proofs.Ytecknkgiaahheaa

/- Drawn regions in which operations float over what has an effect. -/
namespace Go.Proofs.Ytecknkgiaahheaa
open Go.RowKit
set_option linter.unusedVariables false
set_option linter.unusedSimpArgs false
/-! ## What hangs on no memory -/
def Pur {α : Type} (P : Program) (m : Sem α) : Prop := ∀ w x w1, m.run P w = .ok x w1 → w1 = w ∧ ∀ w', m.run P w' = .ok x w'
theorem Pur.ret {α : Type} {P : Program} {a : α} : Pur P (pure a : Sem α) := fun w x w1 h => by
  cases h; exact ⟨rfl, fun _ => rfl⟩
theorem Pur.halt {α : Type} {P : Program} {y : Halt} : Pur P (.halt y : Sem α) := fun w x w1 h => by cases h
theorem Pur.bind {α β : Type} {P : Program} {m : Sem α} {f : α → Sem β} (h : Pur P m) (hf : ∀ a, Pur P (f a)) : Pur P (m >>= f) := fun w x w1 hr => by
  rw [Sem.run_bind] at hr
  cases hm : m.run P w with
  | halt y w2 => rw [hm] at hr; cases hr
  | ok a w2 =>
    rw [hm] at hr
    obtain ⟨rfl, h2⟩ := h _ _ _ hm
    obtain ⟨rfl, h3⟩ := hf a _ _ _ hr
    exact ⟨rfl, fun w' => by rw [Sem.run_bind, h2 w']; exact h3 w'⟩
theorem Pur.program {P : Program} : Pur P (Go.program) := fun w x w1 h => by
  cases h; exact ⟨rfl, fun _ => rfl⟩
theorem Pur.underlying {P : Program} {t : TypeId} : Pur P (Go.underlying t) := Pur.bind Pur.program fun p => by
  cases h : p.underlying t with
  | none => simp only [h]; exact Pur.halt
  | some d => simp only [h]; exact Pur.ret
theorem Pur.sizeOf {P : Program} {t : TypeId} : Pur P (Go.sizeOf t) := Pur.bind (Pur.bind Pur.program fun p => by
  cases h : p.info? t with
  | none => simp only [h]; exact Pur.halt
  | some d => simp only [h]; exact Pur.ret) fun _ => Pur.ret
/-- It yields a value, whatever the memory holds. -/
def Wfr (P : Program) (p : Oper) : Prop := ∀ (ρ : Operand → Value) w r w1, (execOp ρ p).run P w = .ok r w1 → ∃ u, r = .value u ∧ ∀ w', (execOp ρ p).run P w' = .ok (.value u) w'
theorem Wfr.of {P : Program} {p : Oper} {m : (Operand → Value) → Sem Value} (he : ∀ ρ, execOp ρ p = (do pure (.value (← m ρ)))) (hm : ∀ ρ, Pur P (m ρ)) : Wfr P p := fun ρ w r w1 h => by
  rw [he] at h
  have hb : (do pure (.value (← m ρ)) : Sem Next) = m ρ >>= fun v => pure (.value v) := rfl
  rw [hb, Sem.run_bind] at h
  cases hr : (m ρ).run P w with
  | halt y w2 => rw [hr] at h; cases h
  | ok a w2 =>
    rw [hr] at h
    have h' : (Result.ok (.value a) w2 : Result Next) = .ok r w1 := h
    cases h'
    obtain ⟨_, h2⟩ := hm ρ _ _ _ hr
    exact ⟨a, rfl, fun w' => by rw [he, hb, Sem.run_bind, h2 w']; rfl⟩
theorem Pur.map {α β : Type} {P : Program} {m : Sem α} {f : α → β} (h : Pur P m) : Pur P (f <$> m) := Pur.bind h fun _ => Pur.ret
theorem Pur.haltBind {α β : Type} {P : Program} {y : Halt} {f : α → Sem β} : Pur P ((.halt y : Sem α) >>= f) := fun w x w1 h => by cases h
/-- It never comes to an end as it should. -/
def Nok {α : Type} (P : Program) (m : Sem α) : Prop := ∀ w x w1, m.run P w ≠ .ok x w1
theorem Nok.pur {α : Type} {P : Program} {m : Sem α} (h : Nok P m) : Pur P m := fun w x w1 hr => absurd hr (h _ _ _)
theorem Nok.halt {α : Type} {P : Program} {y : Halt} : Nok P (.halt y : Sem α) := fun w x w1 h => by cases h
theorem Nok.bind {α β : Type} {P : Program} {m : Sem α} {f : α → Sem β} (hf : ∀ a, Nok P (f a)) : Nok P (m >>= f) := fun w x w1 hr => by
  rw [Sem.run_bind] at hr
  cases hm : m.run P w with
  | halt y w2 => rw [hm] at hr; cases hr
  | ok a w2 => rw [hm] at hr; exact hf a _ _ _ hr
theorem Nok.panic {α : Type} {P : Program} {e : RuntimeError} : Nok P (runtimePanic e : Sem α) := Nok.bind fun p => by
  cases e <;> first | exact Nok.halt | exact Nok.bind fun _ => Nok.bind fun _ => Nok.halt
theorem Nok.bounds {α : Type} {P : Program} {k : IntKind} {x y : Int} {c : BoundsCode} : Nok P (boundsPanic k x y c : Sem α) := by
  unfold boundsPanic
  dsimp only
  repeat' first | exact Nok.panic | (refine Nok.bind fun _ => ?_) | split
theorem Pur.asInt {P : Program} {v : Value} : Pur P (asIntOf v) := by
  unfold asIntOf
  split
  · exact Pur.ret
  · exact Pur.halt
  · exact Pur.halt
theorem Pur.sure {P : Program} {v : Value} : Pur P (Instr.sureAddr v) := by
  unfold Instr.sureAddr
  split
  · exact Pur.ret
  · exact Pur.halt
theorem Wfr.index {P : Program} {t : TypeId} {x y : Operand} {d : Option Tmp} {ty : TypeId} {pos : String} {after : Array Edge} {gu : Option (Nat × Bool)} : Wfr P ⟨d, .indexAddr t x y, ty, pos, after, gu⟩ := by
  refine Wfr.of (m := fun ρ => Instr.indexAt t (ρ x) (ρ y)) (fun ρ => rfl) fun ρ => ?_
  unfold Instr.indexAt
  repeat' first | exact Pur.ret | exact Pur.halt | exact Nok.bounds.pur | exact Pur.sure | exact Pur.asInt | exact Pur.underlying | exact Pur.sizeOf | refine Pur.map ?_ | (refine Pur.bind ?_ fun _ => ?_) | split | (dsimp only; split)
theorem Wfr.extract {P : Program} {x : Operand} {i : Nat} {d : Option Tmp} {ty : TypeId} {pos : String} {after : Array Edge} {gu : Option (Nat × Bool)} : Wfr P ⟨d, .extract x i, ty, pos, after, gu⟩ := by
  refine Wfr.of (m := fun ρ => Instr.extract (ρ x) i) (fun ρ => rfl) fun ρ => ?_
  unfold Instr.extract
  repeat' first | exact Pur.ret | exact Pur.halt | split
theorem Wfr.move {P : Program} {x : Operand} {d : Option Tmp} {ty : TypeId} {pos : String} {after : Array Edge} {gu : Option (Nat × Bool)} : Wfr P ⟨d, .move x, ty, pos, after, gu⟩ := fun ρ w r w1 h => by
  simp only [execOp] at h
  cases h
  exact ⟨_, rfl, fun _ => rfl⟩
theorem Wfr.assign {P : Program} {x : Operand} {d : Option Tmp} {ty : TypeId} {pos : String} {after : Array Edge} {gu : Option (Nat × Bool)} : Wfr P ⟨d, .assign x, ty, pos, after, gu⟩ := fun ρ w r w1 h => by
  simp only [execOp] at h
  cases h
  exact ⟨_, rfl, fun _ => rfl⟩
theorem Wfr.field {P : Program} {t f : Nat} {x : Operand} {jn : Nat × Nat} {ti : TI} {d : Option Tmp} {ty : TypeId} {pos : String} {after : Array Edge} {gu : Option (Nat × Bool)} (hti : TIok P t ti) (hj : ti.offs[f]? = some jn) : Wfr P ⟨d, .fieldAddr t x f, ty, pos, after, gu⟩ := by
  refine Wfr.of (m := fun ρ => Instr.fieldAt t (ρ x) f) (fun ρ => rfl) fun ρ => ?_
  have hf := hti.offs f jn.1 jn.2 hj
  by_cases hx : ∃ a, ρ x = .pointer (some a)
  · obtain ⟨a, hx⟩ := hx
    rw [hx]
    intro w r w1 h
    rw [hf] at h
    cases h
    exact ⟨rfl, fun w' => hf _ _⟩
  · have hs : ∃ y, Instr.sureAddr (ρ x) = .halt y := by
      unfold Instr.sureAddr
      split
      · rename_i a e; exact absurd ⟨a, e⟩ hx
      · exact ⟨_, rfl⟩
    obtain ⟨y, hs⟩ := hs
    unfold Instr.fieldAt
    rw [hs]
    repeat' first | exact Pur.ret | exact Pur.halt | exact Pur.haltBind | exact Pur.underlying | (refine Pur.bind ?_ fun _ => ?_) | split
/-! ## What an operation looks at -/
theorem exec_same {ops : Array Oper} {p : Oper} {a b : Act} (hs : ∀ cs k, p.op ≠ .select cs k) (h : ∀ t ∈ p.looksAt ops, a.tmps[t]? = b.tmps[t]?) :
    execOp a.eval p = execOp b.eval p ∧ Region.wanted p (yielded ops a.tmps) = Region.wanted p (yielded ops b.tmps) := by
  refine ⟨execOp_congr p hs fun x hx => ?_, ?_⟩
  · cases x with
    | tmp t =>
      have := h t (List.mem_append_left _ (List.mem_filterMap.2 ⟨.tmp t, by simpa using hx, rfl⟩))
      simp only [Act.eval, Array.getD_eq_getD_getElem?, this]
    | _ => rfl
  · unfold Region.wanted
    cases hg : p.guard with
    | none => rfl
    | some gw =>
      obtain ⟨g, want⟩ := gw
      have hy : yielded ops a.tmps g = yielded ops b.tmps g := by
        unfold yielded
        cases ht : (ops[g]?).bind (·.dst) with
        | none => rfl
        | some t =>
          have : t ∈ p.looksAt ops := by
            unfold Oper.looksAt
            rw [hg]
            refine List.mem_append_right _ ?_
            simp [ht]
          simp only [Option.bind_some, h t this]
      simp only [hy]
/-- All that an operation looks at comes of what it waits for. -/
def lookB (ops : Array Oper) (i : Nat) : Bool := match ops[i]? with
  | some p => (p.looksAt ops).all fun t => (List.range ops.size).all fun j => !dstB ops j t || (Nat.blt j i && edgeB ops i j)
  | none => true
def nselB : Op → Bool
  | .select _ _ => false
  | _ => true
def ownB (ops : Array Oper) (i : Nat) : Bool := match ops[i]? with
  | some p => match p.dst with
    | some d => (List.range ops.size).all fun j => Nat.beq i j || !dstB ops j d
    | none => false
  | none => false
structure AgF (ops : Array Oper) (n : Nat) (listed : Array Bool) (a b : Act) : Prop where
  df : a.defers = b.defers
  sz : a.tmps.size = b.tmps.size
  sl : ∀ t, (∀ i, i < n → listed.getD i false = false → dstB ops i t = false) → a.tmps[t]? = b.tmps[t]?
theorem AgF.refl {ops : Array Oper} {n : Nat} {listed : Array Bool} {a : Act} : AgF ops n listed a a := ⟨rfl, rfl, fun _ _ => rfl⟩
theorem put_get {a : Act} {d t : Nat} {u : Value} : (a.put (some d) u).tmps[t]? = if d = t then (if d < a.tmps.size then some u else none) else a.tmps[t]? := by
  simp only [Act.put, Array.getElem?_setIfInBounds]
theorem put_df {a : Act} {d : Option Tmp} {u : Value} : (a.put d u).defers = a.defers := by cases d <;> rfl
theorem put_sz {a : Act} {d : Option Tmp} {u : Value} : (a.put d u).tmps.size = a.tmps.size := by cases d <;> simp [Act.put]
def QF : Exit → Act → World → Prop := fun _ _ _ => False
theorem letsQF : ¬ LetsOut QF := fun ⟨_, _, h⟩ => h
/-- The same operation on two activations that agree in what it looks at. -/
theorem wpOp_agr {P : Program} {ops : Array Oper} {k : Nat} {p : Oper} {a b : Act} {w : World} {K K' : Act → World → Prop} {Q : Exit → Act → World → Prop} (hp : ops[k]? = some p) (he : execOp a.eval p = execOp b.eval p) (hw : Region.wanted p (yielded ops a.tmps) = Region.wanted p (yielded ops b.tmps))
    (hD : ∀ a' w', K a' w' → a'.defers = []) (hK : ∀ v w', K (b.put p.dst v) w' → K' (a.put p.dst v) w') (h : wpOp P ops QF k K b w) : wpOp P ops Q k K' a w := by
  unfold wpOp at h ⊢
  simp only [hp] at h ⊢
  rw [hw]
  split
  · rename_i hwt
    rw [if_pos hwt] at h
    rcases h with h | ⟨_, h⟩
    · refine .inl ?_
      unfold Oper.wp at h ⊢
      rw [he]
      generalize (execOp b.eval p).run P w = r at h ⊢
      cases r with
      | ok n w' =>
        cases n <;> simp only [Oper.upon] at h ⊢ <;>
          first
            | exact hK _ _ h
            | (refine Calls.mono h fun e w'' he => ?_; cases e <;> first | exact hK _ _ he | exact he.elim | exact (letsQF he).elim)
            | exact Rows.mono h (fun _ _ he => hK _ _ he)
            | (have := hD _ _ h; rw [put_df] at this; cases this)
      | halt x w' => cases x <;> simp only [Oper.upon] at h ⊢ <;> exact h.elim
    · exact (letsQF h).elim
  · rename_i hwt
    rw [if_neg hwt] at h
    exact hK _ _ h
/-- The operations that have an effect, one behind the other; behind each one what floats is as it was. -/
def Vf (P : Program) (ops : Array Oper) (Q : Exit → Act → World → Prop) (Y : Act → World → Prop) : List Oper → Nat → Act → World → Prop
  | [], _, a, w => Q .normal a w
  | _ :: rest, k, a, w => wpOp P ops QF k (fun a' w' => a'.defers = [] ∧ Y a' w' ∧ Vf P ops Q Y rest (k + 1) a' w') a w
theorem act_ext {a b : Act} (h1 : a.tmps = b.tmps) (h2 : a.defers = b.defers) : a = b := by
  cases a; cases b; simp_all
theorem fl_any {P : Program} {ops : Array Oper} {Q : Exit → Act → World → Prop} {Y : Act → World → Prop} {n : Nat} {fl : Nat → Prop} (hn : n ≤ ops.size) (hch : Region.chainB .any ops n = true)
    (hsel : ∀ (i : Nat) (p : Oper), ops[i]? = some p → nselB p.op = true) (hbk : ∀ (i : Nat) (p : Oper), ops[i]? = some p → ∀ e ∈ p.after, Region.binds .any e = true → e.on < i) (hlk : ∀ i, (n ≤ i ∨ fl i) → lookB ops i = true) (hown : ∀ i, i < n → fl i → ownB ops i = true)
    (hfl : ∀ (i : Nat) (p : Oper), i < n → fl i → ops[i]? = some p → Wfr P p ∨ ∀ a w, Y a w → ∀ d, p.dst = some d → ∃ u, a.tmps[d]? = some u ∧ YieldsAt P ops w p u a) :
    ∀ (f k : Nat) (listed : Array Bool) (a b : Act) (w : World), listed.size = ops.size → (∀ t, k ≤ t → t < ops.size → listed.getD t true = false) → (∀ t, n ≤ t → t < k → listed.getD t false = true) → n ≤ k → k ≤ ops.size →
      (∀ i, i < n → listed.getD i false = false → fl i) → cntF listed n + (ops.size - k) = f → AgF ops n listed a b →
      (∀ i, i < n → listed.getD i false = false → ∀ p, ops[i]? = some p → ∀ d, p.dst = some d → ∃ u, b.tmps[d]? = some u ∧ YieldsAt P ops w p u b) →
      Vf P ops Q Y (ops.toList.drop k) k b w → wpAny P .any ops Q f listed a w := by
  have own : ∀ {i j d : Nat} {p : Oper}, i < n → fl i → ops[i]? = some p → p.dst = some d → j < ops.size → j ≠ i → dstB ops j d = false := fun {i j d p} hi hf hp hd hj hji => by
    have := hown i hi hf
    unfold ownB at this
    rw [hp] at this
    simp only [hd] at this
    have := List.all_eq_true.1 this j (List.mem_range.2 hj)
    simp only [Bool.or_eq_true, Bool.not_eq_true'] at this
    rcases this with q | q
    · exact absurd (Nat.eq_of_beq_eq_true q).symm hji
    · exact q
  have look : ∀ {i j t : Nat} {p : Oper}, (n ≤ i ∨ fl i) → ops[i]? = some p → t ∈ p.looksAt ops → j < ops.size → dstB ops j t = true → j < i ∧ edgeB ops i j = true := fun {i j t p} hi hp ht hj hd => by
    have := hlk i hi
    unfold lookB at this
    rw [hp] at this
    have := List.all_eq_true.1 (List.all_eq_true.1 this t ht) j (List.mem_range.2 hj)
    simp only [hd, Bool.not_true, Bool.false_or, Bool.and_eq_true] at this
    exact ⟨by simpa [Nat.blt_eq] using this.1, this.2⟩
  have dst : ∀ {i d : Nat} {p : Oper}, ops[i]? = some p → p.dst = some d → dstB ops i d = true := fun {i d p} hp hd => by
    unfold dstB; rw [hp]; simp [hd]
  have nsel : ∀ {i : Nat} {p : Oper}, ops[i]? = some p → ∀ cs k, p.op ≠ .select cs k := fun {i p} hp cs k e => by
    have := hsel i p hp; rw [e] at this; cases this
  have edge : ∀ {i j : Nat} {p : Oper} {listed : Array Bool}, ops[i]? = some p → edgeB ops i j = true → (∀ e ∈ p.after, Region.binds .any e = true → listed.getD e.on false = true) → listed.getD j false = true := fun {i j p listed} hp he hall => by
    unfold edgeB at he
    rw [hp] at he
    obtain ⟨e, he1, he2⟩ := List.any_eq_true.1 he
    simp only [Bool.and_eq_true] at he2
    rw [← Nat.eq_of_beq_eq_true he2.1]
    exact hall e (by simpa using he1) he2.2
  intro f
  induction f with
  | zero =>
    intro k listed a b w hsz hk1 hk2 hnk hks hlf hc hag hy hv
    have hc0 : cntF listed n = 0 := by omega
    have hks : k = ops.size := by omega
    subst hks
    have hall := cntF_zero hc0
    refine ⟨?_, ?_⟩
    · cases hr : Region.ready .any ops listed with
      | nil => rfl
      | cons i l =>
        obtain ⟨h1, p, h2, _⟩ := mem_ready.1 (show i ∈ Region.ready .any ops listed by rw [hr]; exact List.mem_cons_self)
        have hi : i < ops.size := (Array.getElem?_eq_some_iff.1 h2).1
        have h3 := getD_both h1
        rcases Nat.lt_or_ge i n with q | q
        · rw [hall i q] at h3; cases h3
        · rw [hk2 i q hi] at h3; cases h3
    · have hab : a = b := act_ext (Array.ext_getElem? fun t => hag.sl t fun i hi hl => by rw [hall i hi] at hl; cases hl) hag.df
      subst hab
      rw [List.drop_of_length_le (by simp)] at hv
      exact hv
  | succ f ih =>
    intro k listed a b w hsz hk1 hk2 hnk hks hlf hc hag hy hv
    refine ⟨fun h => ?_, fun i hi => ?_⟩
    · exfalso
      have hlow : ∃ i0, i0 < ops.size ∧ listed.getD i0 false = false ∧ ∀ j, j < i0 → listed.getD j false = true := by
        by_cases h0 : cntF listed n = 0
        · have hall := cntF_zero h0
          refine ⟨k, by omega, getD_both (hk1 k (Nat.le_refl _) (by omega)), fun j hj => ?_⟩
          rcases Nat.lt_or_ge j n with q | q
          · exact hall j q
          · exact hk2 j q hj
        · obtain ⟨i0, h1, h2, h3⟩ := cntF_pos h0
          exact ⟨i0, by omega, h2, h3⟩
      obtain ⟨i0, h1, h2, h3⟩ := hlow
      have hp : ops[i0]? = some ops[i0] := Array.getElem?_eq_getElem h1
      have : i0 ∈ Region.ready .any ops listed := mem_ready.2 ⟨getD_in (by omega) h2, _, hp, fun e he hb => h3 _ (hbk i0 _ hp e he hb)⟩
      rw [h] at this; cases this
    · obtain ⟨hiun, p, hp, hedges⟩ := mem_ready.1 hi
      have his : i < ops.size := (Array.getElem?_eq_some_iff.1 hp).1
      have hLi := getD_both hiun
      have same : (n ≤ i ∨ fl i) → execOp a.eval p = execOp b.eval p ∧ Region.wanted p (yielded ops a.tmps) = Region.wanted p (yielded ops b.tmps) := fun hq => exec_same (nsel hp) fun t ht => hag.sl t fun j hj hl => by
        cases hd : dstB ops j t with
        | false => rfl
        | true =>
          obtain ⟨_, h2⟩ := look hq hp ht (by omega) hd
          rw [edge hp h2 hedges] at hl; cases hl
      rcases Nat.lt_or_ge i n with hin | hin
      · have hfi := hlf i hin hLi
        obtain ⟨h1, h2⟩ := same (.inr hfi)
        have hd : ∃ d, p.dst = some d := by
          have := hown i hin hfi
          unfold ownB at this
          rw [hp] at this
          simp only at this
          split at this
          · exact ⟨_, by assumption⟩
          · cases this
        obtain ⟨d, hd⟩ := hd
        obtain ⟨u, hu, hyu⟩ := hy i hin hLi p hp d hd
        refine wpOp_of_stOp (K := fun a' => a' = a.put p.dst u) (fun a' e => ?_) ((hyu.of_same h1 h2).stOp hp rfl)
        subst e
        rw [hd]
        have hset : ∀ j, j ≠ i → (listed.setIfInBounds i true).getD j false = listed.getD j false := fun j hj => getD_set_ne false (Ne.symm hj)
        have hseti : (listed.setIfInBounds i true).getD i false = true := by
          have : i < listed.size := by omega
          simp [this]
        refine ih k _ _ b w (by simp [hsz]) (fun t h3 h4 => by rw [getD_set_ne true (by omega)]; exact hk1 t h3 h4) (fun t h3 h4 => by rw [hset t (by omega)]; exact hk2 t h3 h4) hnk hks
          (fun j hj hl => ?_) ?_ ⟨by rw [put_df]; exact hag.df, by rw [put_sz]; exact hag.sz, fun t ht => ?_⟩ (fun j hj hl => ?_) hv
        · by_cases e : j = i
          · subst e; exact hfi
          · rw [hset j e] at hl; exact hlf j hj hl
        · have := (cntF_set (listed := listed) (i := i) (by omega) hLi (n := n)).1 hin
          omega
        · rw [put_get]
          split
          · rename_i e
            subst e
            rw [hu, if_pos (by rw [hag.sz]; exact (Array.getElem?_eq_some_iff.1 hu).1)]
          · rename_i e
            refine hag.sl t fun j hj hl => ?_
            by_cases e' : j = i
            · subst e'
              unfold dstB
              rw [hp]
              simp only [hd]
              rw [← Bool.not_eq_true]
              simpa using e
            · exact ht j hj (by rw [hset j e']; exact hl)
        · by_cases e : j = i
          · subst e; rw [hseti] at hl; cases hl
          · rw [hset j e] at hl; exact hy j hj hl
      · have hik : i = k := by
          rcases Nat.lt_trichotomy i k with q | q | q
          · rw [hk2 i hin q] at hLi; cases hLi
          · exact q
          · exfalso
            have := List.all_eq_true.1 hch i (List.mem_range.2 his)
            simp only [Bool.or_eq_true, decide_eq_true_eq] at this
            rcases this with q' | q'
            · omega
            · obtain ⟨o', ho', e, he, hb, hon⟩ := Region.waitsFor_spec q'
              have : o' = p := Option.some.inj (ho'.symm.trans hp)
              subst this
              have h2 := hedges e he hb
              rw [hon, getD_both (hk1 (i - 1) (by omega) (by omega))] at h2
              cases h2
        subst hik
        obtain ⟨h1, h2⟩ := same (.inl hin)
        have hdr : ops.toList.drop i = p :: ops.toList.drop (i + 1) := by
          rw [List.drop_eq_getElem_cons (by simpa using his)]
          congr 1
          have := Array.getElem?_eq_getElem his
          rw [hp] at this
          simpa using this.symm
        rw [hdr] at hv
        refine wpOp_agr hp h1 h2 (fun a' w' h => h.1) (fun v w' h => ?_) hv
        obtain ⟨hD, hY, hV⟩ := h
        have hset : ∀ j, j ≠ i → (listed.setIfInBounds i true).getD j false = listed.getD j false := fun j hj => getD_set_ne false (Ne.symm hj)
        have hseti : (listed.setIfInBounds i true).getD i false = true := by
          have : i < listed.size := by omega
          simp [this]
        refine ih (i + 1) _ _ (b.put p.dst v) w' (by simp [hsz]) (fun t h3 h4 => by rw [getD_set_ne true (by omega)]; exact hk1 t (by omega) h4) (fun t h3 h4 => ?_) (by omega) (by omega)
          (fun j hj hl => hlf j hj (by rw [hset j (by omega)] at hl; exact hl)) ?_ ⟨by rw [put_df, put_df]; exact hag.df, by rw [put_sz, put_sz]; exact hag.sz, fun t ht => ?_⟩ (fun j hj hl q hq d hd => ?_) hV
        · by_cases e : t = i
          · subst e; exact hseti
          · rw [hset t e]; exact hk2 t h3 (by omega)
        · have := (cntF_set (listed := listed) (i := i) (by omega) hLi (n := n)).2 hin
          omega
        · have h3 := hag.sl t fun j hj hl => ht j hj (by rw [hset j (by omega)]; exact hl)
          cases hpd : p.dst with
          | none => exact h3
          | some d => rw [put_get, put_get, hag.sz, h3]
        · rw [hset j (by omega)] at hl
          have hfj := hlf j hj hl
          rcases hfl j q hj hfj hq with hw | hw
          · obtain ⟨u, hu, hyu⟩ := hy j hj hl q hq d hd
            have hne : ∀ t, t ∈ q.looksAt ops → dstB ops i t = false := fun t ht => by
              cases hdt : dstB ops i t with
              | false => rfl
              | true =>
                have := look (.inr hfj) hq ht his hdt
                omega
            have hget : ∀ t, dstB ops i t = false → (b.put p.dst v).tmps[t]? = b.tmps[t]? := fun t ht => by
              cases hpd : p.dst with
              | none => rfl
              | some d' =>
                rw [put_get, if_neg]
                rintro rfl
                rw [dst hp hpd] at ht; cases ht
            obtain ⟨g1, g2⟩ := exec_same (a := b.put p.dst v) (b := b) (nsel hq) fun t ht => hget t (hne t ht)
            refine ⟨u, by rw [hget d (own hj hfj hq hd his (by omega))]; exact hu, ?_⟩
            refine YieldsAt.of_same ?_ g1 g2
            rcases hyu with ⟨hwt, h4⟩ | h4
            · refine .inl ⟨hwt, .inl ?_⟩
              rcases h4 with h4 | ⟨h4, rfl⟩ | ⟨f', args, h4, _⟩
              · obtain ⟨u', e, h5⟩ := hw _ _ _ _ h4
                cases e
                exact h5 w'
              · obtain ⟨u', e, h5⟩ := hw _ _ _ _ h4
                cases e
              · obtain ⟨u', e, h5⟩ := hw _ _ _ _ h4
                cases e
            · exact .inr h4
          · exact hw _ _ hY d hd
/-! ## The heads that are not there yet, made up -/
section
variable {P : Program} {E : Env} {ops : Array Oper} {n N : Nat} {o : Os} {s sF : Sl} {tbF : Tb} {recs : List HRec}
theorem st_full {listed : Array Bool} (hall : ∀ i, i < n → listed.getD i false = true) (hlen : recs.length = n) (rsF : sF = stS (fun _ => true) recs 0 s) : stS (fun i => listed.getD i false) recs 0 s = sF ∧ stO (fun i => listed.getD i false) recs 0 o = accO recs.reverse o := by
  refine ⟨?_, ?_⟩
  · rw [rsF]
    have : ∀ (l : List HRec) (k : Nat) (s : Sl), k + l.length ≤ n → stS (fun i => listed.getD i false) l k s = stS (fun _ => true) l k s := by
      intro l
      induction l with
      | nil => intros; rfl
      | cons r l ih =>
        intro k s hk
        simp only [List.length_cons] at hk
        rw [stS, stS, hall k (by omega)]
        exact ih _ _ (by omega)
    exact this recs 0 s (by omega)
  · rw [← stO_full (k := 0)]
    have : ∀ (l : List HRec) (k : Nat) (o : Os), k + l.length ≤ n → stO (fun i => listed.getD i false) l k o = stO (fun _ => true) l k o := by
      intro l
      induction l with
      | nil => intros; rfl
      | cons r l ih =>
        intro k o hk
        simp only [List.length_cons] at hk
        rw [stO, stO, hall k (by omega)]
        exact ih _ _ (by omega)
    exact this recs 0 o (by omega)
theorem complete (hrun : Run P ops N o (ops.toList.take n) [] s recs tbF sF) (hn : n ≤ ops.size) (b5 : useB ops n = true) (hnew : newB ops n recs = true) (hfr : ∀ r ∈ recs, freshs r.no s o = true) (hN : E.n = N)
    {fl : Nat → Prop} (hsel : ∀ (i : Nat) (p : Oper), ops[i]? = some p → nselB p.op = true) (hbk : ∀ (i : Nat) (p : Oper), ops[i]? = some p → ∀ e ∈ p.after, Region.binds .any e = true → e.on < i) (hlk : ∀ i, i < n → fl i → lookB ops i = true) (hown : ∀ i, i < n → fl i → ownB ops i = true)
    (hcl : ∀ (i : Nat) (p : Oper), i < n → fl i → ops[i]? = some p → clsB p.op = true) {w : World} :
    ∀ (f : Nat) (listed : Array Bool) (β : Nat → Wt) (a : Act), HeadInv .any ops n listed → cntF listed n = f → (∀ i, i < n → listed.getD i false = false → fl i) →
      Gam E tbF (stS (fun i => listed.getD i false) recs 0 s) (stO (fun i => listed.getD i false) recs 0 o) β a w →
      ∃ b β', Gam E tbF sF (accO recs.reverse o) β' b w ∧ AgF ops n listed a b ∧ ∀ i, i < n → listed.getD i false = false → ∀ p, ops[i]? = some p → ∀ d, p.dst = some d → ∃ u, b.tmps[d]? = some u ∧ YieldsAt P ops w p u b := by
  obtain ⟨rlen, rtb, rinv, rext, rsF, rat⟩ := hrun.all
  have hlen : recs.length = n := by rw [rlen, List.length_take]; simp; omega
  intro f
  induction f with
  | zero =>
    intro listed β a inv hc hlf hg
    have hall := cntF_zero hc
    obtain ⟨e1, e2⟩ := st_full (o := o) hall hlen rsF
    rw [e1, e2] at hg
    exact ⟨a, β, hg, .refl, fun i hi hl => by rw [hall i hi] at hl; cases hl⟩
  | succ f ih =>
    intro listed β a inv hc hlf hg
    obtain ⟨i, hin, hLi, hlow⟩ := cntF_pos (n := n) (listed := listed) (by omega)
    have his : i < ops.size := by omega
    have hpi : ops[i]? = some ops[i] := Array.getElem?_eq_getElem his
    have hi : i ∈ Region.ready .any ops listed := mem_ready.2 ⟨getD_in (by rw [inv.size]; omega) hLi, _, hpi, fun e he hb => hlow _ (hbk i _ hpi e he hb)⟩
    have hfi := hlf i hin hLi
    obtain ⟨p, r, H⟩ := draw_at hrun hn b5 hnew hfr hN inv hg hi hin
    have hv := H.val (hcl i p hin hfi H.hp)
    have hset : ∀ j, j ≠ i → (listed.setIfInBounds i true).getD j false = listed.getD j false := fun j hj => getD_set_ne false (Ne.symm hj)
    have hseti : (listed.setIfInBounds i true).getD i false = true := by
      have : i < listed.size := by rw [inv.size]; omega
      simp [this]
    have hcnt : cntF (listed.setIfInBounds i true) n = f := by
      have := (cntF_set (listed := listed) (i := i) (by rw [inv.size]; omega) hLi (n := n)).1 hin
      omega
    have hlf' : ∀ j, j < n → (listed.setIfInBounds i true).getD j false = false → fl j := fun j hj hl => by
      by_cases e : j = i
      · subst e; rw [hseti] at hl; cases hl
      · rw [hset j e] at hl; exact hlf j hj hl
    have key : ∃ u, YieldsAt P ops w p u a ∧ Gam E tbF (stS (fun k => (listed.setIfInBounds i true).getD k false) recs 0 s) (stO (fun k => (listed.setIfInBounds i true).getD k false) recs 0 o) β (a.put p.dst u) w := by
      cases ht : tg tbF r.c with
      | true =>
        obtain ⟨u, h1, h2⟩ := hv.2 ht
        refine ⟨u, .inl ⟨by rw [H.want, ht], .inl h1⟩, ?_⟩
        have := H.post u w β (by rw [hv.1]; exact hg) fun _ => by rw [hv.1]; exact h2
        rw [ht] at this
        exact this
      | false =>
        refine ⟨undef, .inr ⟨by rw [H.want, ht], rfl⟩, ?_⟩
        have := H.post undef w β (by rw [hv.1]; exact hg) fun h => by rw [ht] at h; cases h
        rw [ht] at this
        exact this
    obtain ⟨u, hy, hg'⟩ := key
    obtain ⟨b, β', g1, g2, g3⟩ := ih _ β _ (inv.set hi hin) hcnt hlf' hg'
    have hd := H.dst
    have hdsi : dstB ops i r.d = true := by unfold dstB; rw [H.hp]; simp [hd]
    have hown' : ∀ j, j < ops.size → j ≠ i → dstB ops j r.d = false := fun j hj hji => by
      have := hown i hin hfi
      unfold ownB at this
      rw [H.hp] at this
      simp only [hd] at this
      have := List.all_eq_true.1 this j (List.mem_range.2 hj)
      simp only [Bool.or_eq_true, Bool.not_eq_true'] at this
      rcases this with q | q
      · exact absurd (Nat.eq_of_beq_eq_true q).symm hji
      · exact q
    have hsz : a.tmps.size = E.n := hg.size
    refine ⟨b, β', g1, ⟨by rw [← g2.df, put_df], by rw [← g2.sz, put_sz], fun t ht => ?_⟩, fun j hj hl q hq d hqd => ?_⟩
    · have hne : r.d ≠ t := fun e => by
        have := ht i hin hLi
        rw [← e, hdsi] at this; cases this
      rw [← g2.sl t fun j hj hl => ht j hj (by
        by_cases e : j = i
        · subst e; exact hLi
        · rw [hset j e] at hl; exact hl), hd, put_get, if_neg hne]
    · by_cases e : j = i
      · subst e
        have : q = p := Option.some.inj (hq.symm.trans H.hp)
        subst this
        rw [hd] at hqd
        cases hqd
        have hb : b.tmps[r.d]? = some u := by
          rw [← g2.sl r.d fun k hk hl' => ?_, hd, put_get, if_pos rfl, if_pos (by rw [hsz, hN]; exact H.lt)]
          by_cases e : k = j
          · subst e; rw [hseti] at hl'; cases hl'
          · exact hown' k (by omega) e
        refine ⟨u, hb, ?_⟩
        have hlook : ∀ t ∈ q.looksAt ops, b.tmps[t]? = a.tmps[t]? := fun t ht => by
          have hl0 := hlk j hin hfi
          unfold lookB at hl0
          rw [H.hp] at hl0
          have hl1 : ∀ k, k < ops.size → dstB ops k t = true → k < j ∧ edgeB ops j k = true := fun k hk hdk => by
            have := List.all_eq_true.1 (List.all_eq_true.1 hl0 t ht) k (List.mem_range.2 hk)
            simp only [hdk, Bool.not_true, Bool.false_or, Bool.and_eq_true] at this
            exact ⟨by simpa [Nat.blt_eq] using this.1, this.2⟩
          rw [← g2.sl t fun k hk hl' => ?_, hd, put_get, if_neg fun e => ?_]
          · have := (hl1 j his (by rw [← e]; exact hdsi)).1
            omega
          · cases hdk : dstB ops k t with
            | false => rfl
            | true =>
              obtain ⟨q1, q2⟩ := hl1 k (by omega) hdk
              rw [hset k (by omega), hlow k q1] at hl'; cases hl'
        obtain ⟨h1, h2⟩ := exec_same (a := b) (b := a) (p := q) (fun cs k e => by
          have := hsel j q H.hp; rw [e] at this; cases this) hlook
        exact hy.of_same h1 h2
      · exact g3 j hj (by rw [hset j e]; exact hl) q hq d hqd
end
/-! ## The whole -/
def ldB : Op → Bool
  | .load _ _ => true
  | _ => false
def fopB (T : TT) (ops : Array Oper) (i : Nat) : Bool := match ops[i]? with
  | some p => match p.op with
    | .move _ => true
    | .assign _ => true
    | .extract _ _ => true
    | .indexAddr _ _ _ => true
    | .fieldAddr t _ f => match lk T t with
      | some ti => ti.offs[f]?.isSome
      | none => false
    | .load _ _ => p.guard.isNone
    | _ => false
  | none => false
def allB (ops : Array Oper) (f : Nat → Oper → Bool) : Bool := (List.range ops.size).all fun i => match ops[i]? with
  | some p => f i p
  | none => true
def floatB (T : TT) (ops : Array Oper) (n : Nat) : Bool :=
  Nat.blt n ops.size && Region.chainB .any ops n && backB ops && useB ops n && (allB ops fun _ p => nselB p.op) && allB ops fun i _ => (Nat.blt i n && cloB ops n n n i) || (lookB ops i && (Nat.ble n i || (ownB ops i && fopB T ops i)))
def pinV : AV → Bool
  | .i _ _ => true
  | .b _ => true
  | _ => false
theorem pin_eq {S S' : Nat → Prop} {β β' : Nat → Wt} {w w' : World} {v : AV} {u u' : Value} (hp : pinV v = true) (h : rel S β w v u) (h' : rel S' β' w' v u') : u = u' := by
  cases v <;> simp only [pinV, Bool.false_eq_true] at hp <;> (unfold rel at h h'; rw [h, h'])
def lodK (ops : Array Oper) (n : Nat) : Nat → List Oper → List HRec → (List (HRec × Oper) → Prop) → Prop
  | _, [], _, K => K []
  | _, _ :: _, [], K => K []
  | i, p :: l, r :: rs, K => match ldB p.op && !cloB ops n n n i with
    | true => lodK ops n (i + 1) l rs fun L => K ((r, p) :: L)
    | false => lodK ops n (i + 1) l rs K
theorem lodK_ok {ops : Array Oper} {n : Nat} : ∀ {k : Nat} {l : List Oper} {rs : List HRec} {K : List (HRec × Oper) → Prop}, lodK ops n k l rs K → ∃ L, K L ∧ (∀ x ∈ L, ldB x.2.op = true) ∧ ∀ i p r, l[i]? = some p → rs[i]? = some r → ldB p.op = true → cloB ops n n n (k + i) = false → (r, p) ∈ L
  | _, [], _, _, h => ⟨_, h, fun x hx => (by cases hx), fun i p r h => by simp at h⟩
  | _, _ :: _, [], _, h => ⟨_, h, fun x hx => (by cases hx), fun i p r _ h => by simp at h⟩
  | k, p :: l, r :: rs, K, h => by
    simp only [lodK] at h
    split at h
    · rename_i hb
      obtain ⟨L, h1, h0, h2⟩ := lodK_ok h
      refine ⟨_, h1, fun x hx => ?_, fun i p' r' hp hr hl hc => ?_⟩
      · rcases List.mem_cons.1 hx with rfl | hx
        · simp only [Bool.and_eq_true] at hb; exact hb.1
        · exact h0 x hx
      cases i with
      | zero => simp at hp hr; subst hp hr; exact List.mem_cons_self
      | succ i => exact List.mem_cons_of_mem _ (h2 i p' r' (by simpa using hp) (by simpa using hr) hl (by rw [show k + 1 + i = k + (i + 1) by omega]; exact hc))
    · rename_i hb
      obtain ⟨L, h1, h0, h2⟩ := lodK_ok h
      refine ⟨_, h1, h0, fun i p' r' hp hr hl hc => ?_⟩
      cases i with
      | zero =>
        simp at hp hr; subst hp hr
        rw [Nat.add_zero] at hc
        rw [hl, hc] at hb; cases hb
      | succ i => exact h2 i p' r' (by simpa using hp) (by simpa using hr) hl (by rw [show k + 1 + i = k + (i + 1) by omega]; exact hc)
/-- What was loaded is still there. -/
def reL (P : Program) (T : TT) (ops : Array Oper) : List (HRec × Oper) → Sl → Os → Prop → Prop
  | [], s, o, K => K
  | (r, p) :: L, s, o, K => match lk s r.d with
    | some (0, v) => v = r.v ∧ pinV r.v = true ∧ add1 P T ops [] s o 0 r.d p.op fun v _ => v = r.v ∧ reL P T ops L s o K
    | _ => False
def Yl (P : Program) (ops : Array Oper) (L : List (HRec × Oper)) (a : Act) (w : World) : Prop := ∀ x ∈ L, clsB x.2.op = true → x.2.guard = none → ∃ u, a.tmps[x.1.d]? = some u ∧ YieldsAt P ops w x.2 u a
def clsL : List (HRec × Oper) → Bool
  | [] => true
  | x :: L => clsB x.2.op && clsL L
theorem reL_ok {P : Program} {T : TT} {ops : Array Oper} (hT : TTok P T) : ∀ {L : List (HRec × Oper)} {s : Sl} {o : Os} {K : Prop}, clsL L = true → reL P T ops L s o K → K ∧ ∀ E β a w, Gam E [] s o β a w → Yl P ops L a w
  | [], s, o, K, hc, h => ⟨h, fun E β a w hg x hx => nomatch hx⟩
  | (r, p) :: L, s, o, K, hc, h => by
    simp only [clsL, Bool.and_eq_true] at hc
    simp only [reL] at h
    split at h
    · rename_i v hl
      obtain ⟨h1, h2, h3⟩ := h
      obtain ⟨v', ⟨h4, h5⟩, hv⟩ := add1v_ok hT hc.1 h3
      subst h1
      obtain ⟨hK, hY⟩ := reL_ok hT hc.2 h5
      refine ⟨hK, fun E β a w hg x hx hcx hgx => ?_⟩
      rcases List.mem_cons.1 hx with rfl | hx
      · obtain ⟨u0, e1, e2⟩ := hg.slots _ _ _ hl
        rw [tg_zero TbOk.nil] at e1
        obtain ⟨d, op, ty, pos, after, gu⟩ := p
        obtain ⟨u, e3, e4⟩ := hv E [] s o β a w (Ext.refl _) (fun _ _ _ _ => rfl) (fun _ _ h => h) hg (tg_zero TbOk.nil) (tg_zero TbOk.nil) d ty pos after gu
        have e5 := e2 (tg_zero TbOk.nil)
        rw [h4] at e4
        have := pin_eq h2 e4 e5
        subst this
        simp only at hgx
        subst hgx
        exact ⟨u, e1, .inl ⟨rfl, .inl e3⟩⟩
      · exact hY E β a w hg x hx hcx hgx
    · cases h
def tailK (P : Program) (T : TT) (n : Nat) (ops : Array Oper) (L : List (HRec × Oper)) : List Oper → Tb → Sl → Os → (Sl → Os → Prop) → Prop
  | [], tb, s, o, K => exec P T n ops [] tb s o K
  | p :: rest, tb, s, o, K => exec P T n ops [p] tb s o fun s o => uncK s fun s => reL P T ops L s o (tailK P T n ops L rest [] s o K)
theorem wp_to_QF {P : Program} {p : Oper} {a : Act} {w : World} {K K' : Act → World → Prop} {Q : Exit → Act → World → Prop} (hQ : ∀ e a w, Q e a w → e = .normal) (hK : ∀ a w, K a w → K' a w) (h : p.wp P a w K Q) : p.wp P a w K' QF := by
  unfold Oper.wp at *
  generalize (execOp a.eval p).run P w = r at *
  cases r with
  | ok n w' =>
    cases n <;> simp only [Oper.upon] at h ⊢ <;>
      first
        | exact hK _ _ h
        | (refine Calls.mono h fun e w'' he => ?_; cases e <;> first | exact hK _ _ he | exact absurd (hQ _ _ _ he) (by simp) | (obtain ⟨_, _, he⟩ := he; exact absurd (hQ _ _ _ he) (by simp)))
        | exact Rows.mono h (fun _ _ he => hK _ _ he)
  | halt x w' => cases x <;> simp only [Oper.upon] at h ⊢ <;> first | exact h.elim | exact absurd (hQ _ _ _ h) (by simp)
theorem tail_ok {P : Program} {T : TT} {n : Nat} {ops : Array Oper} {L : List (HRec × Oper)} (hT : TTok P T) (hcl : clsL L = true) : ∀ {rest : List Oper} {k : Nat} {tb : Tb} {s : Sl} {o : Os} {K : Sl → Os → Prop}, TbOk tb → TInv ops tb s → (∀ j, rest[j]? = ops[k + j]?) → tailK P T n ops L rest tb s o K → ∀ {E : Env} {Q : Exit → Act → World → Prop}, E.n = n → (∀ s' o', K s' o' → ∀ β a w, Gam E [] s' o' β a w → Q .normal a w) →
    ∀ β a w, Gam E tb s o β a w → Vf P ops Q (Yl P ops L) rest k a w
  | [], k, tb, s, o, K, ht, hi, hj, h, E, Q, hn, hQ, β, a, w, hg => exec_ok (Q := Q) hT ht hi h hn hQ β a w hg
  | p :: rest, k, tb, s, o, K, ht, hi, hj, h, E, Q, hn, hQ, β, a, w, hg => by
    have hp : ops[k]? = some p := by have := hj 0; simpa using this.symm
    have h1 : wpList P ops (fun e a w => e = .normal ∧ a.defers = [] ∧ Yl P ops L a w ∧ Vf P ops Q (Yl P ops L) rest (k + 1) a w) [p] a w := exec_ok (K := fun s o => uncK s fun s => reL P T ops L s o (tailK P T n ops L rest [] s o K)) (Q := fun e a w => e = .normal ∧ a.defers = [] ∧ Yl P ops L a w ∧ Vf P ops Q (Yl P ops L) rest (k + 1) a w) hT ht hi h hn (fun s' o' hk β a w hg => by
      obtain ⟨s2, hk, hs⟩ := uncK_ok hk
      obtain ⟨hk, hY⟩ := reL_ok hT hcl hk
      have hg2 : Gam E [] s2 o' β a w := hg.slotsTo TbOk.nil fun d c v hl => hg.slots d c v (hs d c v hl).2
      exact ⟨rfl, hg.defers, hY E β a w hg2, tail_ok hT hcl TbOk.nil (TInv.nil fun d c v hl => (hs d c v hl).1) (fun j => by have := hj (j + 1); simpa [Nat.add_assoc, Nat.add_comm 1 j] using this) hk hn hQ β a w hg2⟩) β a w hg
    unfold Vf
    unfold wpOp
    simp only [hp]
    unfold wpList at h1
    split at h1
    · rename_i hw
      rw [if_pos hw]
      rcases h1 with h1 | ⟨_, _, _, h1⟩
      · exact .inl (wp_to_QF (fun e a w h => h.1) (fun a w h => h.2) h1)
      · cases h1.1
    · rename_i hw
      rw [if_neg hw]
      exact h1.2
theorem loads_cls {L : List (HRec × Oper)} (h : ∀ x ∈ L, ldB x.2.op = true) : clsL L = true := by
  induction L with
  | nil => rfl
  | cons x L ih =>
    simp only [clsL, Bool.and_eq_true]
    refine ⟨?_, ih fun y hy => h y (List.mem_cons_of_mem _ hy)⟩
    have := h x List.mem_cons_self
    cases hx : x.2.op <;> rw [hx] at this <;> simp [ldB] at this <;> rfl
theorem allB_ok {ops : Array Oper} {f : Nat → Oper → Bool} (h : allB ops f = true) {i : Nat} {p : Oper} (hp : ops[i]? = some p) : f i p = true := by
  have := List.all_eq_true.1 h i (List.mem_range.2 (Array.getElem?_eq_some_iff.1 hp).1)
  simp only [hp] at this
  exact this
section
variable {P : Program} {T : TT} {E : Env} {ops : Array Oper} {Q : Exit → Act → World → Prop} {n N : Nat} {o : Os} {s sF : Sl} {tbF : Tb} {recs : List HRec} {L : List (HRec × Oper)}
theorem draw_flo (hT : TTok P T) (hrun : Run P ops N o (ops.toList.take n) [] s recs tbF sF) (hB : floatB T ops n = true) (hnew : newB ops n recs = true) (hfr : ∀ r ∈ recs, freshs r.no s o = true) (hN : E.n = N)
    (hL : ∀ i p r, ops.toList[i]? = some p → recs[i]? = some r → ldB p.op = true → cloB ops n n n (0 + i) = false → (r, p) ∈ L)
    (htail : ∀ β a w, Gam E tbF sF (accO recs.reverse o) β a w → Vf P ops Q (Yl P ops L) (ops.toList.drop n) n a w) :
    ∀ (f : Nat) (listed : Array Bool) (β : Nat → Wt) (a : Act) (w : World), HeadInv .any ops n listed → cntF listed n = f → Gam E tbF (stS (fun i => listed.getD i false) recs 0 s) (stO (fun i => listed.getD i false) recs 0 o) β a w → wpAny P .any ops Q (f + (ops.size - n)) listed a w := by
  obtain ⟨rlen, rtb, rinv, rext, rsF, rat⟩ := hrun.all
  simp only [floatB, Bool.and_eq_true] at hB
  obtain ⟨⟨⟨⟨⟨b1, b2⟩, b3⟩, b4⟩, b5⟩, b6⟩ := hB
  have hlt : n < ops.size := by simpa [Nat.blt_eq] using b1
  have hn : n ≤ ops.size := by omega
  have hlen : recs.length = n := by rw [rlen, List.length_take]; simp; omega
  have hsel : ∀ (i : Nat) (p : Oper), ops[i]? = some p → nselB p.op = true := fun i p hp => allB_ok b5 hp
  have hbk : ∀ (i : Nat) (p : Oper), ops[i]? = some p → ∀ e ∈ p.after, Region.binds .any e = true → e.on < i := fun i p hp e he hb => by
    have hi : i < ops.size := (Array.getElem?_eq_some_iff.1 hp).1
    have := List.all_eq_true.1 b3 i (List.mem_range.2 hi)
    simp only [hp] at this
    have := List.all_eq_true.1 this e (by simpa using he)
    simp only [hb, Bool.not_true, Bool.false_or] at this
    simpa [Nat.blt_eq] using this
  have h6 : ∀ (i : Nat) (p : Oper), ops[i]? = some p → (i < n ∧ cloB ops n n n i = true) ∨ (lookB ops i = true ∧ (n ≤ i ∨ (ownB ops i = true ∧ fopB T ops i = true))) := fun i p hp => by
    have := allB_ok b6 hp
    simp only [Bool.or_eq_true, Bool.and_eq_true] at this
    rcases this with ⟨h1, h2⟩ | ⟨h1, h2⟩
    · exact .inl ⟨by simpa [Nat.blt_eq] using h1, h2⟩
    · exact .inr ⟨h1, h2.imp Nat.le_of_ble_eq_true id⟩
  have hat : ∀ i, i < n → ∃ p, ops[i]? = some p := fun i hi => ⟨_, Array.getElem?_eq_getElem (by omega)⟩
  have hf6 : ∀ (i : Nat) (p : Oper), i < n → cloB ops n n n i = false → ops[i]? = some p → lookB ops i = true ∧ ownB ops i = true ∧ fopB T ops i = true := fun i p hi hc hp => by
    rcases h6 i p hp with ⟨_, h1⟩ | ⟨h1, h2⟩
    · rw [hc] at h1; cases h1
    · rcases h2 with h2 | h2
      · omega
      · exact ⟨h1, h2⟩
  have hlk : ∀ i, (n ≤ i ∨ (i < n ∧ cloB ops n n n i = false)) → lookB ops i = true := fun i hi => by
    rcases hi with hi | ⟨hi, hc⟩
    · cases hp : ops[i]? with
      | none => unfold lookB; rw [hp]
      | some p =>
        rcases h6 i p hp with ⟨h1, _⟩ | h
        · omega
        · exact h.1
    · obtain ⟨p, hp⟩ := hat i hi
      exact (hf6 i p hi hc hp).1
  have hown : ∀ i, i < n → (i < n ∧ cloB ops n n n i = false) → ownB ops i = true := fun i hi hc => by
    obtain ⟨p, hp⟩ := hat i hi
    exact (hf6 i p hi hc.2 hp).2.1
  have hcls : ∀ (i : Nat) (p : Oper), i < n → (i < n ∧ cloB ops n n n i = false) → ops[i]? = some p → clsB p.op = true := fun i p hi hc hp => by
    have := (hf6 i p hi hc.2 hp).2.2
    unfold fopB at this
    rw [hp] at this
    simp only at this
    split at this <;> first | (rename_i e; rw [e]; rfl) | cases this
  have hfl : ∀ (i : Nat) (p : Oper), i < n → (i < n ∧ cloB ops n n n i = false) → ops[i]? = some p → Wfr P p ∨ ∀ a w, Yl P ops L a w → ∀ d, p.dst = some d → ∃ u, a.tmps[d]? = some u ∧ YieldsAt P ops w p u a := fun i p hi hc hp => by
    have hb := (hf6 i p hi hc.2 hp).2.2
    have hcl := hcls i p hi hc hp
    unfold fopB at hb
    rw [hp] at hb
    simp only at hb
    obtain ⟨dst, op, ty, pos, after, gu⟩ := p
    simp only at hb hcl
    split at hb
    · exact .inl Wfr.move
    · exact .inl Wfr.assign
    · exact .inl Wfr.extract
    · exact .inl Wfr.index
    · rename_i t x f
      split at hb
      · rename_i ti hti
        obtain ⟨jn, hj⟩ := Option.isSome_iff_exists.1 hb
        exact .inl (Wfr.field (hT _ _ hti) hj)
      · cases hb
    · rename_i t x
      refine .inr fun a w hY d hd => ?_
      have hr : recs[i]? = some recs[i] := List.getElem?_eq_getElem (by omega)
      have hA := rat i _ _ (by rw [List.getElem?_take, if_pos hi]; simpa using hp) hr
      have hm := hL i _ _ (by simpa using hp) hr rfl (by rw [Nat.zero_add]; exact hc.2)
      have hgu : gu = none := by cases gu with
        | none => rfl
        | some _ => cases hb
      have := hY _ hm rfl hgu
      have hdd := hA.dst
      rw [hd] at hdd
      cases hdd
      exact this
    · cases hb
  have done : ∀ (listed : Array Bool) (β : Nat → Wt) (a : Act) (w : World), HeadInv .any ops n listed → (∀ i, i < n → listed.getD i false = false → i < n ∧ cloB ops n n n i = false) → Gam E tbF (stS (fun i => listed.getD i false) recs 0 s) (stO (fun i => listed.getD i false) recs 0 o) β a w → wpAny P .any ops Q (cntF listed n + (ops.size - n)) listed a w := fun listed β a w inv hlf hg => by
    obtain ⟨b, β', g1, g2, g3⟩ := complete hrun hn b4 hnew hfr hN (fl := fun i => i < n ∧ cloB ops n n n i = false) hsel hbk (fun i hi hc => hlk i (.inr hc)) hown hcls _ listed β a inv rfl hlf hg
    exact fl_any hn b2 hsel hbk hlk hown hfl _ n listed a b w inv.size (fun t h1 h2 => inv.tail t h1 h2) (fun t h1 h2 => by omega) (Nat.le_refl _) hn hlf rfl g2 g3 (htail β' b w g1)
  intro f
  induction f with
  | zero =>
    intro listed β a w inv hc hg
    have := done listed β a w inv (fun i hi hl => by rw [cntF_zero hc i hi] at hl; cases hl) hg
    rwa [hc] at this
  | succ f ih =>
    intro listed β a w inv hc hg
    by_cases hrn : n ∈ Region.ready .any ops listed
    · have := done listed β a w inv (fun i hi hl => by
        refine ⟨hi, ?_⟩
        cases hq : cloB ops n n n i with
        | false => rfl
        | true =>
          obtain ⟨hun, p, hp, hedges⟩ := mem_ready.1 hrn
          have edge : ∀ {b : Nat}, edgeB ops n b = true → listed.getD b false = true := fun {b} he => by
            unfold edgeB at he
            rw [hp] at he
            obtain ⟨e, he1, he2⟩ := List.any_eq_true.1 he
            simp only [Bool.and_eq_true] at he2
            rw [← Nat.eq_of_beq_eq_true he2.1]
            exact hedges e (by simpa using he1) he2.2
          have : listed.getD i false = true := by
            cases n with
            | zero => omega
            | succ m =>
              simp only [cloB, Bool.or_eq_true] at hq
              rcases hq with h | h
              · exact edge h
              · obtain ⟨k, _, hk⟩ := List.any_eq_true.1 h
                simp only [Bool.and_eq_true] at hk
                exact cloB_ok inv hk.2 (edge hk.1)
          rw [this] at hl; cases hl) hg
      rwa [hc] at this
    · rw [show f + 1 + (ops.size - n) = (f + (ops.size - n)) + 1 by omega]
      obtain ⟨i0, hi0, hi0l, hi0m⟩ := cntF_pos (n := n) (listed := listed) (by omega)
      have hready0 : i0 ∈ Region.ready .any ops listed := by
        have h1 : ops[i0]? = some ops[i0] := Array.getElem?_eq_getElem (by omega)
        exact mem_ready.2 ⟨getD_in (by rw [inv.size]; omega) hi0l, _, h1, fun e he hb => hi0m _ (hbk i0 _ h1 e he hb)⟩
      refine ⟨(fun h => by rw [h] at hready0; cases hready0), fun i hi => ?_⟩
      obtain ⟨hun, p, hp, hedges⟩ := mem_ready.1 hi
      have his : i < ops.size := (Array.getElem?_eq_some_iff.1 hp).1
      have hin : i < n := by
        rcases Nat.lt_or_ge i n with h | h
        · exact h
        · exfalso
          by_cases e : i = n
          · subst e; exact hrn hi
          · have := List.all_eq_true.1 b2 i (List.mem_range.2 his)
            simp only [Bool.or_eq_true, decide_eq_true_eq] at this
            rcases this with q' | q'
            · omega
            · obtain ⟨o', ho', e', he, hb, hon⟩ := Region.waitsFor_spec q'
              have : o' = p := Option.some.inj (ho'.symm.trans hp)
              subst this
              have h2 := hedges e' he hb
              rw [hon, getD_both (inv.tail (i - 1) (by omega) (by omega))] at h2
              cases h2
      have hLi : listed.getD i false = false := getD_both hun
      have inv' := inv.set hi hin
      have hcnt : cntF (listed.setIfInBounds i true) n = f := by
        have := (cntF_set (listed := listed) (i := i) (by rw [inv.size]; omega) hLi (n := n)).1 hin
        omega
      exact draw_step hrun hn b4 hnew hfr hN inv hg hi hin fun β' a' w' hg' => ih _ β' a' w' inv' hcnt hg'
end
end Go.Proofs.Ytecknkgiaahheaa

/- A last move of a constant that waits for nothing may come at any time. -/
namespace Go.Proofs.Ytecknkgiaahheaa
open Go.RowKit
set_option linter.unusedVariables false
set_option linter.unusedSimpArgs false
structure LateOk (pre ops : Array Oper) (d : Nat) (c : Value) : Prop where
  sz : ops.size = pre.size + 1
  at' : ∀ i, i < pre.size → ops[i]? = pre[i]?
  last : ∃ p, ops[pre.size]? = some p ∧ p.op = .move (.const c) ∧ p.dst = some d ∧ p.guard = none ∧ ∀ e ∈ p.after, Region.binds .any e = false
  bk : ∀ (i : Nat) (p : Oper), pre[i]? = some p → ∀ e ∈ p.after, Region.binds .any e = true → e.on < pre.size
  look : ∀ (i : Nat) (p : Oper), pre[i]? = some p → ∀ t ∈ p.looksAt pre, t ≠ d
  dst : ∀ (i : Nat) (p : Oper), pre[i]? = some p → p.dst ≠ some d
  sel : ∀ (i : Nat) (p : Oper), pre[i]? = some p → nselB p.op = true
  gd : ∀ (i : Nat) (p : Oper), pre[i]? = some p → ∀ j b, p.guard = some (j, b) → j < pre.size
section
variable {P : Program} {pre ops : Array Oper} {d : Nat} {c : Value} {Q Q' : Exit → Act → World → Prop}
theorem wpOp_late (hl : LateOk pre ops d c) (hQ : ∀ e a w, Q' e a w → e = .normal) {i : Nat} (hi : i < pre.size) {a b : Act} {w : World} {K K' : Act → World → Prop}
    (hag : b.put (some d) c = a.put (some d) c) (hK : ∀ p : Oper, pre[i]? = some p → ∀ v ds w', K ((⟨a.tmps, ds⟩ : Act).put p.dst v) w' → K' ((⟨b.tmps, ds⟩ : Act).put p.dst v) w') (h : wpOp P pre Q' i K a w) : wpOp P ops Q i K' b w := by
  have hp : pre[i]? = some pre[i] := Array.getElem?_eq_getElem hi
  generalize pre[i] = p at hp
  have hsl : ∀ t ∈ p.looksAt pre, b.tmps[t]? = a.tmps[t]? := fun t ht => by
    have hne := hl.look i p hp t ht
    have := congrArg (fun x : Act => x.tmps[t]?) hag
    simp only [put_get, if_neg (Ne.symm hne)] at this
    exact this
  have hdf : b.defers = a.defers := by
    have := congrArg (fun x : Act => x.defers) hag
    simpa only [put_df] using this
  have hK1 : ∀ v w', K (a.put p.dst v) w' → K' (b.put p.dst v) w' := fun v w' h => by
    have := hK p hp v a.defers w' h
    rw [← hdf] at this; exact this
  have hK2 : ∀ v x w', K ((⟨a.tmps, x :: a.defers⟩ : Act).put p.dst v) w' → K' ((⟨b.tmps, x :: b.defers⟩ : Act).put p.dst v) w' := fun v x w' h => by
    have := hK p hp v (x :: a.defers) w' h
    rw [← hdf] at this; exact this
  obtain ⟨he, hw⟩ := exec_same (ops := pre) (p := p) (a := b) (b := a) (fun cs k e => by have := hl.sel i p hp; rw [e] at this; cases this) hsl
  have hw2 : Region.wanted p (yielded ops b.tmps) = Region.wanted p (yielded pre b.tmps) := by
    unfold Region.wanted
    cases hg : p.guard with
    | none => rfl
    | some gw =>
      obtain ⟨g, wn⟩ := gw
      simp only
      unfold yielded
      rw [hl.at' g (hl.gd i p hp g wn hg)]
  unfold wpOp at h ⊢
  rw [hl.at' i hi]
  simp only [hp] at h ⊢
  rw [hw2, hw]
  split
  · rename_i hwt
    rw [if_pos hwt] at h
    have h : p.wp P a w K Q' := by
      rcases h with h | ⟨_, _, _, h⟩
      · exact h
      · exact absurd (hQ _ _ _ h) (by simp)
    have h := wp_to_QF hQ (fun a w h => h) h
    refine .inl ?_
    unfold Oper.wp at h ⊢
    rw [he]
    generalize (execOp a.eval p).run P w = r at h ⊢
    cases r with
    | ok n w' =>
      cases n <;> simp only [Oper.upon] at h ⊢ <;>
        first
          | exact hK1 _ _ h
          | (refine Calls.mono h fun e w'' he => ?_; cases e <;> first | exact hK1 _ _ he | exact he.elim | exact (letsQF he).elim)
          | exact Rows.mono h (fun _ _ he => hK1 _ _ he)
          | exact hK2 _ _ _ h
    | halt x w' => cases x <;> simp only [Oper.upon] at h ⊢ <;> exact h.elim
  · rename_i hwt
    rw [if_neg hwt] at h
    exact hK1 _ _ h
structure LsOk (pre : Array Oper) (lp ls : Array Bool) : Prop where
  p : lp.size = pre.size
  s : ls.size = pre.size + 1
  e : ∀ j, j < pre.size → ls[j]? = lp[j]?
theorem LsOk.get {lp ls : Array Bool} (h : LsOk pre lp ls) {j : Nat} (hj : j < pre.size) (x : Bool) : ls.getD j x = lp.getD j x := by
  rw [Array.getD_eq_getD_getElem?, Array.getD_eq_getD_getElem?, h.e j hj]
theorem LsOk.set {lp ls : Array Bool} (h : LsOk pre lp ls) {i : Nat} (hi : i < pre.size) : LsOk pre (lp.setIfInBounds i true) (ls.setIfInBounds i true) :=
  ⟨by simp [h.p], by simp [h.s], fun j hj => by
    rw [Array.getElem?_setIfInBounds, Array.getElem?_setIfInBounds, h.p, h.s, h.e j hj]
    by_cases e : i = j
    · subst e; rw [if_pos rfl, if_pos rfl, if_pos hi, if_pos (by omega)]
    · rw [if_neg e, if_neg e]⟩
theorem LsOk.last {lp ls : Array Bool} (h : LsOk pre lp ls) : LsOk pre lp (ls.setIfInBounds pre.size true) :=
  ⟨h.p, by simp [h.s], fun j hj => by rw [Array.getElem?_setIfInBounds, if_neg (by omega)]; exact h.e j hj⟩
theorem late_ready (hl : LateOk pre ops d c) {lp ls : Array Bool} (h : LsOk pre lp ls) {i : Nat} (hi : i < pre.size) : i ∈ Region.ready .any ops ls ↔ i ∈ Region.ready .any pre lp := by
  rw [mem_ready, mem_ready, h.get hi, hl.at' i hi]
  refine and_congr Iff.rfl ⟨fun ⟨o, h1, h2⟩ => ⟨o, h1, fun e he hb => ?_⟩, fun ⟨o, h1, h2⟩ => ⟨o, h1, fun e he hb => ?_⟩⟩
  · rw [← h.get (hl.bk i o h1 e he hb)]; exact h2 e he hb
  · rw [h.get (hl.bk i o h1 e he hb)]; exact h2 e he hb
theorem ready_lt {md : Region.Mode} {ls : Array Bool} {i : Nat} (h : i ∈ Region.ready md ops ls) : i < ops.size := by
  obtain ⟨_, o, h1, _⟩ := mem_ready.1 h
  exact (Array.getElem?_eq_some_iff.1 h1).1
theorem put_late (hl : LateOk pre ops d c) {i : Nat} {p : Oper} (hp : pre[i]? = some p) (a : Act) (v : Value) (ds : List Deferred) : (⟨(a.put (some d) c).tmps, ds⟩ : Act).put p.dst v = ((⟨a.tmps, ds⟩ : Act).put p.dst v).put (some d) c := by
  have h := hl.dst i p hp
  cases hd : p.dst with
  | none => rfl
  | some x =>
    have hne : x ≠ d := fun e => h (by rw [hd, e])
    refine act_ext (Array.ext_getElem? fun t => ?_) rfl
    simp only [put_get, put_sz]
    by_cases e1 : x = t
    · have e2 : ¬ d = t := fun e => hne (e1.trans e.symm)
      rw [if_pos e1, if_neg e2, if_pos e1]
    · rw [if_neg e1, if_neg e1]
theorem late_B (hl : LateOk pre ops d c) (hQ : ∀ e a w, Q' e a w → e = .normal) (hQ2 : ∀ a w, Q' .normal a w → Q .normal (a.put (some d) c) w) :
    ∀ (f : Nat) (lp ls : Array Bool) (a : Act) (w : World), LsOk pre lp ls → ls.getD pre.size true = true → wpAny P .any pre Q' f lp a w → wpAny P .any ops Q f ls (a.put (some d) c) w := by
  have hne : ∀ {lp ls : Array Bool}, LsOk pre lp ls → ls.getD pre.size true = true → ∀ i ∈ Region.ready .any ops ls, i < pre.size := fun {lp ls} h hm i hi => by
    have h1 := ready_lt hi
    rw [hl.sz] at h1
    rcases Nat.lt_or_eq_of_le (Nat.le_of_lt_succ h1) with h2 | h2
    · exact h2
    · subst h2
      have := (mem_ready.1 hi).1
      rw [hm] at this; cases this
  have hnil : ∀ {lp ls : Array Bool}, LsOk pre lp ls → ls.getD pre.size true = true → (Region.ready .any ops ls = [] ↔ Region.ready .any pre lp = []) := fun {lp ls} h hm => by
    constructor
    · intro hr
      refine List.eq_nil_iff_forall_not_mem.2 fun i hi => ?_
      have := (late_ready hl h (ready_lt hi)).2 hi
      rw [hr] at this; cases this
    · intro hr
      refine List.eq_nil_iff_forall_not_mem.2 fun i hi => ?_
      have := (late_ready hl h (hne h hm i hi)).1 hi
      rw [hr] at this; cases this
  intro f
  induction f with
  | zero =>
    intro lp ls a w h hm hw
    exact ⟨(hnil h hm).2 hw.1, hQ2 _ _ hw.2⟩
  | succ f ih =>
    intro lp ls a w h hm hw
    refine ⟨fun hr => hQ2 _ _ (hw.1 ((hnil h hm).1 hr)), fun i hi => ?_⟩
    have hi' := hne h hm i hi
    refine wpOp_late hl hQ hi' (a := a) ?_ (fun p hp v ds w' hk => ?_) (hw.2 i ((late_ready hl h hi').1 hi))
    · refine act_ext (Array.ext_getElem? fun t => ?_) rfl
      simp only [put_get, put_sz]
      split <;> rfl
    · rw [put_late hl hp]
      exact ih _ _ _ _ (h.set hi') (by rw [getD_set_ne true (by omega)]; exact hm) hk
theorem late_A (hl : LateOk pre ops d c) (hQ : ∀ e a w, Q' e a w → e = .normal) (hQ2 : ∀ a w, Q' .normal a w → Q .normal (a.put (some d) c) w) :
    ∀ (f : Nat) (lp ls : Array Bool) (a b : Act) (w : World), LsOk pre lp ls → ls.getD pre.size true = false → b.put (some d) c = a.put (some d) c → wpAny P .any pre Q' f lp a w → wpAny P .any ops Q (f + 1) ls b w := by
  obtain ⟨q, k1, k2, k3, k4, k5⟩ := hl.last
  have hmr : ∀ {ls : Array Bool}, ls.getD pre.size true = false → pre.size ∈ Region.ready .any ops ls := fun {ls} hm => mem_ready.2 ⟨hm, q, k1, fun e he hb => by rw [k5 e he] at hb; cases hb⟩
  have hgo : ∀ (f : Nat) (lp ls : Array Bool) (a b : Act) (w : World), LsOk pre lp ls → ls.getD pre.size true = false → b.put (some d) c = a.put (some d) c → wpAny P .any pre Q' f lp a w → wpOp P ops Q pre.size (wpAny P .any ops Q f (ls.setIfInBounds pre.size true)) b w := fun f lp ls a b w h hm hag hw => by
    unfold wpOp
    rw [k1]
    have hwt : Region.wanted q (yielded ops b.tmps) = true := by unfold Region.wanted; rw [k4]
    simp only [hwt, if_true]
    refine .inl ?_
    unfold Oper.wp
    have he : (execOp b.eval q).run P w = .ok (.value c) w := by
      obtain ⟨dst, op, ty, pos, after, gu⟩ := q
      simp only at k2
      subst k2
      rfl
    rw [he]
    simp only [Oper.upon]
    rw [k3, hag]
    exact late_B hl hQ hQ2 f lp _ a w h.last (by
      have : pre.size < ls.size := by rw [h.s]; omega
      simp [this]) hw
  intro f
  induction f with
  | zero =>
    intro lp ls a b w h hm hag hw
    refine ⟨fun hr => (by have := hmr hm; rw [hr] at this; cases this), fun i hi => ?_⟩
    have h1 := ready_lt hi
    rw [hl.sz] at h1
    rcases Nat.lt_or_eq_of_le (Nat.le_of_lt_succ h1) with h2 | h2
    · have := (late_ready hl h h2).1 hi
      rw [hw.1] at this; cases this
    · subst h2
      exact hgo 0 lp ls a b w h hm hag hw
  | succ f ih =>
    intro lp ls a b w h hm hag hw
    refine ⟨fun hr => (by have := hmr hm; rw [hr] at this; cases this), fun i hi => ?_⟩
    have h1 := ready_lt hi
    rw [hl.sz] at h1
    rcases Nat.lt_or_eq_of_le (Nat.le_of_lt_succ h1) with h2 | h2
    · refine wpOp_late hl hQ h2 (a := a) hag (fun p hp v ds w' hk => ?_) (hw.2 i ((late_ready hl h h2).1 hi))
      refine ih _ _ _ _ _ (h.set h2) (by rw [getD_set_ne true (by omega)]; exact hm) ?_ hk
      have e1 := put_late hl hp a v ds
      have e2 := put_late hl hp b v ds
      rw [← e1, ← e2, hag]
    · subst h2
      exact hgo (f + 1) lp ls a b w h hm hag hw
end
end Go.Proofs.Ytecknkgiaahheaa
