/- The engine and the contracts of the functions that the statement reaches, part 3. -/
import Derived.Test.YtecknkgiaahheaaMb
import Derived.DeepKeys4
import Derived.Maps.Own
import Derived.Test.YtecknkgiaahheaaProg
/- Code, carried out on what is known. -/
namespace Go.Proofs.Ytecknkgiaahheaa
open Go.RowKit
set_option linter.unusedVariables false
set_option linter.unusedSimpArgs false
inductive Ex where
  | n
  | x (i : Nat)
  | r
def Ex.out : Ex → Exit
  | .n => .normal
  | .x i => .exit i
  | .r => .ret
/-- One state says no more than another one. -/
def Ent (s : Sl) (o : Os) (s' : Sl) (o' : Os) : Prop := ∀ (E : Env) (β : Nat → Wt) (a : Act) (w : World), Gam E [] s o β a w → ∃ β', Gam E [] s' o' β' a w
def freshAll : List HRec → Sl → Os → Bool
  | [], _, _ => true
  | r :: rs, s, o => freshs r.no s o && freshAll rs s o
/-- Behind a round of a loop. -/
inductive Again {α : Type} (M : α → Sl × Os) (I : α → Prop) (μ : α → Nat) (m : Nat) (s : Sl) (o : Os) : Prop
  | mk (j : α) (hI : I j) (hμ : μ j < m) (he : Ent s o (M j).1 (M j).2)
/-- What goes on behind: each by its own name, so that no continuation is told twice. -/
def seqK (R : Sl → Os → (Ex → Sl → Os → Prop) → Prop) (K : Ex → Sl → Os → Prop) : Ex → Sl → Os → Prop := fun e s o => match e with
  | .n => R s o K
  | .x i => K (.x i) s o
  | .r => K .r s o
def blkK (id : Nat) (K : Ex → Sl → Os → Prop) : Ex → Sl → Os → Prop := fun e s o => match e with
  | .n => K .n s o
  | .r => K .r s o
  | .x i => match Nat.beq i id with
    | true => K .n s o
    | false => K (.x i) s o
def loopK (A : Sl → Os → Prop) (K : Ex → Sl → Os → Prop) : Ex → Sl → Os → Prop := fun e s o => match e with
  | .n => A s o
  | .x k => K (.x k) s o
  | .r => K .r s o
def norK (K : Ex → Sl → Os → Prop) : Sl → Os → Prop := fun s o => K .n s o
/-- A loop. -/
inductive LoopQ (R : Sl → Os → (Ex → Sl → Os → Prop) → Prop) (s : Sl) (o : Os) (K : Ex → Sl → Os → Prop) : Prop
  | mk (α : Type) (M : α → Sl × Os) (I : α → Prop) (μ : α → Nat) (i : α) (hI : I i) (h0 : Ent s o (M i).1 (M i).2) (round : ∀ i, I i → R (M i).1 (M i).2 (loopK (Again M I μ (μ i)) K))
def accK : List HRec → Os → (Os → Prop) → Prop
  | [], o, K => K o
  | r :: rs, o, K => accK rs o fun o => appK r.no o K
theorem accK_ok : ∀ {l : List HRec} {o : Os} {K : Os → Prop}, accK l o K → K (accO l o)
  | [], o, K, h => h
  | r :: rs, o, K, h => appK_ok (accK_ok (l := rs) h)
def lastC : List Oper → Bool
  | [] => false
  | [p] => match p.op with
    | .call ⟨.value _, _, _⟩ => true
    | _ => false
  | _ :: q :: l => lastC (q :: l)
def memE (i : Nat) : List Nat → Bool
  | [] => false
  | x :: l => bif Nat.beq i x then true else memE i l
def onL : List Edge → List Nat
  | [] => []
  | x :: l => x.on :: onL l
def ancB : List Oper → List Nat → Bool
  | [], _ => true
  | p :: l, A => bif memE l.length A then ancB l (onL p.after.toList ++ A) else false
def lastAll (os : Array Oper) : Bool := match os.toList.reverse with
  | [] => false
  | p :: l => ancB l (onL p.after.toList)
def hdC (os : Array Oper) (n : Nat) : Nat := match n with
  | 0 => 0
  | m + 1 => bif lastAll os && Nat.beq (m + 1) os.toList.length then m else m + 1
/-- How many come in any order: a last call, if all else comes ahead of it, is not one of them. -/
def hdN (os : Array Oper) : Nat := match lastC os.toList with
  | true => hdC os (headN os.toList os.toList)
  | false => headN os.toList os.toList
/-- A drawn region goes one of three ways. -/
inductive Drw0 (p A q B : Prop) : Prop
  | d (h : p) (hA : A)
  | f (h : q) (hB : B)
inductive Drw (p A q B r C : Prop) : Prop
  | d (h : p) (hA : A)
  | f (h : q) (hB : B)
  | l (h : r) (hC : C)
def lateOf (os : Array Oper) : Option (Nat × Value) := match os.toList.reverse with
  | q :: _ => match q.op, q.dst, q.guard with
    | .move (.const c), some d, none => some (d, c)
    | _, _, _ => none
  | [] => none
def preA (os : Array Oper) : Array Oper := os.toList.dropLast.toArray
def lateB (os : Array Oper) : Bool := match os.toList.reverse, lateOf os with
  | q :: _, some (d, _) => (q.after.toList.all fun e => !Region.binds .any e) && allB (preA os) fun i p => (p.after.toList.all fun e => !Region.binds .any e || Nat.blt e.on (preA os).size) && ((p.looksAt (preA os)).all fun t => !Nat.beq t d) && (match p.dst with | some x => !Nat.beq x d | none => true) && nselB p.op && (match p.guard with | some (j, _) => Nat.blt j (preA os).size | none => true)
  | _, _ => false
theorem lateB_ok {os : Array Oper} {d : Nat} {c : Value} (h : lateB os = true) (hl : lateOf os = some (d, c)) : LateOk (preA os) os d c := by
  unfold lateB at h
  rw [hl] at h
  split at h
  · rename_i q l d' c' hr e
    cases e
    simp only [Bool.and_eq_true] at h
    obtain ⟨h1, h2⟩ := h
    have hos : os.toList = l.reverse ++ [q] := by
      have := congrArg List.reverse hr
      rw [List.reverse_reverse, List.reverse_cons] at this; exact this
    have hpre : (preA os).toList = l.reverse := by unfold preA; rw [hos, List.dropLast_concat]
    have hps : (preA os).size = l.reverse.length := by rw [← Array.length_toList, hpre]
    have hsz : os.size = (preA os).size + 1 := by rw [hps, ← Array.length_toList, hos, List.length_append, List.length_singleton]
    have hat : ∀ i, i < (preA os).size → os[i]? = (preA os)[i]? := fun i hi => by
      rw [← Array.getElem?_toList, ← Array.getElem?_toList, hos, hpre, List.getElem?_append_left (by rw [← hps]; exact hi)]
    have hlast : os[(preA os).size]? = some q := by
      rw [← Array.getElem?_toList, hos, hps, List.getElem?_append_right (Nat.le_refl _), Nat.sub_self]; rfl
    have hq : q.op = .move (.const c) ∧ q.dst = some d ∧ q.guard = none := by
      unfold lateOf at hl
      rw [hr] at hl
      simp only at hl
      split at hl
      · rename_i e1 e2 e3
        cases hl
        exact ⟨e1, e2, e3⟩
      · cases hl
    have hall : ∀ (i : Nat) (p : Oper), (preA os)[i]? = some p → ((((p.after.toList.all fun e => !Region.binds .any e || Nat.blt e.on (preA os).size) = true ∧ ((p.looksAt (preA os)).all fun t => !Nat.beq t d) = true) ∧ (match p.dst with | some x => !Nat.beq x d | none => true) = true) ∧ nselB p.op = true) ∧ (match p.guard with | some (j, _) => Nat.blt j (preA os).size | none => true) = true := fun i p hp => by
      have := allB_ok h2 hp
      simpa only [Bool.and_eq_true] using this
    refine ⟨hsz, hat, ⟨q, hlast, hq.1, hq.2.1, hq.2.2, fun e he => ?_⟩, fun i p hp e he hb => ?_, fun i p hp t ht => ?_, fun i p hp hd => ?_, fun i p hp => (hall i p hp).1.2, fun i p hp j b hg => ?_⟩
    · have := List.all_eq_true.1 h1 e (by simpa using he)
      simpa using this
    · have := List.all_eq_true.1 (hall i p hp).1.1.1.1 e (by simpa using he)
      rw [hb] at this
      simpa [Nat.blt_eq] using this
    · have := List.all_eq_true.1 (hall i p hp).1.1.1.2 t ht
      intro e
      subst e
      simp at this
    · have := (hall i p hp).1.1.2
      rw [hd] at this
      simp at this
    · have := (hall i p hp).2
      rw [hg] at this
      simpa [Nat.blt_eq] using this
  · cases h
def drwC (P : Program) (T : TT) (n : Nat) (keep : List Nat) (os : Array Oper) (nF : Nat) (s : Sl) (o : Os) (K : Sl → Os → Prop) : Prop :=
  asgN os.toList nF os.toList fun ds => minK ds keep fun keep => pruK keep s fun s => headK P T n os o nF os.toList [] s [] fun tl tb sF acc => match newB os nF acc.reverse && freshAll acc s o with
    | true => accK acc o fun o => exec P T n os tl tb sF o K
    | false => False
def floC (P : Program) (T : TT) (n : Nat) (keep : List Nat) (os : Array Oper) (nF : Nat) (s : Sl) (o : Os) (K : Sl → Os → Prop) : Prop :=
  asgN os.toList nF os.toList fun ds => minK ds keep fun keep => pruK keep s fun s => headK P T n os o nF os.toList [] s [] fun tl tb sF acc => match newB os nF acc.reverse && freshAll acc s o with
    | true => lodK os nF 0 os.toList acc.reverse fun L => accK acc o fun o => tailK P T n os L tl tb sF o K
    | false => False
def latK (d : Nat) (c : Value) (K : Sl → Os → Prop) : Sl → Os → Prop := fun s o => K ((d, 0, constA c) :: s) o
def latC (P : Program) (T : TT) (n : Nat) (keep : List Nat) (os : Array Oper) (s : Sl) (o : Os) (K : Sl → Os → Prop) : Prop := match lateOf os with
  | some (d, c) => match Nat.blt d n with
    | true => Drw0 (drawB (preA os) (hdN (preA os)) = true) (drwC P T n keep (preA os) (hdN (preA os)) s o (latK d c K)) (floatB T (preA os) (headN (preA os).toList (preA os).toList) = true) (floC P T n keep (preA os) (headN (preA os).toList (preA os).toList) s o (latK d c K))
    | false => False
  | none => False
def runC (P : Program) (T : TT) (n : Nat) (keep : List Nat) : Code → Sl → Os → (Ex → Sl → Os → Prop) → Prop
  | .skip, s, o, K => K .n s o
  | .seq a b, s, o, K => runC P T n keep a s o (seqK (runC P T n keep b) K)
  | .region _ os false, s, o, K => pruK keep s fun s => exec P T n os os.toList [] s o (norK K)
  | .region _ os true, s, o, K => Drw (drawB os (hdN os) = true) (drwC P T n keep os (hdN os) s o (norK K)) (floatB T os (headN os.toList os.toList) = true) (floC P T n keep os (headN os.toList os.toList) s o (norK K)) (lateB os = true) (latC P T n keep os s o (norK K))
  | .cond c x y, s, o, K => match opA s c with
    | some (0, .b t) => (t = true → runC P T n keep x s o K) ∧ (t = false → runC P T n keep y s o K)
    | _ => False
  | .block id c, s, o, K => runC P T n keep c s o (blkK id K)
  | .loop c, s, o, K => LoopQ (runC P T n keep c) s o K
  | .exit i, s, o, K => K (.x i) s o
  | .ret, s, o, K => K .r s o
  | _, _, _, _ => False
theorem freshAll_ok : ∀ {l : List HRec} {s : Sl} {o : Os}, freshAll l s o = true → ∀ r ∈ l, freshs r.no s o = true
  | [], _, _, _, r, hr => nomatch hr
  | x :: l, s, o, h, r, hr => by
    simp only [freshAll, Bool.and_eq_true] at h
    rcases List.mem_cons.1 hr with rfl | hr
    · exact h.1
    · exact freshAll_ok h.2 r hr
theorem wp_loop_ix {P : Program} {Q : Exit → Act → World → Prop} {α : Type} {c : Code} (I : α → Act → World → Prop) (μ : α → Nat) {a : Act} {w : World} (i : α) (h₀ : I i a w)
    (round : ∀ i a w, I i a w → c.wp P (Exit.then (fun a' w' => ∃ j, I j a' w' ∧ μ j < μ i) Q) a w) : (Code.loop c).wp P Q a w := by
  intro b k cs
  have key : ∀ n i a w, μ i = n → I i a w → ∃ e a' w', Q e a' w' ∧ Arrives P (lone (b.at a (.code c :: .inLoop c :: k)) cs w) b k cs e a' w' := by
    intro n
    induction n using Nat.strongRecOn with
    | _ n ih =>
      intro i a w hn hI
      obtain ⟨e, a₁, w₁, hq, harr⟩ := round i a w hI b (.inLoop c :: k) cs
      cases e with
      | normal =>
        obtain ⟨j, hI₁, hlt⟩ := hq
        obtain ⟨e₂, a₂, w₂, hq₂, harr₂⟩ := ih (μ j) (hn ▸ hlt) j a₁ w₁ rfl hI₁
        exact ⟨e₂, a₂, w₂, hq₂, .of_steps (Steps.trans harr (.one step_inLoop)) harr₂⟩
      | _ => exact ⟨_, a₁, w₁, hq, .pass (x := .inLoop c) rfl (fun _ _ => .inl (by simp)) harr⟩
  obtain ⟨e, a', w', hq, harr⟩ := key _ i a w rfl h₀
  exact ⟨e, a', w', hq, .of_steps (.one step_loop) harr⟩
section
variable {P : Program} {T : TT} {n : Nat} {keep : List Nat}
theorem Gam.prune {E : Env} {s s' : Sl} {o : Os} {β : Nat → Wt} {a : Act} {w : World} (hs : ∀ d c v, lk s' d = some (c, v) → lk s d = some (c, v) ∧ memN d keep = true ∧ c = 0) (h : Gam E [] s o β a w) : Gam E [] s' o β a w :=
  h.slotsTo TbOk.nil fun d c v hl => h.slots d c v (hs d c v hl).1
theorem drw_any (hT : TTok P T) {os : Array Oper} {s : Sl} {o : Os} {K : Sl → Os → Prop} (h : Drw0 (drawB os (hdN os) = true) (drwC P T n keep os (hdN os) s o K) (floatB T os (headN os.toList os.toList) = true) (floC P T n keep os (headN os.toList os.toList) s o K)) {E : Env} {Q : Exit → Act → World → Prop} (hn : E.n = n) (hQ : ∀ s' o', K s' o' → ∀ β a w, Gam E [] s' o' β a w → Q .normal a w) :
    ∀ β a w, Gam E [] s o β a w → wpAny P .any os Q os.size (Array.replicate os.size false) a w := fun β a w hg => by
    rcases h with ⟨hB, h⟩ | ⟨hB, h⟩
    · unfold drwC at h
      obtain ⟨ds, h⟩ := asgN_ok h
      obtain ⟨kp, h⟩ := minK_ok h
      obtain ⟨s1, h, hs⟩ := pruK_ok h
      have hi : TInv os [] s1 := TInv.nil fun d c v hl => (hs d c v hl).2.2
      obtain ⟨recs, tbF, sF, hle, h, hrun⟩ := headK_ok hT TbOk.nil hi h
      rw [List.append_nil, List.reverse_reverse] at h
      split at h
      · rename_i hb
        simp only [Bool.and_eq_true] at hb
        obtain ⟨rlen, rtb, rinv, rext, rsF, rat⟩ := hrun.all
        have h := accK_ok h
        have hg' : Gam E [] s1 o β a w := hg.prune hs
        have hns : hdN os ≤ os.size := by simpa using hle
        have inv0 : HeadInv .any os (hdN os) (Array.replicate os.size false) :=
          ⟨by simp, fun j oj _ hl => (by rw [getD_replicate_false] at hl; cases hl), fun t _ ht => getD_in (by simpa using ht) (getD_replicate_false _ _)⟩
        have e1 : (fun i => (Array.replicate os.size false).getD i false) = fun _ => false := by funext i; exact getD_replicate_false _ _
        have e2 : ∀ (l : List HRec) (k : Nat) (s : Sl), stS (fun _ => false) l k s = s := by
          intro l; induction l with
          | nil => intros; rfl
          | cons r l ih => intro k s; rw [stS, cond_false, ih]
        have e3 : ∀ (l : List HRec) (k : Nat) (o : Os), stO (fun _ => false) l k o = o := by
          intro l; induction l with
          | nil => intros; rfl
          | cons r l ih => intro k o; rw [stO, cond_false, ih]
        have := draw_any (P := P) (Q := Q) hrun hB hb.1 (fun r hr => freshAll_ok hb.2 r (List.mem_reverse.2 hr)) hn (fun β a w hg => exec_ok (Q := Q) hT rtb rinv h hn (fun s' o' hk β a w hg => hQ _ _ hk β a w hg) β a w hg)
          (hdN os) _ β a _ inv0 (cntF_all hns) (by
            rw [e1, e2, e3]
            exact hg'.slotsTo rtb fun d c v hl => by
              obtain ⟨u, g1, g2⟩ := hg'.slots d c v hl
              obtain rfl := (hs d c v hl).2.2
              rw [tg_zero TbOk.nil] at g1
              rw [tg_zero rtb]
              exact ⟨u, g1, fun _ => g2 (tg_zero TbOk.nil)⟩)
        rwa [show hdN os + (os.size - hdN os) = os.size by omega] at this
      · cases h
    · unfold floC at h
      obtain ⟨ds, h⟩ := asgN_ok h
      obtain ⟨kp, h⟩ := minK_ok h
      obtain ⟨s1, h, hs⟩ := pruK_ok h
      have hi : TInv os [] s1 := TInv.nil fun d c v hl => (hs d c v hl).2.2
      obtain ⟨recs, tbF, sF, hle, h, hrun⟩ := headK_ok hT TbOk.nil hi h
      rw [List.append_nil, List.reverse_reverse] at h
      split at h
      · rename_i hb
        simp only [Bool.and_eq_true] at hb
        obtain ⟨rlen, rtb, rinv, rext, rsF, rat⟩ := hrun.all
        obtain ⟨L, h, hL0, hL⟩ := lodK_ok h
        have h := accK_ok h
        have hns' : headN os.toList os.toList ≤ os.size := by simpa using hle
        have hg' : Gam E [] s1 o β a w := hg.prune hs
        have hns : headN os.toList os.toList ≤ os.size := by simpa using hle
        have inv0 : HeadInv .any os (headN os.toList os.toList) (Array.replicate os.size false) :=
          ⟨by simp, fun j oj _ hl => (by rw [getD_replicate_false] at hl; cases hl), fun t _ ht => getD_in (by simpa using ht) (getD_replicate_false _ _)⟩
        have e1 : (fun i => (Array.replicate os.size false).getD i false) = fun _ => false := by funext i; exact getD_replicate_false _ _
        have e2 : ∀ (l : List HRec) (k : Nat) (s : Sl), stS (fun _ => false) l k s = s := by
          intro l; induction l with
          | nil => intros; rfl
          | cons r l ih => intro k s; rw [stS, cond_false, ih]
        have e3 : ∀ (l : List HRec) (k : Nat) (o : Os), stO (fun _ => false) l k o = o := by
          intro l; induction l with
          | nil => intros; rfl
          | cons r l ih => intro k o; rw [stO, cond_false, ih]
        have := draw_flo (P := P) (Q := Q) hT hrun hB hb.1 (fun r hr => freshAll_ok hb.2 r (List.mem_reverse.2 hr)) hn hL (fun β a w hg => tail_ok (Q := Q) hT (loads_cls hL0) rtb rinv (fun j => by simp [List.getElem?_drop]) h hn (fun s' o' hk β a w hg => hQ _ _ hk β a w hg) β a w hg)
          (headN os.toList os.toList) _ β a _ inv0 (cntF_all hns) (by
            rw [e1, e2, e3]
            exact hg'.slotsTo rtb fun d c v hl => by
              obtain ⟨u, g1, g2⟩ := hg'.slots d c v hl
              obtain rfl := (hs d c v hl).2.2
              rw [tg_zero TbOk.nil] at g1
              rw [tg_zero rtb]
              exact ⟨u, g1, fun _ => g2 (tg_zero TbOk.nil)⟩)
        rwa [show headN os.toList os.toList + (os.size - headN os.toList os.toList) = os.size by omega] at this
      · cases h
theorem runC_ok (hT : TTok P T) (hm : P.follows .mixedOrders = true) : ∀ {c : Code} {s : Sl} {o : Os} {K : Ex → Sl → Os → Prop}, runC P T n keep c s o K → ∀ {E : Env} {Q : Exit → Act → World → Prop}, E.n = n → (∀ e s' o', K e s' o' → ∀ β a w, Gam E [] s' o' β a w → Q e.out a w) →
    ∀ β a w, Gam E [] s o β a w → c.wp P Q a w
  | .skip, s, o, K, h, E, Q, hn, hQ, β, a, w, hg => wp_skip (hQ .n _ _ h β a w hg)
  | .exit i, s, o, K, h, E, Q, hn, hQ, β, a, w, hg => wp_exit (hQ (.x i) _ _ h β a w hg)
  | .ret, s, o, K, h, E, Q, hn, hQ, β, a, w, hg => wp_ret (hQ .r _ _ h β a w hg)
  | .seq x y, s, o, K, h, E, Q, hn, hQ, β, a, w, hg => by
    simp only [runC] at h
    refine wp_seq_k fun K' hK' => ?_
    refine runC_ok hT hm (c := x) h hn (fun e s' o' hk β a w hg => ?_) β a w hg
    cases e with
    | n => exact hK' _ _ (runC_ok hT hm (c := y) hk hn hQ β a w hg)
    | x i => exact hQ (.x i) _ _ hk β a w hg
    | r => exact hQ .r _ _ hk β a w hg
  | .region id os false, s, o, K, h, E, Q, hn, hQ, β, a, w, hg => by
    simp only [runC] at h
    obtain ⟨s1, h, hs⟩ := pruK_ok h
    have h1 := exec_ok (Q := Q) hT TbOk.nil (TInv.nil fun d c v hl => (hs d c v hl).2.2) h hn (fun s' o' hk β a w hg => hQ .n _ _ hk β a w hg) β a w (hg.prune hs)
    have := wp_region_lit (id := id) (l := os.toList) (P := P) (Q := Q) (a := a) (w := w) (by rw [toA]; exact h1)
    rwa [toA] at this
  | .region id os true, s, o, K, h, E, Q, hn, hQ, β, a, w, hg => by
    simp only [runC] at h
    refine wp_region_any hm ?_
    have hg' : Gam E [] s o β a { w with drawn := w.drawn + 1 } := hg.world (w' := { w with drawn := w.drawn + 1 }) rfl rfl rfl (Nat.le_refl _) fun _ _ => rfl
    rcases h with ⟨hB, h⟩ | ⟨hB, h⟩ | ⟨hB, h⟩
    · exact drw_any (Q := Q) hT (.d hB h) hn (fun s' o' hk β a w hg => hQ .n _ _ hk β a w hg) β a _ hg'
    · exact drw_any (Q := Q) hT (.f hB h) hn (fun s' o' hk β a w hg => hQ .n _ _ hk β a w hg) β a _ hg'
    · unfold latC at h
      split at h
      · rename_i d c hl
        split at h
        · rename_i hlt
          have hlt : d < n := by simpa [Nat.blt_eq] using hlt
          have hok := lateB_ok hB hl
          have h1 := drw_any (Q := fun e a w => e = .normal ∧ Q .normal (a.put (some d) c) w) hT h hn (fun s' o' hk β a w hg => ⟨rfl, hQ .n _ _ hk β _ w (hg.put0 (d := d) (v := constA c) (q := c) (by rw [hn]; exact hlt) ((show Opn [] s' 0 (.const c) (constA c) from ⟨0, rfl, rfl⟩).eval hg (tg_zero TbOk.nil)))⟩) β a _ hg'
          have h2 := late_A (P := P) (Q := Q) hok (fun e a w h => h.1) (fun a w h => h.2) (preA os).size (Array.replicate (preA os).size false) (Array.replicate os.size false) a a _ ⟨by simp, by simp [hok.sz], fun j hj => by
            rw [Array.getElem?_replicate, Array.getElem?_replicate, if_pos hj, if_pos (by rw [hok.sz]; omega)]⟩ (getD_in (by rw [Array.size_replicate, hok.sz]; omega) (getD_replicate_false _ _)) rfl h1
          rw [hok.sz] at h2 ⊢
          exact h2
        · cases h
      · cases h
  | .cond z x y, s, o, K, h, E, Q, hn, hQ, β, a, w, hg => by
    simp only [runC] at h
    split at h
    · rename_i t hz
      have hz' : Opn [] s 0 z (.b t) := ⟨0, hz, rfl⟩
      have e := hz'.eval hg (tg_zero TbOk.nil)
      unfold rel at e
      exact wp_cond_split e (fun ht => runC_ok hT hm (c := x) (h.1 ht) hn hQ β a w hg) (fun ht => runC_ok hT hm (c := y) (h.2 ht) hn hQ β a w hg)
    · cases h
  | .block id c, s, o, K, h, E, Q, hn, hQ, β, a, w, hg => by
    simp only [runC] at h
    refine wp_block (runC_ok hT hm (c := c) h hn (fun e s' o' hk β a w hg => ?_) β a w hg)
    cases e with
    | n => exact hQ .n _ _ hk β a w hg
    | r => exact hQ .r _ _ hk β a w hg
    | x i =>
      simp only [blkK] at hk
      split at hk
      · rename_i e
        rw [Nat.eq_of_beq_eq_true e]
        simp only [Ex.out, Exit.inBlock, if_true]
        exact hQ .n _ _ hk β a w hg
      · rename_i e
        simp only [Ex.out, Exit.inBlock, if_neg (Nat.ne_of_beq_eq_false e)]
        exact hQ (.x i) _ _ hk β a w hg
  | .loop c, s, o, K, h, E, Q, hn, hQ, β, a, w, hg => by
    simp only [runC] at h
    obtain ⟨α, M, I, μ, i, hi, hent, hround⟩ := h
    obtain ⟨β0, hg0⟩ := hent E β a w hg
    refine wp_loop_ix (fun i a w => I i ∧ ∃ β, Gam E [] (M i).1 (M i).2 β a w) μ i ⟨hi, β0, hg0⟩ fun i a w ⟨hi, β, hg⟩ => ?_
    refine runC_ok hT hm (c := c) (hround i hi) hn (fun e s' o' hk β a w hg => ?_) β a w hg
    cases e with
    | n =>
      obtain ⟨j, hj, hlt, hent⟩ := hk
      obtain ⟨β', hg'⟩ := hent E β a w hg
      exact ⟨j, ⟨hj, β', hg'⟩, hlt⟩
    | x k => exact hQ (.x k) _ _ hk β a w hg
    | r => exact hQ .r _ _ hk β a w hg
  | .rangeFunc .., s, o, K, h, E, Q, hn, hQ, β, a, w, hg => nomatch h
  | .scope .., s, o, K, h, E, Q, hn, hQ, β, a, w, hg => nomatch h
  | .label .., s, o, K, h, E, Q, hn, hQ, β, a, w, hg => nomatch h
  | .goto .., s, o, K, h, E, Q, hn, hQ, β, a, w, hg => nomatch h
  | .refuse .., s, o, K, h, E, Q, hn, hQ, β, a, w, hg => nomatch h
end
end Go.Proofs.Ytecknkgiaahheaa

/- One state says no more than another one: how that is shown. -/
namespace Go.Proofs.Ytecknkgiaahheaa
open Go.RowKit
set_option linter.unusedVariables false
set_option linter.unusedSimpArgs false
def rho (ρ : List (Nat × Nat)) (i : Nat) : Nat := match lk ρ i with
  | some j => j
  | none => i
mutual
/-- The first value is the second one, told otherwise (ρ: the owned by their old numbers; nl: owned rows that are nil slices as yet). -/
def mat (ρ : List (Nat × Nat)) (nl : List Nat) : AV → AV → Prop
  | .i k z, .i k' z' => match sameK k k' with
    | true => z = z'
    | false => False
  | .b t, .b t' => t = t'
  | .s x, .s x' => x = x'
  | .v x, .v x' => x = x'
  | .nil, .nil => True
  | .nil, .orow id _ 0 n => match memN id nl with
    | true => n = 0
    | false => False
  | .nil, .row none _ n _ => n = 0
  | .row nz e n g, .row none e' n' g' => e = e' ∧ n = n' ∧ ∀ i, i < n' → g i = g' i
  | .row nz e n g, .row (some b) e' n' g' => nz = some b ∧ e = e' ∧ n = n' ∧ ∀ i, i < n' → g i = g' i
  | .agg cs, .agg cs' => mats ρ nl cs cs'
  | .tup cs, .tup cs' => mats ρ nl cs cs'
  | .clo f cs, .clo f' cs' => match Nat.beq f f' with
    | true => mats ρ nl cs cs'
    | false => False
  | .cp cs, .cp cs' => cs = cs'
  | .op id off, .op id' off' => match Nat.beq (rho ρ id') id && !memN id' nl with
    | true => off = off'
    | false => False
  | .orow id e off n, .orow id' e' off' n' => match Nat.beq (rho ρ id') id && !memN id' nl with
    | true => e = e' ∧ off = off' ∧ n = n'
    | false => False
  | .any, .any => True
  | .omap id, .omap id' => (Nat.beq (rho ρ id') id && !memN id' nl) = true
  | .pth id p e off n, .pth id' p' e' off' n' => match Nat.beq (rho ρ id') id && !memN id' nl with
    | true => p = p' ∧ e = e' ∧ off = off' ∧ n = n'
    | false => False
  | _, _ => False
def mats (ρ : List (Nat × Nat)) (nl : List Nat) : List AV → List AV → Prop
  | [], [] => True
  | x :: xs, y :: ys => mat ρ nl x y ∧ mats ρ nl xs ys
  | _, _ => False
end
def wnil : Wt := ⟨none, 0, [], true, sub0⟩
def remap (ρ : List (Nat × Nat)) (nl : List Nat) (β : Nat → Wt) : Nat → Wt := fun i => bif memN i nl then wnil else β (rho ρ i)
mutual
theorem mat_ok {ρ : List (Nat × Nat)} {nl : List Nat} {S S' : Nat → Prop} {β : Nat → Wt} {w : World} (hc : Comp S w S' w) : ∀ (x y : AV) (u : Value), mat ρ nl x y → rel S β w x u → rel S' (remap ρ nl β) w y u
  | .i k z, y, u, h, hr => by
    cases y <;> simp only [mat] at h <;> try exact h.elim
    split at h
    · rename_i hk; obtain rfl := sameK_ok hk; subst h; exact hr
    · cases h
  | .b t, y, u, h, hr => by
    cases y <;> simp only [mat] at h <;> try exact h.elim
    subst h; exact hr
  | .s t, y, u, h, hr => by
    cases y <;> simp only [mat] at h <;> try exact h.elim
    subst h; exact hr
  | .v t, y, u, h, hr => by
    cases y <;> simp only [mat] at h <;> try exact h.elim
    subst h; exact hr
  | .nil, y, u, h, hr => by
    unfold rel at hr
    subst hr
    cases y with
    | nil => rfl
    | orow id e off n =>
      cases off with
      | zero =>
        simp only [mat] at h
        split at h
        · rename_i hm
          subst h
          unfold rel remap
          rw [hm]; exact ⟨rfl, rfl⟩
        · cases h
      | succ off => exact nomatch h
    | row nz e n g =>
      cases nz with
      | none =>
        simp only [mat] at h
        subst h
        exact ⟨none, 0, fun _ => [], rfl, (fun z hz => by cases hz), ⟨Nat.zero_le _, Nat.zero_le _⟩, fun i hi => by omega⟩
      | some b => exact nomatch h
    | _ => exact nomatch h
  | .row nz e n g, y, u, h, hr => by
    cases y with
    | row nz' e' n' g' =>
      cases nz' with
      | none =>
        obtain ⟨rfl, rfl, hg⟩ := h
        have := rel_mono hc _ _ hr
        unfold rel at this ⊢
        obtain ⟨a, cap, us, h1, h2, h3, h4⟩ := this
        exact ⟨a, cap, us, h1, (fun z hz => by cases hz), h3, fun i hi => by rw [← hg i hi]; exact h4 i hi⟩
      | some b =>
        obtain ⟨rfl, rfl, rfl, hg⟩ := h
        have := rel_mono hc _ _ hr
        unfold rel at this ⊢
        obtain ⟨a, cap, us, h1, h2, h3, h4⟩ := this
        exact ⟨a, cap, us, h1, h2, h3, fun i hi => by rw [← hg i hi]; exact h4 i hi⟩
    | _ => exact nomatch h
  | .agg cs, y, u, h, hr => by
    cases y with
    | agg cs' => obtain ⟨us, h1, h2⟩ := hr; exact ⟨us, h1, mats_ok hc cs cs' us h h2⟩
    | _ => exact nomatch h
  | .tup cs, y, u, h, hr => by
    cases y with
    | tup cs' => obtain ⟨us, h1, h2⟩ := hr; exact ⟨us, h1, mats_ok hc cs cs' us h h2⟩
    | _ => exact nomatch h
  | .clo f cs, y, u, h, hr => by
    cases y with
    | clo f' cs' =>
      simp only [mat] at h
      split at h
      · rename_i hb
        obtain rfl := Nat.eq_of_beq_eq_true hb
        obtain ⟨us, h1, h2⟩ := hr; exact ⟨us, h1, mats_ok hc cs cs' us h h2⟩
      · cases h
    | _ => exact nomatch h
  | .cp cs, y, u, h, hr => by
    cases y with
    | cp cs' =>
      simp only [mat] at h
      subst h
      exact rel_agr _ _ (fun id hid => by simp [men] at hid) (rel_mono hc _ _ hr)
    | _ => exact nomatch h
  | .op id off, y, u, h, hr => by
    cases y with
    | op id' off' =>
      simp only [mat] at h
      split at h
      · rename_i hb
        simp only [Bool.and_eq_true, Bool.not_eq_true'] at hb
        have hb1 := Nat.eq_of_beq_eq_true hb.1
        subst h
        unfold rel remap at *
        rw [hb.2, cond_false, hb1]; exact hr
      · cases h
    | _ => exact nomatch h
  | .orow id e off n, y, u, h, hr => by
    cases y with
    | orow id' e' off' n' =>
      simp only [mat] at h
      split at h
      · rename_i hb
        simp only [Bool.and_eq_true, Bool.not_eq_true'] at hb
        have hb1 := Nat.eq_of_beq_eq_true hb.1
        obtain ⟨rfl, rfl, rfl⟩ := h
        unfold rel remap at *
        rw [hb.2, cond_false, hb1]; exact hr
      · cases h
    | _ => exact nomatch h
  | .omap id, y, u, h, hr => by
    cases y with
    | omap id' =>
      simp only [mat, Bool.and_eq_true, Bool.not_eq_true'] at h
      have hb1 := Nat.eq_of_beq_eq_true h.1
      unfold rel remap at *
      rw [h.2, cond_false, hb1]; exact hr
    | _ => exact nomatch h
  | .pth id p e off n, y, u, h, hr => by
    cases y with
    | pth id' p' e' off' n' =>
      simp only [mat] at h
      split at h
      · rename_i hb
        simp only [Bool.and_eq_true, Bool.not_eq_true'] at hb
        have hb1 := Nat.eq_of_beq_eq_true hb.1
        obtain ⟨rfl, rfl, rfl, rfl⟩ := h
        unfold rel remap at *
        rw [hb.2, cond_false, hb1]; exact hr
      · cases h
    | _ => exact nomatch h
  | .pp _ _ _ _ _, y, u, h, hr => by cases y <;> exact nomatch h
  | .rp _ _ _ _, y, u, h, hr => by cases y <;> exact nomatch h
  | .ifc _ _, y, u, h, hr => by cases y <;> exact nomatch h
  | .any, y, u, h, hr => by
    cases y <;> first | exact hr | exact nomatch h
theorem mats_ok {ρ : List (Nat × Nat)} {nl : List Nat} {S S' : Nat → Prop} {β : Nat → Wt} {w : World} (hc : Comp S w S' w) : ∀ (x y : List AV) (u : List Value), mats ρ nl x y → rels S β w x u → rels S' (remap ρ nl β) w y u
  | [], [], u, h, hr => hr
  | x :: xs, y :: ys, u, h, ⟨q, us, e1, e2, e3⟩ => ⟨q, us, e1, mat_ok hc x y q h.1 e2, mats_ok hc xs ys us h.2 e3⟩
  | [], _ :: _, _, h, _ => nomatch h
  | _ :: _, [], _, h, _ => nomatch h
end
def optK : Option Nat → Option Nat → Prop
  | _, none => True
  | some a, some b => a = b
  | none, some _ => False
theorem optK_ok {p p' : Option Nat} {b : Nat} (h : optK p p') (e : p' = some b) : p = some b := by
  subst e
  cases p with
  | none => exact h.elim
  | some a => exact congrArg some h
mutual
/-- Content of a tree, told otherwise. -/
def teq : AV → AV → Prop
  | .row nz e n g, y => match y with
    | .row none e' n' g' => e = e' ∧ n = n' ∧ ∀ i, i < n' → teqs (g i) (g' i)
    | y => .row nz e n g = y
  | .nil, y => match y with
    | .row none _ n _ => n = 0
    | y => .nil = y
  | x, y => x = y
def teqs : List AV → List AV → Prop
  | [], ys => ys = []
  | x :: xs, ys => match ys with
    | y :: ys => teq x y ∧ teqs xs ys
    | [] => False
end
mutual
theorem teq_ok {S : Nat → Prop} {w : World} {sb : Sub} : ∀ (x y : AV) (p : Pth) (u : Value) (F : List Nat), teq x y → treeD S w sb x p u F → treeD S w sb y p u F
  | .row nz e n g, y, p, u, F, h, ht => by
    unfold teq at h
    split at h
    · obtain ⟨rfl, rfl, hg⟩ := h
      unfold treeD at ht ⊢
      obtain ⟨h1, h2, h3, h4⟩ := ht
      refine ⟨h1, (fun z hz => by cases hz), h3, h4.imp id ?_⟩
      rintro ⟨b, off, cells, ty, us, FS, g1, rfl, g3, g4, g5⟩
      exact ⟨b, off, cells, ty, us, FS, g1, rfl, g3, g4, fun i hi => ⟨(g5 i hi).1, teqs_ok (g i) _ p i 0 (us i) (FS i) (hg i hi) (g5 i hi).2⟩⟩
    · subst h; exact ht
  | .nil, y, p, u, F, h, ht => by
    unfold teq at h
    split at h
    · subst h
      unfold treeD at ht ⊢
      obtain ⟨rfl, h2, h3⟩ := ht
      unfold rel at h2
      rw [h3]
      exact ⟨h2, (fun z hz => by cases hz), ⟨Nat.zero_le _, Nat.zero_le _⟩, .inl ⟨rfl, rfl, rfl⟩⟩
    · subst h; exact ht
  | .i k z, y, p, u, F, h, ht => by unfold teq at h; subst h; exact ht
  | .b t, y, p, u, F, h, ht => by unfold teq at h; subst h; exact ht
  | .s x, y, p, u, F, h, ht => by unfold teq at h; subst h; exact ht
  | .v x, y, p, u, F, h, ht => by unfold teq at h; subst h; exact ht
  | .agg cs, y, p, u, F, h, ht => by unfold teq at h; subst h; exact ht
  | .tup cs, y, p, u, F, h, ht => by unfold teq at h; subst h; exact ht
  | .cp cs, y, p, u, F, h, ht => by unfold teq at h; subst h; exact ht
  | .op id off, y, p, u, F, h, ht => by unfold teq at h; subst h; exact ht
  | .orow id e off n, y, p, u, F, h, ht => by unfold teq at h; subst h; exact ht
  | .rp id e i j, y, p, u, F, h, ht => by unfold teq at h; subst h; exact ht
  | .clo f cs, y, p, u, F, h, ht => by unfold teq at h; subst h; exact ht
  | .omap id, y, p, u, F, h, ht => by unfold teq at h; subst h; exact ht
  | .ifc t x, y, p, u, F, h, ht => by unfold teq at h; subst h; exact ht
  | .any, y, p, u, F, h, ht => by unfold teq at h; subst h; exact ht
  | .pth _ _ _ _ _, y, p, u, F, h, ht => by unfold teq at h; subst h; exact ht
  | .pp _ _ _ _ _, y, p, u, F, h, ht => by unfold teq at h; subst h; exact ht
theorem teqs_ok {S : Nat → Prop} {w : World} {sb : Sub} : ∀ (xs ys : List AV) (p : Pth) (i j : Nat) (us : List Value) (F : List Nat), teqs xs ys → treeDs S w sb xs p i j us F → treeDs S w sb ys p i j us F
  | [], ys, p, i, j, us, F, h, ht => by unfold teqs at h; subst h; exact ht
  | x :: xs, ys, p, i, j, us, F, h, ht => by
    unfold teqs at h
    cases ys with
    | nil => exact h.elim
    | cons y ys =>
      unfold treeDs at ht ⊢
      obtain ⟨u, us', F1, F2, rfl, rfl, h1, h2⟩ := ht
      exact ⟨u, us', F1, F2, rfl, rfl, teq_ok x y _ u F1 h.1 h1, teqs_ok xs ys p i (j + 1) us' F2 h.2 h2⟩
end
/-- Where a map lies need not be told. -/
def kOk (k : Nat) : Nat → Prop
  | 0 => True
  | n + 1 => k = n + 1
theorem kOk_ok {k k' b : Nat} (h : kOk k k') (e : k' = b + 1) : k = b + 1 := by subst e; exact h
def matO (ρ : List (Nat × Nat)) (nl : List Nat) : Obj → Obj → Prop
  | .tree e n g, .tree e' n' g' => e = e' ∧ n = n' ∧ ∀ i, i < n' → teqs (g i) (g' i)
  | .mp Φ k n F, .mp Φ' k' n' F' => kOk k k' ∧ ∀ x, Φ x → Φ' x
  | .box p q cs, .box p' q' cs' => optK p p' ∧ optK q q' ∧ mats ρ nl cs cs'
  | .row q e n g, .row q' e' n' g' => optK q q' ∧ e = e' ∧ n = n' ∧ ∀ i, i < n' → g i = g' i
  | _, _ => False
theorem row_ext {S : Nat → Prop} {β : Nat → Wt} {w : World} {W : Wt} {e n : Nat} {g g' : Nat → List AV} (hg : ∀ i, i < n → g i = g' i) {q q' : Option Nat} (hq : optK q q') : orel S β w W (.row q e n g) → orel S β w W (.row q' e n g')
  | ⟨h1, h2, h3⟩ => ⟨h1, h2, h3.imp id fun ⟨b, off, cells, ty, us, a1, a2, a3, a4, a5⟩ => ⟨b, off, cells, ty, us, a1, a2, a3, ⟨a4.1, fun t0 e => a4.2 t0 (optK_ok hq e)⟩, fun i hi => by rw [← hg i hi]; exact a5 i hi⟩⟩
theorem matO_ok {ρ : List (Nat × Nat)} {nl : List Nat} {S S' : Nat → Prop} {β : Nat → Wt} {w : World} {W : Wt} (hc : Comp S w S' w) : ∀ (x y : Obj), matO ρ nl x y → orel S β w W x → orel S' (remap ρ nl β) w W y
  | .tree e n g, .tree e' n' g', ⟨h1, h2, h3⟩, hr => by
    subst h1 h2
    obtain ⟨r1, r2⟩ := orel_mono hc (fun _ _ => rfl) hr
    exact ⟨r1, teq_ok _ _ _ _ _ (by unfold teq; exact ⟨rfl, rfl, h3⟩) r2⟩
  | .mp Φ k n F, .mp Φ' k' n' F', ⟨h1, h2⟩, hr => by
    obtain ⟨r0, b, x, r1, r2, r3, r4, r5⟩ := orel_mono (w' := w) hc (fun _ _ => rfl) hr
    exact ⟨r0, b, x, r1, r2, r3, h2 x r4, fun b0 e => r5 b0 (kOk_ok h1 e)⟩
  | .box p q cs, .box p' q' cs', h, ⟨b, us, ty, h1, h2, h3, h4, h5, h6, h7, h8⟩ => ⟨b, us, ty, h1, h2, h3, mats_ok hc _ _ _ h.2.2 h4, h5, h6, fun b0 e => h7 b0 (optK_ok h.1 e), fun t0 e => h8 t0 (optK_ok h.2.1 e)⟩
  | .row q e n g, .row q' e' n' g', ⟨h0, h1, h2, h3⟩, hr => by
    subst h1 h2
    exact row_ext h3 h0 (orel_agr (fun id hid => by cases hid) (orel_mono hc (fun _ _ => rfl) hr))
/-- The slots that are told. -/
def entS (ρ : List (Nat × Nat)) (nl : List Nat) (s : Sl) : Sl → Prop
  | [] => True
  | (d, c, v') :: s' => match c, lk s d with
    | 0, some (0, v) => mat ρ nl v v' ∧ entS ρ nl s s'
    | _, _ => False
def entO (ρ : List (Nat × Nat)) (nl : List Nat) (o : Os) : Os → Prop
  | [] => True
  | (i, ob') :: o' => match memN i nl with
    | true => match ob' with
      | .row _ _ n _ => n = 0 ∧ entO ρ nl o o'
      | _ => False
    | false => match lk o (rho ρ i) with
      | some ob => matO ρ nl ob ob' ∧ entO ρ nl o o'
      | none => False
/-- The old numbers that are told of, each once; the new ones, each once. -/
def srcs (ρ : List (Nat × Nat)) (nl : List Nat) : Os → List Nat
  | [] => []
  | (i, _) :: o' => bif memN i nl then srcs ρ nl o' else rho ρ i :: srcs ρ nl o'
def nodupB : List Nat → Bool
  | [] => true
  | x :: l => !memN x l && nodupB l
def keysN : Os → List Nat
  | [] => []
  | (i, _) :: o => i :: keysN o
theorem keysN_eq : ∀ o : Os, keysN o = o.map (·.1)
  | [] => rfl
  | (i, ob) :: o => by rw [keysN, keysN_eq o]; rfl
theorem memN_iff {d : Nat} : ∀ {l : List Nat}, memN d l = true ↔ d ∈ l
  | [] => by simp [memN]
  | x :: l => by
    simp only [memN]
    cases hb : Nat.beq x d with
    | true => simp [Nat.eq_of_beq_eq_true hb]
    | false =>
      have : x ≠ d := fun e => by rw [e] at hb; simp at hb
      rw [cond_false, memN_iff, List.mem_cons]
      exact ⟨.inr, fun h => h.resolve_left fun e => this e.symm⟩
theorem nodupB_ok : ∀ {l : List Nat}, nodupB l = true → l.Nodup
  | [], _ => List.nodup_nil
  | x :: l, h => by
    simp only [nodupB, Bool.and_eq_true, Bool.not_eq_true'] at h
    rw [List.nodup_cons]
    exact ⟨(fun hm => by rw [memN_iff.2 hm] at h; cases h.1), nodupB_ok h.2⟩
theorem entO_feet {ρ : List (Nat × Nat)} {nl : List Nat} {o : Os} {β : Nat → Wt} (hn : (feet o β).Nodup) (hk : (o.map (·.1)).Nodup) : ∀ {o' : Os}, entO ρ nl o o' → (srcs ρ nl o').Nodup →
    (feet o' (remap ρ nl β)).Nodup ∧ ∀ k ∈ feet o' (remap ρ nl β), ∃ i ∈ srcs ρ nl o', k ∈ (β i).foot ∧ (lk o i).isSome = true
  | [], _, _ => ⟨List.nodup_nil, fun k hk => nomatch hk⟩
  | (i, ob') :: o', h, hs => by
    simp only [entO] at h
    rw [feet_cons]
    split at h
    · rename_i hm
      split at h
      · rename_i q0 e0 n0 g0
        have e1 : (remap ρ nl β i).foot = [] := by unfold remap; rw [hm]; rfl
        have e2 : srcs ρ nl ((i, .row q0 e0 n0 g0) :: o') = srcs ρ nl o' := by simp only [srcs, hm, cond_true]
        rw [e2] at hs
        obtain ⟨h1, h2⟩ := entO_feet hn hk h.2 hs
        rw [e1, List.nil_append, e2]; exact ⟨h1, h2⟩
      · cases h
    · rename_i hm
      split at h
      · rename_i ob hl
        have e1 : (remap ρ nl β i).foot = (β (rho ρ i)).foot := by unfold remap; rw [hm]; rfl
        simp only [srcs, hm, cond_false] at hs ⊢
        rw [List.nodup_cons] at hs
        obtain ⟨h1, h2⟩ := entO_feet hn hk h.2 hs.2
        rw [e1]
        have hfn : (β (rho ρ i)).foot.Nodup := by
          obtain ⟨a, b, hab⟩ := List.append_of_mem (lk_mem hl)
          rw [hab, feet_app, feet_cons] at hn
          exact (List.nodup_append.1 (List.nodup_append.1 hn).2.1).1
        refine ⟨List.nodup_append.2 ⟨hfn, h1, fun x hx y hy e => ?_⟩, fun k hk' => ?_⟩
        · subst e
          obtain ⟨j, hj, hxj, hjs⟩ := h2 x hy
          obtain ⟨obj, hobj⟩ := Option.isSome_iff_exists.1 hjs
          have hne : j ≠ rho ρ i := fun e => hs.1 (e ▸ hj)
          exact foot_disj hl hobj hne hn x hxj hx
        · rcases List.mem_append.1 hk' with q | q
          · exact ⟨_, List.mem_cons_self, q, by rw [hl]; rfl⟩
          · obtain ⟨j, hj, h5⟩ := h2 k q
            exact ⟨j, List.mem_cons_of_mem _ hj, h5⟩
      · cases h
theorem entO_at {ρ : List (Nat × Nat)} {nl : List Nat} {o : Os} : ∀ {o' : Os} {i : Nat} {ob' : Obj}, entO ρ nl o o' → lk o' i = some ob' → (memN i nl = true ∧ ∃ q e g, ob' = .row q e 0 g) ∨ (memN i nl = false ∧ ∃ ob, lk o (rho ρ i) = some ob ∧ matO ρ nl ob ob')
  | [], i, ob', _, hl => by simp [lk] at hl
  | (j, ob'') :: o', i, ob', h, hl => by
    simp only [entO] at h
    rw [lk_cons] at hl
    split at h
    · rename_i hm
      split at h
      · split at hl
        · rename_i e; subst e; cases hl
          obtain ⟨rfl, _⟩ := h
          exact .inl ⟨hm, _, _, _, rfl⟩
        · exact entO_at h.2 hl
      · cases h
    · rename_i hm
      split at h
      · rename_i ob hlo
        split at hl
        · rename_i e; subst e; cases hl
          exact .inr ⟨hm, ob, hlo, h.1⟩
        · exact entO_at h.2 hl
      · cases h
theorem entS_at {ρ : List (Nat × Nat)} {nl : List Nat} {s : Sl} : ∀ {s' : Sl} {d c : Nat} {v' : AV}, entS ρ nl s s' → lk s' d = some (c, v') → c = 0 ∧ ∃ v, lk s d = some (0, v) ∧ mat ρ nl v v'
  | [], d, c, v', _, hl => by simp [lk] at hl
  | (j, c', v'') :: s', d, c, v', h, hl => by
    simp only [entS] at h
    rw [lk_cons] at hl
    split at h
    · rename_i v hls
      split at hl
      · rename_i e; subst e; cases hl
        exact ⟨rfl, v, hls, h.1⟩
      · exact entS_at h.2 hl
    · cases h
/-- How a state is told otherwise. -/
theorem Ent.of (ρ : List (Nat × Nat)) (nl : List Nat) {s s' : Sl} {o o' : Os} (hn : (nodupB (srcs ρ nl o') && nodupB (keysN o')) = true) (hs : entS ρ nl s s') (ho : entO ρ nl o o') : Ent s o s' o' := by
  intro E β a w hg
  simp only [Bool.and_eq_true] at hn
  obtain ⟨hf1, hf2⟩ := entO_feet hg.nodup hg.keys ho (nodupB_ok hn.1)
  have hsub : ∀ k ∈ feet o' (remap ρ nl β), k ∈ feet o β := fun k hk => by
    obtain ⟨i, _, hki, hi⟩ := hf2 k hk
    obtain ⟨ob, hob⟩ := Option.isSome_iff_exists.1 hi
    exact foot_feet hob k hki
  have hc : Comp (E.good o β) w (E.good o' (remap ρ nl β)) w := ⟨Nat.le_refl _, fun k _ hg => ⟨⟨hg.1, fun q => hg.2 (hsub k q)⟩, rfl⟩⟩
  refine ⟨remap ρ nl β, hg.size, hg.defers, TbOk.nil, fun d c v' hl => ?_, fun i ob' hl => ?_, hg.below, fun k hk => hg.new k (hsub k hk), hf1, by rw [← keysN_eq]; exact nodupB_ok hn.2⟩
  · obtain ⟨rfl, v, h1, h2⟩ := entS_at hs hl
    obtain ⟨u, e1, e2⟩ := hg.slots _ _ _ h1
    exact ⟨u, e1, fun ht => mat_ok hc v v' u h2 (e2 ht)⟩
  · rcases entO_at ho hl with ⟨hm, q, e, g, rfl⟩ | ⟨hm, ob, h1, h2⟩
    · unfold remap
      rw [hm]
      exact ⟨Nat.le_refl _, Nat.zero_le _, .inl ⟨rfl, rfl, rfl⟩⟩
    · have e1 : remap ρ nl β i = β (rho ρ i) := by unfold remap; rw [hm]; rfl
      rw [e1]
      exact matO_ok hc ob ob' h2 (hg.objs _ _ h1)
end Go.Proofs.Ytecknkgiaahheaa

/- Contracts: the way in and the way out. -/
namespace Go.Proofs.Ytecknkgiaahheaa
open Go.RowKit
set_option linter.unusedVariables false
set_option linter.unusedSimpArgs false
/-- Out of what is owned (o) a value v is handed over as r, with no; o' is left. -/
def Gives (o : Os) (v : AV) (o' : Os) (r : AV) (no : Os) : Prop :=
  o'.Sublist o ∧ ∀ (S : Nat → Prop) (β : Nat → Wt) (w : World) (u : Value), OB S β w o → rel S β w v u → ∃ β1 : Nat → Wt, (feet no β1).Nodup ∧ (∀ k ∈ feet no β1, k ∈ feet o β ∧ k ∉ feet o' β) ∧
    ∀ (S' : Nat → Prop) (β' : Nat → Wt), (∀ i, i ∈ no.map (·.1) → β' i = β1 i) → (∀ k, k < w.heap.size → S k → S' k) → (∀ k, k ∈ feet o β → k ∉ feet o' β → k ∉ feet no β1 → S' k) → rel S' β' w r u ∧ ∀ id ob, lk no id = some ob → orel S' β' w (β' id) ob
def Givess (o : Os) (v : List AV) (o' : Os) (r : List AV) (no : Os) : Prop :=
  o'.Sublist o ∧ ∀ (S : Nat → Prop) (β : Nat → Wt) (w : World) (u : List Value), OB S β w o → rels S β w v u → ∃ β1 : Nat → Wt, (feet no β1).Nodup ∧ (∀ k ∈ feet no β1, k ∈ feet o β ∧ k ∉ feet o' β) ∧
    ∀ (S' : Nat → Prop) (β' : Nat → Wt), (∀ i, i ∈ no.map (·.1) → β' i = β1 i) → (∀ k, k < w.heap.size → S k → S' k) → (∀ k, k ∈ feet o β → k ∉ feet o' β → k ∉ feet no β1 → S' k) → rels S' β' w r u ∧ ∀ id ob, lk no id = some ob → orel S' β' w (β' id) ob
theorem Gives.keep {o : Os} {v r : AV} (h : v = r) (hn : noOwn v = true) : Gives o v o r [] := by
  subst h
  refine ⟨List.Sublist.refl _, fun S β w u ho hr => ⟨W0, List.nodup_nil, (fun k hk => by cases hk), fun S' β' _ hS _ => ⟨rel_W0 (rel_mono ⟨Nat.le_refl _, fun k hk hs => ⟨hS k hk hs, rfl⟩⟩ _ _ (noOwn_rel hn hr)), fun id ob hl => by simp [lk] at hl⟩⟩⟩
theorem OB.row {S : Nat → Prop} {β : Nat → Wt} {w : World} {o : Os} {c : Nat} {ob : Obj} (ho : OB S β w o) (hl : lk o c = some ob) : (∀ k ∈ (β c).foot, k ∈ feet o β ∧ k ∉ feet (rem o c) β) ∧ (β c).foot.Nodup := by
  refine ⟨fun k hk => ⟨foot_feet hl k hk, (feet_rem hl ho.nodup).1 k hk⟩, ?_⟩
  obtain ⟨a, b, hab⟩ := List.append_of_mem (lk_mem hl)
  have hn := ho.nodup
  rw [hab, feet_app, feet_cons] at hn
  exact (List.nodup_append.1 (List.nodup_append.1 hn).2.1).1
theorem Gives.give {o : Os} {c e e' n n' N d : Nat} {g g' : Nat → List AV} {q : Option Nat} (hl : lk o c = some (.row q e' N g)) (h1 : N = n) (h2 : n = n') (h3 : ∀ i, i < n' → g i = g' i) (h4 : e' = e) : Gives o (.orow c e 0 n) (rem o c) (.orow d e 0 n') [(d, .row none e n' g')] := by
  subst h1 h2 h4
  refine ⟨rem_sub, fun S β w u ho hr => ⟨fun _ => β c, ?_, fun k hk => ?_, fun S' β' hβ hS hS2 => ?_⟩⟩
  · have : feet [(d, Obj.row none e' N g')] (fun _ => β c) = (β c).foot := by simp [feet]
    rw [this]; exact (ho.row hl).2
  · have : feet [(d, Obj.row none e' N g')] (fun _ => β c) = (β c).foot := by simp [feet]
    rw [this] at hk
    exact (ho.row hl).1 k hk
  · have hd : β' d = β c := hβ d (by simp)
    refine ⟨by unfold rel at *; rw [hd]; exact hr, fun id ob hl' => ?_⟩
    rw [lk_cons] at hl'
    split at hl'
    · rename_i e; cases hl'; subst e
      rw [hd]
      exact row_ext h3 (by cases q <;> trivial) (orel_agr (fun id hid => by cases hid) (orel_mono ⟨Nat.le_refl _, fun k hk hs => ⟨hS k hk hs, rfl⟩⟩ (fun _ _ => rfl) (ho.objs _ _ hl)))
    · simp [lk] at hl'
theorem Gives.nil {o : Os} {e n' d : Nat} {g' : Nat → List AV} (h : n' = 0) : Gives o .nil o (.orow d e 0 n') [(d, .row none e n' g')] := by
  subst h
  refine ⟨List.Sublist.refl _, fun S β w u ho hr => ⟨fun _ => wnil, by simp [feet, wnil], (fun k hk => by simp [feet, wnil] at hk), fun S' β' hβ hS hS2 => ?_⟩⟩
  have hd : β' d = wnil := hβ d (by simp)
  refine ⟨by unfold rel at *; rw [hd, hr]; exact ⟨rfl, rfl⟩, fun id ob hl' => ?_⟩
  rw [lk_cons] at hl'
  split at hl'
  · rename_i e; cases hl'; subst e
    rw [hd]
    exact ⟨Nat.le_refl _, Nat.zero_le _, .inl ⟨rfl, rfl, rfl⟩⟩
  · simp [lk] at hl'
theorem Gives.nilF {o : Os} {e n' : Nat} {g' : Nat → List AV} (h : n' = 0) : Gives o .nil o (.row none e n' g') [] := by
  subst h
  refine ⟨List.Sublist.refl _, fun S β w u ho hr => ⟨W0, List.nodup_nil, (fun k hk => by cases hk), fun S' β' hβ hS hS2 => ⟨?_, fun id ob hl => by simp [lk] at hl⟩⟩⟩
  unfold rel at hr
  subst hr
  exact ⟨none, 0, fun _ => [], rfl, (fun z hz => by cases hz), ⟨Nat.zero_le _, Nat.zero_le _⟩, fun i hi => by omega⟩
theorem Gives.freeze {o : Os} {c e e' off n n' N : Nat} {g g' : Nat → List AV} {q : Option Nat} (hl : lk o c = some (.row q e' N g)) (h1 : off + n ≤ N) (h2 : n = n') (h3 : ∀ i, i < n' → offF off g i = g' i) (h4 : e' = e) : Gives o (.orow c e off n) (rem o c) (.row none e n' g') [] := by
  subst h2 h4
  refine ⟨rem_sub, fun S β w u ho hr => ⟨W0, List.nodup_nil, (fun k hk => by cases hk), fun S' β' hβ hS hS2 => ⟨?_, fun id ob hl => by simp [lk] at hl⟩⟩⟩
  unfold rel at hr
  obtain ⟨_, rfl⟩ := hr
  obtain ⟨q1, q2, q3⟩ := ho.objs _ _ hl
  rcases q3 with ⟨z1, z2, z3⟩ | ⟨b, off', cells, ty, us, z1, z2, z3, z4, z5⟩
  · exact ⟨_, _, fun _ => [], rfl, (fun z hz => by cases hz), by omega, fun i hi => by omega⟩
  · rw [z1]
    refine ⟨_, _, fun i => us (off + i), rfl, (fun z hz => by cases hz), by omega, fun i hi => ⟨⟨_, rfl, ?_⟩, (z5 (off + i) (by omega)).1.1, ?_⟩⟩
    · have hb := (ho.row hl).1 b (by rw [z2]; simp)
      intro w'' hs hq j u hu
      have hb'' := (hq b (ho.lt b hb.1) (hS2 b hb.1 hb.2 (fun h => by cases h))).trans z3
      have := (z5 (off + i) (by omega)).1.2 j u hu
      show w''.cell? ((((⟨b, off', none⟩ : Addr).add (off * e')).add (i * e')).add j) = some u
      rw [add_none, add_none, add_none, cell_blk hb'', ← this]
      congr 1
      rw [Nat.add_mul]; omega
    · rw [← h3 i hi, offF_eq]
      exact rels_mono ⟨Nat.le_refl _, fun k hk hs => ⟨hS k hk hs, rfl⟩⟩ _ _ (z5 (off + i) (by omega)).2
theorem Gives.giveT {o : Os} {c e e' n n' N d : Nat} {g g' : Nat → List AV} (hl : lk o c = some (.tree e' N g)) (h1 : N = n) (h2 : n = n') (h3 : ∀ i, i < n' → teqs (g i) (g' i)) (h4 : e' = e) : Gives o (.orow c e 0 n) (rem o c) (.orow d e 0 n') [(d, .tree e n' g')] := by
  subst h1 h2 h4
  refine ⟨rem_sub, fun S β w u ho hr => ⟨fun _ => β c, ?_, fun k hk => ?_, fun S' β' hβ hS hS2 => ?_⟩⟩
  · have : feet [(d, Obj.tree e' N g')] (fun _ => β c) = (β c).foot := by simp [feet]
    rw [this]; exact (ho.row hl).2
  · have : feet [(d, Obj.tree e' N g')] (fun _ => β c) = (β c).foot := by simp [feet]
    rw [this] at hk
    exact (ho.row hl).1 k hk
  · have hd : β' d = β c := hβ d (by simp)
    refine ⟨by unfold rel at *; rw [hd]; exact hr, fun id ob hl' => ?_⟩
    rw [lk_cons] at hl'
    split at hl'
    · rename_i e; cases hl'; subst e
      rw [hd]
      obtain ⟨r1, r2⟩ := orel_mono (S' := S') (w' := w) ⟨Nat.le_refl _, fun k hk hs => ⟨hS k hk hs, rfl⟩⟩ (fun _ _ => rfl) (ho.objs _ _ hl)
      exact ⟨r1, teq_ok _ _ _ _ _ (by unfold teq; exact ⟨rfl, rfl, h3⟩) r2⟩
    · simp [lk] at hl'
theorem Gives.freezeT {o : Os} {c e e' n n' N : Nat} {g g' : Nat → List AV} (hl : lk o c = some (.tree e' N g)) (h1 : N = n) (h2 : n = n') (h3 : ∀ i, i < n' → teqs (g i) (g' i)) (h4 : e' = e) : Gives o (.orow c e 0 n) (rem o c) (.row none e n' g') [] := by
  subst h1 h2 h4
  refine ⟨rem_sub, fun S β w u ho hr => ⟨W0, List.nodup_nil, (fun k hk => by cases hk), fun S' β' hβ hS hS2 => ⟨?_, fun id ob hl => by simp [lk] at hl⟩⟩⟩
  unfold rel at hr
  obtain ⟨_, rfl⟩ := hr
  obtain ⟨q1, q2⟩ := ho.objs _ _ hl
  have q3 := teq_ok _ (.row none e' N g') _ _ _ (by unfold teq; exact ⟨rfl, rfl, h3⟩) q2
  have q4 := treeD_rel (S' := S') ⟨Nat.le_refl _, fun k hk hs => ⟨hS k hk hs, rfl⟩⟩ _ _ _ _ (fun k hk => by
    have hb := (ho.row hl).1 k hk
    exact ⟨hS2 k hb.1 hb.2 (fun h => by cases h), ho.lt k hb.1⟩) q3
  have e1 : Value.slice ((β c).a.map (·.add (0 * e'))) N ((β c).cap - 0) = .slice (β c).a N (β c).cap := by
    rw [Nat.zero_mul, Nat.sub_zero]
    congr 1
    cases (β c).a <;> rfl
  rw [e1]
  exact rel_W0 q4
theorem Givess.nil {o : Os} : Givess o [] o [] [] :=
  ⟨List.Sublist.refl _, fun S β w u ho hr => ⟨W0, List.nodup_nil, (fun k hk => by cases hk), fun S' β' hβ hS hS2 => ⟨hr, fun id ob hl => by simp [lk] at hl⟩⟩⟩
theorem OB.sub {S : Nat → Prop} {β : Nat → Wt} {w : World} {o o' : Os} (h : o'.Sublist o) (ho : OB S β w o) : OB S β w o' :=
  ⟨fun id ob hl => ho.objs id ob (lk_key (h.subset (lk_mem hl)) ho.keys), ho.nodup.sublist (feet_sub h), ho.keys.sublist (h.map _), fun k hk => ho.lt k ((feet_sub h).subset hk)⟩
theorem Givess.cons {o o1 o2 : Os} {v r : AV} {vs rs : List AV} {no1 no2 : Os} (h1 : Gives o v o1 r no1) (h2 : Givess o1 vs o2 rs no2) (hk : ((no1 ++ no2).map (·.1)).Nodup) : Givess o (v :: vs) o2 (r :: rs) (no1 ++ no2) := by
  obtain ⟨s1, h1⟩ := h1
  obtain ⟨s2, h2⟩ := h2
  refine ⟨s2.trans s1, fun S β w u ho hr => ?_⟩
  obtain ⟨q, us, rfl, r1, r2⟩ := hr
  obtain ⟨β1, a1, a2, a3⟩ := h1 S β w q ho r1
  obtain ⟨β2, b1, b2, b3⟩ := h2 S β w us (ho.sub s1) r2
  have hkn := hk
  rw [List.map_append, List.nodup_append] at hkn
  have k1 : ∀ i, i ∈ no1.map (·.1) → (fun i => bif memN i (no1.map (·.1)) then β1 i else β2 i) i = β1 i := fun i hi => by
    have := memN_iff.2 hi
    simp only [this, cond_true]
  have k2 : ∀ i, i ∈ no2.map (·.1) → (fun i => bif memN i (no1.map (·.1)) then β1 i else β2 i) i = β2 i := fun i hi => by
    have : memN i (no1.map (·.1)) = false := by
      rw [← Bool.not_eq_true]; intro h
      exact hkn.2.2 i (memN_iff.1 h) i hi rfl
    simp only [this, cond_false]
  have f1 : feet no1 (fun i => bif memN i (no1.map (·.1)) then β1 i else β2 i) = feet no1 β1 := by
    unfold feet
    exact flatMap_congr fun p hp => by rw [k1 p.1 (List.mem_map.2 ⟨p, hp, rfl⟩)]
  have f2 : feet no2 (fun i => bif memN i (no1.map (·.1)) then β1 i else β2 i) = feet no2 β2 := by
    unfold feet
    exact flatMap_congr fun p hp => by rw [k2 p.1 (List.mem_map.2 ⟨p, hp, rfl⟩)]
  have hf : feet (no1 ++ no2) (fun i => bif memN i (no1.map (·.1)) then β1 i else β2 i) = feet no1 β1 ++ feet no2 β2 := by rw [feet_app, f1, f2]
  have sub1 : ∀ k, k ∈ feet o1 β → k ∈ feet o β := fun k hk => (feet_sub s1).subset hk
  have sub2 : ∀ k, k ∈ feet o2 β → k ∈ feet o1 β := fun k hk => (feet_sub s2).subset hk
  refine ⟨fun i => bif memN i (no1.map (·.1)) then β1 i else β2 i, ?_, fun k hk => ?_, fun S' β' hβ hS hS2 => ?_⟩
  · rw [hf]
    refine List.nodup_append.2 ⟨a1, b1, fun x hx y hy e => ?_⟩
    subst e
    exact (a2 x hx).2 (b2 x hy).1
  · rw [hf] at hk
    rcases List.mem_append.1 hk with q | q
    · exact ⟨(a2 k q).1, fun h => (a2 k q).2 (sub2 k h)⟩
    · exact ⟨sub1 k (b2 k q).1, (b2 k q).2⟩
  · rw [hf] at hS2
    obtain ⟨c1, c2⟩ := a3 S' β' (fun i hi => (hβ i (by rw [List.map_append]; exact List.mem_append_left _ hi)).trans (k1 i hi)) hS fun k h3 h4 h5 => hS2 k h3 (fun h => h4 (sub2 k h)) fun h => by
      rcases List.mem_append.1 h with q | q
      · exact h5 q
      · exact h4 (b2 k q).1
    obtain ⟨d1, d2⟩ := b3 S' β' (fun i hi => (hβ i (by rw [List.map_append]; exact List.mem_append_right _ hi)).trans (k2 i hi)) hS fun k h3 h4 h5 => hS2 k (sub1 k h3) h4 fun h => by
      rcases List.mem_append.1 h with q | q
      · exact (a2 k q).2 h3
      · exact h5 q
    refine ⟨⟨_, _, rfl, c1, d1⟩, fun id ob hl => ?_⟩
    rw [lk_app] at hl
    cases hq : lk no1 id with
    | some ob' => rw [hq] at hl; cases hl; exact c2 id ob hq
    | none => rw [hq] at hl; exact d2 id ob hl
theorem Gives.agg {o o' : Os} {cs rs : List AV} {no : Os} (h : Givess o cs o' rs no) : Gives o (.agg cs) o' (.agg rs) no :=
  ⟨h.1, fun S β w u ho ⟨us, h1, h2⟩ => by
    obtain ⟨β1, a1, a2, a3⟩ := h.2 S β w us ho h2
    exact ⟨β1, a1, a2, fun S' β' x y z => ⟨⟨us, h1, (a3 S' β' x y z).1⟩, (a3 S' β' x y z).2⟩⟩⟩
theorem Gives.tup {o o' : Os} {cs rs : List AV} {no : Os} (h : Givess o cs o' rs no) : Gives o (.tup cs) o' (.tup rs) no :=
  ⟨h.1, fun S β w u ho ⟨us, h1, h2⟩ => by
    obtain ⟨β1, a1, a2, a3⟩ := h.2 S β w us ho h2
    exact ⟨β1, a1, a2, fun S' β' x y z => ⟨⟨us, h1, (a3 S' β' x y z).1⟩, (a3 S' β' x y z).2⟩⟩⟩
/-! ## The way out -/
def retsK (T : TT) (s : Sl) (o : Os) : List ResultVar → (List AV → Prop) → Prop
  | [], K => K []
  | .tmp t :: l, K => match lk s t with
    | some (0, v) => forceK v fun v => retsK T s o l fun vs => K (v :: vs)
    | _ => False
  | .cell p t :: l, K => match lk s p with
    | some (0, v) => withT T t fun ti => loadA [] 0 ti o v fun r => retsK T s o l fun vs => K (r :: vs)
    | _ => False
def retA (T : TT) (s : Sl) (o : Os) (rs : List ResultVar) (K : AV → Prop) : Prop := retsK T s o rs fun vs => match vs with
  | [v] => K v
  | vs => K (.tup vs)
section
variable {P : Program} {T : TT} {n : Nat} {keep : List Nat}
def rvRun (a : Act) : ResultVar → Sem Value
  | .tmp t => pure (a.tmps.getD t undef)
  | .cell p t => do loadVar t (← asAddr (a.tmps.getD p undef))
theorem retsK_ok {s : Sl} {o : Os} (hT : TTok P T) : ∀ {rs : List ResultVar} {K : List AV → Prop}, retsK T s o rs K → ∃ vs, K vs ∧ ∀ (E : Env) (β : Nat → Wt) (a : Act) (w : World), Gam E [] s o β a w →
      ∃ us, (rs.mapM (rvRun a) : Sem (List Value)).run P w = .ok us w ∧ rels (E.good o β) β w vs us
  | [], K, h => ⟨[], h, fun E β a w hg => ⟨[], by simp, rfl⟩⟩
  | .tmp t :: l, K, h => by
    simp only [retsK] at h
    split at h
    · rename_i v hl
      have h := force_ok h
      obtain ⟨vs, h1, h2⟩ := retsK_ok hT (rs := l) h
      refine ⟨_, h1, fun E β a w hg => ?_⟩
      obtain ⟨us, e1, e2⟩ := h2 E β a w hg
      have e3 := (show Opn [] s 0 (.tmp t) v from ⟨0, hl, rfl⟩).eval hg (tg_zero TbOk.nil)
      refine ⟨a.eval (.tmp t) :: us, ?_, _, _, rfl, e3, e2⟩
      have e0 : (rvRun a (.tmp t)).run P w = .ok (a.eval (.tmp t)) w := rfl
      rw [List.mapM_cons]
      simp only [Sem.run_bind, Sem.run_pure, Result.andThen, e0, e1]
    · cases h
  | .cell p t :: l, K, h => by
    simp only [retsK] at h
    split at h
    · rename_i v hl
      obtain ⟨ti, h, hti⟩ := withT_ok hT h
      have hx : Opn [] s 0 (.tmp p) v := ⟨0, hl, rfl⟩
      obtain ⟨r, h, hv⟩ := loadA_ok hti hx h
      obtain ⟨vs, h1, h2⟩ := retsK_ok hT (rs := l) h
      refine ⟨_, h1, fun E β a w hg => ?_⟩
      obtain ⟨us, e1, e2⟩ := h2 E β a w hg
      obtain ⟨u, e3, e4⟩ := hv E [] s o β a w (Ext.refl _) (fun _ _ _ _ => rfl) (fun _ _ h => h) hg (tg_zero TbOk.nil) (tg_zero TbOk.nil) none 0 "" #[] none
      have e5 : (do loadVar t (← asAddr (a.tmps.getD p undef)) : Sem Value).run P w = .ok u w := by
        simp only [execOp] at e3
        have e6 : (Instr.loadAt t (a.eval (.tmp p))).run P w = .ok u w := by
          cases hq : (Instr.loadAt t (a.eval (.tmp p))).run P w with
          | ok x w' => simp [hq] at e3; rw [e3.1, e3.2]
          | halt x w' => simp [hq] at e3
        unfold Instr.loadAt at e6
        show (do loadVar t (← asAddr (a.eval (.tmp p))) : Sem Value).run P w = .ok u w
        cases hq : a.eval (.tmp p) with
        | pointer A =>
          rw [hq] at e6
          cases A with
          | some ad => simpa [Instr.sureAddr, asAddr] using e6
          | none => simp [Instr.sureAddr] at e6
        | _ => rw [hq] at e6; simp [Instr.sureAddr] at e6
      refine ⟨u :: us, ?_, _, _, rfl, e4, e2⟩
      have e0 : (rvRun a (.cell p t)).run P w = .ok u w := e5
      rw [List.mapM_cons]
      simp only [Sem.run_bind, Sem.run_pure, Result.andThen, e0, e1]
    · cases h
theorem retA_ok {s : Sl} {o : Os} {rs : List ResultVar} {K : AV → Prop} {fn : Func} (hT : TTok P T) (hr : fn.results = rs.toArray) (h : retA T s o rs K) : ∃ v, K v ∧ ∀ (E : Env) (β : Nat → Wt) (a : Act) (w : World), Gam E [] s o β a w → ∃ u, (results fn a.tmps).run P w = .ok u w ∧ rel (E.good o β) β w v u := by
  obtain ⟨vs, h, hv⟩ := retsK_ok hT h
  have key : ∀ (a : Act) (w : World) (us : List Value), (rs.mapM (rvRun a) : Sem (List Value)).run P w = .ok us w → (results fn a.tmps).run P w = .ok (match us with | [u] => u | us => .tuple us.toArray) w := fun a w us hus => by
    have e : (results fn a.tmps) = (do let vs ← (rs.mapM (rvRun a)); pure (if h : vs.toArray.size = 1 then vs.toArray[0] else .tuple vs.toArray)) := by
      unfold results
      rw [hr, List.mapM_toArray, bind_map_left]
      congr 1
    rw [e, Sem.run_bind, hus]
    simp only [Result.andThen, Sem.run_pure]
    cases us with
    | nil => rfl
    | cons u us => cases us with
      | nil => rfl
      | cons u' us => simp
  cases vs with
  | nil =>
    refine ⟨_, h, fun E β a w hg => ?_⟩
    obtain ⟨us, e1, e2⟩ := hv E β a w hg
    unfold rels at e2
    subst e2
    exact ⟨_, key a w _ e1, [], rfl, rfl⟩
  | cons v vs =>
    cases vs with
    | nil =>
      refine ⟨_, h, fun E β a w hg => ?_⟩
      obtain ⟨us, e1, q, us', rfl, e2, e3⟩ := hv E β a w hg
      unfold rels at e3
      subst e3
      exact ⟨_, key a w _ e1, e2⟩
    | cons v' vs =>
      refine ⟨_, h, fun E β a w hg => ?_⟩
      obtain ⟨us, e1, q, us', rfl, e2, q', us'', rfl, e3, e4⟩ := hv E β a w hg
      exact ⟨_, key a w _ e1, q :: q' :: us'', rfl, q, _, rfl, e2, q', _, rfl, e3, e4⟩
def sucN : Nat → Nat
  | 0 => 1
  | 1 => 2
  | 2 => 3
  | 3 => 4
  | 4 => 5
  | 5 => 6
  | 6 => 7
  | n => n + 1
theorem sucN_eq (n : Nat) : sucN n = n + 1 := by unfold sucN; split <;> rfl
def startA : List AV → Nat → Sl
  | [], _ => []
  | v :: vs, k => (k, 0, v) :: startA vs (sucN k)
theorem lk_startA {i c : Nat} {v : AV} : ∀ {vs : List AV} {k : Nat}, lk (startA vs k) i = some (c, v) → c = 0 ∧ k ≤ i ∧ vs[i - k]? = some v
  | [], k, h => by simp [startA, lk] at h
  | u :: vs, k, h => by
    rw [startA, lk_cons] at h
    split at h
    · rename_i e; subst e; cases h
      exact ⟨rfl, Nat.le_refl _, by simp⟩
    · rw [sucN_eq] at h
      obtain ⟨h1, h2, h3⟩ := lk_startA h
      refine ⟨h1, by omega, ?_⟩
      rw [show i - k = (i - (k + 1)) + 1 by omega, List.getElem?_cons_succ]; exact h3
/-- How a run of a body ends: it hands over what is told. -/
def RetK (T : TT) (rs : List ResultVar) (s : Sl) (o : Os) (r : AV) (no : Os) : Prop := retA T s o rs fun v => ∃ o', Gives o v o' r no
def endK (T : TT) (rs : List ResultVar) (r : AV) (no : Os) : Ex → Sl → Os → Prop
  | .r, s, o => RetK T rs s o r no
  | .n, s, o => RetK T rs s o r no
  | .x _, _, _ => False
theorem ASpec.enter {f : FuncId} {fn : Func} {c : Code} {args : List AV} {r : AV} {no : Os} {rs : List ResultVar} (hT : TTok P T) (hm : P.follows .mixedOrders = true) (hf : P.funcs[f]? = some fn) (hb : fn.body = some c) (hcall : ∀ args w, (callFunc f args).run P w = .ok (.enter f args) w)
    (hnt : fn.ntmps = n) (hlen : Nat.ble args.length n = true) (hr : fn.results = rs.toArray) (hk : (no.map (·.1)).Nodup) (hclo : Clo r no) (h : runC P T n keep c (startA args 0) [] (endK T rs r no)) : ASpec P f args r no := by
  subst hnt
  refine ⟨hcall, hclo, fun S w us hus hvr => ?_⟩
  have hl := rels_len hus
  have hlen := Nat.le_of_ble_eq_true hlen
  refine calls_of_wp hf hb (runC_ok (E := ⟨fn.ntmps, S, w, [], hvr, fun _ _ => by simp⟩) (Q := bodyPost P fn _) hT hm h rfl (fun e s' o' hk' β a w' hg => ?_) W0 _ w ⟨by simp; omega, rfl, TbOk.nil, fun d c v hl' => ?_, fun id ob hl' => by simp [lk] at hl', BelowX.refl _ _, (fun k hk => by simp [feet] at hk), by simp [feet], by simp⟩)
  · have key : RetK T rs s' o' r no → bodyPost P fn (fun e w' => ∃ v β', e = .returned v ∧ Below w.heap.size w w' ∧
        (∀ id ob, lk no id = some ob → orel (fun k => (S k ∨ w.heap.size ≤ k) ∧ k ∉ feet no β') β' w' (β' id) ob) ∧ (∀ k ∈ feet no β', w.heap.size ≤ k ∧ k < w'.heap.size) ∧ (feet no β').Nodup ∧ (no.map (·.1)).Nodup ∧ rel (fun k => (S k ∨ w.heap.size ≤ k) ∧ k ∉ feet no β') β' w' r v) .ret a w' := fun hR => by
      obtain ⟨v, ⟨o2, hsub, hgv⟩, hv⟩ := retA_ok (P := P) hT hr hR
      obtain ⟨u, hrun, hrel⟩ := hv _ β a w' hg
      obtain ⟨β1, g1, g2, g3⟩ := hgv _ β w' u ⟨hg.objs, hg.nodup, hg.keys, fun k hk => (hg.new k hk).2⟩ hrel
      have hnew : ∀ k ∈ feet o' β, w.heap.size ≤ k := fun k hk => by
        rcases (hg.new k hk).1 with q | q
        · exact q
        · cases q
      obtain ⟨g4, g5⟩ := g3 (fun k => (S k ∨ w.heap.size ≤ k) ∧ k ∉ feet no β1) β1 (fun _ _ => rfl) (fun k _ hk => ⟨(by
          rcases hk.1 with q | q | q
          · exact .inl q
          · exact .inr q
          · cases q), fun hq => hk.2 (g2 k hq).1⟩) fun k h1 h2 h3 => ⟨.inr (hnew k h1), h3⟩
      exact ⟨hg.defers, u, hrun, u, β1, rfl, hg.below.below, g5, fun k hk => ⟨hnew k (g2 k hk).1, (hg.new k (g2 k hk).1).2⟩, g1, hk, g4⟩
    cases e with
    | n => exact key hk'
    | r => exact key hk'
    | x i => cases hk'
  · obtain ⟨rfl, _, h3⟩ := lk_startA hl'
    obtain ⟨u, e1, e2⟩ := rels_get hus h3
    refine ⟨u, ?_, fun _ => ?_⟩
    · have hd : d < us.length := (List.getElem?_eq_some_iff.1 (by simpa using e1)).1
      rw [tg_zero TbOk.nil]
      show (us.toArray ++ Array.replicate (fn.ntmps - us.toArray.size) undef)[d]? = some u
      rw [Array.getElem?_append_left (by simpa using hd)]
      simpa using e1
    · exact rel_mono (S := S) ⟨Nat.le_refl _, fun k hk hs => ⟨⟨.inl hs, by simp [feet]⟩, rfl⟩⟩ _ _ e2
end
end Go.Proofs.Ytecknkgiaahheaa

/- Loops, as they are told. -/
namespace Go.Proofs.Ytecknkgiaahheaa
open Go.RowKit
set_option linter.unusedVariables false
set_option linter.unusedSimpArgs false
mutual
/-- Is all that a value speaks of told as it was? -/
def safe (ρ : List (Nat × Nat)) (nl : List Nat) : AV → Bool
  | .op id _ => Nat.beq (rho ρ id) id && !memN id nl
  | .orow id _ _ _ => Nat.beq (rho ρ id) id && !memN id nl
  | .rp _ _ _ _ => false
  | .pp _ _ _ _ _ => false
  | .pth id _ _ _ _ => Nat.beq (rho ρ id) id && !memN id nl
  | .ifc _ _ => false
  | .omap id => Nat.beq (rho ρ id) id && !memN id nl
  | .agg cs => safes ρ nl cs
  | .tup cs => safes ρ nl cs
  | .clo _ cs => safes ρ nl cs
  | _ => true
def safes (ρ : List (Nat × Nat)) (nl : List Nat) : List AV → Bool
  | [] => true
  | x :: xs => safe ρ nl x && safes ρ nl xs
end
mutual
theorem safe_mat {ρ : List (Nat × Nat)} {nl : List Nat} : ∀ {v : AV}, safe ρ nl v = true → mat ρ nl v v
  | .i k z, _ => by
    cases k <;> simp [mat, sameK]
  | .b t, _ => rfl
  | .s t, _ => rfl
  | .v t, _ => rfl
  | .nil, _ => trivial
  | .row nz e n g, _ => by cases nz <;> simp [mat]
  | .cp cs, _ => rfl
  | .op id off, h => by simp only [safe] at h; simp only [mat, h]
  | .orow id e off n, h => by simp only [safe] at h; simp only [mat, h]; exact ⟨trivial, trivial, trivial⟩
  | .omap id, h => by simp only [safe] at h; simp only [mat]; exact h
  | .agg cs, h => safes_mats (v := cs) h
  | .tup cs, h => safes_mats (v := cs) h
  | .clo f cs, h => by simp only [mat, Nat.beq_refl]; exact safes_mats (v := cs) h
  | .rp _ _ _ _, h => nomatch h
  | .ifc _ _, h => nomatch h
  | .any, _ => trivial
  | .pp _ _ _ _ _, h => nomatch h
  | .pth id p e off n, h => by simp only [safe] at h; simp only [mat, h]; exact ⟨trivial, trivial, trivial, trivial⟩
theorem safes_mats {ρ : List (Nat × Nat)} {nl : List Nat} : ∀ {v : List AV}, safes ρ nl v = true → mats ρ nl v v
  | [], _ => trivial
  | x :: xs, h => by
    simp only [safes, Bool.and_eq_true] at h
    exact ⟨safe_mat h.1, safes_mats h.2⟩
end
def lkU (s : Sl) : Sl → List (Option (Nat × AV))
  | [] => []
  | (d, _, _) :: U => lk s d :: lkU s U
def valU : Sl → List (Option (Nat × AV))
  | [] => []
  | (_, _, v) :: U => some (0, v) :: valU U
def safeU (ρ : List (Nat × Nat)) (nl : List Nat) : Sl → Bool
  | [] => true
  | (_, c, v) :: U => Nat.beq c 0 && safe ρ nl v && safeU ρ nl U
theorem sameU_ent {ρ : List (Nat × Nat)} {nl : List Nat} {s : Sl} : ∀ {U : Sl}, lkU s U = valU U → safeU ρ nl U = true → entS ρ nl s U
  | [], _, _ => trivial
  | (d, c, v) :: U, h, hs => by
    simp only [lkU, valU, List.cons.injEq] at h
    simp only [safeU, Bool.and_eq_true] at hs
    have hc := Nat.eq_of_beq_eq_true hs.1.1
    subst hc
    simp only [entS, h.1]
    exact ⟨safe_mat hs.1.2, sameU_ent h.2 hs.2⟩
theorem entS_app {ρ : List (Nat × Nat)} {nl : List Nat} {s : Sl} : ∀ {a b : Sl}, entS ρ nl s a → entS ρ nl s b → entS ρ nl s (a ++ b)
  | [], b, _, h => h
  | (d, c, v) :: a, b, h, h' => by
    simp only [entS, List.cons_append] at h ⊢
    split at h
    · exact ⟨h.1, entS_app h.2 h'⟩
    · cases h
/-- The slots that turn in a loop, with what they hold. -/
def zipS : List Nat → List AV → Sl
  | d :: ds, v :: vs => (d, 0, v) :: zipS ds vs
  | _, _ => []
/-- The slots that stay. -/
def unch (keep ch : List Nat) : Sl → Sl
  | [] => []
  | (d, c, v) :: s => bif memN d keep && !memN d ch && Nat.beq c 0 then (d, 0, v) :: unch keep ch s else unch keep ch s
theorem Ent.lp (ρ : List (Nat × Nat)) (nl : List Nat) {ch : List Nat} {vs : List AV} {U s : Sl} {o o' : Os} (hU : lkU s U = valU U) (hs : safeU ρ nl U = true) (hn : (nodupB (srcs ρ nl o') && nodupB (keysN o')) = true) (hch : entS ρ nl s (zipS ch vs)) (ho : entO ρ nl o o') : Ent s o (zipS ch vs ++ U) o' :=
  Ent.of ρ nl hn (entS_app hch (sameU_ent hU hs)) ho
section
variable {P : Program} {T : TT} {n : Nat} {keep : List Nat}
/-- A loop: the slots that turn (ch) and what they hold, what is owned, by an index q; what holds of q; a measure; the first index. -/
theorem lp {c : Code} {s : Sl} {o : Os} {K : Ex → Sl → Os → Prop} {α : Type} (ch : List Nat) (vs : α → List AV) (ob : α → Os) (I : α → Prop) (μ : α → Nat) (i : α) (hI : I i) (h0 : Ent s o (zipS ch (vs i) ++ unch keep ch s) (ob i))
    (round : ∀ q, I q → runC P T n keep c (zipS ch (vs q) ++ unch keep ch s) (ob q) (loopK (Again (fun q => (zipS ch (vs q) ++ unch keep ch s, ob q)) I μ (μ q)) K)) : LoopQ (runC P T n keep c) s o K := .mk α (fun q => (zipS ch (vs q) ++ unch keep ch s, ob q)) I μ i hI h0 round
end
end Go.Proofs.Ytecknkgiaahheaa

/- Keys of maps that are structs of three ints. -/
namespace Go.Proofs.Ytecknkgiaahheaa
open Go.RowKit
set_option linter.unusedVariables false
set_option linter.unusedSimpArgs false
set_option maxRecDepth 100000
theorem keyat3 {P : Program} {k ik n : Nat} {f0 f1 f2 : Field} (hu : P.underlying k = some (.struct #[f0, f1, f2])) (hi : P.underlying ik = some (.int .i64)) (t0 : f0.type = ik) (t1 : f1.type = ik) (t2 : f2.type = ik) (o0 : f0.offset = 0) (o1 : f1.offset = 1) (o2 : f2.offset = 2)
    (n0 : (f0.name != "_") = true) (n1 : (f1.name != "_") = true) (n2 : (f2.name != "_") = true) (c1 : P.cellsOf ik = 1) (c3 : P.cellsOf k = 3) (hk : P.keyType k = true) (hn : P.types.size = n + 1) {a b c : Int} (ha : (Lit.int .i64 a).wf = true) (hb : (Lit.int .i64 b).wf = true) (hc : (Lit.int .i64 c).wf = true) :
    ∃ kl, keyOf P k (.agg #[.int .i64 a, .int .i64 b, .int .i64 c]) = some kl := by
  have hL : ∀ d z, (Lit.int .i64 z).wf = true → P.keyLits (d + 1) ik [.int .i64 z] = some [.int .i64 z] := fun d z hz => by
    rw [Program.keyLits.eq_def]
    simp only [hi]
    rw [if_pos ⟨by first | trivial | rfl, hz⟩]
  have hS : P.keyLits (P.types.size + 1) k [.int .i64 a, .int .i64 b, .int .i64 c] = some [.int .i64 a, .int .i64 b, .int .i64 c] := by
    rw [Program.keyLits.eq_def, hn]
    simp only [hu, c3]
    rw [if_pos ⟨rfl, by simp [n0, n1, n2]⟩]
    simp [t0, t1, t2, o0, o1, o2, c1, hL n _ ha, hL n _ hb, hL n _ hc, List.mapM_cons]
  have hf : (Value.agg #[.int .i64 a, .int .i64 b, .int .i64 c]).formed P k = true := by
    simp [Value.formed, hu, c3]
  refine ⟨.string (keyBytes [.int .i64 a, .int .i64 b, .int .i64 c]), ?_⟩
  unfold keyOf
  simp only [hu, hk, hf, Bool.and_self, if_true]
  show Option.map _ (P.keyLits (P.types.size + 1) k [.int .i64 a, .int .i64 b, .int .i64 c]) = _
  rw [hS]; rfl

end Go.Proofs.Ytecknkgiaahheaa

/- What the engine asks of the types of this program, printed by a program. -/
namespace Go.Proofs.Ytecknkgiaahheaa
open Go.RowKit
set_option linter.unusedVariables false
set_option linter.unusedSimpArgs false
set_option maxRecDepth 20000
theorem laidOut : laidOutB Try.prog = true := by kernel_rfl
theorem el_ok {P : Program} {e n b : Nat} (h : (P.info? e).map (fun i => (i.size, i.bytes, i.zero.map fun z => (z.cells.size, z.cells.toList.all (·.oneCell')))) = some (n, b, some (n, true))) : ∃ inf z, P.info? e = some inf ∧ inf.size = n ∧ inf.bytes = b ∧ inf.zero = some z ∧ z.cells.size = n ∧ z.cells.toList.all (·.oneCell') = true := by
  obtain ⟨i, h1, h2⟩ := Option.map_eq_some_iff.1 h
  simp only [Prod.mk.injEq] at h2
  obtain ⟨h3, h4, h5⟩ := h2
  obtain ⟨z, h6, h7⟩ := Option.map_eq_some_iff.1 h5
  simp only [Prod.mk.injEq] at h7
  exact ⟨i, z, h1, h3, h4, h6, h7.1, h7.2⟩
theorem shp_int {k : IntKind} {z : Int} {zs us : List Value} (h : shp (.int k z :: zs) us = true) : ∃ a us', us = .int k a :: us' ∧ shp zs us' = true := by
  cases us with
  | nil => cases h
  | cons u us => cases u <;> simp [shp] at h; obtain ⟨rfl, h⟩ := h; exact ⟨_, _, rfl, h⟩
theorem shp_nil {us : List Value} (h : shp [] us = true) : us = [] := by cases us <;> first | rfl | cases h
def ti_2 : TI := ⟨1, false, [], none, [.int .i64 0], some .i64, false, false, false, false, none⟩
theorem tiok_2 : TIok Try.prog 2 ti_2 where
  agg := Try.isAgg2
  sz := Try.sizeOf2
  offs := fun f j n h => by simp [ti_2] at h
  el := fun e n b h => by cases h
  zero := fun _ => ⟨⟨_, Try.zeroValue2, rfl⟩, rfl, rfl⟩
  ik := fun k h => by cases h; exact Try.underlying2
  str := fun h => by cases h
  bld := fun h => by cases h
  bo := fun h => by cases h
  cmp := fun h => by cases h
  mp := fun k e ks m h => by cases h
def ti_3 : TI := ⟨1, false, [], none, [.int .i64 0], some .i64, false, false, false, false, none⟩
theorem tiok_3 : TIok Try.prog 3 ti_3 where
  agg := Try.isAgg3
  sz := Try.sizeOf3
  offs := fun f j n h => by simp [ti_3] at h
  el := fun e n b h => by cases h
  zero := fun _ => ⟨⟨_, Try.zeroValue3, rfl⟩, rfl, rfl⟩
  ik := fun k h => by cases h; exact Try.underlying3
  str := fun h => by cases h
  bld := fun h => by cases h
  bo := fun h => by cases h
  cmp := fun h => by cases h
  mp := fun k e ks m h => by cases h
def ti_4 : TI := ⟨1, false, [], none, [.bool false], none, false, true, false, false, none⟩
theorem tiok_4 : TIok Try.prog 4 ti_4 where
  agg := Try.isAgg4
  sz := Try.sizeOf4
  offs := fun f j n h => by simp [ti_4] at h
  el := fun e n b h => by cases h
  zero := fun _ => ⟨⟨_, Try.zeroValue4, rfl⟩, rfl, rfl⟩
  ik := fun k h => by cases h
  str := fun h => by cases h
  bld := fun h => by cases h
  bo := fun _ => Try.underlying4
  cmp := fun h => by cases h
  mp := fun k e ks m h => by cases h
def ti_5 : TI := ⟨1, false, [], none, [.int .u8 0], some .u8, false, false, false, false, none⟩
theorem tiok_5 : TIok Try.prog 5 ti_5 where
  agg := Try.isAgg5
  sz := Try.sizeOf5
  offs := fun f j n h => by simp [ti_5] at h
  el := fun e n b h => by cases h
  zero := fun _ => ⟨⟨_, Try.zeroValue5, rfl⟩, rfl, rfl⟩
  ik := fun k h => by cases h; exact Try.underlying5
  str := fun h => by cases h
  bld := fun h => by cases h
  bo := fun h => by cases h
  cmp := fun h => by cases h
  mp := fun k e ks m h => by cases h
def ti_9 : TI := ⟨1, false, [], none, [.string ⟨#[]⟩], none, true, false, false, false, none⟩
theorem tiok_9 : TIok Try.prog 9 ti_9 where
  agg := Try.isAgg9
  sz := Try.sizeOf9
  offs := fun f j n h => by simp [ti_9] at h
  el := fun e n b h => by cases h
  zero := fun _ => ⟨⟨_, Try.zeroValue9, rfl⟩, rfl, rfl⟩
  ik := fun k h => by cases h
  str := fun _ => Try.underlying9
  bld := fun h => by cases h
  bo := fun h => by cases h
  cmp := fun h => by cases h
  mp := fun k e ks m h => by cases h
def ti_22 : TI := ⟨1, false, [], some (101, 2, 24), [.slice none 0 0], none, false, false, false, false, none⟩
theorem tiok_22 : TIok Try.prog 22 ti_22 where
  agg := Try.isAgg22
  sz := Try.sizeOf22
  offs := fun f j n h => by simp [ti_22] at h
  el := fun e n b h => by cases h; exact ⟨Try.underlying22, Try.sizeOf101, el_ok (by kernel_rfl)⟩
  zero := fun _ => ⟨⟨_, Try.zeroValue22, rfl⟩, rfl, rfl⟩
  ik := fun k h => by cases h
  str := fun h => by cases h
  bld := fun h => by cases h
  bo := fun h => by cases h
  cmp := fun h => by cases h
  mp := fun k e ks m h => by cases h
def ti_23 : TI := ⟨1, false, [], some (86, 3, 48), [.slice none 0 0], none, false, false, false, false, none⟩
theorem tiok_23 : TIok Try.prog 23 ti_23 where
  agg := Try.isAgg23
  sz := Try.sizeOf23
  offs := fun f j n h => by simp [ti_23] at h
  el := fun e n b h => by cases h; exact ⟨Try.underlying23, Try.sizeOf86, el_ok (by kernel_rfl)⟩
  zero := fun _ => ⟨⟨_, Try.zeroValue23, rfl⟩, rfl, rfl⟩
  ik := fun k h => by cases h
  str := fun h => by cases h
  bld := fun h => by cases h
  bo := fun h => by cases h
  cmp := fun h => by cases h
  mp := fun k e ks m h => by cases h
def ti_24 : TI := ⟨1, false, [], some (34, 4, 72), [.slice none 0 0], none, false, false, false, false, none⟩
theorem tiok_24 : TIok Try.prog 24 ti_24 where
  agg := Try.isAgg24
  sz := Try.sizeOf24
  offs := fun f j n h => by simp [ti_24] at h
  el := fun e n b h => by cases h; exact ⟨Try.underlying24, Try.sizeOf34, el_ok (by kernel_rfl)⟩
  zero := fun _ => ⟨⟨_, Try.zeroValue24, rfl⟩, rfl, rfl⟩
  ik := fun k h => by cases h
  str := fun h => by cases h
  bld := fun h => by cases h
  bo := fun h => by cases h
  cmp := fun h => by cases h
  mp := fun k e ks m h => by cases h
def ti_26 : TI := ⟨3, true, [(0, 1), (1, 1), (2, 1)], none, [.slice none 0 0, .slice none 0 0, .slice none 0 0], none, false, false, false, true, none⟩
theorem tiok_26 : TIok Try.prog 26 ti_26 where
  agg := Try.isAgg26
  sz := Try.sizeOf26
  offs := fun f j n h => match f, j, n, h with
    | 0, _, _, h => by cases h; intro a w; simp [Instr.fieldAt, run_underlying Try.underlying26, Instr.sureAddr, fieldPlace, Try.sizeOf22]
    | 1, _, _, h => by cases h; intro a w; simp [Instr.fieldAt, run_underlying Try.underlying26, Instr.sureAddr, fieldPlace, Try.sizeOf23]
    | 2, _, _, h => by cases h; intro a w; simp [Instr.fieldAt, run_underlying Try.underlying26, Instr.sureAddr, fieldPlace, Try.sizeOf24]
    | _ + 3, _, _, h => by simp [ti_26] at h
  el := fun e n b h => by cases h
  zero := fun _ => ⟨⟨_, Try.zeroValue26, rfl⟩, rfl, rfl⟩
  ik := fun k h => by cases h
  str := fun h => by cases h
  bld := fun _ ps cs hf w => by
    have hp : ∀ {fs : Array Field}, Try.prog.underlying 26 = some (.struct fs) → ∀ w, (fs.mapM fun f => (do pure (f.offset, ← sizeOf f.type) : Sem (Nat × Nat))).run Try.prog w = .ok #[(0, 1), (1, 1), (2, 1)] w := fun {fs} h => by
      rw [Try.underlying26] at h; cases h; intro w; kernel_rfl
    have hf1 : fills (fun (j : Nat) => ([(0, 1), (1, 1), (2, 1)] : List (Nat × Nat))[j]?) [.slice none 0 0, .slice none 0 0, .slice none 0 0] ps = some cs := hf
    have hf' := fills_eq _ _ _ _ hf1
    unfold Instr.build
    simp only [Sem.run_bind, Try.zeroValue26, Result.andThen, Value.cells, run_underlying Try.underlying26, hp Try.underlying26]
    have e : (fun (j : Nat) => (#[(0, 1), (1, 1), (2, 1)] : Array (Nat × Nat))[j]?) = fun (j : Nat) => ([(0, 1), (1, 1), (2, 1)] : List (Nat × Nat))[j]? := by funext j; simp
    rw [e, hf']; rfl
  bo := fun h => by cases h
  cmp := fun h => by cases h
  mp := fun k e ks m h => by cases h
def ti_28 : TI := ⟨3, true, [(0, 1), (1, 1), (2, 1)], none, [.int .i64 0, .int .i64 0, .int .i64 0], none, false, false, true, true, none⟩
theorem tiok_28 : TIok Try.prog 28 ti_28 where
  agg := Try.isAgg28
  sz := Try.sizeOf28
  offs := fun f j n h => match f, j, n, h with
    | 0, _, _, h => by cases h; intro a w; simp [Instr.fieldAt, run_underlying Try.underlying28, Instr.sureAddr, fieldPlace, Try.sizeOf3]
    | 1, _, _, h => by cases h; intro a w; simp [Instr.fieldAt, run_underlying Try.underlying28, Instr.sureAddr, fieldPlace, Try.sizeOf3]
    | 2, _, _, h => by cases h; intro a w; simp [Instr.fieldAt, run_underlying Try.underlying28, Instr.sureAddr, fieldPlace, Try.sizeOf3]
    | _ + 3, _, _, h => by simp [ti_28] at h
  el := fun e n b h => by cases h
  zero := fun _ => ⟨⟨_, Try.zeroValue28, rfl⟩, rfl, rfl⟩
  ik := fun k h => by cases h
  str := fun h => by cases h
  bld := fun _ ps cs hf w => by
    have hp : ∀ {fs : Array Field}, Try.prog.underlying 28 = some (.struct fs) → ∀ w, (fs.mapM fun f => (do pure (f.offset, ← sizeOf f.type) : Sem (Nat × Nat))).run Try.prog w = .ok #[(0, 1), (1, 1), (2, 1)] w := fun {fs} h => by
      rw [Try.underlying28] at h; cases h; intro w; kernel_rfl
    have hf1 : fills (fun (j : Nat) => ([(0, 1), (1, 1), (2, 1)] : List (Nat × Nat))[j]?) [.int .i64 0, .int .i64 0, .int .i64 0] ps = some cs := hf
    have hf' := fills_eq _ _ _ _ hf1
    unfold Instr.build
    simp only [Sem.run_bind, Try.zeroValue28, Result.andThen, Value.cells, run_underlying Try.underlying28, hp Try.underlying28]
    have e : (fun (j : Nat) => (#[(0, 1), (1, 1), (2, 1)] : Array (Nat × Nat))[j]?) = fun (j : Nat) => ([(0, 1), (1, 1), (2, 1)] : List (Nat × Nat))[j]? := by funext j; simp
    rw [e, hf']; rfl
  bo := fun h => by cases h
  cmp := fun _ us vs hu hv x y w => by
    obtain ⟨u0, _, rfl, hu0⟩ := shp_int hu
    obtain ⟨u1, _, rfl, hu1⟩ := shp_int hu0
    obtain ⟨u2, _, rfl, hu2⟩ := shp_int hu1
    obtain rfl := shp_nil hu2
    obtain ⟨v0, _, rfl, hv0⟩ := shp_int hv
    obtain ⟨v1, _, rfl, hv1⟩ := shp_int hv0
    obtain ⟨v2, _, rfl, hv2⟩ := shp_int hv1
    obtain rfl := shp_nil hv2
    constructor <;> (simp [go_sem, scEqs, scEq]; repeat' split) <;> simp_all
  mp := fun k e ks m h => by cases h
def ti_31 : TI := ⟨1, false, [], some (3, 1, 8), [.slice none 0 0], none, false, false, false, false, none⟩
theorem tiok_31 : TIok Try.prog 31 ti_31 where
  agg := Try.isAgg31
  sz := Try.sizeOf31
  offs := fun f j n h => by simp [ti_31] at h
  el := fun e n b h => by cases h; exact ⟨Try.underlying31, Try.sizeOf3, el_ok (by kernel_rfl)⟩
  zero := fun _ => ⟨⟨_, Try.zeroValue31, rfl⟩, rfl, rfl⟩
  ik := fun k h => by cases h
  str := fun h => by cases h
  bld := fun h => by cases h
  bo := fun h => by cases h
  cmp := fun h => by cases h
  mp := fun k e ks m h => by cases h
def ti_32 : TI := ⟨1, false, [], some (52, 1, 24), [.slice none 0 0], none, false, false, false, false, none⟩
theorem tiok_32 : TIok Try.prog 32 ti_32 where
  agg := Try.isAgg32
  sz := Try.sizeOf32
  offs := fun f j n h => by simp [ti_32] at h
  el := fun e n b h => by cases h; exact ⟨Try.underlying32, Try.sizeOf52, el_ok (by kernel_rfl)⟩
  zero := fun _ => ⟨⟨_, Try.zeroValue32, rfl⟩, rfl, rfl⟩
  ik := fun k h => by cases h
  str := fun h => by cases h
  bld := fun h => by cases h
  bo := fun h => by cases h
  cmp := fun h => by cases h
  mp := fun k e ks m h => by cases h
def ti_34 : TI := ⟨4, true, [(0, 1), (1, 1), (2, 1), (3, 1)], none, [.string ⟨#[]⟩, .slice none 0 0, .int .i64 0, .slice none 0 0], none, false, false, false, true, none⟩
theorem tiok_34 : TIok Try.prog 34 ti_34 where
  agg := Try.isAgg34
  sz := Try.sizeOf34
  offs := fun f j n h => match f, j, n, h with
    | 0, _, _, h => by cases h; intro a w; simp [Instr.fieldAt, run_underlying Try.underlying34, Instr.sureAddr, fieldPlace, Try.sizeOf9]
    | 1, _, _, h => by cases h; intro a w; simp [Instr.fieldAt, run_underlying Try.underlying34, Instr.sureAddr, fieldPlace, Try.sizeOf31]
    | 2, _, _, h => by cases h; intro a w; simp [Instr.fieldAt, run_underlying Try.underlying34, Instr.sureAddr, fieldPlace, Try.sizeOf3]
    | 3, _, _, h => by cases h; intro a w; simp [Instr.fieldAt, run_underlying Try.underlying34, Instr.sureAddr, fieldPlace, Try.sizeOf32]
    | _ + 4, _, _, h => by simp [ti_34] at h
  el := fun e n b h => by cases h
  zero := fun _ => ⟨⟨_, Try.zeroValue34, rfl⟩, rfl, rfl⟩
  ik := fun k h => by cases h
  str := fun h => by cases h
  bld := fun _ ps cs hf w => by
    have hp : ∀ {fs : Array Field}, Try.prog.underlying 34 = some (.struct fs) → ∀ w, (fs.mapM fun f => (do pure (f.offset, ← sizeOf f.type) : Sem (Nat × Nat))).run Try.prog w = .ok #[(0, 1), (1, 1), (2, 1), (3, 1)] w := fun {fs} h => by
      rw [Try.underlying34] at h; cases h; intro w; kernel_rfl
    have hf1 : fills (fun (j : Nat) => ([(0, 1), (1, 1), (2, 1), (3, 1)] : List (Nat × Nat))[j]?) [.string ⟨#[]⟩, .slice none 0 0, .int .i64 0, .slice none 0 0] ps = some cs := hf
    have hf' := fills_eq _ _ _ _ hf1
    unfold Instr.build
    simp only [Sem.run_bind, Try.zeroValue34, Result.andThen, Value.cells, run_underlying Try.underlying34, hp Try.underlying34]
    have e : (fun (j : Nat) => (#[(0, 1), (1, 1), (2, 1), (3, 1)] : Array (Nat × Nat))[j]?) = fun (j : Nat) => ([(0, 1), (1, 1), (2, 1), (3, 1)] : List (Nat × Nat))[j]? := by funext j; simp
    rw [e, hf']; rfl
  bo := fun h => by cases h
  cmp := fun h => by cases h
  mp := fun k e ks m h => by cases h
def ti_37 : TI := ⟨1, false, [], some (28, 3, 24), [.slice none 0 0], none, false, false, false, false, none⟩
theorem tiok_37 : TIok Try.prog 37 ti_37 where
  agg := Try.isAgg37
  sz := Try.sizeOf37
  offs := fun f j n h => by simp [ti_37] at h
  el := fun e n b h => by cases h; exact ⟨Try.underlying37, Try.sizeOf28, el_ok (by kernel_rfl)⟩
  zero := fun _ => ⟨⟨_, Try.zeroValue37, rfl⟩, rfl, rfl⟩
  ik := fun k h => by cases h
  str := fun h => by cases h
  bld := fun h => by cases h
  bo := fun h => by cases h
  cmp := fun h => by cases h
  mp := fun k e ks m h => by cases h
def ti_41 : TI := ⟨1, false, [], none, [.int .u64 0], some .u64, false, false, false, false, none⟩
theorem tiok_41 : TIok Try.prog 41 ti_41 where
  agg := Try.isAgg41
  sz := Try.sizeOf41
  offs := fun f j n h => by simp [ti_41] at h
  el := fun e n b h => by cases h
  zero := fun _ => ⟨⟨_, Try.zeroValue41, rfl⟩, rfl, rfl⟩
  ik := fun k h => by cases h; exact Try.underlying41
  str := fun h => by cases h
  bld := fun h => by cases h
  bo := fun h => by cases h
  cmp := fun h => by cases h
  mp := fun k e ks m h => by cases h
def ti_43 : TI := ⟨3, true, [(0, 1), (1, 1), (2, 1)], none, [.int .i64 0, .int .i64 0, .int .u64 0], none, false, false, true, true, none⟩
theorem tiok_43 : TIok Try.prog 43 ti_43 where
  agg := Try.isAgg43
  sz := Try.sizeOf43
  offs := fun f j n h => match f, j, n, h with
    | 0, _, _, h => by cases h; intro a w; simp [Instr.fieldAt, run_underlying Try.underlying43, Instr.sureAddr, fieldPlace, Try.sizeOf3]
    | 1, _, _, h => by cases h; intro a w; simp [Instr.fieldAt, run_underlying Try.underlying43, Instr.sureAddr, fieldPlace, Try.sizeOf3]
    | 2, _, _, h => by cases h; intro a w; simp [Instr.fieldAt, run_underlying Try.underlying43, Instr.sureAddr, fieldPlace, Try.sizeOf41]
    | _ + 3, _, _, h => by simp [ti_43] at h
  el := fun e n b h => by cases h
  zero := fun _ => ⟨⟨_, Try.zeroValue43, rfl⟩, rfl, rfl⟩
  ik := fun k h => by cases h
  str := fun h => by cases h
  bld := fun _ ps cs hf w => by
    have hp : ∀ {fs : Array Field}, Try.prog.underlying 43 = some (.struct fs) → ∀ w, (fs.mapM fun f => (do pure (f.offset, ← sizeOf f.type) : Sem (Nat × Nat))).run Try.prog w = .ok #[(0, 1), (1, 1), (2, 1)] w := fun {fs} h => by
      rw [Try.underlying43] at h; cases h; intro w; kernel_rfl
    have hf1 : fills (fun (j : Nat) => ([(0, 1), (1, 1), (2, 1)] : List (Nat × Nat))[j]?) [.int .i64 0, .int .i64 0, .int .u64 0] ps = some cs := hf
    have hf' := fills_eq _ _ _ _ hf1
    unfold Instr.build
    simp only [Sem.run_bind, Try.zeroValue43, Result.andThen, Value.cells, run_underlying Try.underlying43, hp Try.underlying43]
    have e : (fun (j : Nat) => (#[(0, 1), (1, 1), (2, 1)] : Array (Nat × Nat))[j]?) = fun (j : Nat) => ([(0, 1), (1, 1), (2, 1)] : List (Nat × Nat))[j]? := by funext j; simp
    rw [e, hf']; rfl
  bo := fun h => by cases h
  cmp := fun _ us vs hu hv x y w => by
    obtain ⟨u0, _, rfl, hu0⟩ := shp_int hu
    obtain ⟨u1, _, rfl, hu1⟩ := shp_int hu0
    obtain ⟨u2, _, rfl, hu2⟩ := shp_int hu1
    obtain rfl := shp_nil hu2
    obtain ⟨v0, _, rfl, hv0⟩ := shp_int hv
    obtain ⟨v1, _, rfl, hv1⟩ := shp_int hv0
    obtain ⟨v2, _, rfl, hv2⟩ := shp_int hv1
    obtain rfl := shp_nil hv2
    constructor <;> (simp [go_sem, scEqs, scEq]; repeat' split) <;> simp_all
  mp := fun k e ks m h => by cases h
def ti_49 : TI := ⟨1, false, [], some (4, 1, 1), [.slice none 0 0], none, false, false, false, false, none⟩
theorem tiok_49 : TIok Try.prog 49 ti_49 where
  agg := Try.isAgg49
  sz := Try.sizeOf49
  offs := fun f j n h => by simp [ti_49] at h
  el := fun e n b h => by cases h; exact ⟨Try.underlying49, Try.sizeOf4, el_ok (by kernel_rfl)⟩
  zero := fun _ => ⟨⟨_, Try.zeroValue49, rfl⟩, rfl, rfl⟩
  ik := fun k h => by cases h
  str := fun h => by cases h
  bld := fun h => by cases h
  bo := fun h => by cases h
  cmp := fun h => by cases h
  mp := fun k e ks m h => by cases h
def ti_50 : TI := ⟨1, false, [], some (55, 7, 88), [.slice none 0 0], none, false, false, false, false, none⟩
theorem tiok_50 : TIok Try.prog 50 ti_50 where
  agg := Try.isAgg50
  sz := Try.sizeOf50
  offs := fun f j n h => by simp [ti_50] at h
  el := fun e n b h => by cases h; exact ⟨Try.underlying50, Try.sizeOf55, el_ok (by kernel_rfl)⟩
  zero := fun _ => ⟨⟨_, Try.zeroValue50, rfl⟩, rfl, rfl⟩
  ik := fun k h => by cases h
  str := fun h => by cases h
  bld := fun h => by cases h
  bo := fun h => by cases h
  cmp := fun h => by cases h
  mp := fun k e ks m h => by cases h
def ti_52 : TI := ⟨1, true, [(0, 1)], none, [.slice none 0 0], none, false, false, false, true, none⟩
theorem tiok_52 : TIok Try.prog 52 ti_52 where
  agg := Try.isAgg52
  sz := Try.sizeOf52
  offs := fun f j n h => match f, j, n, h with
    | 0, _, _, h => by cases h; intro a w; simp [Instr.fieldAt, run_underlying Try.underlying52, Instr.sureAddr, fieldPlace, Try.sizeOf50]
    | _ + 1, _, _, h => by simp [ti_52] at h
  el := fun e n b h => by cases h
  zero := fun _ => ⟨⟨_, Try.zeroValue52, rfl⟩, rfl, rfl⟩
  ik := fun k h => by cases h
  str := fun h => by cases h
  bld := fun _ ps cs hf w => by
    have hp : ∀ {fs : Array Field}, Try.prog.underlying 52 = some (.struct fs) → ∀ w, (fs.mapM fun f => (do pure (f.offset, ← sizeOf f.type) : Sem (Nat × Nat))).run Try.prog w = .ok #[(0, 1)] w := fun {fs} h => by
      rw [Try.underlying52] at h; cases h; intro w; kernel_rfl
    have hf1 : fills (fun (j : Nat) => ([(0, 1)] : List (Nat × Nat))[j]?) [.slice none 0 0] ps = some cs := hf
    have hf' := fills_eq _ _ _ _ hf1
    unfold Instr.build
    simp only [Sem.run_bind, Try.zeroValue52, Result.andThen, Value.cells, run_underlying Try.underlying52, hp Try.underlying52]
    have e : (fun (j : Nat) => (#[(0, 1)] : Array (Nat × Nat))[j]?) = fun (j : Nat) => ([(0, 1)] : List (Nat × Nat))[j]? := by funext j; simp
    rw [e, hf']; rfl
  bo := fun h => by cases h
  cmp := fun h => by cases h
  mp := fun k e ks m h => by cases h
def ti_53 : TI := ⟨1, false, [], some (43, 3, 24), [.slice none 0 0], none, false, false, false, false, none⟩
theorem tiok_53 : TIok Try.prog 53 ti_53 where
  agg := Try.isAgg53
  sz := Try.sizeOf53
  offs := fun f j n h => by simp [ti_53] at h
  el := fun e n b h => by cases h; exact ⟨Try.underlying53, Try.sizeOf43, el_ok (by kernel_rfl)⟩
  zero := fun _ => ⟨⟨_, Try.zeroValue53, rfl⟩, rfl, rfl⟩
  ik := fun k h => by cases h
  str := fun h => by cases h
  bld := fun h => by cases h
  bo := fun h => by cases h
  cmp := fun h => by cases h
  mp := fun k e ks m h => by cases h
def ti_55 : TI := ⟨7, true, [(0, 1), (1, 1), (2, 1), (3, 1), (4, 1), (5, 1), (6, 1)], none, [.int .i64 0, .int .i64 0, .int .i64 0, .int .i64 0, .int .i64 0, .slice none 0 0, .slice none 0 0], none, false, false, false, true, none⟩
theorem tiok_55 : TIok Try.prog 55 ti_55 where
  agg := Try.isAgg55
  sz := Try.sizeOf55
  offs := fun f j n h => match f, j, n, h with
    | 0, _, _, h => by cases h; intro a w; simp [Instr.fieldAt, run_underlying Try.underlying55, Instr.sureAddr, fieldPlace, Try.sizeOf3]
    | 1, _, _, h => by cases h; intro a w; simp [Instr.fieldAt, run_underlying Try.underlying55, Instr.sureAddr, fieldPlace, Try.sizeOf3]
    | 2, _, _, h => by cases h; intro a w; simp [Instr.fieldAt, run_underlying Try.underlying55, Instr.sureAddr, fieldPlace, Try.sizeOf3]
    | 3, _, _, h => by cases h; intro a w; simp [Instr.fieldAt, run_underlying Try.underlying55, Instr.sureAddr, fieldPlace, Try.sizeOf3]
    | 4, _, _, h => by cases h; intro a w; simp [Instr.fieldAt, run_underlying Try.underlying55, Instr.sureAddr, fieldPlace, Try.sizeOf3]
    | 5, _, _, h => by cases h; intro a w; simp [Instr.fieldAt, run_underlying Try.underlying55, Instr.sureAddr, fieldPlace, Try.sizeOf53]
    | 6, _, _, h => by cases h; intro a w; simp [Instr.fieldAt, run_underlying Try.underlying55, Instr.sureAddr, fieldPlace, Try.sizeOf31]
    | _ + 7, _, _, h => by simp [ti_55] at h
  el := fun e n b h => by cases h
  zero := fun _ => ⟨⟨_, Try.zeroValue55, rfl⟩, rfl, rfl⟩
  ik := fun k h => by cases h
  str := fun h => by cases h
  bld := fun _ ps cs hf w => by
    have hp : ∀ {fs : Array Field}, Try.prog.underlying 55 = some (.struct fs) → ∀ w, (fs.mapM fun f => (do pure (f.offset, ← sizeOf f.type) : Sem (Nat × Nat))).run Try.prog w = .ok #[(0, 1), (1, 1), (2, 1), (3, 1), (4, 1), (5, 1), (6, 1)] w := fun {fs} h => by
      rw [Try.underlying55] at h; cases h; intro w; kernel_rfl
    have hf1 : fills (fun (j : Nat) => ([(0, 1), (1, 1), (2, 1), (3, 1), (4, 1), (5, 1), (6, 1)] : List (Nat × Nat))[j]?) [.int .i64 0, .int .i64 0, .int .i64 0, .int .i64 0, .int .i64 0, .slice none 0 0, .slice none 0 0] ps = some cs := hf
    have hf' := fills_eq _ _ _ _ hf1
    unfold Instr.build
    simp only [Sem.run_bind, Try.zeroValue55, Result.andThen, Value.cells, run_underlying Try.underlying55, hp Try.underlying55]
    have e : (fun (j : Nat) => (#[(0, 1), (1, 1), (2, 1), (3, 1), (4, 1), (5, 1), (6, 1)] : Array (Nat × Nat))[j]?) = fun (j : Nat) => ([(0, 1), (1, 1), (2, 1), (3, 1), (4, 1), (5, 1), (6, 1)] : List (Nat × Nat))[j]? := by funext j; simp
    rw [e, hf']; rfl
  bo := fun h => by cases h
  cmp := fun h => by cases h
  mp := fun k e ks m h => by cases h
def ti_60 : TI := ⟨4, true, [(0, 1), (1, 3)], none, [.int .i64 0, .int .i64 0, .int .i64 0, .int .i64 0], none, false, false, false, true, none⟩
theorem tiok_60 : TIok Try.prog 60 ti_60 where
  agg := Try.isAgg60
  sz := Try.sizeOf60
  offs := fun f j n h => match f, j, n, h with
    | 0, _, _, h => by cases h; intro a w; simp [Instr.fieldAt, run_underlying Try.underlying60, Instr.sureAddr, fieldPlace, Try.sizeOf3]
    | 1, _, _, h => by cases h; intro a w; simp [Instr.fieldAt, run_underlying Try.underlying60, Instr.sureAddr, fieldPlace, Try.sizeOf28]
    | _ + 2, _, _, h => by simp [ti_60] at h
  el := fun e n b h => by cases h
  zero := fun _ => ⟨⟨_, Try.zeroValue60, rfl⟩, rfl, rfl⟩
  ik := fun k h => by cases h
  str := fun h => by cases h
  bld := fun _ ps cs hf w => by
    have hp : ∀ {fs : Array Field}, Try.prog.underlying 60 = some (.struct fs) → ∀ w, (fs.mapM fun f => (do pure (f.offset, ← sizeOf f.type) : Sem (Nat × Nat))).run Try.prog w = .ok #[(0, 1), (1, 3)] w := fun {fs} h => by
      rw [Try.underlying60] at h; cases h; intro w; kernel_rfl
    have hf1 : fills (fun (j : Nat) => ([(0, 1), (1, 3)] : List (Nat × Nat))[j]?) [.int .i64 0, .int .i64 0, .int .i64 0, .int .i64 0] ps = some cs := hf
    have hf' := fills_eq _ _ _ _ hf1
    unfold Instr.build
    simp only [Sem.run_bind, Try.zeroValue60, Result.andThen, Value.cells, run_underlying Try.underlying60, hp Try.underlying60]
    have e : (fun (j : Nat) => (#[(0, 1), (1, 3)] : Array (Nat × Nat))[j]?) = fun (j : Nat) => ([(0, 1), (1, 3)] : List (Nat × Nat))[j]? := by funext j; simp
    rw [e, hf']; rfl
  bo := fun h => by cases h
  cmp := fun h => by cases h
  mp := fun k e ks m h => by cases h
def ti_63 : TI := ⟨1, false, [], none, [.pointer none], none, false, false, false, false, none⟩
theorem tiok_63 : TIok Try.prog 63 ti_63 where
  agg := Try.isAgg63
  sz := Try.sizeOf63
  offs := fun f j n h => by simp [ti_63] at h
  el := fun e n b h => by cases h
  zero := fun _ => ⟨⟨_, Try.zeroValue63, rfl⟩, rfl, rfl⟩
  ik := fun k h => by cases h
  str := fun h => by cases h
  bld := fun h => by cases h
  bo := fun h => by cases h
  cmp := fun h => by cases h
  mp := fun k e ks m h => by cases h
def ti_66 : TI := ⟨1, false, [], none, [.map none], none, false, false, false, false, some (28, 3, true, 3)⟩
theorem tiok_66 : TIok Try.prog 66 ti_66 where
  agg := Try.isAgg66
  sz := Try.sizeOf66
  offs := fun f j n h => by simp [ti_66] at h
  el := fun e n b h => by cases h
  zero := fun _ => ⟨⟨_, Try.zeroValue66, rfl⟩, rfl, rfl⟩
  ik := fun k h => by cases h
  str := fun h => by cases h
  bld := fun h => by cases h
  bo := fun h => by cases h
  cmp := fun h => by cases h
  mp := fun k e ks m h => by cases h; exact ⟨Try.underlying66, Go.Maps.Keyed.of_law (deep_law_laid laidOut (m := 2) (by omega) (of_decide_eq_true (by kernel_rfl)) (by kernel_rfl) (by rw [Try.underlying28])), Try.underlying3, Try.zeroValue3, (fun h => by cases h), fun zs hl hz => by
    match zs, hl with
    | [a, b, c], _ => exact keyat3 (n := Try.prog.types.size - 1) Try.underlying28 Try.underlying3 rfl rfl rfl rfl rfl rfl rfl rfl rfl (by kernel_rfl) (by kernel_rfl) (by kernel_rfl) (by kernel_rfl) (by unfold Lit.wf; simp only [Bool.and_eq_true, decide_eq_true_eq]; exact hz a (by simp)) (by unfold Lit.wf; simp only [Bool.and_eq_true, decide_eq_true_eq]; exact hz b (by simp)) (by unfold Lit.wf; simp only [Bool.and_eq_true, decide_eq_true_eq]; exact hz c (by simp))⟩
def ti_67 : TI := ⟨1, false, [], some (31, 1, 24), [.slice none 0 0], none, false, false, false, false, none⟩
theorem tiok_67 : TIok Try.prog 67 ti_67 where
  agg := Try.isAgg67
  sz := Try.sizeOf67
  offs := fun f j n h => by simp [ti_67] at h
  el := fun e n b h => by cases h; exact ⟨Try.underlying67, Try.sizeOf31, el_ok (by kernel_rfl)⟩
  zero := fun _ => ⟨⟨_, Try.zeroValue67, rfl⟩, rfl, rfl⟩
  ik := fun k h => by cases h
  str := fun h => by cases h
  bld := fun h => by cases h
  bo := fun h => by cases h
  cmp := fun h => by cases h
  mp := fun k e ks m h => by cases h
def ti_73 : TI := ⟨1, false, [], some (49, 1, 24), [.slice none 0 0], none, false, false, false, false, none⟩
theorem tiok_73 : TIok Try.prog 73 ti_73 where
  agg := Try.isAgg73
  sz := Try.sizeOf73
  offs := fun f j n h => by simp [ti_73] at h
  el := fun e n b h => by cases h; exact ⟨Try.underlying73, Try.sizeOf49, el_ok (by kernel_rfl)⟩
  zero := fun _ => ⟨⟨_, Try.zeroValue73, rfl⟩, rfl, rfl⟩
  ik := fun k h => by cases h
  str := fun h => by cases h
  bld := fun h => by cases h
  bo := fun h => by cases h
  cmp := fun h => by cases h
  mp := fun k e ks m h => by cases h
def ti_77 : TI := ⟨12, true, [(0, 4), (4, 7), (11, 1)], none, [.string ⟨#[]⟩, .slice none 0 0, .int .i64 0, .slice none 0 0, .int .i64 0, .int .i64 0, .int .i64 0, .int .i64 0, .int .i64 0, .slice none 0 0, .slice none 0 0, .bool false], none, false, false, false, true, none⟩
theorem tiok_77 : TIok Try.prog 77 ti_77 where
  agg := Try.isAgg77
  sz := Try.sizeOf77
  offs := fun f j n h => match f, j, n, h with
    | 0, _, _, h => by cases h; intro a w; simp [Instr.fieldAt, run_underlying Try.underlying77, Instr.sureAddr, fieldPlace, Try.sizeOf34]
    | 1, _, _, h => by cases h; intro a w; simp [Instr.fieldAt, run_underlying Try.underlying77, Instr.sureAddr, fieldPlace, Try.sizeOf55]
    | 2, _, _, h => by cases h; intro a w; simp [Instr.fieldAt, run_underlying Try.underlying77, Instr.sureAddr, fieldPlace, Try.sizeOf4]
    | _ + 3, _, _, h => by simp [ti_77] at h
  el := fun e n b h => by cases h
  zero := fun _ => ⟨⟨_, Try.zeroValue77, rfl⟩, rfl, rfl⟩
  ik := fun k h => by cases h
  str := fun h => by cases h
  bld := fun _ ps cs hf w => by
    have hp : ∀ {fs : Array Field}, Try.prog.underlying 77 = some (.struct fs) → ∀ w, (fs.mapM fun f => (do pure (f.offset, ← sizeOf f.type) : Sem (Nat × Nat))).run Try.prog w = .ok #[(0, 4), (4, 7), (11, 1)] w := fun {fs} h => by
      rw [Try.underlying77] at h; cases h; intro w; kernel_rfl
    have hf1 : fills (fun (j : Nat) => ([(0, 4), (4, 7), (11, 1)] : List (Nat × Nat))[j]?) [.string ⟨#[]⟩, .slice none 0 0, .int .i64 0, .slice none 0 0, .int .i64 0, .int .i64 0, .int .i64 0, .int .i64 0, .int .i64 0, .slice none 0 0, .slice none 0 0, .bool false] ps = some cs := hf
    have hf' := fills_eq _ _ _ _ hf1
    unfold Instr.build
    simp only [Sem.run_bind, Try.zeroValue77, Result.andThen, Value.cells, run_underlying Try.underlying77, hp Try.underlying77]
    have e : (fun (j : Nat) => (#[(0, 4), (4, 7), (11, 1)] : Array (Nat × Nat))[j]?) = fun (j : Nat) => ([(0, 4), (4, 7), (11, 1)] : List (Nat × Nat))[j]? := by funext j; simp
    rw [e, hf']; rfl
  bo := fun h => by cases h
  cmp := fun h => by cases h
  mp := fun k e ks m h => by cases h
def ti_86 : TI := ⟨3, true, [(0, 1), (1, 1), (2, 1)], none, [.string ⟨#[]⟩, .slice none 0 0, .int .i64 0], none, false, false, false, false, none⟩
theorem tiok_86 : TIok Try.prog 86 ti_86 where
  agg := Try.isAgg86
  sz := Try.sizeOf86
  offs := fun f j n h => match f, j, n, h with
    | 0, _, _, h => by cases h; intro a w; simp [Instr.fieldAt, run_underlying Try.underlying86, Instr.sureAddr, fieldPlace, Try.sizeOf9]
    | 1, _, _, h => by cases h; intro a w; simp [Instr.fieldAt, run_underlying Try.underlying86, Instr.sureAddr, fieldPlace, Try.sizeOf31]
    | 2, _, _, h => by cases h; intro a w; simp [Instr.fieldAt, run_underlying Try.underlying86, Instr.sureAddr, fieldPlace, Try.sizeOf3]
    | _ + 3, _, _, h => by simp [ti_86] at h
  el := fun e n b h => by cases h
  zero := fun _ => ⟨⟨_, Try.zeroValue86, rfl⟩, rfl, rfl⟩
  ik := fun k h => by cases h
  str := fun h => by cases h
  bld := fun h => by cases h
  bo := fun h => by cases h
  cmp := fun h => by cases h
  mp := fun k e ks m h => by cases h
def ti_101 : TI := ⟨2, true, [(0, 1), (1, 1)], none, [.string ⟨#[]⟩, .int .i64 0], none, false, false, false, false, none⟩
theorem tiok_101 : TIok Try.prog 101 ti_101 where
  agg := Try.isAgg101
  sz := Try.sizeOf101
  offs := fun f j n h => match f, j, n, h with
    | 0, _, _, h => by cases h; intro a w; simp [Instr.fieldAt, run_underlying Try.underlying101, Instr.sureAddr, fieldPlace, Try.sizeOf9]
    | 1, _, _, h => by cases h; intro a w; simp [Instr.fieldAt, run_underlying Try.underlying101, Instr.sureAddr, fieldPlace, Try.sizeOf3]
    | _ + 2, _, _, h => by simp [ti_101] at h
  el := fun e n b h => by cases h
  zero := fun _ => ⟨⟨_, Try.zeroValue101, rfl⟩, rfl, rfl⟩
  ik := fun k h => by cases h
  str := fun h => by cases h
  bld := fun h => by cases h
  bo := fun h => by cases h
  cmp := fun h => by cases h
  mp := fun k e ks m h => by cases h
def ti_102 : TI := ⟨1, false, [], some (9, 1, 16), [.slice none 0 0], none, false, false, false, false, none⟩
theorem tiok_102 : TIok Try.prog 102 ti_102 where
  agg := Try.isAgg102
  sz := Try.sizeOf102
  offs := fun f j n h => by simp [ti_102] at h
  el := fun e n b h => by cases h; exact ⟨Try.underlying102, Try.sizeOf9, el_ok (by kernel_rfl)⟩
  zero := fun _ => ⟨⟨_, Try.zeroValue102, rfl⟩, rfl, rfl⟩
  ik := fun k h => by cases h
  str := fun h => by cases h
  bld := fun h => by cases h
  bo := fun h => by cases h
  cmp := fun h => by cases h
  mp := fun k e ks m h => by cases h
def ti_112 : TI := ⟨1, false, [], none, [.map none], none, false, false, false, false, some (3, 3, false, 1)⟩
theorem tiok_112 : TIok Try.prog 112 ti_112 where
  agg := Try.isAgg112
  sz := Try.sizeOf112
  offs := fun f j n h => by simp [ti_112] at h
  el := fun e n b h => by cases h
  zero := fun _ => ⟨⟨_, Try.zeroValue112, rfl⟩, rfl, rfl⟩
  ik := fun k h => by cases h
  str := fun h => by cases h
  bld := fun h => by cases h
  bo := fun h => by cases h
  cmp := fun h => by cases h
  mp := fun k e ks m h => by cases h; exact ⟨Try.underlying112, Go.Maps.int_keyed Try.underlying3, Try.underlying3, Try.zeroValue3, fun _ => rfl, fun zs hl hz => by
    match zs, hl with
    | [z], _ => exact ⟨_, Go.Maps.keyOf_int_mk Try.underlying3 (by unfold Lit.wf; simp only [Bool.and_eq_true, decide_eq_true_eq]; exact hz z (by simp))⟩⟩
def ti_116 : TI := ⟨1, false, [], none, [.pointer none], none, false, false, false, false, none⟩
theorem tiok_116 : TIok Try.prog 116 ti_116 where
  agg := Try.isAgg116
  sz := Try.sizeOf116
  offs := fun f j n h => by simp [ti_116] at h
  el := fun e n b h => by cases h
  zero := fun _ => ⟨⟨_, Try.zeroValue116, rfl⟩, rfl, rfl⟩
  ik := fun k h => by cases h
  str := fun h => by cases h
  bld := fun h => by cases h
  bo := fun h => by cases h
  cmp := fun h => by cases h
  mp := fun k e ks m h => by cases h
def ti_117 : TI := ⟨1, false, [], none, [], none, false, false, false, false, none⟩
theorem tiok_117 : TIok Try.prog 117 ti_117 where
  agg := Try.isAgg117
  sz := Try.sizeOf117
  offs := fun f j n h => by simp [ti_117] at h
  el := fun e n b h => by cases h
  zero := fun h => absurd rfl h
  ik := fun k h => by cases h
  str := fun h => by cases h
  bld := fun h => by cases h
  bo := fun h => by cases h
  cmp := fun h => by cases h
  mp := fun k e ks m h => by cases h
def ti_119 : TI := ⟨2, true, [(0, 1), (1, 1)], none, [.int .i64 0, .slice none 0 0], none, false, false, false, true, none⟩
theorem tiok_119 : TIok Try.prog 119 ti_119 where
  agg := Try.isAgg119
  sz := Try.sizeOf119
  offs := fun f j n h => match f, j, n, h with
    | 0, _, _, h => by cases h; intro a w; simp [Instr.fieldAt, run_underlying Try.underlying119, Instr.sureAddr, fieldPlace, Try.sizeOf3]
    | 1, _, _, h => by cases h; intro a w; simp [Instr.fieldAt, run_underlying Try.underlying119, Instr.sureAddr, fieldPlace, Try.sizeOf31]
    | _ + 2, _, _, h => by simp [ti_119] at h
  el := fun e n b h => by cases h
  zero := fun _ => ⟨⟨_, Try.zeroValue119, rfl⟩, rfl, rfl⟩
  ik := fun k h => by cases h
  str := fun h => by cases h
  bld := fun _ ps cs hf w => by
    have hp : ∀ {fs : Array Field}, Try.prog.underlying 119 = some (.struct fs) → ∀ w, (fs.mapM fun f => (do pure (f.offset, ← sizeOf f.type) : Sem (Nat × Nat))).run Try.prog w = .ok #[(0, 1), (1, 1)] w := fun {fs} h => by
      rw [Try.underlying119] at h; cases h; intro w; kernel_rfl
    have hf1 : fills (fun (j : Nat) => ([(0, 1), (1, 1)] : List (Nat × Nat))[j]?) [.int .i64 0, .slice none 0 0] ps = some cs := hf
    have hf' := fills_eq _ _ _ _ hf1
    unfold Instr.build
    simp only [Sem.run_bind, Try.zeroValue119, Result.andThen, Value.cells, run_underlying Try.underlying119, hp Try.underlying119]
    have e : (fun (j : Nat) => (#[(0, 1), (1, 1)] : Array (Nat × Nat))[j]?) = fun (j : Nat) => ([(0, 1), (1, 1)] : List (Nat × Nat))[j]? := by funext j; simp
    rw [e, hf']; rfl
  bo := fun h => by cases h
  cmp := fun h => by cases h
  mp := fun k e ks m h => by cases h
def ti_120 : TI := ⟨1, false, [], some (119, 2, 32), [.slice none 0 0], none, false, false, false, false, none⟩
theorem tiok_120 : TIok Try.prog 120 ti_120 where
  agg := Try.isAgg120
  sz := Try.sizeOf120
  offs := fun f j n h => by simp [ti_120] at h
  el := fun e n b h => by cases h; exact ⟨Try.underlying120, Try.sizeOf119, el_ok (by kernel_rfl)⟩
  zero := fun _ => ⟨⟨_, Try.zeroValue120, rfl⟩, rfl, rfl⟩
  ik := fun k h => by cases h
  str := fun h => by cases h
  bld := fun h => by cases h
  bo := fun h => by cases h
  cmp := fun h => by cases h
  mp := fun k e ks m h => by cases h
def ti_126 : TI := ⟨7, true, [(0, 3), (3, 1), (4, 1), (5, 1), (6, 1)], none, [.int .i64 0, .int .i64 0, .int .u64 0, .int .i64 0, .bool false, .bool false, .bool false], none, false, false, false, true, none⟩
theorem tiok_126 : TIok Try.prog 126 ti_126 where
  agg := Try.isAgg126
  sz := Try.sizeOf126
  offs := fun f j n h => match f, j, n, h with
    | 0, _, _, h => by cases h; intro a w; simp [Instr.fieldAt, run_underlying Try.underlying126, Instr.sureAddr, fieldPlace, Try.sizeOf43]
    | 1, _, _, h => by cases h; intro a w; simp [Instr.fieldAt, run_underlying Try.underlying126, Instr.sureAddr, fieldPlace, Try.sizeOf2]
    | 2, _, _, h => by cases h; intro a w; simp [Instr.fieldAt, run_underlying Try.underlying126, Instr.sureAddr, fieldPlace, Try.sizeOf4]
    | 3, _, _, h => by cases h; intro a w; simp [Instr.fieldAt, run_underlying Try.underlying126, Instr.sureAddr, fieldPlace, Try.sizeOf4]
    | 4, _, _, h => by cases h; intro a w; simp [Instr.fieldAt, run_underlying Try.underlying126, Instr.sureAddr, fieldPlace, Try.sizeOf4]
    | _ + 5, _, _, h => by simp [ti_126] at h
  el := fun e n b h => by cases h
  zero := fun _ => ⟨⟨_, Try.zeroValue126, rfl⟩, rfl, rfl⟩
  ik := fun k h => by cases h
  str := fun h => by cases h
  bld := fun _ ps cs hf w => by
    have hp : ∀ {fs : Array Field}, Try.prog.underlying 126 = some (.struct fs) → ∀ w, (fs.mapM fun f => (do pure (f.offset, ← sizeOf f.type) : Sem (Nat × Nat))).run Try.prog w = .ok #[(0, 3), (3, 1), (4, 1), (5, 1), (6, 1)] w := fun {fs} h => by
      rw [Try.underlying126] at h; cases h; intro w; kernel_rfl
    have hf1 : fills (fun (j : Nat) => ([(0, 3), (3, 1), (4, 1), (5, 1), (6, 1)] : List (Nat × Nat))[j]?) [.int .i64 0, .int .i64 0, .int .u64 0, .int .i64 0, .bool false, .bool false, .bool false] ps = some cs := hf
    have hf' := fills_eq _ _ _ _ hf1
    unfold Instr.build
    simp only [Sem.run_bind, Try.zeroValue126, Result.andThen, Value.cells, run_underlying Try.underlying126, hp Try.underlying126]
    have e : (fun (j : Nat) => (#[(0, 3), (3, 1), (4, 1), (5, 1), (6, 1)] : Array (Nat × Nat))[j]?) = fun (j : Nat) => ([(0, 3), (3, 1), (4, 1), (5, 1), (6, 1)] : List (Nat × Nat))[j]? := by funext j; simp
    rw [e, hf']; rfl
  bo := fun h => by cases h
  cmp := fun h => by cases h
  mp := fun k e ks m h => by cases h
def ti_141 : TI := ⟨3, true, [(0, 1), (1, 1), (2, 1)], none, [.int .u64 0, .int .u64 0, .bool false], none, false, false, false, true, none⟩
theorem tiok_141 : TIok Try.prog 141 ti_141 where
  agg := Try.isAgg141
  sz := Try.sizeOf141
  offs := fun f j n h => match f, j, n, h with
    | 0, _, _, h => by cases h; intro a w; simp [Instr.fieldAt, run_underlying Try.underlying141, Instr.sureAddr, fieldPlace, Try.sizeOf41]
    | 1, _, _, h => by cases h; intro a w; simp [Instr.fieldAt, run_underlying Try.underlying141, Instr.sureAddr, fieldPlace, Try.sizeOf41]
    | 2, _, _, h => by cases h; intro a w; simp [Instr.fieldAt, run_underlying Try.underlying141, Instr.sureAddr, fieldPlace, Try.sizeOf4]
    | _ + 3, _, _, h => by simp [ti_141] at h
  el := fun e n b h => by cases h
  zero := fun _ => ⟨⟨_, Try.zeroValue141, rfl⟩, rfl, rfl⟩
  ik := fun k h => by cases h
  str := fun h => by cases h
  bld := fun _ ps cs hf w => by
    have hp : ∀ {fs : Array Field}, Try.prog.underlying 141 = some (.struct fs) → ∀ w, (fs.mapM fun f => (do pure (f.offset, ← sizeOf f.type) : Sem (Nat × Nat))).run Try.prog w = .ok #[(0, 1), (1, 1), (2, 1)] w := fun {fs} h => by
      rw [Try.underlying141] at h; cases h; intro w; kernel_rfl
    have hf1 : fills (fun (j : Nat) => ([(0, 1), (1, 1), (2, 1)] : List (Nat × Nat))[j]?) [.int .u64 0, .int .u64 0, .bool false] ps = some cs := hf
    have hf' := fills_eq _ _ _ _ hf1
    unfold Instr.build
    simp only [Sem.run_bind, Try.zeroValue141, Result.andThen, Value.cells, run_underlying Try.underlying141, hp Try.underlying141]
    have e : (fun (j : Nat) => (#[(0, 1), (1, 1), (2, 1)] : Array (Nat × Nat))[j]?) = fun (j : Nat) => ([(0, 1), (1, 1), (2, 1)] : List (Nat × Nat))[j]? := by funext j; simp
    rw [e, hf']; rfl
  bo := fun h => by cases h
  cmp := fun h => by cases h
  mp := fun k e ks m h => by cases h
def TY : TT := [(2, ⟨1, false, [], none, [.int .i64 0], some .i64, false, false, false, false, none⟩), (3, ⟨1, false, [], none, [.int .i64 0], some .i64, false, false, false, false, none⟩), (4, ⟨1, false, [], none, [.bool false], none, false, true, false, false, none⟩), (5, ⟨1, false, [], none, [.int .u8 0], some .u8, false, false, false, false, none⟩), (9, ⟨1, false, [], none, [.string ⟨#[]⟩], none, true, false, false, false, none⟩), (22, ⟨1, false, [], some (101, 2, 24), [.slice none 0 0], none, false, false, false, false, none⟩), (23, ⟨1, false, [], some (86, 3, 48), [.slice none 0 0], none, false, false, false, false, none⟩), (24, ⟨1, false, [], some (34, 4, 72), [.slice none 0 0], none, false, false, false, false, none⟩), (26, ⟨3, true, [(0, 1), (1, 1), (2, 1)], none, [.slice none 0 0, .slice none 0 0, .slice none 0 0], none, false, false, false, true, none⟩), (28, ⟨3, true, [(0, 1), (1, 1), (2, 1)], none, [.int .i64 0, .int .i64 0, .int .i64 0], none, false, false, true, true, none⟩), (31, ⟨1, false, [], some (3, 1, 8), [.slice none 0 0], none, false, false, false, false, none⟩), (32, ⟨1, false, [], some (52, 1, 24), [.slice none 0 0], none, false, false, false, false, none⟩), (34, ⟨4, true, [(0, 1), (1, 1), (2, 1), (3, 1)], none, [.string ⟨#[]⟩, .slice none 0 0, .int .i64 0, .slice none 0 0], none, false, false, false, true, none⟩), (37, ⟨1, false, [], some (28, 3, 24), [.slice none 0 0], none, false, false, false, false, none⟩), (41, ⟨1, false, [], none, [.int .u64 0], some .u64, false, false, false, false, none⟩), (43, ⟨3, true, [(0, 1), (1, 1), (2, 1)], none, [.int .i64 0, .int .i64 0, .int .u64 0], none, false, false, true, true, none⟩), (49, ⟨1, false, [], some (4, 1, 1), [.slice none 0 0], none, false, false, false, false, none⟩), (50, ⟨1, false, [], some (55, 7, 88), [.slice none 0 0], none, false, false, false, false, none⟩), (52, ⟨1, true, [(0, 1)], none, [.slice none 0 0], none, false, false, false, true, none⟩), (53, ⟨1, false, [], some (43, 3, 24), [.slice none 0 0], none, false, false, false, false, none⟩), (55, ⟨7, true, [(0, 1), (1, 1), (2, 1), (3, 1), (4, 1), (5, 1), (6, 1)], none, [.int .i64 0, .int .i64 0, .int .i64 0, .int .i64 0, .int .i64 0, .slice none 0 0, .slice none 0 0], none, false, false, false, true, none⟩), (60, ⟨4, true, [(0, 1), (1, 3)], none, [.int .i64 0, .int .i64 0, .int .i64 0, .int .i64 0], none, false, false, false, true, none⟩), (63, ⟨1, false, [], none, [.pointer none], none, false, false, false, false, none⟩), (66, ⟨1, false, [], none, [.map none], none, false, false, false, false, some (28, 3, true, 3)⟩), (67, ⟨1, false, [], some (31, 1, 24), [.slice none 0 0], none, false, false, false, false, none⟩), (73, ⟨1, false, [], some (49, 1, 24), [.slice none 0 0], none, false, false, false, false, none⟩), (77, ⟨12, true, [(0, 4), (4, 7), (11, 1)], none, [.string ⟨#[]⟩, .slice none 0 0, .int .i64 0, .slice none 0 0, .int .i64 0, .int .i64 0, .int .i64 0, .int .i64 0, .int .i64 0, .slice none 0 0, .slice none 0 0, .bool false], none, false, false, false, true, none⟩), (86, ⟨3, true, [(0, 1), (1, 1), (2, 1)], none, [.string ⟨#[]⟩, .slice none 0 0, .int .i64 0], none, false, false, false, false, none⟩), (101, ⟨2, true, [(0, 1), (1, 1)], none, [.string ⟨#[]⟩, .int .i64 0], none, false, false, false, false, none⟩), (102, ⟨1, false, [], some (9, 1, 16), [.slice none 0 0], none, false, false, false, false, none⟩), (112, ⟨1, false, [], none, [.map none], none, false, false, false, false, some (3, 3, false, 1)⟩), (116, ⟨1, false, [], none, [.pointer none], none, false, false, false, false, none⟩), (117, ⟨1, false, [], none, [], none, false, false, false, false, none⟩), (119, ⟨2, true, [(0, 1), (1, 1)], none, [.int .i64 0, .slice none 0 0], none, false, false, false, true, none⟩), (120, ⟨1, false, [], some (119, 2, 32), [.slice none 0 0], none, false, false, false, false, none⟩), (126, ⟨7, true, [(0, 3), (3, 1), (4, 1), (5, 1), (6, 1)], none, [.int .i64 0, .int .i64 0, .int .u64 0, .int .i64 0, .bool false, .bool false, .bool false], none, false, false, false, true, none⟩), (141, ⟨3, true, [(0, 1), (1, 1), (2, 1)], none, [.int .u64 0, .int .u64 0, .bool false], none, false, false, false, true, none⟩)]
theorem TYok : TTok Try.prog TY := TTok.cons tiok_2 (TTok.cons tiok_3 (TTok.cons tiok_4 (TTok.cons tiok_5 (TTok.cons tiok_9 (TTok.cons tiok_22 (TTok.cons tiok_23 (TTok.cons tiok_24 (TTok.cons tiok_26 (TTok.cons tiok_28 (TTok.cons tiok_31 (TTok.cons tiok_32 (TTok.cons tiok_34 (TTok.cons tiok_37 (TTok.cons tiok_41 (TTok.cons tiok_43 (TTok.cons tiok_49 (TTok.cons tiok_50 (TTok.cons tiok_52 (TTok.cons tiok_53 (TTok.cons tiok_55 (TTok.cons tiok_60 (TTok.cons tiok_63 (TTok.cons tiok_66 (TTok.cons tiok_67 (TTok.cons tiok_73 (TTok.cons tiok_77 (TTok.cons tiok_86 (TTok.cons tiok_101 (TTok.cons tiok_102 (TTok.cons tiok_112 (TTok.cons tiok_116 (TTok.cons tiok_117 (TTok.cons tiok_119 (TTok.cons tiok_120 (TTok.cons tiok_126 (TTok.cons tiok_141 (TTok.nil)))))))))))))))))))))))))))))))))))))
theorem mixed : Try.prog.follows .mixedOrders = true := by kernel_rfl
end Go.Proofs.Ytecknkgiaahheaa

/- The program's data, and how they are known. -/
namespace Go.Proofs.Ytecknkgiaahheaa
open Go.RowKit
set_option linter.unusedVariables false
/-- Data of a type: the cells of one, one that is none. -/
class Enc (α : Type) where
  enc : α → List AV
  sz : Nat
  d : α
/-- A slice of data that stays as it is. -/
def eL {α : Type} [Enc α] (l : List α) : AV := .row none (Enc.sz α) l.length fun i => Enc.enc (l.getD i Enc.d)
/-- A slice of data that is owned. -/
def oL {α : Type} [Enc α] (l : List α) : Obj := .row none (Enc.sz α) l.length fun i => Enc.enc (l.getD i Enc.d)
instance : Enc Int := ⟨fun x => [.i .i64 x], 1, 0⟩
instance : Enc Bool := ⟨fun x => [.b x], 1, false⟩
instance : Enc ByteArray := ⟨fun x => [.s x], 1, ⟨#[]⟩⟩
instance {α : Type} [Enc α] : Enc (List α) := ⟨fun l => [eL l], 1, []⟩
structure Plc where
  f : Int
  b : Int
  i : Int
  deriving DecidableEq
instance : Enc Plc := ⟨fun x => [.i .i64 x.f, .i .i64 x.b, .i .i64 x.i], 3, ⟨0, 0, 0⟩⟩
structure Opd where
  k : Int
  n : Int
  b : Int
  deriving DecidableEq
instance : Enc Opd := ⟨fun x => [.i .i64 x.k, .i .i64 x.n, .i .u64 x.b], 3, ⟨0, 0, 0⟩⟩
structure InsE where
  op : Int
  reg : Int
  t : Int
  n : Int
  f : Int
  args : List Opd
  to : List Int
  deriving DecidableEq
instance : Enc InsE := ⟨fun x => [.i .i64 x.op, .i .i64 x.reg, .i .i64 x.t, .i .i64 x.n, .i .i64 x.f, eL x.args, eL x.to], 7, ⟨0, 0, 0, 0, 0, [], []⟩⟩
structure BlkE where
  code : List InsE
  deriving DecidableEq
instance : Enc BlkE := ⟨fun x => [eL x.code], 1, ⟨[]⟩⟩
structure FnE where
  name : ByteArray
  params : List Int
  ret : Int
  blocks : List BlkE
  deriving DecidableEq
instance : Enc FnE := ⟨fun x => [.s x.name, eL x.params, .i .i64 x.ret, eL x.blocks], 4, ⟨⟨#[]⟩, [], 0, []⟩⟩
structure VarE where
  name : ByteArray
  size : Int
  deriving DecidableEq
instance : Enc VarE := ⟨fun x => [.s x.name, .i .i64 x.size], 2, ⟨⟨#[]⟩, 0⟩⟩
structure ExtE where
  name : ByteArray
  params : List Int
  ret : Int
  deriving DecidableEq
instance : Enc ExtE := ⟨fun x => [.s x.name, eL x.params, .i .i64 x.ret], 3, ⟨⟨#[]⟩, [], 0⟩⟩
structure ModE where
  vars : List VarE
  exts : List ExtE
  funcs : List FnE
  deriving DecidableEq
instance : Enc ModE := ⟨fun x => [eL x.vars, eL x.exts, eL x.funcs], 3, ⟨[], [], []⟩⟩
/-- A struct's value. -/
def eS {α : Type} [Enc α] (x : α) : AV := .agg (Enc.enc x)
/-- A row that grows by one. -/
theorem catF_snoc {α : Type} [Enc α] (l : List α) (x : α) : ∀ i, i < (l ++ [x]).length → catF l.length (fun i => Enc.enc (l.getD i Enc.d)) (fun _ => Enc.enc x) i = Enc.enc ((l ++ [x]).getD i Enc.d) := fun i hi => by
  unfold catF
  rw [List.length_append, List.length_singleton] at hi
  split
  · rename_i h; show Enc.enc (l.getD i Enc.d) = _; congr 1; rw [List.getD_eq_getElem?_getD, List.getD_eq_getElem?_getD, List.getElem?_append_left h]
  · rename_i h
    obtain rfl : i = l.length := by omega
    show Enc.enc x = _
    congr 1; rw [List.getD_eq_getElem?_getD, List.getElem?_append_right (Nat.le_refl _), Nat.sub_self]; rfl
end Go.Proofs.Ytecknkgiaahheaa

/- Small helps for the contracts. -/
namespace Go.Proofs.Ytecknkgiaahheaa
open Go.RowKit
set_option linter.unusedVariables false
mutual
theorem noOwn_men {id : Nat} : ∀ {x : AV}, noOwn x = true → men id x = false
  | .i k z, _ => rfl
  | .b t, _ => rfl
  | .s t, _ => rfl
  | .v t, _ => rfl
  | .nil, _ => rfl
  | .row nz e n g, _ => rfl
  | .cp cs, _ => rfl
  | .op _ _, h => nomatch h
  | .orow _ _ _ _, h => nomatch h
  | .rp _ _ _ _, h => nomatch h
  | .omap _, h => nomatch h
  | .agg cs, h => noOwns_mens (x := cs) h
  | .tup cs, h => noOwns_mens (x := cs) h
  | .clo f cs, h => noOwns_mens (x := cs) h
  | .ifc t x, h => noOwn_men (x := x) h
  | .any, _ => rfl
  | .pth _ _ _ _ _, h => nomatch h
  | .pp _ _ _ _ _, h => nomatch h
theorem noOwns_mens {id : Nat} : ∀ {x : List AV}, noOwns x = true → mens id x = false
  | [], _ => rfl
  | x :: xs, h => by
    simp only [noOwns, Bool.and_eq_true] at h
    simp only [mens, noOwn_men h.1, noOwns_mens h.2, Bool.or_false]
end
theorem Clo.one {r : AV} (h : noOwn r = true) : Clo r [] := ⟨fun id hm => (Bool.noConfusion ((noOwn_men h).symm.trans hm)), fun i ob h => nomatch h⟩
theorem wr64 {b : Bool} {z : Int} (h1 : -9223372036854775808 ≤ z) (h2 : z ≤ 9223372036854775807) : b = true → z = IntKind.i64.wrap z := fun _ => by
  rw [IntKind.wrap_i64]; omega
theorem wru64 {b : Bool} {z : Int} (h1 : 0 ≤ z) (h2 : z ≤ 18446744073709551615) : b = true → z = IntKind.u64.wrap z := fun _ => by
  rw [IntKind.wrap_u64]; omega
theorem contains_drop {l : List Int} {q : Nat} (x : Int) (h : q < l.length) : (l.drop q).contains x = (decide (l.getD q Enc.d = x) || (l.drop (q + 1)).contains x) := by
  rw [List.drop_eq_getElem_cons h, List.contains_cons, List.getD_eq_getElem?_getD, List.getElem?_eq_getElem h, Bool.beq_comm]; rfl
/-- How much of lists there is in a datum. -/
class Siz (α : Type) [Enc α] where
  sizF : α → Nat
  z : sizF Enc.d = 0
abbrev siz {α : Type} [Enc α] [Siz α] (x : α) : Nat := Siz.sizF x
instance : Siz Int := ⟨fun _ => 0, rfl⟩
instance : Siz Bool := ⟨fun _ => 0, rfl⟩
instance : Siz ByteArray := ⟨fun x => x.size, rfl⟩
instance : Siz Opd := ⟨fun _ => 0, rfl⟩
instance {α : Type} [Enc α] [Siz α] : Siz (List α) := ⟨fun l => l.length + (l.map siz).sum, rfl⟩
instance : Siz InsE := ⟨fun x => siz x.args + siz x.to, rfl⟩
instance : Siz BlkE := ⟨fun x => siz x.code, rfl⟩
instance : Siz FnE := ⟨fun x => siz x.name + siz x.params + siz x.blocks, rfl⟩
instance : Siz VarE := ⟨fun x => siz x.name, rfl⟩
instance : Siz ExtE := ⟨fun x => siz x.name + siz x.params, rfl⟩
instance : Siz ModE := ⟨fun x => siz x.vars + siz x.exts + siz x.funcs, rfl⟩
theorem len_siz {α : Type} [Enc α] [Siz α] (l : List α) : l.length ≤ siz l := Nat.le_add_right _ _
theorem siz_mem {α : Type} [Enc α] [Siz α] : ∀ {l : List α} {x : α}, x ∈ l → siz x + l.length ≤ siz l
  | y :: l, x, h => by
    have e : siz (y :: l) = l.length + 1 + (siz y + (l.map siz).sum) := rfl
    have e2 : siz l = l.length + (l.map siz).sum := rfl
    rw [e, List.length_cons]
    cases h with
    | head => omega
    | tail _ h => have := siz_mem h; omega
theorem siz_at {α : Type} [Enc α] [Siz α] (l : List α) (i : Nat) : siz (l.getD i Enc.d) ≤ siz l := by
  rw [List.getD_eq_getElem?_getD]
  rcases Nat.lt_or_ge i l.length with h | h
  · rw [List.getElem?_eq_getElem h]; exact Nat.le_trans (Nat.le_add_right _ _) (siz_mem (List.getElem_mem h))
  · rw [List.getElem?_eq_none h]; show Siz.sizF Enc.d ≤ _; rw [Siz.z]; exact Nat.zero_le _
theorem foldl_take {α β : Type} {f : β → α → β} {b : β} {l : List α} {q : Nat} {d : α} (h : q < l.length) : (l.take (q + 1)).foldl f b = f ((l.take q).foldl f b) (l.getD q d) := by
  rw [List.take_add_one, List.foldl_append, List.getD_eq_getElem?_getD, List.getElem?_eq_getElem h]; rfl
/-- A box of a struct. -/
def bx {α : Type} [Enc α] (x : α) : Obj := .box none none (Enc.enc x)
theorem pickB_or {c q : Bool} {y : Operand} {u : Bool} : pickB c (.const (.bool true)) y u q = (c || q) := by cases c <;> cases y <;> first | rfl | (rename_i v; cases v <;> rfl)
theorem pickB_and {c q : Bool} {n : Nat} {u : Bool} : pickB c (.tmp n) (.const (.bool false)) q u = (c && q) := rfl
theorem Clo.row {d e off n e' n' : Nat} {g : Nat → List AV} : Clo (.orow d e off n) [(d, .row none e' n' g)] := by
  refine ⟨fun id hm => ?_, fun i ob h id hm => ?_⟩
  · simp only [men] at hm; have := Nat.eq_of_beq_eq_true hm; subst this; rw [lk_cons, if_pos rfl]; rfl
  · rw [lk_cons] at h
    split at h
    · cases h; cases hm
    · simp [lk] at h
theorem nd1 (d : Nat) : [d].Nodup := by simp
theorem nd2 {d d' : Nat} (h : d ≠ d') : [d, d'].Nodup := by simp [h]
theorem blocks_le (f : FnE) : f.blocks.length ≤ siz f := by have := len_siz f.blocks; have e : siz f = siz f.name + siz f.params + siz f.blocks := rfl; omega
theorem params_le (f : FnE) : f.params.length ≤ siz f := by have := len_siz f.params; have e : siz f = siz f.name + siz f.params + siz f.blocks := rfl; omega
theorem codes_le (f : FnE) (b : Nat) : siz (f.blocks.getD b Enc.d).code ≤ siz f := by have := siz_at f.blocks b; have e : siz f = siz f.name + siz f.params + siz f.blocks := rfl; have e2 : siz (f.blocks.getD b Enc.d) = siz (f.blocks.getD b Enc.d).code := rfl; omega
theorem code_le (f : FnE) (b : Nat) : (f.blocks.getD b Enc.d).code.length ≤ siz f := Nat.le_trans (len_siz _) (codes_le f b)
theorem ins_le (f : FnE) (b i : Nat) : siz ((f.blocks.getD b Enc.d).code.getD i Enc.d) ≤ siz f := Nat.le_trans (siz_at _ _) (codes_le f b)
theorem to_le (x : InsE) : x.to.length ≤ siz x := by have := len_siz x.to; have e : siz x = siz x.args + siz x.to := rfl; omega
theorem args_le (x : InsE) : x.args.length ≤ siz x := by have := len_siz x.args; have e : siz x = siz x.args + siz x.to := rfl; omega
theorem snoc_len {α : Type} {l l' : List α} {x : α} (e : l' = l ++ [x]) : l.length + 1 = l'.length := by rw [e, List.length_append]; rfl
theorem snoc_get {α : Type} [Enc α] {l l' : List α} {x : α} {cs : List AV} (e : l' = l ++ [x]) (hc : cs = Enc.enc x) : ∀ i, i < l'.length → catF l.length (offF 0 fun i => Enc.enc (l.getD i Enc.d)) (litF [cs]) i = (fun i => Enc.enc (l'.getD i Enc.d)) i := fun i hi => by
  subst e hc; exact catF_snoc l x i hi
theorem pow_lt {n : Nat} (h : n < 64) : (0 : Int) < 2 ^ n ∧ (2 : Int) ^ n < 18446744073709551616 := by
  have h2 : (2 : Nat) ^ n < 2 ^ 64 := Nat.pow_lt_pow_right (by decide) h
  have h3 : 0 < (2 : Nat) ^ n := Nat.pow_pos (by decide)
  have e : (2 : Int) ^ n = ((2 ^ n : Nat) : Int) := by rw [Int.natCast_pow]; rfl
  rw [e]; omega
theorem shl1 {b : Bool} {n : Nat} (h : n < 64) : b = true → (2 : Int) ^ n = IntKind.u64.wrap (1 * 2 ^ min n IntKind.u64.bits) := fun _ => by
  have hp := pow_lt h
  rw [show min n IntKind.u64.bits = n from Nat.min_eq_left (Nat.le_of_lt h), Int.one_mul, IntKind.wrap_u64, Int.emod_eq_of_lt (by omega) (by omega)]
theorem pow_lt' (w : Int) : w < 64 → (0 : Int) < 2 ^ w.toNat ∧ (2 : Int) ^ w.toNat < 18446744073709551616 := fun h => pow_lt (by omega)
theorem snoc_fun {g : Nat → List AV} {k : Nat} {cs : List AV} (h : cs = g k) : ∀ i, i < k + 1 → catF k (offF 0 g) (litF [cs]) i = g i := fun i hi => by
  show catF k g (fun _ => cs) i = g i
  unfold catF; split
  · rfl
  · obtain rfl : i = k := by omega
    exact h
theorem tg_nil {c : Nat} : tg [] c = true := rfl
theorem tg_ite {c' p c : Nat} {b : Bool} {tb : Tb} : tg ((c', p, b) :: tb) c = if c' = c then b else tg tb c := by
  unfold tg; rw [lk_cons]
  by_cases h : c' = c
  · rw [if_pos h, if_pos h]
  · rw [if_neg h, if_neg h]
theorem size_mk (l : List UInt8) : ByteArray.size ⟨l.toArray⟩ = l.length := rfl
/-! What a walk shows on its way, by default. -/
theorem ti {p : Prop} (h : p := by first | omega | (simp only [Int.toNat_natCast, Int.reduceToNat]; omega)) : p := h
theorem si {p : Prop} (h : p := by first | omega | (simp only [Int.toNat_natCast, Int.reduceToNat, addZ]; omega) | (simp only [ByteArray.size_append, size_mk, List.length_cons, List.length_nil, Int.toNat_natCast, Int.reduceToNat]; omega) | exact ⟨rfl, by omega⟩ | exact ⟨Nat.le_refl _, by omega⟩ | (simp only [addZ_eq, Nat.zero_add, Int.toNat_natCast, Int.reduceToNat]; omega) | ((repeat' apply And.intro) <;> first | exact trivial | omega) | exact rfl | decide +kernel) : p := h
theorem tgi {t : Tb} {c : Nat} {p : Prop} (h : tg t c = true → p := by intro ht; simp only [tg_ite, tg_nil, cn, Nat.reduceMul, Nat.reduceAdd, Nat.reduceEqDiff, ↓reduceIte, pickB_or, pickB_and, Bool.and_eq_true, Bool.or_eq_true, Bool.or_eq_false_iff, Bool.and_eq_false_iff, Bool.not_eq_true', Bool.not_eq_false', decide_eq_true_eq, decide_eq_false_iff_not, Int.toNat_natCast, Int.reduceToNat, ne_eq] at ht ⊢; first | omega | (simp only [Int.toNat_natCast, Int.reduceToNat]; omega)) : tg t c = true → p := h
theorem sB : (∀ n : Nat, ((n : Int)).toNat = n) ∧ (∀ x y : Bool, ((x || y) = false) = (x = false ∧ y = false)) ∧ (∀ x y : Bool, ((x && y) = false) = (x = false ∨ y = false)) ∧ (∀ b : Bool, ((!b) = false) = (b = true)) ∧ (∀ b : Bool, ((!b) = true) = (b = false)) ∧ (∀ a b : Bool, ((a && b) = true) = (a = true ∧ b = true)) ∧ (∀ a b : Bool, ((a || b) = true) = (a = true ∨ b = true)) ∧ (∀ (p : Prop) [Decidable p], (decide p = true) = p) ∧ (∀ (p : Prop) [Decidable p], (decide p = false) = ¬p) :=
  ⟨fun _ => rfl, fun x y => by cases x <;> cases y <;> simp, fun x y => by cases x <;> cases y <;> simp, fun b => by cases b <;> simp, fun b => by cases b <;> simp, fun a b => by cases a <;> cases b <;> simp, fun a b => by cases a <;> cases b <;> simp, fun p _ => propext decide_eq_true_iff, fun p _ => propext decide_eq_false_iff_not⟩
end Go.Proofs.Ytecknkgiaahheaa

/- Contracts of calls that change what they are handed: the way in and the way out. -/
namespace Go.Proofs.Ytecknkgiaahheaa
open Go.RowKit
set_option linter.unusedVariables false
set_option linter.unusedSimpArgs false
/-- Boxes at their places. -/
def pinO (pin : Nat → Nat) : Os → Os
  | [] => []
  | (i, .box _ q cs) :: o => (i, .box (some (pin i)) q cs) :: pinO pin o
  | (i, .row q e n g) :: o => (i, .row q e n g) :: pinO pin o
  | (i, .tree e n g) :: o => (i, .tree e n g) :: pinO pin o
  | (i, .mp e n g fF) :: o => (i, .mp e (pin i + 1) g fF) :: pinO pin o
/-- Boxes that were handed in, at their places. -/
def pinN (pin : Nat → Nat) (os : Os) : Os → Os
  | [] => []
  | (i, .box _ q cs) :: o => match lk os i with
    | some (.box _ _ _) => (i, .box (some (pin i)) q cs) :: pinN pin os o
    | _ => (i, .box none q cs) :: pinN pin os o
  | (i, .row q e n g) :: o => (i, .row q e n g) :: pinN pin os o
  | (i, .tree e n g) :: o => (i, .tree e n g) :: pinN pin os o
  | (i, .mp e n g fF) :: o => match lk os i with
    | some (.mp _ _ _ _) => (i, .mp e (pin i + 1) g fF) :: pinN pin os o
    | _ => (i, .mp e 0 g fF) :: pinN pin os o
theorem pinO_keys {pin : Nat → Nat} : ∀ {o : Os}, (pinO pin o).map (·.1) = o.map (·.1)
  | [] => rfl
  | (i, .box _ _ cs) :: o => by simp only [pinO, List.map_cons, pinO_keys]
  | (i, .row q e n g) :: o => by simp only [pinO, List.map_cons, pinO_keys]
  | (i, .tree e n g) :: o => by simp only [pinO, List.map_cons, pinO_keys]
  | (i, .mp e n g fF) :: o => by simp only [pinO, List.map_cons, pinO_keys]
theorem pinN_keys {pin : Nat → Nat} {os : Os} : ∀ {o : Os}, (pinN pin os o).map (·.1) = o.map (·.1)
  | [] => rfl
  | (i, .box _ _ cs) :: o => by
    simp only [pinN]
    split <;> simp only [List.map_cons, pinN_keys]
  | (i, .row q e n g) :: o => by simp only [pinN, List.map_cons, pinN_keys]
  | (i, .tree e n g) :: o => by simp only [pinN, List.map_cons, pinN_keys]
  | (i, .mp e n g fF) :: o => by
    simp only [pinN]
    split <;> simp only [List.map_cons, pinN_keys]
theorem lk_pinO {pin : Nat → Nat} {i : Nat} {ob : Obj} : ∀ {o : Os}, lk (pinO pin o) i = some ob → (∃ p q cs, lk o i = some (.box p q cs) ∧ ob = .box (some (pin i)) q cs) ∨ (∃ Φ k n F, lk o i = some (.mp Φ k n F) ∧ ob = .mp Φ (pin i + 1) n F) ∨ (lk o i = some ob ∧ isBox ob = false)
  | [], h => by simp [pinO, lk] at h
  | (j, .box p q cs) :: o, h => by
    simp only [pinO] at h
    rw [lk_cons] at h ⊢
    split at h
    · rename_i e; cases h; subst e; rw [if_pos rfl]; exact .inl ⟨p, q, cs, rfl, rfl⟩
    · rename_i e; rw [if_neg e]; exact lk_pinO h
  | (j, .row q e n g) :: o, h => by
    simp only [pinO] at h
    rw [lk_cons] at h ⊢
    split at h
    · rename_i e; cases h; subst e; rw [if_pos rfl]; exact .inr (.inr ⟨rfl, rfl⟩)
    · rename_i e; rw [if_neg e]; exact lk_pinO h
  | (j, .tree e n g) :: o, h => by
    simp only [pinO] at h
    rw [lk_cons] at h ⊢
    split at h
    · rename_i e; cases h; subst e; rw [if_pos rfl]; exact .inr (.inr ⟨rfl, rfl⟩)
    · rename_i e; rw [if_neg e]; exact lk_pinO h
  | (j, .mp e n g fF) :: o, h => by
    simp only [pinO] at h
    rw [lk_cons] at h ⊢
    split at h
    · rename_i e'; cases h; subst e'; rw [if_pos rfl]; exact .inr (.inl ⟨e, n, g, fF, rfl, rfl⟩)
    · rename_i e; rw [if_neg e]; exact lk_pinO h
theorem lk_pinN {pin : Nat → Nat} {os : Os} {i : Nat} {ob : Obj} : ∀ {o : Os}, lk o i = some ob → (∃ p q cs, ob = .box p q cs ∧ ((∃ p' q' cs', lk os i = some (.box p' q' cs')) ∧ lk (pinN pin os o) i = some (.box (some (pin i)) q cs) ∨ (∀ p' q' cs', lk os i ≠ some (.box p' q' cs')) ∧ lk (pinN pin os o) i = some (.box none q cs))) ∨
    (∃ Φ k n F, ob = .mp Φ k n F ∧ ((∃ a b c d, lk os i = some (.mp a b c d)) ∧ lk (pinN pin os o) i = some (.mp Φ (pin i + 1) n F) ∨ (∀ a b c d, lk os i ≠ some (.mp a b c d)) ∧ lk (pinN pin os o) i = some (.mp Φ 0 n F))) ∨ ((isBox ob = false ∧ ∀ a b c d, ob ≠ .mp a b c d) ∧ lk (pinN pin os o) i = some ob)
  | [], h => by simp [lk] at h
  | (j, .box p q cs) :: o, h => by
    rw [lk_cons] at h
    split at h
    · rename_i e; cases h; subst e
      refine .inl ⟨p, q, cs, rfl, ?_⟩
      simp only [pinN]
      split
      · rename_i p' q' cs' hq; exact .inl ⟨⟨p', q', cs', hq⟩, by rw [lk_cons, if_pos rfl]⟩
      · rename_i hq; exact .inr ⟨fun p' q' cs' e => hq p' q' cs' e, by rw [lk_cons, if_pos rfl]⟩
    · rename_i e
      have := lk_pinN (pin := pin) (os := os) h
      simp only [pinN]
      split <;> (rw [lk_cons, if_neg e]; exact this)
  | (j, .row q e n g) :: o, h => by
    rw [lk_cons] at h
    split at h
    · rename_i e; cases h; subst e
      exact .inr (.inr ⟨⟨rfl, fun _ _ _ _ h => nomatch h⟩, by simp only [pinN]; rw [lk_cons, if_pos rfl]⟩)
    · rename_i e
      have := lk_pinN (pin := pin) (os := os) h
      simp only [pinN]
      rw [lk_cons, if_neg e]; exact this
  | (j, .tree e n g) :: o, h => by
    rw [lk_cons] at h
    split at h
    · rename_i e; cases h; subst e
      exact .inr (.inr ⟨⟨rfl, fun _ _ _ _ h => nomatch h⟩, by simp only [pinN]; rw [lk_cons, if_pos rfl]⟩)
    · rename_i e
      have := lk_pinN (pin := pin) (os := os) h
      simp only [pinN]
      rw [lk_cons, if_neg e]; exact this
  | (j, .mp Φ k n F) :: o, h => by
    rw [lk_cons] at h
    split at h
    · rename_i e; cases h; subst e
      refine .inr (.inl ⟨Φ, k, n, F, rfl, ?_⟩)
      simp only [pinN]
      split
      · rename_i a b c d hq; exact .inl ⟨⟨a, b, c, d, hq⟩, by rw [lk_cons, if_pos rfl]⟩
      · rename_i hq; exact .inr ⟨fun a b c d e => hq a b c d e, by rw [lk_cons, if_pos rfl]⟩
    · rename_i e
      have := lk_pinN (pin := pin) (os := os) h
      simp only [pinN]
      split <;> (rw [lk_cons, if_neg e]; exact this)
/-- Boxes and maps alone, and maps stay maps. -/
def fixB (no : Os) : Os → Bool
  | [] => true
  | (_, .box _ _ _) :: o => fixB no o
  | (i, .mp _ _ _ _) :: o => (match lk no i with
    | some (.mp _ _ _ _) => true
    | none => true
    | _ => false) && fixB no o
  | (_, .row _ _ _ _) :: _ => false
  | (_, .tree _ _ _) :: _ => false
theorem fixB_at {no : Os} {i : Nat} {ob : Obj} : ∀ {o : Os}, fixB no o = true → lk o i = some ob → isBox ob = true ∨ ((∃ a b c d, ob = .mp a b c d) ∧ ∀ ob', lk no i = some ob' → ∃ a b c d, ob' = .mp a b c d)
  | [], _, h => by simp [lk] at h
  | (j, .box p q cs) :: o, hk, h => by
    rw [lk_cons] at h
    split at h
    · cases h; exact .inl rfl
    · simp only [fixB] at hk; exact fixB_at hk h
  | (j, .mp a b c d) :: o, hk, h => by
    simp only [fixB, Bool.and_eq_true] at hk
    rw [lk_cons] at h
    split at h
    · rename_i e; cases h; subst e
      refine .inr ⟨⟨a, b, c, d, rfl⟩, fun ob' h' => ?_⟩
      have := hk.1
      rw [h'] at this
      cases ob' with
      | mp a b c d => exact ⟨a, b, c, d, rfl⟩
      | box _ _ _ => cases this
      | row _ _ _ _ => cases this
      | tree _ _ _ => cases this
    · exact fixB_at hk.2 h
  | (j, .row q e n g) :: o, hk, h => nomatch hk
  | (j, .tree e n g) :: o, hk, h => nomatch hk
/-- No box has its place told, and boxes stay boxes. -/
def okNo (os : Os) : Os → Bool
  | [] => true
  | (_, .box none _ _) :: o => okNo os o
  | (_, .box (some _) _ _) :: _ => false
  | (i, .row _ _ _ _) :: o => (match lk os i with
    | some (.box _ _ _) => false
    | _ => true) && okNo os o
  | (i, .tree _ _ _) :: o => (match lk os i with
    | some (.box _ _ _) => false
    | _ => true) && okNo os o
  | (i, .mp _ k _ _) :: o => (match lk os i, Nat.beq k 0 with
    | some (.box _ _ _), _ => false
    | _, b => b) && okNo os o
theorem okNo_at {os : Os} {i : Nat} {ob : Obj} : ∀ {o : Os}, okNo os o = true → lk o i = some ob → (∃ q cs, ob = .box none q cs) ∨ (isBox ob = false ∧ (∀ a b c d, ob = .mp a b c d → b = 0) ∧ ∀ p q cs, lk os i ≠ some (.box p q cs))
  | [], _, h => by simp [lk] at h
  | (j, .box none q cs) :: o, hk, h => by
    rw [lk_cons] at h
    split at h
    · cases h; exact .inl ⟨_, _, rfl⟩
    · simp only [okNo] at hk; exact okNo_at hk h
  | (j, .box (some p) q cs) :: o, hk, h => nomatch hk
  | (j, .row q e n g) :: o, hk, h => by
    simp only [okNo, Bool.and_eq_true] at hk
    rw [lk_cons] at h
    split at h
    · rename_i e; cases h; subst e
      refine .inr ⟨rfl, (fun _ _ _ _ h => nomatch h), fun p q cs e => ?_⟩
      have := hk.1
      rw [e] at this; cases this
    · exact okNo_at hk.2 h
  | (j, .tree e n g) :: o, hk, h => by
    simp only [okNo, Bool.and_eq_true] at hk
    rw [lk_cons] at h
    split at h
    · rename_i e; cases h; subst e
      refine .inr ⟨rfl, (fun _ _ _ _ h => nomatch h), fun p q cs e => ?_⟩
      have := hk.1
      rw [e] at this; cases this
    · exact okNo_at hk.2 h
  | (j, .mp e n g fF) :: o, hk, h => by
    simp only [okNo, Bool.and_eq_true] at hk
    rw [lk_cons] at h
    split at h
    · rename_i e; cases h; subst e
      have h1 := hk.1
      split at h1
      · cases h1
      · rename_i hq
        refine .inr ⟨rfl, (fun a b c d e => ?_), fun p q cs e => hq p q cs e⟩
        cases e; exact Nat.eq_of_beq_eq_true h1
    · exact okNo_at hk.2 h
/-- How a run of a body ends that was handed os: it hands back no. -/
def RetM (T : TT) (rs : List ResultVar) (pin : Nat → Nat) (os : Os) (s : Sl) (o : Os) (r : AV) (no : Os) : Prop :=
  retA T s o rs fun v => ∃ ρ nl, mat ρ nl v r ∧ entO ρ nl o (pinN pin os no) ∧ (nodupB (srcs ρ nl (pinN pin os no)) && nodupB (keysN no)) = true
def endM (T : TT) (rs : List ResultVar) (pin : Nat → Nat) (os : Os) (r : AV) (no : Os) : Ex → Sl → Os → Prop
  | .r, s, o => RetM T rs pin os s o r no
  | .n, s, o => RetM T rs pin os s o r no
  | .x _, _, _ => False
theorem ASpecM.enter {fx : Bool} {P : Program} {T : TT} {n : Nat} {keep : List Nat} {f : FuncId} {fn : Func} {c : Code} {args : List AV} {os : Os} {r : AV} {no : Os} {rs : List ResultVar} (hT : TTok P T) (hm : P.follows .mixedOrders = true) (hf : P.funcs[f]? = some fn) (hb : fn.body = some c) (hcall : ∀ args w, (callFunc f args).run P w = .ok (.enter f args) w)
    (hnt : fn.ntmps = n) (hlen : Nat.ble args.length n = true) (hr : fn.results = rs.toArray) (hclo : Clo r no) (hok : okNo os no = true) (h : ∀ pin, runC P T n keep c (startA args 0) (pinO pin os) (endM T rs pin os r no)) (hfx : (!fx || fixB no os) = true := by rfl) : ASpecF fx P f args os r no := by
  subst hnt
  refine ⟨hcall, hclo, fun S β w us hob hap hus hvr => ?_⟩
  have hl := rels_len hus
  have hlen := Nat.le_of_ble_eq_true hlen
  let pin : Nat → Nat := fun i => (β i).foot.headD 0
  have hβ : ∀ i p q cs, lk os i = some (.box p q cs) → β i = ⟨some ⟨pin i, 0, none⟩, 0, [pin i], true, sub0⟩ := fun i p q cs hl => by
    obtain ⟨b, us, ty, h1, h2, h3, h4, h5, h6, h7⟩ := hob.objs i _ hl
    have hp : pin i = b := by show (β i).foot.headD 0 = b; rw [h2]; rfl
    rw [hp]
    cases hq : β i with
    | mk a cap foot ok sub => rw [hq] at h1 h2 h5 h6; simp only at h1 h2 h5 h6; rw [h1, h2, h5, h6.1, h6.2]
  have hβm : ∀ i a b c d, lk os i = some (.mp a b c d) → β i = ⟨some ⟨pin i, 0, none⟩, 0, [pin i], true, sub0⟩ := fun i a b c d hl => by
    obtain ⟨⟨h1, h2, h3⟩, b, x, h4, h5, _⟩ := hob.objs i _ hl
    have hp : pin i = b := by show (β i).foot.headD 0 = b; rw [h5]; rfl
    rw [hp]
    cases hq : β i with
    | mk a cap foot ok sub => rw [hq] at h1 h2 h3 h4 h5; simp only at h1 h2 h3 h4 h5; rw [h1, h2, h3, h4, h5]
  have hfe : feet (pinO pin os) β = feet os β := feet_keys pinO_keys
  have hcomp : Comp S w (fun k => (S k ∨ w.heap.size ≤ k ∨ k ∈ feet os β) ∧ k ∉ feet os β) w := ⟨Nat.le_refl _, fun k hk hs => ⟨⟨.inl hs, hap k hs⟩, rfl⟩⟩
  refine calls_of_wp hf hb (runC_ok (E := ⟨fn.ntmps, S, w, feet os β, hvr, hap⟩) (Q := bodyPost P fn _) hT hm (h pin) rfl (fun e s' o' hk' β1 a w' hg => ?_) β _ w ⟨by simp; omega, rfl, TbOk.nil, fun d c v hl' => ?_, fun id ob hl' => ?_, BelowX.refl _ _, fun k hk => ?_, by rw [hfe]; exact hob.nodup, by rw [pinO_keys]; exact hob.keys⟩)
  · have key : RetM T rs pin os s' o' r no → bodyPost P fn (fun e w' => ∃ v β', e = .returned v ∧ BelowX (feet os β) w w' ∧
        (∀ id ob, lk no id = some ob → orel (fun k => (S k ∨ w.heap.size ≤ k ∨ k ∈ feet os β) ∧ k ∉ feet no β') β' w' (β' id) ob) ∧ (∀ k ∈ feet no β', (w.heap.size ≤ k ∨ k ∈ feet os β) ∧ k < w'.heap.size) ∧ (feet no β').Nodup ∧ (no.map (·.1)).Nodup ∧
        (∀ id ob, lk os id = some ob → (fx || isBox ob) = true → (lk no id).isSome = true → β' id = β id) ∧ rel (fun k => (S k ∨ w.heap.size ≤ k ∨ k ∈ feet os β) ∧ k ∉ feet no β') β' w' r v) .ret a w' := fun hR => by
      obtain ⟨v, ⟨ρ, nl, hmat, hent, hn⟩, hv⟩ := retA_ok (P := P) hT hr hR
      obtain ⟨u, hrun, hrel⟩ := hv _ β1 a w' hg
      simp only [Bool.and_eq_true] at hn
      have hfn : feet (pinN pin os no) (remap ρ nl β1) = feet no (remap ρ nl β1) := feet_keys pinN_keys
      obtain ⟨hf1, hf2⟩ := entO_feet hg.nodup hg.keys hent (nodupB_ok hn.1)
      rw [hfn] at hf1 hf2
      have hsub : ∀ k ∈ feet no (remap ρ nl β1), k ∈ feet o' β1 := fun k hk => by
        obtain ⟨i, _, hki, hi⟩ := hf2 k hk
        obtain ⟨ob, hob⟩ := Option.isSome_iff_exists.1 hi
        exact foot_feet hob k hki
      have hc : Comp (Env.good ⟨fn.ntmps, S, w, feet os β, hvr, hap⟩ o' β1) w' (fun k => (S k ∨ w.heap.size ≤ k ∨ k ∈ feet os β) ∧ k ∉ feet no (remap ρ nl β1)) w' := ⟨Nat.le_refl _, fun k _ hg => ⟨⟨hg.1, fun q => hg.2 (hsub k q)⟩, rfl⟩⟩
      have hob' : ∀ id ob', lk (pinN pin os no) id = some ob' → orel (fun k => (S k ∨ w.heap.size ≤ k ∨ k ∈ feet os β) ∧ k ∉ feet no (remap ρ nl β1)) (remap ρ nl β1) w' (remap ρ nl β1 id) ob' := fun id ob' hl => by
        rcases entO_at hent hl with ⟨hm, q, e, g, rfl⟩ | ⟨hm, ob, h1, h2⟩
        · unfold remap
          rw [hm]
          exact ⟨Nat.le_refl _, Nat.zero_le _, .inl ⟨rfl, rfl, rfl⟩⟩
        · have e1 : remap ρ nl β1 id = β1 (rho ρ id) := by unfold remap; rw [hm]; rfl
          rw [e1]
          exact matO_ok hc ob ob' h2 (hg.objs _ _ h1)
      refine ⟨hg.defers, u, hrun, u, remap ρ nl β1, rfl, hg.below, fun id ob hl => ?_, fun k hk => ⟨(hg.new k (hsub k hk)).1, (hg.new k (hsub k hk)).2⟩, hf1, by rw [← keysN_eq]; exact nodupB_ok hn.2, fun id ob hl hbx hs => ?_, mat_ok hc _ _ _ hmat hrel⟩
      · rcases lk_pinN (pin := pin) (os := os) hl with ⟨p, q0, cs, rfl, ⟨_, h2⟩ | ⟨_, h2⟩⟩ | ⟨Φ, k0, n0, F0, rfl, ⟨_, h2⟩ | ⟨_, h2⟩⟩ | ⟨_, h2⟩
        · obtain ⟨b, us, ty, g1, g2, g3, g4, g5, g6, g7⟩ := hob' _ _ h2
          cases p with
          | none => exact ⟨b, us, ty, g1, g2, g3, g4, g5, g6, (fun _ h => nomatch h), g7.2⟩
          | some q => rcases okNo_at hok hl with ⟨_, _, e⟩ | ⟨e, _⟩ <;> cases e
        · obtain ⟨b, us, ty, g1, g2, g3, g4, g5, g6, g7⟩ := hob' _ _ h2
          cases p with
          | none => exact ⟨b, us, ty, g1, g2, g3, g4, g5, g6, (fun _ h => nomatch h), g7.2⟩
          | some q => rcases okNo_at hok hl with ⟨_, _, e⟩ | ⟨e, _⟩ <;> cases e
        · have hk0 : k0 = 0 := by
            rcases okNo_at hok hl with ⟨_, _, e⟩ | ⟨_, e, _⟩
            · cases e
            · exact e _ _ _ _ rfl
          subst hk0
          obtain ⟨g1, b, x, g2, g3, g4, g5, g6⟩ := hob' _ _ h2
          exact ⟨g1, b, x, g2, g3, g4, g5, fun _ h => nomatch h⟩
        · have hk0 : k0 = 0 := by
            rcases okNo_at hok hl with ⟨_, _, e⟩ | ⟨_, e, _⟩
            · cases e
            · exact e _ _ _ _ rfl
          subst hk0
          exact hob' _ _ h2
        · exact hob' _ _ h2
      · obtain ⟨ob', hob2⟩ := Option.isSome_iff_exists.1 hs
        have hcase : isBox ob = true ∨ ((∃ a b c d, ob = .mp a b c d) ∧ ∀ ob', lk no id = some ob' → ∃ a b c d, ob' = .mp a b c d) := by
          cases hbb : isBox ob with
          | true => exact .inl rfl
          | false =>
            rw [hbb, Bool.or_false] at hbx
            rw [hbx] at hfx
            have := fixB_at (show fixB no os = true from hfx) hl
            rw [hbb] at this
            exact .inr (this.resolve_left (fun h => nomatch h))
        rcases hcase with hbx | ⟨⟨a1, a2, a3, a4, rfl⟩, hmp⟩
        · cases ob with
          | row q e n g => cases hbx
          | tree e n g => cases hbx
          | mp _ _ _ _ => cases hbx
          | box p q0 cs =>
            rcases lk_pinN (pin := pin) (os := os) hob2 with ⟨p', q', cs', rfl, ⟨_, h2⟩ | ⟨h1, h2⟩⟩ | ⟨Φ, k0, n0, F0, rfl, _⟩ | ⟨h1, h2⟩
            · obtain ⟨b, us, ty, g1, g2, g3, g4, g5, g6, g7⟩ := hob' _ _ h2
              rw [hβ _ _ _ _ hl]
              have hb := g7.1 _ rfl
              subst hb
              cases hq : remap ρ nl β1 id with
              | mk a cap foot ok sub => rw [hq] at g1 g2 g5 g6; simp only at g1 g2 g5 g6; rw [g1, g2, g5, g6.1, g6.2]
            · exact absurd hl (h1 _ _ _)
            · rcases okNo_at hok hob2 with ⟨_, _, e⟩ | ⟨_, _, e⟩
              · cases e
              · exact absurd hl (e _ _ _)
            · rcases okNo_at hok hob2 with ⟨_, _, rfl⟩ | ⟨_, _, e⟩
              · cases h1.1
              · exact absurd hl (e _ _ _)
        · obtain ⟨b1, b2, b3, b4, rfl⟩ := hmp _ hob2
          rcases lk_pinN (pin := pin) (os := os) hob2 with ⟨p', q', cs', e, _⟩ | ⟨Φ, k0, n0, F0, e, ⟨_, h2⟩ | ⟨h1, _⟩⟩ | ⟨h1, _⟩
          · cases e
          · obtain ⟨⟨g1, g2, g3⟩, b, x, g4, g5, _, _, g6⟩ := hob' _ _ h2
            rw [hβm _ _ _ _ _ hl]
            have hb := g6 _ rfl
            subst hb
            cases hq : remap ρ nl β1 id with
            | mk a cap foot ok sub => rw [hq] at g1 g2 g3 g4 g5; simp only at g1 g2 g3 g4 g5; rw [g1, g2, g3, g4, g5]
          · exact absurd hl (h1 _ _ _ _)
          · exact absurd rfl (h1.2 _ _ _ _)
    cases e with
    | n => exact key hk'
    | r => exact key hk'
    | x i => cases hk'
  · obtain ⟨rfl, _, h3⟩ := lk_startA hl'
    obtain ⟨u, e1, e2⟩ := rels_get hus h3
    refine ⟨u, ?_, fun _ => ?_⟩
    · have hd : d < us.length := (List.getElem?_eq_some_iff.1 (by simpa using e1)).1
      rw [tg_zero TbOk.nil]
      show (us.toArray ++ Array.replicate (fn.ntmps - us.toArray.size) undef)[d]? = some u
      rw [Array.getElem?_append_left (by simpa using hd)]
      simpa using e1
    · refine rel_mono ?_ _ _ e2
      refine ⟨Nat.le_refl _, fun k hk hs => ⟨⟨.inl hs, ?_⟩, rfl⟩⟩
      rw [hfe]; exact hap k hs
  · have hc2 : Comp S w (Env.good ⟨fn.ntmps, S, w, feet os β, hvr, hap⟩ (pinO pin os) β) w := ⟨Nat.le_refl _, fun k hk hs => ⟨⟨.inl hs, by rw [hfe]; exact hap k hs⟩, rfl⟩⟩
    rcases lk_pinO hl' with ⟨p, q0, cs, h1, rfl⟩ | ⟨Φ, k0, n0, F0, h1, rfl⟩ | ⟨h1, h2⟩
    · obtain ⟨b, us, ty, g1, g2, g3, g4, g5, g6, g7⟩ := hob.objs _ _ h1
      have hp : pin id = b := by show (β id).foot.headD 0 = b; rw [g2]; rfl
      exact ⟨b, us, ty, g1, g2, g3, rels_mono hc2 _ _ g4, g5, g6, (fun b0 e => by cases e; exact hp.symm), g7.2⟩
    · obtain ⟨g1, b, x, g2, g3, g4, g5, g6⟩ := hob.objs _ _ h1
      have hp : pin id = b := by show (β id).foot.headD 0 = b; rw [g3]; rfl
      exact ⟨g1, b, x, g2, g3, g4, g5, fun b0 e => by have := Nat.succ.inj e; omega⟩
    · exact orel_mono hc2 (fun _ _ => rfl) (hob.objs _ _ h1)
  · rw [hfe] at hk; exact ⟨.inr hk, hob.lt k hk⟩
end Go.Proofs.Ytecknkgiaahheaa

/- Layer 1. -/
namespace Go.Proofs.Ytecknkgiaahheaa
open Go.RowKit
set_option linter.unusedVariables false
set_option linter.unusedSimpArgs false
def width (w : Int) : Bool := decide (1 ≤ w) && decide (w ≤ 64)
def Cut (w v : Int) : Int := if 64 ≤ w then v else v % 2 ^ w.toNat
theorem Cut_in (w v : Int) (h1 : 0 ≤ v) (h2 : v < 18446744073709551616) : 0 ≤ Cut w v ∧ Cut w v < 18446744073709551616 := by
  unfold Cut; split
  · exact ⟨h1, h2⟩
  · have hp := pow_lt (n := w.toNat) (by omega)
    have := Int.emod_nonneg v (b := 2 ^ w.toNat) (by omega)
    have := Int.emod_lt_of_pos v hp.1
    omega
theorem width_S (w : Int) : ASpec Try.prog 92 [.i .i64 w] (.b (width w)) [] := by
  refine ASpec.enter TYok mixed Try.func92 rfl Try.call92 Try.ntmps92 rfl (rs := [.tmp 2]) rfl (nodupB_ok rfl) (Clo.one rfl) (keep := [0, 2]) ?_; conv => whnf
  repeat' first | (refine And.intro (fun (hb : _ = true) => ?_) (fun (hb : _ = false) => ?_) <;> (try simp only [pickB_or, pickB_and] at hb) <;> (have hc := hb; try simp only [sB, Int.reduceToNat] at hc; try simp only [addZ0] at hc) <;> first | (exfalso; omega) | conv => whnf) | ((first | refine ⟨_, wr64 ti ti, ?_⟩ | refine And.intro si ?_ | refine LitW.frz ?_ | refine Drw.d (by decide +kernel) ?_ | refine Drw.f (by decide +kernel) ?_ | refine Drw0.d (by decide +kernel) ?_ | refine Drw0.f (by decide +kernel) ?_ | refine Drw.l (by decide +kernel) ?_ | refine And.intro tgi ?_ | refine ⟨_, shl1 (by omega), ?_⟩ | refine ⟨_, wru64 ti ti, ?_⟩ | refine ⟨_, fun _ => (IntKind.wrap_u64 _).symm, ?_⟩); conv => whnf) | exact ⟨_, .keep rfl rfl⟩ | fail
theorem Cut_S (w v : Int) (h0 : 0 ≤ w) (h1 : 0 ≤ v) (h2 : v < 18446744073709551616) : ASpec Try.prog 93 [.i .i64 w, .i .u64 v] (.i .u64 (Cut w v)) [] := by
  have hp := pow_lt' w
  refine ASpec.enter TYok mixed Try.func93 rfl Try.call93 Try.ntmps93 rfl (rs := [.tmp 4]) rfl (nodupB_ok rfl) (Clo.one rfl) (keep := [0, 1, 4]) ?_; conv => whnf
  repeat' first | (refine And.intro (fun (hb : _ = true) => ?_) (fun (hb : _ = false) => ?_) <;> (try simp only [pickB_or, pickB_and] at hb) <;> (have hc := hb; try simp only [sB, Int.reduceToNat] at hc; try simp only [addZ0] at hc) <;> first | (exfalso; omega) | conv => whnf) | ((first | refine ⟨_, wr64 ti ti, ?_⟩ | refine And.intro si ?_ | refine LitW.frz ?_ | refine Drw.d (by decide +kernel) ?_ | refine Drw.f (by decide +kernel) ?_ | refine Drw0.d (by decide +kernel) ?_ | refine Drw0.f (by decide +kernel) ?_ | refine Drw.l (by decide +kernel) ?_ | refine And.intro tgi ?_ | refine ⟨_, shl1 (by omega), ?_⟩ | refine ⟨_, wru64 ti ti, ?_⟩ | refine ⟨_, fun _ => (IntKind.wrap_u64 _).symm, ?_⟩); conv => whnf) | exact ⟨_, .keep rfl rfl⟩ | fail
  · exact ⟨_, .keep (by (try simp only [pickB_or, pickB_and]); unfold Cut; repeat' (first | rfl | omega | split | (simp_all; done))) rfl⟩
  exact ⟨_, .keep (by rw [Cut, if_neg hc, Int.tmod_eq_emod_of_nonneg h1]) rfl⟩
def half (w : Int) : Int := 2 ^ (w - 1).toNat
theorem half_S (w : Int) (h0 : 1 ≤ w) (h1 : w ≤ 64) : ASpec Try.prog 96 [.i .i64 w] (.i .u64 (half w)) [] := by
  refine ASpec.enter TYok mixed Try.func96 rfl Try.call96 Try.ntmps96 rfl (rs := [.tmp 2]) rfl (nodupB_ok rfl) (Clo.one rfl) (keep := [0, 2]) ?_; conv => whnf
  repeat' first | (refine And.intro (fun (hb : _ = true) => ?_) (fun (hb : _ = false) => ?_) <;> (try simp only [pickB_or, pickB_and] at hb) <;> (have hc := hb; try simp only [sB, Int.reduceToNat] at hc; try simp only [addZ0] at hc) <;> first | (exfalso; omega) | conv => whnf) | ((first | refine ⟨_, wr64 ti ti, ?_⟩ | refine And.intro si ?_ | refine LitW.frz ?_ | refine Drw.d (by decide +kernel) ?_ | refine Drw.f (by decide +kernel) ?_ | refine Drw0.d (by decide +kernel) ?_ | refine Drw0.f (by decide +kernel) ?_ | refine Drw.l (by decide +kernel) ?_ | refine And.intro tgi ?_ | refine ⟨_, shl1 (by omega), ?_⟩ | refine ⟨_, wru64 ti ti, ?_⟩ | refine ⟨_, fun _ => (IntKind.wrap_u64 _).symm, ?_⟩); conv => whnf) | exact ⟨_, .keep rfl rfl⟩ | fail
def Flags (op : Int) : Int := if op = 1 ∨ op = 2 ∨ op = 3 ∨ op = 11 then 3 else if op = 4 ∨ op = 5 ∨ op = 12 ∨ op = 13 then 4 else 0
theorem Flags_S (op : Int) : ASpec Try.prog 59 [.i .i64 op] (.i .i64 (Flags op)) [] := by
  refine ASpec.enter TYok mixed Try.func59 rfl Try.call59 Try.ntmps59 rfl (rs := [.tmp 2]) rfl (nodupB_ok rfl) (Clo.one rfl) (keep := [0, 2]) ?_; conv => whnf
  repeat' first | (refine And.intro (fun (hb : _ = true) => ?_) (fun (hb : _ = false) => ?_) <;> (try simp only [pickB_or, pickB_and] at hb) <;> (have hc := hb; try simp only [sB, Int.reduceToNat] at hc; try simp only [addZ0] at hc) <;> first | (exfalso; omega) | conv => whnf) | ((first | refine ⟨_, wr64 ti ti, ?_⟩ | refine And.intro si ?_ | refine LitW.frz ?_ | refine Drw.d (by decide +kernel) ?_ | refine Drw.f (by decide +kernel) ?_ | refine Drw0.d (by decide +kernel) ?_ | refine Drw0.f (by decide +kernel) ?_ | refine Drw.l (by decide +kernel) ?_ | refine And.intro tgi ?_ | refine ⟨_, shl1 (by omega), ?_⟩ | refine ⟨_, wru64 ti ti, ?_⟩ | refine ⟨_, fun _ => (IntKind.wrap_u64 _).symm, ?_⟩); conv => whnf) | exact ⟨_, .keep rfl rfl⟩ | fail
  all_goals exact ⟨_, .keep (by (try simp only [pickB_or, pickB_and]); unfold Flags; repeat' (first | rfl | omega | split | (simp_all; done))) rfl⟩
def Mask (w : Int) : Int := if 1 ≤ w ∧ w ≤ 64 then Cut w 18446744073709551615 else 0
theorem Mask_S (w : Int) : ASpec Try.prog 90 [.i .i64 w] (.i .u64 (Mask w)) [] := by
  refine ASpec.enter TYok mixed Try.func90 rfl Try.call90 Try.ntmps90 rfl (rs := [.tmp 2]) rfl (nodupB_ok rfl) (Clo.one rfl) (keep := [0, 2, 3]) ?_; conv => whnf
  repeat' first | (refine And.intro (fun (hb : _ = true) => ?_) (fun (hb : _ = false) => ?_) <;> (try simp only [pickB_or, pickB_and] at hb) <;> (have hc := hb; try simp only [sB, Int.reduceToNat] at hc; try simp only [addZ0] at hc) <;> first | (exfalso; omega) | conv => whnf) | ((first | refine ⟨_, wr64 ti ti, ?_⟩ | refine And.intro si ?_ | refine LitW.frz ?_ | refine Drw.d (by decide +kernel) ?_ | refine Drw.f (by decide +kernel) ?_ | refine Drw0.d (by decide +kernel) ?_ | refine Drw0.f (by decide +kernel) ?_ | refine Drw.l (by decide +kernel) ?_ | refine And.intro tgi ?_ | refine ⟨_, shl1 (by omega), ?_⟩ | refine ⟨_, wru64 ti ti, ?_⟩ | refine ⟨_, fun _ => (IntKind.wrap_u64 _).symm, ?_⟩); conv => whnf) | ((first | refine CallK.mk _ _ (fun _ => width_S _) ?_ | ((try (refine CallW.lent ?_; (conv => whnf); try (refine And.intro (by omega) ?_; (conv => whnf)))); refine CallL.mk _ _ (fun _ => width_S _) rfl (fun _ _ h => nomatch h) ?_)); conv => whnf) | exact ⟨_, .keep rfl rfl⟩ | fail
  · exact ⟨_, .keep (by rw [Mask, if_neg (by simp [width] at hc; omega)]) rfl⟩
  simp [width] at hb
  repeat' first | (refine And.intro (fun (hb : _ = true) => ?_) (fun (hb : _ = false) => ?_) <;> (try simp only [pickB_or, pickB_and] at hb) <;> (have hc := hb; try simp only [sB, Int.reduceToNat] at hc; try simp only [addZ0] at hc) <;> first | (exfalso; omega) | conv => whnf) | ((first | refine ⟨_, wr64 ti ti, ?_⟩ | refine And.intro si ?_ | refine LitW.frz ?_ | refine Drw.d (by decide +kernel) ?_ | refine Drw.f (by decide +kernel) ?_ | refine Drw0.d (by decide +kernel) ?_ | refine Drw0.f (by decide +kernel) ?_ | refine Drw.l (by decide +kernel) ?_ | refine And.intro tgi ?_ | refine ⟨_, shl1 (by omega), ?_⟩ | refine ⟨_, wru64 ti ti, ?_⟩ | refine ⟨_, fun _ => (IntKind.wrap_u64 _).symm, ?_⟩); conv => whnf) | ((first | refine CallK.mk _ _ (fun _ => Cut_S _ _ (by omega) (by omega) (by omega)) ?_ | ((try (refine CallW.lent ?_; (conv => whnf); try (refine And.intro (by omega) ?_; (conv => whnf)))); refine CallL.mk _ _ (fun _ => Cut_S _ _ (by omega) (by omega) (by omega)) rfl (fun _ _ h => nomatch h) ?_)); conv => whnf) | exact ⟨_, .keep rfl rfl⟩ | fail
  exact ⟨_, .keep (by rw [Mask, if_pos hb]) rfl⟩
structure BigE where
  hi : Int
  lo : Int
  below : Bool
  deriving DecidableEq
instance : Enc BigE := ⟨fun x => [.i .u64 x.hi, .i .u64 x.lo, .b x.below], 3, ⟨0, 0, false⟩⟩
def With (w v : Int) : BigE := if Cut w v < half w then ⟨0, Cut w v, false⟩ else ⟨0, Cut w ((0 - Cut w v) % 18446744073709551616), true⟩
theorem With_S (w v : Int) (h0 : 1 ≤ w) (h3 : w ≤ 64) (h1 : 0 ≤ v) (h2 : v < 18446744073709551616) : ASpec Try.prog 95 [.i .i64 w, .i .u64 v] (eS (With w v)) [] := by
  have h5 := Cut_in w v h1 h2
  refine ASpec.enter TYok mixed Try.func95 rfl Try.call95 Try.ntmps95 rfl (rs := [.cell 4 141]) rfl (nodupB_ok rfl) (Clo.one rfl) (keep := [0, 1, 4]) ?_; conv => whnf
  repeat' first | (refine And.intro (fun (hb : _ = true) => ?_) (fun (hb : _ = false) => ?_) <;> (try simp only [pickB_or, pickB_and] at hb) <;> (have hc := hb; try simp only [sB, Int.reduceToNat] at hc; try simp only [addZ0] at hc) <;> first | (exfalso; omega) | conv => whnf) | ((first | refine ⟨_, wr64 ti ti, ?_⟩ | refine And.intro si ?_ | refine LitW.frz ?_ | refine Drw.d (by decide +kernel) ?_ | refine Drw.f (by decide +kernel) ?_ | refine Drw0.d (by decide +kernel) ?_ | refine Drw0.f (by decide +kernel) ?_ | refine Drw.l (by decide +kernel) ?_ | refine And.intro tgi ?_ | refine ⟨_, shl1 (by omega), ?_⟩ | refine ⟨_, wru64 ti ti, ?_⟩ | refine ⟨_, fun _ => (IntKind.wrap_u64 _).symm, ?_⟩); conv => whnf) | ((first | refine CallK.mk _ _ (fun _ => Cut_S _ _ (by omega) (by omega) (by omega)) ?_ | ((try (refine CallW.lent ?_; (conv => whnf); try (refine And.intro (by omega) ?_; (conv => whnf)))); refine CallL.mk _ _ (fun _ => Cut_S _ _ (by omega) (by omega) (by omega)) rfl (fun _ _ h => nomatch h) ?_)); conv => whnf) | ((first | refine CallK.mk _ _ (fun _ => half_S _ (by omega) (by omega)) ?_ | ((try (refine CallW.lent ?_; (conv => whnf); try (refine And.intro (by omega) ?_; (conv => whnf)))); refine CallL.mk _ _ (fun _ => half_S _ (by omega) (by omega)) rfl (fun _ _ h => nomatch h) ?_)); conv => whnf) | exact ⟨_, .keep rfl rfl⟩ | fail
  all_goals exact ⟨_, .keep (by (try simp only [pickB_or, pickB_and]); unfold With; repeat' (first | rfl | omega | split | (simp_all; done))) rfl⟩
def Wrapped (w : Int) (a : BigE) : Int := if a.below then Cut w ((0 - a.lo) % 18446744073709551616) else Cut w a.lo
theorem Wrapped_S (w : Int) (a : BigE) (h0 : 0 ≤ w) (h1 : 0 ≤ a.lo) (h2 : a.lo < 18446744073709551616) : ASpec Try.prog 94 [.i .i64 w, eS a] (.i .u64 (Wrapped w a)) [] := by
  refine ASpec.enter TYok mixed Try.func94 rfl Try.call94 Try.ntmps94 rfl (rs := [.tmp 4]) rfl (nodupB_ok rfl) (Clo.one rfl) (keep := [0, 1, 3, 4]) ?_; conv => whnf
  repeat' first | (refine And.intro (fun (hb : _ = true) => ?_) (fun (hb : _ = false) => ?_) <;> (try simp only [pickB_or, pickB_and] at hb) <;> (have hc := hb; try simp only [sB, Int.reduceToNat] at hc; try simp only [addZ0] at hc) <;> first | (exfalso; omega) | conv => whnf) | ((first | refine ⟨_, wr64 ti ti, ?_⟩ | refine And.intro si ?_ | refine LitW.frz ?_ | refine Drw.d (by decide +kernel) ?_ | refine Drw.f (by decide +kernel) ?_ | refine Drw0.d (by decide +kernel) ?_ | refine Drw0.f (by decide +kernel) ?_ | refine Drw.l (by decide +kernel) ?_ | refine And.intro tgi ?_ | refine ⟨_, shl1 (by omega), ?_⟩ | refine ⟨_, wru64 ti ti, ?_⟩ | refine ⟨_, fun _ => (IntKind.wrap_u64 _).symm, ?_⟩); conv => whnf) | ((first | refine CallK.mk _ _ (fun _ => Cut_S _ _ (by omega) (by omega) (by omega)) ?_ | ((try (refine CallW.lent ?_; (conv => whnf); try (refine And.intro (by omega) ?_; (conv => whnf)))); refine CallL.mk _ _ (fun _ => Cut_S _ _ (by omega) (by omega) (by omega)) rfl (fun _ _ h => nomatch h) ?_)); conv => whnf) | exact ⟨_, .keep rfl rfl⟩ | fail
  all_goals exact ⟨_, .keep (by (try simp only [pickB_or, pickB_and]); unfold Wrapped; repeat' (first | rfl | omega | split | (simp_all; done))) rfl⟩
def Convert (op a b v : Int) : Int × Bool :=
  if ¬(width a = true ∧ width b = true) then (0, false)
  else if op = 20 ∧ a < b then (Cut a v, true)
  else if op = 21 ∧ a < b then (Wrapped b (With a v), true)
  else if op = 22 ∧ b < a then (Cut b v, true) else (0, false)
theorem With_in (w v : Int) (h1 : 0 ≤ v) (h2 : v < 18446744073709551616) : 0 ≤ (With w v).lo ∧ (With w v).lo < 18446744073709551616 := by
  unfold With; split
  · exact Cut_in w v h1 h2
  · exact Cut_in w _ (by omega) (by omega)
theorem Convert_S (op a b v : Int) (h1 : 0 ≤ v) (h2 : v < 18446744073709551616) : ASpec Try.prog 87 [.i .i64 op, .i .i64 a, .i .i64 b, .i .u64 v] (.tup [.i .u64 (Convert op a b v).1, .b (Convert op a b v).2]) [] := by
  have h3 := With_in a v h1 h2
  refine ASpec.enter TYok mixed Try.func87 rfl Try.call87 Try.ntmps87 rfl (rs := [.tmp 8, .tmp 9]) rfl (nodupB_ok rfl) (Clo.one rfl) (keep := [0, 1, 2, 3, 8, 9, 10]) ?_; conv => whnf
  repeat' first | (refine And.intro (fun (hb : _ = true) => ?_) (fun (hb : _ = false) => ?_) <;> (try simp only [pickB_or, pickB_and] at hb) <;> (have hc := hb; try simp only [sB, Int.reduceToNat] at hc; try simp only [addZ0] at hc) <;> first | (exfalso; omega) | conv => whnf) | ((first | refine ⟨_, wr64 ti ti, ?_⟩ | refine And.intro si ?_ | refine LitW.frz ?_ | refine Drw.d (by decide +kernel) ?_ | refine Drw.f (by decide +kernel) ?_ | refine Drw0.d (by decide +kernel) ?_ | refine Drw0.f (by decide +kernel) ?_ | refine Drw.l (by decide +kernel) ?_ | refine And.intro tgi ?_ | refine ⟨_, shl1 (by omega), ?_⟩ | refine ⟨_, wru64 ti ti, ?_⟩ | refine ⟨_, fun _ => (IntKind.wrap_u64 _).symm, ?_⟩); conv => whnf) | ((first | refine CallK.mk _ _ (fun _ => width_S _) ?_ | ((try (refine CallW.lent ?_; (conv => whnf); try (refine And.intro (by omega) ?_; (conv => whnf)))); refine CallL.mk _ _ (fun _ => width_S _) rfl (fun _ _ h => nomatch h) ?_)); conv => whnf) | ((first | refine CallK.mk _ _ (fun _ => Cut_S _ _ (by simp [width] at *; omega) h1 h2) ?_ | ((try (refine CallW.lent ?_; (conv => whnf); try (refine And.intro (by omega) ?_; (conv => whnf)))); refine CallL.mk _ _ (fun _ => Cut_S _ _ (by simp [width] at *; omega) h1 h2) rfl (fun _ _ h => nomatch h) ?_)); conv => whnf) | ((first | refine CallK.mk _ _ (fun _ => With_S _ _ (by simp [width] at *; omega) (by simp [width] at *; omega) h1 h2) ?_ | ((try (refine CallW.lent ?_; (conv => whnf); try (refine And.intro (by omega) ?_; (conv => whnf)))); refine CallL.mk _ _ (fun _ => With_S _ _ (by simp [width] at *; omega) (by simp [width] at *; omega) h1 h2) rfl (fun _ _ h => nomatch h) ?_)); conv => whnf) | ((first | refine CallK.mk _ _ (fun _ => Wrapped_S _ _ (by simp [width] at *; omega) (by omega) (by omega)) ?_ | ((try (refine CallW.lent ?_; (conv => whnf); try (refine And.intro (by omega) ?_; (conv => whnf)))); refine CallL.mk _ _ (fun _ => Wrapped_S _ _ (by simp [width] at *; omega) (by omega) (by omega)) rfl (fun _ _ h => nomatch h) ?_)); conv => whnf) | exact ⟨_, .keep rfl rfl⟩ | fail
  all_goals exact ⟨_, .keep (by (try simp only [pickB_or, pickB_and]); unfold Convert; repeat' (first | rfl | omega | split | (simp_all; done))) rfl⟩
end Go.Proofs.Ytecknkgiaahheaa

/- Layer 2. -/
namespace Go.Proofs.Ytecknkgiaahheaa
open Go.RowKit
set_option linter.unusedVariables false
set_option linter.unusedSimpArgs false
set_option maxRecDepth 100000
def Result (x : InsE) : Int := if x.op < 1 ∨ 30 < x.op then 0 else if x.op = 14 ∨ x.op = 15 ∨ x.op = 16 ∨ x.op = 17 ∨ x.op = 18 ∨ x.op = 19 then 1 else if x.op = 26 ∨ x.op = 29 then 65 else if x.op = 28 then 0 else x.t
theorem Result_S (x : InsE) : ASpec Try.prog 61 [eS x] (.i .i64 (Result x)) [] := by
  refine ASpec.enter TYok mixed Try.func61 rfl Try.call61 Try.ntmps61 rfl (rs := [.tmp 2]) rfl (nodupB_ok rfl) (Clo.one rfl) (keep := [0, 1, 2, 3, 12]) ?_; conv => whnf
  repeat' first | (refine And.intro (fun (hb : _ = true) => ?_) (fun (hb : _ = false) => ?_) <;> (try simp only [pickB_or, pickB_and] at hb) <;> (have hc := hb; try simp only [sB, Int.reduceToNat] at hc; try simp only [addZ0] at hc) <;> first | (exfalso; omega) | conv => whnf) | ((first | refine ⟨_, wr64 ti ti, ?_⟩ | refine And.intro si ?_ | refine LitW.frz ?_ | refine Drw.d (by decide +kernel) ?_ | refine Drw.f (by decide +kernel) ?_ | refine Drw0.d (by decide +kernel) ?_ | refine Drw0.f (by decide +kernel) ?_ | refine Drw.l (by decide +kernel) ?_ | refine And.intro tgi ?_ | refine ⟨_, shl1 (by omega), ?_⟩ | refine ⟨_, wru64 ti ti, ?_⟩ | refine ⟨_, fun _ => (IntKind.wrap_u64 _).symm, ?_⟩); conv => whnf) | exact ⟨_, .keep rfl rfl⟩ | fail
  all_goals exact ⟨_, .keep (by (try simp only [pickB_or, pickB_and]); unfold Result; repeat' (first | rfl | omega | split | (simp_all; done))) rfl⟩
def Ends (op : Int) : Bool := decide (op = 31) || decide (op = 32) || decide (op = 33) || decide (op = 34)
theorem Ends_S (op : Int) : ASpec Try.prog 57 [.i .i64 op] (.b (Ends op)) [] := by
  refine ASpec.enter TYok mixed Try.func57 rfl Try.call57 Try.ntmps57 rfl (rs := [.tmp 2]) rfl (nodupB_ok rfl) (Clo.one rfl) (keep := [0, 2]) ?_; conv => whnf
  repeat' first | (refine And.intro (fun (hb : _ = true) => ?_) (fun (hb : _ = false) => ?_) <;> (try simp only [pickB_or, pickB_and] at hb) <;> (have hc := hb; try simp only [sB, Int.reduceToNat] at hc; try simp only [addZ0] at hc) <;> first | (exfalso; omega) | conv => whnf) | ((first | refine ⟨_, wr64 ti ti, ?_⟩ | refine And.intro si ?_ | refine LitW.frz ?_ | refine Drw.d (by decide +kernel) ?_ | refine Drw.f (by decide +kernel) ?_ | refine Drw0.d (by decide +kernel) ?_ | refine Drw0.f (by decide +kernel) ?_ | refine Drw.l (by decide +kernel) ?_ | refine And.intro tgi ?_ | refine ⟨_, shl1 (by omega), ?_⟩ | refine ⟨_, wru64 ti ti, ?_⟩ | refine ⟨_, fun _ => (IntKind.wrap_u64 _).symm, ?_⟩); conv => whnf) | exact ⟨_, .keep rfl rfl⟩ | fail
theorem ext_getD {α : Type} [Enc α] {a b : List α} (hl : a.length = b.length) (h : ∀ i, i < a.length → a.getD i Enc.d = b.getD i Enc.d) : a = b := by
  refine List.ext_getElem hl fun i h1 h2 => ?_
  have := h i h1
  rwa [List.getD_eq_getElem?_getD, List.getD_eq_getElem?_getD, List.getElem?_eq_getElem h1, List.getElem?_eq_getElem h2] at this
theorem all_step {P : Nat → Prop} {q : Nat} (h : ∀ i, i < q → P i) (hq : P q) : ∀ i, i < q + 1 → P i := fun i hi => if e : i = q then e ▸ hq else h i (by omega)
theorem Ints_S (a b : List Int) (ha : a.length < 9223372036854775807) : ASpec Try.prog 30 [eL a, eL b] (.b (decide (a = b))) [] := by
  refine ASpec.enter TYok mixed Try.func30 rfl Try.call30 Try.ntmps30 rfl (rs := [.tmp 4]) rfl (nodupB_ok rfl) (Clo.one rfl) (keep := [0, 1, 4, 5]) ?_; conv => whnf
  repeat' first | (refine And.intro (fun (hb : _ = true) => ?_) (fun (hb : _ = false) => ?_) <;> (try simp only [pickB_or, pickB_and] at hb) <;> (have hc := hb; try simp only [sB, Int.reduceToNat] at hc; try simp only [addZ0] at hc) <;> first | (exfalso; omega) | conv => whnf) | ((first | refine ⟨_, wr64 ti ti, ?_⟩ | refine And.intro si ?_ | refine LitW.frz ?_ | refine Drw.d (by decide +kernel) ?_ | refine Drw.f (by decide +kernel) ?_ | refine Drw0.d (by decide +kernel) ?_ | refine Drw0.f (by decide +kernel) ?_ | refine Drw.l (by decide +kernel) ?_ | refine And.intro tgi ?_ | refine ⟨_, shl1 (by omega), ?_⟩ | refine ⟨_, wru64 ti ti, ?_⟩ | refine ⟨_, fun _ => (IntKind.wrap_u64 _).symm, ?_⟩); conv => whnf) | exact ⟨_, .keep rfl rfl⟩ | fail
  · exact ⟨_, .keep (congrArg AV.b (decide_eq_false fun e => by subst e; simp at hb).symm) rfl⟩
  simp at hb
  refine lp [5] (fun q : Nat => [.i .i64 q]) (fun q => []) (fun q => q ≤ a.length ∧ ∀ i, i < q → a.getD i Enc.d = b.getD i Enc.d) (fun q => a.length - q) 0 ⟨by omega, fun i h => by omega⟩ ?_ fun q hq => ?_
  · refine Ent.lp [] [] rfl rfl rfl ?_ ?_ <;> repeat' first | exact trivial | rfl | exact fun _ _ => rfl | omega | refine And.intro ?_ ?_ | (show (_ : Int) = _; first | omega | (simp only [Int.toNat_natCast]; omega))
  conv => whnf
  obtain ⟨hq, hv⟩ := hq
  repeat' first | (refine And.intro (fun (hb : _ = true) => ?_) (fun (hb : _ = false) => ?_) <;> (try simp only [pickB_or, pickB_and] at hb) <;> (have hc := hb; try simp only [sB, Int.reduceToNat] at hc; try simp only [addZ0] at hc) <;> first | (exfalso; omega) | conv => whnf) | ((first | refine ⟨_, wr64 ti ti, ?_⟩ | refine And.intro si ?_ | refine LitW.frz ?_ | refine Drw.d (by decide +kernel) ?_ | refine Drw.f (by decide +kernel) ?_ | refine Drw0.d (by decide +kernel) ?_ | refine Drw0.f (by decide +kernel) ?_ | refine Drw.l (by decide +kernel) ?_ | refine And.intro tgi ?_ | refine ⟨_, shl1 (by omega), ?_⟩ | refine ⟨_, wru64 ti ti, ?_⟩ | refine ⟨_, fun _ => (IntKind.wrap_u64 _).symm, ?_⟩); conv => whnf) | exact ⟨_, .keep rfl rfl⟩ | fail
  · exact ⟨_, .keep (congrArg AV.b (decide_eq_false fun e => hc (by rw [e])).symm) rfl⟩
  · refine .mk (q + 1) ⟨by omega, all_step hv hc⟩ (by omega) ?_
    refine Ent.lp [] [] rfl rfl rfl ?_ ?_ <;> repeat' first | exact trivial | rfl | exact fun _ _ => rfl | omega | refine And.intro ?_ ?_ | (show (_ : Int) = _; first | omega | (simp only [Int.toNat_natCast]; omega))
  · exact ⟨_, .keep (congrArg AV.b (decide_eq_true (ext_getD (by omega) fun i hi => hv i (by omega))).symm) rfl⟩
theorem Opd.ext3 : ∀ {x y : Opd}, x.k = y.k → x.n = y.n → x.b = y.b → x = y
  | ⟨_, _, _⟩, ⟨_, _, _⟩, rfl, rfl, rfl => rfl
theorem Instrs_S (a b : InsE) (ha : siz a < 4294967296) : ASpec Try.prog 31 [eS a, eS b] (.b (decide (a = b))) [] := by
  have h1 := args_le a
  have h2 := to_le a
  refine ASpec.enter TYok mixed Try.func31 rfl Try.call31 Try.ntmps31 rfl (rs := [.tmp 4]) rfl (nodupB_ok rfl) (Clo.one rfl) (keep := [0, 1, 2, 3, 4, 5]) ?_; conv => whnf
  repeat' first | (refine And.intro (fun (hb : _ = true) => ?_) (fun (hb : _ = false) => ?_) <;> (try simp only [pickB_or, pickB_and] at hb) <;> (have hc := hb; try simp only [sB, Int.reduceToNat] at hc; try simp only [addZ0] at hc) <;> first | (exfalso; omega) | conv => whnf) | ((first | refine ⟨_, wr64 ti ti, ?_⟩ | refine And.intro si ?_ | refine LitW.frz ?_ | refine Drw.d (by decide +kernel) ?_ | refine Drw.f (by decide +kernel) ?_ | refine Drw0.d (by decide +kernel) ?_ | refine Drw0.f (by decide +kernel) ?_ | refine Drw.l (by decide +kernel) ?_ | refine And.intro tgi ?_ | refine ⟨_, shl1 (by omega), ?_⟩ | refine ⟨_, wru64 ti ti, ?_⟩ | refine ⟨_, fun _ => (IntKind.wrap_u64 _).symm, ?_⟩); conv => whnf) | exact ⟨_, .keep rfl rfl⟩ | fail
  · exact ⟨_, .keep (congrArg AV.b (decide_eq_false fun e => by subst e; simp at hb).symm) rfl⟩
  refine lp [5] (fun q : Nat => [.i .i64 q]) (fun q => [(2, bx a), (3, bx b)]) (fun q => q ≤ a.args.length ∧ ∀ i, i < q → a.args.getD i Enc.d = b.args.getD i Enc.d) (fun q => a.args.length - q) 0 ⟨by omega, fun i h => by omega⟩ ?_ fun q hq => ?_
  · refine Ent.lp [] [] rfl rfl rfl ?_ ?_ <;> repeat' first | exact trivial | rfl | exact fun _ _ => rfl | omega | refine And.intro ?_ ?_ | (show (_ : Int) = _; first | omega | (simp only [Int.toNat_natCast]; omega))
  conv => whnf
  obtain ⟨hq, hv⟩ := hq
  repeat' first | (refine And.intro (fun (hb : _ = true) => ?_) (fun (hb : _ = false) => ?_) <;> (try simp only [pickB_or, pickB_and] at hb) <;> (have hc := hb; try simp only [sB, Int.reduceToNat] at hc; try simp only [addZ0] at hc) <;> first | (exfalso; omega) | conv => whnf) | ((first | refine ⟨_, wr64 ti ti, ?_⟩ | refine And.intro si ?_ | refine LitW.frz ?_ | refine Drw.d (by decide +kernel) ?_ | refine Drw.f (by decide +kernel) ?_ | refine Drw0.d (by decide +kernel) ?_ | refine Drw0.f (by decide +kernel) ?_ | refine Drw.l (by decide +kernel) ?_ | refine And.intro tgi ?_ | refine ⟨_, shl1 (by omega), ?_⟩ | refine ⟨_, wru64 ti ti, ?_⟩ | refine ⟨_, fun _ => (IntKind.wrap_u64 _).symm, ?_⟩); conv => whnf) | ((first | refine CallK.mk _ _ (fun _ => Ints_S _ _ (by omega)) ?_ | ((try (refine CallW.lent ?_; (conv => whnf); try (refine And.intro (by omega) ?_; (conv => whnf)))); refine CallL.mk _ _ (fun _ => Ints_S _ _ (by omega)) rfl (fun _ _ h => nomatch h) ?_)); conv => whnf) | exact ⟨_, .keep rfl rfl⟩ | fail
  · refine ⟨_, .keep (congrArg AV.b (decide_eq_false fun e => ?_).symm) rfl⟩
    subst e; simp at hb
  · refine .mk (q + 1) ⟨by omega, all_step hv ?_⟩ (by omega) ?_
    · exact Opd.ext3 hc.1 hc.2.1 hc.2.2
    · refine Ent.lp [] [] rfl rfl rfl ?_ ?_ <;> repeat' first | exact trivial | rfl | exact fun _ _ => rfl | omega | refine And.intro ?_ ?_ | (show (_ : Int) = _; first | omega | (simp only [Int.toNat_natCast]; omega))
  · refine ⟨_, .keep (congrArg AV.b ?_) rfl⟩
    have e : a.args = b.args := ext_getD (by omega) fun i hi => hv i (by omega)
    cases a; cases b; simp_all
def Callee (m : ModE) (n : Int) : List Int × Int × Bool :=
  if 0 ≤ n ∧ n < m.funcs.length then ((m.funcs.getD n.toNat Enc.d).params, (m.funcs.getD n.toNat Enc.d).ret, true)
  else if n < 0 ∧ -(m.exts.length : Int) ≤ n then ((m.exts.getD (-1 - n).toNat Enc.d).params, (m.exts.getD (-1 - n).toNat Enc.d).ret, true) else ([], 0, false)
theorem Callee_S (m : ModE) (n : Int) (hm : siz m < 4294967296) (hn : -9223372036854775808 ≤ n) (hn2 : n ≤ 9223372036854775807) : ASpec Try.prog 88 [eS m, .i .i64 n] (.tup [eL (Callee m n).1, .i .i64 (Callee m n).2.1, .b (Callee m n).2.2]) [] := by
  have h1 := len_siz m.funcs
  have h2 := len_siz m.exts
  have h3 : siz m = siz m.vars + siz m.exts + siz m.funcs := rfl
  refine ASpec.enter TYok mixed Try.func88 rfl Try.call88 Try.ntmps88 rfl (rs := [.tmp 4, .tmp 5, .tmp 6]) rfl (nodupB_ok rfl) (Clo.one rfl) (keep := [0, 1, 2, 4, 5, 6]) ?_; conv => whnf
  repeat' first | (refine And.intro (fun (hb : _ = true) => ?_) (fun (hb : _ = false) => ?_) <;> (try simp only [pickB_or, pickB_and] at hb) <;> (have hc := hb; try simp only [sB, Int.reduceToNat] at hc; try simp only [addZ0] at hc) <;> first | (exfalso; omega) | conv => whnf) | ((first | refine ⟨_, wr64 ti ti, ?_⟩ | refine And.intro si ?_ | refine LitW.frz ?_ | refine Drw.d (by decide +kernel) ?_ | refine Drw.f (by decide +kernel) ?_ | refine Drw0.d (by decide +kernel) ?_ | refine Drw0.f (by decide +kernel) ?_ | refine Drw.l (by decide +kernel) ?_ | refine And.intro tgi ?_ | refine ⟨_, shl1 (by omega), ?_⟩ | refine ⟨_, wru64 ti ti, ?_⟩ | refine ⟨_, fun _ => (IntKind.wrap_u64 _).symm, ?_⟩); conv => whnf) | exact ⟨_, .keep rfl rfl⟩ | fail
  · exact ⟨_, .keep (by rw [Callee, if_pos hc]; rfl) rfl⟩
  · exact ⟨_, .keep (by rw [Callee, if_neg (by omega), if_pos (by omega)]; rfl) rfl⟩
  · rw [Callee, if_neg (by omega), if_neg (by omega)]
    exact ⟨_, .tup (.cons (.nilF rfl) (.cons (.keep rfl rfl) (.cons (.keep rfl rfl) .nil (nodupB_ok rfl)) (nodupB_ok rfl)) (nodupB_ok rfl))⟩
def pairs (f : FnE) (b k : Nat) : List (InsE × Plc) := (List.range k).map fun i => ((f.blocks.getD b Enc.d).code.getD i Enc.d, ⟨0, b, i⟩)
/-- All code ahead of place k of block b. -/
def codeTo (f : FnE) (b k : Nat) : List (InsE × Plc) := ((List.range b).flatMap fun b => pairs f b (f.blocks.getD b Enc.d).code.length) ++ pairs f b k
def Code (f : FnE) : List (InsE × Plc) := codeTo f f.blocks.length 0
theorem codeTo_snoc (f : FnE) (b k : Nat) : codeTo f b (k + 1) = codeTo f b k ++ [((f.blocks.getD b Enc.d).code.getD k Enc.d, ⟨0, b, k⟩)] := by
  unfold codeTo pairs; rw [List.range_succ, List.map_append, List.append_assoc]; rfl
theorem codeTo_next (f : FnE) (b : Nat) : codeTo f (b + 1) 0 = codeTo f b (f.blocks.getD b Enc.d).code.length := by
  unfold codeTo; rw [List.range_succ, List.flatMap_append, List.flatMap_singleton]; simp [pairs]
theorem sum_take {α : Type} (g : α → Nat) (d : α) : ∀ (l : List α) (b : Nat), b < l.length → ((l.take b).map g).sum + g (l.getD b d) ≤ (l.map g).sum
  | x :: l, 0, _ => by simp
  | x :: l, b + 1, h => by
    have := sum_take g d l b (by simpa using h)
    simp only [List.take_succ_cons, List.map_cons, List.sum_cons, List.getD_cons_succ]; omega
theorem sum_le {α : Type} {g h : α → Nat} (hgh : ∀ x, g x ≤ h x) : ∀ l : List α, (l.map g).sum ≤ (l.map h).sum
  | [] => Nat.le_refl _
  | x :: l => by have := sum_le hgh l; have := hgh x; simp only [List.map_cons, List.sum_cons]; omega
theorem codeTo_len (f : FnE) (b : Nat) : ∀ k, (codeTo f b k).length = ((List.range b).map fun b => (f.blocks.getD b Enc.d).code.length).sum + k := fun k => by
  simp [codeTo, pairs, List.length_flatMap]
theorem range_take {α : Type} (g : α → Nat) (d : α) (l : List α) : ∀ b, b ≤ l.length → ((List.range b).map fun b => g (l.getD b d)).sum = ((l.take b).map g).sum
  | 0, _ => by simp
  | b + 1, h => by
    rw [List.range_succ, List.map_append, List.sum_append, range_take g d l b (by omega), List.take_add_one, List.map_append, List.sum_append, List.getElem?_eq_getElem (by omega)]
    simp [List.getElem?_eq_getElem (show b < l.length by omega)]
theorem codeTo_siz (f : FnE) (b k : Nat) (hb : b < f.blocks.length) (hk : k ≤ (f.blocks.getD b Enc.d).code.length) : (codeTo f b k).length ≤ siz f := by
  rw [codeTo_len, range_take (fun x : BlkE => x.code.length) Enc.d f.blocks b (by omega)]
  have h1 := sum_take (fun x : BlkE => x.code.length) Enc.d f.blocks b hb
  have h2 := sum_le (g := fun x : BlkE => x.code.length) (h := siz) (fun x => len_siz x.code) f.blocks
  have h3 : siz f = siz f.name + siz f.params + (f.blocks.length + (f.blocks.map siz).sum) := rfl
  omega
theorem Clo.rows {d d' e off n e' n' e2 off2 n2 e3 n3 : Nat} {g g' : Nat → List AV} : Clo (.tup [.orow d e off n, .orow d' e2 off2 n2]) [(d, .row none e' n' g), (d', .row none e3 n3 g')] := by
  refine ⟨fun id hm => ?_, fun i ob h id hm => ?_⟩
  · simp only [men, mens, Bool.or_false, Bool.or_eq_true] at hm
    rw [lk_cons]; split
    · rfl
    · rename_i q; rw [lk_cons]; split
      · rfl
      · rename_i q2; rcases hm with h | h <;> have := Nat.eq_of_beq_eq_true h <;> subst this <;> contradiction
  · rw [lk_cons] at h
    split at h
    · cases h; cases hm
    · rw [lk_cons] at h
      split at h
      · cases h; cases hm
      · simp [lk] at h
theorem Code_S (d d' : Nat) (hd : d ≠ d') (f : FnE) (hs : siz f < 4294967296) : ASpec Try.prog 56 [eS f] (.tup [.orow d 7 0 ((Code f).map Prod.fst).length, .orow d' 3 0 ((Code f).map Prod.snd).length]) [(d, oL ((Code f).map Prod.fst)), (d', oL ((Code f).map Prod.snd))] := by
  have h1 := blocks_le f
  have hnd : [d, d'].Nodup := nd2 hd
  refine ASpec.enter TYok mixed Try.func56 rfl Try.call56 Try.ntmps56 rfl (rs := [.tmp 2, .tmp 3]) rfl (hnd) (Clo.rows) (keep := [0, 1, 2, 3, 4, 5, 6, 7]) ?_; conv => whnf
  refine lp [6, 4, 5] (fun b : Nat => [.i .i64 b, .orow 4 7 0 ((codeTo f b 0).map Prod.fst).length, .orow 5 3 0 ((codeTo f b 0).map Prod.snd).length]) (fun b => [(4, oL ((codeTo f b 0).map Prod.fst)), (5, oL ((codeTo f b 0).map Prod.snd)), (1, bx f)]) (fun q => q ≤ f.blocks.length) (fun q => f.blocks.length - q) 0 (by omega) ?_ fun b hb0 => ?_
  · refine Ent.lp [] [4, 5] rfl rfl rfl ?_ ?_ <;> repeat' first | exact trivial | rfl | exact fun _ _ => rfl | omega | refine And.intro ?_ ?_ | (show (_ : Int) = _; first | omega | (simp only [Int.toNat_natCast]; omega))
  conv => whnf
  repeat' first | (refine And.intro (fun (hb : _ = true) => ?_) (fun (hb : _ = false) => ?_) <;> (try simp only [pickB_or, pickB_and] at hb) <;> (have hc := hb; try simp only [sB, Int.reduceToNat] at hc; try simp only [addZ0] at hc) <;> first | (exfalso; omega) | conv => whnf) | ((first | refine ⟨_, wr64 ti ti, ?_⟩ | refine And.intro si ?_ | refine LitW.frz ?_ | refine Drw.d (by decide +kernel) ?_ | refine Drw.f (by decide +kernel) ?_ | refine Drw0.d (by decide +kernel) ?_ | refine Drw0.f (by decide +kernel) ?_ | refine Drw.l (by decide +kernel) ?_ | refine And.intro tgi ?_ | refine ⟨_, shl1 (by omega), ?_⟩ | refine ⟨_, wru64 ti ti, ?_⟩ | refine ⟨_, fun _ => (IntKind.wrap_u64 _).symm, ?_⟩); conv => whnf) | exact ⟨_, .keep rfl rfl⟩ | fail
  · have h2 := code_le f b
    refine lp [7, 4, 5] (fun q : Nat => [.i .i64 q, .orow 4 7 0 ((codeTo f b q).map Prod.fst).length, .orow 5 3 0 ((codeTo f b q).map Prod.snd).length]) (fun q => [(4, oL ((codeTo f b q).map Prod.fst)), (5, oL ((codeTo f b q).map Prod.snd)), (1, bx f)]) (fun q => q ≤ (f.blocks.getD b Enc.d).code.length) (fun q => (f.blocks.getD b Enc.d).code.length - q) 0 (by omega) ?_ fun q hq => ?_
    · refine Ent.lp [] [] rfl rfl rfl ?_ ?_ <;> repeat' first | exact trivial | rfl | exact fun _ _ => rfl | omega | refine And.intro ?_ ?_ | (show (_ : Int) = _; first | omega | (simp only [Int.toNat_natCast]; omega))
    conv => whnf
    have h3 := codeTo_siz f b q (by omega) hq
    have h4 : ((codeTo f b q).map Prod.fst).length = (codeTo f b q).length := List.length_map _
    have h5 : ((codeTo f b q).map Prod.snd).length = (codeTo f b q).length := List.length_map _
    repeat' first | (refine And.intro (fun (hb : _ = true) => ?_) (fun (hb : _ = false) => ?_) <;> (try simp only [pickB_or, pickB_and] at hb) <;> (have hc := hb; try simp only [sB, Int.reduceToNat] at hc; try simp only [addZ0] at hc) <;> first | (exfalso; omega) | conv => whnf) | ((first | refine ⟨_, wr64 ti ti, ?_⟩ | refine And.intro si ?_ | refine LitW.frz ?_ | refine Drw.d (by decide +kernel) ?_ | refine Drw.f (by decide +kernel) ?_ | refine Drw0.d (by decide +kernel) ?_ | refine Drw0.f (by decide +kernel) ?_ | refine Drw.l (by decide +kernel) ?_ | refine And.intro tgi ?_ | refine ⟨_, shl1 (by omega), ?_⟩ | refine ⟨_, wru64 ti ti, ?_⟩ | refine ⟨_, fun _ => (IntKind.wrap_u64 _).symm, ?_⟩); conv => whnf) | exact ⟨_, .keep rfl rfl⟩ | fail
    · have e1 : (codeTo f b (q + 1)).map Prod.fst = (codeTo f b q).map Prod.fst ++ [(f.blocks.getD b Enc.d).code.getD q Enc.d] := by rw [codeTo_snoc, List.map_append]; rfl
      have e2 : (codeTo f b (q + 1)).map Prod.snd = (codeTo f b q).map Prod.snd ++ [⟨0, b, q⟩] := by rw [codeTo_snoc, List.map_append]; rfl
      refine .mk (q + 1) (by omega) (by omega) ?_
      refine Ent.lp [(4, 37), (5, 43)] [] rfl rfl rfl ?_ ?_ <;> repeat' first | exact trivial | rfl | exact fun _ _ => rfl | omega | refine And.intro ?_ ?_ | exact snoc_len e1 | exact snoc_get e1 rfl | rw [e1] | exact snoc_len e2 | exact snoc_get e2 rfl | rw [e2] | (show (_ : Int) = _; first | omega | (simp only [Int.toNat_natCast]; omega))
    · have e : codeTo f (b + 1) 0 = codeTo f b q := by rw [codeTo_next]; congr 1; omega
      refine .mk (b + 1) (by omega) (by omega) ?_
      rw [e]
      refine Ent.lp [] [] rfl rfl rfl ?_ ?_ <;> repeat' first | exact trivial | rfl | exact fun _ _ => rfl | omega | refine And.intro ?_ ?_ | (show (_ : Int) = _; first | omega | (simp only [Int.toNat_natCast]; omega))
  · have e : codeTo f b 0 = Code f := by rw [Code]; congr 1; omega
    rw [e]
    exact ⟨_, .tup (.cons (.give rfl rfl rfl (fun _ _ => rfl) rfl) (.cons (.give rfl rfl rfl (fun _ _ => rfl) rfl) .nil (nd1 _)) hnd)⟩
end Go.Proofs.Ytecknkgiaahheaa

/- Layer 2, further. -/
namespace Go.Proofs.Ytecknkgiaahheaa
open Go.RowKit
set_option linter.unusedVariables false
set_option linter.unusedSimpArgs false
set_option maxRecDepth 100000
theorem find_take {α : Type} {p : α → Bool} (d : α) : ∀ {l : List α} {q : Nat}, q < l.length → (∀ i, i < q → p (l.getD i d) = false) → p (l.getD q d) = true → l.find? p = some (l.getD q d)
  | x :: l, 0, _, _, h => by simp at h ⊢; simp [h]
  | x :: l, q + 1, hq, hn, h => by
    rw [List.find?_cons, show p x = false from hn 0 (by omega)]
    exact find_take d (by simpa using hq) (fun i hi => hn (i + 1) (by omega)) h
theorem find_no {α : Type} {p : α → Bool} (d : α) {l : List α} (hn : ∀ i, i < l.length → p (l.getD i d) = false) : l.find? p = none := by
  rw [List.find?_eq_none]; intro x hx
  obtain ⟨i, h, rfl⟩ := List.getElem_of_mem hx
  have := hn i h
  rw [List.getD_eq_getElem?_getD, List.getElem?_eq_getElem h] at this
  simpa using this
theorem getD_map {α β : Type} (g : α → β) (l : List α) (i : Nat) (d : α) (e : β) (h : g d = e) : (l.map g).getD i e = g (l.getD i d) := by
  subst h; rw [List.getD_eq_getElem?_getD, List.getD_eq_getElem?_getD, List.getElem?_map]; cases l[i]? <;> rfl
def dfP (reg : Int) (p : InsE × Plc) : Bool := decide (p.1.reg = reg) && !decide (Result p.1 = 0)
def noP : InsE × Plc := (Enc.d, Enc.d)
def Def (f : FnE) (reg : Int) : Plc × Bool := match (Code f).find? (dfP reg) with
  | some p => (p.2, true)
  | none => (⟨0, 0, 0⟩, false)
theorem Code_siz (f : FnE) : (Code f).length ≤ siz f := by
  unfold Code
  rcases Nat.eq_zero_or_pos f.blocks.length with h | h
  · rw [h]; exact Nat.zero_le _
  · obtain ⟨n, hn⟩ : ∃ n, f.blocks.length = n + 1 := ⟨f.blocks.length - 1, by omega⟩
    rw [hn, codeTo_next]; exact codeTo_siz f n _ (by omega) (Nat.le_refl _)
theorem Def_S (f : FnE) (reg : Int) (hs : siz f < 4294967296) : ASpec Try.prog 62 [eS f, .i .i64 reg] (.tup [eS (Def f reg).1, .b (Def f reg).2]) [] := by
  have h1 := Code_siz f
  have h2 : ((Code f).map Prod.fst).length = (Code f).length := List.length_map _
  have h3 : ((Code f).map Prod.snd).length = (Code f).length := List.length_map _
  refine ASpec.enter TYok mixed Try.func62 rfl Try.call62 Try.ntmps62 rfl (rs := [.cell 4 28, .tmp 5]) rfl (nodupB_ok rfl) (Clo.one rfl) (keep := [0, 1, 2, 4, 5, 6, 7, 8]) ?_; conv => whnf
  repeat' first | (refine And.intro (fun (hb : _ = true) => ?_) (fun (hb : _ = false) => ?_) <;> (try simp only [pickB_or, pickB_and] at hb) <;> (have hc := hb; try simp only [sB, Int.reduceToNat] at hc; try simp only [addZ0] at hc) <;> first | (exfalso; omega) | conv => whnf) | ((first | refine ⟨_, wr64 ti ti, ?_⟩ | refine And.intro si ?_ | refine LitW.frz ?_ | refine Drw.d (by decide +kernel) ?_ | refine Drw.f (by decide +kernel) ?_ | refine Drw0.d (by decide +kernel) ?_ | refine Drw0.f (by decide +kernel) ?_ | refine Drw.l (by decide +kernel) ?_ | refine And.intro tgi ?_ | refine ⟨_, shl1 (by omega), ?_⟩ | refine ⟨_, wru64 ti ti, ?_⟩ | refine ⟨_, fun _ => (IntKind.wrap_u64 _).symm, ?_⟩); conv => whnf) | ((first | refine CallK.mk _ _ (fun _ => Code_S 40 41 (by decide) f hs) ?_ | ((try (refine CallW.lent ?_; (conv => whnf); try (refine And.intro (by omega) ?_; (conv => whnf)))); refine CallL.mk _ _ (fun _ => Code_S 40 41 (by decide) f hs) rfl (fun _ _ h => nomatch h) ?_)); conv => whnf) | exact ⟨_, .keep rfl rfl⟩ | fail
  refine lp [8] (fun q : Nat => [.i .i64 q]) (fun q => [(40, oL ((Code f).map Prod.fst)), (41, oL ((Code f).map Prod.snd)), (2, bx f), (4, bx (Enc.d : Plc))]) (fun q => q ≤ (Code f).length ∧ ∀ i, i < q → dfP reg ((Code f).getD i noP) = false) (fun q => (Code f).length - q) 0 ⟨by omega, fun i h => by omega⟩ ?_ fun q hq => ?_
  · refine Ent.lp [] [] rfl rfl rfl ?_ ?_ <;> repeat' first | exact trivial | rfl | exact fun _ _ => rfl | omega | refine And.intro ?_ ?_ | (show (_ : Int) = _; first | omega | (simp only [Int.toNat_natCast]; omega))
  conv => whnf
  obtain ⟨hq, hv⟩ := hq
  have h4 := getD_map Prod.fst (Code f) q noP Enc.d rfl
  have h5 := getD_map Prod.snd (Code f) q noP Enc.d rfl
  repeat' first | (refine And.intro (fun (hb : _ = true) => ?_) (fun (hb : _ = false) => ?_) <;> (try simp only [pickB_or, pickB_and] at hb) <;> (have hc := hb; try simp only [sB, Int.reduceToNat] at hc; try simp only [addZ0] at hc) <;> first | (exfalso; omega) | conv => whnf) | ((first | refine ⟨_, wr64 ti ti, ?_⟩ | refine And.intro si ?_ | refine LitW.frz ?_ | refine Drw.d (by decide +kernel) ?_ | refine Drw.f (by decide +kernel) ?_ | refine Drw0.d (by decide +kernel) ?_ | refine Drw0.f (by decide +kernel) ?_ | refine Drw.l (by decide +kernel) ?_ | refine And.intro tgi ?_ | refine ⟨_, shl1 (by omega), ?_⟩ | refine ⟨_, wru64 ti ti, ?_⟩ | refine ⟨_, fun _ => (IntKind.wrap_u64 _).symm, ?_⟩); conv => whnf) | ((first | refine CallK.mk _ _ (fun _ => Result_S _) ?_ | ((try (refine CallW.lent ?_; (conv => whnf); try (refine And.intro (by omega) ?_; (conv => whnf)))); refine CallL.mk _ _ (fun _ => Result_S _) rfl (fun _ _ h => nomatch h) ?_)); conv => whnf) | exact ⟨_, .keep rfl rfl⟩ | fail
  · have e : Def f reg = (((Code f).getD q noP).2, true) := by
      unfold Def; rw [find_take noP (by omega) hv (by unfold dfP; rw [← h4]; exact hb)]
    exact ⟨_, .keep (by rw [e, ← h5]; rfl) rfl⟩
  · refine .mk (q + 1) ⟨by omega, all_step hv (by unfold dfP; rw [← h4]; exact hb)⟩ (by omega) ?_
    refine Ent.lp [] [] rfl rfl rfl ?_ ?_ <;> repeat' first | exact trivial | rfl | exact fun _ _ => rfl | omega | refine And.intro ?_ ?_ | (show (_ : Int) = _; first | omega | (simp only [Int.toNat_natCast]; omega))
  · have e : Def f reg = (⟨0, 0, 0⟩, false) := by unfold Def; rw [find_no noP fun i hi => hv i (by omega)]
    exact ⟨_, .keep (by rw [e]; rfl) rfl⟩
theorem BlkE.ext1 : ∀ {x y : BlkE}, x.code = y.code → x = y
  | ⟨_⟩, ⟨_⟩, rfl => rfl
theorem Funcs_S (a b : FnE) (ha : siz a < 4294967296) : ASpec Try.prog 15 [eS a, eS b] (.b (decide (a = b))) [] := by
  have h1 := blocks_le a
  have h2 := params_le a
  refine ASpec.enter TYok mixed Try.func15 rfl Try.call15 Try.ntmps15 rfl (rs := [.tmp 4]) rfl (nodupB_ok rfl) (Clo.one rfl) (keep := [0, 1, 2, 3, 4, 5, 6, 7, 8]) ?_; conv => whnf
  repeat' first | (refine And.intro (fun (hb : _ = true) => ?_) (fun (hb : _ = false) => ?_) <;> (try simp only [pickB_or, pickB_and] at hb) <;> (have hc := hb; try simp only [sB, Int.reduceToNat] at hc; try simp only [addZ0] at hc) <;> first | (exfalso; omega) | conv => whnf) | ((first | refine ⟨_, wr64 ti ti, ?_⟩ | refine And.intro si ?_ | refine LitW.frz ?_ | refine Drw.d (by decide +kernel) ?_ | refine Drw.f (by decide +kernel) ?_ | refine Drw0.d (by decide +kernel) ?_ | refine Drw0.f (by decide +kernel) ?_ | refine Drw.l (by decide +kernel) ?_ | refine And.intro tgi ?_ | refine ⟨_, shl1 (by omega), ?_⟩ | refine ⟨_, wru64 ti ti, ?_⟩ | refine ⟨_, fun _ => (IntKind.wrap_u64 _).symm, ?_⟩); conv => whnf) | ((first | refine CallK.mk _ _ (fun _ => Ints_S _ _ (by omega)) ?_ | ((try (refine CallW.lent ?_; (conv => whnf); try (refine And.intro (by omega) ?_; (conv => whnf)))); refine CallL.mk _ _ (fun _ => Ints_S _ _ (by omega)) rfl (fun _ _ h => nomatch h) ?_)); conv => whnf) | exact ⟨_, .keep rfl rfl⟩ | fail
  · refine ⟨_, .keep (congrArg AV.b (decide_eq_false fun e => ?_).symm) rfl⟩
    subst e; simp at hb
  refine lp [6] (fun q : Nat => [.i .i64 q]) (fun q => [(2, bx a), (3, bx b)]) (fun q => q ≤ a.blocks.length ∧ ∀ i, i < q → a.blocks.getD i Enc.d = b.blocks.getD i Enc.d) (fun q => a.blocks.length - q) 0 ⟨by omega, fun i h => by omega⟩ ?_ fun q hq => ?_
  · refine Ent.lp [] [] rfl rfl rfl ?_ ?_ <;> repeat' first | exact trivial | rfl | exact fun _ _ => rfl | omega | refine And.intro ?_ ?_ | (show (_ : Int) = _; first | omega | (simp only [Int.toNat_natCast]; omega))
  conv => whnf
  obtain ⟨hq, hv⟩ := hq
  have h3 := code_le a q
  repeat' first | (refine And.intro (fun (hb : _ = true) => ?_) (fun (hb : _ = false) => ?_) <;> (try simp only [pickB_or, pickB_and] at hb) <;> (have hc := hb; try simp only [sB, Int.reduceToNat] at hc; try simp only [addZ0] at hc) <;> first | (exfalso; omega) | conv => whnf) | ((first | refine ⟨_, wr64 ti ti, ?_⟩ | refine And.intro si ?_ | refine LitW.frz ?_ | refine Drw.d (by decide +kernel) ?_ | refine Drw.f (by decide +kernel) ?_ | refine Drw0.d (by decide +kernel) ?_ | refine Drw0.f (by decide +kernel) ?_ | refine Drw.l (by decide +kernel) ?_ | refine And.intro tgi ?_ | refine ⟨_, shl1 (by omega), ?_⟩ | refine ⟨_, wru64 ti ti, ?_⟩ | refine ⟨_, fun _ => (IntKind.wrap_u64 _).symm, ?_⟩); conv => whnf) | exact ⟨_, .keep rfl rfl⟩ | fail
  · refine ⟨_, .keep (congrArg AV.b (decide_eq_false fun e => hc ?_).symm) rfl⟩
    rw [e]
  · refine lp [7] (fun k : Nat => [.i .i64 k]) (fun k => [(2, bx a), (3, bx b)]) (fun k => k ≤ (a.blocks.getD q Enc.d).code.length ∧ ∀ i, i < k → (a.blocks.getD q Enc.d).code.getD i Enc.d = (b.blocks.getD q Enc.d).code.getD i Enc.d) (fun k => (a.blocks.getD q Enc.d).code.length - k) 0 ⟨by omega, fun i h => by omega⟩ ?_ fun k hk => ?_
    · refine Ent.lp [] [] rfl rfl rfl ?_ ?_ <;> repeat' first | exact trivial | rfl | exact fun _ _ => rfl | omega | refine And.intro ?_ ?_ | (show (_ : Int) = _; first | omega | (simp only [Int.toNat_natCast]; omega))
    conv => whnf
    obtain ⟨hk, hw⟩ := hk
    have h4 := ins_le a q k
    repeat' first | (refine And.intro (fun (hb : _ = true) => ?_) (fun (hb : _ = false) => ?_) <;> (try simp only [pickB_or, pickB_and] at hb) <;> (have hc := hb; try simp only [sB, Int.reduceToNat] at hc; try simp only [addZ0] at hc) <;> first | (exfalso; omega) | conv => whnf) | ((first | refine ⟨_, wr64 ti ti, ?_⟩ | refine And.intro si ?_ | refine LitW.frz ?_ | refine Drw.d (by decide +kernel) ?_ | refine Drw.f (by decide +kernel) ?_ | refine Drw0.d (by decide +kernel) ?_ | refine Drw0.f (by decide +kernel) ?_ | refine Drw.l (by decide +kernel) ?_ | refine And.intro tgi ?_ | refine ⟨_, shl1 (by omega), ?_⟩ | refine ⟨_, wru64 ti ti, ?_⟩ | refine ⟨_, fun _ => (IntKind.wrap_u64 _).symm, ?_⟩); conv => whnf) | ((first | refine CallK.mk _ _ (fun _ => Instrs_S _ _ (Nat.lt_of_le_of_lt h4 ha)) ?_ | ((try (refine CallW.lent ?_; (conv => whnf); try (refine And.intro (by omega) ?_; (conv => whnf)))); refine CallL.mk _ _ (fun _ => Instrs_S _ _ (Nat.lt_of_le_of_lt h4 ha)) rfl (fun _ _ h => nomatch h) ?_)); conv => whnf) | exact ⟨_, .keep rfl rfl⟩ | fail
    · exact ⟨_, .keep (congrArg AV.b (decide_eq_false fun e => hc (by rw [e])).symm) rfl⟩
    · refine .mk (k + 1) ⟨by omega, all_step hw hc⟩ (by omega) ?_
      refine Ent.lp [] [] rfl rfl rfl ?_ ?_ <;> repeat' first | exact trivial | rfl | exact fun _ _ => rfl | omega | refine And.intro ?_ ?_ | (show (_ : Int) = _; first | omega | (simp only [Int.toNat_natCast]; omega))
    · refine .mk (q + 1) ⟨by omega, all_step hv (BlkE.ext1 (ext_getD (by omega) fun i hi => hw i (by omega)))⟩ (by omega) ?_
      refine Ent.lp [] [] rfl rfl rfl ?_ ?_ <;> repeat' first | exact trivial | rfl | exact fun _ _ => rfl | omega | refine And.intro ?_ ?_ | (show (_ : Int) = _; first | omega | (simp only [Int.toNat_natCast]; omega))
  · refine ⟨_, .keep (congrArg AV.b ?_) rfl⟩
    have e : a.blocks = b.blocks := ext_getD (by omega) fun i hi => hv i (by omega)
    cases a; cases b; simp_all
def cfO (f : FnE) (b : Nat) : Os := [(1, bx f), (2, bx (Enc.d : FnE)), (3, .box none none [.s f.name, .orow 19 1 0 f.params.length, .i .i64 f.ret, .orow 73 1 0 b]), (19, oL f.params), (73, .row none 1 b fun i => Enc.enc (f.blocks.getD i Enc.d))]
theorem CopyFunc_S (f : FnE) (hs : siz f < 4294967296) : ASpec Try.prog 8 [eS f] (eS f) [] := by
  have h1 := blocks_le f
  have h2 := params_le f
  refine ASpec.enter TYok mixed Try.func8 rfl Try.call8 Try.ntmps8 rfl (rs := [.cell 2 34]) rfl (nodupB_ok rfl) (Clo.one rfl) (keep := [0, 1, 2, 3, 4, 5, 6, 7, 8, 9]) ?_; conv => whnf
  repeat' first | (refine And.intro (fun (hb : _ = true) => ?_) (fun (hb : _ = false) => ?_) <;> (try simp only [pickB_or, pickB_and] at hb) <;> (have hc := hb; try simp only [sB, Int.reduceToNat] at hc; try simp only [addZ0] at hc) <;> first | (exfalso; omega) | conv => whnf) | ((first | refine ⟨_, wr64 ti ti, ?_⟩ | refine And.intro si ?_ | refine LitW.frz ?_ | refine Drw.d (by decide +kernel) ?_ | refine Drw.f (by decide +kernel) ?_ | refine Drw0.d (by decide +kernel) ?_ | refine Drw0.f (by decide +kernel) ?_ | refine Drw.l (by decide +kernel) ?_ | refine And.intro tgi ?_ | refine ⟨_, shl1 (by omega), ?_⟩ | refine ⟨_, wru64 ti ti, ?_⟩ | refine ⟨_, fun _ => (IntKind.wrap_u64 _).symm, ?_⟩); conv => whnf) | exact ⟨_, .keep rfl rfl⟩ | fail
  refine lp [4] (fun b : Nat => [.i .i64 b]) (cfO f) (fun b => b ≤ f.blocks.length) (fun b => f.blocks.length - b) 0 (by omega) ?_ fun b hb0 => ?_
  · refine Ent.lp [] [73] rfl rfl rfl ?_ ?_ <;> repeat' first | exact trivial | rfl | exact fun _ _ => rfl | omega | refine And.intro ?_ ?_ | (show (_ : Int) = _; first | omega | (simp only [Int.toNat_natCast]; omega))
  conv => whnf
  have h3 := code_le f b
  repeat' first | (refine And.intro (fun (hb : _ = true) => ?_) (fun (hb : _ = false) => ?_) <;> (try simp only [pickB_or, pickB_and] at hb) <;> (have hc := hb; try simp only [sB, Int.reduceToNat] at hc; try simp only [addZ0] at hc) <;> first | (exfalso; omega) | conv => whnf) | ((first | refine ⟨_, wr64 ti ti, ?_⟩ | refine And.intro si ?_ | refine LitW.frz ?_ | refine Drw.d (by decide +kernel) ?_ | refine Drw.f (by decide +kernel) ?_ | refine Drw0.d (by decide +kernel) ?_ | refine Drw0.f (by decide +kernel) ?_ | refine Drw.l (by decide +kernel) ?_ | refine And.intro tgi ?_ | refine ⟨_, shl1 (by omega), ?_⟩ | refine ⟨_, wru64 ti ti, ?_⟩ | refine ⟨_, fun _ => (IntKind.wrap_u64 _).symm, ?_⟩); conv => whnf) | exact ⟨_, .keep rfl rfl⟩ | fail
  · refine lp [6, 5] (fun k : Nat => [.i .i64 k, .orow 5 7 0 k]) (fun k => (5, .row none 7 k fun i => Enc.enc ((f.blocks.getD b Enc.d).code.getD i Enc.d)) :: cfO f b) (fun k => k ≤ (f.blocks.getD b Enc.d).code.length) (fun k => (f.blocks.getD b Enc.d).code.length - k) 0 (by omega) ?_ fun k hk => ?_
    · refine Ent.lp [] [5] rfl rfl rfl ?_ ?_ <;> repeat' first | exact trivial | rfl | exact fun _ _ => rfl | omega | refine And.intro ?_ ?_ | (show (_ : Int) = _; first | omega | (simp only [Int.toNat_natCast]; omega))
    conv => whnf
    have h4 := ins_le f b k
    have h5 := args_le ((f.blocks.getD b Enc.d).code.getD k Enc.d)
    have h6 := to_le ((f.blocks.getD b Enc.d).code.getD k Enc.d)
    repeat' first | (refine And.intro (fun (hb : _ = true) => ?_) (fun (hb : _ = false) => ?_) <;> (try simp only [pickB_or, pickB_and] at hb) <;> (have hc := hb; try simp only [sB, Int.reduceToNat] at hc; try simp only [addZ0] at hc) <;> first | (exfalso; omega) | conv => whnf) | ((first | refine ⟨_, wr64 ti ti, ?_⟩ | refine And.intro si ?_ | refine LitW.frz ?_ | refine Drw.d (by decide +kernel) ?_ | refine Drw.f (by decide +kernel) ?_ | refine Drw0.d (by decide +kernel) ?_ | refine Drw0.f (by decide +kernel) ?_ | refine Drw.l (by decide +kernel) ?_ | refine And.intro tgi ?_ | refine ⟨_, shl1 (by omega), ?_⟩ | refine ⟨_, wru64 ti ti, ?_⟩ | refine ⟨_, fun _ => (IntKind.wrap_u64 _).symm, ?_⟩); conv => whnf) | exact ⟨_, .keep rfl rfl⟩ | fail
    · refine .mk (k + 1) (by omega) (by omega) ?_
      refine Ent.lp [(5, 63)] [] rfl rfl rfl ?_ ?_ <;> repeat' first | exact trivial | rfl | exact fun _ _ => rfl | omega | refine And.intro ?_ ?_ | (show (_ : Int) = _; first | omega | (simp only [Int.toNat_natCast]; omega))
      exact snoc_fun rfl
    · obtain rfl : k = (f.blocks.getD b Enc.d).code.length := by omega
      refine .mk (b + 1) (by omega) (by omega) ?_
      refine Ent.lp [(73, 69)] [] rfl rfl rfl ?_ ?_ <;> repeat' first | exact trivial | rfl | exact fun _ _ => rfl | omega | refine And.intro ?_ ?_ | (show (_ : Int) = _; first | omega | (simp only [Int.toNat_natCast]; omega))
      exact snoc_fun rfl
  · have e : b = f.blocks.length := by omega
    subst e
    exact ⟨_, .agg (.cons (.keep rfl rfl) (.cons (.freeze rfl (by omega) rfl (fun _ _ => rfl) rfl) (.cons (.keep rfl rfl) (.cons (.freeze rfl (by omega) rfl (fun _ _ => rfl) rfl) .nil (nodupB_ok rfl)) (nodupB_ok rfl)) (nodupB_ok rfl)) (nodupB_ok rfl))⟩
end Go.Proofs.Ytecknkgiaahheaa

/- Small ones of the layers 3, 9, 13. -/
namespace Go.Proofs.Ytecknkgiaahheaa
open Go.RowKit
set_option linter.unusedVariables false
set_option linter.unusedSimpArgs false
set_option maxRecDepth 100000
theorem Has_S (l : List Int) (x : Int) (hl : l.length < 9223372036854775807) : ASpec Try.prog 76 [eL l, .i .i64 x] (.b (l.contains x)) [] := by
  refine ASpec.enter TYok mixed Try.func76 rfl Try.call76 Try.ntmps76 rfl (rs := [.tmp 4]) rfl (nodupB_ok rfl) (Clo.one rfl) (keep := [0, 1, 4, 5]) ?_; conv => whnf
  refine lp [5] (fun q : Nat => [.i .i64 q]) (fun q => []) (fun q => q ≤ l.length ∧ l.contains x = (l.drop q).contains x) (fun q => l.length - q) 0 ⟨by omega, rfl⟩ ?_ fun q hq => ?_
  · refine Ent.lp [] [] rfl rfl rfl ?_ ?_ <;> repeat' first | exact trivial | rfl | exact fun _ _ => rfl | omega | refine And.intro ?_ ?_ | (show (_ : Int) = _; first | omega | (simp only [Int.toNat_natCast]; omega))
  conv => whnf
  obtain ⟨hq, hv⟩ := hq
  repeat' first | (refine And.intro (fun (hb : _ = true) => ?_) (fun (hb : _ = false) => ?_) <;> (try simp only [pickB_or, pickB_and] at hb) <;> (have hc := hb; try simp only [sB, Int.reduceToNat] at hc; try simp only [addZ0] at hc) <;> first | (exfalso; omega) | conv => whnf) | ((first | refine ⟨_, wr64 ti ti, ?_⟩ | refine And.intro si ?_ | refine LitW.frz ?_ | refine Drw.d (by decide +kernel) ?_ | refine Drw.f (by decide +kernel) ?_ | refine Drw0.d (by decide +kernel) ?_ | refine Drw0.f (by decide +kernel) ?_ | refine Drw.l (by decide +kernel) ?_ | refine And.intro tgi ?_ | refine ⟨_, shl1 (by omega), ?_⟩ | refine ⟨_, wru64 ti ti, ?_⟩ | refine ⟨_, fun _ => (IntKind.wrap_u64 _).symm, ?_⟩); conv => whnf) | exact ⟨_, .keep rfl rfl⟩ | fail
  · exact ⟨_, .keep (congrArg AV.b (by rw [hv, contains_drop x (by omega)]; simp at hc; simp [hc])) rfl⟩
  · refine .mk (q + 1) ⟨by omega, ?_⟩ (by omega) ?_
    · rw [hv, contains_drop x (by omega)]; simp at hc; simp [hc]
    · refine Ent.lp [] [] rfl rfl rfl ?_ ?_ <;> repeat' first | exact trivial | rfl | exact fun _ _ => rfl | omega | refine And.intro ?_ ?_ | (show (_ : Int) = _; first | omega | (simp only [Int.toNat_natCast]; omega))
  · exact ⟨_, .keep (congrArg AV.b (by rw [hv, List.drop_eq_nil_of_le (by omega)]; rfl)) rfl⟩
def Count (t : Int) : Int := if t = 65 then 8 else if t < 1 ∨ 64 < t then 0 else (t + 7) / 8
theorem Count_S (t : Int) : ASpec Try.prog 73 [.i .i64 t] (.i .i64 (Count t)) [] := by
  refine ASpec.enter TYok mixed Try.func73 rfl Try.call73 Try.ntmps73 rfl (rs := [.tmp 2]) rfl (nodupB_ok rfl) (Clo.one rfl) (keep := [0, 2, 3]) ?_; conv => whnf
  repeat' first | (refine And.intro (fun (hb : _ = true) => ?_) (fun (hb : _ = false) => ?_) <;> (try simp only [pickB_or, pickB_and] at hb) <;> (have hc := hb; try simp only [sB, Int.reduceToNat] at hc; try simp only [addZ0] at hc) <;> first | (exfalso; omega) | conv => whnf) | ((first | refine ⟨_, wr64 ti ti, ?_⟩ | refine And.intro si ?_ | refine LitW.frz ?_ | refine Drw.d (by decide +kernel) ?_ | refine Drw.f (by decide +kernel) ?_ | refine Drw0.d (by decide +kernel) ?_ | refine Drw0.f (by decide +kernel) ?_ | refine Drw.l (by decide +kernel) ?_ | refine And.intro tgi ?_ | refine ⟨_, shl1 (by omega), ?_⟩ | refine ⟨_, wru64 ti ti, ?_⟩ | refine ⟨_, fun _ => (IntKind.wrap_u64 _).symm, ?_⟩); conv => whnf) | exact ⟨_, .keep rfl rfl⟩ | fail
  · exact ⟨_, .keep (by (try simp only [pickB_or, pickB_and]); unfold Count; repeat' (first | rfl | omega | split | (simp_all; done))) rfl⟩
  · exact ⟨_, .keep (by (try simp only [pickB_or, pickB_and]); unfold Count; repeat' (first | rfl | omega | split | (simp_all; done))) rfl⟩
  refine lp [3] (fun q : Nat => [.i .i64 (q + 1)]) (fun q => []) (fun q => 8 * (q : Int) < t) (fun q => 64 - q) 0 (by omega) ?_ fun q hq => ?_
  · refine Ent.lp [] [] rfl rfl rfl ?_ ?_ <;> repeat' first | exact trivial | rfl | exact fun _ _ => rfl | omega | refine And.intro ?_ ?_ | (show (_ : Int) = _; first | omega | (simp only [Int.toNat_natCast]; omega))
  conv => whnf
  repeat' first | (refine And.intro (fun (hb : _ = true) => ?_) (fun (hb : _ = false) => ?_) <;> (try simp only [pickB_or, pickB_and] at hb) <;> (have hc := hb; try simp only [sB, Int.reduceToNat] at hc; try simp only [addZ0] at hc) <;> first | (exfalso; omega) | conv => whnf) | ((first | refine ⟨_, wr64 ti ti, ?_⟩ | refine And.intro si ?_ | refine LitW.frz ?_ | refine Drw.d (by decide +kernel) ?_ | refine Drw.f (by decide +kernel) ?_ | refine Drw0.d (by decide +kernel) ?_ | refine Drw0.f (by decide +kernel) ?_ | refine Drw.l (by decide +kernel) ?_ | refine And.intro tgi ?_ | refine ⟨_, shl1 (by omega), ?_⟩ | refine ⟨_, wru64 ti ti, ?_⟩ | refine ⟨_, fun _ => (IntKind.wrap_u64 _).symm, ?_⟩); conv => whnf) | exact ⟨_, .keep rfl rfl⟩ | fail
  · refine .mk (q + 1) (by omega) (by omega) ?_
    refine Ent.lp [] [] rfl rfl rfl ?_ ?_ <;> repeat' first | exact trivial | rfl | exact fun _ _ => rfl | omega | refine And.intro ?_ ?_ | (show (_ : Int) = _; first | omega | (simp only [Int.toNat_natCast]; omega))
  · exact ⟨_, .keep (congrArg (AV.i _) (by rw [Count, if_neg (by omega), if_neg (by omega)]; omega)) rfl⟩
def kindB (s : ByteArray) (i : Int) : Int := if (s.size : Int) ≤ i then 0 else if (97 ≤ byteAt s i ∧ byteAt s i ≤ 122) ∨ byteAt s i = 95 then 1 else if 48 ≤ byteAt s i ∧ byteAt s i ≤ 57 then 2 else 0
theorem kind_S (s : ByteArray) (i : Int) (hi : 0 ≤ i) : ASpec Try.prog 91 [.s s, .i .i64 i] (.i .i64 (kindB s i)) [] := by
  refine ASpec.enter TYok mixed Try.func91 rfl Try.call91 Try.ntmps91 rfl (rs := [.tmp 4]) rfl (nodupB_ok rfl) (Clo.one rfl) (keep := [0, 1, 4, 5]) ?_; conv => whnf
  repeat' first | (refine And.intro (fun (hb : _ = true) => ?_) (fun (hb : _ = false) => ?_) <;> (try simp only [pickB_or, pickB_and] at hb) <;> (have hc := hb; try simp only [sB, Int.reduceToNat] at hc; try simp only [addZ0] at hc) <;> first | (exfalso; omega) | conv => whnf) | ((first | refine ⟨_, wr64 ti ti, ?_⟩ | refine And.intro si ?_ | refine LitW.frz ?_ | refine Drw.d (by decide +kernel) ?_ | refine Drw.f (by decide +kernel) ?_ | refine Drw0.d (by decide +kernel) ?_ | refine Drw0.f (by decide +kernel) ?_ | refine Drw.l (by decide +kernel) ?_ | refine And.intro tgi ?_ | refine ⟨_, shl1 (by omega), ?_⟩ | refine ⟨_, wru64 ti ti, ?_⟩ | refine ⟨_, fun _ => (IntKind.wrap_u64 _).symm, ?_⟩); conv => whnf) | exact ⟨_, .keep rfl rfl⟩ | fail
  all_goals exact ⟨_, .keep (by (try simp only [pickB_or, pickB_and]); unfold kindB; repeat' (first | rfl | omega | split | (simp_all; done))) rfl⟩
/-- How many in a row. -/
def runN (p : Nat → Bool) : Nat → Nat → Nat
  | 0, _ => 0
  | f + 1, j => bif p j then runN p f (j + 1) + 1 else 0
theorem runN_eq {p : Nat → Bool} : ∀ {q f a : Nat}, q ≤ f → (∀ j, j < q → p (a + j) = true) → p (a + q) = false → runN p f a = q
  | 0, 0, a, _, _, _ => rfl
  | 0, f + 1, a, _, _, h => by rw [runN, show p a = false from h]; rfl
  | q + 1, f + 1, a, hf, hj, h => by
    rw [runN, show p a = true from hj 0 (by omega), cond_true, runN_eq (q := q) (by omega) (fun j h' => by rw [show a + 1 + j = a + (j + 1) by omega]; exact hj _ (by omega)) (by rw [show a + 1 + q = a + (q + 1) by omega]; exact h)]
def kp (s : ByteArray) (j : Nat) : Bool := !decide (kindB s j = 0)
def wordN (s : ByteArray) (i : Nat) : Nat := if kindB s i = 1 then runN (kp s) s.size (i + 1) + 1 else 0
theorem kind_lt {s : ByteArray} {i : Int} (h : kindB s i ≠ 0) : i < s.size := by
  unfold kindB at h; split at h
  · exact absurd rfl h
  · omega
theorem word_S (s : ByteArray) (i : Nat) (hi : i ≤ s.size) (hs : s.size < 4294967296) : ASpec Try.prog 84 [.s s, .i .i64 i] (.i .i64 (wordN s i)) [] := by
  refine ASpec.enter TYok mixed Try.func84 rfl Try.call84 Try.ntmps84 rfl (rs := [.tmp 4]) rfl (nodupB_ok rfl) (Clo.one rfl) (keep := [0, 1, 4, 5]) ?_; conv => whnf
  repeat' first | (refine And.intro (fun (hb : _ = true) => ?_) (fun (hb : _ = false) => ?_) <;> (try simp only [pickB_or, pickB_and] at hb) <;> (have hc := hb; try simp only [sB, Int.reduceToNat] at hc; try simp only [addZ0] at hc) <;> first | (exfalso; omega) | conv => whnf) | ((first | refine ⟨_, wr64 ti ti, ?_⟩ | refine And.intro si ?_ | refine LitW.frz ?_ | refine Drw.d (by decide +kernel) ?_ | refine Drw.f (by decide +kernel) ?_ | refine Drw0.d (by decide +kernel) ?_ | refine Drw0.f (by decide +kernel) ?_ | refine Drw.l (by decide +kernel) ?_ | refine And.intro tgi ?_ | refine ⟨_, shl1 (by omega), ?_⟩ | refine ⟨_, wru64 ti ti, ?_⟩ | refine ⟨_, fun _ => (IntKind.wrap_u64 _).symm, ?_⟩); conv => whnf) | ((first | refine CallK.mk _ _ (fun _ => kind_S _ _ (by omega)) ?_ | ((try (refine CallW.lent ?_; (conv => whnf); try (refine And.intro (by omega) ?_; (conv => whnf)))); refine CallL.mk _ _ (fun _ => kind_S _ _ (by omega)) rfl (fun _ _ h => nomatch h) ?_)); conv => whnf) | exact ⟨_, .keep rfl rfl⟩ | fail
  · exact ⟨_, .keep (by (try simp only [pickB_or, pickB_and]); unfold wordN; repeat' (first | rfl | omega | split | (simp_all; done))) rfl⟩
  have h0 := kind_lt (s := s) (i := i) (by omega)
  refine lp [5] (fun q : Nat => [.i .i64 (q + 1)]) (fun q => []) (fun q => i + 1 + q ≤ s.size ∧ ∀ j, j < q → kp s (i + 1 + j) = true) (fun q => s.size - q) 0 ⟨by omega, fun j h => by omega⟩ ?_ fun q hq => ?_
  · refine Ent.lp [] [] rfl rfl rfl ?_ ?_ <;> repeat' first | exact trivial | rfl | exact fun _ _ => rfl | omega | refine And.intro ?_ ?_ | (show (_ : Int) = _; first | omega | (simp only [Int.toNat_natCast]; omega))
  conv => whnf
  obtain ⟨hq, hv⟩ := hq
  repeat' first | (refine And.intro (fun (hb : _ = true) => ?_) (fun (hb : _ = false) => ?_) <;> (try simp only [pickB_or, pickB_and] at hb) <;> (have hc := hb; try simp only [sB, Int.reduceToNat] at hc; try simp only [addZ0] at hc) <;> first | (exfalso; omega) | conv => whnf) | ((first | refine ⟨_, wr64 ti ti, ?_⟩ | refine And.intro si ?_ | refine LitW.frz ?_ | refine Drw.d (by decide +kernel) ?_ | refine Drw.f (by decide +kernel) ?_ | refine Drw0.d (by decide +kernel) ?_ | refine Drw0.f (by decide +kernel) ?_ | refine Drw.l (by decide +kernel) ?_ | refine And.intro tgi ?_ | refine ⟨_, shl1 (by omega), ?_⟩ | refine ⟨_, wru64 ti ti, ?_⟩ | refine ⟨_, fun _ => (IntKind.wrap_u64 _).symm, ?_⟩); conv => whnf) | ((first | refine CallK.mk _ _ (fun _ => kind_S _ _ (by omega)) ?_ | ((try (refine CallW.lent ?_; (conv => whnf); try (refine And.intro (by omega) ?_; (conv => whnf)))); refine CallL.mk _ _ (fun _ => kind_S _ _ (by omega)) rfl (fun _ _ h => nomatch h) ?_)); conv => whnf) | exact ⟨_, .keep rfl rfl⟩ | fail
  · have h1 := kind_lt hc
    refine .mk (q + 1) ⟨by omega, all_step hv ?_⟩ (by omega) ?_
    · have e : ((i + 1 + q : Nat) : Int) = i + (q + 1) := by omega
      unfold kp; rw [e]; exact hb
    · refine Ent.lp [] [] rfl rfl rfl ?_ ?_ <;> repeat' first | exact trivial | rfl | exact fun _ _ => rfl | omega | refine And.intro ?_ ?_ | (show (_ : Int) = _; first | omega | (simp only [Int.toNat_natCast]; omega))
  · have e : ((i + 1 + q : Nat) : Int) = i + (q + 1) := by omega
    refine ⟨_, .keep (congrArg (AV.i _) ?_) rfl⟩
    rw [wordN, if_pos (by omega), runN_eq (q := q) (by omega) hv (by unfold kp; rw [e]; exact hb)]; rfl
def Word (s : ByteArray) : Bool := decide (0 < (s.size : Int)) && decide ((wordN s 0 : Int) = s.size)
theorem Word_S (s : ByteArray) (hs : s.size < 4294967296) : ASpec Try.prog 54 [.s s] (.b (Word s)) [] := by
  refine ASpec.enter TYok mixed Try.func54 rfl Try.call54 Try.ntmps54 rfl (rs := [.tmp 2]) rfl (nodupB_ok rfl) (Clo.one rfl) (keep := [0, 2]) ?_; conv => whnf
  repeat' first | (refine And.intro (fun (hb : _ = true) => ?_) (fun (hb : _ = false) => ?_) <;> (try simp only [pickB_or, pickB_and] at hb) <;> (have hc := hb; try simp only [sB, Int.reduceToNat] at hc; try simp only [addZ0] at hc) <;> first | (exfalso; omega) | conv => whnf) | ((first | refine ⟨_, wr64 ti ti, ?_⟩ | refine And.intro si ?_ | refine LitW.frz ?_ | refine Drw.d (by decide +kernel) ?_ | refine Drw.f (by decide +kernel) ?_ | refine Drw0.d (by decide +kernel) ?_ | refine Drw0.f (by decide +kernel) ?_ | refine Drw.l (by decide +kernel) ?_ | refine And.intro tgi ?_ | refine ⟨_, shl1 (by omega), ?_⟩ | refine ⟨_, wru64 ti ti, ?_⟩ | refine ⟨_, fun _ => (IntKind.wrap_u64 _).symm, ?_⟩); conv => whnf) | ((first | refine CallK.mk _ _ (fun _ => word_S _ 0 (by omega) hs) ?_ | ((try (refine CallW.lent ?_; (conv => whnf); try (refine And.intro (by omega) ?_; (conv => whnf)))); refine CallL.mk _ _ (fun _ => word_S _ 0 (by omega) hs) rfl (fun _ _ h => nomatch h) ?_)); conv => whnf) | exact ⟨_, .keep rfl rfl⟩ | fail
end Go.Proofs.Ytecknkgiaahheaa

/- Layer 18; the program's own small ones. -/
namespace Go.Proofs.Ytecknkgiaahheaa
open Go.RowKit
set_option linter.unusedVariables false
set_option linter.unusedSimpArgs false
set_option maxRecDepth 100000
theorem irEnds_S (op : Int) : ASpec Try.prog 32 [.i .i64 op] (.b (Ends op)) [] := by
  have e : Ends op = (decide (31 ≤ op) && decide (op ≤ 34)) := by
    unfold Ends; rw [Bool.eq_iff_iff]; simp only [Bool.or_eq_true, Bool.and_eq_true, decide_eq_true_eq]; omega
  rw [e]
  refine ASpec.enter TYok mixed Try.func32 rfl Try.call32 Try.ntmps32 rfl (rs := [.tmp 2]) rfl (nodupB_ok rfl) (Clo.one rfl) (keep := [0, 2]) ?_; conv => whnf
  repeat' first | (refine And.intro (fun (hb : _ = true) => ?_) (fun (hb : _ = false) => ?_) <;> (try simp only [pickB_or, pickB_and] at hb) <;> (have hc := hb; try simp only [sB, Int.reduceToNat] at hc; try simp only [addZ0] at hc) <;> first | (exfalso; omega) | conv => whnf) | ((first | refine ⟨_, wr64 ti ti, ?_⟩ | refine And.intro si ?_ | refine LitW.frz ?_ | refine Drw.d (by decide +kernel) ?_ | refine Drw.f (by decide +kernel) ?_ | refine Drw0.d (by decide +kernel) ?_ | refine Drw0.f (by decide +kernel) ?_ | refine Drw.l (by decide +kernel) ?_ | refine And.intro tgi ?_ | refine ⟨_, shl1 (by omega), ?_⟩ | refine ⟨_, wru64 ti ti, ?_⟩ | refine ⟨_, fun _ => (IntKind.wrap_u64 _).symm, ?_⟩); conv => whnf) | exact ⟨_, .keep rfl rfl⟩ | fail
theorem irResult_S (x : InsE) : ASpec Try.prog 70 [eS x] (.i .i64 (Result x)) [] := by
  refine ASpec.enter TYok mixed Try.func70 rfl Try.call70 Try.ntmps70 rfl (rs := [.tmp 2]) rfl (nodupB_ok rfl) (Clo.one rfl) (keep := [0, 1, 2, 3]) ?_; conv => whnf
  repeat' first | (refine And.intro (fun (hb : _ = true) => ?_) (fun (hb : _ = false) => ?_) <;> (try simp only [pickB_or, pickB_and] at hb) <;> (have hc := hb; try simp only [sB, Int.reduceToNat] at hc; try simp only [addZ0] at hc) <;> first | (exfalso; omega) | conv => whnf) | ((first | refine ⟨_, wr64 ti ti, ?_⟩ | refine And.intro si ?_ | refine LitW.frz ?_ | refine Drw.d (by decide +kernel) ?_ | refine Drw.f (by decide +kernel) ?_ | refine Drw0.d (by decide +kernel) ?_ | refine Drw0.f (by decide +kernel) ?_ | refine Drw.l (by decide +kernel) ?_ | refine And.intro tgi ?_ | refine ⟨_, shl1 (by omega), ?_⟩ | refine ⟨_, wru64 ti ti, ?_⟩ | refine ⟨_, fun _ => (IntKind.wrap_u64 _).symm, ?_⟩); conv => whnf) | exact ⟨_, .keep rfl rfl⟩ | fail
  all_goals exact ⟨_, .keep (by (try simp only [pickB_or, pickB_and]); unfold Result; repeat' (first | rfl | omega | split | (simp_all; done))) rfl⟩
def quiet (op k : Int) : Bool := if op = 27 ∨ op = 14 ∨ op = 15 then true else if op = 28 then decide (k = 1) else if op = 29 then decide (k = 0) else false
theorem quiet_S (op k : Int) : ASpec Try.prog 78 [.i .i64 op, .i .i64 k] (.b (quiet op k)) [] := by
  refine ASpec.enter TYok mixed Try.func78 rfl Try.call78 Try.ntmps78 rfl (rs := [.tmp 4]) rfl (nodupB_ok rfl) (Clo.one rfl) (keep := [0, 1, 4, 5]) ?_; conv => whnf
  repeat' first | (refine And.intro (fun (hb : _ = true) => ?_) (fun (hb : _ = false) => ?_) <;> (try simp only [pickB_or, pickB_and] at hb) <;> (have hc := hb; try simp only [sB, Int.reduceToNat] at hc; try simp only [addZ0] at hc) <;> first | (exfalso; omega) | conv => whnf) | ((first | refine ⟨_, wr64 ti ti, ?_⟩ | refine And.intro si ?_ | refine LitW.frz ?_ | refine Drw.d (by decide +kernel) ?_ | refine Drw.f (by decide +kernel) ?_ | refine Drw0.d (by decide +kernel) ?_ | refine Drw0.f (by decide +kernel) ?_ | refine Drw.l (by decide +kernel) ?_ | refine And.intro tgi ?_ | refine ⟨_, shl1 (by omega), ?_⟩ | refine ⟨_, wru64 ti ti, ?_⟩ | refine ⟨_, fun _ => (IntKind.wrap_u64 _).symm, ?_⟩); conv => whnf) | exact ⟨_, .keep rfl rfl⟩ | fail
  all_goals exact ⟨_, .keep (by (try simp only [pickB_or, pickB_and]); unfold quiet; repeat' (first | rfl | omega | split | (simp_all; done))) rfl⟩
theorem mem_Code {f : FnE} {x : InsE × Plc} (h : x ∈ Code f) : ∃ b i : Nat, b < f.blocks.length ∧ i < (f.blocks.getD b Enc.d).code.length ∧ x = ((f.blocks.getD b Enc.d).code.getD i Enc.d, ⟨0, b, i⟩) := by
  simp only [Code, codeTo, pairs, List.range_zero, List.map_nil, List.append_nil, List.mem_flatMap, List.mem_map, List.mem_range] at h
  obtain ⟨b, hb, i, hi, rfl⟩ := h
  exact ⟨b, i, hb, hi, rfl⟩
theorem Def_mem {f : FnE} {reg : Int} (h : (Def f reg).2 = true) : ∃ b i : Nat, b < f.blocks.length ∧ i < (f.blocks.getD b Enc.d).code.length ∧ (Def f reg).1 = ⟨0, b, i⟩ := by
  unfold Def at h ⊢
  cases hq : (Code f).find? (dfP reg) with
  | none => rw [hq] at h; cases h
  | some p =>
    obtain ⟨b, i, hb, hi, rfl⟩ := mem_Code (List.mem_of_find?_eq_some hq)
    exact ⟨b, i, hb, hi, rfl⟩
def Maker (f : FnE) (v : Opd) : InsE × Int := if v.k = 1 ∧ (Def f v.n).2 = true then ((f.blocks.getD (Def f v.n).1.b.toNat Enc.d).code.getD (Def f v.n).1.i.toNat Enc.d, (Def f v.n).1.b) else (Enc.d, -1)
end Go.Proofs.Ytecknkgiaahheaa

/- Layer 8: what a right module is. -/
namespace Go.Proofs.Ytecknkgiaahheaa
open Go.RowKit
set_option linter.unusedVariables false
set_option linter.unusedSimpArgs false
set_option maxRecDepth 100000
structure FaultE where
  code : Int
  at' : Plc
  deriving DecidableEq
instance : Enc FaultE := ⟨fun x => [.i .i64 x.code, .i .i64 x.at'.f, .i .i64 x.at'.b, .i .i64 x.at'.i], 4, ⟨0, ⟨0, 0, 0⟩⟩⟩
theorem at_S (c f b i : Int) : ASpec Try.prog 53 [.i .i64 c, .i .i64 f, .i .i64 b, .i .i64 i] (eS (⟨c, ⟨f, b, i⟩⟩ : FaultE)) [] := by
  refine ASpec.enter TYok mixed Try.func53 rfl Try.call53 Try.ntmps53 rfl (rs := [.cell 8 60]) rfl (nodupB_ok rfl) (Clo.one rfl) (keep := [0, 1, 2, 3, 8]) ?_; conv => whnf
  repeat' first | (refine And.intro (fun (hb : _ = true) => ?_) (fun (hb : _ = false) => ?_) <;> (try simp only [pickB_or, pickB_and] at hb) <;> (have hc := hb; try simp only [sB, Int.reduceToNat] at hc; try simp only [addZ0] at hc) <;> first | (exfalso; omega) | conv => whnf) | ((first | refine ⟨_, wr64 ti ti, ?_⟩ | refine And.intro si ?_ | refine LitW.frz ?_ | refine Drw.d (by decide +kernel) ?_ | refine Drw.f (by decide +kernel) ?_ | refine Drw0.d (by decide +kernel) ?_ | refine Drw0.f (by decide +kernel) ?_ | refine Drw.l (by decide +kernel) ?_ | refine And.intro tgi ?_ | refine ⟨_, shl1 (by omega), ?_⟩ | refine ⟨_, wru64 ti ti, ?_⟩ | refine ⟨_, fun _ => (IntKind.wrap_u64 _).symm, ?_⟩); conv => whnf) | exact ⟨_, .keep rfl rfl⟩ | fail
theorem any_at {α : Type} {p : α → Bool} {l : List α} {q : Nat} (d : α) (hq : q < l.length) (h : p (l.getD q d) = true) : l.any p = true := by
  rw [List.getD_eq_getElem?_getD, List.getElem?_eq_getElem hq] at h
  exact List.any_eq_true.2 ⟨_, List.getElem_mem hq, h⟩
theorem any_no {α : Type} {p : α → Bool} {l : List α} (d : α) (h : ∀ i, i < l.length → p (l.getD i d) = false) : l.any p = false := by
  rw [← Bool.not_eq_true, List.any_eq_true]
  rintro ⟨x, hx, hp⟩
  obtain ⟨i, hi, rfl⟩ := List.getElem_of_mem hx
  have := h i hi
  rw [List.getD_eq_getElem?_getD, List.getElem?_eq_getElem hi] at this
  rw [show p l[i] = false from this] at hp; cases hp
def badP (most p : Int) : Bool := decide (p < 1) || decide (most < p)
def headF (name : ByteArray) (known : List ByteArray) (params : List Int) (ret most : Int) : Int :=
  if Word name = false then 4 else if (known.any fun k => decide (k = name)) = true then 5 else if 8 < params.length then 6 else if params.any (badP most) = true then 7 else if ret < 0 ∨ most < ret then 7 else 0
theorem head_S (name : ByteArray) (known : List ByteArray) (params : List Int) (ret most : Int) (h1 : name.size < 4294967296) (h2 : known.length < 4294967296) : ASpec Try.prog 55 [.s name, eL known, eL params, .i .i64 ret, .i .i64 most] (.i .i64 (headF name known params ret most)) [] := by
  refine ASpec.enter TYok mixed Try.func55 rfl Try.call55 Try.ntmps55 rfl (rs := [.tmp 10]) rfl (nodupB_ok rfl) (Clo.one rfl) (keep := [0, 1, 2, 3, 4, 10, 11, 12, 13]) ?_; conv => whnf
  repeat' first | (refine And.intro (fun (hb : _ = true) => ?_) (fun (hb : _ = false) => ?_) <;> (try simp only [pickB_or, pickB_and] at hb) <;> (have hc := hb; try simp only [sB, Int.reduceToNat] at hc; try simp only [addZ0] at hc) <;> first | (exfalso; omega) | conv => whnf) | ((first | refine ⟨_, wr64 ti ti, ?_⟩ | refine And.intro si ?_ | refine LitW.frz ?_ | refine Drw.d (by decide +kernel) ?_ | refine Drw.f (by decide +kernel) ?_ | refine Drw0.d (by decide +kernel) ?_ | refine Drw0.f (by decide +kernel) ?_ | refine Drw.l (by decide +kernel) ?_ | refine And.intro tgi ?_ | refine ⟨_, shl1 (by omega), ?_⟩ | refine ⟨_, wru64 ti ti, ?_⟩ | refine ⟨_, fun _ => (IntKind.wrap_u64 _).symm, ?_⟩); conv => whnf) | ((first | refine CallK.mk _ _ (fun _ => Word_S _ h1) ?_ | ((try (refine CallW.lent ?_; (conv => whnf); try (refine And.intro (by omega) ?_; (conv => whnf)))); refine CallL.mk _ _ (fun _ => Word_S _ h1) rfl (fun _ _ h => nomatch h) ?_)); conv => whnf) | exact ⟨_, .keep rfl rfl⟩ | fail
  · exact ⟨_, .keep (by (try simp only [pickB_or, pickB_and]); unfold headF; repeat' (first | rfl | omega | split | (simp_all; done))) rfl⟩
  have e1 := hc
  refine lp [12] (fun q : Nat => [.i .i64 q]) (fun q => []) (fun q => q ≤ known.length ∧ ∀ i, i < q → decide (known.getD i Enc.d = name) = false) (fun q => known.length - q) 0 ⟨by omega, fun i h => by omega⟩ ?_ fun q hq => ?_
  · refine Ent.lp [] [] rfl rfl rfl ?_ ?_ <;> repeat' first | exact trivial | rfl | exact fun _ _ => rfl | omega | refine And.intro ?_ ?_ | (show (_ : Int) = _; first | omega | (simp only [Int.toNat_natCast]; omega))
  conv => whnf
  obtain ⟨hq, hv⟩ := hq
  repeat' first | (refine And.intro (fun (hb : _ = true) => ?_) (fun (hb : _ = false) => ?_) <;> (try simp only [pickB_or, pickB_and] at hb) <;> (have hc := hb; try simp only [sB, Int.reduceToNat] at hc; try simp only [addZ0] at hc) <;> first | (exfalso; omega) | conv => whnf) | ((first | refine ⟨_, wr64 ti ti, ?_⟩ | refine And.intro si ?_ | refine LitW.frz ?_ | refine Drw.d (by decide +kernel) ?_ | refine Drw.f (by decide +kernel) ?_ | refine Drw0.d (by decide +kernel) ?_ | refine Drw0.f (by decide +kernel) ?_ | refine Drw.l (by decide +kernel) ?_ | refine And.intro tgi ?_ | refine ⟨_, shl1 (by omega), ?_⟩ | refine ⟨_, wru64 ti ti, ?_⟩ | refine ⟨_, fun _ => (IntKind.wrap_u64 _).symm, ?_⟩); conv => whnf) | exact ⟨_, .keep rfl rfl⟩ | fail
  · have e2 : (known.any fun k => decide (k = name)) = true := any_at Enc.d (by omega) hb
    exact ⟨_, .keep (by rw [headF, if_neg (by rw [e1]; simp), if_pos e2]) rfl⟩
  · refine .mk (q + 1) ⟨by omega, all_step hv hb⟩ (by omega) ?_
    refine Ent.lp [] [] rfl rfl rfl ?_ ?_ <;> repeat' first | exact trivial | rfl | exact fun _ _ => rfl | omega | refine And.intro ?_ ?_ | (show (_ : Int) = _; first | omega | (simp only [Int.toNat_natCast]; omega))
  · have e2 : (known.any fun k => decide (k = name)) = false := any_no Enc.d fun i hi => hv i (by omega)
    exact ⟨_, .keep (by rw [headF, if_neg (by rw [e1]; simp), if_neg (by rw [e2]; simp), if_pos (by omega)]) rfl⟩
  have e2 : (known.any fun k => decide (k = name)) = false := any_no Enc.d fun i hi => hv i (by omega)
  have e3 : ¬ 8 < params.length := by omega
  refine lp [13] (fun q : Nat => [.i .i64 q]) (fun q => []) (fun q => q ≤ params.length ∧ ∀ i, i < q → badP most (params.getD i Enc.d) = false) (fun q => params.length - q) 0 ⟨by omega, fun i h => by omega⟩ ?_ fun k hk => ?_
  · refine Ent.lp [] [] rfl rfl rfl ?_ ?_ <;> repeat' first | exact trivial | rfl | exact fun _ _ => rfl | omega | refine And.intro ?_ ?_ | (show (_ : Int) = _; first | omega | (simp only [Int.toNat_natCast]; omega))
  conv => whnf
  obtain ⟨hk, hw⟩ := hk
  repeat' first | (refine And.intro (fun (hb : _ = true) => ?_) (fun (hb : _ = false) => ?_) <;> (try simp only [pickB_or, pickB_and] at hb) <;> (have hc := hb; try simp only [sB, Int.reduceToNat] at hc; try simp only [addZ0] at hc) <;> first | (exfalso; omega) | conv => whnf) | ((first | refine ⟨_, wr64 ti ti, ?_⟩ | refine And.intro si ?_ | refine LitW.frz ?_ | refine Drw.d (by decide +kernel) ?_ | refine Drw.f (by decide +kernel) ?_ | refine Drw0.d (by decide +kernel) ?_ | refine Drw0.f (by decide +kernel) ?_ | refine Drw.l (by decide +kernel) ?_ | refine And.intro tgi ?_ | refine ⟨_, shl1 (by omega), ?_⟩ | refine ⟨_, wru64 ti ti, ?_⟩ | refine ⟨_, fun _ => (IntKind.wrap_u64 _).symm, ?_⟩); conv => whnf) | exact ⟨_, .keep rfl rfl⟩ | fail
  · have e4 : params.any (badP most) = true := any_at Enc.d (by omega) hb
    exact ⟨_, .keep (by rw [headF, if_neg (by rw [e1]; simp), if_neg (by rw [e2]; simp), if_neg e3, if_pos e4]) rfl⟩
  · refine .mk (k + 1) ⟨by omega, all_step hw hb⟩ (by omega) ?_
    refine Ent.lp [] [] rfl rfl rfl ?_ ?_ <;> repeat' first | exact trivial | rfl | exact fun _ _ => rfl | omega | refine And.intro ?_ ?_ | (show (_ : Int) = _; first | omega | (simp only [Int.toNat_natCast]; omega))
  all_goals have e4 : params.any (badP most) = false := any_no Enc.d fun i hi => hw i (by omega)
  · exact ⟨_, .keep (by rw [headF, if_neg (by rw [e1]; simp), if_neg (by rw [e2]; simp), if_neg e3, if_neg (by rw [e4]; simp), if_pos (by omega)]) rfl⟩
  · exact ⟨_, .keep (by rw [headF, if_neg (by rw [e1]; simp), if_neg (by rw [e2]; simp), if_neg e3, if_neg (by rw [e4]; simp), if_neg (by omega)]) rfl⟩
end Go.Proofs.Ytecknkgiaahheaa

/- Layer 8: the heads of what a module holds. -/
namespace Go.Proofs.Ytecknkgiaahheaa
open Go.RowKit
set_option linter.unusedVariables false
set_option linter.unusedSimpArgs false
set_option maxRecDepth 100000
def firstC (c : Nat → Int) (n : Nat) : Option Nat := (List.range n).find? fun i => !decide (c i = 0)
theorem range_getD {n i : Nat} (h : i < n) : (List.range n).getD i 0 = i := by
  rw [List.getD_eq_getElem?_getD, List.getElem?_range h]; rfl
theorem firstC_at {c : Nat → Int} {n q : Nat} (hq : q < n) (hv : ∀ i, i < q → c i = 0) (h : c q ≠ 0) : firstC c n = some q := by
  unfold firstC
  rw [find_take 0 (q := q) (by simpa using hq) (fun i hi => by rw [range_getD (by omega), hv i hi]; rfl) (by rw [range_getD hq]; simp [h]), range_getD hq]
theorem firstC_no {c : Nat → Int} {n : Nat} (hv : ∀ i, i < n → c i = 0) : firstC c n = none := by
  unfold firstC
  exact find_no 0 fun i hi => by rw [List.length_range] at hi; rw [range_getD hi, hv i hi]; rfl
def varCode (m : ModE) (i : Nat) : Int :=
  let x := m.vars.getD i Enc.d
  if Word x.name = false then 4 else if ((m.vars.take i).any fun y => decide (y.name = x.name)) = true then 5 else if x.size < 1 ∨ 64 < x.size then 6 else 0
def extCode (m : ModE) (i : Nat) : Int :=
  let x := m.exts.getD i Enc.d
  headF x.name ((m.exts.take i).map (·.name)) x.params x.ret 64
def fnCode (m : ModE) (i : Nat) : Int :=
  let x := m.funcs.getD i Enc.d
  headF x.name (m.exts.map (·.name) ++ (m.funcs.take i).map (·.name)) x.params x.ret 65
def headsF (m : ModE) : FaultE :=
  if 8 < m.vars.length ∨ 8 < m.exts.length ∨ 8 < m.funcs.length then ⟨6, ⟨-1, 0, 0⟩⟩ else
  match firstC (varCode m) m.vars.length with
  | some i => ⟨varCode m i, ⟨-1, 0, 0⟩⟩
  | none => match firstC (extCode m) m.exts.length with
    | some i => ⟨extCode m i, ⟨-1, 0, 0⟩⟩
    | none => match firstC (fnCode m) m.funcs.length with
      | some i => ⟨fnCode m i, ⟨i, 0, 0⟩⟩
      | none => ⟨0, ⟨0, 0, 0⟩⟩
theorem headsF_var {m : ModE} {q : Nat} (k1 : ¬(8 < m.vars.length ∨ 8 < m.exts.length ∨ 8 < m.funcs.length)) (hq : q < m.vars.length) (hv : ∀ i, i < q → varCode m i = 0) (h : varCode m q ≠ 0) : headsF m = ⟨varCode m q, ⟨-1, 0, 0⟩⟩ := by
  rw [headsF, if_neg k1, firstC_at hq hv h]
theorem headsF_ext {m : ModE} {q : Nat} (k1 : ¬(8 < m.vars.length ∨ 8 < m.exts.length ∨ 8 < m.funcs.length)) (k2 : firstC (varCode m) m.vars.length = none) (hq : q < m.exts.length) (hv : ∀ i, i < q → extCode m i = 0) (h : extCode m q ≠ 0) : headsF m = ⟨extCode m q, ⟨-1, 0, 0⟩⟩ := by
  rw [headsF, if_neg k1, k2, firstC_at hq hv h]
theorem headsF_fn {m : ModE} {q : Nat} (k1 : ¬(8 < m.vars.length ∨ 8 < m.exts.length ∨ 8 < m.funcs.length)) (k2 : firstC (varCode m) m.vars.length = none) (k3 : firstC (extCode m) m.exts.length = none) (hq : q < m.funcs.length) (hv : ∀ i, i < q → fnCode m i = 0) (h : fnCode m q ≠ 0) : headsF m = ⟨fnCode m q, ⟨q, 0, 0⟩⟩ := by
  rw [headsF, if_neg k1, k2, k3, firstC_at hq hv h]
theorem take_any {α : Type} {p : α → Bool} {l : List α} {q k : Nat} (d : α) (hk : k < q) (hq : q ≤ l.length) (h : p (l.getD k d) = true) : (l.take q).any p = true := by
  refine any_at (q := k) d (by rw [List.length_take]; omega) ?_
  rwa [List.getD_eq_getElem?_getD, List.getElem?_take_of_lt hk, ← List.getD_eq_getElem?_getD]
theorem take_no {α : Type} {p : α → Bool} {l : List α} {q : Nat} (d : α) (h : ∀ k, k < q → p (l.getD k d) = false) : (l.take q).any p = false := by
  refine any_no d fun i hi => ?_
  rw [List.length_take] at hi
  rw [List.getD_eq_getElem?_getD, List.getElem?_take_of_lt (by omega), ← List.getD_eq_getElem?_getD]
  exact h i (by omega)
theorem heads_S (m : ModE) (hs : siz m < 4294967296) : ASpec Try.prog 34 [eS m] (eS (headsF m)) [] := by
  have h0 : siz m = siz m.vars + siz m.exts + siz m.funcs := rfl
  refine ASpec.enter TYok mixed Try.func34 rfl Try.call34 Try.ntmps34 rfl (rs := [.cell 2 60]) rfl (nodupB_ok rfl) (Clo.one rfl) (keep := [0, 1, 2, 3, 4, 5, 6, 7, 8, 9, 10, 11, 12]) ?_; conv => whnf
  repeat' first | (refine And.intro (fun (hb : _ = true) => ?_) (fun (hb : _ = false) => ?_) <;> (try simp only [pickB_or, pickB_and] at hb) <;> (have hc := hb; try simp only [sB, Int.reduceToNat] at hc; try simp only [addZ0] at hc) <;> first | (exfalso; omega) | conv => whnf) | ((first | refine ⟨_, wr64 ti ti, ?_⟩ | refine And.intro si ?_ | refine LitW.frz ?_ | refine Drw.d (by decide +kernel) ?_ | refine Drw.f (by decide +kernel) ?_ | refine Drw0.d (by decide +kernel) ?_ | refine Drw0.f (by decide +kernel) ?_ | refine Drw.l (by decide +kernel) ?_ | refine And.intro tgi ?_ | refine ⟨_, shl1 (by omega), ?_⟩ | refine ⟨_, wru64 ti ti, ?_⟩ | refine ⟨_, fun _ => (IntKind.wrap_u64 _).symm, ?_⟩); conv => whnf) | ((first | refine CallK.mk _ _ (fun _ => at_S _ _ _ _) ?_ | ((try (refine CallW.lent ?_; (conv => whnf); try (refine And.intro (by omega) ?_; (conv => whnf)))); refine CallL.mk _ _ (fun _ => at_S _ _ _ _) rfl (fun _ _ h => nomatch h) ?_)); conv => whnf) | exact ⟨_, .keep rfl rfl⟩ | fail
  · exact ⟨_, .keep (by rw [headsF, if_pos (by omega)]; rfl) rfl⟩
  have k1 : ¬(8 < m.vars.length ∨ 8 < m.exts.length ∨ 8 < m.funcs.length) := by omega
  refine lp [3] (fun q : Nat => [.i .i64 q]) (fun q => [(1, bx m), (2, bx (Enc.d : FaultE))]) (fun q => q ≤ m.vars.length ∧ ∀ i, i < q → varCode m i = 0) (fun q => m.vars.length - q) 0 ⟨by omega, fun i h => by omega⟩ ?_ fun q hq => ?_
  · refine Ent.lp [] [] rfl rfl rfl ?_ ?_ <;> repeat' first | exact trivial | rfl | exact fun _ _ => rfl | omega | refine And.intro ?_ ?_ | (show (_ : Int) = _; first | omega | (simp only [Int.toNat_natCast]; omega))
  conv => whnf
  obtain ⟨hq, hv⟩ := hq
  have h1 : (m.vars.getD q Enc.d).name.size ≤ siz m.vars := siz_at m.vars q
  repeat' first | (refine And.intro (fun (hb : _ = true) => ?_) (fun (hb : _ = false) => ?_) <;> (try simp only [pickB_or, pickB_and] at hb) <;> (have hc := hb; try simp only [sB, Int.reduceToNat] at hc; try simp only [addZ0] at hc) <;> first | (exfalso; omega) | conv => whnf) | ((first | refine ⟨_, wr64 ti ti, ?_⟩ | refine And.intro si ?_ | refine LitW.frz ?_ | refine Drw.d (by decide +kernel) ?_ | refine Drw.f (by decide +kernel) ?_ | refine Drw0.d (by decide +kernel) ?_ | refine Drw0.f (by decide +kernel) ?_ | refine Drw.l (by decide +kernel) ?_ | refine And.intro tgi ?_ | refine ⟨_, shl1 (by omega), ?_⟩ | refine ⟨_, wru64 ti ti, ?_⟩ | refine ⟨_, fun _ => (IntKind.wrap_u64 _).symm, ?_⟩); conv => whnf) | ((first | refine CallK.mk _ _ (fun _ => Word_S _ (by simp only [Int.toNat_natCast]; omega)) ?_ | ((try (refine CallW.lent ?_; (conv => whnf); try (refine And.intro (by omega) ?_; (conv => whnf)))); refine CallL.mk _ _ (fun _ => Word_S _ (by simp only [Int.toNat_natCast]; omega)) rfl (fun _ _ h => nomatch h) ?_)); conv => whnf) | ((first | refine CallK.mk _ _ (fun _ => at_S _ _ _ _) ?_ | ((try (refine CallW.lent ?_; (conv => whnf); try (refine And.intro (by omega) ?_; (conv => whnf)))); refine CallL.mk _ _ (fun _ => at_S _ _ _ _) rfl (fun _ _ h => nomatch h) ?_)); conv => whnf) | exact ⟨_, .keep rfl rfl⟩ | fail
  · have e : varCode m q = 4 := by simp only [varCode]; rw [if_pos hc]
    exact ⟨_, .keep (by rw [headsF_var k1 (by omega) hv (by omega), e]; rfl) rfl⟩
  · have e1 := hc
    refine lp [5] (fun k : Nat => [.i .i64 k]) (fun k => [(1, bx m), (2, bx (Enc.d : FaultE))]) (fun k => k ≤ q ∧ ∀ i, i < k → decide ((m.vars.getD i Enc.d).name = (m.vars.getD q Enc.d).name) = false) (fun k => q - k) 0 ⟨by omega, fun i h => by omega⟩ ?_ fun k hk => ?_
    · refine Ent.lp [] [] rfl rfl rfl ?_ ?_ <;> repeat' first | exact trivial | rfl | exact fun _ _ => rfl | omega | refine And.intro ?_ ?_ | (show (_ : Int) = _; first | omega | (simp only [Int.toNat_natCast]; omega))
    conv => whnf
    obtain ⟨hk, hw⟩ := hk
    repeat' first | (refine And.intro (fun (hb : _ = true) => ?_) (fun (hb : _ = false) => ?_) <;> (try simp only [pickB_or, pickB_and] at hb) <;> (have hc := hb; try simp only [sB, Int.reduceToNat] at hc; try simp only [addZ0] at hc) <;> first | (exfalso; omega) | conv => whnf) | ((first | refine ⟨_, wr64 ti ti, ?_⟩ | refine And.intro si ?_ | refine LitW.frz ?_ | refine Drw.d (by decide +kernel) ?_ | refine Drw.f (by decide +kernel) ?_ | refine Drw0.d (by decide +kernel) ?_ | refine Drw0.f (by decide +kernel) ?_ | refine Drw.l (by decide +kernel) ?_ | refine And.intro tgi ?_ | refine ⟨_, shl1 (by omega), ?_⟩ | refine ⟨_, wru64 ti ti, ?_⟩ | refine ⟨_, fun _ => (IntKind.wrap_u64 _).symm, ?_⟩); conv => whnf) | ((first | refine CallK.mk _ _ (fun _ => at_S _ _ _ _) ?_ | ((try (refine CallW.lent ?_; (conv => whnf); try (refine And.intro (by omega) ?_; (conv => whnf)))); refine CallL.mk _ _ (fun _ => at_S _ _ _ _) rfl (fun _ _ h => nomatch h) ?_)); conv => whnf) | exact ⟨_, .keep rfl rfl⟩ | fail
    · have e : varCode m q = 5 := by simp only [varCode]; rw [if_neg (by rw [e1]; simp), if_pos (take_any Enc.d (by omega) hq hb)]
      exact ⟨_, .keep (by rw [headsF_var k1 (by omega) hv (by omega), e]; rfl) rfl⟩
    · refine .mk (k + 1) ⟨by omega, all_step hw hb⟩ (by omega) ?_
      refine Ent.lp [] [] rfl rfl rfl ?_ ?_ <;> repeat' first | exact trivial | rfl | exact fun _ _ => rfl | omega | refine And.intro ?_ ?_ | (show (_ : Int) = _; first | omega | (simp only [Int.toNat_natCast]; omega))
    · have e : varCode m q = 6 := by simp only [varCode]; rw [if_neg (by rw [e1]; simp), if_neg (by rw [take_no Enc.d fun i hi => hw i (by omega)]; simp), if_pos hc]
      exact ⟨_, .keep (by rw [headsF_var k1 (by omega) hv (by omega), e]; rfl) rfl⟩
    · have e : varCode m q = 0 := by simp only [varCode]; rw [if_neg (by rw [e1]; simp), if_neg (by rw [take_no Enc.d fun i hi => hw i (by omega)]; simp), if_neg (by omega)]
      refine .mk (q + 1) ⟨by omega, all_step hv e⟩ (by omega) ?_
      refine Ent.lp [] [] rfl rfl rfl ?_ ?_ <;> repeat' first | exact trivial | rfl | exact fun _ _ => rfl | omega | refine And.intro ?_ ?_ | (show (_ : Int) = _; first | omega | (simp only [Int.toNat_natCast]; omega))
  have k2 : firstC (varCode m) m.vars.length = none := firstC_no fun i hi => hv i (by omega)
  have f1 : ∀ q, q ≤ m.exts.length → ((m.exts.take q).map (·.name)).length = q := fun q h => by rw [List.length_map, List.length_take]; omega
  have h2 := len_siz m.exts
  have h3 := len_siz m.funcs
  refine lp [7, 6] (fun q : Nat => [.i .i64 q, .orow 6 1 0 ((m.exts.take q).map (·.name)).length]) (fun q => [(6, oL ((m.exts.take q).map (·.name))), (1, bx m), (2, bx (Enc.d : FaultE))]) (fun q => q ≤ m.exts.length ∧ ∀ i, i < q → extCode m i = 0) (fun q => m.exts.length - q) 0 ⟨by omega, fun i h => by omega⟩ ?_ fun q hq => ?_
  · refine Ent.lp [] [6] rfl rfl rfl ?_ ?_ <;> repeat' first | exact trivial | rfl | exact fun _ _ => rfl | omega | refine And.intro ?_ ?_ | (show (_ : Int) = _; first | omega | (simp only [Int.toNat_natCast]; omega))
  conv => whnf
  obtain ⟨hq, hx⟩ := hq
  have h4 : siz (m.exts.getD q Enc.d) ≤ siz m.exts := siz_at m.exts q
  have h5 : siz (m.exts.getD q Enc.d) = (m.exts.getD q Enc.d).name.size + siz (m.exts.getD q Enc.d).params := rfl
  have h6 := f1 q hq
  repeat' first | (refine And.intro (fun (hb : _ = true) => ?_) (fun (hb : _ = false) => ?_) <;> (try simp only [pickB_or, pickB_and] at hb) <;> (have hc := hb; try simp only [sB, Int.reduceToNat] at hc; try simp only [addZ0] at hc) <;> first | (exfalso; omega) | conv => whnf) | ((first | refine ⟨_, wr64 ti ti, ?_⟩ | refine And.intro si ?_ | refine LitW.frz ?_ | refine Drw.d (by decide +kernel) ?_ | refine Drw.f (by decide +kernel) ?_ | refine Drw0.d (by decide +kernel) ?_ | refine Drw0.f (by decide +kernel) ?_ | refine Drw.l (by decide +kernel) ?_ | refine And.intro tgi ?_ | refine ⟨_, shl1 (by omega), ?_⟩ | refine ⟨_, wru64 ti ti, ?_⟩ | refine ⟨_, fun _ => (IntKind.wrap_u64 _).symm, ?_⟩); conv => whnf) | ((first | refine CallK.mk _ _ (fun _ => head_S _ ((m.exts.take q).map (·.name)) _ _ _ (by simp only [Int.toNat_natCast]; omega) (by omega)) ?_ | ((try (refine CallW.lent ?_; (conv => whnf); try (refine And.intro (by omega) ?_; (conv => whnf)))); refine CallL.mk _ _ (fun _ => head_S _ ((m.exts.take q).map (·.name)) _ _ _ (by simp only [Int.toNat_natCast]; omega) (by omega)) rfl (fun _ _ h => nomatch h) ?_)); conv => whnf) | ((first | refine CallK.mk _ _ (fun _ => at_S _ _ _ _) ?_ | ((try (refine CallW.lent ?_; (conv => whnf); try (refine And.intro (by omega) ?_; (conv => whnf)))); refine CallL.mk _ _ (fun _ => at_S _ _ _ _) rfl (fun _ _ h => nomatch h) ?_)); conv => whnf) | exact ⟨_, .keep rfl rfl⟩ | fail
  · exact ⟨_, .keep (by rw [headsF_ext k1 k2 (by omega) hx hc]; rfl) rfl⟩
  · have e : (m.exts.take (q + 1)).map (·.name) = (m.exts.take q).map (·.name) ++ [(m.exts.getD q Enc.d).name] := by
      rw [List.take_add_one, List.map_append, List.getD_eq_getElem?_getD, List.getElem?_eq_getElem (by omega)]; rfl
    refine .mk (q + 1) ⟨by omega, all_step hx hc⟩ (by omega) ?_
    refine Ent.lp [(6, 111)] [] rfl rfl rfl ?_ ?_ <;> repeat' first | exact trivial | rfl | exact fun _ _ => rfl | omega | refine And.intro ?_ ?_ | exact snoc_len e | exact snoc_get e rfl | rw [e] | (show (_ : Int) = _; first | omega | (simp only [Int.toNat_natCast]; omega))
  have k3 : firstC (extCode m) m.exts.length = none := firstC_no fun i hi => hx i (by omega)
  obtain rfl : q = m.exts.length := by omega
  rw [List.take_length]
  let kn (q : Nat) : List ByteArray := m.exts.map (·.name) ++ (m.funcs.take q).map (·.name)
  have f2 : ∀ q, q ≤ m.funcs.length → (kn q).length = m.exts.length + q := fun q h => by
    simp only [kn]; rw [List.length_append, List.length_map, List.length_map, List.length_take]; omega
  have f3 : m.exts.map (·.name) = kn 0 := by simp [kn]
  rw [f3]
  refine lp [10, 6] (fun q : Nat => [.i .i64 q, .orow 6 1 0 (kn q).length]) (fun q => [(6, oL (kn q)), (1, bx m), (2, bx (Enc.d : FaultE))]) (fun q => q ≤ m.funcs.length ∧ ∀ i, i < q → fnCode m i = 0) (fun q => m.funcs.length - q) 0 ⟨by omega, fun i h => by omega⟩ ?_ fun q hq => ?_
  · refine Ent.lp [] [] rfl rfl rfl ?_ ?_ <;> repeat' first | exact trivial | rfl | exact fun _ _ => rfl | omega | refine And.intro ?_ ?_ | (show (_ : Int) = _; first | omega | (simp only [Int.toNat_natCast]; omega))
  conv => whnf
  obtain ⟨hq, hy⟩ := hq
  have g4 : siz (m.funcs.getD q Enc.d) ≤ siz m.funcs := siz_at m.funcs q
  have g5 : siz (m.funcs.getD q Enc.d) = (m.funcs.getD q Enc.d).name.size + siz (m.funcs.getD q Enc.d).params + siz (m.funcs.getD q Enc.d).blocks := rfl
  have g6 := f2 q hq
  repeat' first | (refine And.intro (fun (hb : _ = true) => ?_) (fun (hb : _ = false) => ?_) <;> (try simp only [pickB_or, pickB_and] at hb) <;> (have hc := hb; try simp only [sB, Int.reduceToNat] at hc; try simp only [addZ0] at hc) <;> first | (exfalso; omega) | conv => whnf) | ((first | refine ⟨_, wr64 ti ti, ?_⟩ | refine And.intro si ?_ | refine LitW.frz ?_ | refine Drw.d (by decide +kernel) ?_ | refine Drw.f (by decide +kernel) ?_ | refine Drw0.d (by decide +kernel) ?_ | refine Drw0.f (by decide +kernel) ?_ | refine Drw.l (by decide +kernel) ?_ | refine And.intro tgi ?_ | refine ⟨_, shl1 (by omega), ?_⟩ | refine ⟨_, wru64 ti ti, ?_⟩ | refine ⟨_, fun _ => (IntKind.wrap_u64 _).symm, ?_⟩); conv => whnf) | ((first | refine CallK.mk _ _ (fun _ => head_S _ (kn q) _ _ _ (by simp only [Int.toNat_natCast]; omega) (by omega)) ?_ | ((try (refine CallW.lent ?_; (conv => whnf); try (refine And.intro (by omega) ?_; (conv => whnf)))); refine CallL.mk _ _ (fun _ => head_S _ (kn q) _ _ _ (by simp only [Int.toNat_natCast]; omega) (by omega)) rfl (fun _ _ h => nomatch h) ?_)); conv => whnf) | ((first | refine CallK.mk _ _ (fun _ => at_S _ _ _ _) ?_ | ((try (refine CallW.lent ?_; (conv => whnf); try (refine And.intro (by omega) ?_; (conv => whnf)))); refine CallL.mk _ _ (fun _ => at_S _ _ _ _) rfl (fun _ _ h => nomatch h) ?_)); conv => whnf) | exact ⟨_, .keep rfl rfl⟩ | fail
  · exact ⟨_, .keep (by rw [headsF_fn k1 k2 k3 (by omega) hy hc]; rfl) rfl⟩
  · have e : kn (q + 1) = kn q ++ [(m.funcs.getD q Enc.d).name] := by
      simp only [kn]; rw [List.take_add_one, List.map_append, List.getD_eq_getElem?_getD, List.getElem?_eq_getElem (by omega), List.append_assoc]; rfl
    refine .mk (q + 1) ⟨by omega, all_step hy hc⟩ (by omega) ?_
    refine Ent.lp [(6, 141)] [] rfl rfl rfl ?_ ?_ <;> repeat' first | exact trivial | rfl | exact fun _ _ => rfl | omega | refine And.intro ?_ ?_ | exact snoc_len e | exact snoc_get e rfl | rw [e] | (show (_ : Int) = _; first | omega | (simp only [Int.toNat_natCast]; omega))
  · have k4 : firstC (fnCode m) m.funcs.length = none := firstC_no fun i hi => hy i (by omega)
    exact ⟨_, .keep (by rw [headsF, if_neg k1, k2, k3, k4]; rfl) rfl⟩
end Go.Proofs.Ytecknkgiaahheaa

/- Layer 8: the blocks of a function. -/
namespace Go.Proofs.Ytecknkgiaahheaa
open Go.RowKit
set_option linter.unusedVariables false
set_option linter.unusedSimpArgs false
set_option maxRecDepth 100000
def codeB (f : FnE) (b : Nat) : List InsE := (f.blocks.getD b Enc.d).code
def lastB (f : FnE) (b : Nat) : InsE := (codeB f b).getD (((codeB f b).length : Int) - 1).toNat Enc.d
def earlyC (f : FnE) (b i : Nat) : Int := if Ends ((codeB f b).getD i Enc.d).op = true then 9 else 0
def toC (f : FnE) (b i : Nat) : Int := if (lastB f b).to.getD i Enc.d < 1 ∨ (f.blocks.length : Int) ≤ (lastB f b).to.getD i Enc.d then 8 else 0
def blkF (f : FnE) (n : Int) (b : Nat) : FaultE :=
  if (codeB f b).length = 0 then ⟨9, ⟨n, b, 0⟩⟩ else if Ends (lastB f b).op = false then ⟨9, ⟨n, b, 0⟩⟩ else
  match firstC (earlyC f b) ((codeB f b).length - 1) with
  | some i => ⟨9, ⟨n, b, i⟩⟩
  | none => match firstC (toC f b) (lastB f b).to.length with
    | some i => ⟨8, ⟨n, b, ((codeB f b).length : Int) - 1⟩⟩
    | none => ⟨0, ⟨0, 0, 0⟩⟩
def blocksF (f : FnE) (n : Int) : FaultE :=
  if f.blocks.length < 1 ∨ 64 < f.blocks.length ∨ 400 < (Code f).length then ⟨6, ⟨n, 0, 0⟩⟩ else
  match firstC (fun b => (blkF f n b).code) f.blocks.length with
  | some b => blkF f n b
  | none => ⟨0, ⟨0, 0, 0⟩⟩
theorem blocksF_at {f : FnE} {n : Int} {b : Nat} {x : FaultE} (k1 : ¬(f.blocks.length < 1 ∨ 64 < f.blocks.length ∨ 400 < (Code f).length)) (hb : b < f.blocks.length) (hv : ∀ i, i < b → (blkF f n i).code = 0) (h : blkF f n b = x) (hx : x.code ≠ 0) : blocksF f n = x := by
  rw [blocksF, if_neg k1, firstC_at (c := fun b => (blkF f n b).code) hb hv (by rw [h]; exact hx)]; exact h
theorem blocks_S (f : FnE) (n : Int) (hs : siz f < 4294967296) : ASpec Try.prog 35 [eS f, .i .i64 n] (eS (blocksF f n)) [] := by
  have h1 : ((Code f).map Prod.fst).length = (Code f).length := List.length_map _
  have h2 := Code_siz f
  have h3 := blocks_le f
  refine ASpec.enter TYok mixed Try.func35 rfl Try.call35 Try.ntmps35 rfl (rs := [.cell 4 60]) rfl (nodupB_ok rfl) (Clo.one rfl) (keep := [0, 1, 2, 4, 5, 7, 8, 9, 10, 11, 12, 13]) ?_; conv => whnf
  repeat' first | (refine And.intro (fun (hb : _ = true) => ?_) (fun (hb : _ = false) => ?_) <;> (try simp only [pickB_or, pickB_and] at hb) <;> (have hc := hb; try simp only [sB, Int.reduceToNat] at hc; try simp only [addZ0] at hc) <;> first | (exfalso; omega) | conv => whnf) | ((first | refine ⟨_, wr64 ti ti, ?_⟩ | refine And.intro si ?_ | refine LitW.frz ?_ | refine Drw.d (by decide +kernel) ?_ | refine Drw.f (by decide +kernel) ?_ | refine Drw0.d (by decide +kernel) ?_ | refine Drw0.f (by decide +kernel) ?_ | refine Drw.l (by decide +kernel) ?_ | refine And.intro tgi ?_ | refine ⟨_, shl1 (by omega), ?_⟩ | refine ⟨_, wru64 ti ti, ?_⟩ | refine ⟨_, fun _ => (IntKind.wrap_u64 _).symm, ?_⟩); conv => whnf) | ((first | refine CallK.mk _ _ (fun _ => Code_S 130 131 (by decide) f hs) ?_ | ((try (refine CallW.lent ?_; (conv => whnf); try (refine And.intro (by omega) ?_; (conv => whnf)))); refine CallL.mk _ _ (fun _ => Code_S 130 131 (by decide) f hs) rfl (fun _ _ h => nomatch h) ?_)); conv => whnf) | ((first | refine CallK.mk _ _ (fun _ => at_S _ _ _ _) ?_ | ((try (refine CallW.lent ?_; (conv => whnf); try (refine And.intro (by omega) ?_; (conv => whnf)))); refine CallL.mk _ _ (fun _ => at_S _ _ _ _) rfl (fun _ _ h => nomatch h) ?_)); conv => whnf) | exact ⟨_, .keep rfl rfl⟩ | fail
  · exact ⟨_, .keep (by rw [blocksF, if_pos (by omega)]; rfl) rfl⟩
  have k1 : ¬(f.blocks.length < 1 ∨ 64 < f.blocks.length ∨ 400 < (Code f).length) := by omega
  refine lp [7] (fun q : Nat => [.i .i64 q]) (fun q => [(2, bx f), (4, bx (Enc.d : FaultE)), (130, oL ((Code f).map Prod.fst)), (131, oL ((Code f).map Prod.snd))]) (fun q => q ≤ f.blocks.length ∧ ∀ i, i < q → (blkF f n i).code = 0) (fun q => f.blocks.length - q) 0 ⟨by omega, fun i h => by omega⟩ ?_ fun b hq => ?_
  · refine Ent.lp [] [] rfl rfl rfl ?_ ?_ <;> repeat' first | exact trivial | rfl | exact fun _ _ => rfl | omega | refine And.intro ?_ ?_ | (show (_ : Int) = _; first | omega | (simp only [Int.toNat_natCast]; omega))
  conv => whnf
  obtain ⟨hq, hv⟩ := hq
  have h4 : (codeB f b).length ≤ siz f := code_le f b
  have h5 : codeB f b = (f.blocks.getD b Enc.d).code := rfl
  rw [h5] at h4
  repeat' first | (refine And.intro (fun (hb : _ = true) => ?_) (fun (hb : _ = false) => ?_) <;> (try simp only [pickB_or, pickB_and] at hb) <;> (have hc := hb; try simp only [sB, Int.reduceToNat] at hc; try simp only [addZ0] at hc) <;> first | (exfalso; omega) | conv => whnf) | ((first | refine ⟨_, wr64 ti ti, ?_⟩ | refine And.intro si ?_ | refine LitW.frz ?_ | refine Drw.d (by decide +kernel) ?_ | refine Drw.f (by decide +kernel) ?_ | refine Drw0.d (by decide +kernel) ?_ | refine Drw0.f (by decide +kernel) ?_ | refine Drw.l (by decide +kernel) ?_ | refine And.intro tgi ?_ | refine ⟨_, shl1 (by omega), ?_⟩ | refine ⟨_, wru64 ti ti, ?_⟩ | refine ⟨_, fun _ => (IntKind.wrap_u64 _).symm, ?_⟩); conv => whnf) | ((first | refine CallK.mk _ _ (fun _ => Ends_S _) ?_ | ((try (refine CallW.lent ?_; (conv => whnf); try (refine And.intro (by omega) ?_; (conv => whnf)))); refine CallL.mk _ _ (fun _ => Ends_S _) rfl (fun _ _ h => nomatch h) ?_)); conv => whnf) | ((first | refine CallK.mk _ _ (fun _ => at_S _ _ _ _) ?_ | ((try (refine CallW.lent ?_; (conv => whnf); try (refine And.intro (by omega) ?_; (conv => whnf)))); refine CallL.mk _ _ (fun _ => at_S _ _ _ _) rfl (fun _ _ h => nomatch h) ?_)); conv => whnf) | exact ⟨_, .keep rfl rfl⟩ | fail
  · have e : blkF f n b = ⟨9, ⟨n, b, 0⟩⟩ := by rw [blkF, if_pos (by rw [h5]; omega)]
    exact ⟨_, .keep (by rw [blocksF_at k1 (by omega) hv e (by simp)]; rfl) rfl⟩
  · have e : blkF f n b = ⟨9, ⟨n, b, 0⟩⟩ := by rw [blkF, if_neg (by rw [h5]; omega), if_pos (show Ends (lastB f b).op = false from hc)]
    exact ⟨_, .keep (by rw [blocksF_at k1 (by omega) hv e (by simp)]; rfl) rfl⟩
  · have e1 : ¬Ends (lastB f b).op = false := by rw [show Ends (lastB f b).op = true from hc]; simp
    have e0 : ¬(codeB f b).length = 0 := by rw [h5]; omega
    have h8 : ((f.blocks.getD b Enc.d).code.getD (((f.blocks.getD b Enc.d).code.length : Int) - 1).toNat Enc.d).to.length ≤ siz f := Nat.le_trans (to_le _) (ins_le f b _)
    have h9 : (lastB f b).to.length = ((f.blocks.getD b Enc.d).code.getD (((f.blocks.getD b Enc.d).code.length : Int) - 1).toNat Enc.d).to.length := rfl
    refine lp [10] (fun q : Nat => [.i .i64 q]) (fun q => [(2, bx f), (4, bx (Enc.d : FaultE)), (130, oL ((Code f).map Prod.fst)), (131, oL ((Code f).map Prod.snd))]) (fun k => k ≤ (codeB f b).length - 1 ∧ ∀ i, i < k → earlyC f b i = 0) (fun k => (codeB f b).length - k) 0 ⟨by omega, fun i h => by omega⟩ ?_ fun k hk => ?_
    · refine Ent.lp [] [] rfl rfl rfl ?_ ?_ <;> repeat' first | exact trivial | rfl | exact fun _ _ => rfl | omega | refine And.intro ?_ ?_ | (show (_ : Int) = _; first | omega | (simp only [Int.toNat_natCast]; omega))
    conv => whnf
    obtain ⟨hk, hw⟩ := hk
    rw [h5] at hk
    repeat' first | (refine And.intro (fun (hb : _ = true) => ?_) (fun (hb : _ = false) => ?_) <;> (try simp only [pickB_or, pickB_and] at hb) <;> (have hc := hb; try simp only [sB, Int.reduceToNat] at hc; try simp only [addZ0] at hc) <;> first | (exfalso; omega) | conv => whnf) | ((first | refine ⟨_, wr64 ti ti, ?_⟩ | refine And.intro si ?_ | refine LitW.frz ?_ | refine Drw.d (by decide +kernel) ?_ | refine Drw.f (by decide +kernel) ?_ | refine Drw0.d (by decide +kernel) ?_ | refine Drw0.f (by decide +kernel) ?_ | refine Drw.l (by decide +kernel) ?_ | refine And.intro tgi ?_ | refine ⟨_, shl1 (by omega), ?_⟩ | refine ⟨_, wru64 ti ti, ?_⟩ | refine ⟨_, fun _ => (IntKind.wrap_u64 _).symm, ?_⟩); conv => whnf) | ((first | refine CallK.mk _ _ (fun _ => Ends_S _) ?_ | ((try (refine CallW.lent ?_; (conv => whnf); try (refine And.intro (by omega) ?_; (conv => whnf)))); refine CallL.mk _ _ (fun _ => Ends_S _) rfl (fun _ _ h => nomatch h) ?_)); conv => whnf) | ((first | refine CallK.mk _ _ (fun _ => at_S _ _ _ _) ?_ | ((try (refine CallW.lent ?_; (conv => whnf); try (refine And.intro (by omega) ?_; (conv => whnf)))); refine CallL.mk _ _ (fun _ => at_S _ _ _ _) rfl (fun _ _ h => nomatch h) ?_)); conv => whnf) | exact ⟨_, .keep rfl rfl⟩ | fail
    · have e : blkF f n b = ⟨9, ⟨n, b, k⟩⟩ := by rw [blkF, if_neg e0, if_neg e1, firstC_at (by rw [h5]; omega) hw (by unfold earlyC; rw [if_pos (show Ends ((codeB f b).getD k Enc.d).op = true from hc)]; decide)]
      exact ⟨_, .keep (by rw [blocksF_at k1 (by omega) hv e (by simp)]; rfl) rfl⟩
    · refine .mk (k + 1) ⟨by rw [h5]; omega, all_step hw (by unfold earlyC; rw [if_neg (fun h => by rw [show Ends ((codeB f b).getD k Enc.d).op = false from hc] at h; cases h)])⟩ (by rw [h5]; omega) ?_
      refine Ent.lp [] [] rfl rfl rfl ?_ ?_ <;> repeat' first | exact trivial | rfl | exact fun _ _ => rfl | omega | refine And.intro ?_ ?_ | (show (_ : Int) = _; first | omega | (simp only [Int.toNat_natCast]; omega))
    have e2 : firstC (earlyC f b) ((codeB f b).length - 1) = none := firstC_no fun i hi => hw i (by rw [h5] at hi; omega)
    refine lp [13] (fun q : Nat => [.i .i64 q]) (fun q => [(2, bx f), (4, bx (Enc.d : FaultE)), (130, oL ((Code f).map Prod.fst)), (131, oL ((Code f).map Prod.snd))]) (fun j => j ≤ (lastB f b).to.length ∧ ∀ i, i < j → toC f b i = 0) (fun j => (lastB f b).to.length - j) 0 ⟨by omega, fun i h => by omega⟩ ?_ fun j hj => ?_
    · refine Ent.lp [] [] rfl rfl rfl ?_ ?_ <;> repeat' first | exact trivial | rfl | exact fun _ _ => rfl | omega | refine And.intro ?_ ?_ | (show (_ : Int) = _; first | omega | (simp only [Int.toNat_natCast]; omega))
    conv => whnf
    obtain ⟨hj, hz⟩ := hj
    repeat' first | (refine And.intro (fun (hb : _ = true) => ?_) (fun (hb : _ = false) => ?_) <;> (try simp only [pickB_or, pickB_and] at hb) <;> (have hc := hb; try simp only [sB, Int.reduceToNat] at hc; try simp only [addZ0] at hc) <;> first | (exfalso; omega) | conv => whnf) | ((first | refine ⟨_, wr64 ti ti, ?_⟩ | refine And.intro si ?_ | refine LitW.frz ?_ | refine Drw.d (by decide +kernel) ?_ | refine Drw.f (by decide +kernel) ?_ | refine Drw0.d (by decide +kernel) ?_ | refine Drw0.f (by decide +kernel) ?_ | refine Drw.l (by decide +kernel) ?_ | refine And.intro tgi ?_ | refine ⟨_, shl1 (by omega), ?_⟩ | refine ⟨_, wru64 ti ti, ?_⟩ | refine ⟨_, fun _ => (IntKind.wrap_u64 _).symm, ?_⟩); conv => whnf) | ((first | refine CallK.mk _ _ (fun _ => at_S _ _ _ _) ?_ | ((try (refine CallW.lent ?_; (conv => whnf); try (refine And.intro (by omega) ?_; (conv => whnf)))); refine CallL.mk _ _ (fun _ => at_S _ _ _ _) rfl (fun _ _ h => nomatch h) ?_)); conv => whnf) | exact ⟨_, .keep rfl rfl⟩ | fail
    · have e3 : toC f b j ≠ 0 := by unfold toC; rw [if_pos (show (lastB f b).to.getD j Enc.d < 1 ∨ (f.blocks.length : Int) ≤ (lastB f b).to.getD j Enc.d from hc)]; decide
      have e : blkF f n b = ⟨8, ⟨n, b, ((codeB f b).length : Int) - 1⟩⟩ := by rw [blkF, if_neg e0, if_neg e1, e2]; simp only; rw [firstC_at (by omega) hz e3]
      exact ⟨_, .keep (by rw [blocksF_at k1 (by omega) hv e (by simp)]; rfl) rfl⟩
    · have e3 : toC f b j = 0 := by unfold toC; rw [if_neg (show ¬((lastB f b).to.getD j Enc.d < 1 ∨ (f.blocks.length : Int) ≤ (lastB f b).to.getD j Enc.d) from fun h => h.elim hc.1 hc.2)]
      refine .mk (j + 1) ⟨by omega, all_step hz e3⟩ (by omega) ?_
      refine Ent.lp [] [] rfl rfl rfl ?_ ?_ <;> repeat' first | exact trivial | rfl | exact fun _ _ => rfl | omega | refine And.intro ?_ ?_ | (show (_ : Int) = _; first | omega | (simp only [Int.toNat_natCast]; omega))
    · have e : blkF f n b = ⟨0, ⟨0, 0, 0⟩⟩ := by rw [blkF, if_neg e0, if_neg e1, e2]; simp only; rw [firstC_no fun i hi => hz i (by omega)]
      refine .mk (b + 1) ⟨by omega, all_step hv (by rw [e])⟩ (by omega) ?_
      refine Ent.lp [] [] rfl rfl rfl ?_ ?_ <;> repeat' first | exact trivial | rfl | exact fun _ _ => rfl | omega | refine And.intro ?_ ?_ | (show (_ : Int) = _; first | omega | (simp only [Int.toNat_natCast]; omega))
  · have e : firstC (fun b => (blkF f n b).code) f.blocks.length = none := firstC_no fun i hi => hv i (by omega)
    exact ⟨_, .keep (by rw [blocksF, if_neg k1, e]; rfl) rfl⟩
end Go.Proofs.Ytecknkgiaahheaa

/- Layer 8: types of registers. -/
namespace Go.Proofs.Ytecknkgiaahheaa
open Go.RowKit
set_option linter.unusedVariables false
set_option linter.unusedSimpArgs false
set_option maxRecDepth 100000
set_option maxHeartbeats 4000000
def TypeR (f : FnE) (reg : Int) : Int := if reg < 0 then 0 else if reg < f.params.length then f.params.getD reg.toNat Enc.d else if (Def f reg).2 = false then 0 else Result ((f.blocks.getD (Def f reg).1.b.toNat Enc.d).code.getD (Def f reg).1.i.toNat Enc.d)
theorem Type_S (f : FnE) (reg : Int) (hs : siz f < 4294967296) : ASpec Try.prog 89 [eS f, .i .i64 reg] (.i .i64 (TypeR f reg)) [] := by
  have h1 := params_le f
  have h2 : (Def f reg).2 = true → 0 ≤ (Def f reg).1.b ∧ (Def f reg).1.b < f.blocks.length ∧ 0 ≤ (Def f reg).1.i ∧ (Def f reg).1.i < (f.blocks.getD (Def f reg).1.b.toNat Enc.d).code.length := fun h => by
    obtain ⟨b, i, hb, hi, e⟩ := Def_mem h
    rw [e]; simp only [Int.toNat_natCast]; omega
  refine ASpec.enter TYok mixed Try.func89 rfl Try.call89 Try.ntmps89 rfl (rs := [.tmp 4]) rfl (nodupB_ok rfl) (Clo.one rfl) (keep := [0, 1, 2, 4, 5, 6]) ?_; conv => whnf
  repeat' first | (refine And.intro (fun (hb : _ = true) => ?_) (fun (hb : _ = false) => ?_) <;> (try simp only [pickB_or, pickB_and] at hb) <;> (have hc := hb; try simp only [sB, Int.reduceToNat] at hc; try simp only [addZ0] at hc) <;> first | (exfalso; omega) | conv => whnf) | ((first | refine ⟨_, wr64 ti ti, ?_⟩ | refine And.intro si ?_ | refine LitW.frz ?_ | refine Drw.d (by decide +kernel) ?_ | refine Drw.f (by decide +kernel) ?_ | refine Drw0.d (by decide +kernel) ?_ | refine Drw0.f (by decide +kernel) ?_ | refine Drw.l (by decide +kernel) ?_ | refine And.intro tgi ?_ | refine ⟨_, shl1 (by omega), ?_⟩ | refine ⟨_, wru64 ti ti, ?_⟩ | refine ⟨_, fun _ => (IntKind.wrap_u64 _).symm, ?_⟩); conv => whnf) | ((first | refine CallK.mk _ _ (fun _ => Def_S _ _ hs) ?_ | ((try (refine CallW.lent ?_; (conv => whnf); try (refine And.intro (by omega) ?_; (conv => whnf)))); refine CallL.mk _ _ (fun _ => Def_S _ _ hs) rfl (fun _ _ h => nomatch h) ?_)); conv => whnf) | exact ⟨_, .keep rfl rfl⟩ | fail
  · exact ⟨_, .keep (by rw [TypeR, if_pos hc]) rfl⟩
  · exact ⟨_, .keep (by rw [TypeR, if_neg (by omega), if_pos hc]) rfl⟩
  · exact ⟨_, .keep (by rw [TypeR, if_neg (by omega), if_neg (by omega), if_pos hc]) rfl⟩
  have h3 := h2 hc
  repeat' first | (refine And.intro (fun (hb : _ = true) => ?_) (fun (hb : _ = false) => ?_) <;> (try simp only [pickB_or, pickB_and] at hb) <;> (have hc := hb; try simp only [sB, Int.reduceToNat] at hc; try simp only [addZ0] at hc) <;> first | (exfalso; omega) | conv => whnf) | ((first | refine ⟨_, wr64 ti ti, ?_⟩ | refine And.intro si ?_ | refine LitW.frz ?_ | refine Drw.d (by decide +kernel) ?_ | refine Drw.f (by decide +kernel) ?_ | refine Drw0.d (by decide +kernel) ?_ | refine Drw0.f (by decide +kernel) ?_ | refine Drw.l (by decide +kernel) ?_ | refine And.intro tgi ?_ | refine ⟨_, shl1 (by omega), ?_⟩ | refine ⟨_, wru64 ti ti, ?_⟩ | refine ⟨_, fun _ => (IntKind.wrap_u64 _).symm, ?_⟩); conv => whnf) | ((first | refine CallK.mk _ _ (fun _ => Result_S _) ?_ | ((try (refine CallW.lent ?_; (conv => whnf); try (refine And.intro (by omega) ?_; (conv => whnf)))); refine CallL.mk _ _ (fun _ => Result_S _) rfl (fun _ _ h => nomatch h) ?_)); conv => whnf) | exact ⟨_, .keep rfl rfl⟩ | fail
  exact ⟨_, .keep (by rw [TypeR, if_neg (by omega), if_neg (by omega), if_neg (by rw [hc]; simp)]) rfl⟩
def conv (op : Int) : Bool := decide (op = 20) || decide (op = 21) || decide (op = 22)
theorem conversion_S (op : Int) : ASpec Try.prog 86 [.i .i64 op] (.b (conv op)) [] := by
  refine ASpec.enter TYok mixed Try.func86 rfl Try.call86 Try.ntmps86 rfl (rs := [.tmp 2]) rfl (nodupB_ok rfl) (Clo.one rfl) (keep := [0, 2]) ?_; conv => whnf
  repeat' first | (refine And.intro (fun (hb : _ = true) => ?_) (fun (hb : _ = false) => ?_) <;> (try simp only [pickB_or, pickB_and] at hb) <;> (have hc := hb; try simp only [sB, Int.reduceToNat] at hc; try simp only [addZ0] at hc) <;> first | (exfalso; omega) | conv => whnf) | ((first | refine ⟨_, wr64 ti ti, ?_⟩ | refine And.intro si ?_ | refine LitW.frz ?_ | refine Drw.d (by decide +kernel) ?_ | refine Drw.f (by decide +kernel) ?_ | refine Drw0.d (by decide +kernel) ?_ | refine Drw0.f (by decide +kernel) ?_ | refine Drw.l (by decide +kernel) ?_ | refine And.intro tgi ?_ | refine ⟨_, shl1 (by omega), ?_⟩ | refine ⟨_, wru64 ti ti, ?_⟩ | refine ⟨_, fun _ => (IntKind.wrap_u64 _).symm, ?_⟩); conv => whnf) | exact ⟨_, .keep rfl rfl⟩ | fail
def many (f : FnE) (x : InsE) : Int × Int :=
  if x.op = 23 then (3, 0) else if x.op = 25 then (x.args.length, x.args.length) else if x.op = 30 then (x.args.length, 0) else if x.op = 26 ∨ x.op = 34 then (0, 0)
  else if x.op = 31 then (0, 1) else if x.op = 32 then (1, 2) else if x.op = 20 ∨ x.op = 21 ∨ x.op = 22 ∨ x.op = 24 ∨ x.op = 27 then (1, 0)
  else if x.op = 33 then (if f.ret = 0 then (0, 0) else (1, 0)) else if 1 ≤ x.op ∧ x.op ≤ 29 then (2, 0) else (-1, -1)
theorem many_S (f : FnE) (x : InsE) : ASpec Try.prog 85 [eS f, eS x] (.tup [.i .i64 (many f x).1, .i .i64 (many f x).2]) [] := by
  refine ASpec.enter TYok mixed Try.func85 rfl Try.call85 Try.ntmps85 rfl (rs := [.tmp 4, .tmp 5]) rfl (nodupB_ok rfl) (Clo.one rfl) (keep := [0, 1, 2, 3, 4, 5, 6, 11]) ?_; conv => whnf
  repeat' first | (refine And.intro (fun (hb : _ = true) => ?_) (fun (hb : _ = false) => ?_) <;> (try simp only [pickB_or, pickB_and] at hb) <;> (have hc := hb; try simp only [sB, Int.reduceToNat] at hc; try simp only [addZ0] at hc) <;> first | (exfalso; omega) | conv => whnf) | ((first | refine ⟨_, wr64 ti ti, ?_⟩ | refine And.intro si ?_ | refine LitW.frz ?_ | refine Drw.d (by decide +kernel) ?_ | refine Drw.f (by decide +kernel) ?_ | refine Drw0.d (by decide +kernel) ?_ | refine Drw0.f (by decide +kernel) ?_ | refine Drw.l (by decide +kernel) ?_ | refine And.intro tgi ?_ | refine ⟨_, shl1 (by omega), ?_⟩ | refine ⟨_, wru64 ti ti, ?_⟩ | refine ⟨_, fun _ => (IntKind.wrap_u64 _).symm, ?_⟩); conv => whnf) | exact ⟨_, .keep rfl rfl⟩ | fail
  all_goals exact ⟨_, .keep (by (try simp only [pickB_or, pickB_and]); unfold many; repeat' (first | rfl | omega | split | (simp_all; done))) rfl⟩
end Go.Proofs.Ytecknkgiaahheaa

/- Layer 8: what type an instruction may have. -/
namespace Go.Proofs.Ytecknkgiaahheaa
open Go.RowKit
set_option linter.unusedVariables false
set_option linter.unusedSimpArgs false
set_option maxRecDepth 100000
set_option maxHeartbeats 4000000
def typedF (m : ModE) (f : FnE) (x : InsE) : Int :=
  if conv x.op = true then (if (Convert x.op x.n x.t 0).2 = false then 7 else 0)
  else if x.op = 30 then (if (Callee m x.n).2.2 = false then 4 else if (Callee m x.n).2.1 ≠ x.t then 7 else if (Callee m x.n).1.length ≠ x.args.length then 13 else 0)
  else if x.op = 33 then (if x.t ≠ f.ret then 7 else 0)
  else if x.op = 26 ∨ x.op = 29 ∨ x.op = 31 ∨ x.op = 32 ∨ x.op = 34 then 0
  else if x.op ≤ 13 ∨ (16 ≤ x.op ∧ x.op ≤ 19) then (if x.t < 1 ∨ 64 < x.t then 7 else 0)
  else if x.t < 1 ∨ 65 < x.t then 7 else 0
theorem typed_S (m : ModE) (f : FnE) (x : InsE) (hm : siz m < 4294967296) (h1 : -9223372036854775808 ≤ x.n) (h2 : x.n ≤ 9223372036854775807) : ASpec Try.prog 60 [eS m, eS f, eS x] (.i .i64 (typedF m f x)) [] := by
  refine ASpec.enter TYok mixed Try.func60 rfl Try.call60 Try.ntmps60 rfl (rs := [.tmp 6]) rfl (nodupB_ok rfl) (Clo.one rfl) (keep := [0, 1, 2, 3, 4, 5, 6, 7, 9, 10, 11, 12, 13, 31]) ?_; conv => whnf
  repeat' first | (refine And.intro (fun (hb : _ = true) => ?_) (fun (hb : _ = false) => ?_) <;> (try simp only [pickB_or, pickB_and] at hb) <;> (have hc := hb; try simp only [sB, Int.reduceToNat] at hc; try simp only [addZ0] at hc) <;> first | (exfalso; omega) | conv => whnf) | ((first | refine ⟨_, wr64 ti ti, ?_⟩ | refine And.intro si ?_ | refine LitW.frz ?_ | refine Drw.d (by decide +kernel) ?_ | refine Drw.f (by decide +kernel) ?_ | refine Drw0.d (by decide +kernel) ?_ | refine Drw0.f (by decide +kernel) ?_ | refine Drw.l (by decide +kernel) ?_ | refine And.intro tgi ?_ | refine ⟨_, shl1 (by omega), ?_⟩ | refine ⟨_, wru64 ti ti, ?_⟩ | refine ⟨_, fun _ => (IntKind.wrap_u64 _).symm, ?_⟩); conv => whnf) | ((first | refine CallK.mk _ _ (fun _ => conversion_S _) ?_ | ((try (refine CallW.lent ?_; (conv => whnf); try (refine And.intro (by omega) ?_; (conv => whnf)))); refine CallL.mk _ _ (fun _ => conversion_S _) rfl (fun _ _ h => nomatch h) ?_)); conv => whnf) | ((first | refine CallK.mk _ _ (fun _ => Convert_S _ _ _ _ (by omega) (by omega)) ?_ | ((try (refine CallW.lent ?_; (conv => whnf); try (refine And.intro (by omega) ?_; (conv => whnf)))); refine CallL.mk _ _ (fun _ => Convert_S _ _ _ _ (by omega) (by omega)) rfl (fun _ _ h => nomatch h) ?_)); conv => whnf) | ((first | refine CallK.mk _ _ (fun _ => Callee_S _ _ hm h1 h2) ?_ | ((try (refine CallW.lent ?_; (conv => whnf); try (refine And.intro (by omega) ?_; (conv => whnf)))); refine CallL.mk _ _ (fun _ => Callee_S _ _ hm h1 h2) rfl (fun _ _ h => nomatch h) ?_)); conv => whnf) | exact ⟨_, .keep rfl rfl⟩ | fail
  all_goals exact ⟨_, .keep (by (try simp only [pickB_or, pickB_and]); unfold typedF; repeat' (first | rfl | omega | split | (simp_all; done))) rfl⟩
end Go.Proofs.Ytecknkgiaahheaa

/- Layer 8: operands. -/
namespace Go.Proofs.Ytecknkgiaahheaa
open Go.RowKit
set_option linter.unusedVariables false
set_option linter.unusedSimpArgs false
set_option maxRecDepth 100000
set_option maxHeartbeats 4000000
def operandF (m : ModE) (f : FnE) (v : Opd) (want : Int) : Int :=
  if v.k = 1 then (if v.b ≠ 0 then 15 else if v.n ≤ 4095 then (if TypeR f v.n = 0 then 10 else if TypeR f v.n ≠ want then 7 else 0) else 10)
  else if v.k = 2 then (if v.n ≠ 0 then 15 else if want = 65 ∨ Mask want < v.b then 7 else 0)
  else if v.k = 3 ∨ v.k = 4 then (if v.n ≠ 0 ∨ v.b ≠ 0 then 15 else if v.k = 4 ∧ want ≠ 65 then 7 else 0)
  else if v.k = 5 then (if v.b ≠ 0 then 15 else if v.n < 0 ∨ m.vars.length ≤ v.n then 4 else if want ≠ 65 then 7 else 0)
  else 15
theorem operand_S (m : ModE) (f : FnE) (v : Opd) (want : Int) (hf : siz f < 4294967296) : ASpec Try.prog 63 [eS m, eS f, eS v, .i .i64 want] (.i .i64 (operandF m f v want)) [] := by
  refine ASpec.enter TYok mixed Try.func63 rfl Try.call63 Try.ntmps63 rfl (rs := [.tmp 8]) rfl (nodupB_ok rfl) (Clo.one rfl) (keep := [0, 1, 2, 3, 4, 5, 6, 8, 9, 11]) ?_; conv => whnf
  repeat' first | (refine And.intro (fun (hb : _ = true) => ?_) (fun (hb : _ = false) => ?_) <;> (try simp only [pickB_or, pickB_and] at hb) <;> (have hc := hb; try simp only [sB, Int.reduceToNat] at hc; try simp only [addZ0] at hc) <;> first | (exfalso; omega) | conv => whnf) | ((first | refine ⟨_, wr64 ti ti, ?_⟩ | refine And.intro si ?_ | refine LitW.frz ?_ | refine Drw.d (by decide +kernel) ?_ | refine Drw.f (by decide +kernel) ?_ | refine Drw0.d (by decide +kernel) ?_ | refine Drw0.f (by decide +kernel) ?_ | refine Drw.l (by decide +kernel) ?_ | refine And.intro tgi ?_ | refine ⟨_, shl1 (by omega), ?_⟩ | refine ⟨_, wru64 ti ti, ?_⟩ | refine ⟨_, fun _ => (IntKind.wrap_u64 _).symm, ?_⟩); conv => whnf) | ((first | refine CallK.mk _ _ (fun _ => Type_S _ _ hf) ?_ | ((try (refine CallW.lent ?_; (conv => whnf); try (refine And.intro (by omega) ?_; (conv => whnf)))); refine CallL.mk _ _ (fun _ => Type_S _ _ hf) rfl (fun _ _ h => nomatch h) ?_)); conv => whnf) | ((first | refine CallK.mk _ _ (fun _ => Mask_S _) ?_ | ((try (refine CallW.lent ?_; (conv => whnf); try (refine And.intro (by omega) ?_; (conv => whnf)))); refine CallL.mk _ _ (fun _ => Mask_S _) rfl (fun _ _ h => nomatch h) ?_)); conv => whnf) | exact ⟨_, .keep rfl rfl⟩ | fail
  all_goals exact ⟨_, .keep (by (try simp only [pickB_or, pickB_and]); unfold operandF; repeat' (first | rfl | omega | split | (simp_all; done))) rfl⟩
end Go.Proofs.Ytecknkgiaahheaa
