/- The engine and the contracts of the functions that the statement reaches, part 6. -/
import Derived.Test.YtilhkmlghhdpaaaDoorMe
import Derived.Test.YtilhkmlghhdpaaaDoorCards
import Derived.Test.YtilhkmlghhdpaaaDoorTie
import Derived.ShutString
import Derived.SizedLaws
import Derived.LaidLaws
import Derived.Lay
import Derived.Lib.LaidTab
import Derived.Stop.LaidErr
import Derived.Deep.DeepWitnessRowRef
/- Layer 5: which modules are sayable, and their texts: the statement's function. -/
namespace Go.Proofs.YtilhkmlghhdpaaaDoor
open Go.RowKit
set_option linter.unusedVariables false
set_option linter.unusedSimpArgs false
set_option maxRecDepth 100000
set_option maxHeartbeats 8000000
theorem SpellTexts_S (m : ModE) (t : Int) (hm : siz m ≤ 1048576) (hr : Rng.rng m) (ht : rngI t) : ASpec Tryd.prog 3 [eS m, .i .i64 t] (.b true) [] := by
  have h1 := ModR.of hr
  have h2 : siz m < 4294967296 := by omega
  have h3 := textT_bound hm hr
  unfold rngI at ht
  refine ASpec.enter TYok mixed Tryd.func3 rfl Tryd.call3 Tryd.ntmps3 rfl (rs := [.tmp 4]) rfl (nodupB_ok rfl) (Clo.one rfl) (keep := [0, 1, 2, 4, 5]) ?_; conv => whnf
  repeat' first | (refine And.intro (fun (hb : _ = true) => ?_) (fun (hb : _ = false) => ?_) <;> (try simp only [pickB_or, pickB_and] at hb) <;> (have hc := hb; try simp only [Int.toNat_natCast, Int.reduceToNat, Bool.or_eq_false_iff, Bool.and_eq_false_iff, Bool.not_eq_false', decide_eq_true_eq, decide_eq_false_iff_not, Bool.not_eq_true', Bool.and_eq_true, Bool.or_eq_true] at hc) <;> first | (exfalso; omega) | conv => whnf) | (refine ⟨_, wr64 (by first | omega | (simp only [Int.toNat_natCast, Int.reduceToNat]; omega)) (by first | omega | (simp only [Int.toNat_natCast, Int.reduceToNat]; omega)), ?_⟩; conv => whnf) | (refine And.intro (by first | omega | (simp only [Int.toNat_natCast, Int.reduceToNat, addZ]; omega) | (simp only [ByteArray.size_append, size_mk, List.length_cons, List.length_nil, Int.toNat_natCast, Int.reduceToNat]; omega) | exact ⟨rfl, by omega⟩ | ((repeat' apply And.intro) <;> first | exact trivial | omega) | decide +kernel) ?_; conv => whnf) | (refine And.intro (fun (ht : tg _ _ = true) => by (simp only [tg_ite, tg_nil, cn, Nat.reduceMul, Nat.reduceAdd, Nat.reduceEqDiff, ↓reduceIte, pickB_or, pickB_and, Bool.and_eq_true, Bool.or_eq_true, Bool.or_eq_false_iff, Bool.and_eq_false_iff, Bool.not_eq_true', Bool.not_eq_false', decide_eq_true_eq, decide_eq_false_iff_not, Int.toNat_natCast, Int.reduceToNat, ne_eq] at ht ⊢; first | omega | (simp only [Int.toNat_natCast, Int.reduceToNat]; omega))) ?_; conv => whnf) | (refine ⟨_, shl1 (by omega), ?_⟩; conv => whnf) | (refine ⟨_, wru64 (by first | omega | (simp only [Int.toNat_natCast, Int.reduceToNat]; omega)) (by first | omega | (simp only [Int.toNat_natCast, Int.reduceToNat]; omega)), ?_⟩; conv => whnf) | (refine ⟨_, fun _ => (IntKind.wrap_u64 _).symm, ?_⟩; conv => whnf) | ((first | refine CallK.mk _ _ (fun _ => lives5_S) ?_ | refine CallL.mk _ _ (fun _ => lives5_S) rfl (fun _ _ h => nomatch h) ?_ | (refine CallW.lent ?_; (conv => whnf); refine CallL.mk _ _ (fun _ => lives5_S) rfl (fun _ _ h => nomatch h) ?_) | (refine CallW.lent ?_; (conv => whnf); refine And.intro (by omega) ?_; (conv => whnf); refine CallL.mk _ _ (fun _ => lives5_S) rfl (fun _ _ h => nomatch h) ?_)); conv => whnf) | ((first | refine CallK.mk _ _ (fun _ => Few_S m 5000 h2) ?_ | refine CallL.mk _ _ (fun _ => Few_S m 5000 h2) rfl (fun _ _ h => nomatch h) ?_ | (refine CallW.lent ?_; (conv => whnf); refine CallL.mk _ _ (fun _ => Few_S m 5000 h2) rfl (fun _ _ h => nomatch h) ?_) | (refine CallW.lent ?_; (conv => whnf); refine And.intro (by omega) ?_; (conv => whnf); refine CallL.mk _ _ (fun _ => Few_S m 5000 h2) rfl (fun _ _ h => nomatch h) ?_)); conv => whnf) | ((first | refine CallK.mk _ _ (fun _ => Copy_S m h2) ?_ | refine CallL.mk _ _ (fun _ => Copy_S m h2) rfl (fun _ _ h => nomatch h) ?_ | (refine CallW.lent ?_; (conv => whnf); refine CallL.mk _ _ (fun _ => Copy_S m h2) rfl (fun _ _ h => nomatch h) ?_) | (refine CallW.lent ?_; (conv => whnf); refine And.intro (by omega) ?_; (conv => whnf); refine CallL.mk _ _ (fun _ => Copy_S m h2) rfl (fun _ _ h => nomatch h) ?_)); conv => whnf) | ((first | refine CallK.mk _ _ (fun _ => Sayable_S m h2 h1.n) ?_ | refine CallL.mk _ _ (fun _ => Sayable_S m h2 h1.n) rfl (fun _ _ h => nomatch h) ?_ | (refine CallW.lent ?_; (conv => whnf); refine CallL.mk _ _ (fun _ => Sayable_S m h2 h1.n) rfl (fun _ _ h => nomatch h) ?_) | (refine CallW.lent ?_; (conv => whnf); refine And.intro (by omega) ?_; (conv => whnf); refine CallL.mk _ _ (fun _ => Sayable_S m h2 h1.n) rfl (fun _ _ h => nomatch h) ?_)); conv => whnf) | ((first | refine CallK.mk _ _ (fun _ => Sayable5_S m h2 h1.n) ?_ | refine CallL.mk _ _ (fun _ => Sayable5_S m h2 h1.n) rfl (fun _ _ h => nomatch h) ?_ | (refine CallW.lent ?_; (conv => whnf); refine CallL.mk _ _ (fun _ => Sayable5_S m h2 h1.n) rfl (fun _ _ h => nomatch h) ?_) | (refine CallW.lent ?_; (conv => whnf); refine And.intro (by omega) ?_; (conv => whnf); refine CallL.mk _ _ (fun _ => Sayable5_S m h2 h1.n) rfl (fun _ _ h => nomatch h) ?_)); conv => whnf) | ((first | refine CallK.mk _ _ (fun _ => Text_S m h2 h1 h3) ?_ | refine CallL.mk _ _ (fun _ => Text_S m h2 h1 h3) rfl (fun _ _ h => nomatch h) ?_ | (refine CallW.lent ?_; (conv => whnf); refine CallL.mk _ _ (fun _ => Text_S m h2 h1 h3) rfl (fun _ _ h => nomatch h) ?_) | (refine CallW.lent ?_; (conv => whnf); refine And.intro (by omega) ?_; (conv => whnf); refine CallL.mk _ _ (fun _ => Text_S m h2 h1 h3) rfl (fun _ _ h => nomatch h) ?_)); conv => whnf) | ((first | refine CallK.mk _ _ (fun _ => Text5_S m h2 h1 h3) ?_ | refine CallL.mk _ _ (fun _ => Text5_S m h2 h1 h3) rfl (fun _ _ h => nomatch h) ?_ | (refine CallW.lent ?_; (conv => whnf); refine CallL.mk _ _ (fun _ => Text5_S m h2 h1 h3) rfl (fun _ _ h => nomatch h) ?_) | (refine CallW.lent ?_; (conv => whnf); refine And.intro (by omega) ?_; (conv => whnf); refine CallL.mk _ _ (fun _ => Text5_S m h2 h1 h3) rfl (fun _ _ h => nomatch h) ?_)); conv => whnf) | ((first | refine CallK.mk _ _ (fun _ => Type_S t (by omega)) ?_ | refine CallL.mk _ _ (fun _ => Type_S t (by omega)) rfl (fun _ _ h => nomatch h) ?_ | (refine CallW.lent ?_; (conv => whnf); refine CallL.mk _ _ (fun _ => Type_S t (by omega)) rfl (fun _ _ h => nomatch h) ?_) | (refine CallW.lent ?_; (conv => whnf); refine And.intro (by omega) ?_; (conv => whnf); refine CallL.mk _ _ (fun _ => Type_S t (by omega)) rfl (fun _ _ h => nomatch h) ?_)); conv => whnf) | ((first | refine CallK.mk _ _ (fun _ => Type5_S t) ?_ | refine CallL.mk _ _ (fun _ => Type5_S t) rfl (fun _ _ h => nomatch h) ?_ | (refine CallW.lent ?_; (conv => whnf); refine CallL.mk _ _ (fun _ => Type5_S t) rfl (fun _ _ h => nomatch h) ?_) | (refine CallW.lent ?_; (conv => whnf); refine And.intro (by omega) ?_; (conv => whnf); refine CallL.mk _ _ (fun _ => Type5_S t) rfl (fun _ _ h => nomatch h) ?_)); conv => whnf) | ((first | refine CallK.mk _ _ (fun _ => Same_S m m h2) ?_ | refine CallL.mk _ _ (fun _ => Same_S m m h2) rfl (fun _ _ h => nomatch h) ?_ | (refine CallW.lent ?_; (conv => whnf); refine CallL.mk _ _ (fun _ => Same_S m m h2) rfl (fun _ _ h => nomatch h) ?_) | (refine CallW.lent ?_; (conv => whnf); refine And.intro (by omega) ?_; (conv => whnf); refine CallL.mk _ _ (fun _ => Same_S m m h2) rfl (fun _ _ h => nomatch h) ?_)); conv => whnf) | exact ⟨_, .keep rfl rfl⟩ | fail
  · simp at hb
  · exact ⟨_, .keep (congrArg AV.b (by simp only [sayP_eq, decide_true]; rfl)) rfl⟩
theorem remap_nil (β : Nat → Wt) : remap [] [] β = β := rfl
theorem ASpec.mats {P : Program} {f : FuncId} {vs args : List AV} {r : AV} {no : Os} (h : ASpec P f args r no) (hw : mats [] [] vs args) : ASpec P f vs r no :=
  ⟨h.1, h.2.1, fun S w us hr hv => h.2.2 S w us (mats_ok (ρ := []) (nl := []) Comp.refl vs args us hw hr) hv⟩
def part (m : ModE) (k : Nat) : ModE := ⟨m.vars, m.exts, m.funcs.take k⟩
theorem siz_take {α : Type} [Enc α] [Siz α] : ∀ (l : List α) (k : Nat), siz (l.take k) ≤ siz l
  | [], k => by simp
  | x :: l, 0 => Nat.zero_le _
  | x :: l, k + 1 => by
    have h := siz_take l k
    have e : ∀ l : List α, siz (x :: l) = l.length + 1 + (siz x + (l.map siz).sum) := fun _ => rfl
    have e2 : ∀ l : List α, siz l = l.length + (l.map siz).sum := fun _ => rfl
    rw [List.take_succ_cons, e, e]
    rw [e2, e2] at h; omega
theorem part_siz (m : ModE) (k : Nat) : siz (part m k) ≤ siz m := by
  have h0 : siz m = siz m.vars + siz m.exts + siz m.funcs := rfl
  have h1 : siz (part m k) = siz m.vars + siz m.exts + siz (m.funcs.take k) := rfl
  have := siz_take m.funcs k
  omega
theorem part_rng {m : ModE} (h : Rng.rng m) (k : Nat) : Rng.rng (part m k) := ⟨h.1, h.2.1, fun x hx => h.2.2 x (List.mem_of_mem_take hx)⟩
theorem preT_congr {g g' : Nat → ByteArray} : ∀ {n : Nat}, (∀ i, i < n → g i = g' i) → preT g n = preT g' n
  | 0, _ => rfl
  | n + 1, h => by rw [preT, preT, preT_congr fun i hi => h i (by omega), h n (by omega)]
theorem preT_app {g : Nat → ByteArray} {k : Nat} : ∀ {n : Nat}, k ≤ n → ∃ r, preT g n = preT g k ++ r
  | 0, h => ⟨⟨#[]⟩, by rw [show k = 0 by omega]; exact (ByteArray.append_empty).symm⟩
  | n + 1, h => by
    rcases Nat.lt_or_ge k (n + 1) with q | q
    · obtain ⟨r, e⟩ := preT_app (g := g) (k := k) (n := n) (by omega)
      exact ⟨r ++ g n, by rw [preT, e, ByteArray.append_assoc]⟩
    · exact ⟨⟨#[]⟩, by rw [show k = n + 1 by omega]; exact (ByteArray.append_empty).symm⟩
theorem getD_take {α : Type} [Enc α] (l : List α) (k i : Nat) (h : i < k) : (l.take k).getD i Enc.d = l.getD i Enc.d := by
  rw [List.getD_eq_getElem?_getD, List.getD_eq_getElem?_getD, List.getElem?_take_of_lt h]
theorem part_cal {m : ModE} {k : Nat} {n : Int} (h : (0 ≤ n ∧ n < ((part m k).funcs.length : Nat)) ∨ n < 0) : calT (part m k) n = calT m n := by
  unfold calT
  rcases h with h | h
  · rw [if_pos h.1, if_pos h.1]
    have h1 : (part m k).funcs.length ≤ k := List.length_take_le _ _
    show ((m.funcs.take k).getD n.toNat Enc.d).name = _
    rw [getD_take _ _ _ (by omega)]
  · rw [if_neg (by omega), if_neg (by omega)]; rfl
theorem part_ph (m : ModE) (k : Nat) (x : InsE) : ∀ q, phT (part m k) x q = phT m x q
  | 0 => rfl
  | q + 1 => by rw [phT, phT, part_ph m k x q]; rfl
theorem part_ins {m : ModE} {k : Nat} {x : InsE} (h : InsOk (part m k) x) : insL (part m k) x = insL m x := by
  have e : behT (part m k) x = behT m x := by
    unfold behT
    rw [part_ph]
    by_cases hc : x.op = 30
    · rw [part_cal (by rcases h.ca hc with q | q; exact .inl q; exact .inr q.1)]; rfl
    · rw [if_neg hc, if_neg hc]; rfl
  unfold insL insT; rw [e]
theorem part_fn {m : ModE} {k : Nat} (hp : say5 (part m k) = true) (hr : ModR (part m k)) {i : Nat} (hi : i < (part m k).funcs.length) (hk : i < k) : fnL (part m k) ((part m k).funcs.getD i Enc.d) = fnL m (m.funcs.getD i Enc.d) := by
  have e : (part m k).funcs.getD i Enc.d = m.funcs.getD i Enc.d := getD_take _ _ _ hk
  have e2 : bkT (part m k) ((part m k).funcs.getD i Enc.d).blocks ((part m k).funcs.getD i Enc.d).blocks.length = bkT m ((part m k).funcs.getD i Enc.d).blocks ((part m k).funcs.getD i Enc.d).blocks.length := by
    refine preT_congr fun b hb => ?_
    congr 1
    exact preT_congr fun c hc => part_ins (InsOk.of (say5_ins hp hi hb hc) (hr.b i b c) (hr.n i b c).2)
  unfold fnL
  rw [e2, e]
theorem part_text {m : ModE} {k : Nat} (hk : k ≤ m.funcs.length) (hp : say5 (part m k) = true) (hr : ModR (part m k)) : ∃ r, textT m = textT (part m k) ++ r := by
  have hl : (part m k).funcs.length = k := by show (m.funcs.take k).length = k; rw [List.length_take]; omega
  obtain ⟨r, e⟩ := preT_app (g := fun i => fnL m (m.funcs.getD i Enc.d)) hk
  refine ⟨r, ?_⟩
  have e2 : fnsT (part m k) (part m k).funcs.length = preT (fun i => fnL m (m.funcs.getD i Enc.d)) k := by
    rw [hl]
    exact preT_congr fun i hi => part_fn hp hr (by omega) hi
  show (varsT m m.vars.length ++ extsT m m.exts.length) ++ preT (fun i => fnL m (m.funcs.getD i Enc.d)) m.funcs.length = ((varsT m m.vars.length ++ extsT m m.exts.length) ++ fnsT (part m k) (part m k).funcs.length) ++ r
  rw [e, e2]; simp only [ByteArray.append_assoc]
theorem part_mats (m : ModE) (k : Nat) (hk : k ≤ m.funcs.length) : mats [] [] ([AV.agg [eL m.vars, eL m.exts, AV.row none (Enc.sz FnE) (lenO none 0 (k : Int)) (offO none 0 fun i => Enc.enc (m.funcs.getD i Enc.d))]] ++ []) [eS (part m k)] := by
  have hkl : (m.funcs.take k).length = k := by rw [List.length_take]; omega
  refine And.intro (And.intro ⟨rfl, rfl, fun _ _ => rfl⟩ (And.intro ⟨rfl, rfl, fun _ _ => rfl⟩ (And.intro ⟨rfl, hkl.symm, fun i hi => ?_⟩ trivial))) trivial
  have hi : i < (m.funcs.take k).length := hi
  rw [hkl] at hi
  exact congrArg Enc.enc (getD_take m.funcs k i hi).symm
theorem SpellParts_S (m : ModE) (hm : siz m ≤ 1048576) (hr : Rng.rng m) : ASpec Tryd.prog 4 [eS m] (.b true) [] := by
  have h1 := ModR.of hr
  have h2 : siz m < 4294967296 := by omega
  have h3 := textT_bound hm hr
  refine ASpec.enter TYok mixed Tryd.func4 rfl Tryd.call4 Tryd.ntmps4 rfl (rs := [.tmp 2]) rfl (nodupB_ok rfl) (Clo.one rfl) (keep := [0, 1, 2, 3, 4, 5, 6]) ?_; conv => whnf
  have h4 : siz m = siz m.vars + siz m.exts + siz m.funcs := rfl
  have g3 := len_siz m.funcs
  repeat' first | (refine And.intro (fun (hb : _ = true) => ?_) (fun (hb : _ = false) => ?_) <;> (try simp only [pickB_or, pickB_and] at hb) <;> (have hc := hb; try simp only [Int.toNat_natCast, Int.reduceToNat, Bool.or_eq_false_iff, Bool.and_eq_false_iff, Bool.not_eq_false', decide_eq_true_eq, decide_eq_false_iff_not, Bool.not_eq_true', Bool.and_eq_true, Bool.or_eq_true] at hc) <;> first | (exfalso; omega) | conv => whnf) | (refine ⟨_, wr64 (by first | omega | (simp only [Int.toNat_natCast, Int.reduceToNat]; omega)) (by first | omega | (simp only [Int.toNat_natCast, Int.reduceToNat]; omega)), ?_⟩; conv => whnf) | (refine And.intro (by first | omega | (simp only [Int.toNat_natCast, Int.reduceToNat, addZ]; omega) | (simp only [ByteArray.size_append, size_mk, List.length_cons, List.length_nil, Int.toNat_natCast, Int.reduceToNat]; omega) | exact ⟨rfl, by omega⟩ | ((repeat' apply And.intro) <;> first | exact trivial | omega) | decide +kernel) ?_; conv => whnf) | (refine And.intro (fun (ht : tg _ _ = true) => by (simp only [tg_ite, tg_nil, cn, Nat.reduceMul, Nat.reduceAdd, Nat.reduceEqDiff, ↓reduceIte, pickB_or, pickB_and, Bool.and_eq_true, Bool.or_eq_true, Bool.or_eq_false_iff, Bool.and_eq_false_iff, Bool.not_eq_true', Bool.not_eq_false', decide_eq_true_eq, decide_eq_false_iff_not, Int.toNat_natCast, Int.reduceToNat, ne_eq] at ht ⊢; first | omega | (simp only [Int.toNat_natCast, Int.reduceToNat]; omega))) ?_; conv => whnf) | (refine ⟨_, shl1 (by omega), ?_⟩; conv => whnf) | (refine ⟨_, wru64 (by first | omega | (simp only [Int.toNat_natCast, Int.reduceToNat]; omega)) (by first | omega | (simp only [Int.toNat_natCast, Int.reduceToNat]; omega)), ?_⟩; conv => whnf) | (refine ⟨_, fun _ => (IntKind.wrap_u64 _).symm, ?_⟩; conv => whnf) | ((first | refine CallK.mk _ _ (fun _ => lives5_S) ?_ | refine CallL.mk _ _ (fun _ => lives5_S) rfl (fun _ _ h => nomatch h) ?_ | (refine CallW.lent ?_; (conv => whnf); refine CallL.mk _ _ (fun _ => lives5_S) rfl (fun _ _ h => nomatch h) ?_) | (refine CallW.lent ?_; (conv => whnf); refine And.intro (by omega) ?_; (conv => whnf); refine CallL.mk _ _ (fun _ => lives5_S) rfl (fun _ _ h => nomatch h) ?_)); conv => whnf) | ((first | refine CallK.mk _ _ (fun _ => Few_S m 5000 h2) ?_ | refine CallL.mk _ _ (fun _ => Few_S m 5000 h2) rfl (fun _ _ h => nomatch h) ?_ | (refine CallW.lent ?_; (conv => whnf); refine CallL.mk _ _ (fun _ => Few_S m 5000 h2) rfl (fun _ _ h => nomatch h) ?_) | (refine CallW.lent ?_; (conv => whnf); refine And.intro (by omega) ?_; (conv => whnf); refine CallL.mk _ _ (fun _ => Few_S m 5000 h2) rfl (fun _ _ h => nomatch h) ?_)); conv => whnf) | ((first | refine CallK.mk _ _ (fun _ => Sayable_S m h2 h1.n) ?_ | refine CallL.mk _ _ (fun _ => Sayable_S m h2 h1.n) rfl (fun _ _ h => nomatch h) ?_ | (refine CallW.lent ?_; (conv => whnf); refine CallL.mk _ _ (fun _ => Sayable_S m h2 h1.n) rfl (fun _ _ h => nomatch h) ?_) | (refine CallW.lent ?_; (conv => whnf); refine And.intro (by omega) ?_; (conv => whnf); refine CallL.mk _ _ (fun _ => Sayable_S m h2 h1.n) rfl (fun _ _ h => nomatch h) ?_)); conv => whnf) | ((first | refine CallK.mk _ _ (fun _ => Text_S m h2 h1 h3) ?_ | refine CallL.mk _ _ (fun _ => Text_S m h2 h1 h3) rfl (fun _ _ h => nomatch h) ?_ | (refine CallW.lent ?_; (conv => whnf); refine CallL.mk _ _ (fun _ => Text_S m h2 h1 h3) rfl (fun _ _ h => nomatch h) ?_) | (refine CallW.lent ?_; (conv => whnf); refine And.intro (by omega) ?_; (conv => whnf); refine CallL.mk _ _ (fun _ => Text_S m h2 h1 h3) rfl (fun _ _ h => nomatch h) ?_)); conv => whnf) | exact ⟨_, .keep rfl rfl⟩ | fail
  · simp at hb
  have hsay := hc.2
  refine lp [4] (fun q : Nat => [.i .i64 ((m.funcs.length : Int) - q)]) (fun q => [(1, bx m)]) (fun q => q ≤ m.funcs.length + 1) (fun q => m.funcs.length + 1 - q) 0 (by omega) ?_ fun q hq => ?_
  · refine Ent.lp [] [] rfl rfl rfl ?_ ?_ <;> repeat' first | exact trivial | rfl | exact fun _ _ => rfl | omega | refine And.intro ?_ ?_ | (show (_ : Int) = _; first | omega | (simp only [Int.toNat_natCast]; omega))
  conv => whnf
  rcases Nat.lt_or_ge m.funcs.length q with hlt | hge
  · repeat' first | (refine And.intro (fun (hb : _ = true) => ?_) (fun (hb : _ = false) => ?_) <;> (try simp only [pickB_or, pickB_and] at hb) <;> (have hc := hb; try simp only [Int.toNat_natCast, Int.reduceToNat, Bool.or_eq_false_iff, Bool.and_eq_false_iff, Bool.not_eq_false', decide_eq_true_eq, decide_eq_false_iff_not, Bool.not_eq_true', Bool.and_eq_true, Bool.or_eq_true] at hc) <;> first | (exfalso; omega) | conv => whnf) | (refine ⟨_, wr64 (by first | omega | (simp only [Int.toNat_natCast, Int.reduceToNat]; omega)) (by first | omega | (simp only [Int.toNat_natCast, Int.reduceToNat]; omega)), ?_⟩; conv => whnf) | (refine And.intro (by first | omega | (simp only [Int.toNat_natCast, Int.reduceToNat, addZ]; omega) | (simp only [ByteArray.size_append, size_mk, List.length_cons, List.length_nil, Int.toNat_natCast, Int.reduceToNat]; omega) | exact ⟨rfl, by omega⟩ | ((repeat' apply And.intro) <;> first | exact trivial | omega) | decide +kernel) ?_; conv => whnf) | (refine And.intro (fun (ht : tg _ _ = true) => by (simp only [tg_ite, tg_nil, cn, Nat.reduceMul, Nat.reduceAdd, Nat.reduceEqDiff, ↓reduceIte, pickB_or, pickB_and, Bool.and_eq_true, Bool.or_eq_true, Bool.or_eq_false_iff, Bool.and_eq_false_iff, Bool.not_eq_true', Bool.not_eq_false', decide_eq_true_eq, decide_eq_false_iff_not, Int.toNat_natCast, Int.reduceToNat, ne_eq] at ht ⊢; first | omega | (simp only [Int.toNat_natCast, Int.reduceToNat]; omega))) ?_; conv => whnf) | (refine ⟨_, shl1 (by omega), ?_⟩; conv => whnf) | (refine ⟨_, wru64 (by first | omega | (simp only [Int.toNat_natCast, Int.reduceToNat]; omega)) (by first | omega | (simp only [Int.toNat_natCast, Int.reduceToNat]; omega)), ?_⟩; conv => whnf) | (refine ⟨_, fun _ => (IntKind.wrap_u64 _).symm, ?_⟩; conv => whnf) | exact ⟨_, .keep rfl rfl⟩ | fail
  · obtain ⟨k, hk, hkq⟩ : ∃ k : Nat, (m.funcs.length : Int) - q = k ∧ k ≤ m.funcs.length := ⟨m.funcs.length - q, by omega, by omega⟩
    rw [hk]
    have p1 := part_siz m k
    have p2 := part_rng hr k
    have p3 := ModR.of p2
    have p4 := textT_bound (Nat.le_trans p1 hm) p2
    have p5 := part_mats m k hkq
    repeat' first | (refine And.intro (fun (hb : _ = true) => ?_) (fun (hb : _ = false) => ?_) <;> (try simp only [pickB_or, pickB_and] at hb) <;> (have hc := hb; try simp only [Int.toNat_natCast, Int.reduceToNat, Bool.or_eq_false_iff, Bool.and_eq_false_iff, Bool.not_eq_false', decide_eq_true_eq, decide_eq_false_iff_not, Bool.not_eq_true', Bool.and_eq_true, Bool.or_eq_true] at hc) <;> first | (exfalso; omega) | conv => whnf) | (refine ⟨_, wr64 (by first | omega | (simp only [Int.toNat_natCast, Int.reduceToNat]; omega)) (by first | omega | (simp only [Int.toNat_natCast, Int.reduceToNat]; omega)), ?_⟩; conv => whnf) | (refine And.intro (by first | omega | (simp only [Int.toNat_natCast, Int.reduceToNat, addZ]; omega) | (simp only [ByteArray.size_append, size_mk, List.length_cons, List.length_nil, Int.toNat_natCast, Int.reduceToNat]; omega) | exact ⟨rfl, by omega⟩ | ((repeat' apply And.intro) <;> first | exact trivial | omega) | decide +kernel) ?_; conv => whnf) | (refine And.intro (fun (ht : tg _ _ = true) => by (simp only [tg_ite, tg_nil, cn, Nat.reduceMul, Nat.reduceAdd, Nat.reduceEqDiff, ↓reduceIte, pickB_or, pickB_and, Bool.and_eq_true, Bool.or_eq_true, Bool.or_eq_false_iff, Bool.and_eq_false_iff, Bool.not_eq_true', Bool.not_eq_false', decide_eq_true_eq, decide_eq_false_iff_not, Int.toNat_natCast, Int.reduceToNat, ne_eq] at ht ⊢; first | omega | (simp only [Int.toNat_natCast, Int.reduceToNat]; omega))) ?_; conv => whnf) | (refine ⟨_, shl1 (by omega), ?_⟩; conv => whnf) | (refine ⟨_, wru64 (by first | omega | (simp only [Int.toNat_natCast, Int.reduceToNat]; omega)) (by first | omega | (simp only [Int.toNat_natCast, Int.reduceToNat]; omega)), ?_⟩; conv => whnf) | (refine ⟨_, fun _ => (IntKind.wrap_u64 _).symm, ?_⟩; conv => whnf) | ((first | refine CallK.mk _ _ (fun _ => Copy_S m h2) ?_ | refine CallL.mk _ _ (fun _ => Copy_S m h2) rfl (fun _ _ h => nomatch h) ?_ | (refine CallW.lent ?_; (conv => whnf); refine CallL.mk _ _ (fun _ => Copy_S m h2) rfl (fun _ _ h => nomatch h) ?_) | (refine CallW.lent ?_; (conv => whnf); refine And.intro (by omega) ?_; (conv => whnf); refine CallL.mk _ _ (fun _ => Copy_S m h2) rfl (fun _ _ h => nomatch h) ?_)); conv => whnf) | ((first | refine CallK.mk _ _ (fun _ => (Sayable_S (part m k) (Nat.lt_of_le_of_lt p1 h2) p3.n).mats p5) ?_ | refine CallL.mk _ _ (fun _ => (Sayable_S (part m k) (Nat.lt_of_le_of_lt p1 h2) p3.n).mats p5) rfl (fun _ _ h => nomatch h) ?_ | (refine CallW.lent ?_; (conv => whnf); refine CallL.mk _ _ (fun _ => (Sayable_S (part m k) (Nat.lt_of_le_of_lt p1 h2) p3.n).mats p5) rfl (fun _ _ h => nomatch h) ?_) | (refine CallW.lent ?_; (conv => whnf); refine And.intro (by omega) ?_; (conv => whnf); refine CallL.mk _ _ (fun _ => (Sayable_S (part m k) (Nat.lt_of_le_of_lt p1 h2) p3.n).mats p5) rfl (fun _ _ h => nomatch h) ?_)); conv => whnf) | ((first | refine CallK.mk _ _ (fun _ => (Text_S (part m k) (Nat.lt_of_le_of_lt p1 h2) p3 p4).mats p5) ?_ | refine CallL.mk _ _ (fun _ => (Text_S (part m k) (Nat.lt_of_le_of_lt p1 h2) p3 p4).mats p5) rfl (fun _ _ h => nomatch h) ?_ | (refine CallW.lent ?_; (conv => whnf); refine CallL.mk _ _ (fun _ => (Text_S (part m k) (Nat.lt_of_le_of_lt p1 h2) p3 p4).mats p5) rfl (fun _ _ h => nomatch h) ?_) | (refine CallW.lent ?_; (conv => whnf); refine And.intro (by omega) ?_; (conv => whnf); refine CallL.mk _ _ (fun _ => (Text_S (part m k) (Nat.lt_of_le_of_lt p1 h2) p3 p4).mats p5) rfl (fun _ _ h => nomatch h) ?_)); conv => whnf) | exact ⟨_, .keep rfl rfl⟩ | fail
    · exfalso
      rename_i hy2 hx2 hy1 hx1
      have hp : say5 (part m k) = true := (sayP_eq _).symm.trans hx1
      have hw : say5 m = true := (sayP_eq _).symm.trans hsay
      obtain ⟨r, e⟩ := part_text hkq hp p3
      rw [text5, if_pos hw, text5, if_pos hp, e, ByteArray.size_append] at hc
      rcases hc with hc | hc
      · omega
      · exact hc (ByteArray.extract_append_eq_left rfl)
    · refine .mk (q + 1) (by omega) (by omega) ?_
      refine Ent.lp [] [] rfl rfl rfl ?_ ?_ <;> repeat' first | exact trivial | rfl | exact fun _ _ => rfl | omega | refine And.intro ?_ ?_ | (show (_ : Int) = _; first | omega | (simp only [Int.toNat_natCast]; omega))
end Go.Proofs.YtilhkmlghhdpaaaDoor

/- What the rows of this seat list of variables. -/
namespace Go.Proofs.YtilhkmlghhdpaaaDoor
open Go.RowKit
set_option linter.unusedVariables false
set_option maxRecDepth 100000
theorem doorOwn : ownKnob Tryd.prog.godebug = none := by kernel_rfl
theorem doorLaidOut : laidOutB Tryd.prog = true := by kernel_rfl
/-- What a row of this seat lists. -/
def doorLaid : List (String × DataW Unit) := [("math/bits.deBruijn32tab", Rows.laid_math_bits_deBruijn32tab), ("math/bits.deBruijn64tab", Rows.laid_math_bits_deBruijn64tab), ("internal/strconv.uint64pow10", Rows.laid_internal_strconv_uint64pow10), ("unicode.White_Space", Rows.laid_unicode_White_Space), ("strings.asciiSpace", Rows.laid_strings_asciiSpace)]
theorem vars_of {w : World} (h : laidMetH Tryd.prog doorLaid w) : Vr w := by
  have hL : laidMet Tryd.prog doorLaid w := h
  have e1 : (Rows.laid_internal_strconv_uint64pow10 : DataW Unit) = Lib.tabData .u64 Lib.pow10Tab := by kernel_rfl
  have e2 : (Rows.laid_strings_asciiSpace : DataW Unit) = Lib.tabData .u8 Lib.asciiSpaceTab := by kernel_rfl
  unfold doorLaid at hL
  rw [e1, e2] at hL
  refine ⟨?_, ?_⟩
  · exact Lib.tabIs_of_head (g := 2) (by kernel_rfl) (by kernel_rfl) Tryd.underlying123 Tryd.underlying69 (by kernel_rfl) (by kernel_rfl) hL.tail.tail
  · exact Lib.tabIs_of_head (g := 0) (by kernel_rfl) (by kernel_rfl) Tryd.underlying100 Tryd.underlying5 (by kernel_rfl) (by kernel_rfl) hL.tail.tail.tail.tail
theorem vars_stay {w : World} (h : Vr w) : Rob allS w Vr := fun w' hs hq => by
  have hb : ∀ {g : Nat} {n : String} {k : IntKind} {zs : List Int}, Tryd.prog.globalNamed n = some g → Lib.TabIs Tryd.prog w n k zs → Lib.TabIs Tryd.prog w' n k zs := fun {g n k zs} hg ht => by
    unfold Lib.TabIs World.var? at ht ⊢
    rw [hg, Option.bind_some] at ht ⊢
    have hlt : g < w.heap.size := by
      rcases Nat.lt_or_ge g w.heap.size with q | q
      · exact q
      · rw [Array.getElem?_eq_none q] at ht; cases ht
    rw [hq g hlt trivial]; exact ht
  exact ⟨hb (g := 2) (by kernel_rfl) h.1, hb (g := 0) (by kernel_rfl) h.2⟩
theorem laid_met (os : Go.Os) (args : Array Value) : laidMet Tryd.prog doorLaid ((World.laidAll Tryd.prog os doorLaid).forCall (fun _ _ => 0) ⟨#[], args, []⟩).memory :=
  laidMet_laidAll args (by kernel_rfl) (by kernel_rfl)
end Go.Proofs.YtilhkmlghhdpaaaDoor
