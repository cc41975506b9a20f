/- The engine and the contracts of the functions that the statement reaches, part 6. -/
import Derived.Test.YtjfdbmfcnhjfoaaMe
import Derived.Shelf.RegionOpenPlain
import Derived.Deep.LoopGhost
import Derived.Deep.RegionLaw
import Derived.Deep.MidRow
import Derived.Lib.Walk
import Derived.Lib.SliceRun
import Derived.Lib.SlicesDelete
set_option linter.unusedVariables false
set_option linter.unusedSimpArgs false
set_option maxRecDepth 100000
set_option maxHeartbeats 8000000
namespace Go.Proofs.Ytjfdbmfcnhjfoaa
open Go.RowKit
def ovC (c : List InsE) (a k : Nat) : Int :=
  let x := c.getD (a + 1 + k) Enc.d
  let s := c.getD a Enc.d
  if x.op = 27 ∨ x.op = 30 then 1 else if x.op = 28 ∧ x.t = s.t ∧ x.args.getD 1 Enc.d = s.args.getD 1 Enc.d then 2 else 0
def overB (c : List InsE) (a : Nat) : Bool := match firstC (ovC c a) (c.length - (a + 1)) with
  | some k => decide (ovC c a k = 2)
  | none => false
theorem ov1 {c : List InsE} {a k : Nat} (h : (c.getD (a + 1 + k) Enc.d).op = 27 ∨ (c.getD (a + 1 + k) Enc.d).op = 30) : ovC c a k = 1 := by unfold ovC; dsimp only; rw [if_pos h]
theorem ov2 {c : List InsE} {a k : Nat} (h : ¬((c.getD (a + 1 + k) Enc.d).op = 27 ∨ (c.getD (a + 1 + k) Enc.d).op = 30)) (h2 : (c.getD (a + 1 + k) Enc.d).op = 28 ∧ (c.getD (a + 1 + k) Enc.d).t = (c.getD a Enc.d).t ∧ (c.getD (a + 1 + k) Enc.d).args.getD 1 Enc.d = (c.getD a Enc.d).args.getD 1 Enc.d) : ovC c a k = 2 := by unfold ovC; dsimp only; rw [if_neg h, if_pos h2]
theorem ov0 {c : List InsE} {a k : Nat} (h : ¬((c.getD (a + 1 + k) Enc.d).op = 27 ∨ (c.getD (a + 1 + k) Enc.d).op = 30)) (h2 : ¬((c.getD (a + 1 + k) Enc.d).op = 28 ∧ (c.getD (a + 1 + k) Enc.d).t = (c.getD a Enc.d).t ∧ (c.getD (a + 1 + k) Enc.d).args.getD 1 Enc.d = (c.getD a Enc.d).args.getD 1 Enc.d)) : ovC c a k = 0 := by unfold ovC; dsimp only; rw [if_neg h, if_neg h2]
theorem over_at {c : List InsE} {a q : Nat} (hq : q < c.length - (a + 1)) (hv : ∀ i, i < q → ovC c a i = 0) (h : ovC c a q ≠ 0) : overB c a = decide (ovC c a q = 2) := by
  unfold overB; rw [firstC_at hq hv h]
theorem Opd_ext {x y : Opd} (h : x.k = y.k ∧ x.n = y.n ∧ x.b = y.b) : x = y := by
  cases x; cases y; simp_all
theorem over_S (c : List InsE) (a : Nat) (ha : a < c.length) (hl : c.length < 4294967296) (hs : ∀ i, (c.getD i Enc.d).op = 28 → 2 ≤ (c.getD i Enc.d).args.length) (h2 : ∀ i, (c.getD i Enc.d).args.length < 4294967296) (h3 : (c.getD a Enc.d).op = 28) : ASpec Try.prog 26 [eL c, .i .i64 a] (.b (overB c a)) [] := by
  have hsa := hs a h3
  have h2a := h2 a
  have hlo : lenO (some (AV.i .i64 ((a : Int) + 1))) ((a : Int) + 1) (c.length : Int) = c.length - (a + 1) := by show Int.toNat _ = _; omega
  refine ASpec.enter TYok mixed Try.func26 rfl Try.call26 Try.ntmps26 rfl (rs := [.tmp 4]) rfl (nodupB_ok rfl) (Clo.one rfl) (keep := [0, 1, 4, 5, 7, 15, 16, 17]) ?_; conv => whnf
  repeat' first | (refine iF (fun hb => ?_) (fun hb => ?_) <;> (try simp only [pickB_or, pickB_and] at hb) <;> (have hc := hb; try simp only [sB, Int.reduceToNat] at hc; try simp only [addZ0] at hc) <;> first | (exfalso; omega) | conv => whnf) | ((first | refine ⟨_, wr64 ti ti, ?_⟩ | refine And.intro si ?_ | refine LitW.frz ?_ | refine PreW.frz ?_ | refine AppW.cp ?_ | refine TakW.row ?_ | refine dD ?_ | refine dF ?_ | refine d0 ?_ | refine d1 ?_ | refine dL ?_ | refine dP ?_ | refine And.intro tgi ?_ | refine ⟨_, shl1 (by omega), ?_⟩ | refine ⟨_, wru64 ti ti, ?_⟩ | refine ⟨_, fun _ => (IntKind.wrap_u64 _).symm, ?_⟩); conv => whnf) | (refine CallV.ret ?_; conv => whnf) | exact ⟨_, .keep rfl rfl⟩ | fail
  refine lp [17] (fun q : Nat => [.i .i64 q]) (fun q => [(5, bx (c.getD a Enc.d))]) (fun q => q ≤ c.length - (a + 1) ∧ ∀ i, i < q → ovC c a i = 0) (fun q => c.length - (a + 1) - q) 0 ⟨by omega, fun i h => by omega⟩ ?_ fun q hq => ?_
  · refine eP [] [] ?_ ?_ <;> repeat' first | exact eN | refine And.intro ?_ ?_
  conv => whnf
  obtain ⟨hq, hv⟩ := hq
  have hidx : ((a : Int) + 1).toNat + q = a + 1 + q := by omega
  have hsq := hs (((a : Int) + 1).toNat + q)
  have h2q := h2 (((a : Int) + 1).toNat + q)
  repeat' first | (refine iF (fun hb => ?_) (fun hb => ?_) <;> (try simp only [pickB_or, pickB_and] at hb) <;> (have hc := hb; try simp only [sB, Int.reduceToNat] at hc; try simp only [addZ0] at hc) <;> first | (exfalso; omega) | conv => whnf) | ((first | refine ⟨_, wr64 ti ti, ?_⟩ | refine And.intro si ?_ | refine LitW.frz ?_ | refine PreW.frz ?_ | refine AppW.cp ?_ | refine TakW.row ?_ | refine dD ?_ | refine dF ?_ | refine d0 ?_ | refine d1 ?_ | refine dL ?_ | refine dP ?_ | refine And.intro tgi ?_ | refine ⟨_, shl1 (by omega), ?_⟩ | refine ⟨_, wru64 ti ti, ?_⟩ | refine ⟨_, fun _ => (IntKind.wrap_u64 _).symm, ?_⟩); conv => whnf) | (refine CallV.ret ?_; conv => whnf) | exact ⟨_, .keep rfl rfl⟩ | fail
  · refine ⟨_, .keep (congrArg AV.b ?_) rfl⟩
    rw [hidx] at hc
    have e := ov1 hc
    rw [over_at (by omega) hv (by rw [e]; decide), e]; rfl
  · rename_i hc0
    refine ⟨_, .keep (congrArg AV.b ?_) rfl⟩
    rw [hidx] at hc hc0
    have e := ov2 (fun h => by omega) ⟨hc.1.1, hc.1.2, Opd_ext hc.2⟩
    rw [over_at (by omega) hv (by rw [e]; decide), e]; rfl
  · rename_i hc0
    rw [hidx] at hc hc0
    refine .mk (q + 1) ⟨by omega, all_step hv (ov0 (fun h => by omega) fun h => ?_)⟩ (by omega) ?_
    · rw [h.1, h.2.1, h.2.2] at hc; simp at hc
    · refine eP [] [] ?_ ?_ <;> repeat' first | exact eN | refine And.intro ?_ ?_
  · refine ⟨_, .keep (congrArg AV.b ?_) rfl⟩
    unfold overB
    rw [firstC_no fun i hi => hv i (by omega)]
def idxP (l : List Plc) (x : Plc) (i : Nat) : Int := if x = l.getD i Enc.d then 1 else 0
def IndexP (l : List Plc) (x : Plc) : Int := match firstC (idxP l x) l.length with
  | some i => i
  | none => -1
theorem Plc_ext {x y : Plc} : x = y ↔ (x.f = y.f ∧ x.b = y.b ∧ x.i = y.i) := by
  cases x; cases y; simp
theorem IndexP_S (l : List Plc) (x : Plc) (hl : l.length < 4294967296) : ASpec Try.prog 85 [eL l, eS x] (.i .i64 (IndexP l x)) [] := by
  refine ASpec.enter TYok mixed Try.func85 rfl Try.call85 Try.ntmps85 rfl (rs := [.tmp 4]) rfl (nodupB_ok rfl) (Clo.one rfl) (keep := [0, 1, 3, 4, 5, 7, 8]) ?_; conv => whnf
  repeat' first | (refine iF (fun hb => ?_) (fun hb => ?_) <;> (try simp only [pickB_or, pickB_and] at hb) <;> (have hc := hb; try simp only [sB, Int.reduceToNat] at hc; try simp only [addZ0] at hc) <;> first | (exfalso; omega) | conv => whnf) | ((first | refine ⟨_, wr64 ti ti, ?_⟩ | refine And.intro si ?_ | refine LitW.frz ?_ | refine PreW.frz ?_ | refine AppW.cp ?_ | refine TakW.row ?_ | refine dD ?_ | refine dF ?_ | refine d0 ?_ | refine d1 ?_ | refine dL ?_ | refine dP ?_ | refine And.intro tgi ?_ | refine ⟨_, shl1 (by omega), ?_⟩ | refine ⟨_, wru64 ti ti, ?_⟩ | refine ⟨_, fun _ => (IntKind.wrap_u64 _).symm, ?_⟩); conv => whnf) | (refine CallV.ret ?_; conv => whnf) | exact ⟨_, .keep rfl rfl⟩ | fail
  refine lp [8] (fun q : Nat => [.i .i64 q]) (fun q => [(3, bx x)]) (fun q => q ≤ l.length ∧ ∀ i, i < q → idxP l x i = 0) (fun q => l.length - q) 0 ⟨by omega, fun i h => by omega⟩ ?_ fun q hq => ?_
  · refine eP [] [] ?_ ?_ <;> repeat' first | exact eN | refine And.intro ?_ ?_
  conv => whnf
  obtain ⟨hq, hv⟩ := hq
  repeat' first | (refine iF (fun hb => ?_) (fun hb => ?_) <;> (try simp only [pickB_or, pickB_and] at hb) <;> (have hc := hb; try simp only [sB, Int.reduceToNat] at hc; try simp only [addZ0] at hc) <;> first | (exfalso; omega) | conv => whnf) | ((first | refine ⟨_, wr64 ti ti, ?_⟩ | refine And.intro si ?_ | refine LitW.frz ?_ | refine PreW.frz ?_ | refine AppW.cp ?_ | refine TakW.row ?_ | refine dD ?_ | refine dF ?_ | refine d0 ?_ | refine d1 ?_ | refine dL ?_ | refine dP ?_ | refine And.intro tgi ?_ | refine ⟨_, shl1 (by omega), ?_⟩ | refine ⟨_, wru64 ti ti, ?_⟩ | refine ⟨_, fun _ => (IntKind.wrap_u64 _).symm, ?_⟩); conv => whnf) | (refine CallV.ret ?_; conv => whnf) | exact ⟨_, .keep rfl rfl⟩ | fail
  · exact ⟨_, .keep (by rw [IndexP, firstC_at (by omega) hv (by unfold idxP; rw [if_pos (Plc_ext.2 hc)]; decide)]) rfl⟩
  · refine .mk (q + 1) ⟨by omega, all_step hv (by unfold idxP; rw [if_neg fun h => (by have := Plc_ext.1 h; omega)])⟩ (by omega) ?_
    refine eP [] [] ?_ ?_ <;> repeat' first | exact eN | refine And.intro ?_ ?_
  · exact ⟨_, .keep (by rw [IndexP, firstC_no fun i hi => hv i (by omega)]) rfl⟩
theorem IndexP_has (l : List Plc) (x : Plc) : decide (0 ≤ IndexP l x) = decide (x ∈ l) := by
  unfold IndexP
  cases hq : firstC (idxP l x) l.length with
  | some i =>
    have h1 := List.mem_of_find?_eq_some hq
    have h2 := List.find?_some hq
    simp only [List.mem_range] at h1
    have h3 : x = l.getD i Enc.d := by
      unfold idxP at h2; split at h2
      · assumption
      · simp at h2
    have h4 : x ∈ l := by
      rw [h3, List.getD_eq_getElem?_getD, List.getElem?_eq_getElem h1]; exact List.getElem_mem h1
    simp [h4]
  | none =>
    have h1 : x ∉ l := by
      intro hm
      obtain ⟨i, hi, rfl⟩ := List.getElem_of_mem hm
      have := List.find?_eq_none.1 hq i (List.mem_range.2 hi)
      unfold idxP at this
      rw [List.getD_eq_getElem?_getD, List.getElem?_eq_getElem hi] at this
      simp at this
    simp [h1]
theorem ContP_S (l : List Plc) (x : Plc) (hl : l.length < 4294967296) : ASpec Try.prog 50 [eL l, eS x] (.b (decide (x ∈ l))) [] := by
  rw [← IndexP_has]
  refine ASpec.enter TYok mixed Try.func50 rfl Try.call50 Try.ntmps50 rfl (rs := [.tmp 4]) rfl (nodupB_ok rfl) (Clo.one rfl) (keep := [0, 1, 3, 4]) ?_; conv => whnf
  repeat' first | (refine iF (fun hb => ?_) (fun hb => ?_) <;> (try simp only [pickB_or, pickB_and] at hb) <;> (have hc := hb; try simp only [sB, Int.reduceToNat] at hc; try simp only [addZ0] at hc) <;> first | (exfalso; omega) | conv => whnf) | ((first | refine ⟨_, wr64 ti ti, ?_⟩ | refine And.intro si ?_ | refine LitW.frz ?_ | refine PreW.frz ?_ | refine AppW.cp ?_ | refine TakW.row ?_ | refine dD ?_ | refine dF ?_ | refine d0 ?_ | refine d1 ?_ | refine dL ?_ | refine dP ?_ | refine And.intro tgi ?_ | refine ⟨_, shl1 (by omega), ?_⟩ | refine ⟨_, wru64 ti ti, ?_⟩ | refine ⟨_, fun _ => (IntKind.wrap_u64 _).symm, ?_⟩); conv => whnf) | ((first | refine cK (fun _ => IndexP_S _ _ hl) ?_ | ((try (refine CallW.lent ?_; (conv => whnf); repeat (refine And.intro si ?_; (conv => whnf)))); refine cL (fun _ => IndexP_S _ _ hl) ?_)); conv => whnf) | (refine CallV.ret ?_; conv => whnf) | exact ⟨_, .keep rfl rfl⟩ | fail
def useAt (f : FnE) (b i b' i' : Nat) : Prop := isLoad f ⟨0, (b' : Int), (i' : Int)⟩ ∧ (⟨0, (b : Int), (i : Int)⟩ : Plc) ∈ srcL f (insE f b' i') b' i'
def usdP (f : FnE) (b i : Nat) : Prop := ∃ b' i', b' < f.blocks.length ∧ i' < lenE f b' ∧ useAt f b i b' i'
noncomputable def usdB (f : FnE) (b i : Nat) : Bool := @decide (usdP f b i) (Classical.propDecidable _)
theorem srcL_len {f : FnE} (hs : OkF f) (y : InsE) (b i : Nat) : (srcL f y b i).length < 4294967296 := by
  unfold srcL
  rw [List.length_map]
  exact Nat.lt_of_le_of_lt (Nat.le_trans (List.length_filter_le _ _) (Code_siz f)) hs.sz
theorem usd_t {f : FnE} {b i : Nat} (h : usdP f b i) : usdB f b i = true := @decide_eq_true _ (Classical.propDecidable _) h
theorem usd_f {f : FnE} {b i : Nat} (h : ¬usdP f b i) : usdB f b i = false := @decide_eq_false _ (Classical.propDecidable _) h
theorem all_lt {P : Nat → Prop} {k : Nat} (h : ∀ i, i < k → ¬P i) (hk : ¬P k) : ∀ i, i < k + 1 → ¬P i := fun i hi => by
  rcases Nat.lt_or_ge i k with h1 | h1
  · exact h i h1
  · rw [show i = k by omega]; exact hk
theorem all_lt2 {P : Nat → Nat → Prop} {n : Nat → Nat} {k : Nat} (h : ∀ b, b < k → ∀ i, i < n b → ¬P b i) (hk : ∀ i, i < n k → ¬P k i) : ∀ b, b < k + 1 → ∀ i, i < n b → ¬P b i := fun b hb => by
  rcases Nat.lt_or_ge b k with h1 | h1
  · exact h b h1
  · rw [show b = k by omega]; exact hk
theorem alone_no {f : FnE} {v : Opd} (h : ¬v.k = 1) : aloneE f v = false := by
  unfold aloneE allocaE Maker
  rw [if_neg (fun h' => h h'.1)]; rfl
theorem alone_reg {f : FnE} {v : Opd} (h1 : v.k = 1) : aloneE f v = (((Def f v.n).2 && decide (((f.blocks.getD (Def f v.n).1.b.toNat Enc.d).code.getD (Def f v.n).1.i.toNat Enc.d).op = 26)) && !EscE f v.n) := by
  unfold aloneE allocaE Maker
  cases hd : (Def f v.n).2 with
  | true => rw [if_pos ⟨h1, rfl⟩, Bool.true_and]
  | false => rw [if_neg (fun h => by cases h.2)]; rfl
theorem unread_S (f : FnE) (pf : Int) (pb pi : Nat) (hs : OkF f) (ha : OkA f) (h1 : pb < f.blocks.length) (h2 : pi < lenE f pb) (h3 : (insE f pb pi).op = 28) :
    ASpec Try.prog 27 [eS f, eS (⟨pf, (pb : Int), (pi : Int)⟩ : Plc)] (.b (aloneE f (RootE f ((insE f pb pi).args.getD 1 Enc.d)).v && !usdB f pb pi)) [] := by
  have hz := hs.sz
  have hbl := blocks_le f
  have hcl := code_le f pb
  have h2' : pi < (f.blocks.getD pb Enc.d).code.length := h2
  have hst : 2 ≤ ((f.blocks.getD pb Enc.d).code.getD pi Enc.d).args.length := ha.st pb pi h2 h3
  have hal : ((f.blocks.getD pb Enc.d).code.getD pi Enc.d).args.length < 4294967296 := Nat.lt_of_le_of_lt (Nat.le_trans (args_le _) (ins_le f pb pi)) hz
  have hrn : inI ((insE f pb pi).args.getD 1 Enc.d).n := hs.arg pb pi 1
  have hro := Root_in hs hrn
  obtain ⟨r, hr⟩ : ∃ r, r = (RootE f ((insE f pb pi).args.getD 1 Enc.d)).v := ⟨_, rfl⟩
  have hDef : (Def f r.n).2 = true → (∃ b i : Nat, (Def f r.n).1 = ⟨0, b, i⟩ ∧ b < f.blocks.length ∧ i < (f.blocks.getD b Enc.d).code.length) := fun h => by
    obtain ⟨b, i, h1, h2, h3⟩ := Def_mem h; exact ⟨b, i, h3, h1, h2⟩
  have hRt := pRoot_S f ((insE f pb pi).args.getD 1 Enc.d) hs hrn
  rw [← hr] at hRt hro ⊢
  have hEs := pEscapes_S f r.n hs hro
  have hD := irDef_S f r.n hz
  refine ASpec.enter TYok mixed Try.func27 rfl Try.call27 Try.ntmps27 rfl (rs := [.tmp 4]) rfl (nodupB_ok rfl) (Clo.one rfl) (keep := [0, 1, 2, 3, 4, 5, 8, 9, 10, 11, 12, 13, 14, 70, 71, 72, 78, 79, 80]) ?_; conv => whnf
  repeat' first | (refine iF (fun hb => ?_) (fun hb => ?_) <;> (try simp only [pickB_or, pickB_and] at hb) <;> (have hc := hb; try simp only [sB, Int.reduceToNat] at hc; try simp only [addZ0] at hc) <;> first | (exfalso; omega) | conv => whnf) | ((first | refine ⟨_, wr64 ti ti, ?_⟩ | refine And.intro si ?_ | refine LitW.frz ?_ | refine PreW.frz ?_ | refine AppW.cp ?_ | refine TakW.row ?_ | refine dD ?_ | refine dF ?_ | refine d0 ?_ | refine d1 ?_ | refine dL ?_ | refine dP ?_ | refine And.intro tgi ?_ | refine ⟨_, shl1 (by omega), ?_⟩ | refine ⟨_, wru64 ti ti, ?_⟩ | refine ⟨_, fun _ => (IntKind.wrap_u64 _).symm, ?_⟩); conv => whnf) | ((first | refine cK (fun _ => hRt) ?_ | ((try (refine CallW.lent ?_; (conv => whnf); repeat (refine And.intro si ?_; (conv => whnf)))); refine cL (fun _ => hRt) ?_)); conv => whnf) | (refine CallV.ret ?_; conv => whnf) | exact ⟨_, .keep rfl rfl⟩ | fail
  · exact ⟨_, .keep (by rw [alone_no hc]; rfl) rfl⟩
  have hk := hc
  have hal := alone_reg (f := f) hk
  cases hd : (Def f r.n).2 with
  | false =>
    rw [hd] at hD hal
    rw [show aloneE f r = false from hal.trans (by simp)]
    repeat' first | (refine iF (fun hb => ?_) (fun hb => ?_) <;> (try simp only [pickB_or, pickB_and] at hb) <;> (have hc := hb; try simp only [sB, Int.reduceToNat] at hc; try simp only [addZ0] at hc) <;> first | (exfalso; omega) | conv => whnf) | ((first | refine ⟨_, wr64 ti ti, ?_⟩ | refine And.intro si ?_ | refine LitW.frz ?_ | refine PreW.frz ?_ | refine AppW.cp ?_ | refine TakW.row ?_ | refine dD ?_ | refine dF ?_ | refine d0 ?_ | refine d1 ?_ | refine dL ?_ | refine dP ?_ | refine And.intro tgi ?_ | refine ⟨_, shl1 (by omega), ?_⟩ | refine ⟨_, wru64 ti ti, ?_⟩ | refine ⟨_, fun _ => (IntKind.wrap_u64 _).symm, ?_⟩); conv => whnf) | ((first | refine cK (fun _ => hD) ?_ | ((try (refine CallW.lent ?_; (conv => whnf); repeat (refine And.intro si ?_; (conv => whnf)))); refine cL (fun _ => hD) ?_)); conv => whnf) | ((first | refine cK (fun _ => hEs) ?_ | ((try (refine CallW.lent ?_; (conv => whnf); repeat (refine And.intro si ?_; (conv => whnf)))); refine cL (fun _ => hEs) ?_)); conv => whnf) | (refine CallV.ret ?_; conv => whnf) | exact ⟨_, .keep rfl rfl⟩ | fail
    refine And.intro (fun h => absurd h (by decide)) ?_
    conv => whnf
    repeat' first | (refine iF (fun hb => ?_) (fun hb => ?_) <;> (try simp only [pickB_or, pickB_and] at hb) <;> (have hc := hb; try simp only [sB, Int.reduceToNat] at hc; try simp only [addZ0] at hc) <;> first | (exfalso; omega) | conv => whnf) | ((first | refine ⟨_, wr64 ti ti, ?_⟩ | refine And.intro si ?_ | refine LitW.frz ?_ | refine PreW.frz ?_ | refine AppW.cp ?_ | refine TakW.row ?_ | refine dD ?_ | refine dF ?_ | refine d0 ?_ | refine d1 ?_ | refine dL ?_ | refine dP ?_ | refine And.intro tgi ?_ | refine ⟨_, shl1 (by omega), ?_⟩ | refine ⟨_, wru64 ti ti, ?_⟩ | refine ⟨_, fun _ => (IntKind.wrap_u64 _).symm, ?_⟩); conv => whnf) | ((first | refine cK (fun _ => hD) ?_ | ((try (refine CallW.lent ?_; (conv => whnf); repeat (refine And.intro si ?_; (conv => whnf)))); refine cL (fun _ => hD) ?_)); conv => whnf) | ((first | refine cK (fun _ => hEs) ?_ | ((try (refine CallW.lent ?_; (conv => whnf); repeat (refine And.intro si ?_; (conv => whnf)))); refine cL (fun _ => hEs) ?_)); conv => whnf) | (refine CallV.ret ?_; conv => whnf) | exact ⟨_, .keep rfl rfl⟩ | fail
    refine And.intro (fun h => absurd h (by decide)) ?_
    conv => whnf
    repeat' first | (refine iF (fun hb => ?_) (fun hb => ?_) <;> (try simp only [pickB_or, pickB_and] at hb) <;> (have hc := hb; try simp only [sB, Int.reduceToNat] at hc; try simp only [addZ0] at hc) <;> first | (exfalso; omega) | conv => whnf) | ((first | refine ⟨_, wr64 ti ti, ?_⟩ | refine And.intro si ?_ | refine LitW.frz ?_ | refine PreW.frz ?_ | refine AppW.cp ?_ | refine TakW.row ?_ | refine dD ?_ | refine dF ?_ | refine d0 ?_ | refine d1 ?_ | refine dL ?_ | refine dP ?_ | refine And.intro tgi ?_ | refine ⟨_, shl1 (by omega), ?_⟩ | refine ⟨_, wru64 ti ti, ?_⟩ | refine ⟨_, fun _ => (IntKind.wrap_u64 _).symm, ?_⟩); conv => whnf) | ((first | refine cK (fun _ => hD) ?_ | ((try (refine CallW.lent ?_; (conv => whnf); repeat (refine And.intro si ?_; (conv => whnf)))); refine cL (fun _ => hD) ?_)); conv => whnf) | ((first | refine cK (fun _ => hEs) ?_ | ((try (refine CallW.lent ?_; (conv => whnf); repeat (refine And.intro si ?_; (conv => whnf)))); refine cL (fun _ => hEs) ?_)); conv => whnf) | (refine CallV.ret ?_; conv => whnf) | exact ⟨_, .keep rfl rfl⟩ | fail
    exact absurd hc.1.1 (by decide)
  | true =>
    obtain ⟨db, di, e1, e2, e3⟩ := hDef hd
    rw [hd, e1] at hD hal
    simp only [Bool.true_and, Int.toNat_natCast] at hal
    repeat' first | (refine iF (fun hb => ?_) (fun hb => ?_) <;> (try simp only [pickB_or, pickB_and] at hb) <;> (have hc := hb; try simp only [sB, Int.reduceToNat] at hc; try simp only [addZ0] at hc) <;> first | (exfalso; omega) | conv => whnf) | ((first | refine ⟨_, wr64 ti ti, ?_⟩ | refine And.intro si ?_ | refine LitW.frz ?_ | refine PreW.frz ?_ | refine AppW.cp ?_ | refine TakW.row ?_ | refine dD ?_ | refine dF ?_ | refine d0 ?_ | refine d1 ?_ | refine dL ?_ | refine dP ?_ | refine And.intro tgi ?_ | refine ⟨_, shl1 (by omega), ?_⟩ | refine ⟨_, wru64 ti ti, ?_⟩ | refine ⟨_, fun _ => (IntKind.wrap_u64 _).symm, ?_⟩); conv => whnf) | ((first | refine cK (fun _ => hD) ?_ | ((try (refine CallW.lent ?_; (conv => whnf); repeat (refine And.intro si ?_; (conv => whnf)))); refine cL (fun _ => hD) ?_)); conv => whnf) | ((first | refine cK (fun _ => hEs) ?_ | ((try (refine CallW.lent ?_; (conv => whnf); repeat (refine And.intro si ?_; (conv => whnf)))); refine cL (fun _ => hEs) ?_)); conv => whnf) | (refine CallV.ret ?_; conv => whnf) | exact ⟨_, .keep rfl rfl⟩ | fail
    · refine ⟨_, .keep (congrArg AV.b ?_) rfl⟩
      rw [hal]
      rcases hc with (hc | hc) | hc
      · cases hc
      · rw [decide_eq_false hc]; rfl
      · rw [hc]; simp
    obtain ⟨⟨_, hop⟩, hesc⟩ := hc
    rw [hal, decide_eq_true hop, hesc]
    refine lp [72] (fun q : Nat => [.i .i64 q]) (fun q => [(8, bx (⟨0, (db : Int), (di : Int)⟩ : Plc)), (5, bx r), (3, bx (⟨pf, (pb : Int), (pi : Int)⟩ : Plc)), (2, bx f)]) (fun q => q ≤ f.blocks.length ∧ ∀ b', b' < q → ∀ i', i' < lenE f b' → ¬useAt f pb pi b' i') (fun q => f.blocks.length - q) 0 ⟨Nat.zero_le _, fun b' h => by omega⟩ ?_ fun q hq => ?_
    · refine eP [] [] ?_ ?_ <;> repeat' first | exact eN | refine And.intro ?_ ?_
    conv => whnf
    obtain ⟨hq, hv⟩ := hq
    have hcq := code_le f q
    repeat' first | (refine iF (fun hb => ?_) (fun hb => ?_) <;> (try simp only [pickB_or, pickB_and] at hb) <;> (have hc := hb; try simp only [sB, Int.reduceToNat] at hc; try simp only [addZ0] at hc) <;> first | (exfalso; omega) | conv => whnf) | ((first | refine ⟨_, wr64 ti ti, ?_⟩ | refine And.intro si ?_ | refine LitW.frz ?_ | refine PreW.frz ?_ | refine AppW.cp ?_ | refine TakW.row ?_ | refine dD ?_ | refine dF ?_ | refine d0 ?_ | refine d1 ?_ | refine dL ?_ | refine dP ?_ | refine And.intro tgi ?_ | refine ⟨_, shl1 (by omega), ?_⟩ | refine ⟨_, wru64 ti ti, ?_⟩ | refine ⟨_, fun _ => (IntKind.wrap_u64 _).symm, ?_⟩); conv => whnf) | (refine CallV.ret ?_; conv => whnf) | exact ⟨_, .keep rfl rfl⟩ | fail
    · refine lp [80] (fun k : Nat => [.i .i64 k]) (fun k => [(11, bx (f.blocks.getD q Enc.d)), (8, bx (⟨0, (db : Int), (di : Int)⟩ : Plc)), (5, bx r), (3, bx (⟨pf, (pb : Int), (pi : Int)⟩ : Plc)), (2, bx f)]) (fun k => k ≤ lenE f q ∧ ∀ i', i' < k → ¬useAt f pb pi q i') (fun k => lenE f q - k) 0 ⟨Nat.zero_le _, fun b' h => by omega⟩ ?_ fun k hk => ?_
      · refine eP [] [] ?_ ?_ <;> repeat' first | exact eN | refine And.intro ?_ ?_
      conv => whnf
      obtain ⟨hk, hw⟩ := hk
      have hk' : k ≤ (f.blocks.getD q Enc.d).code.length := hk
      have hle : lenE f q = (f.blocks.getD q Enc.d).code.length := rfl
      repeat' first | (refine iF (fun hb => ?_) (fun hb => ?_) <;> (try simp only [pickB_or, pickB_and] at hb) <;> (have hc := hb; try simp only [sB, Int.reduceToNat] at hc; try simp only [addZ0] at hc) <;> first | (exfalso; omega) | conv => whnf) | ((first | refine ⟨_, wr64 ti ti, ?_⟩ | refine And.intro si ?_ | refine LitW.frz ?_ | refine PreW.frz ?_ | refine AppW.cp ?_ | refine TakW.row ?_ | refine dD ?_ | refine dF ?_ | refine d0 ?_ | refine d1 ?_ | refine dL ?_ | refine dP ?_ | refine And.intro tgi ?_ | refine ⟨_, shl1 (by omega), ?_⟩ | refine ⟨_, wru64 ti ti, ?_⟩ | refine ⟨_, fun _ => (IntKind.wrap_u64 _).symm, ?_⟩); conv => whnf) | (refine CallV.ret ?_; conv => whnf) | exact ⟨_, .keep rfl rfl⟩ | fail
      · refine .mk (k + 1) ⟨by omega, all_lt hw fun h => hc h.1.2.2.1⟩ (by omega) ?_
        refine eP [] [] ?_ ?_ <;> repeat' first | exact eN | refine And.intro ?_ ?_
      · by_cases hld : isLoad f ⟨0, (q : Int), (k : Int)⟩
        · have hS := Sources_T f 0 q k hs ha hld
          have hC := ContP_S (srcL f (insE f q k) q k) ⟨0, (pb : Int), (pi : Int)⟩ (srcL_len hs _ _ _)
          repeat' first | (refine iF (fun hb => ?_) (fun hb => ?_) <;> (try simp only [pickB_or, pickB_and] at hb) <;> (have hc := hb; try simp only [sB, Int.reduceToNat] at hc; try simp only [addZ0] at hc) <;> first | (exfalso; omega) | conv => whnf) | ((first | refine ⟨_, wr64 ti ti, ?_⟩ | refine And.intro si ?_ | refine LitW.frz ?_ | refine PreW.frz ?_ | refine AppW.cp ?_ | refine TakW.row ?_ | refine dD ?_ | refine dF ?_ | refine d0 ?_ | refine d1 ?_ | refine dL ?_ | refine dP ?_ | refine And.intro tgi ?_ | refine ⟨_, shl1 (by omega), ?_⟩ | refine ⟨_, wru64 ti ti, ?_⟩ | refine ⟨_, fun _ => (IntKind.wrap_u64 _).symm, ?_⟩); conv => whnf) | ((first | refine cK (fun _ => hS) ?_ | ((try (refine CallW.lent ?_; (conv => whnf); repeat (refine And.intro si ?_; (conv => whnf)))); refine cL (fun _ => hS) ?_)); conv => whnf) | ((first | refine cK (fun _ => hC) ?_ | ((try (refine CallW.lent ?_; (conv => whnf); repeat (refine And.intro si ?_; (conv => whnf)))); refine cL (fun _ => hC) ?_)); conv => whnf) | (refine CallV.ret ?_; conv => whnf) | exact ⟨_, .keep rfl rfl⟩ | fail
          · exact ⟨_, .keep (by rw [usd_t ⟨q, k, by omega, by omega, hld, hc⟩]; rfl) rfl⟩
          · refine .mk (k + 1) ⟨by omega, all_lt hw fun h => hc h.2⟩ (by omega) ?_
            refine eP [] [] ?_ ?_ <;> repeat' first | exact eN | refine And.intro ?_ ?_
        · have hS := Sources_N f _ hs hld
          have hC : ASpec Try.prog 50 [.nil, eS (⟨0, (pb : Int), (pi : Int)⟩ : Plc)] (.b (decide ((⟨0, (pb : Int), (pi : Int)⟩ : Plc) ∈ ([] : List Plc)))) [] := (ContP_S [] ⟨0, (pb : Int), (pi : Int)⟩ (by decide)).weak (by repeat' first | exact trivial | exact rfl | refine And.intro ?_ ?_)
          repeat' first | (refine iF (fun hb => ?_) (fun hb => ?_) <;> (try simp only [pickB_or, pickB_and] at hb) <;> (have hc := hb; try simp only [sB, Int.reduceToNat] at hc; try simp only [addZ0] at hc) <;> first | (exfalso; omega) | conv => whnf) | ((first | refine ⟨_, wr64 ti ti, ?_⟩ | refine And.intro si ?_ | refine LitW.frz ?_ | refine PreW.frz ?_ | refine AppW.cp ?_ | refine TakW.row ?_ | refine dD ?_ | refine dF ?_ | refine d0 ?_ | refine d1 ?_ | refine dL ?_ | refine dP ?_ | refine And.intro tgi ?_ | refine ⟨_, shl1 (by omega), ?_⟩ | refine ⟨_, wru64 ti ti, ?_⟩ | refine ⟨_, fun _ => (IntKind.wrap_u64 _).symm, ?_⟩); conv => whnf) | ((first | refine cK (fun _ => hS) ?_ | ((try (refine CallW.lent ?_; (conv => whnf); repeat (refine And.intro si ?_; (conv => whnf)))); refine cL (fun _ => hS) ?_)); conv => whnf) | ((first | refine cK (fun _ => hC) ?_ | ((try (refine CallW.lent ?_; (conv => whnf); repeat (refine And.intro si ?_; (conv => whnf)))); refine cL (fun _ => hC) ?_)); conv => whnf) | (refine CallV.ret ?_; conv => whnf) | exact ⟨_, .keep rfl rfl⟩ | fail
          · cases hc
          · refine .mk (k + 1) ⟨by omega, all_lt hw fun h => hld h.1⟩ (by omega) ?_
            refine eP [] [] ?_ ?_ <;> repeat' first | exact eN | refine And.intro ?_ ?_
      · refine .mk (q + 1) ⟨by omega, all_lt2 hv fun i' hi' => hw i' (by omega)⟩ (by omega) ?_
        refine eP [] [] ?_ ?_ <;> repeat' first | exact eN | refine And.intro ?_ ?_
    · refine ⟨_, .keep (congrArg AV.b ?_) rfl⟩
      rw [usd_f fun h => (by obtain ⟨b', i', h1, h2, h3⟩ := h; exact hv b' (by omega) i' h2 h3)]; rfl
noncomputable def goesB (f : FnE) (b i : Nat) : Bool := overB (f.blocks.getD b Enc.d).code i || (aloneE f (RootE f ((insE f b i).args.getD 1 Enc.d)).v && !usdB f b i)
def deadP (f : FnE) (p : Plc) : Prop := (0 ≤ p.b ∧ p.b < f.blocks.length) ∧ (0 ≤ p.i ∧ p.i < lenE f p.b.toNat) ∧ RG f (-1) p.b.toNat ∧ (insE f p.b.toNat p.i.toNat).op = 28 ∧ goesB f p.b.toNat p.i.toNat = true
noncomputable def deadB (f : FnE) (p : Plc) : Bool := @decide (deadP f p) (Classical.propDecidable _)
theorem dead_t {f : FnE} {p : Plc} (h : deadP f p) : deadB f p = true := @decide_eq_true _ (Classical.propDecidable _) h
theorem dead_f {f : FnE} {p : Plc} (h : ¬deadP f p) : deadB f p = false := @decide_eq_false _ (Classical.propDecidable _) h
theorem Dead_S (f : FnE) (p : Plc) (hs : OkF f) (ha : OkA f) : ASpec Try.prog 11 [eS f, eS p] (.b (deadB f p)) [] := by
  have h1 := blocks_le f
  have hz := hs.sz
  have h3 := code_le f p.b.toNat
  obtain ⟨R, hR⟩ := isRG_ex f (-1)
  have hRl := hR.1
  have hpre : (0 ≤ p.b ∧ p.b < f.blocks.length) → (0 ≤ p.i ∧ p.i < ((f.blocks.getD p.b.toNat Enc.d).code.length : Int)) → ((f.blocks.getD p.b.toNat Enc.d).code.getD p.i.toNat Enc.d).op = 28 →
      ASpec Try.prog 26 [eL (f.blocks.getD p.b.toNat Enc.d).code, .i .i64 p.i] (.b (overB (f.blocks.getD p.b.toNat Enc.d).code p.i.toNat)) [] ∧
      ASpec Try.prog 27 [eS f, eS p] (.b (aloneE f (RootE f ((insE f p.b.toNat p.i.toNat).args.getD 1 Enc.d)).v && !usdB f p.b.toNat p.i.toNat)) [] := fun hb hi ho => by
    obtain ⟨pf, pb, pi⟩ := p
    obtain ⟨b, rfl⟩ : ∃ b : Nat, pb = b := ⟨pb.toNat, by simp only at hb; omega⟩
    obtain ⟨i, rfl⟩ : ∃ i : Nat, pi = i := ⟨pi.toNat, by simp only at hi; omega⟩
    simp only [Int.toNat_natCast] at *
    refine ⟨over_S _ i (by omega) (by omega) (fun k hk => ?_) (fun k => ?_) ho, unread_S f pf b i hs ha (by omega) (show i < (f.blocks.getD b Enc.d).code.length by omega) ho⟩
    · rcases Nat.lt_or_ge k (f.blocks.getD b Enc.d).code.length with hkl | hkl
      · exact ha.st b k hkl hk
      · rw [List.getD_eq_getElem?_getD, List.getElem?_eq_none hkl] at hk; exact absurd hk (by decide)
    · exact Nat.lt_of_le_of_lt (Nat.le_trans (args_le _) (ins_le f b k)) hz
  refine ASpec.enter TYok mixed Try.func11 rfl Try.call11 Try.ntmps11 rfl (rs := [.tmp 4]) rfl (nodupB_ok rfl) (Clo.one rfl) (keep := [0, 1, 2, 3, 4, 5]) ?_; conv => whnf
  repeat' first | (refine iF (fun hb => ?_) (fun hb => ?_) <;> (try simp only [pickB_or, pickB_and] at hb) <;> (have hc := hb; try simp only [sB, Int.reduceToNat] at hc; try simp only [addZ0] at hc) <;> first | (exfalso; omega) | conv => whnf) | ((first | refine ⟨_, wr64 ti ti, ?_⟩ | refine And.intro si ?_ | refine LitW.frz ?_ | refine PreW.frz ?_ | refine AppW.cp ?_ | refine TakW.row ?_ | refine dD ?_ | refine dF ?_ | refine d0 ?_ | refine d1 ?_ | refine dL ?_ | refine dP ?_ | refine And.intro tgi ?_ | refine ⟨_, shl1 (by omega), ?_⟩ | refine ⟨_, wru64 ti ti, ?_⟩ | refine ⟨_, fun _ => (IntKind.wrap_u64 _).symm, ?_⟩); conv => whnf) | ((first | refine cK (fun _ => gReach_F f R hR hz) ?_ | ((try (refine CallW.lent ?_; (conv => whnf); repeat (refine And.intro si ?_; (conv => whnf)))); refine cL (fun _ => gReach_F f R hR hz) ?_)); conv => whnf) | (refine CallV.ret ?_; conv => whnf) | exact ⟨_, .keep rfl rfl⟩ | fail
  · refine ⟨_, .keep (congrArg AV.b (dead_f fun h => ?_).symm) rfl⟩
    obtain ⟨q1, q2, q3, _⟩ := h
    have q2' : 0 ≤ p.i ∧ p.i < ((f.blocks.getD p.b.toNat Enc.d).code.length : Int) := q2
    have := (hR.2 p.b.toNat (by omega)).2 q3
    rw [show R.getD p.b.toNat Enc.d = true from this] at hc
    rcases hc with hc | hc
    · omega
    · cases hc
  have hb1 : 0 ≤ p.b ∧ p.b < f.blocks.length := by omega
  have hi1 : 0 ≤ p.i ∧ p.i < ((f.blocks.getD p.b.toNat Enc.d).code.length : Int) := by omega
  have hrg := (hR.2 p.b.toNat (by omega)).1 hc.2
  repeat' first | (refine iF (fun hb => ?_) (fun hb => ?_) <;> (try simp only [pickB_or, pickB_and] at hb) <;> (have hc := hb; try simp only [sB, Int.reduceToNat] at hc; try simp only [addZ0] at hc) <;> first | (exfalso; omega) | conv => whnf) | ((first | refine ⟨_, wr64 ti ti, ?_⟩ | refine And.intro si ?_ | refine LitW.frz ?_ | refine PreW.frz ?_ | refine AppW.cp ?_ | refine TakW.row ?_ | refine dD ?_ | refine dF ?_ | refine d0 ?_ | refine d1 ?_ | refine dL ?_ | refine dP ?_ | refine And.intro tgi ?_ | refine ⟨_, shl1 (by omega), ?_⟩ | refine ⟨_, wru64 ti ti, ?_⟩ | refine ⟨_, fun _ => (IntKind.wrap_u64 _).symm, ?_⟩); conv => whnf) | ((first | refine cK (fun _ => (hpre hb1 hi1 (by rename_i ht; simp only [tg_ite, tg_nil, cn, Nat.reduceMul, Nat.reduceAdd, Nat.reduceEqDiff, ↓reduceIte, Bool.and_eq_true, decide_eq_true_eq] at ht; first | exact ht | exact ht.1 | exact ht.2)).1) ?_ | ((try (refine CallW.lent ?_; (conv => whnf); repeat (refine And.intro si ?_; (conv => whnf)))); refine cL (fun _ => (hpre hb1 hi1 (by rename_i ht; simp only [tg_ite, tg_nil, cn, Nat.reduceMul, Nat.reduceAdd, Nat.reduceEqDiff, ↓reduceIte, Bool.and_eq_true, decide_eq_true_eq] at ht; first | exact ht | exact ht.1 | exact ht.2)).1) ?_)); conv => whnf) | ((first | refine cK (fun _ => (hpre hb1 hi1 (by rename_i ht; simp only [tg_ite, tg_nil, cn, Nat.reduceMul, Nat.reduceAdd, Nat.reduceEqDiff, ↓reduceIte, Bool.and_eq_true, decide_eq_true_eq] at ht; first | exact ht | exact ht.1 | exact ht.2)).2) ?_ | ((try (refine CallW.lent ?_; (conv => whnf); repeat (refine And.intro si ?_; (conv => whnf)))); refine cL (fun _ => (hpre hb1 hi1 (by rename_i ht; simp only [tg_ite, tg_nil, cn, Nat.reduceMul, Nat.reduceAdd, Nat.reduceEqDiff, ↓reduceIte, Bool.and_eq_true, decide_eq_true_eq] at ht; first | exact ht | exact ht.1 | exact ht.2)).2) ?_)); conv => whnf) | (refine CallV.ret ?_; conv => whnf) | exact ⟨_, .keep rfl rfl⟩ | fail
  refine ⟨_, .keep (congrArg AV.b ?_) rfl⟩
  simp only [pickB_and, pickB_or]
  rw [Bool.eq_iff_iff]
  unfold deadB
  rw [@decide_eq_true_iff _ (Classical.propDecidable _), Bool.and_eq_true, decide_eq_true_eq]
  exact ⟨fun h => ⟨hb1, hi1, hrg, h.1, h.2⟩, fun h => ⟨h.2.2.2.1, h.2.2.2.2⟩⟩
theorem ASpec.nz {P : Program} {f : FuncId} {e n : Nat} {g : Nat → List AV} {r : AV} {no : Os} (h0 : n = 0 → ASpec P f [.row (some false) e n g] r no) (h1 : ASpec P f [.row (some true) e n g] r no) : ASpec P f [.row none e n g] r no := by
  refine ⟨h1.1, h1.2.1, fun S w us hr hv => ?_⟩
  obtain ⟨u, us', rfl, h2, h3⟩ := hr
  have h4 := h2
  unfold rel at h4
  obtain ⟨a, cap, vs, rfl, _, h5, h6⟩ := h4
  cases a with
  | none =>
    have hn : n = 0 := by
      rcases Nat.eq_zero_or_pos n with h | h
      · exact h
      · obtain ⟨⟨ad, e, _⟩, _⟩ := h6 0 h; cases e
    exact (h0 hn).2.2 S w _ ⟨_, us', rfl, ⟨none, cap, vs, rfl, (fun z hz => by cases hz; rfl), h5, h6⟩, h3⟩ hv
  | some ad => exact h1.2.2 S w _ ⟨_, us', rfl, ⟨some ad, cap, vs, rfl, (fun z hz => by cases hz; rfl), h5, h6⟩, h3⟩ hv
theorem CloneI_S (d : Nat) (l : List Int) (hl : l.length < 4294967296) : ASpec Try.prog 41 [eL l] (.orow d 1 0 l.length) [(d, oL l)] := by
  refine .nz (fun hn => ?_) ?_
  · refine ASpec.enter TYok mixed Try.func41 rfl Try.call41 Try.ntmps41 rfl (rs := [.tmp 2]) rfl (nd1 _) (Clo.row) (keep := [0, 2]) ?_; conv => whnf
    repeat' first | (refine iF (fun hb => ?_) (fun hb => ?_) <;> (try simp only [pickB_or, pickB_and] at hb) <;> (have hc := hb; try simp only [sB, Int.reduceToNat] at hc; try simp only [addZ0] at hc) <;> first | (exfalso; omega) | conv => whnf) | ((first | refine ⟨_, wr64 ti ti, ?_⟩ | refine And.intro si ?_ | refine LitW.frz ?_ | refine PreW.frz ?_ | refine AppW.cp ?_ | refine TakW.row ?_ | refine dD ?_ | refine dF ?_ | refine d0 ?_ | refine d1 ?_ | refine dL ?_ | refine dP ?_ | refine And.intro tgi ?_ | refine ⟨_, shl1 (by omega), ?_⟩ | refine ⟨_, wru64 ti ti, ?_⟩ | refine ⟨_, fun _ => (IntKind.wrap_u64 _).symm, ?_⟩); conv => whnf) | (refine CallV.ret ?_; conv => whnf) | exact ⟨_, .keep rfl rfl⟩ | fail
    all_goals first | exact absurd hb (by decide) | exact ⟨_, Gives.nil hn⟩
  · refine ASpec.enter TYok mixed Try.func41 rfl Try.call41 Try.ntmps41 rfl (rs := [.tmp 2]) rfl (nd1 _) (Clo.row) (keep := [0, 2]) ?_; conv => whnf
    refine And.intro (fun hb => absurd hb (by decide)) fun _ => ?_
    conv => whnf
    refine LitW.own ?_
    conv => whnf
    repeat' first | (refine iF (fun hb => ?_) (fun hb => ?_) <;> (try simp only [pickB_or, pickB_and] at hb) <;> (have hc := hb; try simp only [sB, Int.reduceToNat] at hc; try simp only [addZ0] at hc) <;> first | (exfalso; omega) | conv => whnf) | ((first | refine ⟨_, wr64 ti ti, ?_⟩ | refine And.intro si ?_ | refine LitW.frz ?_ | refine PreW.frz ?_ | refine AppW.cp ?_ | refine TakW.row ?_ | refine dD ?_ | refine dF ?_ | refine d0 ?_ | refine d1 ?_ | refine dL ?_ | refine dP ?_ | refine And.intro tgi ?_ | refine ⟨_, shl1 (by omega), ?_⟩ | refine ⟨_, wru64 ti ti, ?_⟩ | refine ⟨_, fun _ => (IntKind.wrap_u64 _).symm, ?_⟩); conv => whnf) | (refine CallV.ret ?_; conv => whnf) | exact ⟨_, .keep rfl rfl⟩ | fail
    exact ⟨_, .give rfl rfl (by omega) (fun i _ => by simp [catF]) rfl⟩
theorem CloneV_S (d : Nat) (l : List Opd) (hl : l.length < 4294967296) : ASpec Try.prog 42 [eL l] (.orow d 3 0 l.length) [(d, oL l)] := by
  refine .nz (fun hn => ?_) ?_
  · refine ASpec.enter TYok mixed Try.func42 rfl Try.call42 Try.ntmps42 rfl (rs := [.tmp 2]) rfl (nd1 _) (Clo.row) (keep := [0, 2]) ?_; conv => whnf
    repeat' first | (refine iF (fun hb => ?_) (fun hb => ?_) <;> (try simp only [pickB_or, pickB_and] at hb) <;> (have hc := hb; try simp only [sB, Int.reduceToNat] at hc; try simp only [addZ0] at hc) <;> first | (exfalso; omega) | conv => whnf) | ((first | refine ⟨_, wr64 ti ti, ?_⟩ | refine And.intro si ?_ | refine LitW.frz ?_ | refine PreW.frz ?_ | refine AppW.cp ?_ | refine TakW.row ?_ | refine dD ?_ | refine dF ?_ | refine d0 ?_ | refine d1 ?_ | refine dL ?_ | refine dP ?_ | refine And.intro tgi ?_ | refine ⟨_, shl1 (by omega), ?_⟩ | refine ⟨_, wru64 ti ti, ?_⟩ | refine ⟨_, fun _ => (IntKind.wrap_u64 _).symm, ?_⟩); conv => whnf) | (refine CallV.ret ?_; conv => whnf) | exact ⟨_, .keep rfl rfl⟩ | fail
    all_goals first | exact absurd hb (by decide) | exact ⟨_, Gives.nil hn⟩
  · refine ASpec.enter TYok mixed Try.func42 rfl Try.call42 Try.ntmps42 rfl (rs := [.tmp 2]) rfl (nd1 _) (Clo.row) (keep := [0, 2]) ?_; conv => whnf
    refine And.intro (fun hb => absurd hb (by decide)) fun _ => ?_
    conv => whnf
    refine LitW.own ?_
    conv => whnf
    repeat' first | (refine iF (fun hb => ?_) (fun hb => ?_) <;> (try simp only [pickB_or, pickB_and] at hb) <;> (have hc := hb; try simp only [sB, Int.reduceToNat] at hc; try simp only [addZ0] at hc) <;> first | (exfalso; omega) | conv => whnf) | ((first | refine ⟨_, wr64 ti ti, ?_⟩ | refine And.intro si ?_ | refine LitW.frz ?_ | refine PreW.frz ?_ | refine AppW.cp ?_ | refine TakW.row ?_ | refine dD ?_ | refine dF ?_ | refine d0 ?_ | refine d1 ?_ | refine dL ?_ | refine dP ?_ | refine And.intro tgi ?_ | refine ⟨_, shl1 (by omega), ?_⟩ | refine ⟨_, wru64 ti ti, ?_⟩ | refine ⟨_, fun _ => (IntKind.wrap_u64 _).symm, ?_⟩); conv => whnf) | (refine CallV.ret ?_; conv => whnf) | exact ⟨_, .keep rfl rfl⟩ | fail
    exact ⟨_, .give rfl rfl (by omega) (fun i _ => by simp [catF]) rfl⟩
abbrev oT {α : Type} [Enc α] (l : List α) : Obj := .tree (Enc.sz α) l.length fun i => Enc.enc (l.getD i Enc.d)
theorem Clo.fn {a : ByteArray} {r : Int} {c d n m N : Nat} {e e' : Nat} {g g2 : Nat → List AV} {q : Option Nat} (h : c ≠ d) : Clo (.agg [.s a, .orow c 1 0 n, .i .i64 r, .orow d 1 0 m]) [(c, .row q e N g), (d, .tree e' m g2)] := by
  refine ⟨fun id hm => ?_, fun i ob h id hm => ?_⟩
  · simp only [men, mens, Bool.or_eq_true, Bool.or_false, Bool.false_or] at hm
    rcases hm with hm | hm
    · have := Nat.eq_of_beq_eq_true hm; subst this; rw [lk_cons, if_pos rfl]; rfl
    · have := Nat.eq_of_beq_eq_true hm; subst this; rw [lk_cons, if_neg h, lk_cons, if_pos rfl]; rfl
  · rw [lk_cons] at h
    split at h
    · cases h; cases hm
    · rw [lk_cons] at h
      split at h
      · cases h; cases hm
      · simp [lk] at h
theorem cat_snoc {α : Type} [Enc α] {l : List α} {k : Nat} {hs : List AV} (h : teqs hs (Enc.enc (l.getD k Enc.d))) (i : Nat) (hi : i < k + 1) : teqs (catG k (fun i => Enc.enc (l.getD i Enc.d)) (fun _ => hs) i) (Enc.enc (l.getD i Enc.d)) := by
  unfold catG
  split
  · exact teqs_refl _
  · obtain rfl : i = k := by omega
    exact h
def cgO (f : FnE) (b : Nat) : Os := [(1, bx f), (2, bx (Enc.d : FnE)), (3, .box none none [.s f.name, .orow 12 1 0 f.params.length, .i .i64 f.ret, .orow 1002 1 0 b]), (12, oL f.params), (1002, .tree 1 b fun i => Enc.enc (f.blocks.getD i Enc.d))]
theorem CopyFuncT_S (f : FnE) (hs : siz f < 4294967296) : ASpec Try.prog 19 [eS f] (.agg [.s f.name, .orow 1001 1 0 f.params.length, .i .i64 f.ret, .orow 1002 1 0 f.blocks.length]) [(1001, oL f.params), (1002, oT f.blocks)] := by
  have h1 := blocks_le f
  have h2 := params_le f
  refine ASpec.enter TYok mixed Try.func19 rfl Try.call19 Try.ntmps19 rfl (rs := [.cell 2 32]) rfl (nd2 (show (1001 : Nat) ≠ 1002 from by decide)) (Clo.fn (c := 1001) (d := 1002) (by decide)) (keep := [0, 1, 2, 3, 5, 6, 8, 16, 17, 18, 23, 24, 25]) ?_; conv => whnf
  repeat' first | (refine iF (fun hb => ?_) (fun hb => ?_) <;> (try simp only [pickB_or, pickB_and] at hb) <;> (have hc := hb; try simp only [sB, Int.reduceToNat] at hc; try simp only [addZ0] at hc) <;> first | (exfalso; omega) | conv => whnf) | ((first | refine ⟨_, wr64 ti ti, ?_⟩ | refine And.intro si ?_ | refine LitW.frz ?_ | refine PreW.frz ?_ | refine AppW.cp ?_ | refine TakW.row ?_ | refine dD ?_ | refine dF ?_ | refine d0 ?_ | refine d1 ?_ | refine dL ?_ | refine dP ?_ | refine And.intro tgi ?_ | refine ⟨_, shl1 (by omega), ?_⟩ | refine ⟨_, wru64 ti ti, ?_⟩ | refine ⟨_, fun _ => (IntKind.wrap_u64 _).symm, ?_⟩); conv => whnf) | ((first | refine cK (fun _ => CloneI_S 12 _ (by omega)) ?_ | ((try (refine CallW.lent ?_; (conv => whnf); repeat (refine And.intro si ?_; (conv => whnf)))); refine cL (fun _ => CloneI_S 12 _ (by omega)) ?_)); conv => whnf) | (refine CallV.ret ?_; conv => whnf) | exact ⟨_, .keep rfl rfl⟩ | fail
  refine lp [18] (fun b : Nat => [.i .i64 b]) (cgO f) (fun b => b ≤ f.blocks.length) (fun b => f.blocks.length - b) 0 (by omega) ?_ fun b hb0 => ?_
  · refine eP [] [1002] ?_ ?_ <;> repeat' first | exact eN | refine And.intro ?_ ?_
  conv => whnf
  have h3 := code_le f b
  repeat' first | (refine iF (fun hb => ?_) (fun hb => ?_) <;> (try simp only [pickB_or, pickB_and] at hb) <;> (have hc := hb; try simp only [sB, Int.reduceToNat] at hc; try simp only [addZ0] at hc) <;> first | (exfalso; omega) | conv => whnf) | ((first | refine ⟨_, wr64 ti ti, ?_⟩ | refine And.intro si ?_ | refine And.intro ⟨rfl, fun _ _ => rfl⟩ ?_ | refine And.intro (⟨⟨rfl, rfl⟩, by omega⟩ : (_ = _ ∧ _ = _) ∧ _) ?_ | refine And.intro (⟨rfl, by omega⟩ : _ = _ ∧ _) ?_ | refine LitW.frz ?_ | refine PreW.own ?_ | refine AppW.mv ?_ | refine TakW.tree ?_ | refine dD ?_ | refine dF ?_ | refine d0 ?_ | refine d1 ?_ | refine dL ?_ | refine dP ?_ | refine And.intro tgi ?_ | refine ⟨_, shl1 (by omega), ?_⟩ | refine ⟨_, wru64 ti ti, ?_⟩ | refine ⟨_, fun _ => (IntKind.wrap_u64 _).symm, ?_⟩); conv => whnf) | (refine CallV.ret ?_; conv => whnf) | exact ⟨_, .keep rfl rfl⟩ | fail
  · refine lp [25] (fun k : Nat => [.i .i64 k]) (fun k => (6, .box none none [.orow 1003 7 0 k]) :: (1003, .tree 7 k fun i => Enc.enc ((f.blocks.getD b Enc.d).code.getD i Enc.d)) :: cgO f b) (fun k => k ≤ (f.blocks.getD b Enc.d).code.length) (fun k => (f.blocks.getD b Enc.d).code.length - k) 0 (by omega) ?_ fun k hk => ?_
    · refine eP [] [1003] ?_ ?_ <;> repeat' first | exact eN | refine And.intro ?_ ?_
      exact fun i _ => teqs_refl _
    conv => whnf
    have h4 := ins_le f b k
    have h5 := args_le ((f.blocks.getD b Enc.d).code.getD k Enc.d)
    have h6 := to_le ((f.blocks.getD b Enc.d).code.getD k Enc.d)
    repeat' first | (refine iF (fun hb => ?_) (fun hb => ?_) <;> (try simp only [pickB_or, pickB_and] at hb) <;> (have hc := hb; try simp only [sB, Int.reduceToNat] at hc; try simp only [addZ0] at hc) <;> first | (exfalso; omega) | conv => whnf) | ((first | refine ⟨_, wr64 ti ti, ?_⟩ | refine And.intro si ?_ | refine And.intro ⟨rfl, fun _ _ => rfl⟩ ?_ | refine And.intro (⟨⟨rfl, rfl⟩, by omega⟩ : (_ = _ ∧ _ = _) ∧ _) ?_ | refine And.intro (⟨rfl, by omega⟩ : _ = _ ∧ _) ?_ | refine LitW.frz ?_ | refine PreW.own ?_ | refine AppW.mv ?_ | refine TakW.tree ?_ | refine dD ?_ | refine dF ?_ | refine d0 ?_ | refine d1 ?_ | refine dL ?_ | refine dP ?_ | refine And.intro tgi ?_ | refine ⟨_, shl1 (by omega), ?_⟩ | refine ⟨_, wru64 ti ti, ?_⟩ | refine ⟨_, fun _ => (IntKind.wrap_u64 _).symm, ?_⟩); conv => whnf) | ((first | refine cK (fun _ => CloneV_S 31 _ (Nat.lt_of_le_of_lt (Nat.le_trans h5 h4) hs)) ?_ | ((try (refine CallW.lent ?_; (conv => whnf); repeat (refine And.intro si ?_; (conv => whnf)))); refine cL (fun _ => CloneV_S 31 _ (Nat.lt_of_le_of_lt (Nat.le_trans h5 h4) hs)) ?_)); conv => whnf) | ((first | refine cK (fun _ => CloneI_S 34 _ (Nat.lt_of_le_of_lt (Nat.le_trans h6 h4) hs)) ?_ | ((try (refine CallW.lent ?_; (conv => whnf); repeat (refine And.intro si ?_; (conv => whnf)))); refine cL (fun _ => CloneI_S 34 _ (Nat.lt_of_le_of_lt (Nat.le_trans h6 h4) hs)) ?_)); conv => whnf) | (refine CallV.ret ?_; conv => whnf) | exact ⟨_, .keep rfl rfl⟩ | fail
    · refine .mk (k + 1) (by omega) (by omega) ?_
      refine eP [(1003, 41)] [] ?_ ?_ <;> repeat' first | exact eN | refine And.intro ?_ ?_
      all_goals first | exact fun i hi => cat_snoc (teqs_refl _) i hi | exact fun i _ => teqs_refl _
    · obtain rfl : k = (f.blocks.getD b Enc.d).code.length := by omega
      refine .mk (b + 1) (by omega) (by omega) ?_
      refine eP [(1002, 48)] [] ?_ ?_ <;> repeat' first | exact eN | refine And.intro ?_ ?_
      exact fun i hi => cat_snoc (teqs_refl _) i hi
  · obtain rfl : b = f.blocks.length := by omega
    exact ⟨_, .agg (.cons (.keep rfl rfl) (.cons (.give rfl rfl rfl (fun _ _ => rfl) rfl) (.cons (.keep rfl rfl) (.cons (.giveT rfl rfl rfl (fun _ _ => teqs_refl _) rfl) .nil (nodupB_ok rfl)) (nodupB_ok rfl)) (nodupB_ok rfl)) (nodupB_ok rfl))⟩
theorem clear_one (w : World) (t e ty : TypeId) (z : Value) (ht : Try.prog.underlying t = some (.slice e)) (hv : ∀ w, (zeroValue e).run Try.prog w = .ok z w) (h1 : ∀ u ∈ z.cells.toList, u.oneCell' = true) (b o c : Nat)
    (hc : ∀ j, j < z.cells.size → (w.cell? ⟨b, o + j, none⟩).isSome = true) (hf : ∀ j, j < z.cells.size → w.frozen? ⟨b, o + j, none⟩ = false) :
    (Builtin.clear_ #[t] ty #[.slice (some ⟨b, o, none⟩) 1 c]).run Try.prog w = .ok (.tuple #[]) (w.setCells b o z.cells.toList) := by
  have hzc : (Builtin.zeroCells z.cells 1).toList = z.cells.toList := by
    simp only [Builtin.zeroCells, Nat.one_mul, Array.toList_map, Array.toList_range]
    apply List.ext_getElem
    · simp
    · intro i h1 h2
      have h2 : i < z.cells.size := by simpa using h2
      simp [Nat.mod_eq_of_lt h2, getElem!_pos, h2]
  have hst := run_storeCells_cells (P := Try.prog) b o z.cells.toList 0 w (by simpa using hc) (by simpa using hf) (by intro v hv'; exact h1 v hv')
  simp only [Nat.add_zero] at hst
  simp [Builtin.clear_, run_underlying ht, hv, hzc, hst]
theorem del_run (b off n cap i j : Nat) (news : List Value) (w : World) (hj : j = i + 1) (hi : i < n) (hn : n ≤ cap) (hl : news.length = (n - j) * 7) (h1 : ∀ u ∈ news, u.oneCell' = true)
    (hc : ∀ t u, news[t]? = some u → w.cell? ⟨b, off + j * 7 + t, none⟩ = some u) (hs : ∀ t, t < n * 7 → (w.cell? ⟨b, off + t, none⟩).isSome = true ∧ w.frozen? ⟨b, off + t, none⟩ = false) :
    Calls Try.prog 20 #[.slice (some ⟨b, off, none⟩) n cap, .int .i64 i, .int .i64 j] w fun e w' => e = .returned (.slice (some ⟨b, off, none⟩) (n - 1) cap) ∧
      w' = (w.drew.setCells b (off + i * 7) news).setCells b (off + (n - 1) * 7) [.int .i64 0, .int .i64 0, .int .i64 0, .int .i64 0, .int .i64 0, .slice none 0 0, .slice none 0 0] := by
  have mixed := mixed
  have hjn : j ≤ n := by omega
  have hne : ¬(i = j) := by omega
  obtain ⟨i0, hi0, hz1⟩ := Option.map_eq_some_iff.1 (show (Try.prog.info? 41).map (·.size) = some 7 by kernel_rfl)
  obtain ⟨A, hA, hsrc⟩ : ∃ A : Addr, (if cap = j then (some (⟨b, off, none⟩ : Addr)) else some ⟨b, off + j * 7, none⟩) = some A ∧ Hid (∀ t u, news[t]? = some u → w.drew.cell? (A.add t) = some u) := by
    by_cases h : cap = j
    · refine ⟨⟨b, off, none⟩, by simp [h], fun t u hu => ?_⟩
      have h0 : news.length = 0 := by rw [hl]; omega
      rw [List.length_eq_zero_iff.1 h0] at hu
      simp at hu
    · refine ⟨⟨b, off + j * 7, none⟩, by simp [h], fun t u hu => ?_⟩
      rw [Addr.add_lit]
      exact hc t u hu
  have s1 : Hid (news.length = (n - j) * 7) := hl
  have s2 : Hid (∀ u ∈ news, u.oneCell' = true) := h1
  have s3 : Hid (∀ t, t < news.length → (w.drew.cell? ⟨b, off + i * 7 + t, none⟩).isSome = true ∧ w.drew.frozen? ⟨b, off + i * 7 + t, none⟩ = false) := by
    intro t ht
    rw [hl] at ht
    have := hs (i * 7 + t) (by omega)
    rw [← Nat.add_assoc] at this
    exact this
  obtain ⟨W1, hW1⟩ : ∃ W1, W1 = w.drew.setCells b (off + i * 7) news := ⟨_, rfl⟩
  have hW : Hid (W1 = w.drew.setCells b (off + i * 7) news) := hW1
  have hic : i ≤ cap := by omega
  have hjc : j ≤ cap := by omega
  have hcl : ∀ ty, (Builtin.clear_ #[36] ty #[.slice (some ⟨b, off + (i + (n - j)) * 7, none⟩) (n - (i + (n - j))) (cap - (i + (n - j)))]).run Try.prog W1 = .ok (.tuple #[]) (W1.setCells b (off + (n - 1) * 7) [.int .i64 0, .int .i64 0, .int .i64 0, .int .i64 0, .int .i64 0, .slice none 0 0, .slice none 0 0]) := fun ty => by
    have e1 : i + (n - j) = n - 1 := by omega
    have e2 : n - (i + (n - j)) = 1 := by omega
    rw [e2, e1]
    refine clear_one W1 _ _ ty (.agg #[.int .i64 0, .int .i64 0, .int .i64 0, .int .i64 0, .int .i64 0, .slice none 0 0, .slice none 0 0]) Try.underlying36 (fun w => ?_) (by simp [Value.oneCell', Value.cells]) b _ _ (fun t ht => ?_) (fun t ht => ?_)
    · exact Try.zeroValue41 w
    · rw [hW1]
      have := hs ((n - 1) * 7 + t) (by have : t < 7 := ht; omega)
      rw [← Nat.add_assoc] at this
      exact World.isSome_setCells b _ _ _ _ this.1
    · rw [hW1, World.frozen?_setCells]
      have := hs ((n - 1) * 7 + t) (by have : t < 7 := ht; omega)
      rw [← Nat.add_assoc] at this
      exact this.2
  have hj' : Hid (j = i + 1) := hj
  have hlt : i < j := by omega
  clear hW1 hs hc hj
  go_enter Try.func20, Try.ntmps20
  go_wp2_with fail
  go_region_law_o (refine step_append_room rfl (.tmp 22) (.tmp 25) 36 rfl 41 i0 7 Try.underlying36 hi0 hz1 b off i cap (by simp [Act.eval, Act.put]) A (n - j) (cap - j) news (by simp [Act.eval, Act.put]; skip) s1.out hsrc.out s2.out (by omega) s3.out ?_; rw [← hW.out])
  go_wp2
  go_ret
  exact ⟨by rw [show n - 1 = i + (n - j) by have := hj'.out; omega]; rfl, by rw [hW.out]⟩
theorem setCells_blk {b t : Nat} : ∀ (vs : List Value) (o : Nat) (cs : List Value) (w : World), w.heap[b]? = some (.cells cs.toArray t (0, 0)) → (w.setCells b o vs).heap[b]? = some (.cells (splice cs o vs).toArray t (0, 0)) ∧ (w.setCells b o vs).heap.size = w.heap.size ∧ (∀ k, k ≠ b → (w.setCells b o vs).heap[k]? = w.heap[k]?) ∧ (w.setCells b o vs).os = w.os ∧ (w.setCells b o vs).tape = w.tape ∧ (w.setCells b o vs).output = w.output
  | [], o, cs, w, h => by rw [splice_nil]; exact ⟨h, rfl, fun _ _ => rfl, rfl, rfl, rfl⟩
  | v :: vs, o, cs, w, h => by
    obtain ⟨h1, h2, h3, h4, h5, h6⟩ := setCells_blk vs (o + 1) (cs.set o v) (w.setCell ⟨b, o, none⟩ v) (setCell_blk v h)
    rw [splice_cons]
    exact ⟨h1, h2.trans (by simp [World.setCell]), fun k hk => (h3 k hk).trans (Below.heap_setCell _ _ _ _ hk), h4, h5, h6⟩
theorem erase_flat : ∀ (L : List (List Nat)) (i : Nat), (L.eraseIdx i).flatten.Sublist L.flatten
  | [], i => by simp
  | x :: L, 0 => by simp
  | x :: L, i + 1 => by
    rw [List.eraseIdx_cons_succ, List.flatten_cons, List.flatten_cons]
    exact (List.Sublist.refl x).append (erase_flat L i)
def skp {α : Type} (i : Nat) (f : Nat → α) (k : Nat) : α := if k < i then f k else f (k + 1)
theorem skp_map {α : Type} (i n : Nat) (f : Nat → α) (hi : i < n) : (List.range (n - 1)).map (skp i f) = ((List.range n).map f).eraseIdx i := by
  refine List.ext_getElem (by simp [List.length_eraseIdx]; omega) fun k h1 h2 => ?_
  rw [List.getElem_map, List.getElem_range, List.getElem_eraseIdx]
  unfold skp
  split <;> simp
theorem skp_get {α : Type} [Enc α] (l : List α) (i k : Nat) : (l.eraseIdx i).getD k Enc.d = skp i (fun k => l.getD k Enc.d) k := by
  unfold skp
  simp only [List.getD_eq_getElem?_getD, List.getElem?_eraseIdx]
  split <;> rfl
def zI : List Value := [.int .i64 0, .int .i64 0, .int .i64 0, .int .i64 0, .int .i64 0, .slice none 0 0, .slice none 0 0]
theorem Delete_S (d : Nat) (l : List InsE) (i : Nat) (hi : i < l.length) : ASpecM Try.prog 20 [.orow d 7 0 l.length, .i .i64 i, .i .i64 ((i : Int) + 1)] [(d, oT l)] (.orow d 7 0 (l.length - 1)) [(d, oT (l.eraseIdx i))] := by
  have hlen : (l.eraseIdx i).length = l.length - 1 := by rw [List.length_eraseIdx]; simp [hi]
  refine ⟨Try.call20, Clo.tree, fun S β w us hob hap hus hvr => ?_⟩
  obtain ⟨u0, us0, rfl, r0, u1, us1, rfl, r1, u2, us2, rfl, r2, r3⟩ := hus
  unfold rels at r3
  unfold rel at r0 r1 r2
  subst r3 r1 r2
  obtain ⟨hok0, rfl⟩ := r0
  have hfe : feet [(d, oT l)] β = (β d).foot := by simp [feet]
  have hlk : lk [(d, oT l)] d = some (oT l) := by rw [lk_cons, if_pos rfl]
  obtain ⟨hok, ht⟩ := hob.objs d _ hlk
  have hnd := hob.nodup
  rw [hfe] at hnd hap
  unfold treeD at ht
  obtain ⟨_, _, ⟨hn, hm⟩, hnode⟩ := ht
  have hr0 : rsub (β d) [] = ((β d).a, (β d).cap) := rfl
  rw [hr0] at hn hnode
  rcases hnode with ⟨z1, z2, z3⟩ | ⟨b, off, cells, ty, uf, FS, z1, z2, z3, z4, z5⟩
  · simp only at z2; omega
  simp only at z1 z4 hn
  have hsz : Enc.sz InsE = 7 := rfl
  rw [hsz] at z4 z5
  have hul : ∀ k, k < l.length → (uf k).length = 7 := fun k hk => (z5 k hk).1.1.1
  have hat : ∀ k, k < l.length → ∀ j u, (uf k)[j]? = some u → cells[off + k * 7 + j]? = some u := fun k hk => (z5 k hk).1.2
  have hbX : b ∈ (β d).foot := by rw [z2]; simp
  obtain ⟨news, hnews⟩ : ∃ news, news = flatN (fun k => uf (i + 1 + k)) (l.length - (i + 1)) := ⟨_, rfl⟩
  have hnl : news.length = (l.length - (i + 1)) * 7 := by rw [hnews]; exact flatN_len fun k hk => hul _ (by omega)
  have hcell : ∀ k, w.cell? ⟨b, k, none⟩ = cells[k]? := fun k => by rw [cell_blk z3]
  have hrun := del_run b off l.length (β d).cap i (i + 1) news w rfl hi hn hnl ?_ ?_ ?_
  · refine (by rw [z1, Nat.zero_mul, Nat.sub_zero]; exact hrun : Calls _ _ _ _ _).mono ?_
    clear hrun
    rintro e w' ⟨rfl, rfl⟩
    obtain ⟨a1, a2, a3, a4, a5, a6⟩ := setCells_blk news (off + i * 7) cells w.drew z3
    obtain ⟨b1, b2, b3, b4, b5, b6⟩ := setCells_blk zI (off + (l.length - 1) * 7) _ _ a1
    rw [show [Value.int IntKind.i64 0, Value.int IntKind.i64 0, Value.int IntKind.i64 0, Value.int IntKind.i64 0, Value.int IntKind.i64 0, Value.slice none 0 0, Value.slice none 0 0] = zI from rfl]
    generalize hw' : (w.drew.setCells b (off + i * 7) news).setCells b (off + (l.length - 1) * 7) zI = w' at b1 b2 b3 b4 b5 b6 ⊢
    have c2 : w'.heap.size = w.heap.size := b2.trans a2
    have c3 : ∀ k, k ≠ b → w'.heap[k]? = w.heap[k]? := fun k hk => (b3 k hk).trans (a3 k hk)
    obtain ⟨W, hW⟩ : ∃ W : Wt, W = ⟨some ⟨b, off, none⟩, (β d).cap, b :: (List.range (l.length - 1)).flatMap (skp i FS), true, fun p => match p with
      | [] => (none, 0)
      | (k, c) :: r => rsub (β d) ((if k < i then k else k + 1, c) :: r)⟩ := ⟨_, rfl⟩
    have hWf : W.foot.Sublist (β d).foot := by
      rw [hW, z2]
      refine List.Sublist.cons_cons _ ?_
      rw [List.flatMap_def, List.flatMap_def, skp_map i _ FS hi]
      exact erase_flat _ _
    have hfe' : feet [(d, oT (l.eraseIdx i))] (setB β d W) = W.foot := by simp [feet, setB_self]
    have hc : Comp S w (fun k => (S k ∨ w.heap.size ≤ k ∨ k ∈ (β d).foot) ∧ k ∉ W.foot) w' := ⟨by rw [c2]; exact Nat.le_refl _, fun k hk hs => ⟨⟨.inl hs, fun hq => hap k hs (hWf.subset hq)⟩, c3 k fun e => hap k hs (e ▸ hbX)⟩⟩
    have hnd2 := hnd
    rw [z2, List.nodup_cons] at hnd2
    have hFb : ∀ x, x < l.length → ∀ q ∈ FS x, q ≠ b := fun x hx q hq e => hnd2.1 (e ▸ List.mem_flatMap.2 ⟨x, List.mem_range.2 hx, hq⟩)
    have htr : ∀ x k, x < l.length → (if k < i then k else k + 1) = x → treeDs (fun k => (S k ∨ w.heap.size ≤ k ∨ k ∈ (β d).foot) ∧ k ∉ W.foot) w' (rsub W) (Enc.enc (l.getD x Enc.d)) [] k 0 (uf x) (FS x) := fun x k hx hk => by
      refine treeDs_shift (sb := rsub (β d)) _ [] [] x k 0 _ _ (fun c r => ?_) (treeDs_mono hc _ _ _ _ _ _ (fun q hq => c3 q (hFb x hx q hq)) (fun _ _ _ => rfl) (z5 x hx).2)
      rw [hW, ← hk]; rfl
    have hs1 : off + i * 7 + news.length ≤ cells.length := by
      rw [hnl]
      have : l.length * 7 ≤ (β d).cap * 7 := Nat.mul_le_mul_right 7 hn
      omega
    have hs2 : off + (l.length - 1) * 7 + zI.length ≤ (splice cells (off + i * 7) news).length := by
      rw [splice_length]
      have : l.length * 7 ≤ (β d).cap * 7 := Nat.mul_le_mul_right 7 hn
      have : zI.length = 7 := rfl
      omega
    have hrow : ∀ k, k < l.length - 1 → rowAt (splice (splice cells (off + i * 7) news) (off + (l.length - 1) * 7) zI) off 7 (skp i uf) k := fun k hk => by
      have hx : (skp i uf k).length = 7 ∧ (skp i uf k).all (·.oneCell') = true := by
        unfold skp; split
        · exact (z5 k (by omega)).1.1
        · exact (z5 (k + 1) (by omega)).1.1
      refine ⟨hx, fun j u hu => ?_⟩
      have hj : j < 7 := by rw [← hx.1]; exact (List.getElem?_eq_some_iff.1 hu).1
      rw [splice_get _ _ _ _ hs2, if_neg (by omega), splice_get _ _ _ _ hs1]
      unfold skp at hu
      split at hu
      · rw [if_neg (by omega)]
        exact hat k (by omega) j u hu
      · rename_i hki
        rw [if_pos (by rw [hnl]; omega), hnews]
        have := flatN_at (us := fun k => uf (i + 1 + k)) (e := 7) (m := l.length - (i + 1)) (fun k hk => hul _ (by omega)) (i := k - i) (r := j) (u := u) (by omega) (by rw [show i + 1 + (k - i) = k + 1 by omega]; exact hu)
        rw [← this]
        congr 1
        omega
    refine ⟨_, setB β d W, rfl, ⟨b4.trans a4, b5.trans a5, b6.trans a6, by rw [c2]; exact Nat.le_refl _, fun k hk hkX => c3 k fun e => hkX (by rw [hfe]; exact e ▸ hbX)⟩, fun id ob hl => ?_, fun k hk => ?_, ?_, ?_, fun id ob hl hbx => ?_, ?_⟩
    · rw [lk_cons] at hl
      split at hl
      · rename_i e
        subst e; cases hl
        rw [hfe, hfe', setB_self]
        refine ⟨by rw [hW], ?_⟩
        unfold treeD
        rw [hlen]
        refine ⟨rfl, (fun z hz => by cases hz), ⟨by rw [hW]; exact Nat.le_trans (Nat.sub_le _ _) hn, Nat.le_trans (Nat.sub_le _ _) hm⟩, .inr ⟨b, off, _, ty, skp i uf, skp i FS, by rw [hW]; rfl, by rw [hW], b1, by rw [hW, splice_length, splice_length]; exact z4, fun k hk => ⟨hrow k hk, ?_⟩⟩⟩
        show treeDs _ _ _ (Enc.enc ((l.eraseIdx i).getD k Enc.d)) _ _ _ _ _
        rw [skp_get]
        unfold skp
        split
        · rename_i hki; exact htr k k (by omega) (if_pos hki)
        · rename_i hki; exact htr (k + 1) k (by omega) (if_neg hki)
      · simp [lk] at hl
    · rw [hfe'] at hk
      rw [hfe, c2]
      exact ⟨.inr (hWf.subset hk), hob.lt k (by rw [hfe]; exact hWf.subset hk)⟩
    · rw [hfe']; exact hnd.sublist hWf
    · simp
    · rw [lk_cons] at hl
      split at hl
      · cases hl; cases hbx
      · simp [lk] at hl
    · unfold rel
      rw [setB_self]
      refine ⟨by rw [hW], ?_⟩
      rw [hW, Nat.zero_mul, Nat.sub_zero]; rfl
  · rw [hnews]
    exact fun u hu => List.all_eq_true.1 (flatN_one fun k hk => (z5 _ (by omega)).1.1.2) u hu
  · intro t u hu
    rw [hnews] at hu
    obtain ⟨k, r, h1, rfl, h3⟩ := flatN_get (e := 7) (fun k hk => hul _ (by omega)) hu
    rw [hcell]
    have := hat _ (by omega : i + 1 + k < l.length) r u h3
    rw [← this]
    congr 1
    omega
  · intro t ht
    have h7 : l.length * 7 ≤ (β d).cap * 7 := Nat.mul_le_mul_right 7 hn
    refine ⟨by rw [hcell, List.getElem?_eq_getElem (by omega)]; rfl, by simp [World.frozen?, z3]⟩
def cut (f : FnE) (b i : Nat) : FnE := { f with blocks := f.blocks.set b ⟨(f.blocks.getD b Enc.d).code.eraseIdx i⟩ }
def fstD (g : FnE) (b i : Nat) : Prop := (b < g.blocks.length ∧ i < lenE g b) ∧ deadB g ⟨0, (b : Int), (i : Int)⟩ = true ∧ ∀ b' i', (b' < b ∨ b' = b ∧ i' < i) → i' < lenE g b' → deadB g ⟨0, (b' : Int), (i' : Int)⟩ = false
def noD (g : FnE) : Prop := ∀ b i, i < lenE g b → deadB g ⟨0, (b : Int), (i : Int)⟩ = false
theorem fstD_uniq {g : FnE} {b i b' i' : Nat} (h : fstD g b i) (h' : fstD g b' i') : b = b' ∧ i = i' := by
  obtain ⟨⟨a1, a2⟩, a3, a4⟩ := h
  obtain ⟨⟨c1, c2⟩, c3, c4⟩ := h'
  apply Classical.byContradiction
  intro hn
  have : (b < b' ∨ b = b' ∧ i < i') ∨ (b' < b ∨ b' = b ∧ i' < i) := by omega
  rcases this with h | h
  · rw [c4 b i h a2] at a3; cases a3
  · rw [a4 b' i' h c2] at c3; cases c3
noncomputable def stepD (g : FnE) : Option (Nat × Nat) := @dite _ (∃ p : Nat × Nat, fstD g p.1 p.2) (Classical.propDecidable _) (fun h => some (Classical.choose h)) (fun _ => none)
theorem stepD_some {g : FnE} {b i : Nat} (h : fstD g b i) : stepD g = some (b, i) := by
  have hex : ∃ p : Nat × Nat, fstD g p.1 p.2 := ⟨(b, i), h⟩
  unfold stepD
  rw [@dif_pos _ (Classical.propDecidable _) hex]
  have := fstD_uniq (Classical.choose_spec hex) h
  exact congrArg some (Prod.ext this.1 this.2)
theorem stepD_none {g : FnE} (h : noD g) : stepD g = none := by
  unfold stepD
  rw [@dif_neg _ (Classical.propDecidable _) fun ⟨p, hp⟩ => (by have := h p.1 p.2 hp.1.2; rw [hp.2.1] at this; cases this)]
noncomputable def dseN : Nat → FnE → FnE
  | 0, g => g
  | n + 1, g => match stepD g with
    | some (b, i) => dseN n (cut g b i)
    | none => g
def totI (f : FnE) : Nat := (f.blocks.map fun b => b.code.length).sum
noncomputable def dseAll (f : FnE) : FnE := dseN (totI f) f
theorem sum_set : ∀ (l : List Nat) (b x : Nat), b < l.length → (l.set b x).sum + l.getD b 0 = l.sum + x
  | [], b, x, h => by simp at h
  | y :: l, 0, x, h => by simp; omega
  | y :: l, b + 1, x, h => by
    have := sum_set l b x (by simpa using h)
    simp only [List.set_cons_succ, List.sum_cons, List.getD_cons_succ]; omega
theorem tot_cut {f : FnE} {b i : Nat} (hb : b < f.blocks.length) (hi : i < lenE f b) : totI (cut f b i) + 1 = totI f := by
  have h := sum_set (f.blocks.map fun b => b.code.length) b ((f.blocks.getD b Enc.d).code.eraseIdx i).length (by simpa using hb)
  have e1 : (f.blocks.map fun b => b.code.length).getD b 0 = lenE f b := by
    simp [List.getD_eq_getElem?_getD, hb, lenE]
  have e2 : ((f.blocks.getD b Enc.d).code.eraseIdx i).length = lenE f b - 1 := by
    rw [List.length_eraseIdx]; exact if_pos hi
  have e3 : totI (cut f b i) = ((f.blocks.map fun b => b.code.length).set b ((f.blocks.getD b Enc.d).code.eraseIdx i).length).sum := by
    unfold totI cut
    rw [List.map_set]
  have e4 : totI f = (f.blocks.map fun b => b.code.length).sum := rfl
  omega
theorem blk_cut {f : FnE} {b i b' : Nat} (hb : b < f.blocks.length) : (cut f b i).blocks.getD b' Enc.d = if b' = b then ⟨(f.blocks.getD b Enc.d).code.eraseIdx i⟩ else f.blocks.getD b' Enc.d := by
  unfold cut
  simp only [List.getD_eq_getElem?_getD, List.getElem?_set]
  split
  · rename_i h; subst h; simp [hb]
  · rename_i h; rw [if_neg fun e => h e.symm]
theorem siz_erase {α : Type} [Enc α] [Siz α] : ∀ (l : List α) (i : Nat), siz (l.eraseIdx i) ≤ siz l
  | [], i => by simp
  | x :: l, 0 => by
    have e : siz (x :: l) = l.length + 1 + (siz x + (l.map siz).sum) := rfl
    have e2 : siz l = l.length + (l.map siz).sum := rfl
    rw [List.eraseIdx_cons_zero]; omega
  | x :: l, i + 1 => by
    have h := siz_erase l i
    have e : siz (x :: l) = l.length + 1 + (siz x + (l.map siz).sum) := rfl
    have e2 : siz l = l.length + (l.map siz).sum := rfl
    have e3 : siz (x :: l.eraseIdx i) = (l.eraseIdx i).length + 1 + (siz x + ((l.eraseIdx i).map siz).sum) := rfl
    have e4 : siz (l.eraseIdx i) = (l.eraseIdx i).length + ((l.eraseIdx i).map siz).sum := rfl
    rw [List.eraseIdx_cons_succ]; omega
theorem siz_set {α : Type} [Enc α] [Siz α] : ∀ (l : List α) (b : Nat) (y : α), siz y ≤ siz (l.getD b Enc.d) → siz (l.set b y) ≤ siz l
  | [], b, y, h => by simp
  | x :: l, 0, y, h => by
    have e : siz (x :: l) = l.length + 1 + (siz x + (l.map siz).sum) := rfl
    have e2 : siz (y :: l) = l.length + 1 + (siz y + (l.map siz).sum) := rfl
    have h : siz y ≤ siz x := h
    rw [List.set_cons_zero]; omega
  | x :: l, b + 1, y, h => by
    have h := siz_set l b y h
    have e : siz (x :: l) = l.length + 1 + (siz x + (l.map siz).sum) := rfl
    have e2 : siz l = l.length + (l.map siz).sum := rfl
    have e3 : siz (x :: l.set b y) = (l.set b y).length + 1 + (siz x + ((l.set b y).map siz).sum) := rfl
    have e4 : siz (l.set b y) = (l.set b y).length + ((l.set b y).map siz).sum := rfl
    rw [List.set_cons_succ]; omega
theorem siz_cut (f : FnE) (b i : Nat) : siz (cut f b i) ≤ siz f := by
  have h : siz (f.blocks.set b ⟨(f.blocks.getD b Enc.d).code.eraseIdx i⟩) ≤ siz f.blocks := siz_set _ _ _ (siz_erase _ _)
  have e : siz (cut f b i) = siz f.name + siz f.params + siz (f.blocks.set b ⟨(f.blocks.getD b Enc.d).code.eraseIdx i⟩) := rfl
  have e2 : siz f = siz f.name + siz f.params + siz f.blocks := rfl
  omega
theorem len_blk {g : FnE} {b i : Nat} (h : i < lenE g b) : b < g.blocks.length := by
  apply Classical.byContradiction
  intro hb
  unfold lenE at h
  rw [List.getD_eq_getElem?_getD, List.getElem?_eq_none (by omega)] at h
  exact absurd h (Nat.not_lt_zero _)
theorem cut_len (f : FnE) (b i : Nat) : (cut f b i).blocks.length = f.blocks.length := by unfold cut; simp
theorem ins_cut {f : FnE} {b i : Nat} (hb : b < f.blocks.length) (b' k : Nat) : ∃ k', insE (cut f b i) b' k = insE f b' k' ∧ (k < lenE (cut f b i) b' → k' < lenE f b') := by
  unfold insE lenE
  rw [blk_cut hb]
  split
  · rename_i h; subst h
    refine ⟨if k < i then k else k + 1, ?_, fun h => ?_⟩
    · show ((f.blocks.getD b' Enc.d).code.eraseIdx i).getD k Enc.d = _
      rw [skp_get]; unfold skp; split <;> rfl
    · have h : k < ((f.blocks.getD b' Enc.d).code.eraseIdx i).length := h
      rw [List.length_eraseIdx] at h
      split at h <;> split <;> omega
  · exact ⟨k, rfl, id⟩
theorem OkF.cut {f : FnE} {b i : Nat} (h : OkF f) (hb : b < f.blocks.length) : OkF (cut f b i) where
  sz := Nat.lt_of_le_of_lt (siz_cut f b i) h.sz
  n := fun b' k => by
    obtain ⟨k', e, _⟩ := ins_cut (i := i) hb b' k
    have e : ((Go.Proofs.Ytjfdbmfcnhjfoaa.cut f b i).blocks.getD b' Enc.d).code.getD k Enc.d = insE f b' k' := e
    rw [e]; exact h.n b' k'
  reg := fun b' k => by
    obtain ⟨k', e, _⟩ := ins_cut (i := i) hb b' k
    have e : ((Go.Proofs.Ytjfdbmfcnhjfoaa.cut f b i).blocks.getD b' Enc.d).code.getD k Enc.d = insE f b' k' := e
    rw [e]; exact h.reg b' k'
  arg := fun b' k j => by
    obtain ⟨k', e, _⟩ := ins_cut (i := i) hb b' k
    have e : ((Go.Proofs.Ytjfdbmfcnhjfoaa.cut f b i).blocks.getD b' Enc.d).code.getD k Enc.d = insE f b' k' := e
    rw [e]; exact h.arg b' k' j
theorem OkA.cut {f : FnE} {b i : Nat} (h : OkA f) (hb : b < f.blocks.length) : OkA (cut f b i) where
  st := fun b' k hk ho => by
    obtain ⟨k', e, e2⟩ := ins_cut (i := i) hb b' k
    rw [e] at ho ⊢; exact h.st b' k' (e2 hk) ho
  ld := fun b' k hk ho => by
    obtain ⟨k', e, e2⟩ := ins_cut (i := i) hb b' k
    rw [e] at ho ⊢; exact h.ld b' k' (e2 hk) ho
  nb := by rw [cut_len]; exact h.nb
theorem tree_upd {g g' : Nat → List AV} {k t : Nat} {x : AV} (hg : t = k → ∃ y, g k = [y]) (h1 : t = k → teqs [x] (g' t)) (h2 : t ≠ k → teqs (g t) (g' t)) : teqs (setG (updG [] g k 0 [.any]) k 0 [x] t) (g' t) := by
  by_cases e : t = k
  · subst e
    obtain ⟨y, hy⟩ := hg rfl
    have e1 : setG (updG [] g t 0 [.any]) t 0 [x] t = [x] := by
      simp only [setG, updG, if_true, hy]; rfl
    rw [e1]; exact h1 rfl
  · have e1 : setG (updG [] g k 0 [.any]) k 0 [x] t = g t := by
      simp only [setG, updG, if_neg e]
    rw [e1]; exact h2 e
structure DS where
  b : Nat
  g : FnE
structure DI (f : FnE) (p : DS) : Prop where
  hb : p.b ≤ p.g.blocks.length
  nm : p.g.name = f.name ∧ p.g.params = f.params ∧ p.g.ret = f.ret
  red : ∃ n, totI p.g ≤ n ∧ dseN n p.g = dseAll f
  no : ∀ b' i', b' < p.b → i' < lenE p.g b' → deadB p.g ⟨0, (b' : Int), (i' : Int)⟩ = false
  okF : OkF p.g
  okA : OkA p.g
def dsO (f g : FnE) : Os := [(1, .box none none [.s f.name, .orow 1001 1 0 f.params.length, .i .i64 f.ret, .orow 1002 1 0 g.blocks.length]), (2, bx (Enc.d : FnE)), (1001, oL f.params), (1002, oT g.blocks)]
theorem dseAll_S (f : FnE) (hs : OkF f) (ha : OkA f) : ASpec Try.prog 8 [eS f] (.agg [.s f.name, .orow 1001 1 0 f.params.length, .i .i64 f.ret, .orow 1002 1 0 (dseAll f).blocks.length]) [(1001, oL f.params), (1002, oT (dseAll f).blocks)] := by
  have hz := hs.sz
  have h1 := blocks_le f
  have h2 := params_le f
  refine ASpec.enter TYok mixed Try.func8 rfl Try.call8 Try.ntmps8 rfl (rs := [.cell 2 32]) rfl (nd2 (show (1001 : Nat) ≠ 1002 from by decide)) (Clo.fn (c := 1001) (d := 1002) (by decide)) (keep := [0, 1, 2, 3, 4, 20, 21]) ?_; conv => whnf
  repeat' first | (refine iF (fun hb => ?_) (fun hb => ?_) <;> (try simp only [pickB_or, pickB_and] at hb) <;> (have hc := hb; try simp only [sB, Int.reduceToNat] at hc; try simp only [addZ0] at hc) <;> first | (exfalso; omega) | conv => whnf) | ((first | refine ⟨_, wr64 ti ti, ?_⟩ | refine And.intro si ?_ | refine And.intro ⟨rfl, fun _ _ => rfl⟩ ?_ | refine And.intro (⟨⟨rfl, rfl⟩, by omega⟩ : (_ = _ ∧ _ = _) ∧ _) ?_ | refine And.intro (⟨rfl, by omega⟩ : _ = _ ∧ _) ?_ | refine LitW.frz ?_ | refine PreW.own ?_ | refine AppW.mv ?_ | refine TakW.tree ?_ | refine dD ?_ | refine dF ?_ | refine d0 ?_ | refine d1 ?_ | refine dL ?_ | refine dP ?_ | refine And.intro tgi ?_ | refine ⟨_, shl1 (by omega), ?_⟩ | refine ⟨_, wru64 ti ti, ?_⟩ | refine ⟨_, fun _ => (IntKind.wrap_u64 _).symm, ?_⟩); conv => whnf) | ((first | refine cK (fun _ => CopyFuncT_S f hz) ?_ | ((try (refine CallW.lent ?_; (conv => whnf); repeat (refine And.intro si ?_; (conv => whnf)))); refine cL (fun _ => CopyFuncT_S f hz) ?_)); conv => whnf) | (refine CallV.ret ?_; conv => whnf) | exact ⟨_, .keep rfl rfl⟩ | fail
  refine lp [3] (fun p : DS => [.i .i64 p.b]) (fun p => dsO f p.g) (fun p => DI f p) (fun p => totI p.g * (p.g.blocks.length + 1) + (p.g.blocks.length - p.b)) ⟨0, f⟩ ⟨Nat.zero_le _, ⟨rfl, rfl, rfl⟩, ⟨_, Nat.le_refl _, rfl⟩, fun b' i' h => absurd h (Nat.not_lt_zero _), hs, ha⟩ ?_ fun p hp => ?_
  · refine eP [] [] ?_ ?_ <;> repeat' first | exact eN | refine And.intro ?_ ?_
    exact fun i _ => teqs_refl _
  conv => whnf
  obtain ⟨hpb, hpn, ⟨n, hn1, hn2⟩, hno, hF, hA⟩ := hp
  have hbl := blocks_le p.g
  have hgz := hF.sz
  have hcl := code_le p.g p.b
  have hdead : ∀ k : Nat, ASpec Try.prog 11 [.agg [.s f.name, eL f.params, .i .i64 f.ret, eL p.g.blocks], eS (⟨0, (p.b : Int), (k : Int)⟩ : Plc)] (.b (deadB p.g ⟨0, (p.b : Int), (k : Int)⟩)) [] := fun k => by
    have := Dead_S p.g ⟨0, (p.b : Int), (k : Int)⟩ hF hA
    rw [← hpn.1, ← hpn.2.1, ← hpn.2.2]
    exact this
  repeat' first | (refine iF (fun hb => ?_) (fun hb => ?_) <;> (try simp only [pickB_or, pickB_and] at hb) <;> (have hc := hb; try simp only [sB, Int.reduceToNat] at hc; try simp only [addZ0] at hc) <;> first | (exfalso; omega) | conv => whnf) | ((first | refine ⟨_, wr64 ti ti, ?_⟩ | refine And.intro si ?_ | refine And.intro ⟨rfl, fun _ _ => rfl⟩ ?_ | refine And.intro (⟨⟨rfl, rfl⟩, by omega⟩ : (_ = _ ∧ _ = _) ∧ _) ?_ | refine And.intro (⟨rfl, by omega⟩ : _ = _ ∧ _) ?_ | refine LitW.frz ?_ | refine PreW.own ?_ | refine AppW.mv ?_ | refine TakW.tree ?_ | refine dD ?_ | refine dF ?_ | refine d0 ?_ | refine d1 ?_ | refine dL ?_ | refine dP ?_ | refine And.intro tgi ?_ | refine ⟨_, shl1 (by omega), ?_⟩ | refine ⟨_, wru64 ti ti, ?_⟩ | refine ⟨_, fun _ => (IntKind.wrap_u64 _).symm, ?_⟩); conv => whnf) | (refine CallV.ret ?_; conv => whnf) | exact ⟨_, .keep rfl rfl⟩ | fail
  · refine lp [21] (fun k : Nat => [.i .i64 k]) (fun k => dsO f p.g) (fun k => k ≤ lenE p.g p.b ∧ ∀ i', i' < k → deadB p.g ⟨0, (p.b : Int), (i' : Int)⟩ = false) (fun k => lenE p.g p.b - k) 0 ⟨Nat.zero_le _, fun i' h => absurd h (Nat.not_lt_zero _)⟩ ?_ fun k hk => ?_
    · refine eP [] [] ?_ ?_ <;> repeat' first | exact eN | refine And.intro ?_ ?_
      exact fun i _ => teqs_refl _
    conv => whnf
    obtain ⟨hk, hw⟩ := hk
    have hk' : k ≤ (p.g.blocks.getD p.b Enc.d).code.length := hk
    have hle : lenE p.g p.b = (p.g.blocks.getD p.b Enc.d).code.length := rfl
    have hlt : ∀ h : ((k : Nat) : Int) < ((p.g.blocks.getD p.b Enc.d).code.length : Int), k < (p.g.blocks.getD p.b Enc.d).code.length := fun h => by omega
    repeat' first | (refine iF (fun hb => ?_) (fun hb => ?_) <;> (try simp only [pickB_or, pickB_and] at hb) <;> (have hc := hb; try simp only [sB, Int.reduceToNat] at hc; try simp only [addZ0] at hc) <;> first | (exfalso; omega) | conv => whnf) | ((first | refine ⟨_, wr64 ti ti, ?_⟩ | refine And.intro si ?_ | refine And.intro ⟨rfl, fun _ _ => rfl⟩ ?_ | refine And.intro (⟨⟨rfl, rfl⟩, by omega⟩ : (_ = _ ∧ _ = _) ∧ _) ?_ | refine And.intro (⟨rfl, by omega⟩ : _ = _ ∧ _) ?_ | refine LitW.frz ?_ | refine PreW.own ?_ | refine AppW.mv ?_ | refine TakW.tree ?_ | refine dE ?_ | refine dD ?_ | refine dF ?_ | refine d0 ?_ | refine d1 ?_ | refine dL ?_ | refine dP ?_ | refine And.intro tgi ?_ | refine ⟨_, shl1 (by omega), ?_⟩ | refine ⟨_, wru64 ti ti, ?_⟩ | refine ⟨_, fun _ => (IntKind.wrap_u64 _).symm, ?_⟩); conv => whnf) | ((first | refine cK (fun _ => hdead k) ?_ | ((try (refine CallW.lent ?_; (conv => whnf); repeat (refine And.intro si ?_; (conv => whnf)))); refine cL (fun _ => hdead k) ?_)); conv => whnf) | (refine CallW.own ?_; (conv => whnf); refine cM (Delete_S 100037 (p.g.blocks.getD p.b Enc.d).code k (hlt (by assumption))) ?_; conv => whnf) | (refine CallV.ret ?_; conv => whnf) | exact ⟨_, .keep rfl rfl⟩ | fail
    · have hb2 : p.b < p.g.blocks.length := by omega
      have hk2 : k < lenE p.g p.b := by omega
      have hst : stepD p.g = some (p.b, k) := stepD_some ⟨⟨hb2, hk2⟩, hb, fun b' i' h1 h2 => by
        rcases h1 with h1 | ⟨rfl, h1⟩
        · exact hno b' i' h1 h2
        · exact hw i' h1⟩
      have htc := tot_cut hb2 hk2
      have hmu : totI p.g * (p.g.blocks.length + 1) = totI (cut p.g p.b k) * (p.g.blocks.length + 1) + (p.g.blocks.length + 1) := by rw [← htc, Nat.succ_mul]
      have hcl2 := cut_len p.g p.b k
      refine ⟨⟨by rw [List.length_eraseIdx]; exact if_pos (by omega), hb2⟩, ?_⟩
      conv => whnf
      repeat' first | (refine iF (fun hb => ?_) (fun hb => ?_) <;> (try simp only [pickB_or, pickB_and] at hb) <;> (have hc := hb; try simp only [sB, Int.reduceToNat] at hc; try simp only [addZ0] at hc) <;> first | (exfalso; omega) | conv => whnf) | ((first | refine ⟨_, wr64 ti ti, ?_⟩ | refine And.intro si ?_ | refine And.intro ⟨rfl, fun _ _ => rfl⟩ ?_ | refine And.intro (⟨⟨rfl, rfl⟩, by omega⟩ : (_ = _ ∧ _ = _) ∧ _) ?_ | refine And.intro (⟨rfl, by omega⟩ : _ = _ ∧ _) ?_ | refine LitW.frz ?_ | refine PreW.own ?_ | refine AppW.mv ?_ | refine TakW.tree ?_ | refine dE ?_ | refine dD ?_ | refine dF ?_ | refine d0 ?_ | refine d1 ?_ | refine dL ?_ | refine dP ?_ | refine And.intro tgi ?_ | refine ⟨_, shl1 (by omega), ?_⟩ | refine ⟨_, wru64 ti ti, ?_⟩ | refine ⟨_, fun _ => (IntKind.wrap_u64 _).symm, ?_⟩); conv => whnf) | (refine CallV.ret ?_; conv => whnf) | exact ⟨_, .keep rfl rfl⟩ | fail
      refine .mk ⟨0, cut p.g p.b k⟩ ⟨Nat.zero_le _, hpn, ?_, fun b' i' h => absurd h (Nat.not_lt_zero _), hF.cut hb2, hA.cut hb2⟩ (by show totI (cut p.g p.b k) * ((cut p.g p.b k).blocks.length + 1) + ((cut p.g p.b k).blocks.length - 0) < totI p.g * (p.g.blocks.length + 1) + (p.g.blocks.length - p.b); rw [hcl2]; omega) ?_
      · cases n with
        | zero => omega
        | succ n => exact ⟨n, by show totI (cut p.g p.b k) ≤ n; omega, by rw [← hn2, dseN, hst]⟩
      refine eP [] [] ?_ ?_ <;> repeat' first | exact eN | refine And.intro ?_ ?_
      · exact hcl2.symm
      · exact hcl2.symm
      · intro t ht
        refine tree_upd (g := fun i => Enc.enc (p.g.blocks.getD i Enc.d)) (g' := fun i => Enc.enc ((cut p.g p.b k).blocks.getD i Enc.d)) (k := p.b) (t := t) (x := AV.row none 7 ((p.g.blocks.getD p.b Enc.d).code.length - 1) fun i => Enc.enc (((p.g.blocks.getD p.b Enc.d).code.eraseIdx k).getD i Enc.d)) (fun e => ⟨eL (p.g.blocks.getD p.b Enc.d).code, rfl⟩) (fun e => ?_) (fun e => ?_)
        · subst e
          show teqs _ (Enc.enc ((cut p.g p.b k).blocks.getD p.b Enc.d))
          rw [blk_cut hb2, if_pos rfl]
          unfold teqs
          refine ⟨?_, by unfold teqs; rfl⟩
          unfold teq
          exact ⟨rfl, by rw [List.length_eraseIdx]; exact (if_pos (by omega)).symm, fun i _ => teqs_refl _⟩
        · show teqs _ (Enc.enc ((cut p.g p.b k).blocks.getD t Enc.d))
          rw [blk_cut hb2, if_neg e]
          exact teqs_refl _
    · refine .mk (k + 1) ⟨by omega, fun i' h => ?_⟩ (by omega) ?_
      · rcases Nat.lt_or_ge i' k with h' | h'
        · exact hw i' h'
        · obtain rfl : i' = k := by omega
          exact hb
      refine eP [] [] ?_ ?_ <;> repeat' first | exact eN | refine And.intro ?_ ?_
      exact fun i _ => teqs_refl _
    · refine .mk ⟨p.b + 1, p.g⟩ ⟨(by show p.b + 1 ≤ p.g.blocks.length; omega), hpn, ⟨n, hn1, hn2⟩, fun b' i' h1 h2 => ?_, hF, hA⟩ (by show totI p.g * (p.g.blocks.length + 1) + (p.g.blocks.length - (p.b + 1)) < totI p.g * (p.g.blocks.length + 1) + (p.g.blocks.length - p.b); omega) ?_
      · rcases Nat.lt_or_ge b' p.b with h' | h'
        · exact hno b' i' h' h2
        · obtain rfl : b' = p.b := by have h1 : b' < p.b + 1 := h1; omega
          have h2 : i' < lenE p.g p.b := h2
          exact hw i' (by omega)
      refine eP [] [] ?_ ?_ <;> repeat' first | exact eN | refine And.intro ?_ ?_
      exact fun i _ => teqs_refl _
  · have hnd : noD p.g := fun b i hi => hno b i (by
      have := len_blk hi
      omega) hi
    have e : dseAll f = p.g := by
      rw [← hn2]
      cases n with
      | zero => rfl
      | succ n => rw [dseN, stepD_none hnd]
    rw [e]
    exact ⟨_, .agg (.cons (.keep rfl rfl) (.cons (.give rfl rfl rfl (fun _ _ => rfl) rfl) (.cons (.keep rfl rfl) (.cons (.giveT rfl rfl rfl (fun _ _ => teqs_refl _) rfl) .nil (nodupB_ok rfl)) (nodupB_ok rfl)) (nodupB_ok rfl)) (nodupB_ok rfl))⟩
theorem least {P : Nat → Prop} : ∀ n, P n → ∃ m, P m ∧ ∀ k, k < m → ¬P k := by
  intro n
  induction n using Nat.strongRecOn with
  | _ n ih =>
    intro hn
    rcases Classical.em (∃ k, k < n ∧ P k) with ⟨k, h1, h2⟩ | h
    · exact ih k h1 h2
    · exact ⟨n, hn, fun k hk hp => h ⟨k, hk, hp⟩⟩
theorem fstD_ex {g : FnE} (h : ¬noD g) : ∃ b i, fstD g b i := by
  have h1 : ∃ b, ∃ i, i < lenE g b ∧ deadB g ⟨0, (b : Int), (i : Int)⟩ = true := by
    apply Classical.byContradiction
    intro hn
    refine h fun b i hi => ?_
    cases hd : deadB g ⟨0, (b : Int), (i : Int)⟩ with
    | false => rfl
    | true => exact absurd ⟨b, i, hi, hd⟩ hn
  obtain ⟨b0, hb0⟩ := h1
  obtain ⟨b, ⟨i0, hi0⟩, hb⟩ := least (P := fun b => ∃ i, i < lenE g b ∧ deadB g ⟨0, (b : Int), (i : Int)⟩ = true) b0 hb0
  obtain ⟨i, ⟨h1, h2⟩, h3⟩ := least (P := fun i => i < lenE g b ∧ deadB g ⟨0, (b : Int), (i : Int)⟩ = true) i0 hi0
  refine ⟨b, i, ⟨len_blk h1, h1⟩, h2, fun b' i' hlt hl => ?_⟩
  cases hd : deadB g ⟨0, (b' : Int), (i' : Int)⟩ with
  | false => rfl
  | true =>
    rcases hlt with hlt | ⟨rfl, hlt⟩
    · exact absurd ⟨i', hl, hd⟩ (hb b' hlt)
    · exact absurd ⟨hl, hd⟩ (h3 i' hlt)
theorem stepD_cases (g : FnE) : (noD g ∧ stepD g = none) ∨ ∃ b i, fstD g b i ∧ stepD g = some (b, i) := by
  rcases Classical.em (noD g) with h | h
  · exact .inl ⟨h, stepD_none h⟩
  · obtain ⟨b, i, h⟩ := fstD_ex h
    exact .inr ⟨b, i, h, stepD_some h⟩
theorem len_tot {g : FnE} {b : Nat} : lenE g b ≤ totI g := by
  unfold lenE totI
  rcases Nat.lt_or_ge b g.blocks.length with h | h
  · have : (g.blocks.getD b Enc.d).code.length ∈ g.blocks.map fun b => b.code.length := by
      rw [List.getD_eq_getElem?_getD, List.getElem?_eq_getElem h]
      exact List.mem_map.2 ⟨_, List.getElem_mem h, rfl⟩
    generalize (g.blocks.map fun b => b.code.length) = l at this ⊢
    induction l with
    | nil => cases this
    | cons x l ih =>
      rw [List.sum_cons]
      cases this with
      | head => omega
      | tail _ h => have := ih h; omega
  · rw [List.getD_eq_getElem?_getD, List.getElem?_eq_none h]; exact Nat.zero_le _
inductive SubS : List InsE → List InsE → Prop
  | nil : SubS [] []
  | keep {x l m} : SubS l m → SubS (x :: l) (x :: m)
  | drop {x l m} : x.op = 28 → SubS l m → SubS (x :: l) m
theorem SubS.refl : ∀ l : List InsE, SubS l l
  | [] => .nil
  | x :: l => .keep (SubS.refl l)
theorem SubS.erase : ∀ {l m : List InsE} {i : Nat}, SubS l m → i < m.length → (m.getD i Enc.d).op = 28 → SubS l (m.eraseIdx i)
  | _, _, i, .nil, hi, _ => absurd hi (Nat.not_lt_zero _)
  | _, _, 0, .keep h, hi, ho => .drop ho h
  | _, _, i + 1, .keep h, hi, ho => .keep (h.erase (Nat.lt_of_succ_lt_succ hi) ho)
  | _, _, i, .drop hx h, hi, ho => .drop hx (h.erase hi ho)
theorem SubS.tl {x : InsE} {m : List InsE} : ∀ {l : List InsE}, x.op = 28 → SubS l (x :: m) → SubS l m
  | _, hx, .keep h => .drop hx h
  | _, hx, .drop hy h => .drop hy (h.tl hx)
theorem SubS.eq {x : InsE} {l m : List InsE} (h : SubS (x :: l) (x :: m)) : SubS l m := by
  cases h with
  | keep h => exact h
  | drop hx h => exact h.tl hx
theorem SubS.ne {x : InsE} {l m : List InsE} (h : SubS (x :: l) m) (hn : ∀ y m', m = y :: m' → x ≠ y) : x.op = 28 ∧ SubS l m := by
  cases h with
  | keep h => exact absurd rfl (hn _ _ rfl)
  | drop hx h => exact ⟨hx, h⟩
structure CutOf (f g : FnE) : Prop where
  nm : g.name = f.name ∧ g.params = f.params ∧ g.ret = f.ret
  len : g.blocks.length = f.blocks.length
  sub : ∀ b, SubS (f.blocks.getD b Enc.d).code (g.blocks.getD b Enc.d).code
  sz : siz g ≤ siz f
  okF : OkF g
  okA : OkA g
theorem CutOf.refl {f : FnE} (hs : OkF f) (ha : OkA f) : CutOf f f := ⟨⟨rfl, rfl, rfl⟩, rfl, fun b => .refl _, Nat.le_refl _, hs, ha⟩
theorem dead_op {g : FnE} {b i : Nat} (h : deadB g ⟨0, (b : Int), (i : Int)⟩ = true) : (insE g b i).op = 28 := by
  have := (@decide_eq_true_iff _ (Classical.propDecidable _)).1 h
  exact this.2.2.2.1
theorem CutOf.cut {f g : FnE} {b i : Nat} (h : CutOf f g) (hd : fstD g b i) : CutOf f (cut g b i) where
  nm := h.nm
  len := by rw [cut_len]; exact h.len
  sub := fun b' => by
    rw [blk_cut hd.1.1]
    split
    · rename_i e; subst e
      exact (h.sub b').erase hd.1.2 (dead_op hd.2.1)
    · exact h.sub b'
  sz := Nat.le_trans (siz_cut g b i) h.sz
  okF := h.okF.cut hd.1.1
  okA := h.okA.cut hd.1.1
theorem dseN_all : ∀ {n : Nat} {f g : FnE}, CutOf f g → totI g ≤ n → CutOf f (dseN n g) ∧ noD (dseN n g)
  | 0, f, g, h, ht => ⟨h, fun b i hi => by have := len_tot (g := g) (b := b); exact absurd (show i < lenE g b from hi) (by omega)⟩
  | n + 1, f, g, h, ht => by
    rcases stepD_cases g with ⟨h1, h2⟩ | ⟨b, i, h1, h2⟩
    · rw [dseN, h2]; exact ⟨h, h1⟩
    · rw [dseN, h2]
      have := tot_cut h1.1.1 h1.1.2
      exact dseN_all (h.cut h1) (by omega)
theorem dseAll_cut {f : FnE} (hs : OkF f) (ha : OkA f) : CutOf f (dseAll f) ∧ noD (dseAll f) := dseN_all (.refl hs ha) (Nat.le_refl _)
theorem dseAll_id {g : FnE} (h : noD g) : dseAll g = g := by
  unfold dseAll
  cases totI g with
  | zero => rfl
  | succ n => rw [dseN, stepD_none h]
def sumQ (f : FnE) (q : Nat) : Nat := ((f.blocks.take q).map fun b => b.code.length).sum
theorem sumQ_succ {f : FnE} {q : Nat} (h : q < f.blocks.length) : sumQ f (q + 1) = sumQ f q + (f.blocks.getD q Enc.d).code.length := by
  unfold sumQ
  rw [List.take_add_one, List.getElem?_eq_getElem h, List.map_append, List.sum_append, List.getD_eq_getElem?_getD, List.getElem?_eq_getElem h]
  simp
theorem sumQ_all {f : FnE} {q : Nat} (h : f.blocks.length ≤ q) : sumQ f q = totI f := by
  unfold sumQ totI; rw [List.take_of_length_le h]
theorem sumC_take : ∀ (l : List BlkE) (q : Nat), ((l.take q).map fun b => b.code.length).sum ≤ (l.map siz).sum
  | [], q => by simp
  | x :: l, 0 => by simp
  | x :: l, q + 1 => by
    have h := sumC_take l q
    have h2 : x.code.length ≤ siz x := len_siz x.code
    simp only [List.take_succ_cons, List.map_cons, List.sum_cons]; omega
theorem sumQ_le (f : FnE) (q : Nat) : sumQ f q ≤ siz f := by
  have h := sumC_take f.blocks q
  have e : siz f = siz f.name + siz f.params + siz f.blocks := rfl
  have e2 : siz f.blocks = f.blocks.length + (f.blocks.map siz).sum := rfl
  have e3 : sumQ f q = ((f.blocks.take q).map fun b => b.code.length).sum := rfl
  omega
theorem Size_S (f : FnE) (hs : siz f < 4294967296) : ASpec Try.prog 15 [eS f] (.i .i64 (totI f : Nat)) [] := by
  have h1 := blocks_le f
  refine ASpec.enter TYok mixed Try.func15 rfl Try.call15 Try.ntmps15 rfl (rs := [.tmp 2]) rfl (nodupB_ok rfl) (Clo.one rfl) (keep := [0, 1, 2, 3, 5, 7, 8, 9]) ?_; conv => whnf
  repeat' first | (refine iF (fun hb => ?_) (fun hb => ?_) <;> (try simp only [pickB_or, pickB_and] at hb) <;> (have hc := hb; try simp only [sB, Int.reduceToNat] at hc; try simp only [addZ0] at hc) <;> first | (exfalso; omega) | conv => whnf) | ((first | refine ⟨_, wr64 ti ti, ?_⟩ | refine And.intro si ?_ | refine LitW.frz ?_ | refine PreW.frz ?_ | refine AppW.cp ?_ | refine TakW.row ?_ | refine dD ?_ | refine dF ?_ | refine d0 ?_ | refine d1 ?_ | refine dL ?_ | refine dP ?_ | refine And.intro tgi ?_ | refine ⟨_, shl1 (by omega), ?_⟩ | refine ⟨_, wru64 ti ti, ?_⟩ | refine ⟨_, fun _ => (IntKind.wrap_u64 _).symm, ?_⟩); conv => whnf) | (refine CallV.ret ?_; conv => whnf) | exact ⟨_, .keep rfl rfl⟩ | fail
  refine lp [9, 3] (fun q : Nat => [.i .i64 q, .i .i64 (sumQ f q : Nat)]) (fun q => [(1, bx f)]) (fun q => q ≤ f.blocks.length) (fun q => f.blocks.length - q) 0 (Nat.zero_le _) ?_ fun q hq => ?_
  · refine eP [] [] ?_ ?_ <;> repeat' first | exact eN | refine And.intro ?_ ?_
  conv => whnf
  have h2 := sumQ_le f q
  have h3 := code_le f q
  repeat' first | (refine iF (fun hb => ?_) (fun hb => ?_) <;> (try simp only [pickB_or, pickB_and] at hb) <;> (have hc := hb; try simp only [sB, Int.reduceToNat] at hc; try simp only [addZ0] at hc) <;> first | (exfalso; omega) | conv => whnf) | ((first | refine ⟨_, wr64 ti ti, ?_⟩ | refine And.intro si ?_ | refine LitW.frz ?_ | refine PreW.frz ?_ | refine AppW.cp ?_ | refine TakW.row ?_ | refine dD ?_ | refine dF ?_ | refine d0 ?_ | refine d1 ?_ | refine dL ?_ | refine dP ?_ | refine And.intro tgi ?_ | refine ⟨_, shl1 (by omega), ?_⟩ | refine ⟨_, wru64 ti ti, ?_⟩ | refine ⟨_, fun _ => (IntKind.wrap_u64 _).symm, ?_⟩); conv => whnf) | (refine CallV.ret ?_; conv => whnf) | exact ⟨_, .keep rfl rfl⟩ | fail
  · have e := sumQ_succ (f := f) (q := q) (by omega)
    refine .mk (q + 1) (by omega) (by omega) ?_
    refine eP [] [] ?_ ?_ <;> repeat' first | exact eN | refine And.intro ?_ ?_
  · obtain rfl : q = f.blocks.length := by omega
    exact ⟨_, .keep (by rw [sumQ_all (Nat.le_refl _)]) rfl⟩
theorem EqI_S (l : List Int) (hl : l.length < 4294967296) : ASpec Try.prog 21 [eL l, eL l] (.b true) [] := by
  refine ASpec.enter TYok mixed Try.func21 rfl Try.call21 Try.ntmps21 rfl (rs := [.tmp 4]) rfl (nodupB_ok rfl) (Clo.one rfl) (keep := [0, 1, 4, 5, 12, 13]) ?_; conv => whnf
  repeat' first | (refine iF (fun hb => ?_) (fun hb => ?_) <;> (try simp only [pickB_or, pickB_and] at hb) <;> (have hc := hb; try simp only [sB, Int.reduceToNat] at hc; try simp only [addZ0] at hc) <;> first | (exfalso; omega) | conv => whnf) | ((first | refine ⟨_, wr64 ti ti, ?_⟩ | refine And.intro si ?_ | refine LitW.frz ?_ | refine PreW.frz ?_ | refine AppW.cp ?_ | refine TakW.row ?_ | refine dD ?_ | refine dF ?_ | refine d0 ?_ | refine d1 ?_ | refine dL ?_ | refine dP ?_ | refine And.intro tgi ?_ | refine ⟨_, shl1 (by omega), ?_⟩ | refine ⟨_, wru64 ti ti, ?_⟩ | refine ⟨_, fun _ => (IntKind.wrap_u64 _).symm, ?_⟩); conv => whnf) | (refine CallV.ret ?_; conv => whnf) | exact ⟨_, .keep rfl rfl⟩ | fail
  · exact absurd hb (by simp)
  refine lp [13] (fun q : Nat => [.i .i64 q]) (fun q => []) (fun q => q ≤ l.length) (fun q => l.length - q) 0 (by omega) ?_ fun q hq => ?_
  · refine eP [] [] ?_ ?_ <;> repeat' first | exact eN | refine And.intro ?_ ?_
  conv => whnf
  repeat' first | (refine iF (fun hb => ?_) (fun hb => ?_) <;> (try simp only [pickB_or, pickB_and] at hb) <;> (have hc := hb; try simp only [sB, Int.reduceToNat] at hc; try simp only [addZ0] at hc) <;> first | (exfalso; omega) | conv => whnf) | ((first | refine ⟨_, wr64 ti ti, ?_⟩ | refine And.intro si ?_ | refine LitW.frz ?_ | refine PreW.frz ?_ | refine AppW.cp ?_ | refine TakW.row ?_ | refine dD ?_ | refine dF ?_ | refine d0 ?_ | refine d1 ?_ | refine dL ?_ | refine dP ?_ | refine And.intro tgi ?_ | refine ⟨_, shl1 (by omega), ?_⟩ | refine ⟨_, wru64 ti ti, ?_⟩ | refine ⟨_, fun _ => (IntKind.wrap_u64 _).symm, ?_⟩); conv => whnf) | (refine CallV.ret ?_; conv => whnf) | exact ⟨_, .keep rfl rfl⟩ | fail
  · exact absurd hb (by simp)
  · refine .mk (q + 1) (by omega) (by omega) ?_
    refine eP [] [] ?_ ?_ <;> repeat' first | exact eN | refine And.intro ?_ ?_
theorem EqV_S (l : List Opd) (hl : l.length < 4294967296) : ASpec Try.prog 76 [eL l, eL l] (.b true) [] := by
  refine ASpec.enter TYok mixed Try.func76 rfl Try.call76 Try.ntmps76 rfl (rs := [.tmp 4]) rfl (nodupB_ok rfl) (Clo.one rfl) (keep := [0, 1, 4, 5, 12, 13]) ?_; conv => whnf
  repeat' first | (refine iF (fun hb => ?_) (fun hb => ?_) <;> (try simp only [pickB_or, pickB_and] at hb) <;> (have hc := hb; try simp only [sB, Int.reduceToNat] at hc; try simp only [addZ0] at hc) <;> first | (exfalso; omega) | conv => whnf) | ((first | refine ⟨_, wr64 ti ti, ?_⟩ | refine And.intro si ?_ | refine LitW.frz ?_ | refine PreW.frz ?_ | refine AppW.cp ?_ | refine TakW.row ?_ | refine dD ?_ | refine dF ?_ | refine d0 ?_ | refine d1 ?_ | refine dL ?_ | refine dP ?_ | refine And.intro tgi ?_ | refine ⟨_, shl1 (by omega), ?_⟩ | refine ⟨_, wru64 ti ti, ?_⟩ | refine ⟨_, fun _ => (IntKind.wrap_u64 _).symm, ?_⟩); conv => whnf) | (refine CallV.ret ?_; conv => whnf) | exact ⟨_, .keep rfl rfl⟩ | fail
  · exact absurd hb (by simp)
  refine lp [13] (fun q : Nat => [.i .i64 q]) (fun q => []) (fun q => q ≤ l.length) (fun q => l.length - q) 0 (by omega) ?_ fun q hq => ?_
  · refine eP [] [] ?_ ?_ <;> repeat' first | exact eN | refine And.intro ?_ ?_
  conv => whnf
  repeat' first | (refine iF (fun hb => ?_) (fun hb => ?_) <;> (try simp only [pickB_or, pickB_and] at hb) <;> (have hc := hb; try simp only [sB, Int.reduceToNat] at hc; try simp only [addZ0] at hc) <;> first | (exfalso; omega) | conv => whnf) | ((first | refine ⟨_, wr64 ti ti, ?_⟩ | refine And.intro si ?_ | refine LitW.frz ?_ | refine PreW.frz ?_ | refine AppW.cp ?_ | refine TakW.row ?_ | refine dD ?_ | refine dF ?_ | refine d0 ?_ | refine d1 ?_ | refine dL ?_ | refine dP ?_ | refine And.intro tgi ?_ | refine ⟨_, shl1 (by omega), ?_⟩ | refine ⟨_, wru64 ti ti, ?_⟩ | refine ⟨_, fun _ => (IntKind.wrap_u64 _).symm, ?_⟩); conv => whnf) | (refine CallV.ret ?_; conv => whnf) | exact ⟨_, .keep rfl rfl⟩ | fail
  · exact absurd hb (by simp)
  · refine .mk (q + 1) (by omega) (by omega) ?_
    refine eP [] [] ?_ ?_ <;> repeat' first | exact eN | refine And.intro ?_ ?_
theorem sameI_S (x : InsE) (hx : siz x < 4294967296) : ASpec Try.prog 44 [eS x, eS x] (.b true) [] := by
  have h1 := args_le x
  have h2 := to_le x
  refine ASpec.enter TYok mixed Try.func44 rfl Try.call44 Try.ntmps44 rfl (rs := [.tmp 4]) rfl (nodupB_ok rfl) (Clo.one rfl) (keep := [0, 1, 2, 3, 4]) ?_; conv => whnf
  repeat' first | (refine iF (fun hb => ?_) (fun hb => ?_) <;> (try simp only [pickB_or, pickB_and] at hb) <;> (have hc := hb; try simp only [sB, Int.reduceToNat] at hc; try simp only [addZ0] at hc) <;> first | (exfalso; omega) | conv => whnf) | ((first | refine ⟨_, wr64 ti ti, ?_⟩ | refine And.intro si ?_ | refine LitW.frz ?_ | refine PreW.frz ?_ | refine AppW.cp ?_ | refine TakW.row ?_ | refine dD ?_ | refine dF ?_ | refine d0 ?_ | refine d1 ?_ | refine dL ?_ | refine dP ?_ | refine And.intro tgi ?_ | refine ⟨_, shl1 (by omega), ?_⟩ | refine ⟨_, wru64 ti ti, ?_⟩ | refine ⟨_, fun _ => (IntKind.wrap_u64 _).symm, ?_⟩); conv => whnf) | ((first | refine cK (fun _ => EqV_S _ (by omega)) ?_ | ((try (refine CallW.lent ?_; (conv => whnf); repeat (refine And.intro si ?_; (conv => whnf)))); refine cL (fun _ => EqV_S _ (by omega)) ?_)); conv => whnf) | ((first | refine cK (fun _ => EqI_S _ (by omega)) ?_ | ((try (refine CallW.lent ?_; (conv => whnf); repeat (refine And.intro si ?_; (conv => whnf)))); refine cL (fun _ => EqI_S _ (by omega)) ?_)); conv => whnf) | (refine CallV.ret ?_; conv => whnf) | exact ⟨_, .keep rfl rfl⟩ | fail
  all_goals exact ⟨_, .keep (by simp only [pickB_and]; simp) rfl⟩
theorem EqfI_S (l : List InsE) (hl : l.length < 4294967296) (h : ∀ i, siz (l.getD i Enc.d) < 4294967296) : ASpec Try.prog 43 [eL l, eL l, .clo 44 []] (.b true) [] := by
  refine ASpec.enter TYok mixed Try.func43 rfl Try.call43 Try.ntmps43 rfl (rs := [.tmp 6]) rfl (nodupB_ok rfl) (Clo.one rfl) (keep := [0, 1, 2, 6, 7, 8, 9, 15, 16, 17]) ?_; conv => whnf
  repeat' first | (refine iF (fun hb => ?_) (fun hb => ?_) <;> (try simp only [pickB_or, pickB_and] at hb) <;> (have hc := hb; try simp only [sB, Int.reduceToNat] at hc; try simp only [addZ0] at hc) <;> first | (exfalso; omega) | conv => whnf) | ((first | refine ⟨_, wr64 ti ti, ?_⟩ | refine And.intro si ?_ | refine LitW.frz ?_ | refine PreW.frz ?_ | refine AppW.cp ?_ | refine TakW.row ?_ | refine dD ?_ | refine dF ?_ | refine d0 ?_ | refine d1 ?_ | refine dL ?_ | refine dP ?_ | refine And.intro tgi ?_ | refine ⟨_, shl1 (by omega), ?_⟩ | refine ⟨_, wru64 ti ti, ?_⟩ | refine ⟨_, fun _ => (IntKind.wrap_u64 _).symm, ?_⟩); conv => whnf) | (refine CallV.ret ?_; conv => whnf) | exact ⟨_, .keep rfl rfl⟩ | fail
  · exact absurd hb (by simp)
  refine lp [17] (fun q : Nat => [.i .i64 q]) (fun q => []) (fun q => q ≤ l.length) (fun q => l.length - q) 0 (by omega) ?_ fun q hq => ?_
  · refine eP [] [] ?_ ?_ <;> repeat' first | exact eN | refine And.intro ?_ ?_
  conv => whnf
  repeat' first | (refine iF (fun hb => ?_) (fun hb => ?_) <;> (try simp only [pickB_or, pickB_and] at hb) <;> (have hc := hb; try simp only [sB, Int.reduceToNat] at hc; try simp only [addZ0] at hc) <;> first | (exfalso; omega) | conv => whnf) | ((first | refine ⟨_, wr64 ti ti, ?_⟩ | refine And.intro si ?_ | refine LitW.frz ?_ | refine PreW.frz ?_ | refine AppW.cp ?_ | refine TakW.row ?_ | refine dD ?_ | refine dF ?_ | refine d0 ?_ | refine d1 ?_ | refine dL ?_ | refine dP ?_ | refine And.intro tgi ?_ | refine ⟨_, shl1 (by omega), ?_⟩ | refine ⟨_, wru64 ti ti, ?_⟩ | refine ⟨_, fun _ => (IntKind.wrap_u64 _).symm, ?_⟩); conv => whnf) | ((first | refine cK (fun _ => sameI_S _ (h q)) ?_ | ((try (refine CallW.lent ?_; (conv => whnf); repeat (refine And.intro si ?_; (conv => whnf)))); refine cL (fun _ => sameI_S _ (h q)) ?_)); conv => whnf) | (refine CallV.ret ?_; conv => whnf) | exact ⟨_, .keep rfl rfl⟩ | fail
  · exact absurd hb (by simp)
  · refine .mk (q + 1) (by omega) (by omega) ?_
    refine eP [] [] ?_ ?_ <;> repeat' first | exact eN | refine And.intro ?_ ?_
theorem sameB_S (x : BlkE) (hx : siz x < 4294967296) : ASpec Try.prog 23 [eS x, eS x] (.b true) [] := by
  refine ASpec.enter TYok mixed Try.func23 rfl Try.call23 Try.ntmps23 rfl (rs := [.tmp 4]) rfl (nodupB_ok rfl) (Clo.one rfl) (keep := [0, 1, 2, 3, 4]) ?_; conv => whnf
  repeat' first | (refine iF (fun hb => ?_) (fun hb => ?_) <;> (try simp only [pickB_or, pickB_and] at hb) <;> (have hc := hb; try simp only [sB, Int.reduceToNat] at hc; try simp only [addZ0] at hc) <;> first | (exfalso; omega) | conv => whnf) | ((first | refine ⟨_, wr64 ti ti, ?_⟩ | refine And.intro si ?_ | refine LitW.frz ?_ | refine PreW.frz ?_ | refine AppW.cp ?_ | refine TakW.row ?_ | refine dD ?_ | refine dF ?_ | refine d0 ?_ | refine d1 ?_ | refine dL ?_ | refine dP ?_ | refine And.intro tgi ?_ | refine ⟨_, shl1 (by omega), ?_⟩ | refine ⟨_, wru64 ti ti, ?_⟩ | refine ⟨_, fun _ => (IntKind.wrap_u64 _).symm, ?_⟩); conv => whnf) | ((first | refine cK (fun _ => EqfI_S _ (Nat.lt_of_le_of_lt (len_siz x.code) hx) (fun i => Nat.lt_of_le_of_lt (siz_at x.code i) hx)) ?_ | ((try (refine CallW.lent ?_; (conv => whnf); repeat (refine And.intro si ?_; (conv => whnf)))); refine cL (fun _ => EqfI_S _ (Nat.lt_of_le_of_lt (len_siz x.code) hx) (fun i => Nat.lt_of_le_of_lt (siz_at x.code i) hx)) ?_)); conv => whnf) | (refine CallV.ret ?_; conv => whnf) | exact ⟨_, .keep rfl rfl⟩ | fail
  all_goals exact ⟨_, .keep (by simp only [pickB_and]; simp) rfl⟩
theorem EqfB_S (l : List BlkE) (hl : l.length < 4294967296) (h : ∀ i, siz (l.getD i Enc.d) < 4294967296) : ASpec Try.prog 22 [eL l, eL l, .clo 23 []] (.b true) [] := by
  refine ASpec.enter TYok mixed Try.func22 rfl Try.call22 Try.ntmps22 rfl (rs := [.tmp 6]) rfl (nodupB_ok rfl) (Clo.one rfl) (keep := [0, 1, 2, 6, 7, 8, 9, 15, 16, 17]) ?_; conv => whnf
  repeat' first | (refine iF (fun hb => ?_) (fun hb => ?_) <;> (try simp only [pickB_or, pickB_and] at hb) <;> (have hc := hb; try simp only [sB, Int.reduceToNat] at hc; try simp only [addZ0] at hc) <;> first | (exfalso; omega) | conv => whnf) | ((first | refine ⟨_, wr64 ti ti, ?_⟩ | refine And.intro si ?_ | refine LitW.frz ?_ | refine PreW.frz ?_ | refine AppW.cp ?_ | refine TakW.row ?_ | refine dD ?_ | refine dF ?_ | refine d0 ?_ | refine d1 ?_ | refine dL ?_ | refine dP ?_ | refine And.intro tgi ?_ | refine ⟨_, shl1 (by omega), ?_⟩ | refine ⟨_, wru64 ti ti, ?_⟩ | refine ⟨_, fun _ => (IntKind.wrap_u64 _).symm, ?_⟩); conv => whnf) | (refine CallV.ret ?_; conv => whnf) | exact ⟨_, .keep rfl rfl⟩ | fail
  · exact absurd hb (by simp)
  refine lp [17] (fun q : Nat => [.i .i64 q]) (fun q => []) (fun q => q ≤ l.length) (fun q => l.length - q) 0 (by omega) ?_ fun q hq => ?_
  · refine eP [] [] ?_ ?_ <;> repeat' first | exact eN | refine And.intro ?_ ?_
  conv => whnf
  repeat' first | (refine iF (fun hb => ?_) (fun hb => ?_) <;> (try simp only [pickB_or, pickB_and] at hb) <;> (have hc := hb; try simp only [sB, Int.reduceToNat] at hc; try simp only [addZ0] at hc) <;> first | (exfalso; omega) | conv => whnf) | ((first | refine ⟨_, wr64 ti ti, ?_⟩ | refine And.intro si ?_ | refine LitW.frz ?_ | refine PreW.frz ?_ | refine AppW.cp ?_ | refine TakW.row ?_ | refine dD ?_ | refine dF ?_ | refine d0 ?_ | refine d1 ?_ | refine dL ?_ | refine dP ?_ | refine And.intro tgi ?_ | refine ⟨_, shl1 (by omega), ?_⟩ | refine ⟨_, wru64 ti ti, ?_⟩ | refine ⟨_, fun _ => (IntKind.wrap_u64 _).symm, ?_⟩); conv => whnf) | ((first | refine cK (fun _ => sameB_S _ (h q)) ?_ | ((try (refine CallW.lent ?_; (conv => whnf); repeat (refine And.intro si ?_; (conv => whnf)))); refine cL (fun _ => sameB_S _ (h q)) ?_)); conv => whnf) | (refine CallV.ret ?_; conv => whnf) | exact ⟨_, .keep rfl rfl⟩ | fail
  · exact absurd hb (by simp)
  · refine .mk (q + 1) (by omega) (by omega) ?_
    refine eP [] [] ?_ ?_ <;> repeat' first | exact eN | refine And.intro ?_ ?_
theorem SameFunc_S (f : FnE) (hs : siz f < 4294967296) : ASpec Try.prog 9 [eS f, eS f] (.b true) [] := by
  have h1 := params_le f
  have h2 := blocks_le f
  refine ASpec.enter TYok mixed Try.func9 rfl Try.call9 Try.ntmps9 rfl (rs := [.tmp 4]) rfl (nodupB_ok rfl) (Clo.one rfl) (keep := [0, 1, 2, 3, 4]) ?_; conv => whnf
  repeat' first | (refine iF (fun hb => ?_) (fun hb => ?_) <;> (try simp only [pickB_or, pickB_and] at hb) <;> (have hc := hb; try simp only [sB, Int.reduceToNat] at hc; try simp only [addZ0] at hc) <;> first | (exfalso; omega) | conv => whnf) | ((first | refine ⟨_, wr64 ti ti, ?_⟩ | refine And.intro si ?_ | refine LitW.frz ?_ | refine PreW.frz ?_ | refine AppW.cp ?_ | refine TakW.row ?_ | refine dD ?_ | refine dF ?_ | refine d0 ?_ | refine d1 ?_ | refine dL ?_ | refine dP ?_ | refine And.intro tgi ?_ | refine ⟨_, shl1 (by omega), ?_⟩ | refine ⟨_, wru64 ti ti, ?_⟩ | refine ⟨_, fun _ => (IntKind.wrap_u64 _).symm, ?_⟩); conv => whnf) | ((first | refine cK (fun _ => EqI_S _ (by omega)) ?_ | ((try (refine CallW.lent ?_; (conv => whnf); repeat (refine And.intro si ?_; (conv => whnf)))); refine cL (fun _ => EqI_S _ (by omega)) ?_)); conv => whnf) | ((first | refine cK (fun _ => EqfB_S _ (by omega) (fun i => Nat.lt_of_le_of_lt (codes_le f i) hs)) ?_ | ((try (refine CallW.lent ?_; (conv => whnf); repeat (refine And.intro si ?_; (conv => whnf)))); refine cL (fun _ => EqfB_S _ (by omega) (fun i => Nat.lt_of_le_of_lt (codes_le f i) hs)) ?_)); conv => whnf) | (refine CallV.ret ?_; conv => whnf) | exact ⟨_, .keep rfl rfl⟩ | fail
  all_goals exact ⟨_, .keep (by simp only [pickB_and]; simp) rfl⟩
theorem long23_S (f : FnE) (hs : siz f < 1000000000) : ASpec Try.prog 7 [eS f] (.b (!decide ((modQ ⟨[], [], [f]⟩ : Int) ≤ 300) || decide (30 < (f.blocks.length : Int)))) [] := by
  have h := Few_S ⟨[], [], [f]⟩ 300 (by show (0 + 0 + (0 + 1 + (siz f + 0))) < _; omega)
  have h1 := blocks_le f
  refine ASpec.enter TYok mixed Try.func7 rfl Try.call7 Try.ntmps7 rfl (rs := [.tmp 2]) rfl (nodupB_ok rfl) (Clo.one rfl) (keep := [0, 1, 2]) ?_; conv => whnf
  repeat' first | (refine iF (fun hb => ?_) (fun hb => ?_) <;> (try simp only [pickB_or, pickB_and] at hb) <;> (have hc := hb; try simp only [sB, Int.reduceToNat] at hc; try simp only [addZ0] at hc) <;> first | (exfalso; omega) | conv => whnf) | ((first | refine ⟨_, wr64 ti ti, ?_⟩ | refine And.intro si ?_ | refine LitW.frz ?_ | refine PreW.frz ?_ | refine AppW.cp ?_ | refine TakW.row ?_ | refine dD ?_ | refine dF ?_ | refine d0 ?_ | refine d1 ?_ | refine dL ?_ | refine dP ?_ | refine And.intro tgi ?_ | refine ⟨_, shl1 (by omega), ?_⟩ | refine ⟨_, wru64 ti ti, ?_⟩ | refine ⟨_, fun _ => (IntKind.wrap_u64 _).symm, ?_⟩); conv => whnf) | ((first | refine cK (fun _ => h.weak (by repeat' first | exact trivial | exact rfl | refine And.intro ?_ ?_ | refine wkrow1 ?_ | exact fun i _ => wkInt _ | exact fun i _ => wkBlk _)) ?_ | ((try (refine CallW.lent ?_; (conv => whnf); repeat (refine And.intro si ?_; (conv => whnf)))); refine cL (fun _ => h.weak (by repeat' first | exact trivial | exact rfl | refine And.intro ?_ ?_ | refine wkrow1 ?_ | exact fun i _ => wkInt _ | exact fun i _ => wkBlk _)) ?_)); conv => whnf) | (refine CallV.ret ?_; conv => whnf) | exact ⟨_, .keep rfl rfl⟩ | fail
  all_goals exact ⟨_, .keep (by simp only [pickB_or]) rfl⟩
theorem dseAll_F (f : FnE) (hs : OkF f) (ha : OkA f) : ASpec Try.prog 8 [eS f] (eS (dseAll f)) [] := by
  have h := (dseAll_cut hs ha).1.nm
  refine (dseAll_S f hs ha).gives (o' := []) ?_ (Clo.one rfl) (by simp)
  have e : eS (dseAll f) = .agg [.s f.name, eL f.params, .i .i64 f.ret, eL (dseAll f).blocks] := by
    rw [← h.1, ← h.2.1, ← h.2.2]; rfl
  rw [e]
  exact .agg (.cons (.keep rfl rfl) (.cons (.freeze rfl (by omega) rfl (fun _ _ => rfl) rfl) (.cons (.keep rfl rfl) (.cons (.freezeT rfl rfl rfl (fun _ _ => teqs_refl _) rfl) .nil (nodupB_ok rfl)) (nodupB_ok rfl)) (nodupB_ok rfl)) (nodupB_ok rfl))
def st23 (n : Int) : InsE := ⟨28, -1, 8, 0, 0, [⟨2, 0, n⟩, ⟨5, 0, 0⟩], []⟩
theorem st23_S (n : Int) : ASpec Try.prog 17 [.i .u64 n] (eS (st23 n)) [] := by
  refine ASpec.enter TYok mixed Try.func17 rfl Try.call17 Try.ntmps17 rfl (rs := [.cell 2 41]) rfl (nodupB_ok rfl) (Clo.one rfl) (keep := [0, 2]) ?_; conv => whnf
  repeat' first | (refine iF (fun hb => ?_) (fun hb => ?_) <;> (try simp only [pickB_or, pickB_and] at hb) <;> (have hc := hb; try simp only [sB, Int.reduceToNat] at hc; try simp only [addZ0] at hc) <;> first | (exfalso; omega) | conv => whnf) | ((first | refine ⟨_, wr64 ti ti, ?_⟩ | refine And.intro si ?_ | refine LitW.frz ?_ | refine PreW.frz ?_ | refine AppW.cp ?_ | refine TakW.row ?_ | refine dD ?_ | refine dF ?_ | refine d0 ?_ | refine d1 ?_ | refine dL ?_ | refine dP ?_ | refine And.intro tgi ?_ | refine ⟨_, shl1 (by omega), ?_⟩ | refine ⟨_, wru64 ti ti, ?_⟩ | refine ⟨_, fun _ => (IntKind.wrap_u64 _).symm, ?_⟩); conv => whnf) | (refine CallV.ret ?_; conv => whnf) | exact ⟨_, .keep rfl rfl⟩ | fail
  exact ⟨_, .wk (by repeat' first | exact trivial | exact rfl | refine And.intro ?_ ?_ | refine wkrow1 ?_ | refine wkrow2 ?_ | refine wkrow3 ?_ | exact fun i _ => wkInt _ | exact fun i _ => wkBlk _ | exact fun i _ => wkOpd _ | exact fun i _ => wkIns _) rfl⟩
def rt23 : InsE := ⟨33, -1, 0, 0, 0, [], []⟩
def lvD : FnE := ⟨(⟨#[102]⟩ : ByteArray), [], 0, [⟨[st23 1, st23 2, rt23]⟩]⟩
def lvG : FnE := ⟨(⟨#[102]⟩ : ByteArray), [], 0, [⟨[st23 2, rt23]⟩]⟩
theorem st23_rng (n : Int) (h : n = 1 ∨ n = 2) : Rng.rng (st23 n) := by
  refine ⟨show rngI 28 by decide, show rngI (-1) by decide, show rngI 8 by decide, show rngI 0 by decide, show rngI 0 by decide, fun x hx => ?_, fun x hx => (by cases hx)⟩
  have hx : x ∈ [(⟨2, 0, n⟩ : Opd), ⟨5, 0, 0⟩] := hx
  simp only [List.mem_cons, List.not_mem_nil, or_false] at hx
  rcases hx with rfl | rfl
  · rcases h with rfl | rfl <;> exact ⟨by decide, by decide, by decide⟩
  · exact ⟨by decide, by decide, by decide⟩
theorem rt23_rng : Rng.rng rt23 := ⟨by decide, by decide, by decide, by decide, by decide, fun x hx => (by cases hx), fun x hx => (by cases hx)⟩
theorem lvD_rng : Rng.rng lvD := by
  refine ⟨trivial, fun x hx => (by cases hx), by decide, fun x hx => ?_⟩
  obtain rfl := List.mem_singleton.1 hx
  show ∀ x ∈ _, Rng.rng x
  intro x hx
  simp only [List.mem_cons, List.not_mem_nil, or_false] at hx
  rcases hx with rfl | rfl | rfl
  · exact st23_rng 1 (.inl rfl)
  · exact st23_rng 2 (.inr rfl)
  · exact rt23_rng
theorem lvD_len (b : Nat) : lenE lvD b = if b = 0 then 3 else 0 := by cases b <;> rfl
theorem lvG_len (b : Nat) : lenE lvG b = if b = 0 then 2 else 0 := by cases b <;> rfl
theorem lvD_okF : OkF lvD := OkF_of (by decide +kernel) lvD_rng
theorem lvD_okA : OkA lvD where
  st := fun b i hi ho => by
    rw [lvD_len] at hi
    split at hi
    · rename_i hb; subst hb
      match i, hi with
      | 0, _ => decide
      | 1, _ => decide
      | 2, _ => exact absurd ho (by decide)
    · exact absurd hi (Nat.not_lt_zero _)
  ld := fun b i hi ho => by
    rw [lvD_len] at hi
    split at hi
    · rename_i hb; subst hb
      match i, hi with
      | 0, _ => exact absurd ho (by decide)
      | 1, _ => exact absurd ho (by decide)
      | 2, _ => exact absurd ho (by decide)
    · exact absurd hi (Nat.not_lt_zero _)
  nb := by decide
theorem lvD_0 : deadB lvD ⟨0, (0 : Nat), (0 : Nat)⟩ = true := dead_t ⟨⟨by decide, by decide⟩, ⟨by decide, by decide⟩, .zero (by decide) (by decide), by decide, by
  unfold goesB
  show (overB (lvD.blocks.getD 0 Enc.d).code 0 || _) = true
  rw [show overB (lvD.blocks.getD 0 Enc.d).code 0 = true from by decide +kernel]; rfl⟩
theorem goes_no {f : FnE} {b i : Nat} (h1 : overB (f.blocks.getD b Enc.d).code i = false) (h2 : aloneE f (RootE f ((insE f b i).args.getD 1 Enc.d)).v = false) : ¬goesB f b i = true := by
  unfold goesB; rw [h1, h2]; simp
theorem lvD_1 : deadB lvD ⟨0, (0 : Nat), (1 : Nat)⟩ = false := dead_f fun h => goes_no (f := lvD) (b := 0) (i := 1) (by decide +kernel) (by decide +kernel) h.2.2.2.2
theorem lvG_no : noD lvG := fun b i hi => by
  rw [lvG_len] at hi
  split at hi
  · rename_i hb; subst hb
    match i, hi with
    | 0, _ => exact dead_f fun h => goes_no (f := lvG) (b := 0) (i := 0) (by decide +kernel) (by decide +kernel) h.2.2.2.2
    | 1, _ => exact dead_f fun h => absurd h.2.2.2.1 (by decide)
  · exact absurd hi (Nat.not_lt_zero _)
theorem lvD_all : dseAll lvD = lvG := by
  have h : fstD lvD 0 0 := ⟨⟨by decide, by decide⟩, lvD_0, fun b' i' hb _ => by omega⟩
  have e : dseAll lvD = dseN 2 (cut lvD 0 0) := by
    unfold dseAll
    rw [show totI lvD = 2 + 1 from rfl, dseN, stepD_some h]
  rw [e, show cut lvD 0 0 = lvG from rfl, dseN, stepD_none lvG_no]
theorem lives23_S : ASpec Try.prog 5 [] (.b true) [] := by
  have hA := dseAll_F lvD lvD_okF lvD_okA
  rw [lvD_all] at hA
  have h0 := Dead_S lvD ⟨0, (0 : Nat), (0 : Nat)⟩ lvD_okF lvD_okA
  rw [lvD_0] at h0
  have h1 := Dead_S lvD ⟨0, (0 : Nat), (1 : Nat)⟩ lvD_okF lvD_okA
  rw [lvD_1] at h1
  have d0 : ∀ X, wk X (eS lvD) → ASpec Try.prog 11 [X, .agg [.i .i64 0, .i .i64 0, .i .i64 0]] (.b true) [] := fun X h => h0.weak ⟨h, ⟨⟨rfl, rfl⟩, ⟨rfl, rfl⟩, ⟨rfl, rfl⟩, trivial⟩, trivial⟩
  have d1 : ∀ X, wk X (eS lvD) → ASpec Try.prog 11 [X, .agg [.i .i64 0, .i .i64 0, .i .i64 1]] (.b false) [] := fun X h => h1.weak ⟨h, ⟨⟨rfl, rfl⟩, ⟨rfl, rfl⟩, ⟨rfl, rfl⟩, trivial⟩, trivial⟩
  have hz : ASpec Try.prog 15 [eS lvG] (.i .i64 2) [] := Size_S lvG (by decide +kernel)
  refine ASpec.enter TYok mixed Try.func5 rfl Try.call5 Try.ntmps5 rfl (rs := [.tmp 0]) rfl (nodupB_ok rfl) (Clo.one rfl) (keep := [0, 1, 2, 3]) ?_; conv => whnf
  repeat' first | (refine iF (fun hb => ?_) (fun hb => ?_) <;> (try simp only [pickB_or, pickB_and] at hb) <;> (have hc := hb; try simp only [sB, Int.reduceToNat] at hc; try simp only [addZ0] at hc) <;> first | (exfalso; omega) | conv => whnf) | ((first | refine ⟨_, wr64 ti ti, ?_⟩ | refine And.intro si ?_ | refine LitW.frz ?_ | refine PreW.frz ?_ | refine AppW.cp ?_ | refine TakW.row ?_ | refine dD ?_ | refine dF ?_ | refine d0 ?_ | refine d1 ?_ | refine dL ?_ | refine dP ?_ | refine And.intro tgi ?_ | refine ⟨_, shl1 (by omega), ?_⟩ | refine ⟨_, wru64 ti ti, ?_⟩ | refine ⟨_, fun _ => (IntKind.wrap_u64 _).symm, ?_⟩); conv => whnf) | ((first | refine cK (fun _ => st23_S _) ?_ | ((try (refine CallW.lent ?_; (conv => whnf); repeat (refine And.intro si ?_; (conv => whnf)))); refine cL (fun _ => st23_S _) ?_)); conv => whnf) | ((first | refine cK (fun _ => hA.weak (by repeat' first | exact trivial | exact rfl | refine And.intro ?_ ?_ | refine wkrow1 ?_ | refine wkrow2 ?_ | refine wkrow3 ?_ | exact fun i _ => wkInt _ | exact fun i _ => wkBlk _ | exact fun i _ => wkOpd _ | exact fun i _ => wkIns _)) ?_ | ((try (refine CallW.lent ?_; (conv => whnf); repeat (refine And.intro si ?_; (conv => whnf)))); refine cL (fun _ => hA.weak (by repeat' first | exact trivial | exact rfl | refine And.intro ?_ ?_ | refine wkrow1 ?_ | refine wkrow2 ?_ | refine wkrow3 ?_ | exact fun i _ => wkInt _ | exact fun i _ => wkBlk _ | exact fun i _ => wkOpd _ | exact fun i _ => wkIns _)) ?_)); conv => whnf) | ((first | refine cK (fun _ => d0 _ (by repeat' first | exact trivial | exact rfl | refine And.intro ?_ ?_ | refine wkrow1 ?_ | refine wkrow2 ?_ | refine wkrow3 ?_ | exact fun i _ => wkInt _ | exact fun i _ => wkBlk _ | exact fun i _ => wkOpd _ | exact fun i _ => wkIns _)) ?_ | ((try (refine CallW.lent ?_; (conv => whnf); repeat (refine And.intro si ?_; (conv => whnf)))); refine cL (fun _ => d0 _ (by repeat' first | exact trivial | exact rfl | refine And.intro ?_ ?_ | refine wkrow1 ?_ | refine wkrow2 ?_ | refine wkrow3 ?_ | exact fun i _ => wkInt _ | exact fun i _ => wkBlk _ | exact fun i _ => wkOpd _ | exact fun i _ => wkIns _)) ?_)); conv => whnf) | ((first | refine cK (fun _ => d1 _ (by repeat' first | exact trivial | exact rfl | refine And.intro ?_ ?_ | refine wkrow1 ?_ | refine wkrow2 ?_ | refine wkrow3 ?_ | exact fun i _ => wkInt _ | exact fun i _ => wkBlk _ | exact fun i _ => wkOpd _ | exact fun i _ => wkIns _)) ?_ | ((try (refine CallW.lent ?_; (conv => whnf); repeat (refine And.intro si ?_; (conv => whnf)))); refine cL (fun _ => d1 _ (by repeat' first | exact trivial | exact rfl | refine And.intro ?_ ?_ | refine wkrow1 ?_ | refine wkrow2 ?_ | refine wkrow3 ?_ | exact fun i _ => wkInt _ | exact fun i _ => wkBlk _ | exact fun i _ => wkOpd _ | exact fun i _ => wkIns _)) ?_)); conv => whnf) | ((first | refine cK (fun _ => hz) ?_ | ((try (refine CallW.lent ?_; (conv => whnf); repeat (refine And.intro si ?_; (conv => whnf)))); refine cL (fun _ => hz) ?_)); conv => whnf) | (refine CallV.ret ?_; conv => whnf) | exact ⟨_, .keep rfl rfl⟩ | fail
  all_goals skip
structure KP where
  i : Nat
  k : Nat
theorem drop_at {l : List InsE} {i : Nat} (h : i < l.length) : l.drop i = l.getD i Enc.d :: l.drop (i + 1) := by
  rw [List.drop_eq_getElem_cons h, List.getD_eq_getElem?_getD, List.getElem?_eq_getElem h]; rfl
theorem SubS.miss {l m : List InsE} {i k : Nat} (h : SubS (l.drop i) (m.drop k)) (hi : i < l.length) (hk : k ≤ m.length) (hn : ¬((k : Int) < m.length) ∨ ¬l.getD i Enc.d = m.getD k Enc.d) : (l.getD i Enc.d).op = 28 ∧ SubS (l.drop (i + 1)) (m.drop k) := by
  rw [drop_at hi] at h
  refine h.ne fun y m' e hxy => ?_
  rcases Nat.lt_or_ge k m.length with hk' | hk'
  · rw [drop_at hk'] at e
    cases e
    exact hn.elim (fun q => q (by omega)) fun q => q hxy
  · rw [List.drop_of_length_le hk'] at e; cases e
theorem DseStays_S (m : ModE) (hm : siz m ≤ 1048576) (hr : Rng.rng m) : ASpec Try.prog 3 [eS m] (.b true) [] := by
  have h2 : siz m < 4294967296 := by omega
  have hfl := funcs_le m
  obtain ⟨R, hR⟩ : ∃ R : FnE → List Bool, ∀ f, isRG f (-1) (R f) := ⟨fun f => Classical.choose (isRG_ex f (-1)), fun f => Classical.choose_spec (isRG_ex f (-1))⟩
  obtain ⟨T, hT⟩ : ∃ T : FnE → List (List Bool), ∀ f, isTab f (T f) := ⟨fun f => Classical.choose (isTab_ex f), fun f => Classical.choose_spec (isTab_ex f)⟩
  have hf : ∀ k, Rng.rng (m.funcs.getD k Enc.d) := fun k => rng_at hr.2.2 rngD_fn k
  have hRt := Right_S m R T hR hT h2 (fun b i => C1_rng (hf b) i)
  refine ASpec.enter TYok mixed Try.func3 rfl Try.call3 Try.ntmps3 rfl (rs := [.tmp 2]) rfl (nodupB_ok rfl) (Clo.one rfl) (keep := [0, 1, 2, 4, 5, 6, 7, 9, 10, 17, 18, 19, 43, 44, 52, 53, 54, 101, 102]) ?_; conv => whnf
  repeat' first | (refine iF (fun hb => ?_) (fun hb => ?_) <;> (try simp only [pickB_or, pickB_and] at hb) <;> (have hc := hb; try simp only [sB, Int.reduceToNat] at hc; try simp only [addZ0] at hc) <;> first | (exfalso; omega) | conv => whnf) | ((first | refine ⟨_, wr64 ti ti, ?_⟩ | refine And.intro si ?_ | refine LitW.frz ?_ | refine PreW.frz ?_ | refine AppW.cp ?_ | refine TakW.row ?_ | refine dD ?_ | refine dF ?_ | refine d0 ?_ | refine d1 ?_ | refine dL ?_ | refine dP ?_ | refine And.intro tgi ?_ | refine ⟨_, shl1 (by omega), ?_⟩ | refine ⟨_, wru64 ti ti, ?_⟩ | refine ⟨_, fun _ => (IntKind.wrap_u64 _).symm, ?_⟩); conv => whnf) | ((first | refine cK (fun _ => lives23_S) ?_ | ((try (refine CallW.lent ?_; (conv => whnf); repeat (refine And.intro si ?_; (conv => whnf)))); refine cL (fun _ => lives23_S) ?_)); conv => whnf) | ((first | refine cK (fun _ => hRt) ?_ | ((try (refine CallW.lent ?_; (conv => whnf); repeat (refine And.intro si ?_; (conv => whnf)))); refine cL (fun _ => hRt) ?_)); conv => whnf) | (refine CallV.ret ?_; conv => whnf) | exact ⟨_, .keep rfl rfl⟩ | fail
  · cases hb
  have hright : ∀ k, k < m.funcs.length → RightF m (m.funcs.getD k Enc.d) := fun k hk => chk_right (chkN_zero hc k hk)
  refine lp [19] (fun k : Nat => [.i .i64 k]) (fun k => [(1, bx m)]) (fun k => k ≤ m.funcs.length) (fun k => m.funcs.length - k) 0 (Nat.zero_le _) ?_ fun k hk => ?_
  · refine eP [] [] ?_ ?_ <;> repeat' first | exact eN | refine And.intro ?_ ?_
  conv => whnf
  rcases (Nat.lt_or_ge k m.funcs.length).symm with hge | hlt
  · obtain rfl : k = m.funcs.length := by omega
    repeat' first | (refine iF (fun hb => ?_) (fun hb => ?_) <;> (try simp only [pickB_or, pickB_and] at hb) <;> (have hc := hb; try simp only [sB, Int.reduceToNat] at hc; try simp only [addZ0] at hc) <;> first | (exfalso; omega) | conv => whnf) | ((first | refine ⟨_, wr64 ti ti, ?_⟩ | refine And.intro si ?_ | refine LitW.frz ?_ | refine PreW.frz ?_ | refine AppW.cp ?_ | refine TakW.row ?_ | refine dD ?_ | refine dF ?_ | refine d0 ?_ | refine d1 ?_ | refine dL ?_ | refine dP ?_ | refine And.intro tgi ?_ | refine ⟨_, shl1 (by omega), ?_⟩ | refine ⟨_, wru64 ti ti, ?_⟩ | refine ⟨_, fun _ => (IntKind.wrap_u64 _).symm, ?_⟩); conv => whnf) | (refine CallV.ret ?_; conv => whnf) | exact ⟨_, .keep rfl rfl⟩ | fail
  have hrf := hright k hlt
  have hrg := hf k
  have hsz : siz (m.funcs.getD k Enc.d) ≤ 1048576 := Nat.le_trans (fn_le m k) hm
  have hs : OkF (m.funcs.getD k Enc.d) := OkF_of (by omega) hrg
  have ha : OkA (m.funcs.getD k Enc.d) := hrf.okA
  obtain ⟨hcut, hno⟩ := dseAll_cut hs ha
  have hA := dseAll_F (m.funcs.getD k Enc.d) hs ha
  repeat' first | (refine iF (fun hb => ?_) (fun hb => ?_) <;> (try simp only [pickB_or, pickB_and] at hb) <;> (have hc := hb; try simp only [sB, Int.reduceToNat] at hc; try simp only [addZ0] at hc) <;> first | (exfalso; omega) | conv => whnf) | ((first | refine ⟨_, wr64 ti ti, ?_⟩ | refine And.intro si ?_ | refine LitW.frz ?_ | refine PreW.frz ?_ | refine AppW.cp ?_ | refine TakW.row ?_ | refine dD ?_ | refine dF ?_ | refine d0 ?_ | refine d1 ?_ | refine dL ?_ | refine dP ?_ | refine And.intro tgi ?_ | refine ⟨_, shl1 (by omega), ?_⟩ | refine ⟨_, wru64 ti ti, ?_⟩ | refine ⟨_, fun _ => (IntKind.wrap_u64 _).symm, ?_⟩); conv => whnf) | ((first | refine cK (fun _ => long23_S (m.funcs.getD k Enc.d) (by omega)) ?_ | ((try (refine CallW.lent ?_; (conv => whnf); repeat (refine And.intro si ?_; (conv => whnf)))); refine cL (fun _ => long23_S (m.funcs.getD k Enc.d) (by omega)) ?_)); conv => whnf) | (refine CallV.ret ?_; conv => whnf) | exact ⟨_, .keep rfl rfl⟩ | fail
  · refine .mk (k + 1) (by omega) (by omega) ?_
    refine eP [] [] ?_ ?_ <;> repeat' first | exact eN | refine And.intro ?_ ?_
  obtain ⟨g, hg⟩ : ∃ g, g = dseAll (m.funcs.getD k Enc.d) := ⟨_, rfl⟩
  rw [← hg] at hA hcut hno
  have hAg := dseAll_F g hcut.okF hcut.okA
  rw [dseAll_id hno] at hAg
  have hgz := hcut.okF.sz
  have hSm := SameFunc_S g hgz
  have hbl := blocks_le (m.funcs.getD k Enc.d)
  have hbg := blocks_le g
  have hlen := hcut.len
  have hDd : ∀ b i : Nat, i < lenE g b → ASpec Try.prog 11 [eS g, eS (⟨0, (b : Int), (i : Int)⟩ : Plc)] (.b false) [] := fun b i hi => by
    have := Dead_S g ⟨0, (b : Int), (i : Int)⟩ hcut.okF hcut.okA
    rwa [hno b i hi] at this
  repeat' first | (refine iF (fun hb => ?_) (fun hb => ?_) <;> (try simp only [pickB_or, pickB_and] at hb) <;> (have hc := hb; try simp only [sB, Int.reduceToNat] at hc; try simp only [addZ0] at hc) <;> first | (exfalso; omega) | conv => whnf) | ((first | refine ⟨_, wr64 ti ti, ?_⟩ | refine And.intro si ?_ | refine LitW.frz ?_ | refine PreW.frz ?_ | refine AppW.cp ?_ | refine TakW.row ?_ | refine dD ?_ | refine dF ?_ | refine d0 ?_ | refine d1 ?_ | refine dL ?_ | refine dP ?_ | refine And.intro tgi ?_ | refine ⟨_, shl1 (by omega), ?_⟩ | refine ⟨_, wru64 ti ti, ?_⟩ | refine ⟨_, fun _ => (IntKind.wrap_u64 _).symm, ?_⟩); conv => whnf) | ((first | refine cK (fun _ => hA) ?_ | ((try (refine CallW.lent ?_; (conv => whnf); repeat (refine And.intro si ?_; (conv => whnf)))); refine cL (fun _ => hA) ?_)); conv => whnf) | ((first | refine cK (fun _ => hAg) ?_ | ((try (refine CallW.lent ?_; (conv => whnf); repeat (refine And.intro si ?_; (conv => whnf)))); refine cL (fun _ => hAg) ?_)); conv => whnf) | ((first | refine cK (fun _ => hSm) ?_ | ((try (refine CallW.lent ?_; (conv => whnf); repeat (refine And.intro si ?_; (conv => whnf)))); refine cL (fun _ => hSm) ?_)); conv => whnf) | (refine CallV.ret ?_; conv => whnf) | exact ⟨_, .keep rfl rfl⟩ | fail
  · rcases hc with h | h
    · omega
    · cases h
  refine lp [44] (fun b : Nat => [.i .i64 b]) (fun b => [(5, bx g), (4, bx (m.funcs.getD k Enc.d)), (1, bx m)]) (fun b => b ≤ (m.funcs.getD k Enc.d).blocks.length) (fun b => (m.funcs.getD k Enc.d).blocks.length - b) 0 (Nat.zero_le _) ?_ fun b hb0 => ?_
  · refine eP [] [] ?_ ?_ <;> repeat' first | exact eN | refine And.intro ?_ ?_
  conv => whnf
  have hcf := code_le (m.funcs.getD k Enc.d) b
  have hcg := code_le g b
  repeat' first | (refine iF (fun hb => ?_) (fun hb => ?_) <;> (try simp only [pickB_or, pickB_and] at hb) <;> (have hc := hb; try simp only [sB, Int.reduceToNat] at hc; try simp only [addZ0] at hc) <;> first | (exfalso; omega) | conv => whnf) | ((first | refine ⟨_, wr64 ti ti, ?_⟩ | refine And.intro si ?_ | refine LitW.frz ?_ | refine PreW.frz ?_ | refine AppW.cp ?_ | refine TakW.row ?_ | refine dD ?_ | refine dF ?_ | refine d0 ?_ | refine d1 ?_ | refine dL ?_ | refine dP ?_ | refine And.intro tgi ?_ | refine ⟨_, shl1 (by omega), ?_⟩ | refine ⟨_, wru64 ti ti, ?_⟩ | refine ⟨_, fun _ => (IntKind.wrap_u64 _).symm, ?_⟩); conv => whnf) | (refine CallV.ret ?_; conv => whnf) | exact ⟨_, .keep rfl rfl⟩ | fail
  · refine lp [54, 7] (fun p : KP => [.i .i64 p.i, .i .i64 p.k]) (fun p => [(5, bx g), (4, bx (m.funcs.getD k Enc.d)), (1, bx m)]) (fun p => p.i ≤ ((m.funcs.getD k Enc.d).blocks.getD b Enc.d).code.length ∧ p.k ≤ (g.blocks.getD b Enc.d).code.length ∧ SubS (((m.funcs.getD k Enc.d).blocks.getD b Enc.d).code.drop p.i) ((g.blocks.getD b Enc.d).code.drop p.k)) (fun p => ((m.funcs.getD k Enc.d).blocks.getD b Enc.d).code.length - p.i) ⟨0, 0⟩ ⟨Nat.zero_le _, Nat.zero_le _, hcut.sub b⟩ ?_ fun p hp => ?_
    · refine eP [] [] ?_ ?_ <;> repeat' first | exact eN | refine And.intro ?_ ?_
    conv => whnf
    obtain ⟨hp1, hp2, hp3⟩ := hp
    repeat' first | (refine iF (fun hb => ?_) (fun hb => ?_) <;> (try simp only [pickB_or, pickB_and] at hb) <;> (have hc := hb; try simp only [sB, Int.reduceToNat] at hc; try simp only [addZ0] at hc) <;> first | (exfalso; omega) | conv => whnf) | ((first | refine ⟨_, wr64 ti ti, ?_⟩ | refine And.intro si ?_ | refine LitW.frz ?_ | refine PreW.frz ?_ | refine AppW.cp ?_ | refine TakW.row ?_ | refine dD ?_ | refine dF ?_ | refine d0 ?_ | refine d1 ?_ | refine dL ?_ | refine dP ?_ | refine And.intro tgi ?_ | refine ⟨_, shl1 (by omega), ?_⟩ | refine ⟨_, wru64 ti ti, ?_⟩ | refine ⟨_, fun _ => (IntKind.wrap_u64 _).symm, ?_⟩); conv => whnf) | ((first | refine cK (fun _ => Instrs_S _ _ (Nat.lt_of_le_of_lt (ins_le (m.funcs.getD k Enc.d) b p.i) (by omega))) ?_ | ((try (refine CallW.lent ?_; (conv => whnf); repeat (refine And.intro si ?_; (conv => whnf)))); refine cL (fun _ => Instrs_S _ _ (Nat.lt_of_le_of_lt (ins_le (m.funcs.getD k Enc.d) b p.i) (by omega))) ?_)); conv => whnf) | (refine CallV.ret ?_; conv => whnf) | exact ⟨_, .keep rfl rfl⟩ | fail
    · obtain ⟨hc1, hc2⟩ := hc
      rename_i hi _ _
      have hi' : p.i < ((m.funcs.getD k Enc.d).blocks.getD b Enc.d).code.length := by omega
      have hk' : p.k < (g.blocks.getD b Enc.d).code.length := by omega
      refine .mk ⟨p.i + 1, p.k + 1⟩ ⟨hi', hk', ?_⟩ (by show _ - (p.i + 1) < _; omega) ?_
      · rw [drop_at hi', drop_at hk', hc2] at hp3
        exact hp3.eq
      · refine eP [] [] ?_ ?_ <;> repeat' first | exact eN | refine And.intro ?_ ?_
    · rename_i hi _ _ hn
      exact absurd (hp3.miss (by omega) hp2 (by assumption)).1 hc
    · have hi' : p.i < ((m.funcs.getD k Enc.d).blocks.getD b Enc.d).code.length := by omega
      refine .mk ⟨p.i + 1, p.k⟩ ⟨hi', hp2, (hp3.miss hi' hp2 (by assumption)).2⟩ (by show _ - (p.i + 1) < _; omega) ?_
      refine eP [] [] ?_ ?_ <;> repeat' first | exact eN | refine And.intro ?_ ?_
    · exfalso
      have : p.i = ((m.funcs.getD k Enc.d).blocks.getD b Enc.d).code.length := by omega
      rw [this, List.drop_length] at hp3
      have h1 : (g.blocks.getD b Enc.d).code.drop p.k = [] := by
        generalize (g.blocks.getD b Enc.d).code.drop p.k = l at hp3
        cases hp3; rfl
      have := List.drop_eq_nil_iff.1 h1
      omega
    · refine lp [102] (fun j : Nat => [.i .i64 j]) (fun j => [(5, bx g), (4, bx (m.funcs.getD k Enc.d)), (1, bx m)]) (fun j => j ≤ (g.blocks.getD b Enc.d).code.length) (fun j => (g.blocks.getD b Enc.d).code.length - j) 0 (Nat.zero_le _) ?_ fun j hj => ?_
      · refine eP [] [] ?_ ?_ <;> repeat' first | exact eN | refine And.intro ?_ ?_
      conv => whnf
      have hDj : j < (g.blocks.getD b Enc.d).code.length → ASpec Try.prog 11 [eS g, .agg [.i .i64 0, .i .i64 b, .i .i64 j]] (.b false) [] := fun h => hDd b j h
      repeat' first | (refine iF (fun hb => ?_) (fun hb => ?_) <;> (try simp only [pickB_or, pickB_and] at hb) <;> (have hc := hb; try simp only [sB, Int.reduceToNat] at hc; try simp only [addZ0] at hc) <;> first | (exfalso; omega) | conv => whnf) | ((first | refine ⟨_, wr64 ti ti, ?_⟩ | refine And.intro si ?_ | refine LitW.frz ?_ | refine PreW.frz ?_ | refine AppW.cp ?_ | refine TakW.row ?_ | refine dD ?_ | refine dF ?_ | refine d0 ?_ | refine d1 ?_ | refine dL ?_ | refine dP ?_ | refine And.intro tgi ?_ | refine ⟨_, shl1 (by omega), ?_⟩ | refine ⟨_, wru64 ti ti, ?_⟩ | refine ⟨_, fun _ => (IntKind.wrap_u64 _).symm, ?_⟩); conv => whnf) | ((first | refine cK (fun _ => hDj (by omega)) ?_ | ((try (refine CallW.lent ?_; (conv => whnf); repeat (refine And.intro si ?_; (conv => whnf)))); refine cL (fun _ => hDj (by omega)) ?_)); conv => whnf) | (refine CallV.ret ?_; conv => whnf) | exact ⟨_, .keep rfl rfl⟩ | fail
      · cases hb
      · refine .mk (j + 1) (by omega) (by omega) ?_
        refine eP [] [] ?_ ?_ <;> repeat' first | exact eN | refine And.intro ?_ ?_
      · refine .mk (b + 1) (by omega) (by omega) ?_
        refine eP [] [] ?_ ?_ <;> repeat' first | exact eN | refine And.intro ?_ ?_
  · refine .mk (k + 1) (by omega) (by omega) ?_
    refine eP [] [] ?_ ?_ <;> repeat' first | exact eN | refine And.intro ?_ ?_
end Go.Proofs.Ytjfdbmfcnhjfoaa
