/- The engine and the contracts of the functions that the statement reaches, part 4. -/
import Derived.Test.YtilhkmlghhdpaaaDoorMc
import Derived.Lib.UnsafeStr
import Derived.Lib.Builder
/- Layer 5, the reference: texts, further. -/
namespace Go.Proofs.YtilhkmlghhdpaaaDoor
open Go.RowKit
set_option linter.unusedVariables false
set_option linter.unusedSimpArgs false
set_option maxRecDepth 100000
set_option maxHeartbeats 4000000
theorem Gives.row {o : Os} {nz : Option Bool} {e n n' : Nat} {g g' : Nat → List AV} (h1 : n = n') (h : ∀ i, i < n' → g i = g' i) : Gives o (.row nz e n g) o (.row none e n' g') [] := by
  subst h1
  refine ⟨List.Sublist.refl _, fun S β w u ho hr => ⟨W0, List.nodup_nil, (fun k hk => by cases hk), fun S' β' hβ hS hS2 => ⟨?_, fun id ob hl => by simp [lk] at hl⟩⟩⟩
  have hr := rel_mono (S := S) (S' := S') (β := β) (w := w) (w' := w) ⟨Nat.le_refl _, fun k hk hs => ⟨hS k hk hs, rfl⟩⟩ _ _ hr
  unfold rel at hr ⊢
  obtain ⟨a, cap, us, rfl, z1, z2, z3⟩ := hr
  exact ⟨a, cap, us, rfl, (fun z hz => by cases hz), z2, fun i hi => ⟨(z3 i hi).1, (z3 i hi).2.1, by rw [← h i hi]; exact (z3 i hi).2.2⟩⟩
def opNames : List ByteArray := [(⟨#[]⟩ : ByteArray), (⟨#[97, 100, 100]⟩ : ByteArray), (⟨#[115, 117, 98]⟩ : ByteArray), (⟨#[109, 117, 108]⟩ : ByteArray), (⟨#[117, 100, 105, 118]⟩ : ByteArray), (⟨#[115, 100, 105, 118]⟩ : ByteArray), (⟨#[117, 114, 101, 109]⟩ : ByteArray), (⟨#[115, 114, 101, 109]⟩ : ByteArray), (⟨#[97, 110, 100]⟩ : ByteArray), (⟨#[111, 114]⟩ : ByteArray), (⟨#[120, 111, 114]⟩ : ByteArray), (⟨#[115, 104, 108]⟩ : ByteArray), (⟨#[108, 115, 104, 114]⟩ : ByteArray), (⟨#[97, 115, 104, 114]⟩ : ByteArray), (⟨#[101, 113]⟩ : ByteArray), (⟨#[110, 101]⟩ : ByteArray), (⟨#[117, 108, 116]⟩ : ByteArray), (⟨#[117, 108, 101]⟩ : ByteArray), (⟨#[115, 108, 116]⟩ : ByteArray), (⟨#[115, 108, 101]⟩ : ByteArray), (⟨#[122, 101, 120, 116]⟩ : ByteArray), (⟨#[115, 101, 120, 116]⟩ : ByteArray), (⟨#[116, 114, 117, 110, 99]⟩ : ByteArray), (⟨#[115, 101, 108, 101, 99, 116]⟩ : ByteArray), (⟨#[102, 114, 101, 101, 122, 101]⟩ : ByteArray), (⟨#[112, 104, 105]⟩ : ByteArray), (⟨#[97, 108, 108, 111, 99, 97]⟩ : ByteArray), (⟨#[108, 111, 97, 100]⟩ : ByteArray), (⟨#[115, 116, 111, 114, 101]⟩ : ByteArray), (⟨#[103, 101, 112]⟩ : ByteArray), (⟨#[99, 97, 108, 108]⟩ : ByteArray), (⟨#[98, 114]⟩ : ByteArray), (⟨#[98, 114, 105, 102]⟩ : ByteArray), (⟨#[114, 101, 116]⟩ : ByteArray), (⟨#[104, 97, 108, 116]⟩ : ByteArray)]
theorem names4_S : ASpec Tryd.prog 69 [] (eL opNames) [] := by
  refine ASpec.enter TYok mixed Tryd.func69 rfl Tryd.call69 Tryd.ntmps69 rfl (rs := [.tmp 0]) rfl (nodupB_ok rfl) (Clo.one rfl) (keep := [0]) ?_; conv => whnf
  refine ⟨_, .row rfl fun i hi => ?_⟩
  rw [litF_eq _ _ hi]
  have hi : i < 35 := hi
  rcases i with _|_|_|_|_|_|_|_|_|_|_|_|_|_|_|_|_|_|_|_|_|_|_|_|_|_|_|_|_|_|_|_|_|_|_|i <;> first | rfl | omega
theorem Name4_S (n : Int) (h : 0 ≤ n ∧ n < 35) : ASpec Tryd.prog 55 [.i .i64 n] (.s (opNames.getD n.toNat Enc.d)) [] := by
  have hl : opNames.length = 35 := rfl
  refine ASpec.enter TYok mixed Tryd.func55 rfl Tryd.call55 Tryd.ntmps55 rfl (rs := [.tmp 2]) rfl (nodupB_ok rfl) (Clo.one rfl) (keep := [0, 2, 3]) ?_; conv => whnf
  repeat' first | (refine And.intro (fun (hb : _ = true) => ?_) (fun (hb : _ = false) => ?_) <;> (try simp only [pickB_or, pickB_and] at hb) <;> (have hc := hb; try simp only [Int.toNat_natCast, Int.reduceToNat, Bool.or_eq_false_iff, Bool.and_eq_false_iff, Bool.not_eq_false', decide_eq_true_eq, decide_eq_false_iff_not, Bool.not_eq_true', Bool.and_eq_true, Bool.or_eq_true] at hc) <;> first | (exfalso; omega) | conv => whnf) | (refine ⟨_, wr64 (by first | omega | (simp only [Int.toNat_natCast, Int.reduceToNat]; omega)) (by first | omega | (simp only [Int.toNat_natCast, Int.reduceToNat]; omega)), ?_⟩; conv => whnf) | (refine And.intro (by first | omega | (simp only [Int.toNat_natCast, Int.reduceToNat, addZ]; omega) | (simp only [ByteArray.size_append, size_mk, List.length_cons, List.length_nil, Int.toNat_natCast, Int.reduceToNat]; omega) | exact ⟨rfl, by omega⟩ | ((repeat' apply And.intro) <;> first | exact trivial | omega) | decide +kernel) ?_; conv => whnf) | (refine And.intro (fun (ht : tg _ _ = true) => by (simp only [tg_ite, tg_nil, cn, Nat.reduceMul, Nat.reduceAdd, Nat.reduceEqDiff, ↓reduceIte, pickB_or, pickB_and, Bool.and_eq_true, Bool.or_eq_true, Bool.or_eq_false_iff, Bool.and_eq_false_iff, Bool.not_eq_true', Bool.not_eq_false', decide_eq_true_eq, decide_eq_false_iff_not, Int.toNat_natCast, Int.reduceToNat, ne_eq] at ht ⊢; first | omega | (simp only [Int.toNat_natCast, Int.reduceToNat]; omega))) ?_; conv => whnf) | (refine ⟨_, shl1 (by omega), ?_⟩; conv => whnf) | (refine ⟨_, wru64 (by first | omega | (simp only [Int.toNat_natCast, Int.reduceToNat]; omega)) (by first | omega | (simp only [Int.toNat_natCast, Int.reduceToNat]; omega)), ?_⟩; conv => whnf) | (refine ⟨_, fun _ => (IntKind.wrap_u64 _).symm, ?_⟩; conv => whnf) | ((first | refine CallK.mk _ _ (fun _ => names4_S) ?_ | refine CallL.mk _ _ (fun _ => names4_S) rfl (fun _ _ h => nomatch h) ?_ | (refine CallW.lent ?_; (conv => whnf); refine CallL.mk _ _ (fun _ => names4_S) rfl (fun _ _ h => nomatch h) ?_) | (refine CallW.lent ?_; (conv => whnf); refine And.intro (by omega) ?_; (conv => whnf); refine CallL.mk _ _ (fun _ => names4_S) rfl (fun _ _ h => nomatch h) ?_)); conv => whnf) | exact ⟨_, .keep rfl rfl⟩ | fail
/-- What is known of an instruction that may be said. -/
structure InsOk (m : ModE) (x : InsE) : Prop where
  op : 1 ≤ x.op ∧ x.op ≤ 34
  args : ∀ i, i < x.args.length → opR m (x.args.getD i Enc.d)
  tos : ∀ i, i < x.to.length → 0 ≤ x.to.getD i Enc.d ∧ x.to.getD i Enc.d ≤ 999
  cv : (x.op = 20 ∨ x.op = 21 ∨ x.op = 22) → x.args.length = 1
  br : x.op = 31 → x.to.length = 1
  bi : x.op = 32 → x.args.length = 1 ∧ x.to.length = 2
  ph : x.op = 25 → x.to.length = x.args.length
  al : x.op = 26 → 0 ≤ x.n
  ca : x.op = 30 → (0 ≤ x.n ∧ x.n < m.funcs.length) ∨ (x.n < 0 ∧ -(m.exts.length : Int) ≤ x.n)
  reg : x.reg ≤ 4095
  fl : 0 ≤ x.f ∧ x.f ≤ 7
  n64 : x.n ≤ 9223372036854775807
  tt : 0 ≤ x.t ∧ x.t ≤ 65
  cn : (x.op = 20 ∨ x.op = 21 ∨ x.op = 22) → 0 ≤ x.n ∧ x.n ≤ 65
def phT (m : ModE) (x : InsE) : Nat → ByteArray
  | 0 => (⟨#[32]⟩ : ByteArray) ++ tyT x.t
  | q + 1 => (((if 0 < q then phT m x q ++ (⟨#[44]⟩ : ByteArray) else phT m x q) ++ (⟨#[32]⟩ : ByteArray) ++ blkT (x.to.getD q Enc.d)) ++ (⟨#[32]⟩ : ByteArray)) ++ valT m (x.args.getD q Enc.d)
def calT (m : ModE) (n : Int) : ByteArray := if 0 ≤ n then (m.funcs.getD n.toNat Enc.d).name else (m.exts.getD (-1 - n).toNat Enc.d).name
def behT (m : ModE) (x : InsE) : ByteArray :=
  if x.op = 20 ∨ x.op = 21 ∨ x.op = 22 then (((((⟨#[32]⟩ : ByteArray) ++ tyT x.n) ++ (⟨#[32]⟩ : ByteArray)) ++ valT m (x.args.getD 0 Enc.d)) ++ (⟨#[32, 116, 111, 32]⟩ : ByteArray)) ++ tyT x.t else
  if x.op = 25 then phT m x x.args.length else
  if x.op = 26 then (⟨#[32]⟩ : ByteArray) ++ dec x.n.toNat else
  if x.op = 29 then (⟨#[32]⟩ : ByteArray) ++ valuesT m x.args else
  if x.op = 31 then (⟨#[32]⟩ : ByteArray) ++ blkT (x.to.getD 0 Enc.d) else
  if x.op = 32 then (((((⟨#[32]⟩ : ByteArray) ++ valT m (x.args.getD 0 Enc.d)) ++ (⟨#[44, 32]⟩ : ByteArray)) ++ blkT (x.to.getD 0 Enc.d)) ++ (⟨#[44, 32]⟩ : ByteArray)) ++ blkT (x.to.getD 1 Enc.d) else
  if x.op = 34 then ⟨#[]⟩ else
  if x.op = 30 then ((((⟨#[32]⟩ : ByteArray) ++ calT m x.n) ++ (⟨#[40]⟩ : ByteArray)) ++ valuesT m x.args) ++ (⟨#[41]⟩ : ByteArray) else
  if x.op = 33 ∧ x.args.length = 0 then ⟨#[]⟩ else (((⟨#[32]⟩ : ByteArray) ++ tyT x.t) ++ (⟨#[32]⟩ : ByteArray)) ++ valuesT m x.args
theorem blkT_len {n : Int} (h : 0 ≤ n ∧ n < 18446744073709551616) : (blkT n).size ≤ 21 := by
  have d := dec_len n.toNat (by omega)
  unfold blkT; rw [ByteArray.size_append, size_mk]; simp only [List.length_cons, List.length_nil]; omega
theorem calT_len (m : ModE) (n : Int) : (calT m n).size ≤ siz m := by
  have h0 : siz m = siz m.vars + siz m.exts + siz m.funcs := rfl
  unfold calT; split
  · have h1 : siz (m.funcs.getD n.toNat Enc.d) ≤ siz m.funcs := siz_at m.funcs _
    have h2 : siz (m.funcs.getD n.toNat Enc.d) = (m.funcs.getD n.toNat Enc.d).name.size + siz (m.funcs.getD n.toNat Enc.d).params + siz (m.funcs.getD n.toNat Enc.d).blocks := rfl
    omega
  · have h1 : siz (m.exts.getD (-1 - n).toNat Enc.d) ≤ siz m.exts := siz_at m.exts _
    have h2 : siz (m.exts.getD (-1 - n).toNat Enc.d) = (m.exts.getD (-1 - n).toNat Enc.d).name.size + siz (m.exts.getD (-1 - n).toNat Enc.d).params := rfl
    omega
theorem phT_step {m : ModE} {x : InsE} {q : Nat} : (phT m x (q + 1)).size = (phT m x q).size + (if 0 < q then 1 else 0) + (blkT (x.to.getD q Enc.d)).size + (valT m (x.args.getD q Enc.d)).size + 2 := by
  rw [phT]
  split <;> simp only [ByteArray.size_append, size_mk, List.length_cons, List.length_nil] <;> omega
theorem phT_mono {m : ModE} {x : InsE} {q : Nat} : ∀ {k : Nat}, q ≤ k → (phT m x q).size ≤ (phT m x k).size
  | 0, h => by rw [show q = 0 by omega]; exact Nat.le_refl _
  | k + 1, h => by
    rcases Nat.lt_or_ge q (k + 1) with h2 | h2
    · have := phT_mono (m := m) (x := x) (q := q) (k := k) (by omega); rw [phT_step]; omega
    · rw [show q = k + 1 by omega]; exact Nat.le_refl _
theorem vals_le {m : ModE} {x : InsE} (h : ¬(x.op = 20 ∨ x.op = 21 ∨ x.op = 22 ∨ x.op = 25 ∨ x.op = 26 ∨ x.op = 31 ∨ x.op = 32 ∨ x.op = 34)) : (valuesT m x.args).size ≤ (behT m x).size := by
  unfold behT
  rw [if_neg (by omega), if_neg (by omega), if_neg (by omega)]
  split
  · rw [ByteArray.size_append]; omega
  · rw [if_neg (by omega), if_neg (by omega), if_neg (by omega)]
    split
    · simp only [ByteArray.size_append]; omega
    · split
      · rename_i h2
        have : x.args = [] := List.eq_nil_of_length_eq_zero h2.2
        rw [this]; exact Nat.zero_le _
      · simp only [ByteArray.size_append]; omega
theorem behind5_S (m : ModE) (x : InsE) (h : InsOk m x) (hm : siz m < 4294967296) (hx : siz x < 4294967296) (hs : (behT m x).size ≤ 70368744177664) : ASpec Tryd.prog 56 [eS m, eS x] (.s (behT m x)) [] := by
  have h1 := args_le x
  have h2 := to_le x
  have k1 := tyT_len x.n
  have k2 := tyT_len x.t
  obtain ⟨g1, g2, g3, g4, g5, g6, g7, g8, g9, g10, g11, g12, g13, g14⟩ := h
  have o0 := fun h0 => g2 0 h0
  have o1 := fun h0 => valT_len (g2 0 h0)
  have t0 := g3 0
  have t1 := g3 1
  have c1 := calT_len m x.n
  by_cases hA : x.op = 25
  · have ht := g7 hA
    have e0 : behT m x = phT m x x.args.length := by unfold behT; rw [if_neg (by omega), if_pos hA]
    rw [e0] at hs ⊢
    have hmo := fun q (h : q ≤ x.args.length) => phT_mono (m := m) (x := x) h
    refine ASpec.enter TYok mixed Tryd.func56 rfl Tryd.call56 Tryd.ntmps56 rfl (rs := [.tmp 4]) rfl (nodupB_ok rfl) (Clo.one rfl) (keep := [0, 1, 2, 3, 4, 5, 6, 7, 9]) ?_; conv => whnf
    repeat' first | (refine And.intro (fun (hb : _ = true) => ?_) (fun (hb : _ = false) => ?_) <;> (try simp only [pickB_or, pickB_and] at hb) <;> (have hc := hb; try simp only [Int.toNat_natCast, Int.reduceToNat, Bool.or_eq_false_iff, Bool.and_eq_false_iff, Bool.not_eq_false', decide_eq_true_eq, decide_eq_false_iff_not, Bool.not_eq_true', Bool.and_eq_true, Bool.or_eq_true] at hc) <;> first | (exfalso; omega) | conv => whnf) | (refine ⟨_, wr64 (by first | omega | (simp only [Int.toNat_natCast, Int.reduceToNat]; omega)) (by first | omega | (simp only [Int.toNat_natCast, Int.reduceToNat]; omega)), ?_⟩; conv => whnf) | (refine And.intro (by first | omega | (simp only [Int.toNat_natCast, Int.reduceToNat, addZ]; omega) | (simp only [ByteArray.size_append, size_mk, List.length_cons, List.length_nil, Int.toNat_natCast, Int.reduceToNat]; omega) | exact ⟨rfl, by omega⟩ | ((repeat' apply And.intro) <;> first | exact trivial | omega) | decide +kernel) ?_; conv => whnf) | (refine And.intro (fun (ht : tg _ _ = true) => by (simp only [tg_ite, tg_nil, cn, Nat.reduceMul, Nat.reduceAdd, Nat.reduceEqDiff, ↓reduceIte, pickB_or, pickB_and, Bool.and_eq_true, Bool.or_eq_true, Bool.or_eq_false_iff, Bool.and_eq_false_iff, Bool.not_eq_true', Bool.not_eq_false', decide_eq_true_eq, decide_eq_false_iff_not, Int.toNat_natCast, Int.reduceToNat, ne_eq] at ht ⊢; first | omega | (simp only [Int.toNat_natCast, Int.reduceToNat]; omega))) ?_; conv => whnf) | (refine ⟨_, shl1 (by omega), ?_⟩; conv => whnf) | (refine ⟨_, wru64 (by first | omega | (simp only [Int.toNat_natCast, Int.reduceToNat]; omega)) (by first | omega | (simp only [Int.toNat_natCast, Int.reduceToNat]; omega)), ?_⟩; conv => whnf) | (refine ⟨_, fun _ => (IntKind.wrap_u64 _).symm, ?_⟩; conv => whnf) | ((first | refine CallK.mk _ _ (fun _ => Type5_S _) ?_ | refine CallL.mk _ _ (fun _ => Type5_S _) rfl (fun _ _ h => nomatch h) ?_ | (refine CallW.lent ?_; (conv => whnf); refine CallL.mk _ _ (fun _ => Type5_S _) rfl (fun _ _ h => nomatch h) ?_) | (refine CallW.lent ?_; (conv => whnf); refine And.intro (by omega) ?_; (conv => whnf); refine CallL.mk _ _ (fun _ => Type5_S _) rfl (fun _ _ h => nomatch h) ?_)); conv => whnf) | exact ⟨_, .keep rfl rfl⟩ | fail
    refine lp [6, 5] (fun q : Nat => [.i .i64 q, .s (phT m x q)]) (fun q => [(2, bx m), (3, bx x)]) (fun q => q ≤ x.args.length) (fun q => x.args.length - q) 0 (by omega) ?_ fun q hq => ?_
    · refine Ent.lp [] [] rfl rfl rfl ?_ ?_ <;> repeat' first | exact trivial | rfl | exact fun _ _ => rfl | omega | refine And.intro ?_ ?_ | (show (_ : Int) = _; first | omega | (simp only [Int.toNat_natCast]; omega))
    conv => whnf
    have p1 := hmo q hq
    rcases Nat.lt_or_ge q x.args.length with hlt | hge
    · have p2 := valT_len (g2 q hlt)
      have p3 := g2 q hlt
      have p4 := g3 q (by omega)
      have p5 := blkT_len (n := x.to.getD q Enc.d) (by omega)
      repeat' first | (refine And.intro (fun (hb : _ = true) => ?_) (fun (hb : _ = false) => ?_) <;> (try simp only [pickB_or, pickB_and] at hb) <;> (have hc := hb; try simp only [Int.toNat_natCast, Int.reduceToNat, Bool.or_eq_false_iff, Bool.and_eq_false_iff, Bool.not_eq_false', decide_eq_true_eq, decide_eq_false_iff_not, Bool.not_eq_true', Bool.and_eq_true, Bool.or_eq_true] at hc) <;> first | (exfalso; omega) | conv => whnf) | (refine ⟨_, wr64 (by first | omega | (simp only [Int.toNat_natCast, Int.reduceToNat]; omega)) (by first | omega | (simp only [Int.toNat_natCast, Int.reduceToNat]; omega)), ?_⟩; conv => whnf) | (refine And.intro (by first | omega | (simp only [Int.toNat_natCast, Int.reduceToNat, addZ]; omega) | (simp only [ByteArray.size_append, size_mk, List.length_cons, List.length_nil, Int.toNat_natCast, Int.reduceToNat]; omega) | exact ⟨rfl, by omega⟩ | ((repeat' apply And.intro) <;> first | exact trivial | omega) | decide +kernel) ?_; conv => whnf) | (refine And.intro (fun (ht : tg _ _ = true) => by (simp only [tg_ite, tg_nil, cn, Nat.reduceMul, Nat.reduceAdd, Nat.reduceEqDiff, ↓reduceIte, pickB_or, pickB_and, Bool.and_eq_true, Bool.or_eq_true, Bool.or_eq_false_iff, Bool.and_eq_false_iff, Bool.not_eq_true', Bool.not_eq_false', decide_eq_true_eq, decide_eq_false_iff_not, Int.toNat_natCast, Int.reduceToNat, ne_eq] at ht ⊢; first | omega | (simp only [Int.toNat_natCast, Int.reduceToNat]; omega))) ?_; conv => whnf) | (refine ⟨_, shl1 (by omega), ?_⟩; conv => whnf) | (refine ⟨_, wru64 (by first | omega | (simp only [Int.toNat_natCast, Int.reduceToNat]; omega)) (by first | omega | (simp only [Int.toNat_natCast, Int.reduceToNat]; omega)), ?_⟩; conv => whnf) | (refine ⟨_, fun _ => (IntKind.wrap_u64 _).symm, ?_⟩; conv => whnf) | ((first | refine CallK.mk _ _ (fun _ => block5_S _ (by first | omega | (simp only [Int.toNat_natCast, Int.reduceToNat]; omega))) ?_ | refine CallL.mk _ _ (fun _ => block5_S _ (by first | omega | (simp only [Int.toNat_natCast, Int.reduceToNat]; omega))) rfl (fun _ _ h => nomatch h) ?_ | (refine CallW.lent ?_; (conv => whnf); refine CallL.mk _ _ (fun _ => block5_S _ (by first | omega | (simp only [Int.toNat_natCast, Int.reduceToNat]; omega))) rfl (fun _ _ h => nomatch h) ?_) | (refine CallW.lent ?_; (conv => whnf); refine And.intro (by omega) ?_; (conv => whnf); refine CallL.mk _ _ (fun _ => block5_S _ (by first | omega | (simp only [Int.toNat_natCast, Int.reduceToNat]; omega))) rfl (fun _ _ h => nomatch h) ?_)); conv => whnf) | ((first | refine CallK.mk _ _ (fun _ => value5_S m _ p3 hm) ?_ | refine CallL.mk _ _ (fun _ => value5_S m _ p3 hm) rfl (fun _ _ h => nomatch h) ?_ | (refine CallW.lent ?_; (conv => whnf); refine CallL.mk _ _ (fun _ => value5_S m _ p3 hm) rfl (fun _ _ h => nomatch h) ?_) | (refine CallW.lent ?_; (conv => whnf); refine And.intro (by omega) ?_; (conv => whnf); refine CallL.mk _ _ (fun _ => value5_S m _ p3 hm) rfl (fun _ _ h => nomatch h) ?_)); conv => whnf) | exact ⟨_, .keep rfl rfl⟩ | fail
      · have e : phT m x (q + 1) = (((phT m x q ++ (⟨#[44]⟩ : ByteArray)) ++ (⟨#[32]⟩ : ByteArray) ++ blkT (x.to.getD q Enc.d)) ++ (⟨#[32]⟩ : ByteArray)) ++ valT m (x.args.getD q Enc.d) := by rw [phT, if_pos (by omega)]
        refine .mk (q + 1) (by omega) (by omega) ?_
        rw [e]
        refine Ent.lp [] [] rfl rfl rfl ?_ ?_ <;> repeat' first | exact trivial | rfl | exact fun _ _ => rfl | omega | refine And.intro ?_ ?_ | (show (_ : Int) = _; first | omega | (simp only [Int.toNat_natCast]; omega))
      · have e : phT m x (q + 1) = ((phT m x q ++ (⟨#[32]⟩ : ByteArray) ++ blkT (x.to.getD q Enc.d)) ++ (⟨#[32]⟩ : ByteArray)) ++ valT m (x.args.getD q Enc.d) := by rw [phT, if_neg (by omega)]
        refine .mk (q + 1) (by omega) (by omega) ?_
        rw [e]
        refine Ent.lp [] [] rfl rfl rfl ?_ ?_ <;> repeat' first | exact trivial | rfl | exact fun _ _ => rfl | omega | refine And.intro ?_ ?_ | (show (_ : Int) = _; first | omega | (simp only [Int.toNat_natCast]; omega))
    · have e : q = x.args.length := by omega
      subst e
      repeat' first | (refine And.intro (fun (hb : _ = true) => ?_) (fun (hb : _ = false) => ?_) <;> (try simp only [pickB_or, pickB_and] at hb) <;> (have hc := hb; try simp only [Int.toNat_natCast, Int.reduceToNat, Bool.or_eq_false_iff, Bool.and_eq_false_iff, Bool.not_eq_false', decide_eq_true_eq, decide_eq_false_iff_not, Bool.not_eq_true', Bool.and_eq_true, Bool.or_eq_true] at hc) <;> first | (exfalso; omega) | conv => whnf) | (refine ⟨_, wr64 (by first | omega | (simp only [Int.toNat_natCast, Int.reduceToNat]; omega)) (by first | omega | (simp only [Int.toNat_natCast, Int.reduceToNat]; omega)), ?_⟩; conv => whnf) | (refine And.intro (by first | omega | (simp only [Int.toNat_natCast, Int.reduceToNat, addZ]; omega) | (simp only [ByteArray.size_append, size_mk, List.length_cons, List.length_nil, Int.toNat_natCast, Int.reduceToNat]; omega) | exact ⟨rfl, by omega⟩ | ((repeat' apply And.intro) <;> first | exact trivial | omega) | decide +kernel) ?_; conv => whnf) | (refine And.intro (fun (ht : tg _ _ = true) => by (simp only [tg_ite, tg_nil, cn, Nat.reduceMul, Nat.reduceAdd, Nat.reduceEqDiff, ↓reduceIte, pickB_or, pickB_and, Bool.and_eq_true, Bool.or_eq_true, Bool.or_eq_false_iff, Bool.and_eq_false_iff, Bool.not_eq_true', Bool.not_eq_false', decide_eq_true_eq, decide_eq_false_iff_not, Int.toNat_natCast, Int.reduceToNat, ne_eq] at ht ⊢; first | omega | (simp only [Int.toNat_natCast, Int.reduceToNat]; omega))) ?_; conv => whnf) | (refine ⟨_, shl1 (by omega), ?_⟩; conv => whnf) | (refine ⟨_, wru64 (by first | omega | (simp only [Int.toNat_natCast, Int.reduceToNat]; omega)) (by first | omega | (simp only [Int.toNat_natCast, Int.reduceToNat]; omega)), ?_⟩; conv => whnf) | (refine ⟨_, fun _ => (IntKind.wrap_u64 _).symm, ?_⟩; conv => whnf) | exact ⟨_, .keep rfl rfl⟩ | fail
  · by_cases hB : x.op = 20 ∨ x.op = 21 ∨ x.op = 22 ∨ x.op = 25 ∨ x.op = 26 ∨ x.op = 31 ∨ x.op = 32 ∨ x.op = 34
    · by_cases hC : x.op = 20 ∨ x.op = 21 ∨ x.op = 22
      · have q1 := g4 hC
        have q2 := o1 (by omega)
        refine ASpec.enter TYok mixed Tryd.func56 rfl Tryd.call56 Tryd.ntmps56 rfl (rs := [.tmp 4]) rfl (nodupB_ok rfl) (Clo.one rfl) (keep := [0, 1, 2, 3, 4, 5, 6, 7, 9]) ?_; conv => whnf
        repeat' first | (refine And.intro (fun (hb : _ = true) => ?_) (fun (hb : _ = false) => ?_) <;> (try simp only [pickB_or, pickB_and] at hb) <;> (have hc := hb; try simp only [Int.toNat_natCast, Int.reduceToNat, Bool.or_eq_false_iff, Bool.and_eq_false_iff, Bool.not_eq_false', decide_eq_true_eq, decide_eq_false_iff_not, Bool.not_eq_true', Bool.and_eq_true, Bool.or_eq_true] at hc) <;> first | (exfalso; omega) | conv => whnf) | (refine ⟨_, wr64 (by first | omega | (simp only [Int.toNat_natCast, Int.reduceToNat]; omega)) (by first | omega | (simp only [Int.toNat_natCast, Int.reduceToNat]; omega)), ?_⟩; conv => whnf) | (refine And.intro (by first | omega | (simp only [Int.toNat_natCast, Int.reduceToNat, addZ]; omega) | (simp only [ByteArray.size_append, size_mk, List.length_cons, List.length_nil, Int.toNat_natCast, Int.reduceToNat]; omega) | exact ⟨rfl, by omega⟩ | ((repeat' apply And.intro) <;> first | exact trivial | omega) | decide +kernel) ?_; conv => whnf) | (refine And.intro (fun (ht : tg _ _ = true) => by (simp only [tg_ite, tg_nil, cn, Nat.reduceMul, Nat.reduceAdd, Nat.reduceEqDiff, ↓reduceIte, pickB_or, pickB_and, Bool.and_eq_true, Bool.or_eq_true, Bool.or_eq_false_iff, Bool.and_eq_false_iff, Bool.not_eq_true', Bool.not_eq_false', decide_eq_true_eq, decide_eq_false_iff_not, Int.toNat_natCast, Int.reduceToNat, ne_eq] at ht ⊢; first | omega | (simp only [Int.toNat_natCast, Int.reduceToNat]; omega))) ?_; conv => whnf) | (refine ⟨_, shl1 (by omega), ?_⟩; conv => whnf) | (refine ⟨_, wru64 (by first | omega | (simp only [Int.toNat_natCast, Int.reduceToNat]; omega)) (by first | omega | (simp only [Int.toNat_natCast, Int.reduceToNat]; omega)), ?_⟩; conv => whnf) | (refine ⟨_, fun _ => (IntKind.wrap_u64 _).symm, ?_⟩; conv => whnf) | ((first | refine CallK.mk _ _ (fun _ => Type5_S _) ?_ | refine CallL.mk _ _ (fun _ => Type5_S _) rfl (fun _ _ h => nomatch h) ?_ | (refine CallW.lent ?_; (conv => whnf); refine CallL.mk _ _ (fun _ => Type5_S _) rfl (fun _ _ h => nomatch h) ?_) | (refine CallW.lent ?_; (conv => whnf); refine And.intro (by omega) ?_; (conv => whnf); refine CallL.mk _ _ (fun _ => Type5_S _) rfl (fun _ _ h => nomatch h) ?_)); conv => whnf) | ((first | refine CallK.mk _ _ (fun _ => value5_S m (x.args.getD 0 Enc.d) (o0 (by omega)) hm) ?_ | refine CallL.mk _ _ (fun _ => value5_S m (x.args.getD 0 Enc.d) (o0 (by omega)) hm) rfl (fun _ _ h => nomatch h) ?_ | (refine CallW.lent ?_; (conv => whnf); refine CallL.mk _ _ (fun _ => value5_S m (x.args.getD 0 Enc.d) (o0 (by omega)) hm) rfl (fun _ _ h => nomatch h) ?_) | (refine CallW.lent ?_; (conv => whnf); refine And.intro (by omega) ?_; (conv => whnf); refine CallL.mk _ _ (fun _ => value5_S m (x.args.getD 0 Enc.d) (o0 (by omega)) hm) rfl (fun _ _ h => nomatch h) ?_)); conv => whnf) | exact ⟨_, .keep rfl rfl⟩ | fail
        all_goals exact ⟨_, .keep (by rw [behT, if_pos hC]) rfl⟩
      · by_cases hD : x.op = 26
        · have q1 := g8 hD
          have q2 := dec_len x.n.toNat (by omega)
          refine ASpec.enter TYok mixed Tryd.func56 rfl Tryd.call56 Tryd.ntmps56 rfl (rs := [.tmp 4]) rfl (nodupB_ok rfl) (Clo.one rfl) (keep := [0, 1, 2, 3, 4, 5, 6, 7, 9]) ?_; conv => whnf
          repeat' first | (refine And.intro (fun (hb : _ = true) => ?_) (fun (hb : _ = false) => ?_) <;> (try simp only [pickB_or, pickB_and] at hb) <;> (have hc := hb; try simp only [Int.toNat_natCast, Int.reduceToNat, Bool.or_eq_false_iff, Bool.and_eq_false_iff, Bool.not_eq_false', decide_eq_true_eq, decide_eq_false_iff_not, Bool.not_eq_true', Bool.and_eq_true, Bool.or_eq_true] at hc) <;> first | (exfalso; omega) | conv => whnf) | (refine ⟨_, wr64 (by first | omega | (simp only [Int.toNat_natCast, Int.reduceToNat]; omega)) (by first | omega | (simp only [Int.toNat_natCast, Int.reduceToNat]; omega)), ?_⟩; conv => whnf) | (refine And.intro (by first | omega | (simp only [Int.toNat_natCast, Int.reduceToNat, addZ]; omega) | (simp only [ByteArray.size_append, size_mk, List.length_cons, List.length_nil, Int.toNat_natCast, Int.reduceToNat]; omega) | exact ⟨rfl, by omega⟩ | ((repeat' apply And.intro) <;> first | exact trivial | omega) | decide +kernel) ?_; conv => whnf) | (refine And.intro (fun (ht : tg _ _ = true) => by (simp only [tg_ite, tg_nil, cn, Nat.reduceMul, Nat.reduceAdd, Nat.reduceEqDiff, ↓reduceIte, pickB_or, pickB_and, Bool.and_eq_true, Bool.or_eq_true, Bool.or_eq_false_iff, Bool.and_eq_false_iff, Bool.not_eq_true', Bool.not_eq_false', decide_eq_true_eq, decide_eq_false_iff_not, Int.toNat_natCast, Int.reduceToNat, ne_eq] at ht ⊢; first | omega | (simp only [Int.toNat_natCast, Int.reduceToNat]; omega))) ?_; conv => whnf) | (refine ⟨_, shl1 (by omega), ?_⟩; conv => whnf) | (refine ⟨_, wru64 (by first | omega | (simp only [Int.toNat_natCast, Int.reduceToNat]; omega)) (by first | omega | (simp only [Int.toNat_natCast, Int.reduceToNat]; omega)), ?_⟩; conv => whnf) | (refine ⟨_, fun _ => (IntKind.wrap_u64 _).symm, ?_⟩; conv => whnf) | ((first | refine CallK.mk _ _ (fun _ => DigitsI_S _ (by omega)) ?_ | refine CallL.mk _ _ (fun _ => DigitsI_S _ (by omega)) rfl (fun _ _ h => nomatch h) ?_ | (refine CallW.lent ?_; (conv => whnf); refine CallL.mk _ _ (fun _ => DigitsI_S _ (by omega)) rfl (fun _ _ h => nomatch h) ?_) | (refine CallW.lent ?_; (conv => whnf); refine And.intro (by omega) ?_; (conv => whnf); refine CallL.mk _ _ (fun _ => DigitsI_S _ (by omega)) rfl (fun _ _ h => nomatch h) ?_)); conv => whnf) | exact ⟨_, .keep rfl rfl⟩ | fail
          exact ⟨_, .keep (by rw [behT, if_neg hC, if_neg hA, if_pos hD]) rfl⟩
        · by_cases hE : x.op = 31
          · have q1 := g5 hE
            have q2 := t0 (by omega)
            have q3 := blkT_len (n := x.to.getD 0 Enc.d) (by omega)
            refine ASpec.enter TYok mixed Tryd.func56 rfl Tryd.call56 Tryd.ntmps56 rfl (rs := [.tmp 4]) rfl (nodupB_ok rfl) (Clo.one rfl) (keep := [0, 1, 2, 3, 4, 5, 6, 7, 9]) ?_; conv => whnf
            repeat' first | (refine And.intro (fun (hb : _ = true) => ?_) (fun (hb : _ = false) => ?_) <;> (try simp only [pickB_or, pickB_and] at hb) <;> (have hc := hb; try simp only [Int.toNat_natCast, Int.reduceToNat, Bool.or_eq_false_iff, Bool.and_eq_false_iff, Bool.not_eq_false', decide_eq_true_eq, decide_eq_false_iff_not, Bool.not_eq_true', Bool.and_eq_true, Bool.or_eq_true] at hc) <;> first | (exfalso; omega) | conv => whnf) | (refine ⟨_, wr64 (by first | omega | (simp only [Int.toNat_natCast, Int.reduceToNat]; omega)) (by first | omega | (simp only [Int.toNat_natCast, Int.reduceToNat]; omega)), ?_⟩; conv => whnf) | (refine And.intro (by first | omega | (simp only [Int.toNat_natCast, Int.reduceToNat, addZ]; omega) | (simp only [ByteArray.size_append, size_mk, List.length_cons, List.length_nil, Int.toNat_natCast, Int.reduceToNat]; omega) | exact ⟨rfl, by omega⟩ | ((repeat' apply And.intro) <;> first | exact trivial | omega) | decide +kernel) ?_; conv => whnf) | (refine And.intro (fun (ht : tg _ _ = true) => by (simp only [tg_ite, tg_nil, cn, Nat.reduceMul, Nat.reduceAdd, Nat.reduceEqDiff, ↓reduceIte, pickB_or, pickB_and, Bool.and_eq_true, Bool.or_eq_true, Bool.or_eq_false_iff, Bool.and_eq_false_iff, Bool.not_eq_true', Bool.not_eq_false', decide_eq_true_eq, decide_eq_false_iff_not, Int.toNat_natCast, Int.reduceToNat, ne_eq] at ht ⊢; first | omega | (simp only [Int.toNat_natCast, Int.reduceToNat]; omega))) ?_; conv => whnf) | (refine ⟨_, shl1 (by omega), ?_⟩; conv => whnf) | (refine ⟨_, wru64 (by first | omega | (simp only [Int.toNat_natCast, Int.reduceToNat]; omega)) (by first | omega | (simp only [Int.toNat_natCast, Int.reduceToNat]; omega)), ?_⟩; conv => whnf) | (refine ⟨_, fun _ => (IntKind.wrap_u64 _).symm, ?_⟩; conv => whnf) | ((first | refine CallK.mk _ _ (fun _ => block5_S _ (by first | omega | (simp only [Int.toNat_natCast, Int.reduceToNat]; omega))) ?_ | refine CallL.mk _ _ (fun _ => block5_S _ (by first | omega | (simp only [Int.toNat_natCast, Int.reduceToNat]; omega))) rfl (fun _ _ h => nomatch h) ?_ | (refine CallW.lent ?_; (conv => whnf); refine CallL.mk _ _ (fun _ => block5_S _ (by first | omega | (simp only [Int.toNat_natCast, Int.reduceToNat]; omega))) rfl (fun _ _ h => nomatch h) ?_) | (refine CallW.lent ?_; (conv => whnf); refine And.intro (by omega) ?_; (conv => whnf); refine CallL.mk _ _ (fun _ => block5_S _ (by first | omega | (simp only [Int.toNat_natCast, Int.reduceToNat]; omega))) rfl (fun _ _ h => nomatch h) ?_)); conv => whnf) | exact ⟨_, .keep rfl rfl⟩ | fail
            exact ⟨_, .keep (by rw [behT, if_neg hC, if_neg hA, if_neg hD, if_neg (by omega), if_pos hE]; rfl) rfl⟩
          · by_cases hF : x.op = 32
            · have q1 := g6 hF
              have q2 := t0 (by omega)
              have q3 := t1 (by omega)
              have q4 := blkT_len (n := x.to.getD 0 Enc.d) (by omega)
              have q5 := blkT_len (n := x.to.getD 1 Enc.d) (by omega)
              have q6 := o1 (by omega)
              refine ASpec.enter TYok mixed Tryd.func56 rfl Tryd.call56 Tryd.ntmps56 rfl (rs := [.tmp 4]) rfl (nodupB_ok rfl) (Clo.one rfl) (keep := [0, 1, 2, 3, 4, 5, 6, 7, 9]) ?_; conv => whnf
              repeat' first | (refine And.intro (fun (hb : _ = true) => ?_) (fun (hb : _ = false) => ?_) <;> (try simp only [pickB_or, pickB_and] at hb) <;> (have hc := hb; try simp only [Int.toNat_natCast, Int.reduceToNat, Bool.or_eq_false_iff, Bool.and_eq_false_iff, Bool.not_eq_false', decide_eq_true_eq, decide_eq_false_iff_not, Bool.not_eq_true', Bool.and_eq_true, Bool.or_eq_true] at hc) <;> first | (exfalso; omega) | conv => whnf) | (refine ⟨_, wr64 (by first | omega | (simp only [Int.toNat_natCast, Int.reduceToNat]; omega)) (by first | omega | (simp only [Int.toNat_natCast, Int.reduceToNat]; omega)), ?_⟩; conv => whnf) | (refine And.intro (by first | omega | (simp only [Int.toNat_natCast, Int.reduceToNat, addZ]; omega) | (simp only [ByteArray.size_append, size_mk, List.length_cons, List.length_nil, Int.toNat_natCast, Int.reduceToNat]; omega) | exact ⟨rfl, by omega⟩ | ((repeat' apply And.intro) <;> first | exact trivial | omega) | decide +kernel) ?_; conv => whnf) | (refine And.intro (fun (ht : tg _ _ = true) => by (simp only [tg_ite, tg_nil, cn, Nat.reduceMul, Nat.reduceAdd, Nat.reduceEqDiff, ↓reduceIte, pickB_or, pickB_and, Bool.and_eq_true, Bool.or_eq_true, Bool.or_eq_false_iff, Bool.and_eq_false_iff, Bool.not_eq_true', Bool.not_eq_false', decide_eq_true_eq, decide_eq_false_iff_not, Int.toNat_natCast, Int.reduceToNat, ne_eq] at ht ⊢; first | omega | (simp only [Int.toNat_natCast, Int.reduceToNat]; omega))) ?_; conv => whnf) | (refine ⟨_, shl1 (by omega), ?_⟩; conv => whnf) | (refine ⟨_, wru64 (by first | omega | (simp only [Int.toNat_natCast, Int.reduceToNat]; omega)) (by first | omega | (simp only [Int.toNat_natCast, Int.reduceToNat]; omega)), ?_⟩; conv => whnf) | (refine ⟨_, fun _ => (IntKind.wrap_u64 _).symm, ?_⟩; conv => whnf) | ((first | refine CallK.mk _ _ (fun _ => block5_S _ (by first | omega | (simp only [Int.toNat_natCast, Int.reduceToNat]; omega))) ?_ | refine CallL.mk _ _ (fun _ => block5_S _ (by first | omega | (simp only [Int.toNat_natCast, Int.reduceToNat]; omega))) rfl (fun _ _ h => nomatch h) ?_ | (refine CallW.lent ?_; (conv => whnf); refine CallL.mk _ _ (fun _ => block5_S _ (by first | omega | (simp only [Int.toNat_natCast, Int.reduceToNat]; omega))) rfl (fun _ _ h => nomatch h) ?_) | (refine CallW.lent ?_; (conv => whnf); refine And.intro (by omega) ?_; (conv => whnf); refine CallL.mk _ _ (fun _ => block5_S _ (by first | omega | (simp only [Int.toNat_natCast, Int.reduceToNat]; omega))) rfl (fun _ _ h => nomatch h) ?_)); conv => whnf) | ((first | refine CallK.mk _ _ (fun _ => value5_S m (x.args.getD 0 Enc.d) (o0 (by omega)) hm) ?_ | refine CallL.mk _ _ (fun _ => value5_S m (x.args.getD 0 Enc.d) (o0 (by omega)) hm) rfl (fun _ _ h => nomatch h) ?_ | (refine CallW.lent ?_; (conv => whnf); refine CallL.mk _ _ (fun _ => value5_S m (x.args.getD 0 Enc.d) (o0 (by omega)) hm) rfl (fun _ _ h => nomatch h) ?_) | (refine CallW.lent ?_; (conv => whnf); refine And.intro (by omega) ?_; (conv => whnf); refine CallL.mk _ _ (fun _ => value5_S m (x.args.getD 0 Enc.d) (o0 (by omega)) hm) rfl (fun _ _ h => nomatch h) ?_)); conv => whnf) | exact ⟨_, .keep rfl rfl⟩ | fail
              all_goals exact ⟨_, .keep (by rw [behT, if_neg hC, if_neg hA, if_neg hD, if_neg (by omega), if_neg hE, if_pos hF]; rfl) rfl⟩
            · have hG : x.op = 34 := by omega
              refine ASpec.enter TYok mixed Tryd.func56 rfl Tryd.call56 Tryd.ntmps56 rfl (rs := [.tmp 4]) rfl (nodupB_ok rfl) (Clo.one rfl) (keep := [0, 1, 2, 3, 4, 5, 6, 7, 9]) ?_; conv => whnf
              repeat' first | (refine And.intro (fun (hb : _ = true) => ?_) (fun (hb : _ = false) => ?_) <;> (try simp only [pickB_or, pickB_and] at hb) <;> (have hc := hb; try simp only [Int.toNat_natCast, Int.reduceToNat, Bool.or_eq_false_iff, Bool.and_eq_false_iff, Bool.not_eq_false', decide_eq_true_eq, decide_eq_false_iff_not, Bool.not_eq_true', Bool.and_eq_true, Bool.or_eq_true] at hc) <;> first | (exfalso; omega) | conv => whnf) | (refine ⟨_, wr64 (by first | omega | (simp only [Int.toNat_natCast, Int.reduceToNat]; omega)) (by first | omega | (simp only [Int.toNat_natCast, Int.reduceToNat]; omega)), ?_⟩; conv => whnf) | (refine And.intro (by first | omega | (simp only [Int.toNat_natCast, Int.reduceToNat, addZ]; omega) | (simp only [ByteArray.size_append, size_mk, List.length_cons, List.length_nil, Int.toNat_natCast, Int.reduceToNat]; omega) | exact ⟨rfl, by omega⟩ | ((repeat' apply And.intro) <;> first | exact trivial | omega) | decide +kernel) ?_; conv => whnf) | (refine And.intro (fun (ht : tg _ _ = true) => by (simp only [tg_ite, tg_nil, cn, Nat.reduceMul, Nat.reduceAdd, Nat.reduceEqDiff, ↓reduceIte, pickB_or, pickB_and, Bool.and_eq_true, Bool.or_eq_true, Bool.or_eq_false_iff, Bool.and_eq_false_iff, Bool.not_eq_true', Bool.not_eq_false', decide_eq_true_eq, decide_eq_false_iff_not, Int.toNat_natCast, Int.reduceToNat, ne_eq] at ht ⊢; first | omega | (simp only [Int.toNat_natCast, Int.reduceToNat]; omega))) ?_; conv => whnf) | (refine ⟨_, shl1 (by omega), ?_⟩; conv => whnf) | (refine ⟨_, wru64 (by first | omega | (simp only [Int.toNat_natCast, Int.reduceToNat]; omega)) (by first | omega | (simp only [Int.toNat_natCast, Int.reduceToNat]; omega)), ?_⟩; conv => whnf) | (refine ⟨_, fun _ => (IntKind.wrap_u64 _).symm, ?_⟩; conv => whnf) | exact ⟨_, .keep rfl rfl⟩ | fail
              exact ⟨_, .keep (by rw [behT, if_neg hC, if_neg hA, if_neg hD, if_neg (by omega), if_neg hE, if_neg hF, if_pos hG]) rfl⟩
    · have v1 := vals_le (m := m) hB
      have n1 : (m.funcs.getD x.n.toNat Enc.d).name.size ≤ siz m ∨ x.n < 0 := by
        rcases Int.lt_or_le x.n 0 with q | q
        · exact .inr q
        · have := calT_len m x.n; unfold calT at this; rw [if_pos q] at this; exact .inl this
      have n2 : (m.exts.getD (-1 - x.n).toNat Enc.d).name.size ≤ siz m ∨ 0 ≤ x.n := by
        rcases Int.lt_or_le x.n 0 with q | q
        · have := calT_len m x.n; unfold calT at this; rw [if_neg (by omega)] at this; exact .inl this
        · exact .inr q
      by_cases hC : x.op = 30
      · have q1 := g9 hC
        have q2 := len_siz m.exts
        have q3 : siz m = siz m.vars + siz m.exts + siz m.funcs := rfl
        refine ASpec.enter TYok mixed Tryd.func56 rfl Tryd.call56 Tryd.ntmps56 rfl (rs := [.tmp 4]) rfl (nodupB_ok rfl) (Clo.one rfl) (keep := [0, 1, 2, 3, 4, 5, 6, 7, 9]) ?_; conv => whnf
        repeat' first | (refine And.intro (fun (hb : _ = true) => ?_) (fun (hb : _ = false) => ?_) <;> (try simp only [pickB_or, pickB_and] at hb) <;> (have hc := hb; try simp only [Int.toNat_natCast, Int.reduceToNat, Bool.or_eq_false_iff, Bool.and_eq_false_iff, Bool.not_eq_false', decide_eq_true_eq, decide_eq_false_iff_not, Bool.not_eq_true', Bool.and_eq_true, Bool.or_eq_true] at hc) <;> first | (exfalso; omega) | conv => whnf) | (refine ⟨_, wr64 (by first | omega | (simp only [Int.toNat_natCast, Int.reduceToNat]; omega)) (by first | omega | (simp only [Int.toNat_natCast, Int.reduceToNat]; omega)), ?_⟩; conv => whnf) | (refine And.intro (by first | omega | (simp only [Int.toNat_natCast, Int.reduceToNat, addZ]; omega) | (simp only [ByteArray.size_append, size_mk, List.length_cons, List.length_nil, Int.toNat_natCast, Int.reduceToNat]; omega) | exact ⟨rfl, by omega⟩ | ((repeat' apply And.intro) <;> first | exact trivial | omega) | decide +kernel) ?_; conv => whnf) | (refine And.intro (fun (ht : tg _ _ = true) => by (simp only [tg_ite, tg_nil, cn, Nat.reduceMul, Nat.reduceAdd, Nat.reduceEqDiff, ↓reduceIte, pickB_or, pickB_and, Bool.and_eq_true, Bool.or_eq_true, Bool.or_eq_false_iff, Bool.and_eq_false_iff, Bool.not_eq_true', Bool.not_eq_false', decide_eq_true_eq, decide_eq_false_iff_not, Int.toNat_natCast, Int.reduceToNat, ne_eq] at ht ⊢; first | omega | (simp only [Int.toNat_natCast, Int.reduceToNat]; omega))) ?_; conv => whnf) | (refine ⟨_, shl1 (by omega), ?_⟩; conv => whnf) | (refine ⟨_, wru64 (by first | omega | (simp only [Int.toNat_natCast, Int.reduceToNat]; omega)) (by first | omega | (simp only [Int.toNat_natCast, Int.reduceToNat]; omega)), ?_⟩; conv => whnf) | (refine ⟨_, fun _ => (IntKind.wrap_u64 _).symm, ?_⟩; conv => whnf) | ((first | refine CallK.mk _ _ (fun _ => Type5_S _) ?_ | refine CallL.mk _ _ (fun _ => Type5_S _) rfl (fun _ _ h => nomatch h) ?_ | (refine CallW.lent ?_; (conv => whnf); refine CallL.mk _ _ (fun _ => Type5_S _) rfl (fun _ _ h => nomatch h) ?_) | (refine CallW.lent ?_; (conv => whnf); refine And.intro (by omega) ?_; (conv => whnf); refine CallL.mk _ _ (fun _ => Type5_S _) rfl (fun _ _ h => nomatch h) ?_)); conv => whnf) | ((first | refine CallK.mk _ _ (fun _ => values5_S m x.args g2 hm (by omega) (by omega)) ?_ | refine CallL.mk _ _ (fun _ => values5_S m x.args g2 hm (by omega) (by omega)) rfl (fun _ _ h => nomatch h) ?_ | (refine CallW.lent ?_; (conv => whnf); refine CallL.mk _ _ (fun _ => values5_S m x.args g2 hm (by omega) (by omega)) rfl (fun _ _ h => nomatch h) ?_) | (refine CallW.lent ?_; (conv => whnf); refine And.intro (by omega) ?_; (conv => whnf); refine CallL.mk _ _ (fun _ => values5_S m x.args g2 hm (by omega) (by omega)) rfl (fun _ _ h => nomatch h) ?_)); conv => whnf) | exact ⟨_, .keep rfl rfl⟩ | fail
        · exact ⟨_, .keep (by rw [behT, if_neg (by omega), if_neg hA, if_neg (by omega), if_neg (by omega), if_neg (by omega), if_neg (by omega), if_neg (by omega), if_pos hC, calT, if_pos (by omega)]) rfl⟩
        · exact ⟨_, .keep (by rw [behT, if_neg (by omega), if_neg hA, if_neg (by omega), if_neg (by omega), if_neg (by omega), if_neg (by omega), if_neg (by omega), if_pos hC, calT, if_neg (by omega)]) rfl⟩
      · have q1 := g10
        refine ASpec.enter TYok mixed Tryd.func56 rfl Tryd.call56 Tryd.ntmps56 rfl (rs := [.tmp 4]) rfl (nodupB_ok rfl) (Clo.one rfl) (keep := [0, 1, 2, 3, 4, 5, 6, 7, 9]) ?_; conv => whnf
        repeat' first | (refine And.intro (fun (hb : _ = true) => ?_) (fun (hb : _ = false) => ?_) <;> (try simp only [pickB_or, pickB_and] at hb) <;> (have hc := hb; try simp only [Int.toNat_natCast, Int.reduceToNat, Bool.or_eq_false_iff, Bool.and_eq_false_iff, Bool.not_eq_false', decide_eq_true_eq, decide_eq_false_iff_not, Bool.not_eq_true', Bool.and_eq_true, Bool.or_eq_true] at hc) <;> first | (exfalso; omega) | conv => whnf) | (refine ⟨_, wr64 (by first | omega | (simp only [Int.toNat_natCast, Int.reduceToNat]; omega)) (by first | omega | (simp only [Int.toNat_natCast, Int.reduceToNat]; omega)), ?_⟩; conv => whnf) | (refine And.intro (by first | omega | (simp only [Int.toNat_natCast, Int.reduceToNat, addZ]; omega) | (simp only [ByteArray.size_append, size_mk, List.length_cons, List.length_nil, Int.toNat_natCast, Int.reduceToNat]; omega) | exact ⟨rfl, by omega⟩ | ((repeat' apply And.intro) <;> first | exact trivial | omega) | decide +kernel) ?_; conv => whnf) | (refine And.intro (fun (ht : tg _ _ = true) => by (simp only [tg_ite, tg_nil, cn, Nat.reduceMul, Nat.reduceAdd, Nat.reduceEqDiff, ↓reduceIte, pickB_or, pickB_and, Bool.and_eq_true, Bool.or_eq_true, Bool.or_eq_false_iff, Bool.and_eq_false_iff, Bool.not_eq_true', Bool.not_eq_false', decide_eq_true_eq, decide_eq_false_iff_not, Int.toNat_natCast, Int.reduceToNat, ne_eq] at ht ⊢; first | omega | (simp only [Int.toNat_natCast, Int.reduceToNat]; omega))) ?_; conv => whnf) | (refine ⟨_, shl1 (by omega), ?_⟩; conv => whnf) | (refine ⟨_, wru64 (by first | omega | (simp only [Int.toNat_natCast, Int.reduceToNat]; omega)) (by first | omega | (simp only [Int.toNat_natCast, Int.reduceToNat]; omega)), ?_⟩; conv => whnf) | (refine ⟨_, fun _ => (IntKind.wrap_u64 _).symm, ?_⟩; conv => whnf) | ((first | refine CallK.mk _ _ (fun _ => Type5_S _) ?_ | refine CallL.mk _ _ (fun _ => Type5_S _) rfl (fun _ _ h => nomatch h) ?_ | (refine CallW.lent ?_; (conv => whnf); refine CallL.mk _ _ (fun _ => Type5_S _) rfl (fun _ _ h => nomatch h) ?_) | (refine CallW.lent ?_; (conv => whnf); refine And.intro (by omega) ?_; (conv => whnf); refine CallL.mk _ _ (fun _ => Type5_S _) rfl (fun _ _ h => nomatch h) ?_)); conv => whnf) | ((first | refine CallK.mk _ _ (fun _ => values5_S m x.args g2 hm (by omega) (by omega)) ?_ | refine CallL.mk _ _ (fun _ => values5_S m x.args g2 hm (by omega) (by omega)) rfl (fun _ _ h => nomatch h) ?_ | (refine CallW.lent ?_; (conv => whnf); refine CallL.mk _ _ (fun _ => values5_S m x.args g2 hm (by omega) (by omega)) rfl (fun _ _ h => nomatch h) ?_) | (refine CallW.lent ?_; (conv => whnf); refine And.intro (by omega) ?_; (conv => whnf); refine CallL.mk _ _ (fun _ => values5_S m x.args g2 hm (by omega) (by omega)) rfl (fun _ _ h => nomatch h) ?_)); conv => whnf) | exact ⟨_, .keep rfl rfl⟩ | fail
        all_goals first | exact ⟨_, .keep (by (try simp only [pickB_or, pickB_and]); unfold behT; repeat' (first | rfl | omega | split | (simp_all; done))) rfl⟩ | trace_state
def flT (x : InsE) (s : ByteArray) : ByteArray :=
  let s1 := if x.f.tmod 2 = 1 then s ++ (⟨#[32, 110, 115, 119]⟩ : ByteArray) else s
  let s2 := if (x.f.tdiv 2).tmod 2 = 1 then s1 ++ (⟨#[32, 110, 117, 119]⟩ : ByteArray) else s1
  if x.f.tdiv 4 = 1 then s2 ++ (⟨#[32, 101, 120, 97, 99, 116]⟩ : ByteArray) else s2
def insT (m : ModE) (x : InsE) : ByteArray :=
  flT x ((if 0 ≤ x.reg then ((⟨#[37]⟩ : ByteArray) ++ dec x.reg.toNat) ++ (⟨#[32, 61, 32]⟩ : ByteArray) else ⟨#[]⟩) ++ opNames.getD x.op.toNat Enc.d) ++ behT m x
theorem opn_len (n : Nat) : (opNames.getD n Enc.d).size ≤ 6 := by
  have h : ∀ i, i < 35 → (opNames.getD i Enc.d).size ≤ 6 := by decide +kernel
  rcases Nat.lt_or_ge n 35 with q | q
  · exact h n q
  · rw [List.getD_eq_getElem?_getD, List.getElem?_eq_none q]; exact Nat.zero_le _
theorem flT_len (x : InsE) (s : ByteArray) : s.size ≤ (flT x s).size ∧ (flT x s).size ≤ s.size + 14 := by
  unfold flT
  simp only
  repeat' split
  all_goals (try simp only [ByteArray.size_append, size_mk, List.length_cons, List.length_nil])
  all_goals omega
theorem Instr5_S (m : ModE) (x : InsE) (h : InsOk m x) (hm : siz m < 4294967296) (hx : siz x < 4294967296) (hs : (behT m x).size ≤ 70368744177664) : ASpec Tryd.prog 33 [eS m, eS x] (.s (insT m x)) [] := by
  have g1 := h.op
  have g2 := h.reg
  have g6 := h.fl
  have f1 : x.f.tdiv 2 = x.f / 2 := Int.tdiv_eq_ediv_of_nonneg g6.1
  have f2 : x.f.tdiv 4 = x.f / 4 := Int.tdiv_eq_ediv_of_nonneg g6.1
  have g3 := opn_len x.op.toNat
  have g4 : 0 ≤ x.reg → (dec x.reg.toNat).size ≤ 20 := fun h => dec_len _ (by omega)
  rcases Int.lt_or_le x.reg 0 with q | q
  · refine ASpec.enter TYok mixed Tryd.func33 rfl Tryd.call33 Tryd.ntmps33 rfl (rs := [.tmp 4]) rfl (nodupB_ok rfl) (Clo.one rfl) (keep := [0, 1, 2, 3, 4, 5]) ?_; conv => whnf
    repeat' first | (refine And.intro (fun (hb : _ = true) => ?_) (fun (hb : _ = false) => ?_) <;> (try simp only [pickB_or, pickB_and] at hb) <;> (have hc := hb; try simp only [Int.toNat_natCast, Int.reduceToNat, Bool.or_eq_false_iff, Bool.and_eq_false_iff, Bool.not_eq_false', decide_eq_true_eq, decide_eq_false_iff_not, Bool.not_eq_true', Bool.and_eq_true, Bool.or_eq_true] at hc) <;> first | (exfalso; omega) | conv => whnf) | (refine ⟨_, wr64 (by first | omega | (simp only [Int.toNat_natCast, Int.reduceToNat]; omega)) (by first | omega | (simp only [Int.toNat_natCast, Int.reduceToNat]; omega)), ?_⟩; conv => whnf) | (refine And.intro (by first | omega | (simp only [Int.toNat_natCast, Int.reduceToNat, addZ]; omega) | (simp only [ByteArray.size_append, size_mk, List.length_cons, List.length_nil, Int.toNat_natCast, Int.reduceToNat]; omega) | exact ⟨rfl, by omega⟩ | ((repeat' apply And.intro) <;> first | exact trivial | omega) | decide +kernel) ?_; conv => whnf) | (refine And.intro (fun (ht : tg _ _ = true) => by (simp only [tg_ite, tg_nil, cn, Nat.reduceMul, Nat.reduceAdd, Nat.reduceEqDiff, ↓reduceIte, pickB_or, pickB_and, Bool.and_eq_true, Bool.or_eq_true, Bool.or_eq_false_iff, Bool.and_eq_false_iff, Bool.not_eq_true', Bool.not_eq_false', decide_eq_true_eq, decide_eq_false_iff_not, Int.toNat_natCast, Int.reduceToNat, ne_eq] at ht ⊢; first | omega | (simp only [Int.toNat_natCast, Int.reduceToNat]; omega))) ?_; conv => whnf) | (refine ⟨_, shl1 (by omega), ?_⟩; conv => whnf) | (refine ⟨_, wru64 (by first | omega | (simp only [Int.toNat_natCast, Int.reduceToNat]; omega)) (by first | omega | (simp only [Int.toNat_natCast, Int.reduceToNat]; omega)), ?_⟩; conv => whnf) | (refine ⟨_, fun _ => (IntKind.wrap_u64 _).symm, ?_⟩; conv => whnf) | ((first | refine CallK.mk _ _ (fun _ => Name4_S _ (by omega)) ?_ | refine CallL.mk _ _ (fun _ => Name4_S _ (by omega)) rfl (fun _ _ h => nomatch h) ?_ | (refine CallW.lent ?_; (conv => whnf); refine CallL.mk _ _ (fun _ => Name4_S _ (by omega)) rfl (fun _ _ h => nomatch h) ?_) | (refine CallW.lent ?_; (conv => whnf); refine And.intro (by omega) ?_; (conv => whnf); refine CallL.mk _ _ (fun _ => Name4_S _ (by omega)) rfl (fun _ _ h => nomatch h) ?_)); conv => whnf) | ((first | refine CallK.mk _ _ (fun _ => behind5_S m x h hm hx hs) ?_ | refine CallL.mk _ _ (fun _ => behind5_S m x h hm hx hs) rfl (fun _ _ h => nomatch h) ?_ | (refine CallW.lent ?_; (conv => whnf); refine CallL.mk _ _ (fun _ => behind5_S m x h hm hx hs) rfl (fun _ _ h => nomatch h) ?_) | (refine CallW.lent ?_; (conv => whnf); refine And.intro (by omega) ?_; (conv => whnf); refine CallL.mk _ _ (fun _ => behind5_S m x h hm hx hs) rfl (fun _ _ h => nomatch h) ?_)); conv => whnf) | exact ⟨_, .keep rfl rfl⟩ | fail
    all_goals clear f1 f2
    all_goals exact ⟨_, .keep (by unfold insT flT; simp only [if_neg (show ¬ 0 ≤ x.reg by omega), *, if_true, if_false]) rfl⟩
  · have g5 := g4 q
    refine ASpec.enter TYok mixed Tryd.func33 rfl Tryd.call33 Tryd.ntmps33 rfl (rs := [.tmp 4]) rfl (nodupB_ok rfl) (Clo.one rfl) (keep := [0, 1, 2, 3, 4, 5]) ?_; conv => whnf
    repeat' first | (refine And.intro (fun (hb : _ = true) => ?_) (fun (hb : _ = false) => ?_) <;> (try simp only [pickB_or, pickB_and] at hb) <;> (have hc := hb; try simp only [Int.toNat_natCast, Int.reduceToNat, Bool.or_eq_false_iff, Bool.and_eq_false_iff, Bool.not_eq_false', decide_eq_true_eq, decide_eq_false_iff_not, Bool.not_eq_true', Bool.and_eq_true, Bool.or_eq_true] at hc) <;> first | (exfalso; omega) | conv => whnf) | (refine ⟨_, wr64 (by first | omega | (simp only [Int.toNat_natCast, Int.reduceToNat]; omega)) (by first | omega | (simp only [Int.toNat_natCast, Int.reduceToNat]; omega)), ?_⟩; conv => whnf) | (refine And.intro (by first | omega | (simp only [Int.toNat_natCast, Int.reduceToNat, addZ]; omega) | (simp only [ByteArray.size_append, size_mk, List.length_cons, List.length_nil, Int.toNat_natCast, Int.reduceToNat]; omega) | exact ⟨rfl, by omega⟩ | ((repeat' apply And.intro) <;> first | exact trivial | omega) | decide +kernel) ?_; conv => whnf) | (refine And.intro (fun (ht : tg _ _ = true) => by (simp only [tg_ite, tg_nil, cn, Nat.reduceMul, Nat.reduceAdd, Nat.reduceEqDiff, ↓reduceIte, pickB_or, pickB_and, Bool.and_eq_true, Bool.or_eq_true, Bool.or_eq_false_iff, Bool.and_eq_false_iff, Bool.not_eq_true', Bool.not_eq_false', decide_eq_true_eq, decide_eq_false_iff_not, Int.toNat_natCast, Int.reduceToNat, ne_eq] at ht ⊢; first | omega | (simp only [Int.toNat_natCast, Int.reduceToNat]; omega))) ?_; conv => whnf) | (refine ⟨_, shl1 (by omega), ?_⟩; conv => whnf) | (refine ⟨_, wru64 (by first | omega | (simp only [Int.toNat_natCast, Int.reduceToNat]; omega)) (by first | omega | (simp only [Int.toNat_natCast, Int.reduceToNat]; omega)), ?_⟩; conv => whnf) | (refine ⟨_, fun _ => (IntKind.wrap_u64 _).symm, ?_⟩; conv => whnf) | ((first | refine CallK.mk _ _ (fun _ => Name4_S _ (by omega)) ?_ | refine CallL.mk _ _ (fun _ => Name4_S _ (by omega)) rfl (fun _ _ h => nomatch h) ?_ | (refine CallW.lent ?_; (conv => whnf); refine CallL.mk _ _ (fun _ => Name4_S _ (by omega)) rfl (fun _ _ h => nomatch h) ?_) | (refine CallW.lent ?_; (conv => whnf); refine And.intro (by omega) ?_; (conv => whnf); refine CallL.mk _ _ (fun _ => Name4_S _ (by omega)) rfl (fun _ _ h => nomatch h) ?_)); conv => whnf) | ((first | refine CallK.mk _ _ (fun _ => behind5_S m x h hm hx hs) ?_ | refine CallL.mk _ _ (fun _ => behind5_S m x h hm hx hs) rfl (fun _ _ h => nomatch h) ?_ | (refine CallW.lent ?_; (conv => whnf); refine CallL.mk _ _ (fun _ => behind5_S m x h hm hx hs) rfl (fun _ _ h => nomatch h) ?_) | (refine CallW.lent ?_; (conv => whnf); refine And.intro (by omega) ?_; (conv => whnf); refine CallL.mk _ _ (fun _ => behind5_S m x h hm hx hs) rfl (fun _ _ h => nomatch h) ?_)); conv => whnf) | ((first | refine CallK.mk _ _ (fun _ => DigitsI_S _ (by omega)) ?_ | refine CallL.mk _ _ (fun _ => DigitsI_S _ (by omega)) rfl (fun _ _ h => nomatch h) ?_ | (refine CallW.lent ?_; (conv => whnf); refine CallL.mk _ _ (fun _ => DigitsI_S _ (by omega)) rfl (fun _ _ h => nomatch h) ?_) | (refine CallW.lent ?_; (conv => whnf); refine And.intro (by omega) ?_; (conv => whnf); refine CallL.mk _ _ (fun _ => DigitsI_S _ (by omega)) rfl (fun _ _ h => nomatch h) ?_)); conv => whnf) | exact ⟨_, .keep rfl rfl⟩ | fail
    all_goals clear f1 f2
    all_goals exact ⟨_, .keep (by unfold insT flT; simp only [if_pos q, *, if_true, if_false]) rfl⟩
/-- A module whose numbers lie within their kinds. -/
structure ModR (m : ModE) : Prop where
  n : insN m
  b : ∀ i b k j : Nat, 0 ≤ ((((m.funcs.getD i Enc.d).blocks.getD b Enc.d).code.getD k Enc.d).args.getD j Enc.d).b ∧ ((((m.funcs.getD i Enc.d).blocks.getD b Enc.d).code.getD k Enc.d).args.getD j Enc.d).b < 18446744073709551616
  s : ∀ i : Nat, (m.vars.getD i Enc.d).size < 9223372036854775808
theorem InsOk.of {m : ModE} {x : InsE} (h : instr5 m x = true) (hb : ∀ j, 0 ≤ (x.args.getD j Enc.d).b ∧ (x.args.getD j Enc.d).b < 18446744073709551616) (hn : x.n ≤ 9223372036854775807) : InsOk m x := by
  unfold instr5 bad5 shape5 at h
  simp only [Bool.and_eq_true, Bool.not_eq_true', Bool.or_eq_false_iff, decide_eq_true_eq, decide_eq_false_iff_not, Bool.not_eq_false', Bool.and_eq_false_iff] at h
  obtain ⟨⟨⟨⟨⟨⟨⟨⟨c1, c2⟩, c3⟩, c4⟩, c5⟩, c6⟩, c7⟩, c8⟩, c9, c10⟩ := h
  have a1 : ∀ i, i < x.args.length → operand5 m (x.args.getD i Enc.d) = true := fun i hi => by
    rw [List.all_eq_true] at c10
    exact c10 _ (by rw [List.getD_eq_getElem?_getD, List.getElem?_eq_getElem hi]; exact List.getElem_mem hi)
  have a2 : ∀ i, i < x.to.length → 0 ≤ x.to.getD i Enc.d ∧ x.to.getD i Enc.d ≤ 999 := fun i hi => by
    rw [List.all_eq_true] at c9
    exact inR_iff.1 (c9 _ (by rw [List.getD_eq_getElem?_getD, List.getElem?_eq_getElem hi]; exact List.getElem_mem hi))
  unfold countsF at c1 c2
  have op : 1 ≤ x.op ∧ x.op ≤ 34 := by
    refine Decidable.byContradiction fun hne => ?_
    rw [if_neg (by omega), if_neg (by omega), if_neg (by omega), if_neg (by omega), if_neg (by omega), if_neg (by omega), if_neg (by omega), if_neg (by omega), if_neg (by omega), if_neg (by omega)] at c1
    simp only at c1; omega
  refine ⟨op, fun i hi => ⟨a1 i hi, hb i⟩, a2, fun e => ?_, fun e => ?_, fun e => ?_, fun e => ?_, fun e => ?_, fun e => ?_, ?_, ⟨by omega, by omega⟩, hn, ?_, fun e => ?_⟩
  · rw [if_pos (by omega)] at c1; simp only at c1; omega
  · rw [if_neg (by omega), if_neg (by omega), if_neg (by omega), if_neg (by omega), if_neg (by omega), if_neg (by omega), if_pos e] at c2; simp only at c2; omega
  · rw [if_neg (by omega), if_neg (by omega), if_neg (by omega), if_neg (by omega), if_neg (by omega), if_neg (by omega), if_neg (by omega), if_pos e] at c1 c2; simp only at c1 c2; omega
  · rw [if_neg (by omega), if_neg (by omega), if_pos e] at c1 c2; simp only at c1 c2; omega
  · unfold numbered5 at c4; rw [if_neg (by omega), if_pos e] at c4; simpa using c4
  · unfold typed5 at c3
    rw [if_neg (by omega), if_neg (by omega), if_neg (by omega), if_pos e] at c3
    simp only [Bool.and_eq_true] at c3
    have := c3.1.1
    unfold Callee at this
    split at this
    · rename_i q; exact .inl q
    · split at this
      · rename_i q; exact .inr q
      · cases this
  · unfold register5 at c5
    split at c5
    · simp only [Bool.or_eq_true, decide_eq_true_eq, inR_iff] at c5; omega
    · split at c5
      · have := inR_iff.1 c5; omega
      · simp only [decide_eq_true_eq] at c5; omega
  · unfold typed5 at c3
    split at c3
    · simp only [decide_eq_true_eq] at c3; omega
    · split at c3
      · simp only [decide_eq_true_eq] at c3; omega
      · split at c3
        · simp only [Bool.and_eq_true] at c3; exact inR_iff.1 c3.1
        · split at c3
          · simp only [Bool.and_eq_true] at c3; exact inR_iff.1 c3.2
          · exact inR_iff.1 c3
  · unfold numbered5 at c4; rw [if_pos e] at c4; exact inR_iff.1 c4
end Go.Proofs.YtilhkmlghhdpaaaDoor

/- Layer 5: the text of a module; the reference's. -/
namespace Go.Proofs.YtilhkmlghhdpaaaDoor
open Go.RowKit
set_option linter.unusedVariables false
set_option linter.unusedSimpArgs false
set_option maxRecDepth 100000
set_option maxHeartbeats 4000000
theorem app_nil (a : ByteArray) : a ++ (⟨#[]⟩ : ByteArray) = a := ByteArray.append_empty
/-- So many texts, one behind the other. -/
def preT (g : Nat → ByteArray) : Nat → ByteArray
  | 0 => ⟨#[]⟩
  | q + 1 => preT g q ++ g q
theorem preT_step {g : Nat → ByteArray} {q : Nat} : (preT g (q + 1)).size = (preT g q).size + (g q).size := by rw [preT, ByteArray.size_append]
theorem preT_mono {g : Nat → ByteArray} {q : Nat} : ∀ {k : Nat}, q ≤ k → (preT g q).size ≤ (preT g k).size
  | 0, h => by rw [show q = 0 by omega]; exact Nat.le_refl _
  | k + 1, h => by
    rcases Nat.lt_or_ge q (k + 1) with h2 | h2
    · have := preT_mono (g := g) (q := q) (k := k) (by omega); rw [preT_step]; omega
    · rw [show q = k + 1 by omega]; exact Nat.le_refl _
theorem preT_in {g : Nat → ByteArray} {q k : Nat} (h : q < k) : (preT g q).size + (g q).size ≤ (preT g k).size := by
  rw [← preT_step]; exact preT_mono h
def varL (v : VarE) : ByteArray := ((((⟨#[103, 108, 111, 98, 97, 108, 32]⟩ : ByteArray) ++ v.name) ++ (⟨#[32]⟩ : ByteArray)) ++ dec v.size.toNat) ++ (⟨#[10]⟩ : ByteArray)
def extL (x : ExtE) : ByteArray := (⟨#[101, 120, 116, 101, 114, 110, 32]⟩ : ByteArray) ++ saidT x.name x.params x.ret
def insL (m : ModE) (x : InsE) : ByteArray := ((⟨#[32, 32]⟩ : ByteArray) ++ insT m x) ++ (⟨#[10]⟩ : ByteArray)
def cdT (m : ModE) (c : List InsE) : Nat → ByteArray := preT fun k => insL m (c.getD k Enc.d)
def bkT (m : ModE) (l : List BlkE) : Nat → ByteArray := preT fun b => (blkT b ++ (⟨#[58, 10]⟩ : ByteArray)) ++ cdT m (l.getD b Enc.d).code (l.getD b Enc.d).code.length
def hdL (f : FnE) : ByteArray := (⟨#[102, 117, 110, 99, 32]⟩ : ByteArray) ++ saidT f.name f.params f.ret
def fnL (m : ModE) (f : FnE) : ByteArray := (hdL f ++ bkT m f.blocks f.blocks.length) ++ (⟨#[101, 110, 100, 10]⟩ : ByteArray)
def varsT (m : ModE) : Nat → ByteArray := preT fun i => varL (m.vars.getD i Enc.d)
def extsT (m : ModE) : Nat → ByteArray := preT fun i => extL (m.exts.getD i Enc.d)
def fnsT (m : ModE) : Nat → ByteArray := preT fun i => fnL m (m.funcs.getD i Enc.d)
def textT (m : ModE) : ByteArray := (varsT m m.vars.length ++ extsT m m.exts.length) ++ fnsT m m.funcs.length
def text5 (m : ModE) : ByteArray := if say5 m = true then textT m else ⟨#[]⟩
theorem mem_Code2 {f : FnE} {b k : Nat} (hb : b < f.blocks.length) (hk : k < (f.blocks.getD b Enc.d).code.length) : (f.blocks.getD b Enc.d).code.getD k Enc.d ∈ (Code f).map Prod.fst := by
  simp only [Code, codeTo, pairs, List.range_zero, List.map_nil, List.append_nil, List.map_flatMap, List.mem_flatMap, List.mem_range, List.map_map, List.mem_map]
  exact ⟨b, hb, k, hk, rfl⟩
theorem say5_ins {m : ModE} (h : say5 m = true) {i b k : Nat} (hi : i < m.funcs.length) (hb : b < (m.funcs.getD i Enc.d).blocks.length) (hk : k < ((m.funcs.getD i Enc.d).blocks.getD b Enc.d).code.length) : instr5 m (((m.funcs.getD i Enc.d).blocks.getD b Enc.d).code.getD k Enc.d) = true := by
  unfold say5 at h
  simp only [Bool.and_eq_true, List.all_eq_true] at h
  have := h.2.2 (m.funcs.getD i Enc.d) (by rw [List.getD_eq_getElem?_getD, List.getElem?_eq_getElem hi]; exact List.getElem_mem hi)
  unfold fnB at this
  simp only [Bool.and_eq_true, List.all_eq_true] at this
  exact this.2 _ (mem_Code2 hb hk)
theorem say5_var {m : ModE} (h : say5 m = true) {i : Nat} (hi : i < m.vars.length) : 0 ≤ (m.vars.getD i Enc.d).size := by
  unfold say5 at h
  simp only [Bool.and_eq_true, List.all_eq_true] at h
  have := h.1 (m.vars.getD i Enc.d) (by rw [List.getD_eq_getElem?_getD, List.getElem?_eq_getElem hi]; exact List.getElem_mem hi)
  unfold varB at this
  simp only [Bool.not_eq_true', Bool.or_eq_false_iff, decide_eq_false_iff_not] at this
  omega
theorem insL_beh (m : ModE) (x : InsE) : (behT m x).size ≤ (insT m x).size ∧ (insL m x).size = (insT m x).size + 3 := by
  unfold insL insT
  simp only [ByteArray.size_append, size_mk, List.length_cons, List.length_nil]
  omega
theorem Text5_S (m : ModE) (hm : siz m < 4294967296) (hr : ModR m) (hs : (textT m).size ≤ 70368744177664) : ASpec Tryd.prog 11 [eS m] (.s (text5 m)) [] := by
  have h0 : siz m = siz m.vars + siz m.exts + siz m.funcs := rfl
  have g1 := len_siz m.vars
  have g2 := len_siz m.exts
  have g3 := len_siz m.funcs
  unfold textT at hs
  rw [ByteArray.size_append, ByteArray.size_append] at hs
  refine ASpec.enter TYok mixed Tryd.func11 rfl Tryd.call11 Tryd.ntmps11 rfl (rs := [.tmp 2]) rfl (nodupB_ok rfl) (Clo.one rfl) (keep := [0, 1, 2, 3, 4, 5, 6, 7, 8, 9, 10]) ?_; conv => whnf
  repeat' first | (refine And.intro (fun (hb : _ = true) => ?_) (fun (hb : _ = false) => ?_) <;> (try simp only [pickB_or, pickB_and] at hb) <;> (have hc := hb; try simp only [Int.toNat_natCast, Int.reduceToNat, Bool.or_eq_false_iff, Bool.and_eq_false_iff, Bool.not_eq_false', decide_eq_true_eq, decide_eq_false_iff_not, Bool.not_eq_true', Bool.and_eq_true, Bool.or_eq_true] at hc) <;> first | (exfalso; omega) | conv => whnf) | (refine ⟨_, wr64 (by first | omega | (simp only [Int.toNat_natCast, Int.reduceToNat]; omega)) (by first | omega | (simp only [Int.toNat_natCast, Int.reduceToNat]; omega)), ?_⟩; conv => whnf) | (refine And.intro (by first | omega | (simp only [Int.toNat_natCast, Int.reduceToNat, addZ]; omega) | (simp only [ByteArray.size_append, size_mk, List.length_cons, List.length_nil, Int.toNat_natCast, Int.reduceToNat]; omega) | exact ⟨rfl, by omega⟩ | ((repeat' apply And.intro) <;> first | exact trivial | omega) | decide +kernel) ?_; conv => whnf) | (refine And.intro (fun (ht : tg _ _ = true) => by (simp only [tg_ite, tg_nil, cn, Nat.reduceMul, Nat.reduceAdd, Nat.reduceEqDiff, ↓reduceIte, pickB_or, pickB_and, Bool.and_eq_true, Bool.or_eq_true, Bool.or_eq_false_iff, Bool.and_eq_false_iff, Bool.not_eq_true', Bool.not_eq_false', decide_eq_true_eq, decide_eq_false_iff_not, Int.toNat_natCast, Int.reduceToNat, ne_eq] at ht ⊢; first | omega | (simp only [Int.toNat_natCast, Int.reduceToNat]; omega))) ?_; conv => whnf) | (refine ⟨_, shl1 (by omega), ?_⟩; conv => whnf) | (refine ⟨_, wru64 (by first | omega | (simp only [Int.toNat_natCast, Int.reduceToNat]; omega)) (by first | omega | (simp only [Int.toNat_natCast, Int.reduceToNat]; omega)), ?_⟩; conv => whnf) | (refine ⟨_, fun _ => (IntKind.wrap_u64 _).symm, ?_⟩; conv => whnf) | ((first | refine CallK.mk _ _ (fun _ => Sayable5_S m hm hr.n) ?_ | refine CallL.mk _ _ (fun _ => Sayable5_S m hm hr.n) rfl (fun _ _ h => nomatch h) ?_ | (refine CallW.lent ?_; (conv => whnf); refine CallL.mk _ _ (fun _ => Sayable5_S m hm hr.n) rfl (fun _ _ h => nomatch h) ?_) | (refine CallW.lent ?_; (conv => whnf); refine And.intro (by omega) ?_; (conv => whnf); refine CallL.mk _ _ (fun _ => Sayable5_S m hm hr.n) rfl (fun _ _ h => nomatch h) ?_)); conv => whnf) | exact ⟨_, .keep rfl rfl⟩ | fail
  · exact ⟨_, .keep (by rw [text5, if_neg (by rw [nt hb]; exact Bool.false_ne_true)]) rfl⟩
  have hy := nf hb
  have ht : text5 m = textT m := by rw [text5, if_pos hy]
  rw [ht]
  refine lp [5, 4] (fun q : Nat => [.i .i64 q, .s (varsT m q)]) (fun q => [(1, bx m)]) (fun q => q ≤ m.vars.length) (fun q => m.vars.length - q) 0 (by omega) ?_ fun q hq => ?_
  · refine Ent.lp [] [] rfl rfl rfl ?_ ?_ <;> repeat' first | exact trivial | rfl | exact fun _ _ => rfl | omega | refine And.intro ?_ ?_ | (show (_ : Int) = _; first | omega | (simp only [Int.toNat_natCast]; omega))
  conv => whnf
  rcases Nat.lt_or_ge q m.vars.length with hlt | hge
  · have p1 : (varsT m q).size + (varL (m.vars.getD q Enc.d)).size ≤ (varsT m m.vars.length).size := preT_in hlt
    have p2 := say5_var hy hlt
    have p3 := hr.s q
    have p4 : (varL (m.vars.getD q Enc.d)).size = (m.vars.getD q Enc.d).name.size + (dec (m.vars.getD q Enc.d).size.toNat).size + 9 := by
      unfold varL; simp only [ByteArray.size_append, size_mk, List.length_cons, List.length_nil]; omega
    repeat' first | (refine And.intro (fun (hb : _ = true) => ?_) (fun (hb : _ = false) => ?_) <;> (try simp only [pickB_or, pickB_and] at hb) <;> (have hc := hb; try simp only [Int.toNat_natCast, Int.reduceToNat, Bool.or_eq_false_iff, Bool.and_eq_false_iff, Bool.not_eq_false', decide_eq_true_eq, decide_eq_false_iff_not, Bool.not_eq_true', Bool.and_eq_true, Bool.or_eq_true] at hc) <;> first | (exfalso; omega) | conv => whnf) | (refine ⟨_, wr64 (by first | omega | (simp only [Int.toNat_natCast, Int.reduceToNat]; omega)) (by first | omega | (simp only [Int.toNat_natCast, Int.reduceToNat]; omega)), ?_⟩; conv => whnf) | (refine And.intro (by first | omega | (simp only [Int.toNat_natCast, Int.reduceToNat, addZ]; omega) | (simp only [ByteArray.size_append, size_mk, List.length_cons, List.length_nil, Int.toNat_natCast, Int.reduceToNat]; omega) | exact ⟨rfl, by omega⟩ | ((repeat' apply And.intro) <;> first | exact trivial | omega) | decide +kernel) ?_; conv => whnf) | (refine And.intro (fun (ht : tg _ _ = true) => by (simp only [tg_ite, tg_nil, cn, Nat.reduceMul, Nat.reduceAdd, Nat.reduceEqDiff, ↓reduceIte, pickB_or, pickB_and, Bool.and_eq_true, Bool.or_eq_true, Bool.or_eq_false_iff, Bool.and_eq_false_iff, Bool.not_eq_true', Bool.not_eq_false', decide_eq_true_eq, decide_eq_false_iff_not, Int.toNat_natCast, Int.reduceToNat, ne_eq] at ht ⊢; first | omega | (simp only [Int.toNat_natCast, Int.reduceToNat]; omega))) ?_; conv => whnf) | (refine ⟨_, shl1 (by omega), ?_⟩; conv => whnf) | (refine ⟨_, wru64 (by first | omega | (simp only [Int.toNat_natCast, Int.reduceToNat]; omega)) (by first | omega | (simp only [Int.toNat_natCast, Int.reduceToNat]; omega)), ?_⟩; conv => whnf) | (refine ⟨_, fun _ => (IntKind.wrap_u64 _).symm, ?_⟩; conv => whnf) | ((first | refine CallK.mk _ _ (fun _ => DigitsI_S _ (by first | omega | (simp only [Int.toNat_natCast, Int.reduceToNat]; omega))) ?_ | refine CallL.mk _ _ (fun _ => DigitsI_S _ (by first | omega | (simp only [Int.toNat_natCast, Int.reduceToNat]; omega))) rfl (fun _ _ h => nomatch h) ?_ | (refine CallW.lent ?_; (conv => whnf); refine CallL.mk _ _ (fun _ => DigitsI_S _ (by first | omega | (simp only [Int.toNat_natCast, Int.reduceToNat]; omega))) rfl (fun _ _ h => nomatch h) ?_) | (refine CallW.lent ?_; (conv => whnf); refine And.intro (by omega) ?_; (conv => whnf); refine CallL.mk _ _ (fun _ => DigitsI_S _ (by first | omega | (simp only [Int.toNat_natCast, Int.reduceToNat]; omega))) rfl (fun _ _ h => nomatch h) ?_)); conv => whnf) | exact ⟨_, .keep rfl rfl⟩ | fail
    have e : varsT m (q + 1) = ((((varsT m q ++ (⟨#[103, 108, 111, 98, 97, 108, 32]⟩ : ByteArray)) ++ (m.vars.getD q Enc.d).name) ++ (⟨#[32]⟩ : ByteArray)) ++ dec (m.vars.getD q Enc.d).size.toNat) ++ (⟨#[10]⟩ : ByteArray) := by
      show varsT m q ++ varL (m.vars.getD q Enc.d) = _
      unfold varL; simp only [ByteArray.append_assoc]
    refine .mk (q + 1) (by omega) (by omega) ?_
    rw [e]
    refine Ent.lp [] [] rfl rfl rfl ?_ ?_ <;> repeat' first | exact trivial | rfl | exact fun _ _ => rfl | omega | refine And.intro ?_ ?_ | (show (_ : Int) = _; first | omega | (simp only [Int.toNat_natCast]; omega))
  obtain rfl : q = m.vars.length := by omega
  repeat' first | (refine And.intro (fun (hb : _ = true) => ?_) (fun (hb : _ = false) => ?_) <;> (try simp only [pickB_or, pickB_and] at hb) <;> (have hc := hb; try simp only [Int.toNat_natCast, Int.reduceToNat, Bool.or_eq_false_iff, Bool.and_eq_false_iff, Bool.not_eq_false', decide_eq_true_eq, decide_eq_false_iff_not, Bool.not_eq_true', Bool.and_eq_true, Bool.or_eq_true] at hc) <;> first | (exfalso; omega) | conv => whnf) | (refine ⟨_, wr64 (by first | omega | (simp only [Int.toNat_natCast, Int.reduceToNat]; omega)) (by first | omega | (simp only [Int.toNat_natCast, Int.reduceToNat]; omega)), ?_⟩; conv => whnf) | (refine And.intro (by first | omega | (simp only [Int.toNat_natCast, Int.reduceToNat, addZ]; omega) | (simp only [ByteArray.size_append, size_mk, List.length_cons, List.length_nil, Int.toNat_natCast, Int.reduceToNat]; omega) | exact ⟨rfl, by omega⟩ | ((repeat' apply And.intro) <;> first | exact trivial | omega) | decide +kernel) ?_; conv => whnf) | (refine And.intro (fun (ht : tg _ _ = true) => by (simp only [tg_ite, tg_nil, cn, Nat.reduceMul, Nat.reduceAdd, Nat.reduceEqDiff, ↓reduceIte, pickB_or, pickB_and, Bool.and_eq_true, Bool.or_eq_true, Bool.or_eq_false_iff, Bool.and_eq_false_iff, Bool.not_eq_true', Bool.not_eq_false', decide_eq_true_eq, decide_eq_false_iff_not, Int.toNat_natCast, Int.reduceToNat, ne_eq] at ht ⊢; first | omega | (simp only [Int.toNat_natCast, Int.reduceToNat]; omega))) ?_; conv => whnf) | (refine ⟨_, shl1 (by omega), ?_⟩; conv => whnf) | (refine ⟨_, wru64 (by first | omega | (simp only [Int.toNat_natCast, Int.reduceToNat]; omega)) (by first | omega | (simp only [Int.toNat_natCast, Int.reduceToNat]; omega)), ?_⟩; conv => whnf) | (refine ⟨_, fun _ => (IntKind.wrap_u64 _).symm, ?_⟩; conv => whnf) | exact ⟨_, .keep rfl rfl⟩ | fail
  let P1 := varsT m m.vars.length
  refine lp [6, 4] (fun q : Nat => [.i .i64 q, .s (P1 ++ extsT m q)]) (fun q => [(1, bx m)]) (fun q => q ≤ m.exts.length) (fun q => m.exts.length - q) 0 (by omega) ?_ fun k hk => ?_
  · refine Ent.lp [] [] rfl rfl rfl ?_ ?_ <;> repeat' first | exact trivial | rfl | exact fun _ _ => rfl | omega | refine And.intro ?_ ?_ | (show (_ : Int) = _; first | omega | (simp only [Int.toNat_natCast]; omega))
    exact (ByteArray.append_empty).symm
  conv => whnf
  rcases Nat.lt_or_ge k m.exts.length with hlt | hge
  · have p1 : (extsT m k).size + (extL (m.exts.getD k Enc.d)).size ≤ (extsT m m.exts.length).size := preT_in hlt
    have p2 : (extL (m.exts.getD k Enc.d)).size = 7 + (saidT (m.exts.getD k Enc.d).name (m.exts.getD k Enc.d).params (m.exts.getD k Enc.d).ret).size := by unfold extL; rw [ByteArray.size_append, size_mk]; rfl
    have p3 : P1.size = (varsT m m.vars.length).size := rfl
    have h4 : siz (m.exts.getD k Enc.d) ≤ siz m.exts := siz_at m.exts k
    have h5 : siz (m.exts.getD k Enc.d) = (m.exts.getD k Enc.d).name.size + siz (m.exts.getD k Enc.d).params := rfl
    have h6 := len_siz (m.exts.getD k Enc.d).params
    repeat' first | (refine And.intro (fun (hb : _ = true) => ?_) (fun (hb : _ = false) => ?_) <;> (try simp only [pickB_or, pickB_and] at hb) <;> (have hc := hb; try simp only [Int.toNat_natCast, Int.reduceToNat, Bool.or_eq_false_iff, Bool.and_eq_false_iff, Bool.not_eq_false', decide_eq_true_eq, decide_eq_false_iff_not, Bool.not_eq_true', Bool.and_eq_true, Bool.or_eq_true] at hc) <;> first | (exfalso; omega) | conv => whnf) | (refine ⟨_, wr64 (by first | omega | (simp only [Int.toNat_natCast, Int.reduceToNat]; omega)) (by first | omega | (simp only [Int.toNat_natCast, Int.reduceToNat]; omega)), ?_⟩; conv => whnf) | (refine And.intro (by first | omega | (simp only [Int.toNat_natCast, Int.reduceToNat, addZ]; omega) | (simp only [ByteArray.size_append, size_mk, List.length_cons, List.length_nil, Int.toNat_natCast, Int.reduceToNat]; omega) | exact ⟨rfl, by omega⟩ | ((repeat' apply And.intro) <;> first | exact trivial | omega) | decide +kernel) ?_; conv => whnf) | (refine And.intro (fun (ht : tg _ _ = true) => by (simp only [tg_ite, tg_nil, cn, Nat.reduceMul, Nat.reduceAdd, Nat.reduceEqDiff, ↓reduceIte, pickB_or, pickB_and, Bool.and_eq_true, Bool.or_eq_true, Bool.or_eq_false_iff, Bool.and_eq_false_iff, Bool.not_eq_true', Bool.not_eq_false', decide_eq_true_eq, decide_eq_false_iff_not, Int.toNat_natCast, Int.reduceToNat, ne_eq] at ht ⊢; first | omega | (simp only [Int.toNat_natCast, Int.reduceToNat]; omega))) ?_; conv => whnf) | (refine ⟨_, shl1 (by omega), ?_⟩; conv => whnf) | (refine ⟨_, wru64 (by first | omega | (simp only [Int.toNat_natCast, Int.reduceToNat]; omega)) (by first | omega | (simp only [Int.toNat_natCast, Int.reduceToNat]; omega)), ?_⟩; conv => whnf) | (refine ⟨_, fun _ => (IntKind.wrap_u64 _).symm, ?_⟩; conv => whnf) | ((first | refine CallK.mk _ _ (fun _ => said5_S _ _ _ (by first | omega | (simp only [Int.toNat_natCast, Int.reduceToNat]; omega)) (by first | omega | (simp only [Int.toNat_natCast, Int.reduceToNat]; omega))) ?_ | refine CallL.mk _ _ (fun _ => said5_S _ _ _ (by first | omega | (simp only [Int.toNat_natCast, Int.reduceToNat]; omega)) (by first | omega | (simp only [Int.toNat_natCast, Int.reduceToNat]; omega))) rfl (fun _ _ h => nomatch h) ?_ | (refine CallW.lent ?_; (conv => whnf); refine CallL.mk _ _ (fun _ => said5_S _ _ _ (by first | omega | (simp only [Int.toNat_natCast, Int.reduceToNat]; omega)) (by first | omega | (simp only [Int.toNat_natCast, Int.reduceToNat]; omega))) rfl (fun _ _ h => nomatch h) ?_) | (refine CallW.lent ?_; (conv => whnf); refine And.intro (by omega) ?_; (conv => whnf); refine CallL.mk _ _ (fun _ => said5_S _ _ _ (by first | omega | (simp only [Int.toNat_natCast, Int.reduceToNat]; omega)) (by first | omega | (simp only [Int.toNat_natCast, Int.reduceToNat]; omega))) rfl (fun _ _ h => nomatch h) ?_)); conv => whnf) | exact ⟨_, .keep rfl rfl⟩ | fail
    have e : P1 ++ extsT m (k + 1) = (((P1 ++ extsT m k) ++ (⟨#[101, 120, 116, 101, 114, 110, 32]⟩ : ByteArray)) ++ saidT (m.exts.getD k Enc.d).name (m.exts.getD k Enc.d).params (m.exts.getD k Enc.d).ret) := by
      show P1 ++ (extsT m k ++ extL (m.exts.getD k Enc.d)) = _
      unfold extL; simp only [ByteArray.append_assoc]
    refine .mk (k + 1) (by omega) (by omega) ?_
    rw [e]
    refine Ent.lp [] [] rfl rfl rfl ?_ ?_ <;> repeat' first | exact trivial | rfl | exact fun _ _ => rfl | omega | refine And.intro ?_ ?_ | (show (_ : Int) = _; first | omega | (simp only [Int.toNat_natCast]; omega))
  obtain rfl : k = m.exts.length := by omega
  repeat' first | (refine And.intro (fun (hb : _ = true) => ?_) (fun (hb : _ = false) => ?_) <;> (try simp only [pickB_or, pickB_and] at hb) <;> (have hc := hb; try simp only [Int.toNat_natCast, Int.reduceToNat, Bool.or_eq_false_iff, Bool.and_eq_false_iff, Bool.not_eq_false', decide_eq_true_eq, decide_eq_false_iff_not, Bool.not_eq_true', Bool.and_eq_true, Bool.or_eq_true] at hc) <;> first | (exfalso; omega) | conv => whnf) | (refine ⟨_, wr64 (by first | omega | (simp only [Int.toNat_natCast, Int.reduceToNat]; omega)) (by first | omega | (simp only [Int.toNat_natCast, Int.reduceToNat]; omega)), ?_⟩; conv => whnf) | (refine And.intro (by first | omega | (simp only [Int.toNat_natCast, Int.reduceToNat, addZ]; omega) | (simp only [ByteArray.size_append, size_mk, List.length_cons, List.length_nil, Int.toNat_natCast, Int.reduceToNat]; omega) | exact ⟨rfl, by omega⟩ | ((repeat' apply And.intro) <;> first | exact trivial | omega) | decide +kernel) ?_; conv => whnf) | (refine And.intro (fun (ht : tg _ _ = true) => by (simp only [tg_ite, tg_nil, cn, Nat.reduceMul, Nat.reduceAdd, Nat.reduceEqDiff, ↓reduceIte, pickB_or, pickB_and, Bool.and_eq_true, Bool.or_eq_true, Bool.or_eq_false_iff, Bool.and_eq_false_iff, Bool.not_eq_true', Bool.not_eq_false', decide_eq_true_eq, decide_eq_false_iff_not, Int.toNat_natCast, Int.reduceToNat, ne_eq] at ht ⊢; first | omega | (simp only [Int.toNat_natCast, Int.reduceToNat]; omega))) ?_; conv => whnf) | (refine ⟨_, shl1 (by omega), ?_⟩; conv => whnf) | (refine ⟨_, wru64 (by first | omega | (simp only [Int.toNat_natCast, Int.reduceToNat]; omega)) (by first | omega | (simp only [Int.toNat_natCast, Int.reduceToNat]; omega)), ?_⟩; conv => whnf) | (refine ⟨_, fun _ => (IntKind.wrap_u64 _).symm, ?_⟩; conv => whnf) | exact ⟨_, .keep rfl rfl⟩ | fail
  let P2 := P1 ++ extsT m m.exts.length
  have z2 : P2.size = (varsT m m.vars.length).size + (extsT m m.exts.length).size := ByteArray.size_append
  refine lp [7, 4] (fun q : Nat => [.i .i64 q, .s (P2 ++ fnsT m q)]) (fun q => [(1, bx m)]) (fun q => q ≤ m.funcs.length) (fun q => m.funcs.length - q) 0 (by omega) ?_ fun j hj => ?_
  · refine Ent.lp [] [] rfl rfl rfl ?_ ?_ <;> repeat' first | exact trivial | rfl | exact fun _ _ => rfl | omega | refine And.intro ?_ ?_ | (show (_ : Int) = _; first | omega | (simp only [Int.toNat_natCast]; omega))
    exact (ByteArray.append_empty).symm
  conv => whnf
  rcases Nat.lt_or_ge j m.funcs.length with hlt | hge
  · have p1 : (fnsT m j).size + (fnL m (m.funcs.getD j Enc.d)).size ≤ (fnsT m m.funcs.length).size := preT_in hlt
    have p2 : (fnL m (m.funcs.getD j Enc.d)).size = (hdL (m.funcs.getD j Enc.d)).size + (bkT m (m.funcs.getD j Enc.d).blocks (m.funcs.getD j Enc.d).blocks.length).size + 4 := by unfold fnL; simp only [ByteArray.size_append, size_mk, List.length_cons, List.length_nil]
    have p3 : (hdL (m.funcs.getD j Enc.d)).size = 5 + (saidT (m.funcs.getD j Enc.d).name (m.funcs.getD j Enc.d).params (m.funcs.getD j Enc.d).ret).size := by unfold hdL; rw [ByteArray.size_append, size_mk]; rfl
    have i4 : siz (m.funcs.getD j Enc.d) ≤ siz m.funcs := siz_at m.funcs j
    have i5 : siz (m.funcs.getD j Enc.d) = (m.funcs.getD j Enc.d).name.size + siz (m.funcs.getD j Enc.d).params + siz (m.funcs.getD j Enc.d).blocks := rfl
    have i6 := len_siz (m.funcs.getD j Enc.d).params
    have i7 := blocks_le (m.funcs.getD j Enc.d)
    have z3 : (P2 ++ fnsT m j).size = P2.size + (fnsT m j).size := ByteArray.size_append
    repeat' first | (refine And.intro (fun (hb : _ = true) => ?_) (fun (hb : _ = false) => ?_) <;> (try simp only [pickB_or, pickB_and] at hb) <;> (have hc := hb; try simp only [Int.toNat_natCast, Int.reduceToNat, Bool.or_eq_false_iff, Bool.and_eq_false_iff, Bool.not_eq_false', decide_eq_true_eq, decide_eq_false_iff_not, Bool.not_eq_true', Bool.and_eq_true, Bool.or_eq_true] at hc) <;> first | (exfalso; omega) | conv => whnf) | (refine ⟨_, wr64 (by first | omega | (simp only [Int.toNat_natCast, Int.reduceToNat]; omega)) (by first | omega | (simp only [Int.toNat_natCast, Int.reduceToNat]; omega)), ?_⟩; conv => whnf) | (refine And.intro (by first | omega | (simp only [Int.toNat_natCast, Int.reduceToNat, addZ]; omega) | (simp only [ByteArray.size_append, size_mk, List.length_cons, List.length_nil, Int.toNat_natCast, Int.reduceToNat]; omega) | exact ⟨rfl, by omega⟩ | ((repeat' apply And.intro) <;> first | exact trivial | omega) | decide +kernel) ?_; conv => whnf) | (refine And.intro (fun (ht : tg _ _ = true) => by (simp only [tg_ite, tg_nil, cn, Nat.reduceMul, Nat.reduceAdd, Nat.reduceEqDiff, ↓reduceIte, pickB_or, pickB_and, Bool.and_eq_true, Bool.or_eq_true, Bool.or_eq_false_iff, Bool.and_eq_false_iff, Bool.not_eq_true', Bool.not_eq_false', decide_eq_true_eq, decide_eq_false_iff_not, Int.toNat_natCast, Int.reduceToNat, ne_eq] at ht ⊢; first | omega | (simp only [Int.toNat_natCast, Int.reduceToNat]; omega))) ?_; conv => whnf) | (refine ⟨_, shl1 (by omega), ?_⟩; conv => whnf) | (refine ⟨_, wru64 (by first | omega | (simp only [Int.toNat_natCast, Int.reduceToNat]; omega)) (by first | omega | (simp only [Int.toNat_natCast, Int.reduceToNat]; omega)), ?_⟩; conv => whnf) | (refine ⟨_, fun _ => (IntKind.wrap_u64 _).symm, ?_⟩; conv => whnf) | ((first | refine CallK.mk _ _ (fun _ => said5_S _ _ _ (by first | omega | (simp only [Int.toNat_natCast, Int.reduceToNat]; omega)) (by first | omega | (simp only [Int.toNat_natCast, Int.reduceToNat]; omega))) ?_ | refine CallL.mk _ _ (fun _ => said5_S _ _ _ (by first | omega | (simp only [Int.toNat_natCast, Int.reduceToNat]; omega)) (by first | omega | (simp only [Int.toNat_natCast, Int.reduceToNat]; omega))) rfl (fun _ _ h => nomatch h) ?_ | (refine CallW.lent ?_; (conv => whnf); refine CallL.mk _ _ (fun _ => said5_S _ _ _ (by first | omega | (simp only [Int.toNat_natCast, Int.reduceToNat]; omega)) (by first | omega | (simp only [Int.toNat_natCast, Int.reduceToNat]; omega))) rfl (fun _ _ h => nomatch h) ?_) | (refine CallW.lent ?_; (conv => whnf); refine And.intro (by omega) ?_; (conv => whnf); refine CallL.mk _ _ (fun _ => said5_S _ _ _ (by first | omega | (simp only [Int.toNat_natCast, Int.reduceToNat]; omega)) (by first | omega | (simp only [Int.toNat_natCast, Int.reduceToNat]; omega))) rfl (fun _ _ h => nomatch h) ?_)); conv => whnf) | exact ⟨_, .keep rfl rfl⟩ | fail
    let P3 := (P2 ++ fnsT m j) ++ hdL (m.funcs.getD j Enc.d)
    have z4 : P3.size = P2.size + (fnsT m j).size + (hdL (m.funcs.getD j Enc.d)).size := by show ((P2 ++ fnsT m j) ++ hdL (m.funcs.getD j Enc.d)).size = _; rw [ByteArray.size_append, ByteArray.size_append]
    refine lp [9, 4] (fun q : Nat => [.i .i64 q, .s (P3 ++ bkT m (m.funcs.getD j Enc.d).blocks q)]) (fun q => [(1, bx m), (8, bx (m.funcs.getD j Enc.d))]) (fun q => q ≤ (m.funcs.getD j Enc.d).blocks.length) (fun q => (m.funcs.getD j Enc.d).blocks.length - q) 0 (by omega) ?_ fun b hb0 => ?_
    · refine Ent.lp [] [] rfl rfl rfl ?_ ?_ <;> repeat' first | exact trivial | rfl | exact fun _ _ => rfl | omega | refine And.intro ?_ ?_ | (show (_ : Int) = _; first | omega | (simp only [Int.toNat_natCast]; omega))
      show _ = P3 ++ ⟨#[]⟩
      rw [app_nil]; show _ = (P2 ++ fnsT m j) ++ ((⟨#[102, 117, 110, 99, 32]⟩ : ByteArray) ++ _); simp only [ByteArray.append_assoc]; rfl
    conv => whnf
    rcases Nat.lt_or_ge b (m.funcs.getD j Enc.d).blocks.length with hlb | hgb
    · have q1 : (bkT m (m.funcs.getD j Enc.d).blocks b).size + ((blkT b ++ (⟨#[58, 10]⟩ : ByteArray)) ++ cdT m ((m.funcs.getD j Enc.d).blocks.getD b Enc.d).code ((m.funcs.getD j Enc.d).blocks.getD b Enc.d).code.length).size ≤ (bkT m (m.funcs.getD j Enc.d).blocks (m.funcs.getD j Enc.d).blocks.length).size := preT_in (g := fun b => (blkT b ++ (⟨#[58, 10]⟩ : ByteArray)) ++ cdT m ((m.funcs.getD j Enc.d).blocks.getD b Enc.d).code ((m.funcs.getD j Enc.d).blocks.getD b Enc.d).code.length) hlb
      rw [ByteArray.size_append, ByteArray.size_append, show ByteArray.size (⟨#[58, 10]⟩ : ByteArray) = 2 from rfl] at q1
      have i8 := code_le (m.funcs.getD j Enc.d) b
      repeat' first | (refine And.intro (fun (hb : _ = true) => ?_) (fun (hb : _ = false) => ?_) <;> (try simp only [pickB_or, pickB_and] at hb) <;> (have hc := hb; try simp only [Int.toNat_natCast, Int.reduceToNat, Bool.or_eq_false_iff, Bool.and_eq_false_iff, Bool.not_eq_false', decide_eq_true_eq, decide_eq_false_iff_not, Bool.not_eq_true', Bool.and_eq_true, Bool.or_eq_true] at hc) <;> first | (exfalso; omega) | conv => whnf) | (refine ⟨_, wr64 (by first | omega | (simp only [Int.toNat_natCast, Int.reduceToNat]; omega)) (by first | omega | (simp only [Int.toNat_natCast, Int.reduceToNat]; omega)), ?_⟩; conv => whnf) | (refine And.intro (by first | omega | (simp only [Int.toNat_natCast, Int.reduceToNat, addZ]; omega) | (simp only [ByteArray.size_append, size_mk, List.length_cons, List.length_nil, Int.toNat_natCast, Int.reduceToNat]; omega) | exact ⟨rfl, by omega⟩ | ((repeat' apply And.intro) <;> first | exact trivial | omega) | decide +kernel) ?_; conv => whnf) | (refine And.intro (fun (ht : tg _ _ = true) => by (simp only [tg_ite, tg_nil, cn, Nat.reduceMul, Nat.reduceAdd, Nat.reduceEqDiff, ↓reduceIte, pickB_or, pickB_and, Bool.and_eq_true, Bool.or_eq_true, Bool.or_eq_false_iff, Bool.and_eq_false_iff, Bool.not_eq_true', Bool.not_eq_false', decide_eq_true_eq, decide_eq_false_iff_not, Int.toNat_natCast, Int.reduceToNat, ne_eq] at ht ⊢; first | omega | (simp only [Int.toNat_natCast, Int.reduceToNat]; omega))) ?_; conv => whnf) | (refine ⟨_, shl1 (by omega), ?_⟩; conv => whnf) | (refine ⟨_, wru64 (by first | omega | (simp only [Int.toNat_natCast, Int.reduceToNat]; omega)) (by first | omega | (simp only [Int.toNat_natCast, Int.reduceToNat]; omega)), ?_⟩; conv => whnf) | (refine ⟨_, fun _ => (IntKind.wrap_u64 _).symm, ?_⟩; conv => whnf) | ((first | refine CallK.mk _ _ (fun _ => block5_S _ (by first | omega | (simp only [Int.toNat_natCast, Int.reduceToNat]; omega))) ?_ | refine CallL.mk _ _ (fun _ => block5_S _ (by first | omega | (simp only [Int.toNat_natCast, Int.reduceToNat]; omega))) rfl (fun _ _ h => nomatch h) ?_ | (refine CallW.lent ?_; (conv => whnf); refine CallL.mk _ _ (fun _ => block5_S _ (by first | omega | (simp only [Int.toNat_natCast, Int.reduceToNat]; omega))) rfl (fun _ _ h => nomatch h) ?_) | (refine CallW.lent ?_; (conv => whnf); refine And.intro (by omega) ?_; (conv => whnf); refine CallL.mk _ _ (fun _ => block5_S _ (by first | omega | (simp only [Int.toNat_natCast, Int.reduceToNat]; omega))) rfl (fun _ _ h => nomatch h) ?_)); conv => whnf) | exact ⟨_, .keep rfl rfl⟩ | fail
      let P4 := (P3 ++ bkT m (m.funcs.getD j Enc.d).blocks b) ++ (blkT b ++ (⟨#[58, 10]⟩ : ByteArray))
      have z5 : P4.size = P3.size + (bkT m (m.funcs.getD j Enc.d).blocks b).size + ((blkT b).size + 2) := by show ((P3 ++ bkT m (m.funcs.getD j Enc.d).blocks b) ++ (blkT b ++ (⟨#[58, 10]⟩ : ByteArray))).size = _; simp only [ByteArray.size_append, size_mk, List.length_cons, List.length_nil]
      refine lp [10, 4] (fun q : Nat => [.i .i64 q, .s (P4 ++ cdT m ((m.funcs.getD j Enc.d).blocks.getD b Enc.d).code q)]) (fun q => [(1, bx m), (8, bx (m.funcs.getD j Enc.d))]) (fun q => q ≤ ((m.funcs.getD j Enc.d).blocks.getD b Enc.d).code.length) (fun q => ((m.funcs.getD j Enc.d).blocks.getD b Enc.d).code.length - q) 0 (by omega) ?_ fun n hn2 => ?_
      · refine Ent.lp [] [] rfl rfl rfl ?_ ?_ <;> repeat' first | exact trivial | rfl | exact fun _ _ => rfl | omega | refine And.intro ?_ ?_ | (show (_ : Int) = _; first | omega | (simp only [Int.toNat_natCast]; omega))
        show _ = P4 ++ ⟨#[]⟩
        rw [app_nil]; show _ = (P3 ++ bkT m (m.funcs.getD j Enc.d).blocks b) ++ (blkT b ++ (⟨#[58, 10]⟩ : ByteArray)); simp only [ByteArray.append_assoc]
      conv => whnf
      rcases Nat.lt_or_ge n ((m.funcs.getD j Enc.d).blocks.getD b Enc.d).code.length with hln | hgn
      · have r1 : (cdT m ((m.funcs.getD j Enc.d).blocks.getD b Enc.d).code n).size + (insL m (((m.funcs.getD j Enc.d).blocks.getD b Enc.d).code.getD n Enc.d)).size ≤ (cdT m ((m.funcs.getD j Enc.d).blocks.getD b Enc.d).code ((m.funcs.getD j Enc.d).blocks.getD b Enc.d).code.length).size := preT_in (g := fun k => insL m (((m.funcs.getD j Enc.d).blocks.getD b Enc.d).code.getD k Enc.d)) hln
        have r2 := insL_beh m (((m.funcs.getD j Enc.d).blocks.getD b Enc.d).code.getD n Enc.d)
        have r3 := ins_le (m.funcs.getD j Enc.d) b n
        have r4 := InsOk.of (say5_ins hy hlt hlb hln) (hr.b j b n) (hr.n j b n).2
        repeat' first | (refine And.intro (fun (hb : _ = true) => ?_) (fun (hb : _ = false) => ?_) <;> (try simp only [pickB_or, pickB_and] at hb) <;> (have hc := hb; try simp only [Int.toNat_natCast, Int.reduceToNat, Bool.or_eq_false_iff, Bool.and_eq_false_iff, Bool.not_eq_false', decide_eq_true_eq, decide_eq_false_iff_not, Bool.not_eq_true', Bool.and_eq_true, Bool.or_eq_true] at hc) <;> first | (exfalso; omega) | conv => whnf) | (refine ⟨_, wr64 (by first | omega | (simp only [Int.toNat_natCast, Int.reduceToNat]; omega)) (by first | omega | (simp only [Int.toNat_natCast, Int.reduceToNat]; omega)), ?_⟩; conv => whnf) | (refine And.intro (by first | omega | (simp only [Int.toNat_natCast, Int.reduceToNat, addZ]; omega) | (simp only [ByteArray.size_append, size_mk, List.length_cons, List.length_nil, Int.toNat_natCast, Int.reduceToNat]; omega) | exact ⟨rfl, by omega⟩ | ((repeat' apply And.intro) <;> first | exact trivial | omega) | decide +kernel) ?_; conv => whnf) | (refine And.intro (fun (ht : tg _ _ = true) => by (simp only [tg_ite, tg_nil, cn, Nat.reduceMul, Nat.reduceAdd, Nat.reduceEqDiff, ↓reduceIte, pickB_or, pickB_and, Bool.and_eq_true, Bool.or_eq_true, Bool.or_eq_false_iff, Bool.and_eq_false_iff, Bool.not_eq_true', Bool.not_eq_false', decide_eq_true_eq, decide_eq_false_iff_not, Int.toNat_natCast, Int.reduceToNat, ne_eq] at ht ⊢; first | omega | (simp only [Int.toNat_natCast, Int.reduceToNat]; omega))) ?_; conv => whnf) | (refine ⟨_, shl1 (by omega), ?_⟩; conv => whnf) | (refine ⟨_, wru64 (by first | omega | (simp only [Int.toNat_natCast, Int.reduceToNat]; omega)) (by first | omega | (simp only [Int.toNat_natCast, Int.reduceToNat]; omega)), ?_⟩; conv => whnf) | (refine ⟨_, fun _ => (IntKind.wrap_u64 _).symm, ?_⟩; conv => whnf) | ((first | refine CallK.mk _ _ (fun _ => Instr5_S m (((m.funcs.getD j Enc.d).blocks.getD b Enc.d).code.getD n Enc.d) r4 hm (by first | omega | (simp only [Int.toNat_natCast, Int.reduceToNat]; omega)) (by first | omega | (simp only [Int.toNat_natCast, Int.reduceToNat]; omega))) ?_ | refine CallL.mk _ _ (fun _ => Instr5_S m (((m.funcs.getD j Enc.d).blocks.getD b Enc.d).code.getD n Enc.d) r4 hm (by first | omega | (simp only [Int.toNat_natCast, Int.reduceToNat]; omega)) (by first | omega | (simp only [Int.toNat_natCast, Int.reduceToNat]; omega))) rfl (fun _ _ h => nomatch h) ?_ | (refine CallW.lent ?_; (conv => whnf); refine CallL.mk _ _ (fun _ => Instr5_S m (((m.funcs.getD j Enc.d).blocks.getD b Enc.d).code.getD n Enc.d) r4 hm (by first | omega | (simp only [Int.toNat_natCast, Int.reduceToNat]; omega)) (by first | omega | (simp only [Int.toNat_natCast, Int.reduceToNat]; omega))) rfl (fun _ _ h => nomatch h) ?_) | (refine CallW.lent ?_; (conv => whnf); refine And.intro (by omega) ?_; (conv => whnf); refine CallL.mk _ _ (fun _ => Instr5_S m (((m.funcs.getD j Enc.d).blocks.getD b Enc.d).code.getD n Enc.d) r4 hm (by first | omega | (simp only [Int.toNat_natCast, Int.reduceToNat]; omega)) (by first | omega | (simp only [Int.toNat_natCast, Int.reduceToNat]; omega))) rfl (fun _ _ h => nomatch h) ?_)); conv => whnf) | exact ⟨_, .keep rfl rfl⟩ | fail
        have e : P4 ++ cdT m ((m.funcs.getD j Enc.d).blocks.getD b Enc.d).code (n + 1) = (((P4 ++ cdT m ((m.funcs.getD j Enc.d).blocks.getD b Enc.d).code n) ++ (⟨#[32, 32]⟩ : ByteArray)) ++ insT m (((m.funcs.getD j Enc.d).blocks.getD b Enc.d).code.getD n Enc.d)) ++ (⟨#[10]⟩ : ByteArray) := by
          show P4 ++ (cdT m ((m.funcs.getD j Enc.d).blocks.getD b Enc.d).code n ++ insL m (((m.funcs.getD j Enc.d).blocks.getD b Enc.d).code.getD n Enc.d)) = _
          unfold insL; simp only [ByteArray.append_assoc]
        refine .mk (n + 1) (by omega) (by omega) ?_
        rw [e]
        refine Ent.lp [] [] rfl rfl rfl ?_ ?_ <;> repeat' first | exact trivial | rfl | exact fun _ _ => rfl | omega | refine And.intro ?_ ?_ | (show (_ : Int) = _; first | omega | (simp only [Int.toNat_natCast]; omega))
      · obtain rfl : n = ((m.funcs.getD j Enc.d).blocks.getD b Enc.d).code.length := by omega
        repeat' first | (refine And.intro (fun (hb : _ = true) => ?_) (fun (hb : _ = false) => ?_) <;> (try simp only [pickB_or, pickB_and] at hb) <;> (have hc := hb; try simp only [Int.toNat_natCast, Int.reduceToNat, Bool.or_eq_false_iff, Bool.and_eq_false_iff, Bool.not_eq_false', decide_eq_true_eq, decide_eq_false_iff_not, Bool.not_eq_true', Bool.and_eq_true, Bool.or_eq_true] at hc) <;> first | (exfalso; omega) | conv => whnf) | (refine ⟨_, wr64 (by first | omega | (simp only [Int.toNat_natCast, Int.reduceToNat]; omega)) (by first | omega | (simp only [Int.toNat_natCast, Int.reduceToNat]; omega)), ?_⟩; conv => whnf) | (refine And.intro (by first | omega | (simp only [Int.toNat_natCast, Int.reduceToNat, addZ]; omega) | (simp only [ByteArray.size_append, size_mk, List.length_cons, List.length_nil, Int.toNat_natCast, Int.reduceToNat]; omega) | exact ⟨rfl, by omega⟩ | ((repeat' apply And.intro) <;> first | exact trivial | omega) | decide +kernel) ?_; conv => whnf) | (refine And.intro (fun (ht : tg _ _ = true) => by (simp only [tg_ite, tg_nil, cn, Nat.reduceMul, Nat.reduceAdd, Nat.reduceEqDiff, ↓reduceIte, pickB_or, pickB_and, Bool.and_eq_true, Bool.or_eq_true, Bool.or_eq_false_iff, Bool.and_eq_false_iff, Bool.not_eq_true', Bool.not_eq_false', decide_eq_true_eq, decide_eq_false_iff_not, Int.toNat_natCast, Int.reduceToNat, ne_eq] at ht ⊢; first | omega | (simp only [Int.toNat_natCast, Int.reduceToNat]; omega))) ?_; conv => whnf) | (refine ⟨_, shl1 (by omega), ?_⟩; conv => whnf) | (refine ⟨_, wru64 (by first | omega | (simp only [Int.toNat_natCast, Int.reduceToNat]; omega)) (by first | omega | (simp only [Int.toNat_natCast, Int.reduceToNat]; omega)), ?_⟩; conv => whnf) | (refine ⟨_, fun _ => (IntKind.wrap_u64 _).symm, ?_⟩; conv => whnf) | exact ⟨_, .keep rfl rfl⟩ | fail
        have e : P3 ++ bkT m (m.funcs.getD j Enc.d).blocks (b + 1) = P4 ++ cdT m ((m.funcs.getD j Enc.d).blocks.getD b Enc.d).code ((m.funcs.getD j Enc.d).blocks.getD b Enc.d).code.length := by
          show P3 ++ (bkT m (m.funcs.getD j Enc.d).blocks b ++ ((blkT b ++ (⟨#[58, 10]⟩ : ByteArray)) ++ cdT m ((m.funcs.getD j Enc.d).blocks.getD b Enc.d).code ((m.funcs.getD j Enc.d).blocks.getD b Enc.d).code.length)) = ((P3 ++ bkT m (m.funcs.getD j Enc.d).blocks b) ++ (blkT b ++ (⟨#[58, 10]⟩ : ByteArray))) ++ _
          simp only [ByteArray.append_assoc]
        refine .mk (b + 1) (by omega) (by omega) ?_
        rw [e]
        refine Ent.lp [] [] rfl rfl rfl ?_ ?_ <;> repeat' first | exact trivial | rfl | exact fun _ _ => rfl | omega | refine And.intro ?_ ?_ | (show (_ : Int) = _; first | omega | (simp only [Int.toNat_natCast]; omega))
    · obtain rfl : b = (m.funcs.getD j Enc.d).blocks.length := by omega
      repeat' first | (refine And.intro (fun (hb : _ = true) => ?_) (fun (hb : _ = false) => ?_) <;> (try simp only [pickB_or, pickB_and] at hb) <;> (have hc := hb; try simp only [Int.toNat_natCast, Int.reduceToNat, Bool.or_eq_false_iff, Bool.and_eq_false_iff, Bool.not_eq_false', decide_eq_true_eq, decide_eq_false_iff_not, Bool.not_eq_true', Bool.and_eq_true, Bool.or_eq_true] at hc) <;> first | (exfalso; omega) | conv => whnf) | (refine ⟨_, wr64 (by first | omega | (simp only [Int.toNat_natCast, Int.reduceToNat]; omega)) (by first | omega | (simp only [Int.toNat_natCast, Int.reduceToNat]; omega)), ?_⟩; conv => whnf) | (refine And.intro (by first | omega | (simp only [Int.toNat_natCast, Int.reduceToNat, addZ]; omega) | (simp only [ByteArray.size_append, size_mk, List.length_cons, List.length_nil, Int.toNat_natCast, Int.reduceToNat]; omega) | exact ⟨rfl, by omega⟩ | ((repeat' apply And.intro) <;> first | exact trivial | omega) | decide +kernel) ?_; conv => whnf) | (refine And.intro (fun (ht : tg _ _ = true) => by (simp only [tg_ite, tg_nil, cn, Nat.reduceMul, Nat.reduceAdd, Nat.reduceEqDiff, ↓reduceIte, pickB_or, pickB_and, Bool.and_eq_true, Bool.or_eq_true, Bool.or_eq_false_iff, Bool.and_eq_false_iff, Bool.not_eq_true', Bool.not_eq_false', decide_eq_true_eq, decide_eq_false_iff_not, Int.toNat_natCast, Int.reduceToNat, ne_eq] at ht ⊢; first | omega | (simp only [Int.toNat_natCast, Int.reduceToNat]; omega))) ?_; conv => whnf) | (refine ⟨_, shl1 (by omega), ?_⟩; conv => whnf) | (refine ⟨_, wru64 (by first | omega | (simp only [Int.toNat_natCast, Int.reduceToNat]; omega)) (by first | omega | (simp only [Int.toNat_natCast, Int.reduceToNat]; omega)), ?_⟩; conv => whnf) | (refine ⟨_, fun _ => (IntKind.wrap_u64 _).symm, ?_⟩; conv => whnf) | exact ⟨_, .keep rfl rfl⟩ | fail
      have e : P2 ++ fnsT m (j + 1) = (P3 ++ bkT m (m.funcs.getD j Enc.d).blocks (m.funcs.getD j Enc.d).blocks.length) ++ (⟨#[101, 110, 100, 10]⟩ : ByteArray) := by
        show P2 ++ (fnsT m j ++ fnL m (m.funcs.getD j Enc.d)) = (((P2 ++ fnsT m j) ++ hdL (m.funcs.getD j Enc.d)) ++ _) ++ _
        unfold fnL; simp only [ByteArray.append_assoc]
      refine .mk (j + 1) (by omega) (by omega) ?_
      rw [e]
      refine Ent.lp [] [] rfl rfl rfl ?_ ?_ <;> repeat' first | exact trivial | rfl | exact fun _ _ => rfl | omega | refine And.intro ?_ ?_ | (show (_ : Int) = _; first | omega | (simp only [Int.toNat_natCast]; omega))
  · obtain rfl : j = m.funcs.length := by omega
    repeat' first | (refine And.intro (fun (hb : _ = true) => ?_) (fun (hb : _ = false) => ?_) <;> (try simp only [pickB_or, pickB_and] at hb) <;> (have hc := hb; try simp only [Int.toNat_natCast, Int.reduceToNat, Bool.or_eq_false_iff, Bool.and_eq_false_iff, Bool.not_eq_false', decide_eq_true_eq, decide_eq_false_iff_not, Bool.not_eq_true', Bool.and_eq_true, Bool.or_eq_true] at hc) <;> first | (exfalso; omega) | conv => whnf) | (refine ⟨_, wr64 (by first | omega | (simp only [Int.toNat_natCast, Int.reduceToNat]; omega)) (by first | omega | (simp only [Int.toNat_natCast, Int.reduceToNat]; omega)), ?_⟩; conv => whnf) | (refine And.intro (by first | omega | (simp only [Int.toNat_natCast, Int.reduceToNat, addZ]; omega) | (simp only [ByteArray.size_append, size_mk, List.length_cons, List.length_nil, Int.toNat_natCast, Int.reduceToNat]; omega) | exact ⟨rfl, by omega⟩ | ((repeat' apply And.intro) <;> first | exact trivial | omega) | decide +kernel) ?_; conv => whnf) | (refine And.intro (fun (ht : tg _ _ = true) => by (simp only [tg_ite, tg_nil, cn, Nat.reduceMul, Nat.reduceAdd, Nat.reduceEqDiff, ↓reduceIte, pickB_or, pickB_and, Bool.and_eq_true, Bool.or_eq_true, Bool.or_eq_false_iff, Bool.and_eq_false_iff, Bool.not_eq_true', Bool.not_eq_false', decide_eq_true_eq, decide_eq_false_iff_not, Int.toNat_natCast, Int.reduceToNat, ne_eq] at ht ⊢; first | omega | (simp only [Int.toNat_natCast, Int.reduceToNat]; omega))) ?_; conv => whnf) | (refine ⟨_, shl1 (by omega), ?_⟩; conv => whnf) | (refine ⟨_, wru64 (by first | omega | (simp only [Int.toNat_natCast, Int.reduceToNat]; omega)) (by first | omega | (simp only [Int.toNat_natCast, Int.reduceToNat]; omega)), ?_⟩; conv => whnf) | (refine ⟨_, fun _ => (IntKind.wrap_u64 _).symm, ?_⟩; conv => whnf) | exact ⟨_, .keep rfl rfl⟩ | fail
end Go.Proofs.YtilhkmlghhdpaaaDoor

/- Layer 5: the writer's text under way. -/
namespace Go.Proofs.YtilhkmlghhdpaaaDoor
open Go.RowKit
set_option linter.unusedVariables false
set_option linter.unusedSimpArgs false
set_option maxRecDepth 100000
set_option maxHeartbeats 2000000
def act0 : Act := ⟨#[], []⟩
/-- A contract shown by hand: where everything lies stays. -/
theorem ASpecM.hand {P : Program} {f : FuncId} {args : List AV} {os : Os} {r : AV} {no : Os} (henter : ∀ args w, (callFunc f args).run P w = .ok (.enter f args) w) (hclo : Clo r no)
    (h : ∀ (E : Env) (β : Nat → Wt) (w : World) (us : List Value), E.w0 = w → Gam E [] [] os β act0 w → rels (E.good os β) β w args us → Vr w → Calls P f us.toArray w fun e w' => ∃ v, e = .returned v ∧ Gam E [] [] no β act0 w' ∧ rel (E.good no β) β w' r v) : ASpecM P f args os r no := by
  refine ⟨henter, hclo, fun S β w us hob hap hus hvr => ?_⟩
  let E : Env := ⟨0, S, w, feet os β, hvr, hap⟩
  have hc : Comp S w (E.good os β) w := ⟨Nat.le_refl _, fun k hk hs => ⟨⟨.inl hs, hap k hs⟩, rfl⟩⟩
  have hg : Gam E [] [] os β act0 w := ⟨rfl, rfl, TbOk.nil, fun d c v hl => by simp [lk] at hl, fun id ob hl => orel_mono hc (fun _ _ => rfl) (hob.objs id ob hl), BelowX.refl _ _, fun k hk => ⟨.inr hk, hob.lt k hk⟩, hob.nodup, hob.keys⟩
  refine (h E β w us rfl hg (rels_mono hc _ _ hus) hvr.now).mono ?_
  rintro e w' ⟨v, rfl, g, hr⟩
  exact ⟨v, β, rfl, g.below, g.objs, g.new, g.nodup, g.keys, fun _ _ _ _ _ => rfl, hr⟩
/-- What the builder's first field holds: nothing as yet, or itself. -/
def adr : Bool → AV
  | true => .op 1000 0
  | false => .v (.pointer none)
/-- A writer. -/
def wrB (t : Bool) (n : Nat) (m : ModE) : Obj := .box none (some 63) [adr t, .orow 1001 1 0 n, eL m.vars, eL m.exts, eL m.funcs]
def wrR (n : Nat) (g : Nat → List AV) : Obj := .row (some 5) 1 n g
def wrO (t : Bool) (n : Nat) (g : Nat → List AV) (m : ModE) : Os := [(1000, wrB t n m), (1001, wrR n g)]
theorem upO_head {d : Nat} {x y : Obj} {o : Os} : upO ((d, x) :: o) d y = (d, y) :: o := by simp [upO]
/-- .. where it lies. -/
def wrP (pin : Nat → Nat) (t : Bool) (n : Nat) (g : Nat → List AV) (m : ModE) : Os := [(1000, .box (some (pin 1000)) (some 63) [adr t, .orow 1001 1 0 n, eL m.vars, eL m.exts, eL m.funcs]), (1001, wrR n g)]
theorem mat_adr {ρ : List (Nat × Nat)} {nl : List Nat} {t : Bool} (h : (Nat.beq (rho ρ 1000) 1000 && !memN 1000 nl) = true) : mat ρ nl (adr t) (adr t) := by
  cases t with
  | true => simp only [adr, mat, h]
  | false => rfl
theorem noOwn_eL {α : Type} [Enc α] {l : List α} : noOwn (eL l) = true := rfl
theorem wrClo {n : Nat} {t : Bool} {g : Nat → List AV} {m : ModE} {v : AV} (hv : noOwn v = true) : Clo v (wrO t n g m) := by
  refine ⟨fun id hm => (Bool.noConfusion ((noOwn_men hv).symm.trans hm)), fun i ob h id hm => ?_⟩
  unfold wrO at h ⊢
  rw [lk_cons] at h
  split at h
  · cases h
    have : id = 1000 ∨ id = 1001 := by
      simp only [wrB, omen, mens, men, eL, Bool.or_false, Bool.or_eq_true] at hm
      rcases hm with hm | hm
      · cases t with
        | true => exact .inl (Nat.eq_of_beq_eq_true hm).symm
        | false => cases hm
      · exact .inr (Nat.eq_of_beq_eq_true hm).symm
    rcases this with rfl | rfl <;> rfl
  · rw [lk_cons] at h
    split at h
    · cases h; cases hm
    · simp [lk] at h
theorem copyCheck_S (t : Bool) (n : Nat) (g : Nat → List AV) (m : ModE) : ASpecM Tryd.prog 64 [.op 1000 0] (wrO t n g m) (.tup []) (wrO true n g m) := by
  refine ASpecM.hand Tryd.call64 (wrClo rfl) fun E β w us hw hg hus hv => ?_
  obtain ⟨u, us', rfl, e1, e2⟩ := hus
  unfold rels at e2; subst e2
  unfold rel at e1
  obtain ⟨hok, b, e1, rfl⟩ := e1
  have hl : lk (wrO t n g m) 1000 = some (wrB t n m) := rfl
  obtain ⟨b', cs, ty, g1, g2, g3, g4, g5, g6, g7, g8⟩ := hg.objs _ _ hl
  rw [e1] at g1
  cases g1
  obtain rfl := g8 _ rfl
  obtain ⟨u0, cs', rfl, r0, r1⟩ := g4
  have hlen : cs'.length = 4 := rels_len r1
  have hc0 : w.cell? ⟨b, 0, none⟩ = some u0 := by rw [cell_blk g3]; rfl
  obtain ⟨j, hj, hjs⟩ := Option.map_eq_some_iff.1 (show (Tryd.prog.info? 61).map (·.size) = some 2 by kernel_rfl)
  have hsh : w.shape? b = some (63, 5) := by
    simp only [World.shape?, g3, List.size_toArray, List.length_cons, hlen]
  cases t with
  | true =>
    unfold adr rel at r0
    obtain ⟨_, b2, z1, rfl⟩ := r0
    rw [e1] at z1; cases z1
    go_enter Tryd.func64, Tryd.ntmps64
    go_wp2
    rw [Lib.run_neq_ptr_same w _ Tryd.underlying58 hj]
    go_wp2
    go_end0
    exact ⟨_, rfl, hg, [], rfl, rfl⟩
  | false =>
    unfold adr rel at r0
    subst r0
    have hfz : w.frozen? ⟨b, 0, none⟩ = false := by simp [World.frozen?, g3]
    go_enter Tryd.func64, Tryd.ntmps64
    go_wp2
    rw [Lib.run_to_unsafe w ⟨b, 0, none⟩ Tryd.underlying58 Tryd.underlying108 hj (by rw [hjs]; decide) hsh (Nat.zero_lt_succ 4)]
    simp only [Result.andThen]
    rw [Oper.upon_value]
    go_wp2
    rw [run_callFunc_extern Tryd.func73 (by kernel_rfl) (by kernel_rfl) (by kernel_rfl) (e := Extern.AbiNoEscape.same) (by kernel_rfl)]
    rw [Lib.run_noEscape]
    simp only [Result.andThen]
    rw [Oper.upon_value]
    go_wp2
    rw [Lib.run_from_unsafe w ⟨b, 0, none⟩ Tryd.underlying108 Tryd.underlying58 hj hsh (by kernel_rfl)]
    simp only [Result.andThen]
    rw [Oper.upon_value]
    go_wp2
    go_end0
    have hblk : ∀ k, k ∉ (β 1000).foot → (w.setCell ⟨b, 0, none⟩ (.pointer (some ⟨b, 0, none⟩))).heap[k]? = w.heap[k]? := fun k hk => by
      rw [g2] at hk
      have : b ≠ k := fun e => hk (by simp [e])
      show (w.heap.modify b _)[k]? = _
      rw [Array.getElem?_modify, if_neg this]
    have hat : (w.setCell ⟨b, 0, none⟩ (.pointer (some ⟨b, 0, none⟩))).heap[b]? = some (.cells (Value.pointer (some ⟨b, 0, none⟩) :: cs').toArray 63 (0, 0)) := by
      show (w.heap.modify b _)[b]? = _
      rw [Array.getElem?_modify, if_pos rfl, g3]
      simp
    have hset := hg.setO (ob' := wrB true n m) (w' := w.setCell ⟨b, 0, none⟩ (.pointer (some ⟨b, 0, none⟩))) hl rfl rfl rfl (by show (w.heap.modify b _).size = _; rw [Array.size_modify]) hblk fun hc =>
      ⟨b, _, _, e1, g2, hat, ⟨_, _, rfl, ⟨hok, b, e1, rfl⟩, rels_mono hc _ _ r1⟩, g5, g6, (fun _ h => nomatch h), fun _ h => by cases h; rfl⟩
    have e : upO (wrO false n g m) 1000 (wrB true n m) = wrO true n g m := rfl
    rw [e] at hset
    exact ⟨_, rfl, hset, [], rfl, rfl⟩
/-- The bytes behind so many. -/
def catB (n : Nat) (g : Nat → List AV) (s : ByteArray) : Nat → List AV := catF n g (fun i => [.i .u8 (byteAt s i)])
theorem WriteString_S (t : Bool) (n : Nat) (g : Nat → List AV) (m : ModE) (s : ByteArray) (hn : n + s.size ≤ 70368744177664) : ASpecM Tryd.prog 49 [.op 1000 0, .s s] (wrO t n g m) (.tup [.i .i64 s.size, .v .nilIface]) (wrO true (n + s.size) (catB n g s) m) := by
  refine ASpecM.enter TYok mixed Tryd.func49 rfl Tryd.call49 Tryd.ntmps49 rfl (rs := [.tmp 4, .tmp 5]) rfl (wrClo rfl) rfl (keep := [0, 1, 4, 5]) fun pin => ?_; conv => whnf
  refine CallW.chg ?_; (conv => whnf); refine CallM.mk _ _ _ (by repeat' first | exact trivial | exact ⟨_, rfl⟩ | exact rfl | refine And.intro ?_ ?_) (by exact rfl) (copyCheck_S t n g m) ?_; conv => whnf
  repeat' first | (refine And.intro (fun (hb : _ = true) => ?_) (fun (hb : _ = false) => ?_) <;> (try simp only [pickB_or, pickB_and] at hb) <;> (have hc := hb; try simp only [Int.toNat_natCast, Int.reduceToNat, Bool.or_eq_false_iff, Bool.and_eq_false_iff, Bool.not_eq_false', decide_eq_true_eq, decide_eq_false_iff_not, Bool.not_eq_true', Bool.and_eq_true, Bool.or_eq_true] at hc) <;> first | (exfalso; omega) | conv => whnf) | (refine ⟨_, wr64 (by first | omega | (simp only [Int.toNat_natCast, Int.reduceToNat]; omega)) (by first | omega | (simp only [Int.toNat_natCast, Int.reduceToNat]; omega)), ?_⟩; conv => whnf) | (refine And.intro (by first | omega | (simp only [Int.toNat_natCast, Int.reduceToNat, addZ]; omega) | (simp only [ByteArray.size_append, size_mk, List.length_cons, List.length_nil, Int.toNat_natCast, Int.reduceToNat]; omega) | exact ⟨rfl, by omega⟩ | ((repeat' apply And.intro) <;> first | exact trivial | omega) | decide +kernel) ?_; conv => whnf) | (refine And.intro (fun (ht : tg _ _ = true) => by (simp only [tg_ite, tg_nil, cn, Nat.reduceMul, Nat.reduceAdd, Nat.reduceEqDiff, ↓reduceIte, pickB_or, pickB_and, Bool.and_eq_true, Bool.or_eq_true, Bool.or_eq_false_iff, Bool.and_eq_false_iff, Bool.not_eq_true', Bool.not_eq_false', decide_eq_true_eq, decide_eq_false_iff_not, Int.toNat_natCast, Int.reduceToNat, ne_eq] at ht ⊢; first | omega | (simp only [Int.toNat_natCast, Int.reduceToNat]; omega))) ?_; conv => whnf) | (refine ⟨_, shl1 (by omega), ?_⟩; conv => whnf) | (refine ⟨_, wru64 (by first | omega | (simp only [Int.toNat_natCast, Int.reduceToNat]; omega)) (by first | omega | (simp only [Int.toNat_natCast, Int.reduceToNat]; omega)), ?_⟩; conv => whnf) | (refine ⟨_, fun _ => (IntKind.wrap_u64 _).symm, ?_⟩; conv => whnf) | exact ⟨_, .keep rfl rfl⟩ | fail
  refine ⟨[(1001, 14)], [], ?_, ?_, rfl⟩ <;> repeat' first | exact trivial | exact rfl | exact fun _ _ => rfl | omega | refine And.intro ?_ ?_ | (show (_ : Int) = _; first | omega | (simp only [Int.toNat_natCast]; omega))
/-- Many texts, one behind the other. -/
def catL (l : List ByteArray) : ByteArray := l.foldl (· ++ ·) ⟨#[]⟩
theorem byteAt_app (a b : ByteArray) (i : Nat) : byteAt (a ++ b) i = if i < a.size then byteAt a i else byteAt b (i - a.size : Nat) := by
  unfold byteAt
  have e : (a ++ b).data.toList = a.data.toList ++ b.data.toList := by simp
  have e2 : a.data.toList.length = a.size := Array.length_toList
  rw [e, Int.toNat_natCast, Int.toNat_natCast, List.getD_eq_getElem?_getD, List.getElem?_append, e2]
  split <;> simp [List.getD_eq_getElem?_getD]
theorem catB_app {n : Nat} {g : Nat → List AV} {a b : ByteArray} : catB (n + a.size) (catB n g a) b = catB n g (a ++ b) := by
  funext i
  simp only [catB, catF]
  by_cases h1 : i < n
  · rw [if_pos (show i < n + a.size by omega), if_pos h1, if_pos h1]
  · rw [if_neg h1, if_neg h1, byteAt_app]
    by_cases h2 : i < n + a.size
    · rw [if_pos h2, if_pos (show i - n < a.size by omega)]
    · rw [if_neg h2, if_neg (show ¬ i - n < a.size by omega), show i - (n + a.size) = i - n - a.size by omega]
theorem catB_nil {n : Nat} {g : Nat → List AV} {i : Nat} (h : i < n) : g i = catB n g ⟨#[]⟩ i := by simp only [catB, catF, if_pos h]
theorem foldl_app (l : List ByteArray) (a : ByteArray) : (l.foldl (· ++ ·) a).size = a.size + (l.map ByteArray.size).sum := by
  induction l generalizing a with
  | nil => simp
  | cons x l ih => rw [List.foldl_cons, ih, ByteArray.size_append, List.map_cons, List.sum_cons]; omega
theorem catL_take (l : List ByteArray) (q : Nat) : (catL (l.take q)).size ≤ (catL l).size := by
  unfold catL
  rw [foldl_app, foldl_app]
  have : ((l.take q).map ByteArray.size).sum ≤ (l.map ByteArray.size).sum := by
    induction l generalizing q with
    | nil => simp
    | cons x l ih =>
      cases q with
      | zero => simp
      | succ q => rw [List.take_succ_cons, List.map_cons, List.sum_cons, List.map_cons, List.sum_cons]; have := ih q; omega
  omega
theorem put_S (t : Bool) (n : Nat) (g : Nat → List AV) (m : ModE) (l : List ByteArray) (h0 : 0 < l.length) (hl : l.length ≤ 1000) (hn : n + (catL l).size ≤ 70368744177664) : ASpecM Tryd.prog 24 [.op 1000 0, eL l] (wrO t n g m) (.tup []) (wrO true (n + (catL l).size) (catB n g (catL l)) m) := by
  let acc (q : Nat) := catL (l.take q)
  have h1 : ∀ q, q < l.length → acc (q + 1) = acc q ++ l.getD q Enc.d := fun q hq => foldl_take (d := Enc.d) hq
  refine ASpecM.enter TYok mixed Tryd.func24 rfl Tryd.call24 Tryd.ntmps24 rfl (rs := []) rfl (wrClo rfl) rfl (keep := [0, 1, 5, 6, 7, 8]) fun pin => ?_; conv => whnf
  repeat' first | (refine And.intro (fun (hb : _ = true) => ?_) (fun (hb : _ = false) => ?_) <;> (try simp only [pickB_or, pickB_and] at hb) <;> (have hc := hb; try simp only [Int.toNat_natCast, Int.reduceToNat, Bool.or_eq_false_iff, Bool.and_eq_false_iff, Bool.not_eq_false', decide_eq_true_eq, decide_eq_false_iff_not, Bool.not_eq_true', Bool.and_eq_true, Bool.or_eq_true] at hc) <;> first | (exfalso; omega) | conv => whnf) | (refine ⟨_, wr64 (by first | omega | (simp only [Int.toNat_natCast, Int.reduceToNat]; omega)) (by first | omega | (simp only [Int.toNat_natCast, Int.reduceToNat]; omega)), ?_⟩; conv => whnf) | (refine And.intro (by first | omega | (simp only [Int.toNat_natCast, Int.reduceToNat, addZ]; omega) | (simp only [ByteArray.size_append, size_mk, List.length_cons, List.length_nil, Int.toNat_natCast, Int.reduceToNat]; omega) | exact ⟨rfl, by omega⟩ | ((repeat' apply And.intro) <;> first | exact trivial | omega) | decide +kernel) ?_; conv => whnf) | (refine And.intro (fun (ht : tg _ _ = true) => by (simp only [tg_ite, tg_nil, cn, Nat.reduceMul, Nat.reduceAdd, Nat.reduceEqDiff, ↓reduceIte, pickB_or, pickB_and, Bool.and_eq_true, Bool.or_eq_true, Bool.or_eq_false_iff, Bool.and_eq_false_iff, Bool.not_eq_true', Bool.not_eq_false', decide_eq_true_eq, decide_eq_false_iff_not, Int.toNat_natCast, Int.reduceToNat, ne_eq] at ht ⊢; first | omega | (simp only [Int.toNat_natCast, Int.reduceToNat]; omega))) ?_; conv => whnf) | (refine ⟨_, shl1 (by omega), ?_⟩; conv => whnf) | (refine ⟨_, wru64 (by first | omega | (simp only [Int.toNat_natCast, Int.reduceToNat]; omega)) (by first | omega | (simp only [Int.toNat_natCast, Int.reduceToNat]; omega)), ?_⟩; conv => whnf) | (refine ⟨_, fun _ => (IntKind.wrap_u64 _).symm, ?_⟩; conv => whnf) | exact ⟨_, .keep rfl rfl⟩ | fail
  refine lp [8] (fun q : Nat => [.i .i64 q]) (fun q => wrP pin (Nat.blt 0 q || t) (n + (acc q).size) (catB n g (acc q)) m) (fun q => q ≤ l.length) (fun q => l.length - q) 0 (by omega) ?_ fun q hq => ?_
  · refine Ent.lp [] [] rfl rfl rfl ?_ ?_ <;> repeat' first | exact trivial | rfl | exact fun _ _ => rfl | omega | refine And.intro ?_ ?_ | (show (_ : Int) = _; first | omega | (simp only [Int.toNat_natCast]; omega))
    · exact mat_adr rfl
    · exact fun i hi => catB_nil hi
  conv => whnf
  have h2 : (acc q).size ≤ _ := catL_take l q
  repeat' first | (refine And.intro (fun (hb : _ = true) => ?_) (fun (hb : _ = false) => ?_) <;> (try simp only [pickB_or, pickB_and] at hb) <;> (have hc := hb; try simp only [Int.toNat_natCast, Int.reduceToNat, Bool.or_eq_false_iff, Bool.and_eq_false_iff, Bool.not_eq_false', decide_eq_true_eq, decide_eq_false_iff_not, Bool.not_eq_true', Bool.and_eq_true, Bool.or_eq_true] at hc) <;> first | (exfalso; omega) | conv => whnf) | (refine ⟨_, wr64 (by first | omega | (simp only [Int.toNat_natCast, Int.reduceToNat]; omega)) (by first | omega | (simp only [Int.toNat_natCast, Int.reduceToNat]; omega)), ?_⟩; conv => whnf) | (refine And.intro (by first | omega | (simp only [Int.toNat_natCast, Int.reduceToNat, addZ]; omega) | (simp only [ByteArray.size_append, size_mk, List.length_cons, List.length_nil, Int.toNat_natCast, Int.reduceToNat]; omega) | exact ⟨rfl, by omega⟩ | ((repeat' apply And.intro) <;> first | exact trivial | omega) | decide +kernel) ?_; conv => whnf) | (refine And.intro (fun (ht : tg _ _ = true) => by (simp only [tg_ite, tg_nil, cn, Nat.reduceMul, Nat.reduceAdd, Nat.reduceEqDiff, ↓reduceIte, pickB_or, pickB_and, Bool.and_eq_true, Bool.or_eq_true, Bool.or_eq_false_iff, Bool.and_eq_false_iff, Bool.not_eq_true', Bool.not_eq_false', decide_eq_true_eq, decide_eq_false_iff_not, Int.toNat_natCast, Int.reduceToNat, ne_eq] at ht ⊢; first | omega | (simp only [Int.toNat_natCast, Int.reduceToNat]; omega))) ?_; conv => whnf) | (refine ⟨_, shl1 (by omega), ?_⟩; conv => whnf) | (refine ⟨_, wru64 (by first | omega | (simp only [Int.toNat_natCast, Int.reduceToNat]; omega)) (by first | omega | (simp only [Int.toNat_natCast, Int.reduceToNat]; omega)), ?_⟩; conv => whnf) | (refine ⟨_, fun _ => (IntKind.wrap_u64 _).symm, ?_⟩; conv => whnf) | exact ⟨_, .keep rfl rfl⟩ | fail
  · have h4 : (acc (q + 1)).size ≤ _ := catL_take l (q + 1)
    have e1 : (acc (q + 1)).size = (acc q).size + (l.getD q Enc.d).size := by rw [h1 q (by omega), ByteArray.size_append]
    have e2 : catB n g (acc (q + 1)) = catB (n + (acc q).size) (catB n g (acc q)) (l.getD q Enc.d) := by rw [h1 q (by omega), catB_app]
    rw [e1] at h4
    refine CallW.chg ?_; (conv => whnf); refine CallM.mk _ _ _ (by repeat' first | exact trivial | exact ⟨_, rfl⟩ | exact rfl | refine And.intro ?_ ?_) (by exact rfl) (WriteString_S _ _ _ _ _ (by first | omega | (show n + (acc q).size + (l.getD q Enc.d).size ≤ _; omega))) ?_; conv => whnf
    repeat' first | (refine And.intro (fun (hb : _ = true) => ?_) (fun (hb : _ = false) => ?_) <;> (try simp only [pickB_or, pickB_and] at hb) <;> (have hc := hb; try simp only [Int.toNat_natCast, Int.reduceToNat, Bool.or_eq_false_iff, Bool.and_eq_false_iff, Bool.not_eq_false', decide_eq_true_eq, decide_eq_false_iff_not, Bool.not_eq_true', Bool.and_eq_true, Bool.or_eq_true] at hc) <;> first | (exfalso; omega) | conv => whnf) | (refine ⟨_, wr64 (by first | omega | (simp only [Int.toNat_natCast, Int.reduceToNat]; omega)) (by first | omega | (simp only [Int.toNat_natCast, Int.reduceToNat]; omega)), ?_⟩; conv => whnf) | (refine And.intro (by first | omega | (simp only [Int.toNat_natCast, Int.reduceToNat, addZ]; omega) | (simp only [ByteArray.size_append, size_mk, List.length_cons, List.length_nil, Int.toNat_natCast, Int.reduceToNat]; omega) | exact ⟨rfl, by omega⟩ | ((repeat' apply And.intro) <;> first | exact trivial | omega) | decide +kernel) ?_; conv => whnf) | (refine And.intro (fun (ht : tg _ _ = true) => by (simp only [tg_ite, tg_nil, cn, Nat.reduceMul, Nat.reduceAdd, Nat.reduceEqDiff, ↓reduceIte, pickB_or, pickB_and, Bool.and_eq_true, Bool.or_eq_true, Bool.or_eq_false_iff, Bool.and_eq_false_iff, Bool.not_eq_true', Bool.not_eq_false', decide_eq_true_eq, decide_eq_false_iff_not, Int.toNat_natCast, Int.reduceToNat, ne_eq] at ht ⊢; first | omega | (simp only [Int.toNat_natCast, Int.reduceToNat]; omega))) ?_; conv => whnf) | (refine ⟨_, shl1 (by omega), ?_⟩; conv => whnf) | (refine ⟨_, wru64 (by first | omega | (simp only [Int.toNat_natCast, Int.reduceToNat]; omega)) (by first | omega | (simp only [Int.toNat_natCast, Int.reduceToNat]; omega)), ?_⟩; conv => whnf) | (refine ⟨_, fun _ => (IntKind.wrap_u64 _).symm, ?_⟩; conv => whnf) | exact ⟨_, .keep rfl rfl⟩ | fail
    refine .mk (q + 1) (by omega) (by omega) ?_
    refine Ent.lp [] [] rfl rfl rfl ?_ ?_ <;> repeat' first | exact trivial | rfl | exact fun _ _ => rfl | omega | refine And.intro ?_ ?_ | (show (_ : Int) = _; first | omega | (simp only [Int.toNat_natCast]; omega))
    · rw [e1, Nat.add_assoc]; rfl
    · rw [e1, Nat.add_assoc]; rfl
    · rw [e2]; exact fun _ _ => rfl
  · have e : acc q = catL l := by simp only [acc]; rw [List.take_of_length_le (by omega)]
    have e3 : Nat.blt 0 q = true := by simp [Nat.blt_eq]; omega
    rw [e, e3]
    refine ⟨[], [], ?_, ?_, rfl⟩ <;> repeat' first | exact trivial | exact rfl | exact fun _ _ => rfl | omega | refine And.intro ?_ ?_ | (show (_ : Int) = _; first | omega | (simp only [Int.toNat_natCast]; omega))
end Go.Proofs.YtilhkmlghhdpaaaDoor

/- Layer 5: the text that a writer hands over. -/
namespace Go.Proofs.YtilhkmlghhdpaaaDoor
open Go.RowKit
set_option linter.unusedVariables false
set_option linter.unusedSimpArgs false
set_option maxRecDepth 100000
set_option maxHeartbeats 4000000
theorem liesAt_bytesO {P : Program} {e : TypeId} (hc : P.cellsOf e = 1) (count off n : Nat) (hn : off + n ≤ count) : liesAt P P.depth e count off e n = true := by
  have hd : P.depth = (2 * (P.types.size + Made.depth) + 1) + 1 := rfl
  rw [hd]
  simp only [liesAt, Bool.or_eq_true]
  left
  rw [hd]
  simp [Go.rowAt, hc, hn, sameLayout]
  exact .inl (Nat.mod_one off)
theorem run_unsafeString_rowO {P : Program} (w : World) (pt it ty e : TypeId) (hp : P.underlying pt = some (.pointer e)) (hc : P.cellsOf e = 1) (g off cells : Nat) (hsh : w.shape? g = some (e, cells)) (l : List UInt8) (h0 : l ≠ []) (hn : off + l.length ≤ cells) (h63 : l.length ≤ 9223372036854775807)
    (hcell : ∀ j x, l[j]? = some x → w.cell? ((⟨g, off, none⟩ : Addr).add j) = some (.int .u8 x.toNat)) :
    (Builtin.unsafeString_ #[pt, it] ty #[.pointer (some ⟨g, off, none⟩), .int .i64 l.length]).run P w = .ok (.string ⟨l.toArray⟩) (w.freeze ⟨g, off, none⟩ l.length) := by
  have hl : l.length ≠ 0 := by simpa using h0
  have hlb := Lib.run_loadBytes (P := P) w l ⟨g, off, none⟩ .empty hcell
  have hlies := liesAt_bytesO (P := P) hc (cells / P.cellsOf e) off l.length (by rw [hc]; simpa using hn)
  have h63' : ¬ (9223372036854775807 : Int) < (l.length : Int) := by omega
  have hdef : Builtin.unsafeString_ #[pt, it] ty #[.pointer (some ⟨g, off, none⟩), .int .i64 l.length] =
      (do
        let n ← asInt (.int .i64 l.length)
        if n < 0 then runtimePanic (.error "unsafe.String: len out of range")
        if n > IntKind.i64.max then unsupported (.unsafePointer "String: a length above the largest int")
        if n = 0 then pure (.string .empty)
        else if ← variablesAt ⟨g, off, none⟩ (← elemOf pt) n.toNat then do
          let s ← loadBytes ⟨g, off, none⟩ .empty n.toNat
          freeze ⟨g, off, none⟩ n.toNat
          pure (.string s)
        else unsupported (.unsafePointer "String: not so many bytes at ptr")) := rfl
  rw [hdef]
  have hmax : IntKind.i64.max = 9223372036854775807 := rfl
  have hneg : ¬ (l.length : Int) < 0 := by omega
  simp [asInt, asIntOf, hmax, h63', hneg, hl, variablesAt, hsh, elemOf, run_underlying hp, hlies, hlb]
/-- But for one block all is as it was. -/
def But (g : Option Nat) (w w' : World) : Prop := w'.os = w.os ∧ w'.tape = w.tape ∧ w'.output = w.output ∧ w.heap.size ≤ w'.heap.size ∧ ∀ k, k < w.heap.size → some k ≠ g → w'.heap[k]? = w.heap[k]?
theorem But.drew {g : Option Nat} (w : World) : But g w w.drew := ⟨rfl, rfl, rfl, Nat.le_refl _, fun _ _ _ => rfl⟩
theorem string_nil (b : Nat) (w : World) (c1 : w.drew.cell? ⟨b, 1, none⟩ = some (.slice none 0 0)) : Calls Tryd.prog 29 #[.pointer (some ⟨b, 0, none⟩)] w fun e w' => e = .returned (.string ⟨#[]⟩) ∧ But none w w' := by
  have hUS : ∀ (W : World) (q : Option Addr), (Builtin.unsafeString_ #[95, 3] 9 #[.pointer q, .int .i64 0]).run Tryd.prog W = .ok (.string .empty) W := fun W q => Lib.run_unsafeString_none W _ _ _ q
  have hSD : (Builtin.unsafeSliceData_ #[59] 95 #[.slice none 0 0]).run Tryd.prog w.drew = .ok (.pointer none) w.drew := rfl
  go_enter Tryd.func29, Tryd.ntmps29
  go_wp2
  go_region
  all_goals (go_wp2; go_ret; exact ⟨rfl, But.drew w⟩)
theorem string_room (b cap : Nat) (ad : Addr) (w : World) (hc0 : cap ≠ 0) (c1 : w.drew.cell? ⟨b, 1, none⟩ = some (.slice (some ad) 0 cap)) : Calls Tryd.prog 29 #[.pointer (some ⟨b, 0, none⟩)] w fun e w' => e = .returned (.string ⟨#[]⟩) ∧ But none w w' := by
  have hUS : ∀ (W : World) (q : Option Addr), (Builtin.unsafeString_ #[95, 3] 9 #[.pointer q, .int .i64 0]).run Tryd.prog W = .ok (.string .empty) W := fun W q => Lib.run_unsafeString_none W _ _ _ q
  have hSD : (Builtin.unsafeSliceData_ #[59] 95 #[.slice (some ad) 0 cap]).run Tryd.prog w.drew = .ok (.pointer (some ad)) w.drew := Lib.run_unsafeSliceData_row _ _ _ _ _ _ hc0
  clear hc0
  go_enter Tryd.func29, Tryd.ntmps29
  go_wp2
  go_region
  all_goals (go_wp2; go_ret; exact ⟨rfl, But.drew w⟩)
theorem string_noroom (b : Nat) (ad : Addr) (w : World) (sh : TypeId × Nat) (hsh : w.drew.shape? ad.block = some sh) (hlt : b < w.heap.size) (c1 : w.drew.cell? ⟨b, 1, none⟩ = some (.slice (some ad) 0 0)) : Calls Tryd.prog 29 #[.pointer (some ⟨b, 0, none⟩)] w fun e w' => e = .returned (.string ⟨#[]⟩) ∧ But none w w' := by
  have hUS : ∀ (W : World) (q : Option Addr), (Builtin.unsafeString_ #[95, 3] 9 #[.pointer q, .int .i64 0]).run Tryd.prog W = .ok (.string .empty) W := fun W q => Lib.run_unsafeString_none W _ _ _ q
  have hSD : (Builtin.unsafeSliceData_ #[59] 95 #[.slice (some ad) 0 0]).run Tryd.prog w.drew = .ok (.pointer (some ⟨w.drew.heap.size, 0, none⟩)) (w.drew.alloc (.view ad 5)) := Lib.run_unsafeSliceData_zero w.drew _ _ 5 Tryd.underlying95 ad 0 sh hsh
  have c2 : (w.drew.alloc (.view ad 5)).cell? ⟨b, 1, none⟩ = some (.slice (some ad) 0 0) := by
    have : (w.drew.alloc (.view ad 5)).heap[b]? = w.drew.heap[b]? := Below.heap_alloc w.drew _ b hlt
    rw [← c1]; simp only [World.cell?, this]
  have c3 : (w.alloc (.view ad 5)).drew.cell? ⟨b, 1, none⟩ = some (.slice (some ad) 0 0) := c2
  have c0 : w.cell? ⟨b, 1, none⟩ = some (.slice (some ad) 0 0) := c1
  clear hsh
  go_enter Tryd.func29, Tryd.ntmps29
  go_wp2
  go_region
  all_goals (go_wp2; go_ret; exact ⟨rfl, rfl, rfl, rfl, by (show w.heap.size ≤ (w.drew.alloc _).heap.size; rw [heap_push]; exact Nat.le_succ _), fun k hk _ => Below.heap_alloc w.drew _ k hk⟩)
theorem string_some (b g off cells cap : Nat) (w : World) (l : List UInt8) (h0 : l ≠ []) (hn : off + l.length ≤ cells) (hcap : cap ≠ 0) (h63 : l.length ≤ 9223372036854775807) (hsh : w.drew.shape? g = some (5, cells)) (hcell : ∀ j x, l[j]? = some x → w.drew.cell? ((⟨g, off, none⟩ : Addr).add j) = some (.int .u8 x.toNat))
    (c1 : w.drew.cell? ⟨b, 1, none⟩ = some (.slice (some ⟨g, off, none⟩) l.length cap)) : Calls Tryd.prog 29 #[.pointer (some ⟨b, 0, none⟩)] w fun e w' => e = .returned (.string ⟨l.toArray⟩) ∧ But (some g) w w' := by
  have hSD : (Builtin.unsafeSliceData_ #[59] 95 #[.slice (some ⟨g, off, none⟩) l.length cap]).run Tryd.prog w.drew = .ok (.pointer (some ⟨g, off, none⟩)) w.drew := Lib.run_unsafeSliceData_row _ _ _ _ _ _ hcap
  have hUS := run_unsafeString_rowO (P := Tryd.prog) w.drew 95 3 9 5 Tryd.underlying95 (by kernel_rfl) g off cells hsh l h0 hn h63 hcell
  clear hsh hcell hn
  go_enter Tryd.func29, Tryd.ntmps29
  go_wp2
  go_region
  all_goals (go_wp2; go_ret; refine ⟨rfl, ?_⟩)
  all_goals unfold World.freeze
  all_goals split
  all_goals first | exact But.drew w | exact ⟨rfl, rfl, rfl, by (show w.heap.size ≤ (w.heap.modify _ _).size; rw [Array.size_modify]; exact Nat.le_refl _), fun k hk hne => by
      simp only [Array.getElem?_modify]
      rw [if_neg (fun e => hne (by rw [e]))]; rfl⟩
def bytesF (s : ByteArray) : Nat → List AV := fun i => [.i .u8 (byteAt s i)]
/-- What was owned is given up: what is changed of it is of no account. -/
theorem Gam.gone {E : Env} {os : Os} {β : Nat → Wt} {w w' : World} {g : Option Nat} (h : Gam E [] [] os β act0 w) (hg : ∀ k, g = some k → k ∈ feet os β) (hb : But g w w') : Gam E [] [] [] β act0 w' := by
  obtain ⟨h1, h2, h3, h4, h5⟩ := hb
  refine ⟨h.size, h.defers, TbOk.nil, fun d c v hl => by simp [lk] at hl, fun id ob hl => by simp [lk] at hl, ⟨h1.trans h.below.os, h2.trans h.below.tape, h3.trans h.below.output, Nat.le_trans h.below.size h4, fun k hk hx => ?_⟩, fun k hk => by simp [feet] at hk, by simp [feet], by simp⟩
  refine (h5 k (Nat.lt_of_lt_of_le hk h.below.size) fun e => ?_).trans (h.below.block k hk hx)
  rcases (h.new k (hg k e.symm)).1 with q | q
  · omega
  · exact hx q
def wrQ (t : Bool) (m : ModE) : Os := [(1000, .box none (some 63) [adr t, .any, eL m.vars, eL m.exts, eL m.funcs])]
/-- .. but the writer's box stays. -/
theorem Gam.gone1 {E : Env} {β : Nat → Wt} {w w' : World} {g : Option Nat} {t : Bool} {n : Nat} {gg : Nat → List AV} {m : ModE} (h : Gam E [] [] (wrO t n gg m) β act0 w) (hg : ∀ k, g = some k → k ∈ (β 1001).foot) (hb : But g w w') : Gam E [] [] (wrQ t m) β act0 w' := by
  have hf : feet (wrO t n gg m) β = (β 1000).foot ++ ((β 1001).foot ++ []) := rfl
  have hf2 : feet (wrQ t m) β = (β 1000).foot ++ [] := rfl
  have nd := h.nodup
  rw [hf] at nd
  obtain ⟨h1, h2, h3, h4, h5⟩ := hb
  have hgf : ∀ k, g = some k → k ∈ feet (wrO t n gg m) β := fun k e => by rw [hf]; simp [hg k e]
  have hgn : ∀ k, g = some k → k ∉ (β 1000).foot := fun k e hx => by
    have := (List.nodup_append.1 nd).2.2 k hx k (by simp [hg k e])
    exact this rfl
  have hc : Comp (E.good (wrO t n gg m) β) w (E.good (wrQ t m) β) w' := ⟨h4, fun k hk hs => ⟨⟨hs.1, fun hx => hs.2 (by rw [hf]; rw [hf2] at hx; simp at hx ⊢; exact .inl hx)⟩, h5 k hk (fun e => hs.2 (hgf k e.symm))⟩⟩
  refine ⟨h.size, h.defers, TbOk.nil, fun d c v hl => by simp [lk] at hl, fun id ob hl => ?_, ⟨h1.trans h.below.os, h2.trans h.below.tape, h3.trans h.below.output, Nat.le_trans h.below.size h4, fun k hk hx => ?_⟩, fun k hk => ?_, ?_, by simp [wrQ]⟩
  · unfold wrQ at hl
    rw [lk_cons] at hl
    split at hl
    · rename_i e; subst e; cases hl
      obtain ⟨b, us, ty, e1, e2, e3, e4, e5⟩ := h.objs 1000 _ rfl
      have hbf : b ∈ (β 1000).foot := by rw [e2]; simp
      have hlt : b < w.heap.size := (h.new b (foot_feet (id := 1000) rfl b hbf)).2
      refine ⟨b, us, ty, e1, e2, (h5 b hlt (fun e => hgn b e.symm hbf)).trans e3, ?_, e5⟩
      obtain ⟨u0, cs', rfl, r0, u1, cs', rfl, r1, r2⟩ := e4
      exact ⟨u0, _, rfl, rel_mono hc _ _ r0, u1, _, rfl, rel_one r1 rfl, rels_mono hc _ _ r2⟩
    · simp [lk] at hl
  · refine (h5 k (Nat.lt_of_lt_of_le hk h.below.size) fun e => ?_).trans (h.below.block k hk hx)
    rcases (h.new k (hgf k e.symm)).1 with q | q
    · omega
    · exact hx q
  · rw [hf2, List.append_nil] at hk
    have := h.new k (by rw [hf]; simp [hk])
    exact ⟨this.1, Nat.lt_of_lt_of_le this.2 h4⟩
  · rw [hf2, List.append_nil]; exact (List.nodup_append.1 nd).1
theorem wrQClo {t : Bool} {m : ModE} {v : AV} (hv : noOwn v = true) : Clo v (wrQ t m) := by
  refine ⟨fun id hm => (Bool.noConfusion ((noOwn_men hv).symm.trans hm)), fun i ob h id hm => ?_⟩
  unfold wrQ at h ⊢
  rw [lk_cons] at h
  split at h
  · cases h
    have : id = 1000 := by
      simp only [omen, mens, men, eL, Bool.or_false] at hm
      cases t with
      | true => exact (Nat.eq_of_beq_eq_true hm).symm
      | false => cases hm
    subst this; rfl
  · simp [lk] at h
theorem String_S (t : Bool) (m : ModE) (s : ByteArray) : ASpecM Tryd.prog 29 [.op 1000 0] (wrO t s.size (bytesF s) m) (.s s) (wrQ t m) := by
  refine ASpecM.hand Tryd.call29 (wrQClo rfl) fun E β w us hw hg hus hv => ?_
  obtain ⟨u, us', rfl, e1, e2⟩ := hus
  unfold rels at e2; subst e2
  unfold rel at e1
  obtain ⟨hok, b, e1, rfl⟩ := e1
  obtain ⟨b', cs, ty, g1, g2, g3, g4, g5, g6, g7, g8⟩ := hg.objs 1000 _ rfl
  rw [e1] at g1
  cases g1
  obtain ⟨u0, cs', rfl, r0, u1, cs', rfl, r1, r2⟩ := g4
  unfold rel at r1
  obtain ⟨hok1, rfl⟩ := r1
  have hbd : w.drew.heap[b]? = w.heap[b]? := rfl
  have c1 : w.drew.cell? ⟨b, 1, none⟩ = some (.slice ((β 1001).a.map (·.add (0 * 1))) s.size ((β 1001).cap - 0)) := by rw [cell_blk (hbd.trans g3)]; rfl
  have hlt : b < w.heap.size := (hg.new b (foot_feet (id := 1000) rfl b (by rw [g2]; simp))).2
  obtain ⟨q1, q2, q3⟩ := hg.objs 1001 _ rfl
  have fin : ∀ {g : Option Nat} {r : ByteArray} (hr : r = s) (hgf : ∀ k, g = some k → k ∈ (β 1001).foot), Calls Tryd.prog 29 #[.pointer (some ⟨b, 0, none⟩)] w (fun e w' => e = .returned (.string r) ∧ But g w w') → Calls Tryd.prog 29 [Value.pointer (some ⟨b, 0, none⟩)].toArray w fun e w' => ∃ v, e = .returned v ∧ Gam E [] [] (wrQ t m) β act0 w' ∧ rel (E.good (wrQ t m) β) β w' (.s s) v := fun hr hgf h => by
    refine h.mono ?_
    rintro e w' ⟨rfl, hb⟩
    exact ⟨_, rfl, hg.gone1 hgf hb, by rw [hr]; rfl⟩
  have nilS : s.size = 0 → (⟨#[]⟩ : ByteArray) = s := fun h => by
    have : s.data = #[] := Array.eq_empty_of_size_eq_zero h
    cases s; simp_all
  rcases q3 with ⟨y1, y2, y3⟩ | ⟨g, off, cells, ty', us, y1, y2, y3, ⟨y4, y6⟩, y5⟩
  · have h0 : s.size = 0 := by omega
    rw [y1, y2, h0] at c1
    exact fin (nilS h0) (fun _ h => by cases h) (string_nil b w c1)
  · obtain rfl := y6 _ rfl
    rw [y1] at c1
    have c1 : w.drew.cell? ⟨b, 1, none⟩ = some (.slice (some ⟨g, off, none⟩) s.size (β 1001).cap) := c1
    have hgd : w.drew.heap[g]? = w.heap[g]? := rfl
    by_cases hs : s.size = 0
    · rw [hs] at c1
      by_cases hc : (β 1001).cap = 0
      · rw [hc] at c1
        exact fin (nilS hs) (fun _ h => by cases h) (string_noroom b ⟨g, off, none⟩ w (5, cells.length) (by simp only [World.shape?, hgd.trans y3, List.size_toArray]) hlt c1)
      · exact fin (nilS hs) (fun _ h => by cases h) (string_room b _ ⟨g, off, none⟩ w hc c1)
    · have hl : s.data.toList.length = s.size := Array.length_toList
      refine fin (g := some g) (r := ⟨s.data.toList.toArray⟩) (by cases s; rfl) (fun k hk => by cases hk; rw [y2]; simp) (string_some b g off cells.length (β 1001).cap w s.data.toList (fun e => hs (by rw [← hl, e]; rfl)) (by rw [hl, y4]; omega) (by omega) (by rw [hl]; unfold maxLen at q2; omega) (by simp only [World.shape?, hgd.trans y3, List.size_toArray]) (fun j x hx => ?_) (by rw [hl]; exact c1))
      have hj : j < s.size := by have := (List.getElem?_eq_some_iff.1 hx).1; omega
      obtain ⟨⟨z1, z2⟩, z3⟩ := y5 j hj
      obtain ⟨v, vs, e3, e4, e5⟩ := z3
      unfold rels at e5; subst e5
      unfold rel at e4; subst e4
      rw [add_none, cell_blk (hgd.trans y3)]
      have := z2 0 _ (by rw [e3]; rfl)
      rw [Nat.mul_one, Nat.add_zero] at this
      rw [this]
      simp only [byteAt, Int.toNat_natCast, List.getD_eq_getElem?_getD, hx, Option.getD_some]
/-- The texts of cells. -/
def strs : List (List AV) → List ByteArray
  | [] => []
  | [.s a] :: r => a :: strs r
  | _ :: r => ⟨#[]⟩ :: strs r
def okS : List (List AV) → Bool
  | [] => true
  | [.s _] :: r => okS r
  | _ :: _ => false
theorem okS_cons {c : List AV} {r : List (List AV)} (h : okS (c :: r) = true) : ∃ a, c = [.s a] ∧ okS r = true := by
  unfold okS at h
  split at h
  · rename_i e; cases e
  · rename_i a r' e; cases e; exact ⟨a, rfl, h⟩
  · cases h
theorem okS_len : ∀ {cs : List (List AV)}, okS cs = true → (strs cs).length = cs.length
  | [], _ => rfl
  | c :: r, h => by
    obtain ⟨a, rfl, h⟩ := okS_cons h
    simp only [strs, List.length_cons]; rw [okS_len (cs := r) h]
theorem okS_at : ∀ {cs : List (List AV)}, okS cs = true → ∀ i, i < cs.length → cs.getD i [] = [.s ((strs cs).getD i Enc.d)]
  | [], _, i, hi => by simp at hi
  | c :: r, h, i, hi => by
    obtain ⟨a, rfl, h⟩ := okS_cons h
    cases i with
    | zero => rfl
    | succ i => exact okS_at (cs := r) h i (by simpa using hi)
theorem okS_get {cs : List (List AV)} (h : okS cs = true) (i : Nat) (hi : i < cs.length) : litF cs i = Enc.enc ((strs cs).getD i Enc.d) := (litF_eq cs i hi).trans (okS_at h i hi)
theorem put_A (cs : List (List AV)) (nz : Option Bool) (k : Nat) (t : Bool) (n : Nat) (g : Nat → List AV) (m : ModE) (hok : (okS cs && Nat.beq k cs.length && Nat.blt 0 k && Nat.blt k 1000) = true) (hn : n + (catL (strs cs)).size ≤ 70368744177664) : ASpecM Tryd.prog 24 [.op 1000 0, .row nz 1 k (litF cs)] (wrO t n g m) (.tup []) (wrO true (n + (catL (strs cs)).size) (catB n g (catL (strs cs))) m) := by
  simp only [Bool.and_eq_true, Nat.beq_eq, Nat.blt_eq] at hok
  obtain ⟨⟨⟨h1, h2⟩, h3⟩, h4⟩ := hok
  have hl := okS_len h1
  obtain ⟨q1, q2, q3⟩ := put_S t n g m (strs cs) (by omega) (by omega) hn
  refine ⟨q1, q2, fun S β w us hob hap hus hvr => q3 S β w us hob hap ?_ hvr⟩
  obtain ⟨u, us', rfl, e1, u2, us2, rfl, e2, e3⟩ := hus
  refine ⟨u, _, rfl, e1, u2, us2, rfl, ?_, e3⟩
  unfold rel at e2
  obtain ⟨a, cap, vs, rfl, z1, z2, z3⟩ := e2
  subst h2
  rw [← hl] at z2 z3 ⊢
  exact ⟨a, cap, vs, rfl, (fun z hz => by cases hz), z2, fun i hi => ⟨(z3 i hi).1, (z3 i hi).2.1, by show rels S W0 w (Enc.enc ((strs cs).getD i Enc.d)) (vs i); rw [← okS_get h1 i (by omega)]; exact (z3 i hi).2.2⟩⟩
end Go.Proofs.YtilhkmlghhdpaaaDoor

/- Layer 5, the program: texts. -/
namespace Go.Proofs.YtilhkmlghhdpaaaDoor
open Go.RowKit
set_option linter.unusedVariables false
set_option linter.unusedSimpArgs false
set_option maxRecDepth 100000
set_option maxHeartbeats 4000000
theorem ItoaD_S (n : Int) (h : 0 ≤ n ∧ n ≤ 9223372036854775807) : ASpec Tryd.prog 25 [.i .i64 n] (.s (dec n.toNat)) [] := by
  have e : itoaB n = dec n.toNat := by unfold itoaB Lib.itoa dec; rw [if_neg (by omega)]
  rw [← e]; exact Itoa_S n (by omega) h.2
theorem Type_S (t : Int) (ht : -9223372036854775808 ≤ t ∧ t ≤ 9223372036854775807) : ASpec Tryd.prog 12 [.i .i64 t] (.s (tyT t)) [] := by
  refine ASpec.enter TYok mixed Tryd.func12 rfl Tryd.call12 Tryd.ntmps12 rfl (rs := [.tmp 2]) rfl (nodupB_ok rfl) (Clo.one rfl) (keep := [0, 2]) ?_; conv => whnf
  repeat' first | (refine And.intro (fun (hb : _ = true) => ?_) (fun (hb : _ = false) => ?_) <;> (try simp only [pickB_or, pickB_and] at hb) <;> (have hc := hb; try simp only [Int.toNat_natCast, Int.reduceToNat, Bool.or_eq_false_iff, Bool.and_eq_false_iff, Bool.not_eq_false', decide_eq_true_eq, decide_eq_false_iff_not, Bool.not_eq_true', Bool.and_eq_true, Bool.or_eq_true] at hc) <;> first | (exfalso; omega) | conv => whnf) | (refine ⟨_, wr64 (by first | omega | (simp only [Int.toNat_natCast, Int.reduceToNat]; omega)) (by first | omega | (simp only [Int.toNat_natCast, Int.reduceToNat]; omega)), ?_⟩; conv => whnf) | (refine And.intro (by first | omega | (simp only [Int.toNat_natCast, Int.reduceToNat, addZ]; omega) | (simp only [ByteArray.size_append, size_mk, List.length_cons, List.length_nil, Int.toNat_natCast, Int.reduceToNat]; omega) | exact ⟨rfl, by omega⟩ | ((repeat' apply And.intro) <;> first | exact trivial | omega) | decide +kernel) ?_; conv => whnf) | (refine And.intro (fun (ht : tg _ _ = true) => by (simp only [tg_ite, tg_nil, cn, Nat.reduceMul, Nat.reduceAdd, Nat.reduceEqDiff, ↓reduceIte, pickB_or, pickB_and, Bool.and_eq_true, Bool.or_eq_true, Bool.or_eq_false_iff, Bool.and_eq_false_iff, Bool.not_eq_true', Bool.not_eq_false', decide_eq_true_eq, decide_eq_false_iff_not, Int.toNat_natCast, Int.reduceToNat, ne_eq] at ht ⊢; first | omega | (simp only [Int.toNat_natCast, Int.reduceToNat]; omega))) ?_; conv => whnf) | (refine ⟨_, shl1 (by omega), ?_⟩; conv => whnf) | (refine ⟨_, wru64 (by first | omega | (simp only [Int.toNat_natCast, Int.reduceToNat]; omega)) (by first | omega | (simp only [Int.toNat_natCast, Int.reduceToNat]; omega)), ?_⟩; conv => whnf) | (refine ⟨_, fun _ => (IntKind.wrap_u64 _).symm, ?_⟩; conv => whnf) | exact ⟨_, .keep rfl rfl⟩ | fail
  · exact ⟨_, .keep (by (try simp only [pickB_or, pickB_and]); unfold tyT; repeat' (first | rfl | omega | split | (simp_all; done))) rfl⟩
  · exact ⟨_, .keep (by (try simp only [pickB_or, pickB_and]); unfold tyT; repeat' (first | rfl | omega | split | (simp_all; done))) rfl⟩
  · have h1 := dec_len t.toNat (by omega)
    repeat' first | (refine And.intro (fun (hb : _ = true) => ?_) (fun (hb : _ = false) => ?_) <;> (try simp only [pickB_or, pickB_and] at hb) <;> (have hc := hb; try simp only [Int.toNat_natCast, Int.reduceToNat, Bool.or_eq_false_iff, Bool.and_eq_false_iff, Bool.not_eq_false', decide_eq_true_eq, decide_eq_false_iff_not, Bool.not_eq_true', Bool.and_eq_true, Bool.or_eq_true] at hc) <;> first | (exfalso; omega) | conv => whnf) | (refine ⟨_, wr64 (by first | omega | (simp only [Int.toNat_natCast, Int.reduceToNat]; omega)) (by first | omega | (simp only [Int.toNat_natCast, Int.reduceToNat]; omega)), ?_⟩; conv => whnf) | (refine And.intro (by first | omega | (simp only [Int.toNat_natCast, Int.reduceToNat, addZ]; omega) | (simp only [ByteArray.size_append, size_mk, List.length_cons, List.length_nil, Int.toNat_natCast, Int.reduceToNat]; omega) | exact ⟨rfl, by omega⟩ | ((repeat' apply And.intro) <;> first | exact trivial | omega) | decide +kernel) ?_; conv => whnf) | (refine And.intro (fun (ht : tg _ _ = true) => by (simp only [tg_ite, tg_nil, cn, Nat.reduceMul, Nat.reduceAdd, Nat.reduceEqDiff, ↓reduceIte, pickB_or, pickB_and, Bool.and_eq_true, Bool.or_eq_true, Bool.or_eq_false_iff, Bool.and_eq_false_iff, Bool.not_eq_true', Bool.not_eq_false', decide_eq_true_eq, decide_eq_false_iff_not, Int.toNat_natCast, Int.reduceToNat, ne_eq] at ht ⊢; first | omega | (simp only [Int.toNat_natCast, Int.reduceToNat]; omega))) ?_; conv => whnf) | (refine ⟨_, shl1 (by omega), ?_⟩; conv => whnf) | (refine ⟨_, wru64 (by first | omega | (simp only [Int.toNat_natCast, Int.reduceToNat]; omega)) (by first | omega | (simp only [Int.toNat_natCast, Int.reduceToNat]; omega)), ?_⟩; conv => whnf) | (refine ⟨_, fun _ => (IntKind.wrap_u64 _).symm, ?_⟩; conv => whnf) | ((first | refine CallK.mk _ _ (fun _ => ItoaD_S _ (by omega)) ?_ | refine CallL.mk _ _ (fun _ => ItoaD_S _ (by omega)) rfl (fun _ _ h => nomatch h) ?_ | (refine CallW.lent ?_; (conv => whnf); refine CallL.mk _ _ (fun _ => ItoaD_S _ (by omega)) rfl (fun _ _ h => nomatch h) ?_) | (refine CallW.lent ?_; (conv => whnf); refine And.intro (by omega) ?_; (conv => whnf); refine CallL.mk _ _ (fun _ => ItoaD_S _ (by omega)) rfl (fun _ _ h => nomatch h) ?_)); conv => whnf) | exact ⟨_, .keep rfl rfl⟩ | fail
    exact ⟨_, .keep (by (try simp only [pickB_or, pickB_and]); unfold tyT; repeat' (first | rfl | omega | split | (simp_all; done))) rfl⟩
  · exact ⟨_, .keep (by (try simp only [pickB_or, pickB_and]); unfold tyT; repeat' (first | rfl | omega | split | (simp_all; done))) rfl⟩
theorem block_S (n : Int) (h : 0 ≤ n ∧ n ≤ 9223372036854775807) : ASpec Tryd.prog 27 [.i .i64 n] (.s (blkT n)) [] := by
  have d := dec_len n.toNat (by omega)
  refine ASpec.enter TYok mixed Tryd.func27 rfl Tryd.call27 Tryd.ntmps27 rfl (rs := [.tmp 2]) rfl (nodupB_ok rfl) (Clo.one rfl) (keep := [0, 2]) ?_; conv => whnf
  repeat' first | (refine And.intro (fun (hb : _ = true) => ?_) (fun (hb : _ = false) => ?_) <;> (try simp only [pickB_or, pickB_and] at hb) <;> (have hc := hb; try simp only [Int.toNat_natCast, Int.reduceToNat, Bool.or_eq_false_iff, Bool.and_eq_false_iff, Bool.not_eq_false', decide_eq_true_eq, decide_eq_false_iff_not, Bool.not_eq_true', Bool.and_eq_true, Bool.or_eq_true] at hc) <;> first | (exfalso; omega) | conv => whnf) | (refine ⟨_, wr64 (by first | omega | (simp only [Int.toNat_natCast, Int.reduceToNat]; omega)) (by first | omega | (simp only [Int.toNat_natCast, Int.reduceToNat]; omega)), ?_⟩; conv => whnf) | (refine And.intro (by first | omega | (simp only [Int.toNat_natCast, Int.reduceToNat, addZ]; omega) | (simp only [ByteArray.size_append, size_mk, List.length_cons, List.length_nil, Int.toNat_natCast, Int.reduceToNat]; omega) | exact ⟨rfl, by omega⟩ | ((repeat' apply And.intro) <;> first | exact trivial | omega) | decide +kernel) ?_; conv => whnf) | (refine And.intro (fun (ht : tg _ _ = true) => by (simp only [tg_ite, tg_nil, cn, Nat.reduceMul, Nat.reduceAdd, Nat.reduceEqDiff, ↓reduceIte, pickB_or, pickB_and, Bool.and_eq_true, Bool.or_eq_true, Bool.or_eq_false_iff, Bool.and_eq_false_iff, Bool.not_eq_true', Bool.not_eq_false', decide_eq_true_eq, decide_eq_false_iff_not, Int.toNat_natCast, Int.reduceToNat, ne_eq] at ht ⊢; first | omega | (simp only [Int.toNat_natCast, Int.reduceToNat]; omega))) ?_; conv => whnf) | (refine ⟨_, shl1 (by omega), ?_⟩; conv => whnf) | (refine ⟨_, wru64 (by first | omega | (simp only [Int.toNat_natCast, Int.reduceToNat]; omega)) (by first | omega | (simp only [Int.toNat_natCast, Int.reduceToNat]; omega)), ?_⟩; conv => whnf) | (refine ⟨_, fun _ => (IntKind.wrap_u64 _).symm, ?_⟩; conv => whnf) | ((first | refine CallK.mk _ _ (fun _ => ItoaD_S _ (by omega)) ?_ | refine CallL.mk _ _ (fun _ => ItoaD_S _ (by omega)) rfl (fun _ _ h => nomatch h) ?_ | (refine CallW.lent ?_; (conv => whnf); refine CallL.mk _ _ (fun _ => ItoaD_S _ (by omega)) rfl (fun _ _ h => nomatch h) ?_) | (refine CallW.lent ?_; (conv => whnf); refine And.intro (by omega) ?_; (conv => whnf); refine CallL.mk _ _ (fun _ => ItoaD_S _ (by omega)) rfl (fun _ _ h => nomatch h) ?_)); conv => whnf) | exact ⟨_, .keep rfl rfl⟩ | fail
theorem fmtU_S (u : Int) (h : 0 ≤ u ∧ u < 18446744073709551616) : ASpec Tryd.prog 68 [.i .u64 u, .i .i64 10] (.s (dec u.toNat)) [] := FormatUint_S u 10 ⟨h.1, h.2, rfl⟩
theorem value_S (b0 b1 : AV) (m : ModE) (v : Opd) (h : opR m v) (hm : siz m < 4294967296) : ASpec Tryd.prog 52 [.cp [b0, b1, eL m.vars, eL m.exts, eL m.funcs], eS v] (.s (valT m v)) [] := by
  have h1 := name_le m v.n.toNat
  have h2 := h.2
  have h3 := op1 h.1
  have h4 := op5 h.1
  have d1 := dec_len v.b.toNat (by omega)
  by_cases hk : v.k = 1
  · have h3 := h3 hk
    have d2 := dec_len v.n.toNat (by omega)
    refine ASpec.enter TYok mixed Tryd.func52 rfl Tryd.call52 Tryd.ntmps52 rfl (rs := [.tmp 4]) rfl (nodupB_ok rfl) (Clo.one rfl) (keep := [0, 1, 3, 4, 6]) ?_; conv => whnf
    repeat' first | (refine And.intro (fun (hb : _ = true) => ?_) (fun (hb : _ = false) => ?_) <;> (try simp only [pickB_or, pickB_and] at hb) <;> (have hc := hb; try simp only [Int.toNat_natCast, Int.reduceToNat, Bool.or_eq_false_iff, Bool.and_eq_false_iff, Bool.not_eq_false', decide_eq_true_eq, decide_eq_false_iff_not, Bool.not_eq_true', Bool.and_eq_true, Bool.or_eq_true] at hc) <;> first | (exfalso; omega) | conv => whnf) | (refine ⟨_, wr64 (by first | omega | (simp only [Int.toNat_natCast, Int.reduceToNat]; omega)) (by first | omega | (simp only [Int.toNat_natCast, Int.reduceToNat]; omega)), ?_⟩; conv => whnf) | (refine And.intro (by first | omega | (simp only [Int.toNat_natCast, Int.reduceToNat, addZ]; omega) | (simp only [ByteArray.size_append, size_mk, List.length_cons, List.length_nil, Int.toNat_natCast, Int.reduceToNat]; omega) | exact ⟨rfl, by omega⟩ | ((repeat' apply And.intro) <;> first | exact trivial | omega) | decide +kernel) ?_; conv => whnf) | (refine And.intro (fun (ht : tg _ _ = true) => by (simp only [tg_ite, tg_nil, cn, Nat.reduceMul, Nat.reduceAdd, Nat.reduceEqDiff, ↓reduceIte, pickB_or, pickB_and, Bool.and_eq_true, Bool.or_eq_true, Bool.or_eq_false_iff, Bool.and_eq_false_iff, Bool.not_eq_true', Bool.not_eq_false', decide_eq_true_eq, decide_eq_false_iff_not, Int.toNat_natCast, Int.reduceToNat, ne_eq] at ht ⊢; first | omega | (simp only [Int.toNat_natCast, Int.reduceToNat]; omega))) ?_; conv => whnf) | (refine ⟨_, shl1 (by omega), ?_⟩; conv => whnf) | (refine ⟨_, wru64 (by first | omega | (simp only [Int.toNat_natCast, Int.reduceToNat]; omega)) (by first | omega | (simp only [Int.toNat_natCast, Int.reduceToNat]; omega)), ?_⟩; conv => whnf) | (refine ⟨_, fun _ => (IntKind.wrap_u64 _).symm, ?_⟩; conv => whnf) | ((first | refine CallK.mk _ _ (fun _ => ItoaD_S _ (by omega)) ?_ | refine CallL.mk _ _ (fun _ => ItoaD_S _ (by omega)) rfl (fun _ _ h => nomatch h) ?_ | (refine CallW.lent ?_; (conv => whnf); refine CallL.mk _ _ (fun _ => ItoaD_S _ (by omega)) rfl (fun _ _ h => nomatch h) ?_) | (refine CallW.lent ?_; (conv => whnf); refine And.intro (by omega) ?_; (conv => whnf); refine CallL.mk _ _ (fun _ => ItoaD_S _ (by omega)) rfl (fun _ _ h => nomatch h) ?_)); conv => whnf) | exact ⟨_, .keep rfl rfl⟩ | fail
    exact ⟨_, .keep (by (try simp only [pickB_or, pickB_and]); unfold valT; repeat' (first | rfl | omega | split | (simp_all; done))) rfl⟩
  · by_cases hk2 : v.k = 2 ∨ v.k = 3 ∨ v.k = 4
    · refine ASpec.enter TYok mixed Tryd.func52 rfl Tryd.call52 Tryd.ntmps52 rfl (rs := [.tmp 4]) rfl (nodupB_ok rfl) (Clo.one rfl) (keep := [0, 1, 3, 4, 6]) ?_; conv => whnf
      repeat' first | (refine And.intro (fun (hb : _ = true) => ?_) (fun (hb : _ = false) => ?_) <;> (try simp only [pickB_or, pickB_and] at hb) <;> (have hc := hb; try simp only [Int.toNat_natCast, Int.reduceToNat, Bool.or_eq_false_iff, Bool.and_eq_false_iff, Bool.not_eq_false', decide_eq_true_eq, decide_eq_false_iff_not, Bool.not_eq_true', Bool.and_eq_true, Bool.or_eq_true] at hc) <;> first | (exfalso; omega) | conv => whnf) | (refine ⟨_, wr64 (by first | omega | (simp only [Int.toNat_natCast, Int.reduceToNat]; omega)) (by first | omega | (simp only [Int.toNat_natCast, Int.reduceToNat]; omega)), ?_⟩; conv => whnf) | (refine And.intro (by first | omega | (simp only [Int.toNat_natCast, Int.reduceToNat, addZ]; omega) | (simp only [ByteArray.size_append, size_mk, List.length_cons, List.length_nil, Int.toNat_natCast, Int.reduceToNat]; omega) | exact ⟨rfl, by omega⟩ | ((repeat' apply And.intro) <;> first | exact trivial | omega) | decide +kernel) ?_; conv => whnf) | (refine And.intro (fun (ht : tg _ _ = true) => by (simp only [tg_ite, tg_nil, cn, Nat.reduceMul, Nat.reduceAdd, Nat.reduceEqDiff, ↓reduceIte, pickB_or, pickB_and, Bool.and_eq_true, Bool.or_eq_true, Bool.or_eq_false_iff, Bool.and_eq_false_iff, Bool.not_eq_true', Bool.not_eq_false', decide_eq_true_eq, decide_eq_false_iff_not, Int.toNat_natCast, Int.reduceToNat, ne_eq] at ht ⊢; first | omega | (simp only [Int.toNat_natCast, Int.reduceToNat]; omega))) ?_; conv => whnf) | (refine ⟨_, shl1 (by omega), ?_⟩; conv => whnf) | (refine ⟨_, wru64 (by first | omega | (simp only [Int.toNat_natCast, Int.reduceToNat]; omega)) (by first | omega | (simp only [Int.toNat_natCast, Int.reduceToNat]; omega)), ?_⟩; conv => whnf) | (refine ⟨_, fun _ => (IntKind.wrap_u64 _).symm, ?_⟩; conv => whnf) | ((first | refine CallK.mk _ _ (fun _ => fmtU_S _ (by omega)) ?_ | refine CallL.mk _ _ (fun _ => fmtU_S _ (by omega)) rfl (fun _ _ h => nomatch h) ?_ | (refine CallW.lent ?_; (conv => whnf); refine CallL.mk _ _ (fun _ => fmtU_S _ (by omega)) rfl (fun _ _ h => nomatch h) ?_) | (refine CallW.lent ?_; (conv => whnf); refine And.intro (by omega) ?_; (conv => whnf); refine CallL.mk _ _ (fun _ => fmtU_S _ (by omega)) rfl (fun _ _ h => nomatch h) ?_)); conv => whnf) | exact ⟨_, .keep rfl rfl⟩ | fail
      all_goals exact ⟨_, .keep (by (try simp only [pickB_or, pickB_and]); unfold valT; repeat' (first | rfl | omega | split | (simp_all; done))) rfl⟩
    · have h4 := h4 hk (by omega) (by omega) (by omega)
      refine ASpec.enter TYok mixed Tryd.func52 rfl Tryd.call52 Tryd.ntmps52 rfl (rs := [.tmp 4]) rfl (nodupB_ok rfl) (Clo.one rfl) (keep := [0, 1, 3, 4, 6]) ?_; conv => whnf
      repeat' first | (refine And.intro (fun (hb : _ = true) => ?_) (fun (hb : _ = false) => ?_) <;> (try simp only [pickB_or, pickB_and] at hb) <;> (have hc := hb; try simp only [Int.toNat_natCast, Int.reduceToNat, Bool.or_eq_false_iff, Bool.and_eq_false_iff, Bool.not_eq_false', decide_eq_true_eq, decide_eq_false_iff_not, Bool.not_eq_true', Bool.and_eq_true, Bool.or_eq_true] at hc) <;> first | (exfalso; omega) | conv => whnf) | (refine ⟨_, wr64 (by first | omega | (simp only [Int.toNat_natCast, Int.reduceToNat]; omega)) (by first | omega | (simp only [Int.toNat_natCast, Int.reduceToNat]; omega)), ?_⟩; conv => whnf) | (refine And.intro (by first | omega | (simp only [Int.toNat_natCast, Int.reduceToNat, addZ]; omega) | (simp only [ByteArray.size_append, size_mk, List.length_cons, List.length_nil, Int.toNat_natCast, Int.reduceToNat]; omega) | exact ⟨rfl, by omega⟩ | ((repeat' apply And.intro) <;> first | exact trivial | omega) | decide +kernel) ?_; conv => whnf) | (refine And.intro (fun (ht : tg _ _ = true) => by (simp only [tg_ite, tg_nil, cn, Nat.reduceMul, Nat.reduceAdd, Nat.reduceEqDiff, ↓reduceIte, pickB_or, pickB_and, Bool.and_eq_true, Bool.or_eq_true, Bool.or_eq_false_iff, Bool.and_eq_false_iff, Bool.not_eq_true', Bool.not_eq_false', decide_eq_true_eq, decide_eq_false_iff_not, Int.toNat_natCast, Int.reduceToNat, ne_eq] at ht ⊢; first | omega | (simp only [Int.toNat_natCast, Int.reduceToNat]; omega))) ?_; conv => whnf) | (refine ⟨_, shl1 (by omega), ?_⟩; conv => whnf) | (refine ⟨_, wru64 (by first | omega | (simp only [Int.toNat_natCast, Int.reduceToNat]; omega)) (by first | omega | (simp only [Int.toNat_natCast, Int.reduceToNat]; omega)), ?_⟩; conv => whnf) | (refine ⟨_, fun _ => (IntKind.wrap_u64 _).symm, ?_⟩; conv => whnf) | ((first | refine CallK.mk _ _ (fun _ => ItoaD_S _ (by omega)) ?_ | refine CallL.mk _ _ (fun _ => ItoaD_S _ (by omega)) rfl (fun _ _ h => nomatch h) ?_ | (refine CallW.lent ?_; (conv => whnf); refine CallL.mk _ _ (fun _ => ItoaD_S _ (by omega)) rfl (fun _ _ h => nomatch h) ?_) | (refine CallW.lent ?_; (conv => whnf); refine And.intro (by omega) ?_; (conv => whnf); refine CallL.mk _ _ (fun _ => ItoaD_S _ (by omega)) rfl (fun _ _ h => nomatch h) ?_)); conv => whnf) | exact ⟨_, .keep rfl rfl⟩ | fail
      all_goals exact ⟨_, .keep (by (try simp only [pickB_or, pickB_and]); unfold valT; repeat' (first | rfl | omega | split | (simp_all; done))) rfl⟩
theorem values_S (b0 b1 : AV) (m : ModE) (l : List Opd) (h : ∀ i, i < l.length → opR m (l.getD i Enc.d)) (hm : siz m < 4294967296) (hs : (valuesT m l).size ≤ 70368744177664) (hl : l.length < 4294967296) : ASpec Tryd.prog 54 [.cp [b0, b1, eL m.vars, eL m.exts, eL m.funcs], eL l] (.s (valuesT m l)) [] := by
  have hmo := fun q (h : q ≤ l.length) => joinT_mono (z := ⟨#[]⟩) (f := valT m) (l := l) (d := Enc.d) h
  unfold valuesT at hs
  refine ASpec.enter TYok mixed Tryd.func54 rfl Tryd.call54 Tryd.ntmps54 rfl (rs := [.tmp 4]) rfl (nodupB_ok rfl) (Clo.one rfl) (keep := [0, 1, 4, 5, 6, 7, 8, 9, 10]) ?_; conv => whnf
  repeat' first | (refine And.intro (fun (hb : _ = true) => ?_) (fun (hb : _ = false) => ?_) <;> (try simp only [pickB_or, pickB_and] at hb) <;> (have hc := hb; try simp only [Int.toNat_natCast, Int.reduceToNat, Bool.or_eq_false_iff, Bool.and_eq_false_iff, Bool.not_eq_false', decide_eq_true_eq, decide_eq_false_iff_not, Bool.not_eq_true', Bool.and_eq_true, Bool.or_eq_true] at hc) <;> first | (exfalso; omega) | conv => whnf) | (refine ⟨_, wr64 (by first | omega | (simp only [Int.toNat_natCast, Int.reduceToNat]; omega)) (by first | omega | (simp only [Int.toNat_natCast, Int.reduceToNat]; omega)), ?_⟩; conv => whnf) | (refine And.intro (by first | omega | (simp only [Int.toNat_natCast, Int.reduceToNat, addZ]; omega) | (simp only [ByteArray.size_append, size_mk, List.length_cons, List.length_nil, Int.toNat_natCast, Int.reduceToNat]; omega) | exact ⟨rfl, by omega⟩ | ((repeat' apply And.intro) <;> first | exact trivial | omega) | decide +kernel) ?_; conv => whnf) | (refine And.intro (fun (ht : tg _ _ = true) => by (simp only [tg_ite, tg_nil, cn, Nat.reduceMul, Nat.reduceAdd, Nat.reduceEqDiff, ↓reduceIte, pickB_or, pickB_and, Bool.and_eq_true, Bool.or_eq_true, Bool.or_eq_false_iff, Bool.and_eq_false_iff, Bool.not_eq_true', Bool.not_eq_false', decide_eq_true_eq, decide_eq_false_iff_not, Int.toNat_natCast, Int.reduceToNat, ne_eq] at ht ⊢; first | omega | (simp only [Int.toNat_natCast, Int.reduceToNat]; omega))) ?_; conv => whnf) | (refine ⟨_, shl1 (by omega), ?_⟩; conv => whnf) | (refine ⟨_, wru64 (by first | omega | (simp only [Int.toNat_natCast, Int.reduceToNat]; omega)) (by first | omega | (simp only [Int.toNat_natCast, Int.reduceToNat]; omega)), ?_⟩; conv => whnf) | (refine ⟨_, fun _ => (IntKind.wrap_u64 _).symm, ?_⟩; conv => whnf) | exact ⟨_, .keep rfl rfl⟩ | fail
  refine lp [10, 5] (fun q : Nat => [.i .i64 q, .s (joinT ⟨#[]⟩ (valT m) l Enc.d q)]) (fun q => []) (fun q => q ≤ l.length) (fun q => l.length - q) 0 (by omega) ?_ fun q hq => ?_
  · refine Ent.lp [] [] rfl rfl rfl ?_ ?_ <;> repeat' first | exact trivial | rfl | exact fun _ _ => rfl | omega | refine And.intro ?_ ?_ | (show (_ : Int) = _; first | omega | (simp only [Int.toNat_natCast]; omega))
  conv => whnf
  have h1 := hmo q hq
  rcases Nat.lt_or_ge q l.length with hlt | hge
  · have h2 := valT_len (h q hlt)
    have h3 := h q hlt
    repeat' first | (refine And.intro (fun (hb : _ = true) => ?_) (fun (hb : _ = false) => ?_) <;> (try simp only [pickB_or, pickB_and] at hb) <;> (have hc := hb; try simp only [Int.toNat_natCast, Int.reduceToNat, Bool.or_eq_false_iff, Bool.and_eq_false_iff, Bool.not_eq_false', decide_eq_true_eq, decide_eq_false_iff_not, Bool.not_eq_true', Bool.and_eq_true, Bool.or_eq_true] at hc) <;> first | (exfalso; omega) | conv => whnf) | (refine ⟨_, wr64 (by first | omega | (simp only [Int.toNat_natCast, Int.reduceToNat]; omega)) (by first | omega | (simp only [Int.toNat_natCast, Int.reduceToNat]; omega)), ?_⟩; conv => whnf) | (refine And.intro (by first | omega | (simp only [Int.toNat_natCast, Int.reduceToNat, addZ]; omega) | (simp only [ByteArray.size_append, size_mk, List.length_cons, List.length_nil, Int.toNat_natCast, Int.reduceToNat]; omega) | exact ⟨rfl, by omega⟩ | ((repeat' apply And.intro) <;> first | exact trivial | omega) | decide +kernel) ?_; conv => whnf) | (refine And.intro (fun (ht : tg _ _ = true) => by (simp only [tg_ite, tg_nil, cn, Nat.reduceMul, Nat.reduceAdd, Nat.reduceEqDiff, ↓reduceIte, pickB_or, pickB_and, Bool.and_eq_true, Bool.or_eq_true, Bool.or_eq_false_iff, Bool.and_eq_false_iff, Bool.not_eq_true', Bool.not_eq_false', decide_eq_true_eq, decide_eq_false_iff_not, Int.toNat_natCast, Int.reduceToNat, ne_eq] at ht ⊢; first | omega | (simp only [Int.toNat_natCast, Int.reduceToNat]; omega))) ?_; conv => whnf) | (refine ⟨_, shl1 (by omega), ?_⟩; conv => whnf) | (refine ⟨_, wru64 (by first | omega | (simp only [Int.toNat_natCast, Int.reduceToNat]; omega)) (by first | omega | (simp only [Int.toNat_natCast, Int.reduceToNat]; omega)), ?_⟩; conv => whnf) | (refine ⟨_, fun _ => (IntKind.wrap_u64 _).symm, ?_⟩; conv => whnf) | ((first | refine CallK.mk _ _ (fun _ => value_S _ _ m _ h3 hm) ?_ | refine CallL.mk _ _ (fun _ => value_S _ _ m _ h3 hm) rfl (fun _ _ h => nomatch h) ?_ | (refine CallW.lent ?_; (conv => whnf); refine CallL.mk _ _ (fun _ => value_S _ _ m _ h3 hm) rfl (fun _ _ h => nomatch h) ?_) | (refine CallW.lent ?_; (conv => whnf); refine And.intro (by omega) ?_; (conv => whnf); refine CallL.mk _ _ (fun _ => value_S _ _ m _ h3 hm) rfl (fun _ _ h => nomatch h) ?_)); conv => whnf) | exact ⟨_, .keep rfl rfl⟩ | fail
    · have e : joinT ⟨#[]⟩ (valT m) l Enc.d (q + 1) = (joinT ⟨#[]⟩ (valT m) l Enc.d q ++ (⟨#[44, 32]⟩ : ByteArray)) ++ valT m (l.getD q Enc.d) := by rw [joinT, if_pos (by omega)]
      refine .mk (q + 1) (by omega) (by omega) ?_
      rw [e]
      refine Ent.lp [] [] rfl rfl rfl ?_ ?_ <;> repeat' first | exact trivial | rfl | exact fun _ _ => rfl | omega | refine And.intro ?_ ?_ | (show (_ : Int) = _; first | omega | (simp only [Int.toNat_natCast]; omega))
    · have e : joinT ⟨#[]⟩ (valT m) l Enc.d (q + 1) = joinT ⟨#[]⟩ (valT m) l Enc.d q ++ valT m (l.getD q Enc.d) := by rw [joinT, if_neg (by omega)]
      refine .mk (q + 1) (by omega) (by omega) ?_
      rw [e]
      refine Ent.lp [] [] rfl rfl rfl ?_ ?_ <;> repeat' first | exact trivial | rfl | exact fun _ _ => rfl | omega | refine And.intro ?_ ?_ | (show (_ : Int) = _; first | omega | (simp only [Int.toNat_natCast]; omega))
  · have e : q = l.length := by omega
    subst e
    repeat' first | (refine And.intro (fun (hb : _ = true) => ?_) (fun (hb : _ = false) => ?_) <;> (try simp only [pickB_or, pickB_and] at hb) <;> (have hc := hb; try simp only [Int.toNat_natCast, Int.reduceToNat, Bool.or_eq_false_iff, Bool.and_eq_false_iff, Bool.not_eq_false', decide_eq_true_eq, decide_eq_false_iff_not, Bool.not_eq_true', Bool.and_eq_true, Bool.or_eq_true] at hc) <;> first | (exfalso; omega) | conv => whnf) | (refine ⟨_, wr64 (by first | omega | (simp only [Int.toNat_natCast, Int.reduceToNat]; omega)) (by first | omega | (simp only [Int.toNat_natCast, Int.reduceToNat]; omega)), ?_⟩; conv => whnf) | (refine And.intro (by first | omega | (simp only [Int.toNat_natCast, Int.reduceToNat, addZ]; omega) | (simp only [ByteArray.size_append, size_mk, List.length_cons, List.length_nil, Int.toNat_natCast, Int.reduceToNat]; omega) | exact ⟨rfl, by omega⟩ | ((repeat' apply And.intro) <;> first | exact trivial | omega) | decide +kernel) ?_; conv => whnf) | (refine And.intro (fun (ht : tg _ _ = true) => by (simp only [tg_ite, tg_nil, cn, Nat.reduceMul, Nat.reduceAdd, Nat.reduceEqDiff, ↓reduceIte, pickB_or, pickB_and, Bool.and_eq_true, Bool.or_eq_true, Bool.or_eq_false_iff, Bool.and_eq_false_iff, Bool.not_eq_true', Bool.not_eq_false', decide_eq_true_eq, decide_eq_false_iff_not, Int.toNat_natCast, Int.reduceToNat, ne_eq] at ht ⊢; first | omega | (simp only [Int.toNat_natCast, Int.reduceToNat]; omega))) ?_; conv => whnf) | (refine ⟨_, shl1 (by omega), ?_⟩; conv => whnf) | (refine ⟨_, wru64 (by first | omega | (simp only [Int.toNat_natCast, Int.reduceToNat]; omega)) (by first | omega | (simp only [Int.toNat_natCast, Int.reduceToNat]; omega)), ?_⟩; conv => whnf) | (refine ⟨_, fun _ => (IntKind.wrap_u64 _).symm, ?_⟩; conv => whnf) | exact ⟨_, .keep rfl rfl⟩ | fail
theorem callee_S (b0 b1 : AV) (m : ModE) (n : Int) (h : (0 ≤ n ∧ n < m.funcs.length) ∨ (n < 0 ∧ -(m.exts.length : Int) ≤ n)) (hm : siz m < 4294967296) : ASpec Tryd.prog 53 [.cp [b0, b1, eL m.vars, eL m.exts, eL m.funcs], .i .i64 n] (.s (calT m n)) [] := by
  have q2 := len_siz m.exts
  have q4 := len_siz m.funcs
  have q3 : siz m = siz m.vars + siz m.exts + siz m.funcs := rfl
  refine ASpec.enter TYok mixed Tryd.func53 rfl Tryd.call53 Tryd.ntmps53 rfl (rs := [.tmp 4]) rfl (nodupB_ok rfl) (Clo.one rfl) (keep := [0, 1, 4]) ?_; conv => whnf
  repeat' first | (refine And.intro (fun (hb : _ = true) => ?_) (fun (hb : _ = false) => ?_) <;> (try simp only [pickB_or, pickB_and] at hb) <;> (have hc := hb; try simp only [Int.toNat_natCast, Int.reduceToNat, Bool.or_eq_false_iff, Bool.and_eq_false_iff, Bool.not_eq_false', decide_eq_true_eq, decide_eq_false_iff_not, Bool.not_eq_true', Bool.and_eq_true, Bool.or_eq_true] at hc) <;> first | (exfalso; omega) | conv => whnf) | (refine ⟨_, wr64 (by first | omega | (simp only [Int.toNat_natCast, Int.reduceToNat]; omega)) (by first | omega | (simp only [Int.toNat_natCast, Int.reduceToNat]; omega)), ?_⟩; conv => whnf) | (refine And.intro (by first | omega | (simp only [Int.toNat_natCast, Int.reduceToNat, addZ]; omega) | (simp only [ByteArray.size_append, size_mk, List.length_cons, List.length_nil, Int.toNat_natCast, Int.reduceToNat]; omega) | exact ⟨rfl, by omega⟩ | ((repeat' apply And.intro) <;> first | exact trivial | omega) | decide +kernel) ?_; conv => whnf) | (refine And.intro (fun (ht : tg _ _ = true) => by (simp only [tg_ite, tg_nil, cn, Nat.reduceMul, Nat.reduceAdd, Nat.reduceEqDiff, ↓reduceIte, pickB_or, pickB_and, Bool.and_eq_true, Bool.or_eq_true, Bool.or_eq_false_iff, Bool.and_eq_false_iff, Bool.not_eq_true', Bool.not_eq_false', decide_eq_true_eq, decide_eq_false_iff_not, Int.toNat_natCast, Int.reduceToNat, ne_eq] at ht ⊢; first | omega | (simp only [Int.toNat_natCast, Int.reduceToNat]; omega))) ?_; conv => whnf) | (refine ⟨_, shl1 (by omega), ?_⟩; conv => whnf) | (refine ⟨_, wru64 (by first | omega | (simp only [Int.toNat_natCast, Int.reduceToNat]; omega)) (by first | omega | (simp only [Int.toNat_natCast, Int.reduceToNat]; omega)), ?_⟩; conv => whnf) | (refine ⟨_, fun _ => (IntKind.wrap_u64 _).symm, ?_⟩; conv => whnf) | exact ⟨_, .keep rfl rfl⟩ | fail
  all_goals exact ⟨_, .keep (by (try simp only [pickB_or, pickB_and]); unfold calT; repeat' (first | rfl | omega | split | (simp_all; done))) rfl⟩
end Go.Proofs.YtilhkmlghhdpaaaDoor

/- Layer 5, the program: the writer. -/
namespace Go.Proofs.YtilhkmlghhdpaaaDoor
open Go.RowKit
set_option linter.unusedVariables false
set_option linter.unusedSimpArgs false
set_option maxRecDepth 100000
set_option maxHeartbeats 4000000
theorem nil_app (a : ByteArray) : (⟨#[]⟩ : ByteArray) ++ a = a := ByteArray.empty_append
theorem catL_size (l : List ByteArray) : (catL l).size = (l.map ByteArray.size).sum := by unfold catL; rw [foldl_app]; exact Nat.zero_add _
theorem fin1 {n : Nat} {a b : ByteArray} (h : a = b) : n + a.size = n + b.size := by rw [h]
theorem fin2 {n k : Nat} {g : Nat → List AV} {a b : ByteArray} (h : a = b) : ∀ i, i < k → catB n g a i = catB n g b i := by rw [h]; exact fun _ _ => rfl
/-- Texts behind what a call has written so far. -/
theorem put_B (cs : List (List AV)) (nz : Option Bool) (k : Nat) (t : Bool) (n : Nat) (g : Nat → List AV) (m : ModE) (a : ByteArray) (hok : (okS cs && Nat.beq k cs.length && Nat.blt 0 k && Nat.blt k 1000) = true) (hn : n + (a ++ catL (strs cs)).size ≤ 70368744177664) : ASpecM Tryd.prog 24 [.op 1000 0, .row nz 1 k (litF cs)] (wrO t (n + a.size) (catB n g a) m) (.tup []) (wrO true (n + (a ++ catL (strs cs)).size) (catB n g (a ++ catL (strs cs))) m) := by
  have h := put_A cs nz k t (n + a.size) (catB n g a) m hok (by rw [ByteArray.size_append] at hn; omega)
  rw [catB_app, Nat.add_assoc, ← ByteArray.size_append] at h
  exact h
theorem head_S (n : Nat) (g : Nat → List AV) (m : ModE) (name : ByteArray) (params : List Int) (ret : Int) (hr : ∀ t ∈ ret :: params, -9223372036854775808 ≤ t ∧ t ≤ 9223372036854775807) (hs : n + (saidT name params ret).size ≤ 70368744177664) (hp : params.length < 4294967296) : ASpecM Tryd.prog 26 [.op 1000 0, .s name, eL params, .i .i64 ret] (wrO true n g m) (.tup []) (wrO true (n + (saidT name params ret).size) (catB n g (saidT name params ret)) m) := by
  let J := joinT (name ++ (⟨#[40]⟩ : ByteArray)) tyT params Enc.d
  have hm : ∀ q, q ≤ params.length → (J q).size ≤ (J params.length).size := fun q (h : q ≤ params.length) => joinT_mono (z := name ++ (⟨#[40]⟩ : ByteArray)) (f := tyT) (l := params) (d := Enc.d) h
  have h0 := hm 0 (Nat.zero_le _)
  have hst : ∀ q, (J (q + 1)).size = (J q).size + (if 0 < q then 2 else 0) + (tyT (params.getD q Enc.d)).size := fun q => joinT_step
  have h2 : (saidT name params ret).size = (J params.length).size + (tyT ret).size + 3 := by
    unfold saidT; show (((J params.length ++ _) ++ _) ++ _).size = _; simp only [ByteArray.size_append, size_mk, List.length_cons, List.length_nil]; omega
  have z0 : J 0 = catL (strs [[.s name], [.s (⟨#[40]⟩ : ByteArray)]]) := by show name ++ (⟨#[40]⟩ : ByteArray) = ((⟨#[]⟩ : ByteArray) ++ name) ++ (⟨#[40]⟩ : ByteArray); rw [nil_app]
  refine ASpecM.enter TYok mixed Tryd.func26 rfl Tryd.call26 Tryd.ntmps26 rfl (rs := []) rfl (wrClo rfl) rfl (keep := [0, 1, 2, 3, 8, 9, 14, 15, 16]) fun pin => ?_; conv => whnf
  repeat' first | (refine And.intro (fun (hb : _ = true) => ?_) (fun (hb : _ = false) => ?_) <;> (try simp only [pickB_or, pickB_and] at hb) <;> (have hc := hb; try simp only [Int.toNat_natCast, Int.reduceToNat, Bool.or_eq_false_iff, Bool.and_eq_false_iff, Bool.not_eq_false', decide_eq_true_eq, decide_eq_false_iff_not, Bool.not_eq_true', Bool.and_eq_true, Bool.or_eq_true] at hc) <;> first | (exfalso; omega) | conv => whnf) | (refine ⟨_, wr64 (by first | omega | (simp only [Int.toNat_natCast, Int.reduceToNat]; omega)) (by first | omega | (simp only [Int.toNat_natCast, Int.reduceToNat]; omega)), ?_⟩; conv => whnf) | (refine And.intro (by first | omega | (simp only [Int.toNat_natCast, Int.reduceToNat, addZ]; omega) | (simp only [ByteArray.size_append, size_mk, List.length_cons, List.length_nil, Int.toNat_natCast, Int.reduceToNat]; omega) | exact ⟨rfl, by omega⟩ | ((repeat' apply And.intro) <;> first | exact trivial | omega) | decide +kernel) ?_; conv => whnf) | (refine And.intro (fun (ht : tg _ _ = true) => by (simp only [tg_ite, tg_nil, cn, Nat.reduceMul, Nat.reduceAdd, Nat.reduceEqDiff, ↓reduceIte, pickB_or, pickB_and, Bool.and_eq_true, Bool.or_eq_true, Bool.or_eq_false_iff, Bool.and_eq_false_iff, Bool.not_eq_true', Bool.not_eq_false', decide_eq_true_eq, decide_eq_false_iff_not, Int.toNat_natCast, Int.reduceToNat, ne_eq] at ht ⊢; first | omega | (simp only [Int.toNat_natCast, Int.reduceToNat]; omega))) ?_; conv => whnf) | (refine ⟨_, shl1 (by omega), ?_⟩; conv => whnf) | (refine ⟨_, wru64 (by first | omega | (simp only [Int.toNat_natCast, Int.reduceToNat]; omega)) (by first | omega | (simp only [Int.toNat_natCast, Int.reduceToNat]; omega)), ?_⟩; conv => whnf) | (refine ⟨_, fun _ => (IntKind.wrap_u64 _).symm, ?_⟩; conv => whnf) | exact ⟨_, .keep rfl rfl⟩ | fail
  refine CallW.chg ?_; (conv => whnf); refine CallM.mk _ _ _ (by repeat' first | exact trivial | exact ⟨_, rfl⟩ | exact rfl | refine And.intro ?_ ?_) (by exact rfl) (put_A [[.s name], [.s (⟨#[40]⟩ : ByteArray)]] _ _ _ n g m (by exact rfl) (by rw [← z0]; omega)) ?_; conv => whnf
  rw [← z0]
  repeat' first | (refine And.intro (fun (hb : _ = true) => ?_) (fun (hb : _ = false) => ?_) <;> (try simp only [pickB_or, pickB_and] at hb) <;> (have hc := hb; try simp only [Int.toNat_natCast, Int.reduceToNat, Bool.or_eq_false_iff, Bool.and_eq_false_iff, Bool.not_eq_false', decide_eq_true_eq, decide_eq_false_iff_not, Bool.not_eq_true', Bool.and_eq_true, Bool.or_eq_true] at hc) <;> first | (exfalso; omega) | conv => whnf) | (refine ⟨_, wr64 (by first | omega | (simp only [Int.toNat_natCast, Int.reduceToNat]; omega)) (by first | omega | (simp only [Int.toNat_natCast, Int.reduceToNat]; omega)), ?_⟩; conv => whnf) | (refine And.intro (by first | omega | (simp only [Int.toNat_natCast, Int.reduceToNat, addZ]; omega) | (simp only [ByteArray.size_append, size_mk, List.length_cons, List.length_nil, Int.toNat_natCast, Int.reduceToNat]; omega) | exact ⟨rfl, by omega⟩ | ((repeat' apply And.intro) <;> first | exact trivial | omega) | decide +kernel) ?_; conv => whnf) | (refine And.intro (fun (ht : tg _ _ = true) => by (simp only [tg_ite, tg_nil, cn, Nat.reduceMul, Nat.reduceAdd, Nat.reduceEqDiff, ↓reduceIte, pickB_or, pickB_and, Bool.and_eq_true, Bool.or_eq_true, Bool.or_eq_false_iff, Bool.and_eq_false_iff, Bool.not_eq_true', Bool.not_eq_false', decide_eq_true_eq, decide_eq_false_iff_not, Int.toNat_natCast, Int.reduceToNat, ne_eq] at ht ⊢; first | omega | (simp only [Int.toNat_natCast, Int.reduceToNat]; omega))) ?_; conv => whnf) | (refine ⟨_, shl1 (by omega), ?_⟩; conv => whnf) | (refine ⟨_, wru64 (by first | omega | (simp only [Int.toNat_natCast, Int.reduceToNat]; omega)) (by first | omega | (simp only [Int.toNat_natCast, Int.reduceToNat]; omega)), ?_⟩; conv => whnf) | (refine ⟨_, fun _ => (IntKind.wrap_u64 _).symm, ?_⟩; conv => whnf) | exact ⟨_, .keep rfl rfl⟩ | fail
  refine lp [16] (fun q : Nat => [.i .i64 q]) (fun q => wrP pin true (n + (J q).size) (catB n g (J q)) m) (fun q => q ≤ params.length) (fun q => params.length - q) 0 (by omega) ?_ fun q hq => ?_
  · refine Ent.lp [] [] rfl rfl rfl ?_ ?_ <;> repeat' first | exact trivial | rfl | exact fun _ _ => rfl | omega | refine And.intro ?_ ?_ | (show (_ : Int) = _; first | omega | (simp only [Int.toNat_natCast]; omega))
  conv => whnf
  have h1 := hm q hq
  rcases Nat.lt_or_ge q params.length with hlt | hge
  · have p1 := hm (q + 1) hlt
    rw [hst q] at p1
    have p2 := hr (params.getD q Enc.d) (List.mem_cons_of_mem _ (by rw [List.getD_eq_getElem?_getD, List.getElem?_eq_getElem hlt]; exact List.getElem_mem hlt))
    repeat' first | (refine And.intro (fun (hb : _ = true) => ?_) (fun (hb : _ = false) => ?_) <;> (try simp only [pickB_or, pickB_and] at hb) <;> (have hc := hb; try simp only [Int.toNat_natCast, Int.reduceToNat, Bool.or_eq_false_iff, Bool.and_eq_false_iff, Bool.not_eq_false', decide_eq_true_eq, decide_eq_false_iff_not, Bool.not_eq_true', Bool.and_eq_true, Bool.or_eq_true] at hc) <;> first | (exfalso; omega) | conv => whnf) | (refine ⟨_, wr64 (by first | omega | (simp only [Int.toNat_natCast, Int.reduceToNat]; omega)) (by first | omega | (simp only [Int.toNat_natCast, Int.reduceToNat]; omega)), ?_⟩; conv => whnf) | (refine And.intro (by first | omega | (simp only [Int.toNat_natCast, Int.reduceToNat, addZ]; omega) | (simp only [ByteArray.size_append, size_mk, List.length_cons, List.length_nil, Int.toNat_natCast, Int.reduceToNat]; omega) | exact ⟨rfl, by omega⟩ | ((repeat' apply And.intro) <;> first | exact trivial | omega) | decide +kernel) ?_; conv => whnf) | (refine And.intro (fun (ht : tg _ _ = true) => by (simp only [tg_ite, tg_nil, cn, Nat.reduceMul, Nat.reduceAdd, Nat.reduceEqDiff, ↓reduceIte, pickB_or, pickB_and, Bool.and_eq_true, Bool.or_eq_true, Bool.or_eq_false_iff, Bool.and_eq_false_iff, Bool.not_eq_true', Bool.not_eq_false', decide_eq_true_eq, decide_eq_false_iff_not, Int.toNat_natCast, Int.reduceToNat, ne_eq] at ht ⊢; first | omega | (simp only [Int.toNat_natCast, Int.reduceToNat]; omega))) ?_; conv => whnf) | (refine ⟨_, shl1 (by omega), ?_⟩; conv => whnf) | (refine ⟨_, wru64 (by first | omega | (simp only [Int.toNat_natCast, Int.reduceToNat]; omega)) (by first | omega | (simp only [Int.toNat_natCast, Int.reduceToNat]; omega)), ?_⟩; conv => whnf) | (refine ⟨_, fun _ => (IntKind.wrap_u64 _).symm, ?_⟩; conv => whnf) | ((first | refine CallK.mk _ _ (fun _ => Type_S _ (by first | omega | (simp only [Int.toNat_natCast, Int.reduceToNat]; omega))) ?_ | refine CallL.mk _ _ (fun _ => Type_S _ (by first | omega | (simp only [Int.toNat_natCast, Int.reduceToNat]; omega))) rfl (fun _ _ h => nomatch h) ?_ | (refine CallW.lent ?_; (conv => whnf); refine CallL.mk _ _ (fun _ => Type_S _ (by first | omega | (simp only [Int.toNat_natCast, Int.reduceToNat]; omega))) rfl (fun _ _ h => nomatch h) ?_) | (refine CallW.lent ?_; (conv => whnf); refine And.intro (by omega) ?_; (conv => whnf); refine CallL.mk _ _ (fun _ => Type_S _ (by first | omega | (simp only [Int.toNat_natCast, Int.reduceToNat]; omega))) rfl (fun _ _ h => nomatch h) ?_)); conv => whnf) | exact ⟨_, .keep rfl rfl⟩ | fail
    · rw [if_pos (by omega)] at p1
      have e : J (q + 1) = (J q ++ (⟨#[44, 32]⟩ : ByteArray)) ++ tyT (params.getD q Enc.d) := by show joinT _ _ _ _ _ = _; rw [joinT, if_pos (by omega)]
      refine CallW.chg ?_; (conv => whnf); refine CallM.mk _ _ _ (by repeat' first | exact trivial | exact ⟨_, rfl⟩ | exact rfl | refine And.intro ?_ ?_) (by exact rfl) (put_B [[.s (⟨#[44, 32]⟩ : ByteArray)]] _ _ _ n g m (J q) (by exact rfl) (by first | omega | (simp only [ByteArray.size_append, catL_size, strs, List.map_cons, List.map_nil, List.sum_cons, List.sum_nil, size_mk, List.length_cons, List.length_nil, Int.toNat_natCast, Int.reduceToNat]; omega))) ?_; conv => whnf
      repeat' first | (refine And.intro (fun (hb : _ = true) => ?_) (fun (hb : _ = false) => ?_) <;> (try simp only [pickB_or, pickB_and] at hb) <;> (have hc := hb; try simp only [Int.toNat_natCast, Int.reduceToNat, Bool.or_eq_false_iff, Bool.and_eq_false_iff, Bool.not_eq_false', decide_eq_true_eq, decide_eq_false_iff_not, Bool.not_eq_true', Bool.and_eq_true, Bool.or_eq_true] at hc) <;> first | (exfalso; omega) | conv => whnf) | (refine ⟨_, wr64 (by first | omega | (simp only [Int.toNat_natCast, Int.reduceToNat]; omega)) (by first | omega | (simp only [Int.toNat_natCast, Int.reduceToNat]; omega)), ?_⟩; conv => whnf) | (refine And.intro (by first | omega | (simp only [Int.toNat_natCast, Int.reduceToNat, addZ]; omega) | (simp only [ByteArray.size_append, size_mk, List.length_cons, List.length_nil, Int.toNat_natCast, Int.reduceToNat]; omega) | exact ⟨rfl, by omega⟩ | ((repeat' apply And.intro) <;> first | exact trivial | omega) | decide +kernel) ?_; conv => whnf) | (refine And.intro (fun (ht : tg _ _ = true) => by (simp only [tg_ite, tg_nil, cn, Nat.reduceMul, Nat.reduceAdd, Nat.reduceEqDiff, ↓reduceIte, pickB_or, pickB_and, Bool.and_eq_true, Bool.or_eq_true, Bool.or_eq_false_iff, Bool.and_eq_false_iff, Bool.not_eq_true', Bool.not_eq_false', decide_eq_true_eq, decide_eq_false_iff_not, Int.toNat_natCast, Int.reduceToNat, ne_eq] at ht ⊢; first | omega | (simp only [Int.toNat_natCast, Int.reduceToNat]; omega))) ?_; conv => whnf) | (refine ⟨_, shl1 (by omega), ?_⟩; conv => whnf) | (refine ⟨_, wru64 (by first | omega | (simp only [Int.toNat_natCast, Int.reduceToNat]; omega)) (by first | omega | (simp only [Int.toNat_natCast, Int.reduceToNat]; omega)), ?_⟩; conv => whnf) | (refine ⟨_, fun _ => (IntKind.wrap_u64 _).symm, ?_⟩; conv => whnf) | ((first | refine CallK.mk _ _ (fun _ => Type_S _ (by first | omega | (simp only [Int.toNat_natCast, Int.reduceToNat]; omega))) ?_ | refine CallL.mk _ _ (fun _ => Type_S _ (by first | omega | (simp only [Int.toNat_natCast, Int.reduceToNat]; omega))) rfl (fun _ _ h => nomatch h) ?_ | (refine CallW.lent ?_; (conv => whnf); refine CallL.mk _ _ (fun _ => Type_S _ (by first | omega | (simp only [Int.toNat_natCast, Int.reduceToNat]; omega))) rfl (fun _ _ h => nomatch h) ?_) | (refine CallW.lent ?_; (conv => whnf); refine And.intro (by omega) ?_; (conv => whnf); refine CallL.mk _ _ (fun _ => Type_S _ (by first | omega | (simp only [Int.toNat_natCast, Int.reduceToNat]; omega))) rfl (fun _ _ h => nomatch h) ?_)); conv => whnf) | exact ⟨_, .keep rfl rfl⟩ | fail
      refine CallW.chg ?_; (conv => whnf); refine CallM.mk _ _ _ (by repeat' first | exact trivial | exact ⟨_, rfl⟩ | exact rfl | refine And.intro ?_ ?_) (by exact rfl) (put_B [[.s (tyT (params.getD q Enc.d))]] _ _ _ n g m (J q ++ catL (strs [[.s (⟨#[44, 32]⟩ : ByteArray)]])) (by exact rfl) (by first | omega | (simp only [ByteArray.size_append, catL_size, strs, List.map_cons, List.map_nil, List.sum_cons, List.sum_nil, size_mk, List.length_cons, List.length_nil, Int.toNat_natCast, Int.reduceToNat]; omega))) ?_; conv => whnf
      repeat' first | (refine And.intro (fun (hb : _ = true) => ?_) (fun (hb : _ = false) => ?_) <;> (try simp only [pickB_or, pickB_and] at hb) <;> (have hc := hb; try simp only [Int.toNat_natCast, Int.reduceToNat, Bool.or_eq_false_iff, Bool.and_eq_false_iff, Bool.not_eq_false', decide_eq_true_eq, decide_eq_false_iff_not, Bool.not_eq_true', Bool.and_eq_true, Bool.or_eq_true] at hc) <;> first | (exfalso; omega) | conv => whnf) | (refine ⟨_, wr64 (by first | omega | (simp only [Int.toNat_natCast, Int.reduceToNat]; omega)) (by first | omega | (simp only [Int.toNat_natCast, Int.reduceToNat]; omega)), ?_⟩; conv => whnf) | (refine And.intro (by first | omega | (simp only [Int.toNat_natCast, Int.reduceToNat, addZ]; omega) | (simp only [ByteArray.size_append, size_mk, List.length_cons, List.length_nil, Int.toNat_natCast, Int.reduceToNat]; omega) | exact ⟨rfl, by omega⟩ | ((repeat' apply And.intro) <;> first | exact trivial | omega) | decide +kernel) ?_; conv => whnf) | (refine And.intro (fun (ht : tg _ _ = true) => by (simp only [tg_ite, tg_nil, cn, Nat.reduceMul, Nat.reduceAdd, Nat.reduceEqDiff, ↓reduceIte, pickB_or, pickB_and, Bool.and_eq_true, Bool.or_eq_true, Bool.or_eq_false_iff, Bool.and_eq_false_iff, Bool.not_eq_true', Bool.not_eq_false', decide_eq_true_eq, decide_eq_false_iff_not, Int.toNat_natCast, Int.reduceToNat, ne_eq] at ht ⊢; first | omega | (simp only [Int.toNat_natCast, Int.reduceToNat]; omega))) ?_; conv => whnf) | (refine ⟨_, shl1 (by omega), ?_⟩; conv => whnf) | (refine ⟨_, wru64 (by first | omega | (simp only [Int.toNat_natCast, Int.reduceToNat]; omega)) (by first | omega | (simp only [Int.toNat_natCast, Int.reduceToNat]; omega)), ?_⟩; conv => whnf) | (refine ⟨_, fun _ => (IntKind.wrap_u64 _).symm, ?_⟩; conv => whnf) | exact ⟨_, .keep rfl rfl⟩ | fail
      refine .mk (q + 1) (by omega) (by omega) ?_
      refine Ent.lp [] [] rfl rfl rfl ?_ ?_ <;> repeat' first | exact trivial | rfl | exact fun _ _ => rfl | omega | refine And.intro ?_ ?_ | (show (_ : Int) = _; first | omega | (simp only [Int.toNat_natCast]; omega))
      all_goals first | exact fin1 (by rw [e]; simp only [strs, catL, List.foldl_cons, List.foldl_nil, nil_app, ByteArray.append_assoc]) | exact fin2 (by rw [e]; simp only [strs, catL, List.foldl_cons, List.foldl_nil, nil_app, ByteArray.append_assoc])
    · rw [if_neg (by omega)] at p1
      have e : J (q + 1) = J q ++ tyT (params.getD q Enc.d) := by show joinT _ _ _ _ _ = _; rw [joinT, if_neg (by omega)]
      refine CallW.chg ?_; (conv => whnf); refine CallM.mk _ _ _ (by repeat' first | exact trivial | exact ⟨_, rfl⟩ | exact rfl | refine And.intro ?_ ?_) (by exact rfl) (put_B [[.s (tyT (params.getD q Enc.d))]] _ _ _ n g m (J q) (by exact rfl) (by first | omega | (simp only [ByteArray.size_append, catL_size, strs, List.map_cons, List.map_nil, List.sum_cons, List.sum_nil, size_mk, List.length_cons, List.length_nil, Int.toNat_natCast, Int.reduceToNat]; omega))) ?_; conv => whnf
      repeat' first | (refine And.intro (fun (hb : _ = true) => ?_) (fun (hb : _ = false) => ?_) <;> (try simp only [pickB_or, pickB_and] at hb) <;> (have hc := hb; try simp only [Int.toNat_natCast, Int.reduceToNat, Bool.or_eq_false_iff, Bool.and_eq_false_iff, Bool.not_eq_false', decide_eq_true_eq, decide_eq_false_iff_not, Bool.not_eq_true', Bool.and_eq_true, Bool.or_eq_true] at hc) <;> first | (exfalso; omega) | conv => whnf) | (refine ⟨_, wr64 (by first | omega | (simp only [Int.toNat_natCast, Int.reduceToNat]; omega)) (by first | omega | (simp only [Int.toNat_natCast, Int.reduceToNat]; omega)), ?_⟩; conv => whnf) | (refine And.intro (by first | omega | (simp only [Int.toNat_natCast, Int.reduceToNat, addZ]; omega) | (simp only [ByteArray.size_append, size_mk, List.length_cons, List.length_nil, Int.toNat_natCast, Int.reduceToNat]; omega) | exact ⟨rfl, by omega⟩ | ((repeat' apply And.intro) <;> first | exact trivial | omega) | decide +kernel) ?_; conv => whnf) | (refine And.intro (fun (ht : tg _ _ = true) => by (simp only [tg_ite, tg_nil, cn, Nat.reduceMul, Nat.reduceAdd, Nat.reduceEqDiff, ↓reduceIte, pickB_or, pickB_and, Bool.and_eq_true, Bool.or_eq_true, Bool.or_eq_false_iff, Bool.and_eq_false_iff, Bool.not_eq_true', Bool.not_eq_false', decide_eq_true_eq, decide_eq_false_iff_not, Int.toNat_natCast, Int.reduceToNat, ne_eq] at ht ⊢; first | omega | (simp only [Int.toNat_natCast, Int.reduceToNat]; omega))) ?_; conv => whnf) | (refine ⟨_, shl1 (by omega), ?_⟩; conv => whnf) | (refine ⟨_, wru64 (by first | omega | (simp only [Int.toNat_natCast, Int.reduceToNat]; omega)) (by first | omega | (simp only [Int.toNat_natCast, Int.reduceToNat]; omega)), ?_⟩; conv => whnf) | (refine ⟨_, fun _ => (IntKind.wrap_u64 _).symm, ?_⟩; conv => whnf) | exact ⟨_, .keep rfl rfl⟩ | fail
      refine .mk (q + 1) (by omega) (by omega) ?_
      refine Ent.lp [] [] rfl rfl rfl ?_ ?_ <;> repeat' first | exact trivial | rfl | exact fun _ _ => rfl | omega | refine And.intro ?_ ?_ | (show (_ : Int) = _; first | omega | (simp only [Int.toNat_natCast]; omega))
      all_goals first | exact fin1 (by rw [e]; simp only [strs, catL, List.foldl_cons, List.foldl_nil, nil_app, ByteArray.append_assoc]) | exact fin2 (by rw [e]; simp only [strs, catL, List.foldl_cons, List.foldl_nil, nil_app, ByteArray.append_assoc])
  · obtain rfl : q = params.length := by omega
    have p2 := hr ret List.mem_cons_self
    repeat' first | (refine And.intro (fun (hb : _ = true) => ?_) (fun (hb : _ = false) => ?_) <;> (try simp only [pickB_or, pickB_and] at hb) <;> (have hc := hb; try simp only [Int.toNat_natCast, Int.reduceToNat, Bool.or_eq_false_iff, Bool.and_eq_false_iff, Bool.not_eq_false', decide_eq_true_eq, decide_eq_false_iff_not, Bool.not_eq_true', Bool.and_eq_true, Bool.or_eq_true] at hc) <;> first | (exfalso; omega) | conv => whnf) | (refine ⟨_, wr64 (by first | omega | (simp only [Int.toNat_natCast, Int.reduceToNat]; omega)) (by first | omega | (simp only [Int.toNat_natCast, Int.reduceToNat]; omega)), ?_⟩; conv => whnf) | (refine And.intro (by first | omega | (simp only [Int.toNat_natCast, Int.reduceToNat, addZ]; omega) | (simp only [ByteArray.size_append, size_mk, List.length_cons, List.length_nil, Int.toNat_natCast, Int.reduceToNat]; omega) | exact ⟨rfl, by omega⟩ | ((repeat' apply And.intro) <;> first | exact trivial | omega) | decide +kernel) ?_; conv => whnf) | (refine And.intro (fun (ht : tg _ _ = true) => by (simp only [tg_ite, tg_nil, cn, Nat.reduceMul, Nat.reduceAdd, Nat.reduceEqDiff, ↓reduceIte, pickB_or, pickB_and, Bool.and_eq_true, Bool.or_eq_true, Bool.or_eq_false_iff, Bool.and_eq_false_iff, Bool.not_eq_true', Bool.not_eq_false', decide_eq_true_eq, decide_eq_false_iff_not, Int.toNat_natCast, Int.reduceToNat, ne_eq] at ht ⊢; first | omega | (simp only [Int.toNat_natCast, Int.reduceToNat]; omega))) ?_; conv => whnf) | (refine ⟨_, shl1 (by omega), ?_⟩; conv => whnf) | (refine ⟨_, wru64 (by first | omega | (simp only [Int.toNat_natCast, Int.reduceToNat]; omega)) (by first | omega | (simp only [Int.toNat_natCast, Int.reduceToNat]; omega)), ?_⟩; conv => whnf) | (refine ⟨_, fun _ => (IntKind.wrap_u64 _).symm, ?_⟩; conv => whnf) | ((first | refine CallK.mk _ _ (fun _ => Type_S _ (by first | omega | (simp only [Int.toNat_natCast, Int.reduceToNat]; omega))) ?_ | refine CallL.mk _ _ (fun _ => Type_S _ (by first | omega | (simp only [Int.toNat_natCast, Int.reduceToNat]; omega))) rfl (fun _ _ h => nomatch h) ?_ | (refine CallW.lent ?_; (conv => whnf); refine CallL.mk _ _ (fun _ => Type_S _ (by first | omega | (simp only [Int.toNat_natCast, Int.reduceToNat]; omega))) rfl (fun _ _ h => nomatch h) ?_) | (refine CallW.lent ?_; (conv => whnf); refine And.intro (by omega) ?_; (conv => whnf); refine CallL.mk _ _ (fun _ => Type_S _ (by first | omega | (simp only [Int.toNat_natCast, Int.reduceToNat]; omega))) rfl (fun _ _ h => nomatch h) ?_)); conv => whnf) | exact ⟨_, .keep rfl rfl⟩ | fail
    refine CallW.chg ?_; (conv => whnf); refine CallM.mk _ _ _ (by repeat' first | exact trivial | exact ⟨_, rfl⟩ | exact rfl | refine And.intro ?_ ?_) (by exact rfl) (put_B [[.s (⟨#[41, 32]⟩ : ByteArray)], [.s (tyT ret)], [.s (⟨#[10]⟩ : ByteArray)]] _ _ _ n g m (J params.length) (by exact rfl) (by first | omega | (simp only [ByteArray.size_append, catL_size, strs, List.map_cons, List.map_nil, List.sum_cons, List.sum_nil, size_mk, List.length_cons, List.length_nil, Int.toNat_natCast, Int.reduceToNat]; omega))) ?_; conv => whnf
    repeat' first | (refine And.intro (fun (hb : _ = true) => ?_) (fun (hb : _ = false) => ?_) <;> (try simp only [pickB_or, pickB_and] at hb) <;> (have hc := hb; try simp only [Int.toNat_natCast, Int.reduceToNat, Bool.or_eq_false_iff, Bool.and_eq_false_iff, Bool.not_eq_false', decide_eq_true_eq, decide_eq_false_iff_not, Bool.not_eq_true', Bool.and_eq_true, Bool.or_eq_true] at hc) <;> first | (exfalso; omega) | conv => whnf) | (refine ⟨_, wr64 (by first | omega | (simp only [Int.toNat_natCast, Int.reduceToNat]; omega)) (by first | omega | (simp only [Int.toNat_natCast, Int.reduceToNat]; omega)), ?_⟩; conv => whnf) | (refine And.intro (by first | omega | (simp only [Int.toNat_natCast, Int.reduceToNat, addZ]; omega) | (simp only [ByteArray.size_append, size_mk, List.length_cons, List.length_nil, Int.toNat_natCast, Int.reduceToNat]; omega) | exact ⟨rfl, by omega⟩ | ((repeat' apply And.intro) <;> first | exact trivial | omega) | decide +kernel) ?_; conv => whnf) | (refine And.intro (fun (ht : tg _ _ = true) => by (simp only [tg_ite, tg_nil, cn, Nat.reduceMul, Nat.reduceAdd, Nat.reduceEqDiff, ↓reduceIte, pickB_or, pickB_and, Bool.and_eq_true, Bool.or_eq_true, Bool.or_eq_false_iff, Bool.and_eq_false_iff, Bool.not_eq_true', Bool.not_eq_false', decide_eq_true_eq, decide_eq_false_iff_not, Int.toNat_natCast, Int.reduceToNat, ne_eq] at ht ⊢; first | omega | (simp only [Int.toNat_natCast, Int.reduceToNat]; omega))) ?_; conv => whnf) | (refine ⟨_, shl1 (by omega), ?_⟩; conv => whnf) | (refine ⟨_, wru64 (by first | omega | (simp only [Int.toNat_natCast, Int.reduceToNat]; omega)) (by first | omega | (simp only [Int.toNat_natCast, Int.reduceToNat]; omega)), ?_⟩; conv => whnf) | (refine ⟨_, fun _ => (IntKind.wrap_u64 _).symm, ?_⟩; conv => whnf) | exact ⟨_, .keep rfl rfl⟩ | fail
    refine ⟨[], [], ?_, ?_, rfl⟩ <;> repeat' first | exact trivial | exact rfl | exact fun _ _ => rfl | omega | refine And.intro ?_ ?_ | (show (_ : Int) = _; first | omega | (simp only [Int.toNat_natCast]; omega))
    all_goals first | exact fin1 (by show _ = ((J params.length ++ _) ++ _) ++ _; simp only [strs, catL, List.foldl_cons, List.foldl_nil, nil_app, ByteArray.append_assoc]) | exact fin2 (by show _ = ((J params.length ++ _) ++ _) ++ _; simp only [strs, catL, List.foldl_cons, List.foldl_nil, nil_app, ByteArray.append_assoc])
end Go.Proofs.YtilhkmlghhdpaaaDoor
