/- The engine and the contracts of the functions that the statement reaches, part 6. -/
import Derived.Test.YtilhkmlghhdpaaaDoorMe
import Derived.Test.YtilhkmlghhdpaaaDoorRows
import Derived.ProofKit
import Derived.OpenShut
import Derived.ChangeOld
import Derived.Deep.Slices
import Derived.Test.YtilhkmlghhdpaaaDoorCards
import Derived.Test.YtilhkmlghhdpaaaDoorTie
import Derived.ShutString
import Derived.SizedLaws
import Derived.LaidLaws
import Derived.Lay
import Derived.Lib.LaidTab
import Derived.Stop.LaidErr
import Derived.Deep.DeepWitnessRowRef
/- Layer 5, the program: the text of a module. -/
namespace Go.Proofs.YtilhkmlghhdpaaaDoor
open Go.RowKit
set_option linter.unusedVariables false
set_option linter.unusedSimpArgs false
set_option maxRecDepth 100000
set_option maxHeartbeats 8000000
theorem catB_zero {g : Nat → List AV} {s : ByteArray} : catB 0 g s = bytesF s := by
  funext i; simp [catB, catF, bytesF]
theorem String_B (t : Bool) (m : ModE) (g : Nat → List AV) (s : ByteArray) : ASpecM Tryd.prog 29 [.op 1000 0] (wrO t (0 + s.size) (catB 0 g s) m) (.s s) (wrQ t m) := by
  rw [Nat.zero_add, catB_zero]; exact String_S t m s
def g0 : Nat → List AV := fun _ => []
theorem put_C (cs : List (List AV)) (nz : Option Bool) (k : Nat) (t : Bool) (m : ModE) (a x : ByteArray) (e : catL (strs cs) = x) (hok : (okS cs && Nat.beq k cs.length && Nat.blt 0 k && Nat.blt k 1000) = true) (hn : a.size + x.size ≤ 70368744177664) : ASpecM Tryd.prog 24 [.op 1000 0, .row nz 1 k (litF cs)] (wrO t (0 + a.size) (catB 0 g0 a) m) (.tup []) (wrO true (0 + (a ++ x).size) (catB 0 g0 (a ++ x)) m) := by
  subst e; exact put_B cs nz k t 0 g0 m a hok (by rw [ByteArray.size_append]; omega)
theorem head_C (a : ByteArray) (m : ModE) (name : ByteArray) (params : List Int) (ret : Int) (hr : ∀ t ∈ ret :: params, -9223372036854775808 ≤ t ∧ t ≤ 9223372036854775807) (hs : a.size + (saidT name params ret).size ≤ 70368744177664) (hp : params.length < 4294967296) : ASpecM Tryd.prog 26 [.op 1000 0, .s name, eL params, .i .i64 ret] (wrO true (0 + a.size) (catB 0 g0 a) m) (.tup []) (wrO true (0 + (a ++ saidT name params ret).size) (catB 0 g0 (a ++ saidT name params ret)) m) := by
  have h := head_S (0 + a.size) (catB 0 g0 a) m name params ret hr (by omega) hp
  rw [catB_app, Nat.add_assoc, ← ByteArray.size_append] at h
  exact h
theorem instr_C (a : ByteArray) (m : ModE) (x : InsE) (h : InsOk m x) (har : ¬(x.op = 25 ∨ x.op = 26 ∨ x.op = 29 ∨ x.op = 30 ∨ x.op = 31 ∨ x.op = 33 ∨ x.op = 34) → 0 < x.args.length) (hm : siz m < 4294967296) (hx : siz x < 4294967296) (hs : a.size + (insT m x).size ≤ 70368744177664) : ASpecM Tryd.prog 28 [.op 1000 0, eS x] (wrO true (0 + a.size) (catB 0 g0 a) m) (.tup []) (wrO true (0 + (a ++ insT m x).size) (catB 0 g0 (a ++ insT m x)) m) := instrW_S 0 g0 a m x h har hm hx (by rw [ByteArray.size_append]; omega)
theorem strs1 {a : ByteArray} : catL (strs [[.s a]]) = a := by simp only [strs, catL, List.foldl_cons, List.foldl_nil, nil_app]
theorem strs2 {a b : ByteArray} : catL (strs [[.s a], [.s b]]) = a ++ b := by simp only [strs, catL, List.foldl_cons, List.foldl_nil, nil_app]
theorem Text_S (m : ModE) (hm : siz m < 4294967296) (hr : ModR m) (hs : (textT m).size ≤ 70368744177664) : ASpec Tryd.prog 10 [eS m] (.s (text5 m)) [] := by
  have h0 : siz m = siz m.vars + siz m.exts + siz m.funcs := rfl
  have g1 := len_siz m.vars
  have g2 := len_siz m.exts
  have g3 := len_siz m.funcs
  unfold textT at hs
  rw [ByteArray.size_append, ByteArray.size_append] at hs
  refine ASpec.enter TYok mixed Tryd.func10 rfl Tryd.call10 Tryd.ntmps10 rfl (rs := [.tmp 2]) rfl (nodupB_ok rfl) (Clo.one rfl) (keep := [0, 1, 2, 3, 5, 7, 9, 10, 11, 13, 21, 22, 23, 37, 38, 39, 56, 57, 58, 74, 75, 76, 87, 88, 89]) ?_; conv => whnf
  repeat' first | (refine And.intro (fun (hb : _ = true) => ?_) (fun (hb : _ = false) => ?_) <;> (try simp only [pickB_or, pickB_and] at hb) <;> (have hc := hb; try simp only [Int.toNat_natCast, Int.reduceToNat, Bool.or_eq_false_iff, Bool.and_eq_false_iff, Bool.not_eq_false', decide_eq_true_eq, decide_eq_false_iff_not, Bool.not_eq_true', Bool.and_eq_true, Bool.or_eq_true] at hc) <;> first | (exfalso; omega) | conv => whnf) | (refine ⟨_, wr64 (by first | omega | (simp only [Int.toNat_natCast, Int.reduceToNat]; omega)) (by first | omega | (simp only [Int.toNat_natCast, Int.reduceToNat]; omega)), ?_⟩; conv => whnf) | (refine And.intro (by first | omega | (simp only [Int.toNat_natCast, Int.reduceToNat, addZ]; omega) | (simp only [ByteArray.size_append, size_mk, List.length_cons, List.length_nil, Int.toNat_natCast, Int.reduceToNat]; omega) | exact ⟨rfl, by omega⟩ | ((repeat' apply And.intro) <;> first | exact trivial | omega) | decide +kernel) ?_; conv => whnf) | (refine And.intro (fun (ht : tg _ _ = true) => by (simp only [tg_ite, tg_nil, cn, Nat.reduceMul, Nat.reduceAdd, Nat.reduceEqDiff, ↓reduceIte, pickB_or, pickB_and, Bool.and_eq_true, Bool.or_eq_true, Bool.or_eq_false_iff, Bool.and_eq_false_iff, Bool.not_eq_true', Bool.not_eq_false', decide_eq_true_eq, decide_eq_false_iff_not, Int.toNat_natCast, Int.reduceToNat, ne_eq] at ht ⊢; first | omega | (simp only [Int.toNat_natCast, Int.reduceToNat]; omega))) ?_; conv => whnf) | (refine ⟨_, shl1 (by omega), ?_⟩; conv => whnf) | (refine ⟨_, wru64 (by first | omega | (simp only [Int.toNat_natCast, Int.reduceToNat]; omega)) (by first | omega | (simp only [Int.toNat_natCast, Int.reduceToNat]; omega)), ?_⟩; conv => whnf) | (refine ⟨_, fun _ => (IntKind.wrap_u64 _).symm, ?_⟩; conv => whnf) | ((first | refine CallK.mk _ _ (fun _ => Sayable_S m hm hr.n) ?_ | refine CallL.mk _ _ (fun _ => Sayable_S m hm hr.n) rfl (fun _ _ h => nomatch h) ?_ | (refine CallW.lent ?_; (conv => whnf); refine CallL.mk _ _ (fun _ => Sayable_S m hm hr.n) rfl (fun _ _ h => nomatch h) ?_) | (refine CallW.lent ?_; (conv => whnf); refine And.intro (by omega) ?_; (conv => whnf); refine CallL.mk _ _ (fun _ => Sayable_S m hm hr.n) rfl (fun _ _ h => nomatch h) ?_)); conv => whnf) | exact ⟨_, .keep rfl rfl⟩ | fail
  · exact ⟨_, .keep (by rw [text5, if_neg (by rw [← sayP_eq, nt hb]; exact Bool.false_ne_true)]) rfl⟩
  have hy : say5 m = true := (sayP_eq m).symm.trans (nf hb)
  have ht : text5 m = textT m := by rw [text5, if_pos hy]
  rw [ht]
  refine lp [23, 3] (fun q : Nat => [.i .i64 q, .op 1000 0]) (fun q => (1, bx m) :: wrO (Nat.blt 0 q) (0 + (varsT m q).size) (catB 0 g0 (varsT m q)) m) (fun q => q ≤ m.vars.length) (fun q => m.vars.length - q) 0 (by omega) ?_ fun q hq => ?_
  · refine Ent.lp [(1000, 19)] [1001] rfl rfl rfl ?_ ?_ <;> repeat' first | exact trivial | rfl | exact fun _ _ => rfl | omega | refine And.intro ?_ ?_ | (show (_ : Int) = _; first | omega | (simp only [Int.toNat_natCast]; omega))
  conv => whnf
  rcases Nat.lt_or_ge q m.vars.length with hlt | hge
  · have p1 : (varsT m q).size + (varL (m.vars.getD q Enc.d)).size ≤ (varsT m m.vars.length).size := preT_in hlt
    have p2 := say5_var hy hlt
    have p3 := hr.s q
    have p4 : (varL (m.vars.getD q Enc.d)).size = (m.vars.getD q Enc.d).name.size + (dec (m.vars.getD q Enc.d).size.toNat).size + 9 := by
      unfold varL; simp only [ByteArray.size_append, size_mk, List.length_cons, List.length_nil]; omega
    obtain ⟨t0, ht0⟩ : ∃ t, t = Nat.blt 0 q := ⟨_, rfl⟩
    rw [← ht0]
    clear ht0
    cases t0
    all_goals
      repeat' first | (refine And.intro (fun (hb : _ = true) => ?_) (fun (hb : _ = false) => ?_) <;> (try simp only [pickB_or, pickB_and] at hb) <;> (have hc := hb; try simp only [Int.toNat_natCast, Int.reduceToNat, Bool.or_eq_false_iff, Bool.and_eq_false_iff, Bool.not_eq_false', decide_eq_true_eq, decide_eq_false_iff_not, Bool.not_eq_true', Bool.and_eq_true, Bool.or_eq_true] at hc) <;> first | (exfalso; omega) | conv => whnf) | (refine ⟨_, wr64 (by first | omega | (simp only [Int.toNat_natCast, Int.reduceToNat]; omega)) (by first | omega | (simp only [Int.toNat_natCast, Int.reduceToNat]; omega)), ?_⟩; conv => whnf) | (refine And.intro (by first | omega | (simp only [Int.toNat_natCast, Int.reduceToNat, addZ]; omega) | (simp only [ByteArray.size_append, size_mk, List.length_cons, List.length_nil, Int.toNat_natCast, Int.reduceToNat]; omega) | exact ⟨rfl, by omega⟩ | ((repeat' apply And.intro) <;> first | exact trivial | omega) | decide +kernel) ?_; conv => whnf) | (refine And.intro (fun (ht : tg _ _ = true) => by (simp only [tg_ite, tg_nil, cn, Nat.reduceMul, Nat.reduceAdd, Nat.reduceEqDiff, ↓reduceIte, pickB_or, pickB_and, Bool.and_eq_true, Bool.or_eq_true, Bool.or_eq_false_iff, Bool.and_eq_false_iff, Bool.not_eq_true', Bool.not_eq_false', decide_eq_true_eq, decide_eq_false_iff_not, Int.toNat_natCast, Int.reduceToNat, ne_eq] at ht ⊢; first | omega | (simp only [Int.toNat_natCast, Int.reduceToNat]; omega))) ?_; conv => whnf) | (refine ⟨_, shl1 (by omega), ?_⟩; conv => whnf) | (refine ⟨_, wru64 (by first | omega | (simp only [Int.toNat_natCast, Int.reduceToNat]; omega)) (by first | omega | (simp only [Int.toNat_natCast, Int.reduceToNat]; omega)), ?_⟩; conv => whnf) | (refine ⟨_, fun _ => (IntKind.wrap_u64 _).symm, ?_⟩; conv => whnf) | ((first | refine CallK.mk _ _ (fun _ => ItoaD_S _ (by first | omega | (simp only [Int.toNat_natCast, Int.reduceToNat]; omega))) ?_ | refine CallL.mk _ _ (fun _ => ItoaD_S _ (by first | omega | (simp only [Int.toNat_natCast, Int.reduceToNat]; omega))) rfl (fun _ _ h => nomatch h) ?_ | (refine CallW.lent ?_; (conv => whnf); refine CallL.mk _ _ (fun _ => ItoaD_S _ (by first | omega | (simp only [Int.toNat_natCast, Int.reduceToNat]; omega))) rfl (fun _ _ h => nomatch h) ?_) | (refine CallW.lent ?_; (conv => whnf); refine And.intro (by omega) ?_; (conv => whnf); refine CallL.mk _ _ (fun _ => ItoaD_S _ (by first | omega | (simp only [Int.toNat_natCast, Int.reduceToNat]; omega))) rfl (fun _ _ h => nomatch h) ?_)); conv => whnf) | exact ⟨_, .keep rfl rfl⟩ | fail
      refine CallW.chg ?_; (conv => whnf); refine CallM.mk _ _ _ (by repeat' first | exact trivial | exact ⟨_, rfl⟩ | exact rfl | refine And.intro ?_ ?_) (by exact rfl) (put_C [[.s (⟨#[103, 108, 111, 98, 97, 108, 32]⟩ : ByteArray)], [.s (m.vars.getD q Enc.d).name], [.s (⟨#[32]⟩ : ByteArray)], [.s (dec (m.vars.getD q Enc.d).size.toNat)], [.s (⟨#[10]⟩ : ByteArray)]] _ _ _ m (varsT m q) (varL (m.vars.getD q Enc.d)) (by unfold varL; simp only [strs, catL, List.foldl_cons, List.foldl_nil, nil_app, ByteArray.append_assoc]) (by exact rfl) (by omega)) ?_; conv => whnf
      repeat' first | (refine And.intro (fun (hb : _ = true) => ?_) (fun (hb : _ = false) => ?_) <;> (try simp only [pickB_or, pickB_and] at hb) <;> (have hc := hb; try simp only [Int.toNat_natCast, Int.reduceToNat, Bool.or_eq_false_iff, Bool.and_eq_false_iff, Bool.not_eq_false', decide_eq_true_eq, decide_eq_false_iff_not, Bool.not_eq_true', Bool.and_eq_true, Bool.or_eq_true] at hc) <;> first | (exfalso; omega) | conv => whnf) | (refine ⟨_, wr64 (by first | omega | (simp only [Int.toNat_natCast, Int.reduceToNat]; omega)) (by first | omega | (simp only [Int.toNat_natCast, Int.reduceToNat]; omega)), ?_⟩; conv => whnf) | (refine And.intro (by first | omega | (simp only [Int.toNat_natCast, Int.reduceToNat, addZ]; omega) | (simp only [ByteArray.size_append, size_mk, List.length_cons, List.length_nil, Int.toNat_natCast, Int.reduceToNat]; omega) | exact ⟨rfl, by omega⟩ | ((repeat' apply And.intro) <;> first | exact trivial | omega) | decide +kernel) ?_; conv => whnf) | (refine And.intro (fun (ht : tg _ _ = true) => by (simp only [tg_ite, tg_nil, cn, Nat.reduceMul, Nat.reduceAdd, Nat.reduceEqDiff, ↓reduceIte, pickB_or, pickB_and, Bool.and_eq_true, Bool.or_eq_true, Bool.or_eq_false_iff, Bool.and_eq_false_iff, Bool.not_eq_true', Bool.not_eq_false', decide_eq_true_eq, decide_eq_false_iff_not, Int.toNat_natCast, Int.reduceToNat, ne_eq] at ht ⊢; first | omega | (simp only [Int.toNat_natCast, Int.reduceToNat]; omega))) ?_; conv => whnf) | (refine ⟨_, shl1 (by omega), ?_⟩; conv => whnf) | (refine ⟨_, wru64 (by first | omega | (simp only [Int.toNat_natCast, Int.reduceToNat]; omega)) (by first | omega | (simp only [Int.toNat_natCast, Int.reduceToNat]; omega)), ?_⟩; conv => whnf) | (refine ⟨_, fun _ => (IntKind.wrap_u64 _).symm, ?_⟩; conv => whnf) | exact ⟨_, .keep rfl rfl⟩ | fail
      refine .mk (q + 1) (by omega) (by omega) ?_
      refine Ent.lp [] [] rfl rfl rfl ?_ ?_ <;> repeat' first | exact trivial | rfl | exact fun _ _ => rfl | omega | refine And.intro ?_ ?_ | (show (_ : Int) = _; first | omega | (simp only [Int.toNat_natCast]; omega))
  obtain rfl : q = m.vars.length := by omega
  repeat' first | (refine And.intro (fun (hb : _ = true) => ?_) (fun (hb : _ = false) => ?_) <;> (try simp only [pickB_or, pickB_and] at hb) <;> (have hc := hb; try simp only [Int.toNat_natCast, Int.reduceToNat, Bool.or_eq_false_iff, Bool.and_eq_false_iff, Bool.not_eq_false', decide_eq_true_eq, decide_eq_false_iff_not, Bool.not_eq_true', Bool.and_eq_true, Bool.or_eq_true] at hc) <;> first | (exfalso; omega) | conv => whnf) | (refine ⟨_, wr64 (by first | omega | (simp only [Int.toNat_natCast, Int.reduceToNat]; omega)) (by first | omega | (simp only [Int.toNat_natCast, Int.reduceToNat]; omega)), ?_⟩; conv => whnf) | (refine And.intro (by first | omega | (simp only [Int.toNat_natCast, Int.reduceToNat, addZ]; omega) | (simp only [ByteArray.size_append, size_mk, List.length_cons, List.length_nil, Int.toNat_natCast, Int.reduceToNat]; omega) | exact ⟨rfl, by omega⟩ | ((repeat' apply And.intro) <;> first | exact trivial | omega) | decide +kernel) ?_; conv => whnf) | (refine And.intro (fun (ht : tg _ _ = true) => by (simp only [tg_ite, tg_nil, cn, Nat.reduceMul, Nat.reduceAdd, Nat.reduceEqDiff, ↓reduceIte, pickB_or, pickB_and, Bool.and_eq_true, Bool.or_eq_true, Bool.or_eq_false_iff, Bool.and_eq_false_iff, Bool.not_eq_true', Bool.not_eq_false', decide_eq_true_eq, decide_eq_false_iff_not, Int.toNat_natCast, Int.reduceToNat, ne_eq] at ht ⊢; first | omega | (simp only [Int.toNat_natCast, Int.reduceToNat]; omega))) ?_; conv => whnf) | (refine ⟨_, shl1 (by omega), ?_⟩; conv => whnf) | (refine ⟨_, wru64 (by first | omega | (simp only [Int.toNat_natCast, Int.reduceToNat]; omega)) (by first | omega | (simp only [Int.toNat_natCast, Int.reduceToNat]; omega)), ?_⟩; conv => whnf) | (refine ⟨_, fun _ => (IntKind.wrap_u64 _).symm, ?_⟩; conv => whnf) | exact ⟨_, .keep rfl rfl⟩ | fail
  let P1 := varsT m m.vars.length
  have z1 : P1.size = (varsT m m.vars.length).size := rfl
  obtain ⟨t1, ht1⟩ : ∃ t, t = Nat.blt 0 m.vars.length := ⟨_, rfl⟩
  rw [← ht1]
  refine lp [39] (fun q : Nat => [.i .i64 q]) (fun q => (1, bx m) :: wrO (Nat.blt 0 q || t1) (0 + (P1 ++ extsT m q).size) (catB 0 g0 (P1 ++ extsT m q)) m) (fun q => q ≤ m.exts.length) (fun q => m.exts.length - q) 0 (by omega) ?_ fun k hk => ?_
  · refine Ent.lp [] [] rfl rfl rfl ?_ ?_ <;> repeat' first | exact trivial | rfl | exact fun _ _ => rfl | omega | refine And.intro ?_ ?_ | (show (_ : Int) = _; first | omega | (simp only [Int.toNat_natCast]; omega))
    all_goals first | exact mat_adr rfl | exact fin1 (ByteArray.append_empty).symm | exact fin2 (ByteArray.append_empty).symm
  conv => whnf
  rcases Nat.lt_or_ge k m.exts.length with hlt | hge
  · have p1 : (extsT m k).size + (extL (m.exts.getD k Enc.d)).size ≤ (extsT m m.exts.length).size := preT_in hlt
    have p2 : (extL (m.exts.getD k Enc.d)).size = 7 + (saidT (m.exts.getD k Enc.d).name (m.exts.getD k Enc.d).params (m.exts.getD k Enc.d).ret).size := by unfold extL; rw [ByteArray.size_append, size_mk]; rfl
    have h4 : siz (m.exts.getD k Enc.d) ≤ siz m.exts := siz_at m.exts k
    have h5 : siz (m.exts.getD k Enc.d) = (m.exts.getD k Enc.d).name.size + siz (m.exts.getD k Enc.d).params := rfl
    have h6 := len_siz (m.exts.getD k Enc.d).params
    have z3 : (P1 ++ extsT m k).size = P1.size + (extsT m k).size := ByteArray.size_append
    have z4 : ((P1 ++ extsT m k) ++ (⟨#[101, 120, 116, 101, 114, 110, 32]⟩ : ByteArray)).size = P1.size + (extsT m k).size + 7 := by rw [ByteArray.size_append, z3]; rfl
    have e : P1 ++ extsT m (k + 1) = (((P1 ++ extsT m k) ++ (⟨#[101, 120, 116, 101, 114, 110, 32]⟩ : ByteArray)) ++ saidT (m.exts.getD k Enc.d).name (m.exts.getD k Enc.d).params (m.exts.getD k Enc.d).ret) := by
      show P1 ++ (extsT m k ++ extL (m.exts.getD k Enc.d)) = _
      unfold extL; simp only [ByteArray.append_assoc]
    obtain ⟨t0, ht0⟩ : ∃ t, t = (Nat.blt 0 k || t1) := ⟨_, rfl⟩
    rw [← ht0]
    clear ht0
    cases t0
    all_goals
      repeat' first | (refine And.intro (fun (hb : _ = true) => ?_) (fun (hb : _ = false) => ?_) <;> (try simp only [pickB_or, pickB_and] at hb) <;> (have hc := hb; try simp only [Int.toNat_natCast, Int.reduceToNat, Bool.or_eq_false_iff, Bool.and_eq_false_iff, Bool.not_eq_false', decide_eq_true_eq, decide_eq_false_iff_not, Bool.not_eq_true', Bool.and_eq_true, Bool.or_eq_true] at hc) <;> first | (exfalso; omega) | conv => whnf) | (refine ⟨_, wr64 (by first | omega | (simp only [Int.toNat_natCast, Int.reduceToNat]; omega)) (by first | omega | (simp only [Int.toNat_natCast, Int.reduceToNat]; omega)), ?_⟩; conv => whnf) | (refine And.intro (by first | omega | (simp only [Int.toNat_natCast, Int.reduceToNat, addZ]; omega) | (simp only [ByteArray.size_append, size_mk, List.length_cons, List.length_nil, Int.toNat_natCast, Int.reduceToNat]; omega) | exact ⟨rfl, by omega⟩ | ((repeat' apply And.intro) <;> first | exact trivial | omega) | decide +kernel) ?_; conv => whnf) | (refine And.intro (fun (ht : tg _ _ = true) => by (simp only [tg_ite, tg_nil, cn, Nat.reduceMul, Nat.reduceAdd, Nat.reduceEqDiff, ↓reduceIte, pickB_or, pickB_and, Bool.and_eq_true, Bool.or_eq_true, Bool.or_eq_false_iff, Bool.and_eq_false_iff, Bool.not_eq_true', Bool.not_eq_false', decide_eq_true_eq, decide_eq_false_iff_not, Int.toNat_natCast, Int.reduceToNat, ne_eq] at ht ⊢; first | omega | (simp only [Int.toNat_natCast, Int.reduceToNat]; omega))) ?_; conv => whnf) | (refine ⟨_, shl1 (by omega), ?_⟩; conv => whnf) | (refine ⟨_, wru64 (by first | omega | (simp only [Int.toNat_natCast, Int.reduceToNat]; omega)) (by first | omega | (simp only [Int.toNat_natCast, Int.reduceToNat]; omega)), ?_⟩; conv => whnf) | (refine ⟨_, fun _ => (IntKind.wrap_u64 _).symm, ?_⟩; conv => whnf) | exact ⟨_, .keep rfl rfl⟩ | fail
      refine CallW.chg ?_; (conv => whnf); refine CallM.mk _ _ _ (by repeat' first | exact trivial | exact ⟨_, rfl⟩ | exact rfl | refine And.intro ?_ ?_) (by exact rfl) (put_C [[.s (⟨#[101, 120, 116, 101, 114, 110, 32]⟩ : ByteArray)]] _ _ _ m (P1 ++ extsT m k) (⟨#[101, 120, 116, 101, 114, 110, 32]⟩ : ByteArray) strs1 (by exact rfl) (by rw [z3]; show _ + 7 ≤ _; omega)) ?_; conv => whnf
      repeat' first | (refine And.intro (fun (hb : _ = true) => ?_) (fun (hb : _ = false) => ?_) <;> (try simp only [pickB_or, pickB_and] at hb) <;> (have hc := hb; try simp only [Int.toNat_natCast, Int.reduceToNat, Bool.or_eq_false_iff, Bool.and_eq_false_iff, Bool.not_eq_false', decide_eq_true_eq, decide_eq_false_iff_not, Bool.not_eq_true', Bool.and_eq_true, Bool.or_eq_true] at hc) <;> first | (exfalso; omega) | conv => whnf) | (refine ⟨_, wr64 (by first | omega | (simp only [Int.toNat_natCast, Int.reduceToNat]; omega)) (by first | omega | (simp only [Int.toNat_natCast, Int.reduceToNat]; omega)), ?_⟩; conv => whnf) | (refine And.intro (by first | omega | (simp only [Int.toNat_natCast, Int.reduceToNat, addZ]; omega) | (simp only [ByteArray.size_append, size_mk, List.length_cons, List.length_nil, Int.toNat_natCast, Int.reduceToNat]; omega) | exact ⟨rfl, by omega⟩ | ((repeat' apply And.intro) <;> first | exact trivial | omega) | decide +kernel) ?_; conv => whnf) | (refine And.intro (fun (ht : tg _ _ = true) => by (simp only [tg_ite, tg_nil, cn, Nat.reduceMul, Nat.reduceAdd, Nat.reduceEqDiff, ↓reduceIte, pickB_or, pickB_and, Bool.and_eq_true, Bool.or_eq_true, Bool.or_eq_false_iff, Bool.and_eq_false_iff, Bool.not_eq_true', Bool.not_eq_false', decide_eq_true_eq, decide_eq_false_iff_not, Int.toNat_natCast, Int.reduceToNat, ne_eq] at ht ⊢; first | omega | (simp only [Int.toNat_natCast, Int.reduceToNat]; omega))) ?_; conv => whnf) | (refine ⟨_, shl1 (by omega), ?_⟩; conv => whnf) | (refine ⟨_, wru64 (by first | omega | (simp only [Int.toNat_natCast, Int.reduceToNat]; omega)) (by first | omega | (simp only [Int.toNat_natCast, Int.reduceToNat]; omega)), ?_⟩; conv => whnf) | (refine ⟨_, fun _ => (IntKind.wrap_u64 _).symm, ?_⟩; conv => whnf) | exact ⟨_, .keep rfl rfl⟩ | fail
      refine CallW.chg ?_; (conv => whnf); refine CallM.mk _ _ _ (by repeat' first | exact trivial | exact ⟨_, rfl⟩ | exact rfl | refine And.intro ?_ ?_) (by exact rfl) (head_C ((P1 ++ extsT m k) ++ (⟨#[101, 120, 116, 101, 114, 110, 32]⟩ : ByteArray)) m (m.exts.getD k Enc.d).name (m.exts.getD k Enc.d).params (m.exts.getD k Enc.d).ret (say5_ext hy hlt) (by omega) (by omega)) ?_; conv => whnf
      repeat' first | (refine And.intro (fun (hb : _ = true) => ?_) (fun (hb : _ = false) => ?_) <;> (try simp only [pickB_or, pickB_and] at hb) <;> (have hc := hb; try simp only [Int.toNat_natCast, Int.reduceToNat, Bool.or_eq_false_iff, Bool.and_eq_false_iff, Bool.not_eq_false', decide_eq_true_eq, decide_eq_false_iff_not, Bool.not_eq_true', Bool.and_eq_true, Bool.or_eq_true] at hc) <;> first | (exfalso; omega) | conv => whnf) | (refine ⟨_, wr64 (by first | omega | (simp only [Int.toNat_natCast, Int.reduceToNat]; omega)) (by first | omega | (simp only [Int.toNat_natCast, Int.reduceToNat]; omega)), ?_⟩; conv => whnf) | (refine And.intro (by first | omega | (simp only [Int.toNat_natCast, Int.reduceToNat, addZ]; omega) | (simp only [ByteArray.size_append, size_mk, List.length_cons, List.length_nil, Int.toNat_natCast, Int.reduceToNat]; omega) | exact ⟨rfl, by omega⟩ | ((repeat' apply And.intro) <;> first | exact trivial | omega) | decide +kernel) ?_; conv => whnf) | (refine And.intro (fun (ht : tg _ _ = true) => by (simp only [tg_ite, tg_nil, cn, Nat.reduceMul, Nat.reduceAdd, Nat.reduceEqDiff, ↓reduceIte, pickB_or, pickB_and, Bool.and_eq_true, Bool.or_eq_true, Bool.or_eq_false_iff, Bool.and_eq_false_iff, Bool.not_eq_true', Bool.not_eq_false', decide_eq_true_eq, decide_eq_false_iff_not, Int.toNat_natCast, Int.reduceToNat, ne_eq] at ht ⊢; first | omega | (simp only [Int.toNat_natCast, Int.reduceToNat]; omega))) ?_; conv => whnf) | (refine ⟨_, shl1 (by omega), ?_⟩; conv => whnf) | (refine ⟨_, wru64 (by first | omega | (simp only [Int.toNat_natCast, Int.reduceToNat]; omega)) (by first | omega | (simp only [Int.toNat_natCast, Int.reduceToNat]; omega)), ?_⟩; conv => whnf) | (refine ⟨_, fun _ => (IntKind.wrap_u64 _).symm, ?_⟩; conv => whnf) | exact ⟨_, .keep rfl rfl⟩ | fail
      refine .mk (k + 1) (by omega) (by omega) ?_
      rw [e]
      refine Ent.lp [] [] rfl rfl rfl ?_ ?_ <;> repeat' first | exact trivial | rfl | exact fun _ _ => rfl | omega | refine And.intro ?_ ?_ | (show (_ : Int) = _; first | omega | (simp only [Int.toNat_natCast]; omega))
  obtain rfl : k = m.exts.length := by omega
  repeat' first | (refine And.intro (fun (hb : _ = true) => ?_) (fun (hb : _ = false) => ?_) <;> (try simp only [pickB_or, pickB_and] at hb) <;> (have hc := hb; try simp only [Int.toNat_natCast, Int.reduceToNat, Bool.or_eq_false_iff, Bool.and_eq_false_iff, Bool.not_eq_false', decide_eq_true_eq, decide_eq_false_iff_not, Bool.not_eq_true', Bool.and_eq_true, Bool.or_eq_true] at hc) <;> first | (exfalso; omega) | conv => whnf) | (refine ⟨_, wr64 (by first | omega | (simp only [Int.toNat_natCast, Int.reduceToNat]; omega)) (by first | omega | (simp only [Int.toNat_natCast, Int.reduceToNat]; omega)), ?_⟩; conv => whnf) | (refine And.intro (by first | omega | (simp only [Int.toNat_natCast, Int.reduceToNat, addZ]; omega) | (simp only [ByteArray.size_append, size_mk, List.length_cons, List.length_nil, Int.toNat_natCast, Int.reduceToNat]; omega) | exact ⟨rfl, by omega⟩ | ((repeat' apply And.intro) <;> first | exact trivial | omega) | decide +kernel) ?_; conv => whnf) | (refine And.intro (fun (ht : tg _ _ = true) => by (simp only [tg_ite, tg_nil, cn, Nat.reduceMul, Nat.reduceAdd, Nat.reduceEqDiff, ↓reduceIte, pickB_or, pickB_and, Bool.and_eq_true, Bool.or_eq_true, Bool.or_eq_false_iff, Bool.and_eq_false_iff, Bool.not_eq_true', Bool.not_eq_false', decide_eq_true_eq, decide_eq_false_iff_not, Int.toNat_natCast, Int.reduceToNat, ne_eq] at ht ⊢; first | omega | (simp only [Int.toNat_natCast, Int.reduceToNat]; omega))) ?_; conv => whnf) | (refine ⟨_, shl1 (by omega), ?_⟩; conv => whnf) | (refine ⟨_, wru64 (by first | omega | (simp only [Int.toNat_natCast, Int.reduceToNat]; omega)) (by first | omega | (simp only [Int.toNat_natCast, Int.reduceToNat]; omega)), ?_⟩; conv => whnf) | (refine ⟨_, fun _ => (IntKind.wrap_u64 _).symm, ?_⟩; conv => whnf) | exact ⟨_, .keep rfl rfl⟩ | fail
  let P2 := P1 ++ extsT m m.exts.length
  have z2 : P2.size = (varsT m m.vars.length).size + (extsT m m.exts.length).size := ByteArray.size_append
  obtain ⟨t2, ht2⟩ : ∃ t, t = (Nat.blt 0 m.exts.length || t1) := ⟨_, rfl⟩
  rw [← ht2]
  refine lp [58] (fun q : Nat => [.i .i64 q]) (fun q => (1, bx m) :: wrO (Nat.blt 0 q || t2) (0 + (P2 ++ fnsT m q).size) (catB 0 g0 (P2 ++ fnsT m q)) m) (fun q => q ≤ m.funcs.length) (fun q => m.funcs.length - q) 0 (by omega) ?_ fun j hj => ?_
  · refine Ent.lp [] [] rfl rfl rfl ?_ ?_ <;> repeat' first | exact trivial | rfl | exact fun _ _ => rfl | omega | refine And.intro ?_ ?_ | (show (_ : Int) = _; first | omega | (simp only [Int.toNat_natCast]; omega))
    all_goals first | exact mat_adr rfl | exact fin1 (ByteArray.append_empty).symm | exact fin2 (ByteArray.append_empty).symm
  conv => whnf
  rcases Nat.lt_or_ge j m.funcs.length with hlt | hge
  · have p1 : (fnsT m j).size + (fnL m (m.funcs.getD j Enc.d)).size ≤ (fnsT m m.funcs.length).size := preT_in hlt
    have p2 : (fnL m (m.funcs.getD j Enc.d)).size = (hdL (m.funcs.getD j Enc.d)).size + (bkT m (m.funcs.getD j Enc.d).blocks (m.funcs.getD j Enc.d).blocks.length).size + 4 := by unfold fnL; simp only [ByteArray.size_append, size_mk, List.length_cons, List.length_nil]
    have p3 : (hdL (m.funcs.getD j Enc.d)).size = 5 + (saidT (m.funcs.getD j Enc.d).name (m.funcs.getD j Enc.d).params (m.funcs.getD j Enc.d).ret).size := by unfold hdL; rw [ByteArray.size_append, size_mk]; rfl
    have i4 : siz (m.funcs.getD j Enc.d) ≤ siz m.funcs := siz_at m.funcs j
    have i5 : siz (m.funcs.getD j Enc.d) = (m.funcs.getD j Enc.d).name.size + siz (m.funcs.getD j Enc.d).params + siz (m.funcs.getD j Enc.d).blocks := rfl
    have i6 := len_siz (m.funcs.getD j Enc.d).params
    have i7 := blocks_le (m.funcs.getD j Enc.d)
    have z3 : (P2 ++ fnsT m j).size = P2.size + (fnsT m j).size := ByteArray.size_append
    have z5 : ((P2 ++ fnsT m j) ++ (⟨#[102, 117, 110, 99, 32]⟩ : ByteArray)).size = P2.size + (fnsT m j).size + 5 := by rw [ByteArray.size_append, z3]; rfl
    let P3 := ((P2 ++ fnsT m j) ++ (⟨#[102, 117, 110, 99, 32]⟩ : ByteArray)) ++ saidT (m.funcs.getD j Enc.d).name (m.funcs.getD j Enc.d).params (m.funcs.getD j Enc.d).ret
    have z4 : P3.size = P2.size + (fnsT m j).size + (hdL (m.funcs.getD j Enc.d)).size := by
      have : P3.size = ((P2 ++ fnsT m j) ++ (⟨#[102, 117, 110, 99, 32]⟩ : ByteArray)).size + (saidT (m.funcs.getD j Enc.d).name (m.funcs.getD j Enc.d).params (m.funcs.getD j Enc.d).ret).size := ByteArray.size_append
      omega
    obtain ⟨t0, ht0⟩ : ∃ t, t = (Nat.blt 0 j || t2) := ⟨_, rfl⟩
    rw [← ht0]
    clear ht0
    cases t0
    all_goals
      repeat' first | (refine And.intro (fun (hb : _ = true) => ?_) (fun (hb : _ = false) => ?_) <;> (try simp only [pickB_or, pickB_and] at hb) <;> (have hc := hb; try simp only [Int.toNat_natCast, Int.reduceToNat, Bool.or_eq_false_iff, Bool.and_eq_false_iff, Bool.not_eq_false', decide_eq_true_eq, decide_eq_false_iff_not, Bool.not_eq_true', Bool.and_eq_true, Bool.or_eq_true] at hc) <;> first | (exfalso; omega) | conv => whnf) | (refine ⟨_, wr64 (by first | omega | (simp only [Int.toNat_natCast, Int.reduceToNat]; omega)) (by first | omega | (simp only [Int.toNat_natCast, Int.reduceToNat]; omega)), ?_⟩; conv => whnf) | (refine And.intro (by first | omega | (simp only [Int.toNat_natCast, Int.reduceToNat, addZ]; omega) | (simp only [ByteArray.size_append, size_mk, List.length_cons, List.length_nil, Int.toNat_natCast, Int.reduceToNat]; omega) | exact ⟨rfl, by omega⟩ | ((repeat' apply And.intro) <;> first | exact trivial | omega) | decide +kernel) ?_; conv => whnf) | (refine And.intro (fun (ht : tg _ _ = true) => by (simp only [tg_ite, tg_nil, cn, Nat.reduceMul, Nat.reduceAdd, Nat.reduceEqDiff, ↓reduceIte, pickB_or, pickB_and, Bool.and_eq_true, Bool.or_eq_true, Bool.or_eq_false_iff, Bool.and_eq_false_iff, Bool.not_eq_true', Bool.not_eq_false', decide_eq_true_eq, decide_eq_false_iff_not, Int.toNat_natCast, Int.reduceToNat, ne_eq] at ht ⊢; first | omega | (simp only [Int.toNat_natCast, Int.reduceToNat]; omega))) ?_; conv => whnf) | (refine ⟨_, shl1 (by omega), ?_⟩; conv => whnf) | (refine ⟨_, wru64 (by first | omega | (simp only [Int.toNat_natCast, Int.reduceToNat]; omega)) (by first | omega | (simp only [Int.toNat_natCast, Int.reduceToNat]; omega)), ?_⟩; conv => whnf) | (refine ⟨_, fun _ => (IntKind.wrap_u64 _).symm, ?_⟩; conv => whnf) | exact ⟨_, .keep rfl rfl⟩ | fail
      refine CallW.chg ?_; (conv => whnf); refine CallM.mk _ _ _ (by repeat' first | exact trivial | exact ⟨_, rfl⟩ | exact rfl | refine And.intro ?_ ?_) (by exact rfl) (put_C [[.s (⟨#[102, 117, 110, 99, 32]⟩ : ByteArray)]] _ _ _ m (P2 ++ fnsT m j) (⟨#[102, 117, 110, 99, 32]⟩ : ByteArray) strs1 (by exact rfl) (by rw [z3]; show _ + 5 ≤ _; omega)) ?_; conv => whnf
      repeat' first | (refine And.intro (fun (hb : _ = true) => ?_) (fun (hb : _ = false) => ?_) <;> (try simp only [pickB_or, pickB_and] at hb) <;> (have hc := hb; try simp only [Int.toNat_natCast, Int.reduceToNat, Bool.or_eq_false_iff, Bool.and_eq_false_iff, Bool.not_eq_false', decide_eq_true_eq, decide_eq_false_iff_not, Bool.not_eq_true', Bool.and_eq_true, Bool.or_eq_true] at hc) <;> first | (exfalso; omega) | conv => whnf) | (refine ⟨_, wr64 (by first | omega | (simp only [Int.toNat_natCast, Int.reduceToNat]; omega)) (by first | omega | (simp only [Int.toNat_natCast, Int.reduceToNat]; omega)), ?_⟩; conv => whnf) | (refine And.intro (by first | omega | (simp only [Int.toNat_natCast, Int.reduceToNat, addZ]; omega) | (simp only [ByteArray.size_append, size_mk, List.length_cons, List.length_nil, Int.toNat_natCast, Int.reduceToNat]; omega) | exact ⟨rfl, by omega⟩ | ((repeat' apply And.intro) <;> first | exact trivial | omega) | decide +kernel) ?_; conv => whnf) | (refine And.intro (fun (ht : tg _ _ = true) => by (simp only [tg_ite, tg_nil, cn, Nat.reduceMul, Nat.reduceAdd, Nat.reduceEqDiff, ↓reduceIte, pickB_or, pickB_and, Bool.and_eq_true, Bool.or_eq_true, Bool.or_eq_false_iff, Bool.and_eq_false_iff, Bool.not_eq_true', Bool.not_eq_false', decide_eq_true_eq, decide_eq_false_iff_not, Int.toNat_natCast, Int.reduceToNat, ne_eq] at ht ⊢; first | omega | (simp only [Int.toNat_natCast, Int.reduceToNat]; omega))) ?_; conv => whnf) | (refine ⟨_, shl1 (by omega), ?_⟩; conv => whnf) | (refine ⟨_, wru64 (by first | omega | (simp only [Int.toNat_natCast, Int.reduceToNat]; omega)) (by first | omega | (simp only [Int.toNat_natCast, Int.reduceToNat]; omega)), ?_⟩; conv => whnf) | (refine ⟨_, fun _ => (IntKind.wrap_u64 _).symm, ?_⟩; conv => whnf) | exact ⟨_, .keep rfl rfl⟩ | fail
      refine CallW.chg ?_; (conv => whnf); refine CallM.mk _ _ _ (by repeat' first | exact trivial | exact ⟨_, rfl⟩ | exact rfl | refine And.intro ?_ ?_) (by exact rfl) (head_C ((P2 ++ fnsT m j) ++ (⟨#[102, 117, 110, 99, 32]⟩ : ByteArray)) m (m.funcs.getD j Enc.d).name (m.funcs.getD j Enc.d).params (m.funcs.getD j Enc.d).ret (say5_fn hy hlt) (by omega) (by omega)) ?_; conv => whnf
      repeat' first | (refine And.intro (fun (hb : _ = true) => ?_) (fun (hb : _ = false) => ?_) <;> (try simp only [pickB_or, pickB_and] at hb) <;> (have hc := hb; try simp only [Int.toNat_natCast, Int.reduceToNat, Bool.or_eq_false_iff, Bool.and_eq_false_iff, Bool.not_eq_false', decide_eq_true_eq, decide_eq_false_iff_not, Bool.not_eq_true', Bool.and_eq_true, Bool.or_eq_true] at hc) <;> first | (exfalso; omega) | conv => whnf) | (refine ⟨_, wr64 (by first | omega | (simp only [Int.toNat_natCast, Int.reduceToNat]; omega)) (by first | omega | (simp only [Int.toNat_natCast, Int.reduceToNat]; omega)), ?_⟩; conv => whnf) | (refine And.intro (by first | omega | (simp only [Int.toNat_natCast, Int.reduceToNat, addZ]; omega) | (simp only [ByteArray.size_append, size_mk, List.length_cons, List.length_nil, Int.toNat_natCast, Int.reduceToNat]; omega) | exact ⟨rfl, by omega⟩ | ((repeat' apply And.intro) <;> first | exact trivial | omega) | decide +kernel) ?_; conv => whnf) | (refine And.intro (fun (ht : tg _ _ = true) => by (simp only [tg_ite, tg_nil, cn, Nat.reduceMul, Nat.reduceAdd, Nat.reduceEqDiff, ↓reduceIte, pickB_or, pickB_and, Bool.and_eq_true, Bool.or_eq_true, Bool.or_eq_false_iff, Bool.and_eq_false_iff, Bool.not_eq_true', Bool.not_eq_false', decide_eq_true_eq, decide_eq_false_iff_not, Int.toNat_natCast, Int.reduceToNat, ne_eq] at ht ⊢; first | omega | (simp only [Int.toNat_natCast, Int.reduceToNat]; omega))) ?_; conv => whnf) | (refine ⟨_, shl1 (by omega), ?_⟩; conv => whnf) | (refine ⟨_, wru64 (by first | omega | (simp only [Int.toNat_natCast, Int.reduceToNat]; omega)) (by first | omega | (simp only [Int.toNat_natCast, Int.reduceToNat]; omega)), ?_⟩; conv => whnf) | (refine ⟨_, fun _ => (IntKind.wrap_u64 _).symm, ?_⟩; conv => whnf) | exact ⟨_, .keep rfl rfl⟩ | fail
      refine lp [76] (fun q : Nat => [.i .i64 q]) (fun q => (1, bx m) :: (9, bx (m.funcs.getD j Enc.d)) :: wrO true (0 + (P3 ++ bkT m (m.funcs.getD j Enc.d).blocks q).size) (catB 0 g0 (P3 ++ bkT m (m.funcs.getD j Enc.d).blocks q)) m) (fun q => q ≤ (m.funcs.getD j Enc.d).blocks.length) (fun q => (m.funcs.getD j Enc.d).blocks.length - q) 0 (by omega) ?_ fun b hb0 => ?_
      · refine Ent.lp [] [] rfl rfl rfl ?_ ?_ <;> repeat' first | exact trivial | rfl | exact fun _ _ => rfl | omega | refine And.intro ?_ ?_ | (show (_ : Int) = _; first | omega | (simp only [Int.toNat_natCast]; omega))
        all_goals first | exact mat_adr rfl | exact fin1 (ByteArray.append_empty).symm | exact fin2 (ByteArray.append_empty).symm
      conv => whnf
      have z6 : (P3 ++ bkT m (m.funcs.getD j Enc.d).blocks b).size = P3.size + (bkT m (m.funcs.getD j Enc.d).blocks b).size := ByteArray.size_append
      rcases Nat.lt_or_ge b (m.funcs.getD j Enc.d).blocks.length with hlb | hgb
      · have q1 : (bkT m (m.funcs.getD j Enc.d).blocks b).size + ((blkT b ++ (⟨#[58, 10]⟩ : ByteArray)) ++ cdT m ((m.funcs.getD j Enc.d).blocks.getD b Enc.d).code ((m.funcs.getD j Enc.d).blocks.getD b Enc.d).code.length).size ≤ (bkT m (m.funcs.getD j Enc.d).blocks (m.funcs.getD j Enc.d).blocks.length).size := preT_in (g := fun b => (blkT b ++ (⟨#[58, 10]⟩ : ByteArray)) ++ cdT m ((m.funcs.getD j Enc.d).blocks.getD b Enc.d).code ((m.funcs.getD j Enc.d).blocks.getD b Enc.d).code.length) hlb
        rw [ByteArray.size_append, ByteArray.size_append, show ByteArray.size (⟨#[58, 10]⟩ : ByteArray) = 2 from rfl] at q1
        have i8 := code_le (m.funcs.getD j Enc.d) b
        let P4 := (P3 ++ bkT m (m.funcs.getD j Enc.d).blocks b) ++ (blkT b ++ (⟨#[58, 10]⟩ : ByteArray))
        have z7 : P4.size = P3.size + (bkT m (m.funcs.getD j Enc.d).blocks b).size + ((blkT b).size + 2) := by show ((P3 ++ bkT m (m.funcs.getD j Enc.d).blocks b) ++ (blkT b ++ (⟨#[58, 10]⟩ : ByteArray))).size = _; simp only [ByteArray.size_append, size_mk, List.length_cons, List.length_nil]
        have zb : (blkT b ++ (⟨#[58, 10]⟩ : ByteArray)).size = (blkT b).size + 2 := by rw [ByteArray.size_append]; rfl
        repeat' first | (refine And.intro (fun (hb : _ = true) => ?_) (fun (hb : _ = false) => ?_) <;> (try simp only [pickB_or, pickB_and] at hb) <;> (have hc := hb; try simp only [Int.toNat_natCast, Int.reduceToNat, Bool.or_eq_false_iff, Bool.and_eq_false_iff, Bool.not_eq_false', decide_eq_true_eq, decide_eq_false_iff_not, Bool.not_eq_true', Bool.and_eq_true, Bool.or_eq_true] at hc) <;> first | (exfalso; omega) | conv => whnf) | (refine ⟨_, wr64 (by first | omega | (simp only [Int.toNat_natCast, Int.reduceToNat]; omega)) (by first | omega | (simp only [Int.toNat_natCast, Int.reduceToNat]; omega)), ?_⟩; conv => whnf) | (refine And.intro (by first | omega | (simp only [Int.toNat_natCast, Int.reduceToNat, addZ]; omega) | (simp only [ByteArray.size_append, size_mk, List.length_cons, List.length_nil, Int.toNat_natCast, Int.reduceToNat]; omega) | exact ⟨rfl, by omega⟩ | ((repeat' apply And.intro) <;> first | exact trivial | omega) | decide +kernel) ?_; conv => whnf) | (refine And.intro (fun (ht : tg _ _ = true) => by (simp only [tg_ite, tg_nil, cn, Nat.reduceMul, Nat.reduceAdd, Nat.reduceEqDiff, ↓reduceIte, pickB_or, pickB_and, Bool.and_eq_true, Bool.or_eq_true, Bool.or_eq_false_iff, Bool.and_eq_false_iff, Bool.not_eq_true', Bool.not_eq_false', decide_eq_true_eq, decide_eq_false_iff_not, Int.toNat_natCast, Int.reduceToNat, ne_eq] at ht ⊢; first | omega | (simp only [Int.toNat_natCast, Int.reduceToNat]; omega))) ?_; conv => whnf) | (refine ⟨_, shl1 (by omega), ?_⟩; conv => whnf) | (refine ⟨_, wru64 (by first | omega | (simp only [Int.toNat_natCast, Int.reduceToNat]; omega)) (by first | omega | (simp only [Int.toNat_natCast, Int.reduceToNat]; omega)), ?_⟩; conv => whnf) | (refine ⟨_, fun _ => (IntKind.wrap_u64 _).symm, ?_⟩; conv => whnf) | ((first | refine CallK.mk _ _ (fun _ => block_S _ (by first | omega | (simp only [Int.toNat_natCast, Int.reduceToNat]; omega))) ?_ | refine CallL.mk _ _ (fun _ => block_S _ (by first | omega | (simp only [Int.toNat_natCast, Int.reduceToNat]; omega))) rfl (fun _ _ h => nomatch h) ?_ | (refine CallW.lent ?_; (conv => whnf); refine CallL.mk _ _ (fun _ => block_S _ (by first | omega | (simp only [Int.toNat_natCast, Int.reduceToNat]; omega))) rfl (fun _ _ h => nomatch h) ?_) | (refine CallW.lent ?_; (conv => whnf); refine And.intro (by omega) ?_; (conv => whnf); refine CallL.mk _ _ (fun _ => block_S _ (by first | omega | (simp only [Int.toNat_natCast, Int.reduceToNat]; omega))) rfl (fun _ _ h => nomatch h) ?_)); conv => whnf) | exact ⟨_, .keep rfl rfl⟩ | fail
        refine CallW.chg ?_; (conv => whnf); refine CallM.mk _ _ _ (by repeat' first | exact trivial | exact ⟨_, rfl⟩ | exact rfl | refine And.intro ?_ ?_) (by exact rfl) (put_C [[.s (blkT b)], [.s (⟨#[58, 10]⟩ : ByteArray)]] _ _ _ m (P3 ++ bkT m (m.funcs.getD j Enc.d).blocks b) (blkT b ++ (⟨#[58, 10]⟩ : ByteArray)) strs2 (by exact rfl) (by rw [z6, zb]; omega)) ?_; conv => whnf
        repeat' first | (refine And.intro (fun (hb : _ = true) => ?_) (fun (hb : _ = false) => ?_) <;> (try simp only [pickB_or, pickB_and] at hb) <;> (have hc := hb; try simp only [Int.toNat_natCast, Int.reduceToNat, Bool.or_eq_false_iff, Bool.and_eq_false_iff, Bool.not_eq_false', decide_eq_true_eq, decide_eq_false_iff_not, Bool.not_eq_true', Bool.and_eq_true, Bool.or_eq_true] at hc) <;> first | (exfalso; omega) | conv => whnf) | (refine ⟨_, wr64 (by first | omega | (simp only [Int.toNat_natCast, Int.reduceToNat]; omega)) (by first | omega | (simp only [Int.toNat_natCast, Int.reduceToNat]; omega)), ?_⟩; conv => whnf) | (refine And.intro (by first | omega | (simp only [Int.toNat_natCast, Int.reduceToNat, addZ]; omega) | (simp only [ByteArray.size_append, size_mk, List.length_cons, List.length_nil, Int.toNat_natCast, Int.reduceToNat]; omega) | exact ⟨rfl, by omega⟩ | ((repeat' apply And.intro) <;> first | exact trivial | omega) | decide +kernel) ?_; conv => whnf) | (refine And.intro (fun (ht : tg _ _ = true) => by (simp only [tg_ite, tg_nil, cn, Nat.reduceMul, Nat.reduceAdd, Nat.reduceEqDiff, ↓reduceIte, pickB_or, pickB_and, Bool.and_eq_true, Bool.or_eq_true, Bool.or_eq_false_iff, Bool.and_eq_false_iff, Bool.not_eq_true', Bool.not_eq_false', decide_eq_true_eq, decide_eq_false_iff_not, Int.toNat_natCast, Int.reduceToNat, ne_eq] at ht ⊢; first | omega | (simp only [Int.toNat_natCast, Int.reduceToNat]; omega))) ?_; conv => whnf) | (refine ⟨_, shl1 (by omega), ?_⟩; conv => whnf) | (refine ⟨_, wru64 (by first | omega | (simp only [Int.toNat_natCast, Int.reduceToNat]; omega)) (by first | omega | (simp only [Int.toNat_natCast, Int.reduceToNat]; omega)), ?_⟩; conv => whnf) | (refine ⟨_, fun _ => (IntKind.wrap_u64 _).symm, ?_⟩; conv => whnf) | exact ⟨_, .keep rfl rfl⟩ | fail
        refine lp [89] (fun q : Nat => [.i .i64 q]) (fun q => (1, bx m) :: (9, bx (m.funcs.getD j Enc.d)) :: (11, bx ((m.funcs.getD j Enc.d).blocks.getD b Enc.d)) :: wrO true (0 + (P4 ++ cdT m ((m.funcs.getD j Enc.d).blocks.getD b Enc.d).code q).size) (catB 0 g0 (P4 ++ cdT m ((m.funcs.getD j Enc.d).blocks.getD b Enc.d).code q)) m) (fun q => q ≤ ((m.funcs.getD j Enc.d).blocks.getD b Enc.d).code.length) (fun q => ((m.funcs.getD j Enc.d).blocks.getD b Enc.d).code.length - q) 0 (by omega) ?_ fun n hn2 => ?_
        · refine Ent.lp [] [] rfl rfl rfl ?_ ?_ <;> repeat' first | exact trivial | rfl | exact fun _ _ => rfl | omega | refine And.intro ?_ ?_ | (show (_ : Int) = _; first | omega | (simp only [Int.toNat_natCast]; omega))
          all_goals first | exact mat_adr rfl | exact fin1 (ByteArray.append_empty).symm | exact fin2 (ByteArray.append_empty).symm
        conv => whnf
        have z8 : (P4 ++ cdT m ((m.funcs.getD j Enc.d).blocks.getD b Enc.d).code n).size = P4.size + (cdT m ((m.funcs.getD j Enc.d).blocks.getD b Enc.d).code n).size := ByteArray.size_append
        rcases Nat.lt_or_ge n ((m.funcs.getD j Enc.d).blocks.getD b Enc.d).code.length with hln | hgn
        · have r1 : (cdT m ((m.funcs.getD j Enc.d).blocks.getD b Enc.d).code n).size + (insL m (((m.funcs.getD j Enc.d).blocks.getD b Enc.d).code.getD n Enc.d)).size ≤ (cdT m ((m.funcs.getD j Enc.d).blocks.getD b Enc.d).code ((m.funcs.getD j Enc.d).blocks.getD b Enc.d).code.length).size := preT_in (g := fun k => insL m (((m.funcs.getD j Enc.d).blocks.getD b Enc.d).code.getD k Enc.d)) hln
          have r2 := insL_beh m (((m.funcs.getD j Enc.d).blocks.getD b Enc.d).code.getD n Enc.d)
          have r3 := ins_le (m.funcs.getD j Enc.d) b n
          have r4 := InsOk.of (say5_ins hy hlt hlb hln) (hr.b j b n) (hr.n j b n).2
          have r5 := har_of (say5_ins hy hlt hlb hln)
          have z9 : ((P4 ++ cdT m ((m.funcs.getD j Enc.d).blocks.getD b Enc.d).code n) ++ (⟨#[32, 32]⟩ : ByteArray)).size = P4.size + (cdT m ((m.funcs.getD j Enc.d).blocks.getD b Enc.d).code n).size + 2 := by rw [ByteArray.size_append, z8]; rfl
          have z10 : (((P4 ++ cdT m ((m.funcs.getD j Enc.d).blocks.getD b Enc.d).code n) ++ (⟨#[32, 32]⟩ : ByteArray)) ++ insT m (((m.funcs.getD j Enc.d).blocks.getD b Enc.d).code.getD n Enc.d)).size = P4.size + (cdT m ((m.funcs.getD j Enc.d).blocks.getD b Enc.d).code n).size + 2 + (insT m (((m.funcs.getD j Enc.d).blocks.getD b Enc.d).code.getD n Enc.d)).size := by rw [ByteArray.size_append, z9]
          repeat' first | (refine And.intro (fun (hb : _ = true) => ?_) (fun (hb : _ = false) => ?_) <;> (try simp only [pickB_or, pickB_and] at hb) <;> (have hc := hb; try simp only [Int.toNat_natCast, Int.reduceToNat, Bool.or_eq_false_iff, Bool.and_eq_false_iff, Bool.not_eq_false', decide_eq_true_eq, decide_eq_false_iff_not, Bool.not_eq_true', Bool.and_eq_true, Bool.or_eq_true] at hc) <;> first | (exfalso; omega) | conv => whnf) | (refine ⟨_, wr64 (by first | omega | (simp only [Int.toNat_natCast, Int.reduceToNat]; omega)) (by first | omega | (simp only [Int.toNat_natCast, Int.reduceToNat]; omega)), ?_⟩; conv => whnf) | (refine And.intro (by first | omega | (simp only [Int.toNat_natCast, Int.reduceToNat, addZ]; omega) | (simp only [ByteArray.size_append, size_mk, List.length_cons, List.length_nil, Int.toNat_natCast, Int.reduceToNat]; omega) | exact ⟨rfl, by omega⟩ | ((repeat' apply And.intro) <;> first | exact trivial | omega) | decide +kernel) ?_; conv => whnf) | (refine And.intro (fun (ht : tg _ _ = true) => by (simp only [tg_ite, tg_nil, cn, Nat.reduceMul, Nat.reduceAdd, Nat.reduceEqDiff, ↓reduceIte, pickB_or, pickB_and, Bool.and_eq_true, Bool.or_eq_true, Bool.or_eq_false_iff, Bool.and_eq_false_iff, Bool.not_eq_true', Bool.not_eq_false', decide_eq_true_eq, decide_eq_false_iff_not, Int.toNat_natCast, Int.reduceToNat, ne_eq] at ht ⊢; first | omega | (simp only [Int.toNat_natCast, Int.reduceToNat]; omega))) ?_; conv => whnf) | (refine ⟨_, shl1 (by omega), ?_⟩; conv => whnf) | (refine ⟨_, wru64 (by first | omega | (simp only [Int.toNat_natCast, Int.reduceToNat]; omega)) (by first | omega | (simp only [Int.toNat_natCast, Int.reduceToNat]; omega)), ?_⟩; conv => whnf) | (refine ⟨_, fun _ => (IntKind.wrap_u64 _).symm, ?_⟩; conv => whnf) | exact ⟨_, .keep rfl rfl⟩ | fail
          refine CallW.chg ?_; (conv => whnf); refine CallM.mk _ _ _ (by repeat' first | exact trivial | exact ⟨_, rfl⟩ | exact rfl | refine And.intro ?_ ?_) (by exact rfl) (put_C [[.s (⟨#[32, 32]⟩ : ByteArray)]] _ _ _ m (P4 ++ cdT m ((m.funcs.getD j Enc.d).blocks.getD b Enc.d).code n) (⟨#[32, 32]⟩ : ByteArray) strs1 (by exact rfl) (by rw [z8]; show _ + 2 ≤ _; omega)) ?_; conv => whnf
          repeat' first | (refine And.intro (fun (hb : _ = true) => ?_) (fun (hb : _ = false) => ?_) <;> (try simp only [pickB_or, pickB_and] at hb) <;> (have hc := hb; try simp only [Int.toNat_natCast, Int.reduceToNat, Bool.or_eq_false_iff, Bool.and_eq_false_iff, Bool.not_eq_false', decide_eq_true_eq, decide_eq_false_iff_not, Bool.not_eq_true', Bool.and_eq_true, Bool.or_eq_true] at hc) <;> first | (exfalso; omega) | conv => whnf) | (refine ⟨_, wr64 (by first | omega | (simp only [Int.toNat_natCast, Int.reduceToNat]; omega)) (by first | omega | (simp only [Int.toNat_natCast, Int.reduceToNat]; omega)), ?_⟩; conv => whnf) | (refine And.intro (by first | omega | (simp only [Int.toNat_natCast, Int.reduceToNat, addZ]; omega) | (simp only [ByteArray.size_append, size_mk, List.length_cons, List.length_nil, Int.toNat_natCast, Int.reduceToNat]; omega) | exact ⟨rfl, by omega⟩ | ((repeat' apply And.intro) <;> first | exact trivial | omega) | decide +kernel) ?_; conv => whnf) | (refine And.intro (fun (ht : tg _ _ = true) => by (simp only [tg_ite, tg_nil, cn, Nat.reduceMul, Nat.reduceAdd, Nat.reduceEqDiff, ↓reduceIte, pickB_or, pickB_and, Bool.and_eq_true, Bool.or_eq_true, Bool.or_eq_false_iff, Bool.and_eq_false_iff, Bool.not_eq_true', Bool.not_eq_false', decide_eq_true_eq, decide_eq_false_iff_not, Int.toNat_natCast, Int.reduceToNat, ne_eq] at ht ⊢; first | omega | (simp only [Int.toNat_natCast, Int.reduceToNat]; omega))) ?_; conv => whnf) | (refine ⟨_, shl1 (by omega), ?_⟩; conv => whnf) | (refine ⟨_, wru64 (by first | omega | (simp only [Int.toNat_natCast, Int.reduceToNat]; omega)) (by first | omega | (simp only [Int.toNat_natCast, Int.reduceToNat]; omega)), ?_⟩; conv => whnf) | (refine ⟨_, fun _ => (IntKind.wrap_u64 _).symm, ?_⟩; conv => whnf) | exact ⟨_, .keep rfl rfl⟩ | fail
          refine CallW.chg ?_; (conv => whnf); refine CallM.mk _ _ _ (by repeat' first | exact trivial | exact ⟨_, rfl⟩ | exact rfl | refine And.intro ?_ ?_) (by exact rfl) (instr_C ((P4 ++ cdT m ((m.funcs.getD j Enc.d).blocks.getD b Enc.d).code n) ++ (⟨#[32, 32]⟩ : ByteArray)) m (((m.funcs.getD j Enc.d).blocks.getD b Enc.d).code.getD n Enc.d) r4 r5 hm (by omega) (by omega)) ?_; conv => whnf
          repeat' first | (refine And.intro (fun (hb : _ = true) => ?_) (fun (hb : _ = false) => ?_) <;> (try simp only [pickB_or, pickB_and] at hb) <;> (have hc := hb; try simp only [Int.toNat_natCast, Int.reduceToNat, Bool.or_eq_false_iff, Bool.and_eq_false_iff, Bool.not_eq_false', decide_eq_true_eq, decide_eq_false_iff_not, Bool.not_eq_true', Bool.and_eq_true, Bool.or_eq_true] at hc) <;> first | (exfalso; omega) | conv => whnf) | (refine ⟨_, wr64 (by first | omega | (simp only [Int.toNat_natCast, Int.reduceToNat]; omega)) (by first | omega | (simp only [Int.toNat_natCast, Int.reduceToNat]; omega)), ?_⟩; conv => whnf) | (refine And.intro (by first | omega | (simp only [Int.toNat_natCast, Int.reduceToNat, addZ]; omega) | (simp only [ByteArray.size_append, size_mk, List.length_cons, List.length_nil, Int.toNat_natCast, Int.reduceToNat]; omega) | exact ⟨rfl, by omega⟩ | ((repeat' apply And.intro) <;> first | exact trivial | omega) | decide +kernel) ?_; conv => whnf) | (refine And.intro (fun (ht : tg _ _ = true) => by (simp only [tg_ite, tg_nil, cn, Nat.reduceMul, Nat.reduceAdd, Nat.reduceEqDiff, ↓reduceIte, pickB_or, pickB_and, Bool.and_eq_true, Bool.or_eq_true, Bool.or_eq_false_iff, Bool.and_eq_false_iff, Bool.not_eq_true', Bool.not_eq_false', decide_eq_true_eq, decide_eq_false_iff_not, Int.toNat_natCast, Int.reduceToNat, ne_eq] at ht ⊢; first | omega | (simp only [Int.toNat_natCast, Int.reduceToNat]; omega))) ?_; conv => whnf) | (refine ⟨_, shl1 (by omega), ?_⟩; conv => whnf) | (refine ⟨_, wru64 (by first | omega | (simp only [Int.toNat_natCast, Int.reduceToNat]; omega)) (by first | omega | (simp only [Int.toNat_natCast, Int.reduceToNat]; omega)), ?_⟩; conv => whnf) | (refine ⟨_, fun _ => (IntKind.wrap_u64 _).symm, ?_⟩; conv => whnf) | exact ⟨_, .keep rfl rfl⟩ | fail
          refine CallW.chg ?_; (conv => whnf); refine CallM.mk _ _ _ (by repeat' first | exact trivial | exact ⟨_, rfl⟩ | exact rfl | refine And.intro ?_ ?_) (by exact rfl) (put_C [[.s (⟨#[10]⟩ : ByteArray)]] _ _ _ m (((P4 ++ cdT m ((m.funcs.getD j Enc.d).blocks.getD b Enc.d).code n) ++ (⟨#[32, 32]⟩ : ByteArray)) ++ insT m (((m.funcs.getD j Enc.d).blocks.getD b Enc.d).code.getD n Enc.d)) (⟨#[10]⟩ : ByteArray) strs1 (by exact rfl) (by rw [z10]; show _ + 1 ≤ _; omega)) ?_; conv => whnf
          repeat' first | (refine And.intro (fun (hb : _ = true) => ?_) (fun (hb : _ = false) => ?_) <;> (try simp only [pickB_or, pickB_and] at hb) <;> (have hc := hb; try simp only [Int.toNat_natCast, Int.reduceToNat, Bool.or_eq_false_iff, Bool.and_eq_false_iff, Bool.not_eq_false', decide_eq_true_eq, decide_eq_false_iff_not, Bool.not_eq_true', Bool.and_eq_true, Bool.or_eq_true] at hc) <;> first | (exfalso; omega) | conv => whnf) | (refine ⟨_, wr64 (by first | omega | (simp only [Int.toNat_natCast, Int.reduceToNat]; omega)) (by first | omega | (simp only [Int.toNat_natCast, Int.reduceToNat]; omega)), ?_⟩; conv => whnf) | (refine And.intro (by first | omega | (simp only [Int.toNat_natCast, Int.reduceToNat, addZ]; omega) | (simp only [ByteArray.size_append, size_mk, List.length_cons, List.length_nil, Int.toNat_natCast, Int.reduceToNat]; omega) | exact ⟨rfl, by omega⟩ | ((repeat' apply And.intro) <;> first | exact trivial | omega) | decide +kernel) ?_; conv => whnf) | (refine And.intro (fun (ht : tg _ _ = true) => by (simp only [tg_ite, tg_nil, cn, Nat.reduceMul, Nat.reduceAdd, Nat.reduceEqDiff, ↓reduceIte, pickB_or, pickB_and, Bool.and_eq_true, Bool.or_eq_true, Bool.or_eq_false_iff, Bool.and_eq_false_iff, Bool.not_eq_true', Bool.not_eq_false', decide_eq_true_eq, decide_eq_false_iff_not, Int.toNat_natCast, Int.reduceToNat, ne_eq] at ht ⊢; first | omega | (simp only [Int.toNat_natCast, Int.reduceToNat]; omega))) ?_; conv => whnf) | (refine ⟨_, shl1 (by omega), ?_⟩; conv => whnf) | (refine ⟨_, wru64 (by first | omega | (simp only [Int.toNat_natCast, Int.reduceToNat]; omega)) (by first | omega | (simp only [Int.toNat_natCast, Int.reduceToNat]; omega)), ?_⟩; conv => whnf) | (refine ⟨_, fun _ => (IntKind.wrap_u64 _).symm, ?_⟩; conv => whnf) | exact ⟨_, .keep rfl rfl⟩ | fail
          have e : P4 ++ cdT m ((m.funcs.getD j Enc.d).blocks.getD b Enc.d).code (n + 1) = (((P4 ++ cdT m ((m.funcs.getD j Enc.d).blocks.getD b Enc.d).code n) ++ (⟨#[32, 32]⟩ : ByteArray)) ++ insT m (((m.funcs.getD j Enc.d).blocks.getD b Enc.d).code.getD n Enc.d)) ++ (⟨#[10]⟩ : ByteArray) := by
            show P4 ++ (cdT m ((m.funcs.getD j Enc.d).blocks.getD b Enc.d).code n ++ insL m (((m.funcs.getD j Enc.d).blocks.getD b Enc.d).code.getD n Enc.d)) = _
            unfold insL; simp only [ByteArray.append_assoc]
          refine .mk (n + 1) (by omega) (by omega) ?_
          rw [e]
          refine Ent.lp [] [] rfl rfl rfl ?_ ?_ <;> repeat' first | exact trivial | rfl | exact fun _ _ => rfl | omega | refine And.intro ?_ ?_ | (show (_ : Int) = _; first | omega | (simp only [Int.toNat_natCast]; omega))
        · obtain rfl : n = ((m.funcs.getD j Enc.d).blocks.getD b Enc.d).code.length := by omega
          repeat' first | (refine And.intro (fun (hb : _ = true) => ?_) (fun (hb : _ = false) => ?_) <;> (try simp only [pickB_or, pickB_and] at hb) <;> (have hc := hb; try simp only [Int.toNat_natCast, Int.reduceToNat, Bool.or_eq_false_iff, Bool.and_eq_false_iff, Bool.not_eq_false', decide_eq_true_eq, decide_eq_false_iff_not, Bool.not_eq_true', Bool.and_eq_true, Bool.or_eq_true] at hc) <;> first | (exfalso; omega) | conv => whnf) | (refine ⟨_, wr64 (by first | omega | (simp only [Int.toNat_natCast, Int.reduceToNat]; omega)) (by first | omega | (simp only [Int.toNat_natCast, Int.reduceToNat]; omega)), ?_⟩; conv => whnf) | (refine And.intro (by first | omega | (simp only [Int.toNat_natCast, Int.reduceToNat, addZ]; omega) | (simp only [ByteArray.size_append, size_mk, List.length_cons, List.length_nil, Int.toNat_natCast, Int.reduceToNat]; omega) | exact ⟨rfl, by omega⟩ | ((repeat' apply And.intro) <;> first | exact trivial | omega) | decide +kernel) ?_; conv => whnf) | (refine And.intro (fun (ht : tg _ _ = true) => by (simp only [tg_ite, tg_nil, cn, Nat.reduceMul, Nat.reduceAdd, Nat.reduceEqDiff, ↓reduceIte, pickB_or, pickB_and, Bool.and_eq_true, Bool.or_eq_true, Bool.or_eq_false_iff, Bool.and_eq_false_iff, Bool.not_eq_true', Bool.not_eq_false', decide_eq_true_eq, decide_eq_false_iff_not, Int.toNat_natCast, Int.reduceToNat, ne_eq] at ht ⊢; first | omega | (simp only [Int.toNat_natCast, Int.reduceToNat]; omega))) ?_; conv => whnf) | (refine ⟨_, shl1 (by omega), ?_⟩; conv => whnf) | (refine ⟨_, wru64 (by first | omega | (simp only [Int.toNat_natCast, Int.reduceToNat]; omega)) (by first | omega | (simp only [Int.toNat_natCast, Int.reduceToNat]; omega)), ?_⟩; conv => whnf) | (refine ⟨_, fun _ => (IntKind.wrap_u64 _).symm, ?_⟩; conv => whnf) | exact ⟨_, .keep rfl rfl⟩ | fail
          have e : P3 ++ bkT m (m.funcs.getD j Enc.d).blocks (b + 1) = P4 ++ cdT m ((m.funcs.getD j Enc.d).blocks.getD b Enc.d).code ((m.funcs.getD j Enc.d).blocks.getD b Enc.d).code.length := by
            show P3 ++ (bkT m (m.funcs.getD j Enc.d).blocks b ++ ((blkT b ++ (⟨#[58, 10]⟩ : ByteArray)) ++ cdT m ((m.funcs.getD j Enc.d).blocks.getD b Enc.d).code ((m.funcs.getD j Enc.d).blocks.getD b Enc.d).code.length)) = ((P3 ++ bkT m (m.funcs.getD j Enc.d).blocks b) ++ (blkT b ++ (⟨#[58, 10]⟩ : ByteArray))) ++ _
            simp only [ByteArray.append_assoc]
          refine .mk (b + 1) (by omega) (by omega) ?_
          rw [e]
          refine Ent.lp [] [] rfl rfl rfl ?_ ?_ <;> repeat' first | exact trivial | rfl | exact fun _ _ => rfl | omega | refine And.intro ?_ ?_ | (show (_ : Int) = _; first | omega | (simp only [Int.toNat_natCast]; omega))
      · obtain rfl : b = (m.funcs.getD j Enc.d).blocks.length := by omega
        repeat' first | (refine And.intro (fun (hb : _ = true) => ?_) (fun (hb : _ = false) => ?_) <;> (try simp only [pickB_or, pickB_and] at hb) <;> (have hc := hb; try simp only [Int.toNat_natCast, Int.reduceToNat, Bool.or_eq_false_iff, Bool.and_eq_false_iff, Bool.not_eq_false', decide_eq_true_eq, decide_eq_false_iff_not, Bool.not_eq_true', Bool.and_eq_true, Bool.or_eq_true] at hc) <;> first | (exfalso; omega) | conv => whnf) | (refine ⟨_, wr64 (by first | omega | (simp only [Int.toNat_natCast, Int.reduceToNat]; omega)) (by first | omega | (simp only [Int.toNat_natCast, Int.reduceToNat]; omega)), ?_⟩; conv => whnf) | (refine And.intro (by first | omega | (simp only [Int.toNat_natCast, Int.reduceToNat, addZ]; omega) | (simp only [ByteArray.size_append, size_mk, List.length_cons, List.length_nil, Int.toNat_natCast, Int.reduceToNat]; omega) | exact ⟨rfl, by omega⟩ | ((repeat' apply And.intro) <;> first | exact trivial | omega) | decide +kernel) ?_; conv => whnf) | (refine And.intro (fun (ht : tg _ _ = true) => by (simp only [tg_ite, tg_nil, cn, Nat.reduceMul, Nat.reduceAdd, Nat.reduceEqDiff, ↓reduceIte, pickB_or, pickB_and, Bool.and_eq_true, Bool.or_eq_true, Bool.or_eq_false_iff, Bool.and_eq_false_iff, Bool.not_eq_true', Bool.not_eq_false', decide_eq_true_eq, decide_eq_false_iff_not, Int.toNat_natCast, Int.reduceToNat, ne_eq] at ht ⊢; first | omega | (simp only [Int.toNat_natCast, Int.reduceToNat]; omega))) ?_; conv => whnf) | (refine ⟨_, shl1 (by omega), ?_⟩; conv => whnf) | (refine ⟨_, wru64 (by first | omega | (simp only [Int.toNat_natCast, Int.reduceToNat]; omega)) (by first | omega | (simp only [Int.toNat_natCast, Int.reduceToNat]; omega)), ?_⟩; conv => whnf) | (refine ⟨_, fun _ => (IntKind.wrap_u64 _).symm, ?_⟩; conv => whnf) | exact ⟨_, .keep rfl rfl⟩ | fail
        refine CallW.chg ?_; (conv => whnf); refine CallM.mk _ _ _ (by repeat' first | exact trivial | exact ⟨_, rfl⟩ | exact rfl | refine And.intro ?_ ?_) (by exact rfl) (put_C [[.s (⟨#[101, 110, 100, 10]⟩ : ByteArray)]] _ _ _ m (P3 ++ bkT m (m.funcs.getD j Enc.d).blocks (m.funcs.getD j Enc.d).blocks.length) (⟨#[101, 110, 100, 10]⟩ : ByteArray) strs1 (by exact rfl) (by rw [z6]; show _ + 4 ≤ _; omega)) ?_; conv => whnf
        repeat' first | (refine And.intro (fun (hb : _ = true) => ?_) (fun (hb : _ = false) => ?_) <;> (try simp only [pickB_or, pickB_and] at hb) <;> (have hc := hb; try simp only [Int.toNat_natCast, Int.reduceToNat, Bool.or_eq_false_iff, Bool.and_eq_false_iff, Bool.not_eq_false', decide_eq_true_eq, decide_eq_false_iff_not, Bool.not_eq_true', Bool.and_eq_true, Bool.or_eq_true] at hc) <;> first | (exfalso; omega) | conv => whnf) | (refine ⟨_, wr64 (by first | omega | (simp only [Int.toNat_natCast, Int.reduceToNat]; omega)) (by first | omega | (simp only [Int.toNat_natCast, Int.reduceToNat]; omega)), ?_⟩; conv => whnf) | (refine And.intro (by first | omega | (simp only [Int.toNat_natCast, Int.reduceToNat, addZ]; omega) | (simp only [ByteArray.size_append, size_mk, List.length_cons, List.length_nil, Int.toNat_natCast, Int.reduceToNat]; omega) | exact ⟨rfl, by omega⟩ | ((repeat' apply And.intro) <;> first | exact trivial | omega) | decide +kernel) ?_; conv => whnf) | (refine And.intro (fun (ht : tg _ _ = true) => by (simp only [tg_ite, tg_nil, cn, Nat.reduceMul, Nat.reduceAdd, Nat.reduceEqDiff, ↓reduceIte, pickB_or, pickB_and, Bool.and_eq_true, Bool.or_eq_true, Bool.or_eq_false_iff, Bool.and_eq_false_iff, Bool.not_eq_true', Bool.not_eq_false', decide_eq_true_eq, decide_eq_false_iff_not, Int.toNat_natCast, Int.reduceToNat, ne_eq] at ht ⊢; first | omega | (simp only [Int.toNat_natCast, Int.reduceToNat]; omega))) ?_; conv => whnf) | (refine ⟨_, shl1 (by omega), ?_⟩; conv => whnf) | (refine ⟨_, wru64 (by first | omega | (simp only [Int.toNat_natCast, Int.reduceToNat]; omega)) (by first | omega | (simp only [Int.toNat_natCast, Int.reduceToNat]; omega)), ?_⟩; conv => whnf) | (refine ⟨_, fun _ => (IntKind.wrap_u64 _).symm, ?_⟩; conv => whnf) | exact ⟨_, .keep rfl rfl⟩ | fail
        have e : P2 ++ fnsT m (j + 1) = (P3 ++ bkT m (m.funcs.getD j Enc.d).blocks (m.funcs.getD j Enc.d).blocks.length) ++ (⟨#[101, 110, 100, 10]⟩ : ByteArray) := by
          show P2 ++ (fnsT m j ++ fnL m (m.funcs.getD j Enc.d)) = ((((P2 ++ fnsT m j) ++ _) ++ _) ++ _) ++ _
          unfold fnL hdL; simp only [ByteArray.append_assoc]
        refine .mk (j + 1) (by omega) (by omega) ?_
        rw [e]
        refine Ent.lp [] [] rfl rfl rfl ?_ ?_ <;> repeat' first | exact trivial | rfl | exact fun _ _ => rfl | omega | refine And.intro ?_ ?_ | (show (_ : Int) = _; first | omega | (simp only [Int.toNat_natCast]; omega))
  · obtain rfl : j = m.funcs.length := by omega
    obtain ⟨t0, ht0⟩ : ∃ t, t = (Nat.blt 0 m.funcs.length || t2) := ⟨_, rfl⟩
    rw [← ht0]
    clear ht0
    cases t0
    all_goals
      repeat' first | (refine And.intro (fun (hb : _ = true) => ?_) (fun (hb : _ = false) => ?_) <;> (try simp only [pickB_or, pickB_and] at hb) <;> (have hc := hb; try simp only [Int.toNat_natCast, Int.reduceToNat, Bool.or_eq_false_iff, Bool.and_eq_false_iff, Bool.not_eq_false', decide_eq_true_eq, decide_eq_false_iff_not, Bool.not_eq_true', Bool.and_eq_true, Bool.or_eq_true] at hc) <;> first | (exfalso; omega) | conv => whnf) | (refine ⟨_, wr64 (by first | omega | (simp only [Int.toNat_natCast, Int.reduceToNat]; omega)) (by first | omega | (simp only [Int.toNat_natCast, Int.reduceToNat]; omega)), ?_⟩; conv => whnf) | (refine And.intro (by first | omega | (simp only [Int.toNat_natCast, Int.reduceToNat, addZ]; omega) | (simp only [ByteArray.size_append, size_mk, List.length_cons, List.length_nil, Int.toNat_natCast, Int.reduceToNat]; omega) | exact ⟨rfl, by omega⟩ | ((repeat' apply And.intro) <;> first | exact trivial | omega) | decide +kernel) ?_; conv => whnf) | (refine And.intro (fun (ht : tg _ _ = true) => by (simp only [tg_ite, tg_nil, cn, Nat.reduceMul, Nat.reduceAdd, Nat.reduceEqDiff, ↓reduceIte, pickB_or, pickB_and, Bool.and_eq_true, Bool.or_eq_true, Bool.or_eq_false_iff, Bool.and_eq_false_iff, Bool.not_eq_true', Bool.not_eq_false', decide_eq_true_eq, decide_eq_false_iff_not, Int.toNat_natCast, Int.reduceToNat, ne_eq] at ht ⊢; first | omega | (simp only [Int.toNat_natCast, Int.reduceToNat]; omega))) ?_; conv => whnf) | (refine ⟨_, shl1 (by omega), ?_⟩; conv => whnf) | (refine ⟨_, wru64 (by first | omega | (simp only [Int.toNat_natCast, Int.reduceToNat]; omega)) (by first | omega | (simp only [Int.toNat_natCast, Int.reduceToNat]; omega)), ?_⟩; conv => whnf) | (refine ⟨_, fun _ => (IntKind.wrap_u64 _).symm, ?_⟩; conv => whnf) | exact ⟨_, .keep rfl rfl⟩ | fail
      refine CallW.chg ?_; (conv => whnf); refine CallM.mk _ _ _ (by repeat' first | exact trivial | exact ⟨_, rfl⟩ | exact rfl | refine And.intro ?_ ?_) (by exact rfl) (String_B _ m g0 (P2 ++ fnsT m m.funcs.length)) ?_; conv => whnf
      repeat' first | (refine And.intro (fun (hb : _ = true) => ?_) (fun (hb : _ = false) => ?_) <;> (try simp only [pickB_or, pickB_and] at hb) <;> (have hc := hb; try simp only [Int.toNat_natCast, Int.reduceToNat, Bool.or_eq_false_iff, Bool.and_eq_false_iff, Bool.not_eq_false', decide_eq_true_eq, decide_eq_false_iff_not, Bool.not_eq_true', Bool.and_eq_true, Bool.or_eq_true] at hc) <;> first | (exfalso; omega) | conv => whnf) | (refine ⟨_, wr64 (by first | omega | (simp only [Int.toNat_natCast, Int.reduceToNat]; omega)) (by first | omega | (simp only [Int.toNat_natCast, Int.reduceToNat]; omega)), ?_⟩; conv => whnf) | (refine And.intro (by first | omega | (simp only [Int.toNat_natCast, Int.reduceToNat, addZ]; omega) | (simp only [ByteArray.size_append, size_mk, List.length_cons, List.length_nil, Int.toNat_natCast, Int.reduceToNat]; omega) | exact ⟨rfl, by omega⟩ | ((repeat' apply And.intro) <;> first | exact trivial | omega) | decide +kernel) ?_; conv => whnf) | (refine And.intro (fun (ht : tg _ _ = true) => by (simp only [tg_ite, tg_nil, cn, Nat.reduceMul, Nat.reduceAdd, Nat.reduceEqDiff, ↓reduceIte, pickB_or, pickB_and, Bool.and_eq_true, Bool.or_eq_true, Bool.or_eq_false_iff, Bool.and_eq_false_iff, Bool.not_eq_true', Bool.not_eq_false', decide_eq_true_eq, decide_eq_false_iff_not, Int.toNat_natCast, Int.reduceToNat, ne_eq] at ht ⊢; first | omega | (simp only [Int.toNat_natCast, Int.reduceToNat]; omega))) ?_; conv => whnf) | (refine ⟨_, shl1 (by omega), ?_⟩; conv => whnf) | (refine ⟨_, wru64 (by first | omega | (simp only [Int.toNat_natCast, Int.reduceToNat]; omega)) (by first | omega | (simp only [Int.toNat_natCast, Int.reduceToNat]; omega)), ?_⟩; conv => whnf) | (refine ⟨_, fun _ => (IntKind.wrap_u64 _).symm, ?_⟩; conv => whnf) | exact ⟨_, .keep rfl rfl⟩ | fail
end Go.Proofs.YtilhkmlghhdpaaaDoor

/- A contract may be used with what tells more than it asks. -/
namespace Go.Proofs.YtilhkmlghhdpaaaDoor
open Go.RowKit
set_option linter.unusedVariables false
set_option linter.unusedSimpArgs false
mutual
/-- The first tells all that the second tells. -/
def wk : AV → AV → Prop
  | .i k z, .i k' z' => k = k' ∧ z = z'
  | .b t, .b t' => t = t'
  | .s x, .s x' => x = x'
  | .v x, .v x' => x = x'
  | .nil, .nil => True
  | .nil, .row none _ n _ => n = 0
  | .row nz e n g, .row none e' n' g' => e = e' ∧ n = n' ∧ ∀ i, i < n' → wks (g i) (g' i)
  | .agg cs, .agg cs' => wks cs cs'
  | .tup cs, .tup cs' => wks cs cs'
  | .any, .any => True
  | _, _ => False
def wks : List AV → List AV → Prop
  | [], [] => True
  | x :: xs, y :: ys => wk x y ∧ wks xs ys
  | _, _ => False
end
mutual
theorem wk_ok {S : Nat → Prop} {β : Nat → Wt} {w : World} : ∀ (x y : AV) (u : Value), wk x y → rel S β w x u → rel S β w y u
  | .i k z, y, u, h, hr => by
    cases y <;> simp only [wk] at h <;> try exact h.elim
    obtain ⟨rfl, rfl⟩ := h; exact hr
  | .b t, y, u, h, hr => by
    cases y <;> simp only [wk] at h <;> try exact h.elim
    subst h; exact hr
  | .s t, y, u, h, hr => by
    cases y <;> simp only [wk] at h <;> try exact h.elim
    subst h; exact hr
  | .v t, y, u, h, hr => by
    cases y <;> simp only [wk] at h <;> try exact h.elim
    subst h; exact hr
  | .nil, y, u, h, hr => by
    unfold rel at hr
    subst hr
    cases y with
    | nil => rfl
    | row nz e n g =>
      cases nz with
      | none =>
        simp only [wk] at h
        subst h
        exact ⟨none, 0, fun _ => [], rfl, (fun z hz => by cases hz), ⟨Nat.zero_le _, Nat.zero_le _⟩, fun i hi => by omega⟩
      | some b => simp only [wk] at h
    | _ => simp only [wk] at h
  | .row nz e n g, y, u, h, hr => by
    cases y with
    | row nz' e' n' g' =>
      cases nz' with
      | none =>
        simp only [wk] at h
        obtain ⟨rfl, rfl, hg⟩ := h
        unfold rel at hr ⊢
        obtain ⟨a, cap, us, h1, h2, h3, h4⟩ := hr
        exact ⟨a, cap, us, h1, (fun z hz => by cases hz), h3, fun i hi => ⟨(h4 i hi).1, (h4 i hi).2.1, wks_ok (g i) (g' i) (us i) (hg i hi) (h4 i hi).2.2⟩⟩
      | some b => simp only [wk] at h
    | _ => simp only [wk] at h
  | .agg cs, y, u, h, hr => by
    cases y with
    | agg cs' => simp only [wk] at h; obtain ⟨us, h1, h2⟩ := hr; exact ⟨us, h1, wks_ok cs cs' us h h2⟩
    | _ => simp only [wk] at h
  | .tup cs, y, u, h, hr => by
    cases y with
    | tup cs' => simp only [wk] at h; obtain ⟨us, h1, h2⟩ := hr; exact ⟨us, h1, wks_ok cs cs' us h h2⟩
    | _ => simp only [wk] at h
  | .any, y, u, h, hr => by
    cases y <;> simp only [wk] at h <;> try exact h.elim
    exact hr
  | .cp _, y, u, h, hr => by cases y <;> simp only [wk] at h
  | .op _ _, y, u, h, hr => by cases y <;> simp only [wk] at h
  | .orow _ _ _ _, y, u, h, hr => by cases y <;> simp only [wk] at h
  | .rp _ _ _ _, y, u, h, hr => by cases y <;> simp only [wk] at h
  | .clo _ _, y, u, h, hr => by cases y <;> simp only [wk] at h
  | .omap _, y, u, h, hr => by cases y <;> simp only [wk] at h
  | .ifc _ _, y, u, h, hr => by cases y <;> simp only [wk] at h
theorem wks_ok {S : Nat → Prop} {β : Nat → Wt} {w : World} : ∀ (x y : List AV) (u : List Value), wks x y → rels S β w x u → rels S β w y u
  | [], y, u, h, hr => by
    cases y with
    | nil => exact hr
    | cons => simp only [wks] at h
  | x :: xs, y, u, h, hr => by
    cases y with
    | nil => simp only [wks] at h
    | cons y ys =>
      simp only [wks] at h
      obtain ⟨u, us, h1, h2, h3⟩ := hr
      exact ⟨u, us, h1, wk_ok x y u h.1 h2, wks_ok xs ys us h.2 h3⟩
end
theorem ASpec.weak {P : Program} {f : FuncId} {vs args : List AV} {r : AV} {no : Os} (h : ASpec P f args r no) (hw : wks vs args) : ASpec P f vs r no :=
  ⟨h.1, h.2.1, fun S w us hr hv => h.2.2 S w us (wks_ok _ _ _ hw hr) hv⟩
end Go.Proofs.YtilhkmlghhdpaaaDoor

/- What comes in, opened: modules and their parts as they are read. -/
namespace Go.Proofs.YtilhkmlghhdpaaaDoor
open Go.RowKit Go.ChangeShapes Go.WideShapes
set_option linter.unusedVariables false
set_option linter.unusedSimpArgs false
set_option maxRecDepth 100000
def allS : Nat → Prop := fun _ => True
def rngI (x : Int) : Prop := -9223372036854775808 ≤ x ∧ x ≤ 9223372036854775807
def rngU (x : Int) : Prop := 0 ≤ x ∧ x < 18446744073709551616
/-- The numbers in a datum lie within their kinds. -/
class Rng (α : Type) where
  rng : α → Prop
instance : Rng Int := ⟨rngI⟩
instance : Rng ByteArray := ⟨fun _ => True⟩
instance {α : Type} [Rng α] : Rng (List α) := ⟨fun l => ∀ x ∈ l, Rng.rng x⟩
theorem bulk_agg {H : Type} {l : List (DataW H)} : Rows.uptoBulk (.agg l) = Rows.uptoBulkAll l + 1 := by rw [Rows.uptoBulk]
theorem bulk_cons {H : Type} {d : DataW H} {l : List (DataW H)} : Rows.uptoBulkAll (d :: l) = Rows.uptoBulk d + Rows.uptoBulkAll l := by rw [Rows.uptoBulkAll]
theorem bulk_nil {H : Type} : Rows.uptoBulkAll ([] : List (DataW H)) = 0 := by rw [Rows.uptoBulkAll]
theorem bulk_app {H : Type} : ∀ {l l' : List (DataW H)}, Rows.uptoBulkAll (l ++ l') = Rows.uptoBulkAll l + Rows.uptoBulkAll l'
  | [], l' => by rw [List.nil_append, bulk_nil, Nat.zero_add]
  | d :: l, l' => by rw [List.cons_append, bulk_cons, bulk_cons, bulk_app, Nat.add_assoc]
instance : Siz Plc := ⟨fun _ => 0, rfl⟩
/-- A datum of a type that is read, as one of ours. -/
structure OpA (t : TypeId) (α : Type) [Enc α] [Siz α] [Rng α] : Prop where
  open_ : ∀ {H : Type} (enc : TypeId × Value → H) (w : World) (base : Nat) (sp : Nat → Bool) (hd : Bool) (fuel : Nat) (cs : List Value) (x : DataW H × List MemPlace),
    DataW.trod enc Tryd.prog w base sp hd fuel t cs = some x → ∃ d : α, siz d + 1 ≤ Rows.uptoBulk x.1 ∧ Rng.rng d ∧ rels allS W0 w (Enc.enc d) cs
theorem wf_i64 {z : Int} (h : (Lit.int .i64 z).wf = true) : -9223372036854775808 ≤ z ∧ z ≤ 9223372036854775807 := by
  simp [Lit.wf, IntKind.min, IntKind.max, IntKind.signed, IntKind.bits] at h; omega
theorem wf_u64 {z : Int} (h : (Lit.int .u64 z).wf = true) : 0 ≤ z ∧ z < 18446744073709551616 := by
  simp [Lit.wf, IntKind.min, IntKind.max, IntKind.signed, IntKind.bits] at h; omega
theorem op_i64 {t : TypeId} (ht : Tryd.prog.underlying t = some (.int .i64)) : OpA t Int :=
  ⟨fun enc w base sp hd fuel cs x h => by
    obtain ⟨z, rfl, rfl, hw⟩ := DataW.trod_int ht h
    exact ⟨z, by show 0 + 1 ≤ Rows.uptoBulk (.lit (.int .i64 z)); rw [Rows.uptoBulk]; exact Nat.le_refl _; all_goals simp, wf_i64 hw, _, _, rfl, rfl, rfl⟩⟩
/-- A number without a sign. -/
structure OpU (t : TypeId) : Prop where
  open_ : ∀ {H : Type} (enc : TypeId × Value → H) (w : World) (base : Nat) (sp : Nat → Bool) (hd : Bool) (fuel : Nat) (cs : List Value) (x : DataW H × List MemPlace),
    DataW.trod enc Tryd.prog w base sp hd fuel t cs = some x → ∃ d : Int, 0 + 1 ≤ Rows.uptoBulk x.1 ∧ rngU d ∧ rels allS W0 w [.i .u64 d] cs
theorem op_u64 {t : TypeId} (ht : Tryd.prog.underlying t = some (.int .u64)) : OpU t :=
  ⟨fun enc w base sp hd fuel cs x h => by
    obtain ⟨z, rfl, rfl, hw⟩ := DataW.trod_int ht h
    exact ⟨z, by show 0 + 1 ≤ Rows.uptoBulk (.lit (.int .u64 z)); rw [Rows.uptoBulk]; exact Nat.le_refl _; all_goals simp, wf_u64 hw, _, _, rfl, rfl, rfl⟩⟩
theorem op_str {t : TypeId} (ht : Tryd.prog.underlying t = some .string) : OpA t ByteArray :=
  ⟨fun enc w base sp hd fuel cs x h => by
    obtain ⟨z, rfl, rfl, hs⟩ := DataW.trod_string ht h
    refine ⟨z, ?_, trivial, _, _, rfl, rfl, rfl⟩
    show z.size + 1 ≤ Rows.uptoBulk (.lit (.string z.data.toList))
    rw [Rows.uptoBulk, Array.length_toList]; exact Nat.le_refl _⟩
theorem list_of {α : Type} {p : Nat → α → Prop} : ∀ (n : Nat), (∀ i, i < n → ∃ x, p i x) → ∃ l : List α, l.length = n ∧ ∀ (i : Nat) x, l[i]? = some x → p i x
  | 0, _ => ⟨[], rfl, fun i x h => by simp at h⟩
  | n + 1, h => by
    obtain ⟨l, hl, hp⟩ := list_of n fun i hi => h i (Nat.lt_succ_of_lt hi)
    obtain ⟨x, hx⟩ := h n (Nat.lt_succ_self n)
    refine ⟨l ++ [x], by simp [hl], fun i y hy => ?_⟩
    rcases Nat.lt_trichotomy i n with q | q | q
    · rw [List.getElem?_append_left (by omega)] at hy; exact hp i y hy
    · subst q; rw [List.getElem?_append_right (by omega), hl] at hy; simp at hy; subst hy; exact hx
    · rw [List.getElem?_eq_none (by simp; omega)] at hy; cases hy
theorem choose_to {α : Type} [Inhabited α] {p : Nat → α → Prop} (n : Nat) (h : ∀ i, i < n → ∃ x, p i x) : ∃ f : Nat → α, ∀ i, i < n → p i (f i) := by
  obtain ⟨l, hl, hp⟩ := list_of n h
  refine ⟨fun i => l.getD i default, fun i hi => ?_⟩
  have := hp i l[i] (List.getElem?_eq_getElem (by omega))
  show p i (l.getD i default)
  rwa [List.getD_eq_getElem?_getD, List.getElem?_eq_getElem (by omega)]
theorem bulk_range {H : Type} {α : Type} [Enc α] [Siz α] (D : Nat → DataW H) : ∀ (l : List α) (k : Nat), (∀ i x, l[i]? = some x → siz x + 1 ≤ Rows.uptoBulk (D (k + i))) → siz l ≤ Rows.uptoBulkAll ((List.range l.length).map fun i => D (k + i))
  | [], k, h => Nat.zero_le _
  | x :: l, k, h => by
    have e : siz (x :: l) = l.length + 1 + (siz x + (l.map siz).sum) := rfl
    have e2 : siz l = l.length + (l.map siz).sum := rfl
    have h0 := h 0 x rfl
    have h1 := bulk_range D l (k + 1) fun i y hy => by have := h (i + 1) y (by simpa using hy); rwa [show k + 1 + i = k + (i + 1) by omega]
    rw [List.length_cons, List.range_succ_eq_map, List.map_cons, bulk_cons, List.map_map, e]
    rw [show ((fun i => D (k + i)) ∘ Nat.succ) = fun i => D (k + 1 + i) from funext fun i => by show D (k + (i + 1)) = _; congr 1; omega]
    rw [Nat.add_zero] at h0 ⊢
    omega
theorem OpA.list {t e : TypeId} {α : Type} [Enc α] [Siz α] [Rng α] (ht : Tryd.prog.underlying t = some (.slice e)) (hc : Tryd.prog.cellsOf e = Enc.sz α) (ho : ∀ x : α, (Enc.enc x).all AV.one = true) (he : OpA e α) : OpA t (List α) where
  open_ := fun enc w base sp hd fuel cs x h => by
    rcases Go.Deep.open_slice ht h with ⟨rfl, rfl⟩ | ⟨a, len, cap, m, n, D, Pl, rfl, hb, hl, hm, hmm, rfl, hx⟩
    · refine ⟨[], ?_, (fun x hx => by cases hx), _, _, rfl, ⟨none, 0, fun _ => [], rfl, (fun z hz => by cases hz), ⟨Nat.zero_le _, Nat.zero_le _⟩, fun i hi => by cases hi⟩, rfl⟩
      show 0 + 1 ≤ Rows.uptoBulk (.nil)
      rw [Rows.uptoBulk]; exact Nat.le_refl _
    · have hle : len ≤ m := by rw [hmm]; split <;> omega
      obtain ⟨l, hll, hp⟩ := list_of (p := fun i (d : α) => (∃ cs', w.cells? base (a.add (i * Enc.sz α)) (Enc.sz α) = some cs' ∧ rels allS W0 w (Enc.enc d) cs') ∧ Rng.rng d ∧ siz d + 1 ≤ Rows.uptoBulk (D i)) len fun i hi => by
        obtain ⟨cs', h1, h2⟩ := hx i (by omega)
        obtain ⟨d, h3, h4, h5⟩ := he.open_ _ _ _ _ _ _ _ _ h2
        rw [hc] at h1
        exact ⟨d, ⟨cs', h1, h5⟩, h4, h3⟩
      subst hll
      obtain ⟨us, hus⟩ := choose_to (p := fun i cs' => ∀ x, l[i]? = some x → w.cells? base (a.add (i * Enc.sz α)) (Enc.sz α) = some cs' ∧ rels allS W0 w (Enc.enc x) cs') l.length fun i hi => by
        obtain ⟨⟨cs', h1, h2⟩, _⟩ := hp i l[i] (List.getElem?_eq_getElem hi)
        exact ⟨cs', fun x hx => by rw [List.getElem?_eq_getElem hi] at hx; cases hx; exact ⟨h1, h2⟩⟩
      refine ⟨l, ?_, fun x hx => ?_, _, _, rfl, ⟨some a, cap, us, rfl, (fun z hz => by cases hz), ⟨hl, Nat.le_trans hl hm⟩, fun i hi => ?_⟩, rfl⟩
      · rw [show Rows.uptoBulk (DataW.slice (List.map D (List.range l.length)) (List.map (fun j => D (l.length + j)) (List.range (m - l.length)))) = Rows.uptoBulkAll (List.map D (List.range l.length)) + Rows.uptoBulkAll (List.map (fun j => D (l.length + j)) (List.range (m - l.length))) + 1 by rw [Rows.uptoBulk]]
        have := bulk_range D l 0 fun i x hx => by rw [Nat.zero_add]; exact (hp i x hx).2.2
        simp only [Nat.zero_add] at this
        show siz l + 1 ≤ Rows.uptoBulkAll (List.map (fun i => D i) (List.range l.length)) + _ + 1
        omega
      · obtain ⟨i, hi, rfl⟩ := List.getElem_of_mem hx
        exact (hp i l[i] (List.getElem?_eq_getElem hi)).2.1
      · have hg : l.getD i Enc.d = l[i] := by rw [List.getD_eq_getElem?_getD, List.getElem?_eq_getElem hi]; rfl
        obtain ⟨h1, h2⟩ := hus i hi l[i] (List.getElem?_eq_getElem hi)
        obtain ⟨_, hlen, hcell⟩ := World.cells?_some h1
        refine ⟨⟨a, rfl, fun w' h3 h4 j u hu => ?_⟩, ⟨hlen, rels_one h2 (ho _)⟩, ?_⟩
        · have hj : j < Enc.sz α := by have := (List.getElem?_eq_some_iff.1 hu).1; omega
          have := hcell j hj
          rw [hu] at this
          unfold World.cell? at this ⊢
          cases hb : w.heap[((a.add (i * Enc.sz α)).add j).block]? with
          | none => rw [hb] at this; cases this
          | some o =>
            have hlt := (Array.getElem?_eq_some_iff.1 hb).1
            rw [h4 _ hlt trivial, hb]; rw [hb] at this; exact this
        · show rels allS W0 w (Enc.enc (l.getD i Enc.d)) (us i)
          rw [hg]; exact h2
/-- A struct whose fields are of one cell each. -/
theorem trod_flat {H : Type} {enc : TypeId × Value → H} {w : World} {base : Nat} {sp : Nat → Bool} {hd : Bool} {fuel : Nat} {cs : List Value} {x : DataW H × List MemPlace} {t : TypeId} {fs : Array Field}
    (hs : Tryd.prog.underlying t = some (.struct fs)) (h : DataW.trod enc Tryd.prog w base sp hd fuel t cs = some x) (n : Nat) (hc : Tryd.prog.cellsOf t = n) (hn : fs.size = n) (hf : ∀ i : Nat, i < n → (fs[i]?.map (·.offset)) = some i ∧ (fs[i]?.map fun f => Tryd.prog.cellsOf f.type) = some 1) :
    ∃ (m : Nat) (xs : List (DataW H × List MemPlace)), xs.length = n ∧ x.1 = .agg (xs.map (·.1)) ∧ cs.length = n ∧ ∀ (i : Nat) (f : Field) (c : Value) (y : DataW H × List MemPlace), fs[i]? = some f → cs[i]? = some c → xs[i]? = some y → DataW.trod enc Tryd.prog w base sp hd m f.type [c] = some y := by
  obtain ⟨xs, m, rfl, rfl, hlen, hxl, hall⟩ := DataW.trod_struct hs h
  refine ⟨m, xs, hxl.trans hn, rfl, hlen.trans hc, fun i f c y hfi hci hyi => ?_⟩
  have hi : i < n := by rw [← hn]; exact (Array.getElem?_eq_some_iff.1 hfi).1
  obtain ⟨h1, h2⟩ := hf i hi
  rw [hfi] at h1 h2
  simp only [Option.map_some, Option.some.injEq] at h1 h2
  have := hall i f hfi
  rw [hyi, h1, h2] at this
  rw [← this]
  congr 1
  obtain ⟨hl, e⟩ := List.getElem?_eq_some_iff.1 hci
  rw [List.drop_eq_getElem_cons hl, e]; rfl
theorem list1 {α : Type} {l : List α} (h : l.length = 1) : ∃ a, l = [a] := by
  match l, h with
  | [a], _ => exact ⟨a, rfl⟩
theorem list2 {α : Type} {l : List α} (h : l.length = 2) : ∃ a b, l = [a, b] := by
  match l, h with
  | [a, b], _ => exact ⟨a, b, rfl⟩
theorem list3 {α : Type} {l : List α} (h : l.length = 3) : ∃ a b c, l = [a, b, c] := by
  match l, h with
  | [a, b, c], _ => exact ⟨a, b, c, rfl⟩
theorem list4 {α : Type} {l : List α} (h : l.length = 4) : ∃ a b c d, l = [a, b, c, d] := by
  match l, h with
  | [a, b, c, d], _ => exact ⟨a, b, c, d, rfl⟩
theorem list7 {α : Type} {l : List α} (h : l.length = 7) : ∃ a b c d e f g, l = [a, b, c, d, e, f, g] := by
  match l, h with
  | [a, b, c, d, e, f, g], _ => exact ⟨a, b, c, d, e, f, g, rfl⟩
/-- A contract, at a call from without. -/
theorem calls_of_A {f : FuncId} {args : List AV} {us : List Value} {w : World} {b : Bool} (h : ASpec Tryd.prog f args (.b b) []) (hr : rels allS W0 w args us) (hv : Rob allS w Vr) :
    Calls Tryd.prog f us.toArray w fun e w' => e = .returned (.bool b) ∧ Below w.heap.size w w' :=
  (h.2.2 allS w us hr hv).mono fun e w' ⟨v, β', he, hb, _, _, _, _, hrel⟩ => ⟨by rw [he]; unfold rel at hrel; rw [hrel], hb⟩
theorem open_arg {α : Type} [Enc α] [Siz α] [Rng α] {H : Type} {enc : TypeId × Value → H} {w : World} {base b0 : Nat} {sp : Nat → Bool} {hd : Bool} {r : Reach} {t : TypeId} {v : Value} {d : DataW H} {ps : List MemPlace} {fs : Array Field}
    (ho : OpA t α) (ht : Tryd.prog.underlying t = some (.struct fs)) (hval : Value.okWide Tryd.prog w r b0 t v) (h : DataW.Trod enc Tryd.prog w base sp hd t v d ps) : ∃ x : α, rel allS W0 w (eS x) v ∧ Rng.rng x ∧ siz x + 1 ≤ Rows.uptoBulk d := by
  obtain ⟨cs, rfl, _⟩ := okWide_struct ht hval
  obtain ⟨fuel, hf⟩ := h
  obtain ⟨x, h1, h2, h3⟩ := ho.open_ _ _ _ _ _ _ _ _ hf
  exact ⟨x, ⟨cs.toList, by simp, by simpa [Value.cells] using h3⟩, h2, h1⟩
instance : Rng Plc := ⟨fun x => rngI x.f ∧ rngI x.b ∧ rngI x.i⟩
theorem op_Plc : OpA 83 Plc where
  open_ := fun enc w base sp hd fuel cs x h => by
    obtain ⟨m, xs, h1, h2, h3, h4⟩ := trod_flat Tryd.underlying83 h 3 (by kernel_rfl) rfl (by decide)
    obtain ⟨c0, c1, c2, rfl⟩ := list3 h3
    obtain ⟨y0, y1, y2, rfl⟩ := list3 h1
    obtain ⟨d0, a0, b0, r0⟩ := (op_i64 Tryd.underlying3).open_ _ _ _ _ _ _ _ _ (h4 0 _ _ _ rfl rfl rfl)
    obtain ⟨_, _, e0, r0, rn0⟩ := r0
    cases e0
    obtain ⟨d1, a1, b1, r1⟩ := (op_i64 Tryd.underlying3).open_ _ _ _ _ _ _ _ _ (h4 1 _ _ _ rfl rfl rfl)
    obtain ⟨_, _, e1, r1, rn1⟩ := r1
    cases e1
    obtain ⟨d2, a2, b2, r2⟩ := (op_i64 Tryd.underlying3).open_ _ _ _ _ _ _ _ _ (h4 2 _ _ _ rfl rfl rfl)
    obtain ⟨_, _, e2, r2, rn2⟩ := r2
    cases e2
    refine ⟨⟨d0, d1, d2⟩, ?_, ⟨b0, b1, b2⟩, ?_⟩
    · rw [h2]
      have e : siz (⟨d0, d1, d2⟩ : Plc) = 0 := rfl
      rw [e, bulk_agg]
      simp only [List.map_cons, List.map_nil, bulk_cons, bulk_nil]
      omega
    · exact ⟨_, _, rfl, r0, ⟨_, _, rfl, r1, ⟨_, _, rfl, r2, rfl⟩⟩⟩
instance : Rng Opd := ⟨fun x => rngI x.k ∧ rngI x.n ∧ rngU x.b⟩
theorem op_Opd : OpA 80 Opd where
  open_ := fun enc w base sp hd fuel cs x h => by
    obtain ⟨m, xs, h1, h2, h3, h4⟩ := trod_flat Tryd.underlying80 h 3 (by kernel_rfl) rfl (by decide)
    obtain ⟨c0, c1, c2, rfl⟩ := list3 h3
    obtain ⟨y0, y1, y2, rfl⟩ := list3 h1
    obtain ⟨d0, a0, b0, r0⟩ := (op_i64 Tryd.underlying3).open_ _ _ _ _ _ _ _ _ (h4 0 _ _ _ rfl rfl rfl)
    obtain ⟨_, _, e0, r0, rn0⟩ := r0
    cases e0
    obtain ⟨d1, a1, b1, r1⟩ := (op_i64 Tryd.underlying3).open_ _ _ _ _ _ _ _ _ (h4 1 _ _ _ rfl rfl rfl)
    obtain ⟨_, _, e1, r1, rn1⟩ := r1
    cases e1
    obtain ⟨d2, a2, b2, r2⟩ := (op_u64 Tryd.underlying69).open_ _ _ _ _ _ _ _ _ (h4 2 _ _ _ rfl rfl rfl)
    obtain ⟨_, _, e2, r2, rn2⟩ := r2
    cases e2
    refine ⟨⟨d0, d1, d2⟩, ?_, ⟨b0, b1, b2⟩, ?_⟩
    · rw [h2]
      have e : siz (⟨d0, d1, d2⟩ : Opd) = 0 := rfl
      rw [e, bulk_agg]
      simp only [List.map_cons, List.map_nil, bulk_cons, bulk_nil]
      omega
    · exact ⟨_, _, rfl, r0, ⟨_, _, rfl, r1, ⟨_, _, rfl, r2, rfl⟩⟩⟩
instance : Rng InsE := ⟨fun x => rngI x.op ∧ rngI x.reg ∧ rngI x.t ∧ rngI x.n ∧ rngI x.f ∧ Rng.rng x.args ∧ Rng.rng x.to⟩
theorem op_InsE : OpA 39 InsE where
  open_ := fun enc w base sp hd fuel cs x h => by
    obtain ⟨m, xs, h1, h2, h3, h4⟩ := trod_flat Tryd.underlying39 h 7 (by kernel_rfl) rfl (by decide)
    obtain ⟨c0, c1, c2, c3, c4, c5, c6, rfl⟩ := list7 h3
    obtain ⟨y0, y1, y2, y3, y4, y5, y6, rfl⟩ := list7 h1
    obtain ⟨d0, a0, b0, r0⟩ := (op_i64 Tryd.underlying3).open_ _ _ _ _ _ _ _ _ (h4 0 _ _ _ rfl rfl rfl)
    obtain ⟨_, _, e0, r0, rn0⟩ := r0
    cases e0
    obtain ⟨d1, a1, b1, r1⟩ := (op_i64 Tryd.underlying3).open_ _ _ _ _ _ _ _ _ (h4 1 _ _ _ rfl rfl rfl)
    obtain ⟨_, _, e1, r1, rn1⟩ := r1
    cases e1
    obtain ⟨d2, a2, b2, r2⟩ := (op_i64 Tryd.underlying3).open_ _ _ _ _ _ _ _ _ (h4 2 _ _ _ rfl rfl rfl)
    obtain ⟨_, _, e2, r2, rn2⟩ := r2
    cases e2
    obtain ⟨d3, a3, b3, r3⟩ := (op_i64 Tryd.underlying3).open_ _ _ _ _ _ _ _ _ (h4 3 _ _ _ rfl rfl rfl)
    obtain ⟨_, _, e3, r3, rn3⟩ := r3
    cases e3
    obtain ⟨d4, a4, b4, r4⟩ := (op_i64 Tryd.underlying3).open_ _ _ _ _ _ _ _ _ (h4 4 _ _ _ rfl rfl rfl)
    obtain ⟨_, _, e4, r4, rn4⟩ := r4
    cases e4
    obtain ⟨d5, a5, b5, r5⟩ := (OpA.list (α := Opd) Tryd.underlying37 (by kernel_rfl) (fun _ => rfl) op_Opd).open_ _ _ _ _ _ _ _ _ (h4 5 _ _ _ rfl rfl rfl)
    obtain ⟨_, _, e5, r5, rn5⟩ := r5
    cases e5
    obtain ⟨d6, a6, b6, r6⟩ := (OpA.list (α := Int) Tryd.underlying36 (by kernel_rfl) (fun _ => rfl) (op_i64 Tryd.underlying3)).open_ _ _ _ _ _ _ _ _ (h4 6 _ _ _ rfl rfl rfl)
    obtain ⟨_, _, e6, r6, rn6⟩ := r6
    cases e6
    refine ⟨⟨d0, d1, d2, d3, d4, d5, d6⟩, ?_, ⟨b0, b1, b2, b3, b4, b5, b6⟩, ?_⟩
    · rw [h2]
      have e : siz (⟨d0, d1, d2, d3, d4, d5, d6⟩ : InsE) = siz d5 + siz d6 := rfl
      rw [e, bulk_agg]
      simp only [List.map_cons, List.map_nil, bulk_cons, bulk_nil]
      omega
    · exact ⟨_, _, rfl, r0, ⟨_, _, rfl, r1, ⟨_, _, rfl, r2, ⟨_, _, rfl, r3, ⟨_, _, rfl, r4, ⟨_, _, rfl, r5, ⟨_, _, rfl, r6, rfl⟩⟩⟩⟩⟩⟩⟩
instance : Rng BlkE := ⟨fun x => Rng.rng x.code⟩
theorem op_BlkE : OpA 42 BlkE where
  open_ := fun enc w base sp hd fuel cs x h => by
    obtain ⟨m, xs, h1, h2, h3, h4⟩ := trod_flat Tryd.underlying42 h 1 (by kernel_rfl) rfl (by decide)
    obtain ⟨c0, rfl⟩ := list1 h3
    obtain ⟨y0, rfl⟩ := list1 h1
    obtain ⟨d0, a0, b0, r0⟩ := (OpA.list (α := InsE) Tryd.underlying40 (by kernel_rfl) (fun _ => rfl) op_InsE).open_ _ _ _ _ _ _ _ _ (h4 0 _ _ _ rfl rfl rfl)
    obtain ⟨_, _, e0, r0, rn0⟩ := r0
    cases e0
    refine ⟨⟨d0⟩, ?_, b0, ?_⟩
    · rw [h2]
      have e : siz (⟨d0⟩ : BlkE) = siz d0 := rfl
      rw [e, bulk_agg]
      simp only [List.map_cons, List.map_nil, bulk_cons, bulk_nil]
      omega
    · exact ⟨_, _, rfl, r0, rfl⟩
instance : Rng FnE := ⟨fun x => True ∧ Rng.rng x.params ∧ rngI x.ret ∧ Rng.rng x.blocks⟩
theorem op_FnE : OpA 45 FnE where
  open_ := fun enc w base sp hd fuel cs x h => by
    obtain ⟨m, xs, h1, h2, h3, h4⟩ := trod_flat Tryd.underlying45 h 4 (by kernel_rfl) rfl (by decide)
    obtain ⟨c0, c1, c2, c3, rfl⟩ := list4 h3
    obtain ⟨y0, y1, y2, y3, rfl⟩ := list4 h1
    obtain ⟨d0, a0, b0, r0⟩ := (op_str Tryd.underlying9).open_ _ _ _ _ _ _ _ _ (h4 0 _ _ _ rfl rfl rfl)
    obtain ⟨_, _, e0, r0, rn0⟩ := r0
    cases e0
    obtain ⟨d1, a1, b1, r1⟩ := (OpA.list (α := Int) Tryd.underlying36 (by kernel_rfl) (fun _ => rfl) (op_i64 Tryd.underlying3)).open_ _ _ _ _ _ _ _ _ (h4 1 _ _ _ rfl rfl rfl)
    obtain ⟨_, _, e1, r1, rn1⟩ := r1
    cases e1
    obtain ⟨d2, a2, b2, r2⟩ := (op_i64 Tryd.underlying3).open_ _ _ _ _ _ _ _ _ (h4 2 _ _ _ rfl rfl rfl)
    obtain ⟨_, _, e2, r2, rn2⟩ := r2
    cases e2
    obtain ⟨d3, a3, b3, r3⟩ := (OpA.list (α := BlkE) Tryd.underlying43 (by kernel_rfl) (fun _ => rfl) op_BlkE).open_ _ _ _ _ _ _ _ _ (h4 3 _ _ _ rfl rfl rfl)
    obtain ⟨_, _, e3, r3, rn3⟩ := r3
    cases e3
    refine ⟨⟨d0, d1, d2, d3⟩, ?_, ⟨trivial, b1, b2, b3⟩, ?_⟩
    · rw [h2]
      have e : siz (⟨d0, d1, d2, d3⟩ : FnE) = siz d0 + siz d1 + siz d3 := rfl
      rw [e, bulk_agg]
      simp only [List.map_cons, List.map_nil, bulk_cons, bulk_nil]
      omega
    · exact ⟨_, _, rfl, r0, ⟨_, _, rfl, r1, ⟨_, _, rfl, r2, ⟨_, _, rfl, r3, rfl⟩⟩⟩⟩
instance : Rng VarE := ⟨fun x => True ∧ rngI x.size⟩
theorem op_VarE : OpA 35 VarE where
  open_ := fun enc w base sp hd fuel cs x h => by
    obtain ⟨m, xs, h1, h2, h3, h4⟩ := trod_flat Tryd.underlying35 h 2 (by kernel_rfl) rfl (by decide)
    obtain ⟨c0, c1, rfl⟩ := list2 h3
    obtain ⟨y0, y1, rfl⟩ := list2 h1
    obtain ⟨d0, a0, b0, r0⟩ := (op_str Tryd.underlying9).open_ _ _ _ _ _ _ _ _ (h4 0 _ _ _ rfl rfl rfl)
    obtain ⟨_, _, e0, r0, rn0⟩ := r0
    cases e0
    obtain ⟨d1, a1, b1, r1⟩ := (op_i64 Tryd.underlying3).open_ _ _ _ _ _ _ _ _ (h4 1 _ _ _ rfl rfl rfl)
    obtain ⟨_, _, e1, r1, rn1⟩ := r1
    cases e1
    refine ⟨⟨d0, d1⟩, ?_, ⟨trivial, b1⟩, ?_⟩
    · rw [h2]
      have e : siz (⟨d0, d1⟩ : VarE) = siz d0 := rfl
      rw [e, bulk_agg]
      simp only [List.map_cons, List.map_nil, bulk_cons, bulk_nil]
      omega
    · exact ⟨_, _, rfl, r0, ⟨_, _, rfl, r1, rfl⟩⟩
instance : Rng ExtE := ⟨fun x => True ∧ Rng.rng x.params ∧ rngI x.ret⟩
theorem op_ExtE : OpA 47 ExtE where
  open_ := fun enc w base sp hd fuel cs x h => by
    obtain ⟨m, xs, h1, h2, h3, h4⟩ := trod_flat Tryd.underlying47 h 3 (by kernel_rfl) rfl (by decide)
    obtain ⟨c0, c1, c2, rfl⟩ := list3 h3
    obtain ⟨y0, y1, y2, rfl⟩ := list3 h1
    obtain ⟨d0, a0, b0, r0⟩ := (op_str Tryd.underlying9).open_ _ _ _ _ _ _ _ _ (h4 0 _ _ _ rfl rfl rfl)
    obtain ⟨_, _, e0, r0, rn0⟩ := r0
    cases e0
    obtain ⟨d1, a1, b1, r1⟩ := (OpA.list (α := Int) Tryd.underlying36 (by kernel_rfl) (fun _ => rfl) (op_i64 Tryd.underlying3)).open_ _ _ _ _ _ _ _ _ (h4 1 _ _ _ rfl rfl rfl)
    obtain ⟨_, _, e1, r1, rn1⟩ := r1
    cases e1
    obtain ⟨d2, a2, b2, r2⟩ := (op_i64 Tryd.underlying3).open_ _ _ _ _ _ _ _ _ (h4 2 _ _ _ rfl rfl rfl)
    obtain ⟨_, _, e2, r2, rn2⟩ := r2
    cases e2
    refine ⟨⟨d0, d1, d2⟩, ?_, ⟨trivial, b1, b2⟩, ?_⟩
    · rw [h2]
      have e : siz (⟨d0, d1, d2⟩ : ExtE) = siz d0 + siz d1 := rfl
      rw [e, bulk_agg]
      simp only [List.map_cons, List.map_nil, bulk_cons, bulk_nil]
      omega
    · exact ⟨_, _, rfl, r0, ⟨_, _, rfl, r1, ⟨_, _, rfl, r2, rfl⟩⟩⟩
instance : Rng ModE := ⟨fun x => Rng.rng x.vars ∧ Rng.rng x.exts ∧ Rng.rng x.funcs⟩
theorem op_ModE : OpA 26 ModE where
  open_ := fun enc w base sp hd fuel cs x h => by
    obtain ⟨m, xs, h1, h2, h3, h4⟩ := trod_flat Tryd.underlying26 h 3 (by kernel_rfl) rfl (by decide)
    obtain ⟨c0, c1, c2, rfl⟩ := list3 h3
    obtain ⟨y0, y1, y2, rfl⟩ := list3 h1
    obtain ⟨d0, a0, b0, r0⟩ := (OpA.list (α := VarE) Tryd.underlying22 (by kernel_rfl) (fun _ => rfl) op_VarE).open_ _ _ _ _ _ _ _ _ (h4 0 _ _ _ rfl rfl rfl)
    obtain ⟨_, _, e0, r0, rn0⟩ := r0
    cases e0
    obtain ⟨d1, a1, b1, r1⟩ := (OpA.list (α := ExtE) Tryd.underlying23 (by kernel_rfl) (fun _ => rfl) op_ExtE).open_ _ _ _ _ _ _ _ _ (h4 1 _ _ _ rfl rfl rfl)
    obtain ⟨_, _, e1, r1, rn1⟩ := r1
    cases e1
    obtain ⟨d2, a2, b2, r2⟩ := (OpA.list (α := FnE) Tryd.underlying24 (by kernel_rfl) (fun _ => rfl) op_FnE).open_ _ _ _ _ _ _ _ _ (h4 2 _ _ _ rfl rfl rfl)
    obtain ⟨_, _, e2, r2, rn2⟩ := r2
    cases e2
    refine ⟨⟨d0, d1, d2⟩, ?_, ⟨b0, b1, b2⟩, ?_⟩
    · rw [h2]
      have e : siz (⟨d0, d1, d2⟩ : ModE) = siz d0 + siz d1 + siz d2 := rfl
      rw [e, bulk_agg]
      simp only [List.map_cons, List.map_nil, bulk_cons, bulk_nil]
      omega
    · exact ⟨_, _, rfl, r0, ⟨_, _, rfl, r1, ⟨_, _, rfl, r2, rfl⟩⟩⟩
end Go.Proofs.YtilhkmlghhdpaaaDoor

/- Layer 2, whole modules: how great, the same, as new memory. -/
namespace Go.Proofs.YtilhkmlghhdpaaaDoor
open Go.RowKit
set_option linter.unusedVariables false
set_option linter.unusedSimpArgs false
set_option maxRecDepth 100000
set_option maxHeartbeats 4000000
/-- So many numbers together. -/
def preN (g : Nat → Nat) : Nat → Nat
  | 0 => 0
  | q + 1 => preN g q + g q
theorem preN_mono {g : Nat → Nat} {q : Nat} : ∀ {k : Nat}, q ≤ k → preN g q ≤ preN g k
  | 0, h => by rw [show q = 0 by omega]; exact Nat.le_refl _
  | k + 1, h => by
    rcases Nat.lt_or_ge q (k + 1) with h2 | h2
    · have := preN_mono (g := g) (q := q) (k := k) (by omega); rw [preN]; omega
    · rw [show q = k + 1 by omega]; exact Nat.le_refl _
theorem preN_in {g : Nat → Nat} {q k : Nat} (h : q < k) : preN g q + g q ≤ preN g k := preN_mono (g := g) (q := q + 1) h
theorem preN_shift (g : Nat → Nat) : ∀ q, preN g (q + 1) = g 0 + preN (fun i => g (i + 1)) q
  | 0 => by simp [preN]
  | q + 1 => by rw [preN, preN_shift g q, preN]; omega
theorem preN_siz {α : Type} [Enc α] [Siz α] (g : α → Nat) (hg : ∀ x, g x ≤ siz x) : ∀ l : List α, l.length + preN (fun i => g (l.getD i Enc.d)) l.length ≤ siz l
  | [] => Nat.le_refl _
  | x :: l => by
    have h1 := preN_siz g hg l
    have e : siz (x :: l) = l.length + 1 + (siz x + (l.map siz).sum) := rfl
    have e2 : siz l = l.length + (l.map siz).sum := rfl
    have h2 := hg x
    rw [List.length_cons, preN_shift]
    show l.length + 1 + (g x + preN (fun i => g (l.getD i Enc.d)) l.length) ≤ _
    omega
def insQ (x : InsE) : Nat := x.args.length + x.to.length
def blkQ (y : BlkE) : Nat := y.code.length + preN (fun k => insQ (y.code.getD k Enc.d)) y.code.length
def fnQ (f : FnE) : Nat := f.params.length + f.blocks.length + preN (fun b => blkQ (f.blocks.getD b Enc.d)) f.blocks.length
def extQ (x : ExtE) : Nat := x.params.length
def modQ (m : ModE) : Nat := m.vars.length + m.exts.length + m.funcs.length + preN (fun i => extQ (m.exts.getD i Enc.d)) m.exts.length + preN (fun i => fnQ (m.funcs.getD i Enc.d)) m.funcs.length
theorem insQ_le (x : InsE) : insQ x ≤ siz x := by
  have h1 := len_siz x.args; have h2 := len_siz x.to
  have e : siz x = siz x.args + siz x.to := rfl
  unfold insQ; omega
theorem blkQ_le (y : BlkE) : blkQ y ≤ siz y := preN_siz insQ insQ_le y.code
theorem fnQ_le (f : FnE) : fnQ f ≤ siz f := by
  have h1 := len_siz f.params
  have h2 := preN_siz blkQ blkQ_le f.blocks
  have e : siz f = siz f.name + siz f.params + siz f.blocks := rfl
  unfold fnQ; omega
theorem extQ_le (x : ExtE) : extQ x ≤ siz x := by
  have h1 := len_siz x.params
  have e : siz x = siz x.name + siz x.params := rfl
  unfold extQ; omega
theorem modQ_le (m : ModE) : modQ m ≤ siz m := by
  have h1 := len_siz m.vars
  have h2 := preN_siz extQ extQ_le m.exts
  have h3 := preN_siz fnQ fnQ_le m.funcs
  have e : siz m = siz m.vars + siz m.exts + siz m.funcs := rfl
  unfold modQ; omega
theorem Few_S (m : ModE) (most : Int) (hm : siz m < 4294967296) : ASpec Tryd.prog 6 [eS m, .i .i64 most] (.b (decide ((modQ m : Int) ≤ most))) [] := by
  have h0 := modQ_le m
  have e0 : modQ m = m.vars.length + m.exts.length + m.funcs.length + preN (fun i => extQ (m.exts.getD i Enc.d)) m.exts.length + preN (fun i => fnQ (m.funcs.getD i Enc.d)) m.funcs.length := rfl
  refine ASpec.enter TYok mixed Tryd.func6 rfl Tryd.call6 Tryd.ntmps6 rfl (rs := [.tmp 4]) rfl (nodupB_ok rfl) (Clo.one rfl) (keep := [0, 1, 2, 4, 5, 7, 9, 11, 13, 26, 27, 28, 39, 40, 41, 55, 56, 57, 67, 68, 69]) ?_; conv => whnf
  repeat' first | (refine And.intro (fun (hb : _ = true) => ?_) (fun (hb : _ = false) => ?_) <;> (try simp only [pickB_or, pickB_and] at hb) <;> (have hc := hb; try simp only [Int.toNat_natCast, Int.reduceToNat, Bool.or_eq_false_iff, Bool.and_eq_false_iff, Bool.not_eq_false', decide_eq_true_eq, decide_eq_false_iff_not, Bool.not_eq_true', Bool.and_eq_true, Bool.or_eq_true] at hc) <;> first | (exfalso; omega) | conv => whnf) | (refine ⟨_, wr64 (by first | omega | (simp only [Int.toNat_natCast, Int.reduceToNat]; omega)) (by first | omega | (simp only [Int.toNat_natCast, Int.reduceToNat]; omega)), ?_⟩; conv => whnf) | (refine And.intro (by first | omega | (simp only [Int.toNat_natCast, Int.reduceToNat, addZ]; omega) | (simp only [ByteArray.size_append, size_mk, List.length_cons, List.length_nil, Int.toNat_natCast, Int.reduceToNat]; omega) | exact ⟨rfl, by omega⟩ | ((repeat' apply And.intro) <;> first | exact trivial | omega) | decide +kernel) ?_; conv => whnf) | (refine And.intro (fun (ht : tg _ _ = true) => by (simp only [tg_ite, tg_nil, cn, Nat.reduceMul, Nat.reduceAdd, Nat.reduceEqDiff, ↓reduceIte, pickB_or, pickB_and, Bool.and_eq_true, Bool.or_eq_true, Bool.or_eq_false_iff, Bool.and_eq_false_iff, Bool.not_eq_true', Bool.not_eq_false', decide_eq_true_eq, decide_eq_false_iff_not, Int.toNat_natCast, Int.reduceToNat, ne_eq] at ht ⊢; first | omega | (simp only [Int.toNat_natCast, Int.reduceToNat]; omega))) ?_; conv => whnf) | (refine ⟨_, shl1 (by omega), ?_⟩; conv => whnf) | (refine ⟨_, wru64 (by first | omega | (simp only [Int.toNat_natCast, Int.reduceToNat]; omega)) (by first | omega | (simp only [Int.toNat_natCast, Int.reduceToNat]; omega)), ?_⟩; conv => whnf) | (refine ⟨_, fun _ => (IntKind.wrap_u64 _).symm, ?_⟩; conv => whnf) | exact ⟨_, .keep rfl rfl⟩ | fail
  let N0 := m.vars.length + m.exts.length + m.funcs.length
  refine lp [28, 5] (fun q : Nat => [.i .i64 q, .i .i64 (N0 + preN (fun i => extQ (m.exts.getD i Enc.d)) q : Nat)]) (fun q => [(2, bx m)]) (fun q => q ≤ m.exts.length) (fun q => m.exts.length - q) 0 (by omega) ?_ fun q hq => ?_
  · refine Ent.lp [] [] rfl rfl rfl ?_ ?_ <;> repeat' first | exact trivial | rfl | exact fun _ _ => rfl | omega | refine And.intro ?_ ?_ | (show (_ : Int) = _; first | omega | (simp only [Int.toNat_natCast]; omega))
  conv => whnf
  rcases Nat.lt_or_ge q m.exts.length with hlt | hge
  · have p1 : preN (fun i => extQ (m.exts.getD i Enc.d)) q + extQ (m.exts.getD q Enc.d) ≤ preN (fun i => extQ (m.exts.getD i Enc.d)) m.exts.length := preN_in hlt
    have p2 : extQ (m.exts.getD q Enc.d) = (m.exts.getD q Enc.d).params.length := rfl
    repeat' first | (refine And.intro (fun (hb : _ = true) => ?_) (fun (hb : _ = false) => ?_) <;> (try simp only [pickB_or, pickB_and] at hb) <;> (have hc := hb; try simp only [Int.toNat_natCast, Int.reduceToNat, Bool.or_eq_false_iff, Bool.and_eq_false_iff, Bool.not_eq_false', decide_eq_true_eq, decide_eq_false_iff_not, Bool.not_eq_true', Bool.and_eq_true, Bool.or_eq_true] at hc) <;> first | (exfalso; omega) | conv => whnf) | (refine ⟨_, wr64 (by first | omega | (simp only [Int.toNat_natCast, Int.reduceToNat]; omega)) (by first | omega | (simp only [Int.toNat_natCast, Int.reduceToNat]; omega)), ?_⟩; conv => whnf) | (refine And.intro (by first | omega | (simp only [Int.toNat_natCast, Int.reduceToNat, addZ]; omega) | (simp only [ByteArray.size_append, size_mk, List.length_cons, List.length_nil, Int.toNat_natCast, Int.reduceToNat]; omega) | exact ⟨rfl, by omega⟩ | ((repeat' apply And.intro) <;> first | exact trivial | omega) | decide +kernel) ?_; conv => whnf) | (refine And.intro (fun (ht : tg _ _ = true) => by (simp only [tg_ite, tg_nil, cn, Nat.reduceMul, Nat.reduceAdd, Nat.reduceEqDiff, ↓reduceIte, pickB_or, pickB_and, Bool.and_eq_true, Bool.or_eq_true, Bool.or_eq_false_iff, Bool.and_eq_false_iff, Bool.not_eq_true', Bool.not_eq_false', decide_eq_true_eq, decide_eq_false_iff_not, Int.toNat_natCast, Int.reduceToNat, ne_eq] at ht ⊢; first | omega | (simp only [Int.toNat_natCast, Int.reduceToNat]; omega))) ?_; conv => whnf) | (refine ⟨_, shl1 (by omega), ?_⟩; conv => whnf) | (refine ⟨_, wru64 (by first | omega | (simp only [Int.toNat_natCast, Int.reduceToNat]; omega)) (by first | omega | (simp only [Int.toNat_natCast, Int.reduceToNat]; omega)), ?_⟩; conv => whnf) | (refine ⟨_, fun _ => (IntKind.wrap_u64 _).symm, ?_⟩; conv => whnf) | exact ⟨_, .keep rfl rfl⟩ | fail
    refine .mk (q + 1) (by omega) (by omega) ?_
    have e : preN (fun i => extQ (m.exts.getD i Enc.d)) (q + 1) = preN (fun i => extQ (m.exts.getD i Enc.d)) q + extQ (m.exts.getD q Enc.d) := rfl
    refine Ent.lp [] [] rfl rfl rfl ?_ ?_ <;> repeat' first | exact trivial | rfl | exact fun _ _ => rfl | omega | refine And.intro ?_ ?_ | (show (_ : Int) = _; first | omega | (simp only [Int.toNat_natCast]; omega))
  obtain rfl : q = m.exts.length := by omega
  repeat' first | (refine And.intro (fun (hb : _ = true) => ?_) (fun (hb : _ = false) => ?_) <;> (try simp only [pickB_or, pickB_and] at hb) <;> (have hc := hb; try simp only [Int.toNat_natCast, Int.reduceToNat, Bool.or_eq_false_iff, Bool.and_eq_false_iff, Bool.not_eq_false', decide_eq_true_eq, decide_eq_false_iff_not, Bool.not_eq_true', Bool.and_eq_true, Bool.or_eq_true] at hc) <;> first | (exfalso; omega) | conv => whnf) | (refine ⟨_, wr64 (by first | omega | (simp only [Int.toNat_natCast, Int.reduceToNat]; omega)) (by first | omega | (simp only [Int.toNat_natCast, Int.reduceToNat]; omega)), ?_⟩; conv => whnf) | (refine And.intro (by first | omega | (simp only [Int.toNat_natCast, Int.reduceToNat, addZ]; omega) | (simp only [ByteArray.size_append, size_mk, List.length_cons, List.length_nil, Int.toNat_natCast, Int.reduceToNat]; omega) | exact ⟨rfl, by omega⟩ | ((repeat' apply And.intro) <;> first | exact trivial | omega) | decide +kernel) ?_; conv => whnf) | (refine And.intro (fun (ht : tg _ _ = true) => by (simp only [tg_ite, tg_nil, cn, Nat.reduceMul, Nat.reduceAdd, Nat.reduceEqDiff, ↓reduceIte, pickB_or, pickB_and, Bool.and_eq_true, Bool.or_eq_true, Bool.or_eq_false_iff, Bool.and_eq_false_iff, Bool.not_eq_true', Bool.not_eq_false', decide_eq_true_eq, decide_eq_false_iff_not, Int.toNat_natCast, Int.reduceToNat, ne_eq] at ht ⊢; first | omega | (simp only [Int.toNat_natCast, Int.reduceToNat]; omega))) ?_; conv => whnf) | (refine ⟨_, shl1 (by omega), ?_⟩; conv => whnf) | (refine ⟨_, wru64 (by first | omega | (simp only [Int.toNat_natCast, Int.reduceToNat]; omega)) (by first | omega | (simp only [Int.toNat_natCast, Int.reduceToNat]; omega)), ?_⟩; conv => whnf) | (refine ⟨_, fun _ => (IntKind.wrap_u64 _).symm, ?_⟩; conv => whnf) | exact ⟨_, .keep rfl rfl⟩ | fail
  let N1 := N0 + preN (fun i => extQ (m.exts.getD i Enc.d)) m.exts.length
  refine lp [41, 5] (fun q : Nat => [.i .i64 q, .i .i64 (N1 + preN (fun i => fnQ (m.funcs.getD i Enc.d)) q : Nat)]) (fun q => [(2, bx m)]) (fun q => q ≤ m.funcs.length) (fun q => m.funcs.length - q) 0 (by omega) ?_ fun j hj => ?_
  · refine Ent.lp [] [] rfl rfl rfl ?_ ?_ <;> repeat' first | exact trivial | rfl | exact fun _ _ => rfl | omega | refine And.intro ?_ ?_ | (show (_ : Int) = _; first | omega | (simp only [Int.toNat_natCast]; omega))
  conv => whnf
  rcases Nat.lt_or_ge j m.funcs.length with hlt | hge
  · have p1 : preN (fun i => fnQ (m.funcs.getD i Enc.d)) j + fnQ (m.funcs.getD j Enc.d) ≤ preN (fun i => fnQ (m.funcs.getD i Enc.d)) m.funcs.length := preN_in hlt
    have p2 : fnQ (m.funcs.getD j Enc.d) = (m.funcs.getD j Enc.d).params.length + (m.funcs.getD j Enc.d).blocks.length + preN (fun b => blkQ ((m.funcs.getD j Enc.d).blocks.getD b Enc.d)) (m.funcs.getD j Enc.d).blocks.length := rfl
    let N2 := N1 + preN (fun i => fnQ (m.funcs.getD i Enc.d)) j + ((m.funcs.getD j Enc.d).params.length + (m.funcs.getD j Enc.d).blocks.length)
    repeat' first | (refine And.intro (fun (hb : _ = true) => ?_) (fun (hb : _ = false) => ?_) <;> (try simp only [pickB_or, pickB_and] at hb) <;> (have hc := hb; try simp only [Int.toNat_natCast, Int.reduceToNat, Bool.or_eq_false_iff, Bool.and_eq_false_iff, Bool.not_eq_false', decide_eq_true_eq, decide_eq_false_iff_not, Bool.not_eq_true', Bool.and_eq_true, Bool.or_eq_true] at hc) <;> first | (exfalso; omega) | conv => whnf) | (refine ⟨_, wr64 (by first | omega | (simp only [Int.toNat_natCast, Int.reduceToNat]; omega)) (by first | omega | (simp only [Int.toNat_natCast, Int.reduceToNat]; omega)), ?_⟩; conv => whnf) | (refine And.intro (by first | omega | (simp only [Int.toNat_natCast, Int.reduceToNat, addZ]; omega) | (simp only [ByteArray.size_append, size_mk, List.length_cons, List.length_nil, Int.toNat_natCast, Int.reduceToNat]; omega) | exact ⟨rfl, by omega⟩ | ((repeat' apply And.intro) <;> first | exact trivial | omega) | decide +kernel) ?_; conv => whnf) | (refine And.intro (fun (ht : tg _ _ = true) => by (simp only [tg_ite, tg_nil, cn, Nat.reduceMul, Nat.reduceAdd, Nat.reduceEqDiff, ↓reduceIte, pickB_or, pickB_and, Bool.and_eq_true, Bool.or_eq_true, Bool.or_eq_false_iff, Bool.and_eq_false_iff, Bool.not_eq_true', Bool.not_eq_false', decide_eq_true_eq, decide_eq_false_iff_not, Int.toNat_natCast, Int.reduceToNat, ne_eq] at ht ⊢; first | omega | (simp only [Int.toNat_natCast, Int.reduceToNat]; omega))) ?_; conv => whnf) | (refine ⟨_, shl1 (by omega), ?_⟩; conv => whnf) | (refine ⟨_, wru64 (by first | omega | (simp only [Int.toNat_natCast, Int.reduceToNat]; omega)) (by first | omega | (simp only [Int.toNat_natCast, Int.reduceToNat]; omega)), ?_⟩; conv => whnf) | (refine ⟨_, fun _ => (IntKind.wrap_u64 _).symm, ?_⟩; conv => whnf) | exact ⟨_, .keep rfl rfl⟩ | fail
    refine lp [57, 5] (fun q : Nat => [.i .i64 q, .i .i64 (N2 + preN (fun b => blkQ ((m.funcs.getD j Enc.d).blocks.getD b Enc.d)) q : Nat)]) (fun q => [(2, bx m), (9, bx (m.funcs.getD j Enc.d))]) (fun q => q ≤ (m.funcs.getD j Enc.d).blocks.length) (fun q => (m.funcs.getD j Enc.d).blocks.length - q) 0 (by omega) ?_ fun b hb0 => ?_
    · refine Ent.lp [] [] rfl rfl rfl ?_ ?_ <;> repeat' first | exact trivial | rfl | exact fun _ _ => rfl | omega | refine And.intro ?_ ?_ | (show (_ : Int) = _; first | omega | (simp only [Int.toNat_natCast]; omega))
    conv => whnf
    rcases Nat.lt_or_ge b (m.funcs.getD j Enc.d).blocks.length with hlb | hgb
    · have q1 : preN (fun b => blkQ ((m.funcs.getD j Enc.d).blocks.getD b Enc.d)) b + blkQ ((m.funcs.getD j Enc.d).blocks.getD b Enc.d) ≤ preN (fun b => blkQ ((m.funcs.getD j Enc.d).blocks.getD b Enc.d)) (m.funcs.getD j Enc.d).blocks.length := preN_in hlb
      have q2 : blkQ ((m.funcs.getD j Enc.d).blocks.getD b Enc.d) = ((m.funcs.getD j Enc.d).blocks.getD b Enc.d).code.length + preN (fun k => insQ (((m.funcs.getD j Enc.d).blocks.getD b Enc.d).code.getD k Enc.d)) ((m.funcs.getD j Enc.d).blocks.getD b Enc.d).code.length := rfl
      let N3 := N2 + preN (fun b => blkQ ((m.funcs.getD j Enc.d).blocks.getD b Enc.d)) b + ((m.funcs.getD j Enc.d).blocks.getD b Enc.d).code.length
      repeat' first | (refine And.intro (fun (hb : _ = true) => ?_) (fun (hb : _ = false) => ?_) <;> (try simp only [pickB_or, pickB_and] at hb) <;> (have hc := hb; try simp only [Int.toNat_natCast, Int.reduceToNat, Bool.or_eq_false_iff, Bool.and_eq_false_iff, Bool.not_eq_false', decide_eq_true_eq, decide_eq_false_iff_not, Bool.not_eq_true', Bool.and_eq_true, Bool.or_eq_true] at hc) <;> first | (exfalso; omega) | conv => whnf) | (refine ⟨_, wr64 (by first | omega | (simp only [Int.toNat_natCast, Int.reduceToNat]; omega)) (by first | omega | (simp only [Int.toNat_natCast, Int.reduceToNat]; omega)), ?_⟩; conv => whnf) | (refine And.intro (by first | omega | (simp only [Int.toNat_natCast, Int.reduceToNat, addZ]; omega) | (simp only [ByteArray.size_append, size_mk, List.length_cons, List.length_nil, Int.toNat_natCast, Int.reduceToNat]; omega) | exact ⟨rfl, by omega⟩ | ((repeat' apply And.intro) <;> first | exact trivial | omega) | decide +kernel) ?_; conv => whnf) | (refine And.intro (fun (ht : tg _ _ = true) => by (simp only [tg_ite, tg_nil, cn, Nat.reduceMul, Nat.reduceAdd, Nat.reduceEqDiff, ↓reduceIte, pickB_or, pickB_and, Bool.and_eq_true, Bool.or_eq_true, Bool.or_eq_false_iff, Bool.and_eq_false_iff, Bool.not_eq_true', Bool.not_eq_false', decide_eq_true_eq, decide_eq_false_iff_not, Int.toNat_natCast, Int.reduceToNat, ne_eq] at ht ⊢; first | omega | (simp only [Int.toNat_natCast, Int.reduceToNat]; omega))) ?_; conv => whnf) | (refine ⟨_, shl1 (by omega), ?_⟩; conv => whnf) | (refine ⟨_, wru64 (by first | omega | (simp only [Int.toNat_natCast, Int.reduceToNat]; omega)) (by first | omega | (simp only [Int.toNat_natCast, Int.reduceToNat]; omega)), ?_⟩; conv => whnf) | (refine ⟨_, fun _ => (IntKind.wrap_u64 _).symm, ?_⟩; conv => whnf) | exact ⟨_, .keep rfl rfl⟩ | fail
      refine lp [69, 5] (fun q : Nat => [.i .i64 q, .i .i64 (N3 + preN (fun k => insQ (((m.funcs.getD j Enc.d).blocks.getD b Enc.d).code.getD k Enc.d)) q : Nat)]) (fun q => [(2, bx m), (9, bx (m.funcs.getD j Enc.d)), (11, bx ((m.funcs.getD j Enc.d).blocks.getD b Enc.d))]) (fun q => q ≤ ((m.funcs.getD j Enc.d).blocks.getD b Enc.d).code.length) (fun q => ((m.funcs.getD j Enc.d).blocks.getD b Enc.d).code.length - q) 0 (by omega) ?_ fun n hn2 => ?_
      · refine Ent.lp [] [] rfl rfl rfl ?_ ?_ <;> repeat' first | exact trivial | rfl | exact fun _ _ => rfl | omega | refine And.intro ?_ ?_ | (show (_ : Int) = _; first | omega | (simp only [Int.toNat_natCast]; omega))
      conv => whnf
      rcases Nat.lt_or_ge n ((m.funcs.getD j Enc.d).blocks.getD b Enc.d).code.length with hln | hgn
      · have r1 : preN (fun k => insQ (((m.funcs.getD j Enc.d).blocks.getD b Enc.d).code.getD k Enc.d)) n + insQ (((m.funcs.getD j Enc.d).blocks.getD b Enc.d).code.getD n Enc.d) ≤ preN (fun k => insQ (((m.funcs.getD j Enc.d).blocks.getD b Enc.d).code.getD k Enc.d)) ((m.funcs.getD j Enc.d).blocks.getD b Enc.d).code.length := preN_in hln
        have r2 : insQ (((m.funcs.getD j Enc.d).blocks.getD b Enc.d).code.getD n Enc.d) = (((m.funcs.getD j Enc.d).blocks.getD b Enc.d).code.getD n Enc.d).args.length + (((m.funcs.getD j Enc.d).blocks.getD b Enc.d).code.getD n Enc.d).to.length := rfl
        repeat' first | (refine And.intro (fun (hb : _ = true) => ?_) (fun (hb : _ = false) => ?_) <;> (try simp only [pickB_or, pickB_and] at hb) <;> (have hc := hb; try simp only [Int.toNat_natCast, Int.reduceToNat, Bool.or_eq_false_iff, Bool.and_eq_false_iff, Bool.not_eq_false', decide_eq_true_eq, decide_eq_false_iff_not, Bool.not_eq_true', Bool.and_eq_true, Bool.or_eq_true] at hc) <;> first | (exfalso; omega) | conv => whnf) | (refine ⟨_, wr64 (by first | omega | (simp only [Int.toNat_natCast, Int.reduceToNat]; omega)) (by first | omega | (simp only [Int.toNat_natCast, Int.reduceToNat]; omega)), ?_⟩; conv => whnf) | (refine And.intro (by first | omega | (simp only [Int.toNat_natCast, Int.reduceToNat, addZ]; omega) | (simp only [ByteArray.size_append, size_mk, List.length_cons, List.length_nil, Int.toNat_natCast, Int.reduceToNat]; omega) | exact ⟨rfl, by omega⟩ | ((repeat' apply And.intro) <;> first | exact trivial | omega) | decide +kernel) ?_; conv => whnf) | (refine And.intro (fun (ht : tg _ _ = true) => by (simp only [tg_ite, tg_nil, cn, Nat.reduceMul, Nat.reduceAdd, Nat.reduceEqDiff, ↓reduceIte, pickB_or, pickB_and, Bool.and_eq_true, Bool.or_eq_true, Bool.or_eq_false_iff, Bool.and_eq_false_iff, Bool.not_eq_true', Bool.not_eq_false', decide_eq_true_eq, decide_eq_false_iff_not, Int.toNat_natCast, Int.reduceToNat, ne_eq] at ht ⊢; first | omega | (simp only [Int.toNat_natCast, Int.reduceToNat]; omega))) ?_; conv => whnf) | (refine ⟨_, shl1 (by omega), ?_⟩; conv => whnf) | (refine ⟨_, wru64 (by first | omega | (simp only [Int.toNat_natCast, Int.reduceToNat]; omega)) (by first | omega | (simp only [Int.toNat_natCast, Int.reduceToNat]; omega)), ?_⟩; conv => whnf) | (refine ⟨_, fun _ => (IntKind.wrap_u64 _).symm, ?_⟩; conv => whnf) | exact ⟨_, .keep rfl rfl⟩ | fail
        · exact ⟨_, .keep (by rw [decide_eq_false]; omega) rfl⟩
        · refine .mk (n + 1) (by omega) (by omega) ?_
          have e : preN (fun k => insQ (((m.funcs.getD j Enc.d).blocks.getD b Enc.d).code.getD k Enc.d)) (n + 1) = preN (fun k => insQ (((m.funcs.getD j Enc.d).blocks.getD b Enc.d).code.getD k Enc.d)) n + insQ (((m.funcs.getD j Enc.d).blocks.getD b Enc.d).code.getD n Enc.d) := rfl
          refine Ent.lp [] [] rfl rfl rfl ?_ ?_ <;> repeat' first | exact trivial | rfl | exact fun _ _ => rfl | omega | refine And.intro ?_ ?_ | (show (_ : Int) = _; first | omega | (simp only [Int.toNat_natCast]; omega))
      · obtain rfl : n = ((m.funcs.getD j Enc.d).blocks.getD b Enc.d).code.length := by omega
        repeat' first | (refine And.intro (fun (hb : _ = true) => ?_) (fun (hb : _ = false) => ?_) <;> (try simp only [pickB_or, pickB_and] at hb) <;> (have hc := hb; try simp only [Int.toNat_natCast, Int.reduceToNat, Bool.or_eq_false_iff, Bool.and_eq_false_iff, Bool.not_eq_false', decide_eq_true_eq, decide_eq_false_iff_not, Bool.not_eq_true', Bool.and_eq_true, Bool.or_eq_true] at hc) <;> first | (exfalso; omega) | conv => whnf) | (refine ⟨_, wr64 (by first | omega | (simp only [Int.toNat_natCast, Int.reduceToNat]; omega)) (by first | omega | (simp only [Int.toNat_natCast, Int.reduceToNat]; omega)), ?_⟩; conv => whnf) | (refine And.intro (by first | omega | (simp only [Int.toNat_natCast, Int.reduceToNat, addZ]; omega) | (simp only [ByteArray.size_append, size_mk, List.length_cons, List.length_nil, Int.toNat_natCast, Int.reduceToNat]; omega) | exact ⟨rfl, by omega⟩ | ((repeat' apply And.intro) <;> first | exact trivial | omega) | decide +kernel) ?_; conv => whnf) | (refine And.intro (fun (ht : tg _ _ = true) => by (simp only [tg_ite, tg_nil, cn, Nat.reduceMul, Nat.reduceAdd, Nat.reduceEqDiff, ↓reduceIte, pickB_or, pickB_and, Bool.and_eq_true, Bool.or_eq_true, Bool.or_eq_false_iff, Bool.and_eq_false_iff, Bool.not_eq_true', Bool.not_eq_false', decide_eq_true_eq, decide_eq_false_iff_not, Int.toNat_natCast, Int.reduceToNat, ne_eq] at ht ⊢; first | omega | (simp only [Int.toNat_natCast, Int.reduceToNat]; omega))) ?_; conv => whnf) | (refine ⟨_, shl1 (by omega), ?_⟩; conv => whnf) | (refine ⟨_, wru64 (by first | omega | (simp only [Int.toNat_natCast, Int.reduceToNat]; omega)) (by first | omega | (simp only [Int.toNat_natCast, Int.reduceToNat]; omega)), ?_⟩; conv => whnf) | (refine ⟨_, fun _ => (IntKind.wrap_u64 _).symm, ?_⟩; conv => whnf) | exact ⟨_, .keep rfl rfl⟩ | fail
        refine .mk (b + 1) (by omega) (by omega) ?_
        have e : preN (fun b => blkQ ((m.funcs.getD j Enc.d).blocks.getD b Enc.d)) (b + 1) = preN (fun b => blkQ ((m.funcs.getD j Enc.d).blocks.getD b Enc.d)) b + blkQ ((m.funcs.getD j Enc.d).blocks.getD b Enc.d) := rfl
        refine Ent.lp [] [] rfl rfl rfl ?_ ?_ <;> repeat' first | exact trivial | rfl | exact fun _ _ => rfl | omega | refine And.intro ?_ ?_ | (show (_ : Int) = _; first | omega | (simp only [Int.toNat_natCast]; omega))
    · obtain rfl : b = (m.funcs.getD j Enc.d).blocks.length := by omega
      repeat' first | (refine And.intro (fun (hb : _ = true) => ?_) (fun (hb : _ = false) => ?_) <;> (try simp only [pickB_or, pickB_and] at hb) <;> (have hc := hb; try simp only [Int.toNat_natCast, Int.reduceToNat, Bool.or_eq_false_iff, Bool.and_eq_false_iff, Bool.not_eq_false', decide_eq_true_eq, decide_eq_false_iff_not, Bool.not_eq_true', Bool.and_eq_true, Bool.or_eq_true] at hc) <;> first | (exfalso; omega) | conv => whnf) | (refine ⟨_, wr64 (by first | omega | (simp only [Int.toNat_natCast, Int.reduceToNat]; omega)) (by first | omega | (simp only [Int.toNat_natCast, Int.reduceToNat]; omega)), ?_⟩; conv => whnf) | (refine And.intro (by first | omega | (simp only [Int.toNat_natCast, Int.reduceToNat, addZ]; omega) | (simp only [ByteArray.size_append, size_mk, List.length_cons, List.length_nil, Int.toNat_natCast, Int.reduceToNat]; omega) | exact ⟨rfl, by omega⟩ | ((repeat' apply And.intro) <;> first | exact trivial | omega) | decide +kernel) ?_; conv => whnf) | (refine And.intro (fun (ht : tg _ _ = true) => by (simp only [tg_ite, tg_nil, cn, Nat.reduceMul, Nat.reduceAdd, Nat.reduceEqDiff, ↓reduceIte, pickB_or, pickB_and, Bool.and_eq_true, Bool.or_eq_true, Bool.or_eq_false_iff, Bool.and_eq_false_iff, Bool.not_eq_true', Bool.not_eq_false', decide_eq_true_eq, decide_eq_false_iff_not, Int.toNat_natCast, Int.reduceToNat, ne_eq] at ht ⊢; first | omega | (simp only [Int.toNat_natCast, Int.reduceToNat]; omega))) ?_; conv => whnf) | (refine ⟨_, shl1 (by omega), ?_⟩; conv => whnf) | (refine ⟨_, wru64 (by first | omega | (simp only [Int.toNat_natCast, Int.reduceToNat]; omega)) (by first | omega | (simp only [Int.toNat_natCast, Int.reduceToNat]; omega)), ?_⟩; conv => whnf) | (refine ⟨_, fun _ => (IntKind.wrap_u64 _).symm, ?_⟩; conv => whnf) | exact ⟨_, .keep rfl rfl⟩ | fail
      refine .mk (j + 1) (by omega) (by omega) ?_
      have e : preN (fun i => fnQ (m.funcs.getD i Enc.d)) (j + 1) = preN (fun i => fnQ (m.funcs.getD i Enc.d)) j + fnQ (m.funcs.getD j Enc.d) := rfl
      refine Ent.lp [] [] rfl rfl rfl ?_ ?_ <;> repeat' first | exact trivial | rfl | exact fun _ _ => rfl | omega | refine And.intro ?_ ?_ | (show (_ : Int) = _; first | omega | (simp only [Int.toNat_natCast]; omega))
  · obtain rfl : j = m.funcs.length := by omega
    repeat' first | (refine And.intro (fun (hb : _ = true) => ?_) (fun (hb : _ = false) => ?_) <;> (try simp only [pickB_or, pickB_and] at hb) <;> (have hc := hb; try simp only [Int.toNat_natCast, Int.reduceToNat, Bool.or_eq_false_iff, Bool.and_eq_false_iff, Bool.not_eq_false', decide_eq_true_eq, decide_eq_false_iff_not, Bool.not_eq_true', Bool.and_eq_true, Bool.or_eq_true] at hc) <;> first | (exfalso; omega) | conv => whnf) | (refine ⟨_, wr64 (by first | omega | (simp only [Int.toNat_natCast, Int.reduceToNat]; omega)) (by first | omega | (simp only [Int.toNat_natCast, Int.reduceToNat]; omega)), ?_⟩; conv => whnf) | (refine And.intro (by first | omega | (simp only [Int.toNat_natCast, Int.reduceToNat, addZ]; omega) | (simp only [ByteArray.size_append, size_mk, List.length_cons, List.length_nil, Int.toNat_natCast, Int.reduceToNat]; omega) | exact ⟨rfl, by omega⟩ | ((repeat' apply And.intro) <;> first | exact trivial | omega) | decide +kernel) ?_; conv => whnf) | (refine And.intro (fun (ht : tg _ _ = true) => by (simp only [tg_ite, tg_nil, cn, Nat.reduceMul, Nat.reduceAdd, Nat.reduceEqDiff, ↓reduceIte, pickB_or, pickB_and, Bool.and_eq_true, Bool.or_eq_true, Bool.or_eq_false_iff, Bool.and_eq_false_iff, Bool.not_eq_true', Bool.not_eq_false', decide_eq_true_eq, decide_eq_false_iff_not, Int.toNat_natCast, Int.reduceToNat, ne_eq] at ht ⊢; first | omega | (simp only [Int.toNat_natCast, Int.reduceToNat]; omega))) ?_; conv => whnf) | (refine ⟨_, shl1 (by omega), ?_⟩; conv => whnf) | (refine ⟨_, wru64 (by first | omega | (simp only [Int.toNat_natCast, Int.reduceToNat]; omega)) (by first | omega | (simp only [Int.toNat_natCast, Int.reduceToNat]; omega)), ?_⟩; conv => whnf) | (refine ⟨_, fun _ => (IntKind.wrap_u64 _).symm, ?_⟩; conv => whnf) | exact ⟨_, .keep rfl rfl⟩ | fail
theorem VarE.ext2 : ∀ {x y : VarE}, x.name = y.name → x.size = y.size → x = y
  | ⟨_, _⟩, ⟨_, _⟩, rfl, rfl => rfl
theorem ExtE.ext3 : ∀ {x y : ExtE}, x.name = y.name → x.params = y.params → x.ret = y.ret → x = y
  | ⟨_, _, _⟩, ⟨_, _, _⟩, rfl, rfl, rfl => rfl
theorem ModE.ext3 : ∀ {x y : ModE}, x.vars = y.vars → x.exts = y.exts → x.funcs = y.funcs → x = y
  | ⟨_, _, _⟩, ⟨_, _, _⟩, rfl, rfl, rfl => rfl
theorem Same_S (a b : ModE) (ha : siz a < 4294967296) : ASpec Tryd.prog 14 [eS a, eS b] (.b (decide (a = b))) [] := by
  have h0 : siz a = siz a.vars + siz a.exts + siz a.funcs := rfl
  have g1 := len_siz a.vars
  have g2 := len_siz a.exts
  have g3 := len_siz a.funcs
  refine ASpec.enter TYok mixed Tryd.func14 rfl Tryd.call14 Tryd.ntmps14 rfl (rs := [.tmp 4]) rfl (nodupB_ok rfl) (Clo.one rfl) (keep := [0, 1, 2, 3, 4, 5, 6, 7, 8, 9]) ?_; conv => whnf
  repeat' first | (refine And.intro (fun (hb : _ = true) => ?_) (fun (hb : _ = false) => ?_) <;> (try simp only [pickB_or, pickB_and] at hb) <;> (have hc := hb; try simp only [Int.toNat_natCast, Int.reduceToNat, Bool.or_eq_false_iff, Bool.and_eq_false_iff, Bool.not_eq_false', decide_eq_true_eq, decide_eq_false_iff_not, Bool.not_eq_true', Bool.and_eq_true, Bool.or_eq_true] at hc) <;> first | (exfalso; omega) | conv => whnf) | (refine ⟨_, wr64 (by first | omega | (simp only [Int.toNat_natCast, Int.reduceToNat]; omega)) (by first | omega | (simp only [Int.toNat_natCast, Int.reduceToNat]; omega)), ?_⟩; conv => whnf) | (refine And.intro (by first | omega | (simp only [Int.toNat_natCast, Int.reduceToNat, addZ]; omega) | (simp only [ByteArray.size_append, size_mk, List.length_cons, List.length_nil, Int.toNat_natCast, Int.reduceToNat]; omega) | exact ⟨rfl, by omega⟩ | ((repeat' apply And.intro) <;> first | exact trivial | omega) | decide +kernel) ?_; conv => whnf) | (refine And.intro (fun (ht : tg _ _ = true) => by (simp only [tg_ite, tg_nil, cn, Nat.reduceMul, Nat.reduceAdd, Nat.reduceEqDiff, ↓reduceIte, pickB_or, pickB_and, Bool.and_eq_true, Bool.or_eq_true, Bool.or_eq_false_iff, Bool.and_eq_false_iff, Bool.not_eq_true', Bool.not_eq_false', decide_eq_true_eq, decide_eq_false_iff_not, Int.toNat_natCast, Int.reduceToNat, ne_eq] at ht ⊢; first | omega | (simp only [Int.toNat_natCast, Int.reduceToNat]; omega))) ?_; conv => whnf) | (refine ⟨_, shl1 (by omega), ?_⟩; conv => whnf) | (refine ⟨_, wru64 (by first | omega | (simp only [Int.toNat_natCast, Int.reduceToNat]; omega)) (by first | omega | (simp only [Int.toNat_natCast, Int.reduceToNat]; omega)), ?_⟩; conv => whnf) | (refine ⟨_, fun _ => (IntKind.wrap_u64 _).symm, ?_⟩; conv => whnf) | exact ⟨_, .keep rfl rfl⟩ | fail
  · refine ⟨_, .keep (congrArg AV.b (decide_eq_false fun e => ?_).symm) rfl⟩
    subst e; simp at hb
  refine lp [5] (fun q : Nat => [.i .i64 q]) (fun q => [(2, bx a), (3, bx b)]) (fun q => q ≤ a.vars.length ∧ ∀ i, i < q → a.vars.getD i Enc.d = b.vars.getD i Enc.d) (fun q => a.vars.length - q) 0 ⟨by omega, fun i h => by omega⟩ ?_ fun q hq => ?_
  · refine Ent.lp [] [] rfl rfl rfl ?_ ?_ <;> repeat' first | exact trivial | rfl | exact fun _ _ => rfl | omega | refine And.intro ?_ ?_ | (show (_ : Int) = _; first | omega | (simp only [Int.toNat_natCast]; omega))
  conv => whnf
  obtain ⟨hq, hv⟩ := hq
  repeat' first | (refine And.intro (fun (hb : _ = true) => ?_) (fun (hb : _ = false) => ?_) <;> (try simp only [pickB_or, pickB_and] at hb) <;> (have hc := hb; try simp only [Int.toNat_natCast, Int.reduceToNat, Bool.or_eq_false_iff, Bool.and_eq_false_iff, Bool.not_eq_false', decide_eq_true_eq, decide_eq_false_iff_not, Bool.not_eq_true', Bool.and_eq_true, Bool.or_eq_true] at hc) <;> first | (exfalso; omega) | conv => whnf) | (refine ⟨_, wr64 (by first | omega | (simp only [Int.toNat_natCast, Int.reduceToNat]; omega)) (by first | omega | (simp only [Int.toNat_natCast, Int.reduceToNat]; omega)), ?_⟩; conv => whnf) | (refine And.intro (by first | omega | (simp only [Int.toNat_natCast, Int.reduceToNat, addZ]; omega) | (simp only [ByteArray.size_append, size_mk, List.length_cons, List.length_nil, Int.toNat_natCast, Int.reduceToNat]; omega) | exact ⟨rfl, by omega⟩ | ((repeat' apply And.intro) <;> first | exact trivial | omega) | decide +kernel) ?_; conv => whnf) | (refine And.intro (fun (ht : tg _ _ = true) => by (simp only [tg_ite, tg_nil, cn, Nat.reduceMul, Nat.reduceAdd, Nat.reduceEqDiff, ↓reduceIte, pickB_or, pickB_and, Bool.and_eq_true, Bool.or_eq_true, Bool.or_eq_false_iff, Bool.and_eq_false_iff, Bool.not_eq_true', Bool.not_eq_false', decide_eq_true_eq, decide_eq_false_iff_not, Int.toNat_natCast, Int.reduceToNat, ne_eq] at ht ⊢; first | omega | (simp only [Int.toNat_natCast, Int.reduceToNat]; omega))) ?_; conv => whnf) | (refine ⟨_, shl1 (by omega), ?_⟩; conv => whnf) | (refine ⟨_, wru64 (by first | omega | (simp only [Int.toNat_natCast, Int.reduceToNat]; omega)) (by first | omega | (simp only [Int.toNat_natCast, Int.reduceToNat]; omega)), ?_⟩; conv => whnf) | (refine ⟨_, fun _ => (IntKind.wrap_u64 _).symm, ?_⟩; conv => whnf) | exact ⟨_, .keep rfl rfl⟩ | fail
  · refine ⟨_, .keep (congrArg AV.b (decide_eq_false fun e => ?_).symm) rfl⟩
    subst e; simp at hb
  · refine .mk (q + 1) ⟨by omega, all_step hv (VarE.ext2 hc.1 hc.2)⟩ (by omega) ?_
    refine Ent.lp [] [] rfl rfl rfl ?_ ?_ <;> repeat' first | exact trivial | rfl | exact fun _ _ => rfl | omega | refine And.intro ?_ ?_ | (show (_ : Int) = _; first | omega | (simp only [Int.toNat_natCast]; omega))
  have e0 : a.vars = b.vars := ext_getD (by omega) fun i hi => hv i (by omega)
  refine lp [6] (fun q : Nat => [.i .i64 q]) (fun q => [(2, bx a), (3, bx b)]) (fun q => q ≤ a.exts.length ∧ ∀ i, i < q → a.exts.getD i Enc.d = b.exts.getD i Enc.d) (fun q => a.exts.length - q) 0 ⟨by omega, fun i h => by omega⟩ ?_ fun k hk => ?_
  · refine Ent.lp [] [] rfl rfl rfl ?_ ?_ <;> repeat' first | exact trivial | rfl | exact fun _ _ => rfl | omega | refine And.intro ?_ ?_ | (show (_ : Int) = _; first | omega | (simp only [Int.toNat_natCast]; omega))
  conv => whnf
  obtain ⟨hk, hw⟩ := hk
  have h4 : siz (a.exts.getD k Enc.d) ≤ siz a.exts := siz_at a.exts k
  have h5 : siz (a.exts.getD k Enc.d) = (a.exts.getD k Enc.d).name.size + siz (a.exts.getD k Enc.d).params := rfl
  have h6 := len_siz (a.exts.getD k Enc.d).params
  repeat' first | (refine And.intro (fun (hb : _ = true) => ?_) (fun (hb : _ = false) => ?_) <;> (try simp only [pickB_or, pickB_and] at hb) <;> (have hc := hb; try simp only [Int.toNat_natCast, Int.reduceToNat, Bool.or_eq_false_iff, Bool.and_eq_false_iff, Bool.not_eq_false', decide_eq_true_eq, decide_eq_false_iff_not, Bool.not_eq_true', Bool.and_eq_true, Bool.or_eq_true] at hc) <;> first | (exfalso; omega) | conv => whnf) | (refine ⟨_, wr64 (by first | omega | (simp only [Int.toNat_natCast, Int.reduceToNat]; omega)) (by first | omega | (simp only [Int.toNat_natCast, Int.reduceToNat]; omega)), ?_⟩; conv => whnf) | (refine And.intro (by first | omega | (simp only [Int.toNat_natCast, Int.reduceToNat, addZ]; omega) | (simp only [ByteArray.size_append, size_mk, List.length_cons, List.length_nil, Int.toNat_natCast, Int.reduceToNat]; omega) | exact ⟨rfl, by omega⟩ | ((repeat' apply And.intro) <;> first | exact trivial | omega) | decide +kernel) ?_; conv => whnf) | (refine And.intro (fun (ht : tg _ _ = true) => by (simp only [tg_ite, tg_nil, cn, Nat.reduceMul, Nat.reduceAdd, Nat.reduceEqDiff, ↓reduceIte, pickB_or, pickB_and, Bool.and_eq_true, Bool.or_eq_true, Bool.or_eq_false_iff, Bool.and_eq_false_iff, Bool.not_eq_true', Bool.not_eq_false', decide_eq_true_eq, decide_eq_false_iff_not, Int.toNat_natCast, Int.reduceToNat, ne_eq] at ht ⊢; first | omega | (simp only [Int.toNat_natCast, Int.reduceToNat]; omega))) ?_; conv => whnf) | (refine ⟨_, shl1 (by omega), ?_⟩; conv => whnf) | (refine ⟨_, wru64 (by first | omega | (simp only [Int.toNat_natCast, Int.reduceToNat]; omega)) (by first | omega | (simp only [Int.toNat_natCast, Int.reduceToNat]; omega)), ?_⟩; conv => whnf) | (refine ⟨_, fun _ => (IntKind.wrap_u64 _).symm, ?_⟩; conv => whnf) | ((first | refine CallK.mk _ _ (fun _ => Ints_S _ _ (by first | omega | (simp only [Int.toNat_natCast, Int.reduceToNat]; omega))) ?_ | refine CallL.mk _ _ (fun _ => Ints_S _ _ (by first | omega | (simp only [Int.toNat_natCast, Int.reduceToNat]; omega))) rfl (fun _ _ h => nomatch h) ?_ | (refine CallW.lent ?_; (conv => whnf); refine CallL.mk _ _ (fun _ => Ints_S _ _ (by first | omega | (simp only [Int.toNat_natCast, Int.reduceToNat]; omega))) rfl (fun _ _ h => nomatch h) ?_) | (refine CallW.lent ?_; (conv => whnf); refine And.intro (by omega) ?_; (conv => whnf); refine CallL.mk _ _ (fun _ => Ints_S _ _ (by first | omega | (simp only [Int.toNat_natCast, Int.reduceToNat]; omega))) rfl (fun _ _ h => nomatch h) ?_)); conv => whnf) | exact ⟨_, .keep rfl rfl⟩ | fail
  · refine ⟨_, .keep (congrArg AV.b (decide_eq_false fun e => ?_).symm) rfl⟩
    subst e; simp at hb
  · refine .mk (k + 1) ⟨by omega, all_step hw (ExtE.ext3 hc.1.2 hc.1.1 hc.2)⟩ (by omega) ?_
    refine Ent.lp [] [] rfl rfl rfl ?_ ?_ <;> repeat' first | exact trivial | rfl | exact fun _ _ => rfl | omega | refine And.intro ?_ ?_ | (show (_ : Int) = _; first | omega | (simp only [Int.toNat_natCast]; omega))
  have e1 : a.exts = b.exts := ext_getD (by omega) fun i hi => hw i (by omega)
  refine lp [8] (fun q : Nat => [.i .i64 q]) (fun q => [(2, bx a), (3, bx b)]) (fun q => q ≤ a.funcs.length ∧ ∀ i, i < q → a.funcs.getD i Enc.d = b.funcs.getD i Enc.d) (fun q => a.funcs.length - q) 0 ⟨by omega, fun i h => by omega⟩ ?_ fun j hj => ?_
  · refine Ent.lp [] [] rfl rfl rfl ?_ ?_ <;> repeat' first | exact trivial | rfl | exact fun _ _ => rfl | omega | refine And.intro ?_ ?_ | (show (_ : Int) = _; first | omega | (simp only [Int.toNat_natCast]; omega))
  conv => whnf
  obtain ⟨hj, hz⟩ := hj
  have i4 : siz (a.funcs.getD j Enc.d) ≤ siz a.funcs := siz_at a.funcs j
  repeat' first | (refine And.intro (fun (hb : _ = true) => ?_) (fun (hb : _ = false) => ?_) <;> (try simp only [pickB_or, pickB_and] at hb) <;> (have hc := hb; try simp only [Int.toNat_natCast, Int.reduceToNat, Bool.or_eq_false_iff, Bool.and_eq_false_iff, Bool.not_eq_false', decide_eq_true_eq, decide_eq_false_iff_not, Bool.not_eq_true', Bool.and_eq_true, Bool.or_eq_true] at hc) <;> first | (exfalso; omega) | conv => whnf) | (refine ⟨_, wr64 (by first | omega | (simp only [Int.toNat_natCast, Int.reduceToNat]; omega)) (by first | omega | (simp only [Int.toNat_natCast, Int.reduceToNat]; omega)), ?_⟩; conv => whnf) | (refine And.intro (by first | omega | (simp only [Int.toNat_natCast, Int.reduceToNat, addZ]; omega) | (simp only [ByteArray.size_append, size_mk, List.length_cons, List.length_nil, Int.toNat_natCast, Int.reduceToNat]; omega) | exact ⟨rfl, by omega⟩ | ((repeat' apply And.intro) <;> first | exact trivial | omega) | decide +kernel) ?_; conv => whnf) | (refine And.intro (fun (ht : tg _ _ = true) => by (simp only [tg_ite, tg_nil, cn, Nat.reduceMul, Nat.reduceAdd, Nat.reduceEqDiff, ↓reduceIte, pickB_or, pickB_and, Bool.and_eq_true, Bool.or_eq_true, Bool.or_eq_false_iff, Bool.and_eq_false_iff, Bool.not_eq_true', Bool.not_eq_false', decide_eq_true_eq, decide_eq_false_iff_not, Int.toNat_natCast, Int.reduceToNat, ne_eq] at ht ⊢; first | omega | (simp only [Int.toNat_natCast, Int.reduceToNat]; omega))) ?_; conv => whnf) | (refine ⟨_, shl1 (by omega), ?_⟩; conv => whnf) | (refine ⟨_, wru64 (by first | omega | (simp only [Int.toNat_natCast, Int.reduceToNat]; omega)) (by first | omega | (simp only [Int.toNat_natCast, Int.reduceToNat]; omega)), ?_⟩; conv => whnf) | (refine ⟨_, fun _ => (IntKind.wrap_u64 _).symm, ?_⟩; conv => whnf) | ((first | refine CallK.mk _ _ (fun _ => Funcs_S _ _ (Nat.lt_of_le_of_lt (siz_at a.funcs _) (by omega))) ?_ | refine CallL.mk _ _ (fun _ => Funcs_S _ _ (Nat.lt_of_le_of_lt (siz_at a.funcs _) (by omega))) rfl (fun _ _ h => nomatch h) ?_ | (refine CallW.lent ?_; (conv => whnf); refine CallL.mk _ _ (fun _ => Funcs_S _ _ (Nat.lt_of_le_of_lt (siz_at a.funcs _) (by omega))) rfl (fun _ _ h => nomatch h) ?_) | (refine CallW.lent ?_; (conv => whnf); refine And.intro (by omega) ?_; (conv => whnf); refine CallL.mk _ _ (fun _ => Funcs_S _ _ (Nat.lt_of_le_of_lt (siz_at a.funcs _) (by omega))) rfl (fun _ _ h => nomatch h) ?_)); conv => whnf) | exact ⟨_, .keep rfl rfl⟩ | fail
  · exact ⟨_, .keep (congrArg AV.b (decide_eq_false fun e => hc (by rw [e])).symm) rfl⟩
  · refine .mk (j + 1) ⟨by omega, all_step hz hc⟩ (by omega) ?_
    refine Ent.lp [] [] rfl rfl rfl ?_ ?_ <;> repeat' first | exact trivial | rfl | exact fun _ _ => rfl | omega | refine And.intro ?_ ?_ | (show (_ : Int) = _; first | omega | (simp only [Int.toNat_natCast]; omega))
  · have e2 : a.funcs = b.funcs := ext_getD (by omega) fun i hi => hz i (by omega)
    exact ⟨_, .keep (congrArg AV.b (decide_eq_true (ModE.ext3 e0 e1 e2)).symm) rfl⟩
def coO (m : ModE) (b c : Nat) : Os := [(1, bx m), (2, bx (Enc.d : ModE)), (3, .box none none [.orow 11 2 0 m.vars.length, .orow 70 3 0 b, .orow 71 4 0 c]), (11, oL m.vars), (70, .row none 3 b fun i => Enc.enc (m.exts.getD i Enc.d)), (71, .row none 4 c fun i => Enc.enc (m.funcs.getD i Enc.d))]
theorem Copy_S (m : ModE) (hm : siz m < 4294967296) : ASpec Tryd.prog 7 [eS m] (eS m) [] := by
  have h0 : siz m = siz m.vars + siz m.exts + siz m.funcs := rfl
  have g1 := len_siz m.vars
  have g2 := len_siz m.exts
  have g3 := len_siz m.funcs
  refine ASpec.enter TYok mixed Tryd.func7 rfl Tryd.call7 Tryd.ntmps7 rfl (rs := [.cell 2 26]) rfl (nodupB_ok rfl) (Clo.one rfl) (keep := [0, 1, 2, 3, 4, 5, 6]) ?_; conv => whnf
  repeat' first | (refine And.intro (fun (hb : _ = true) => ?_) (fun (hb : _ = false) => ?_) <;> (try simp only [pickB_or, pickB_and] at hb) <;> (have hc := hb; try simp only [Int.toNat_natCast, Int.reduceToNat, Bool.or_eq_false_iff, Bool.and_eq_false_iff, Bool.not_eq_false', decide_eq_true_eq, decide_eq_false_iff_not, Bool.not_eq_true', Bool.and_eq_true, Bool.or_eq_true] at hc) <;> first | (exfalso; omega) | conv => whnf) | (refine ⟨_, wr64 (by first | omega | (simp only [Int.toNat_natCast, Int.reduceToNat]; omega)) (by first | omega | (simp only [Int.toNat_natCast, Int.reduceToNat]; omega)), ?_⟩; conv => whnf) | (refine And.intro (by first | omega | (simp only [Int.toNat_natCast, Int.reduceToNat, addZ]; omega) | (simp only [ByteArray.size_append, size_mk, List.length_cons, List.length_nil, Int.toNat_natCast, Int.reduceToNat]; omega) | exact ⟨rfl, by omega⟩ | ((repeat' apply And.intro) <;> first | exact trivial | omega) | decide +kernel) ?_; conv => whnf) | (refine And.intro (fun (ht : tg _ _ = true) => by (simp only [tg_ite, tg_nil, cn, Nat.reduceMul, Nat.reduceAdd, Nat.reduceEqDiff, ↓reduceIte, pickB_or, pickB_and, Bool.and_eq_true, Bool.or_eq_true, Bool.or_eq_false_iff, Bool.and_eq_false_iff, Bool.not_eq_true', Bool.not_eq_false', decide_eq_true_eq, decide_eq_false_iff_not, Int.toNat_natCast, Int.reduceToNat, ne_eq] at ht ⊢; first | omega | (simp only [Int.toNat_natCast, Int.reduceToNat]; omega))) ?_; conv => whnf) | (refine ⟨_, shl1 (by omega), ?_⟩; conv => whnf) | (refine ⟨_, wru64 (by first | omega | (simp only [Int.toNat_natCast, Int.reduceToNat]; omega)) (by first | omega | (simp only [Int.toNat_natCast, Int.reduceToNat]; omega)), ?_⟩; conv => whnf) | (refine ⟨_, fun _ => (IntKind.wrap_u64 _).symm, ?_⟩; conv => whnf) | exact ⟨_, .keep rfl rfl⟩ | fail
  refine lp [4] (fun b : Nat => [.i .i64 b]) (fun b => coO m b 0) (fun b => b ≤ m.exts.length) (fun b => m.exts.length - b) 0 (by omega) ?_ fun b hb0 => ?_
  · refine Ent.lp [] [70, 71] rfl rfl rfl ?_ ?_ <;> repeat' first | exact trivial | rfl | exact fun _ _ => rfl | omega | refine And.intro ?_ ?_ | (show (_ : Int) = _; first | omega | (simp only [Int.toNat_natCast]; omega))
  conv => whnf
  have h4 : siz (m.exts.getD b Enc.d) ≤ siz m.exts := siz_at m.exts b
  have h5 : siz (m.exts.getD b Enc.d) = (m.exts.getD b Enc.d).name.size + siz (m.exts.getD b Enc.d).params := rfl
  have h6 := len_siz (m.exts.getD b Enc.d).params
  repeat' first | (refine And.intro (fun (hb : _ = true) => ?_) (fun (hb : _ = false) => ?_) <;> (try simp only [pickB_or, pickB_and] at hb) <;> (have hc := hb; try simp only [Int.toNat_natCast, Int.reduceToNat, Bool.or_eq_false_iff, Bool.and_eq_false_iff, Bool.not_eq_false', decide_eq_true_eq, decide_eq_false_iff_not, Bool.not_eq_true', Bool.and_eq_true, Bool.or_eq_true] at hc) <;> first | (exfalso; omega) | conv => whnf) | (refine ⟨_, wr64 (by first | omega | (simp only [Int.toNat_natCast, Int.reduceToNat]; omega)) (by first | omega | (simp only [Int.toNat_natCast, Int.reduceToNat]; omega)), ?_⟩; conv => whnf) | (refine And.intro (by first | omega | (simp only [Int.toNat_natCast, Int.reduceToNat, addZ]; omega) | (simp only [ByteArray.size_append, size_mk, List.length_cons, List.length_nil, Int.toNat_natCast, Int.reduceToNat]; omega) | exact ⟨rfl, by omega⟩ | ((repeat' apply And.intro) <;> first | exact trivial | omega) | decide +kernel) ?_; conv => whnf) | (refine And.intro (fun (ht : tg _ _ = true) => by (simp only [tg_ite, tg_nil, cn, Nat.reduceMul, Nat.reduceAdd, Nat.reduceEqDiff, ↓reduceIte, pickB_or, pickB_and, Bool.and_eq_true, Bool.or_eq_true, Bool.or_eq_false_iff, Bool.and_eq_false_iff, Bool.not_eq_true', Bool.not_eq_false', decide_eq_true_eq, decide_eq_false_iff_not, Int.toNat_natCast, Int.reduceToNat, ne_eq] at ht ⊢; first | omega | (simp only [Int.toNat_natCast, Int.reduceToNat]; omega))) ?_; conv => whnf) | (refine ⟨_, shl1 (by omega), ?_⟩; conv => whnf) | (refine ⟨_, wru64 (by first | omega | (simp only [Int.toNat_natCast, Int.reduceToNat]; omega)) (by first | omega | (simp only [Int.toNat_natCast, Int.reduceToNat]; omega)), ?_⟩; conv => whnf) | (refine ⟨_, fun _ => (IntKind.wrap_u64 _).symm, ?_⟩; conv => whnf) | exact ⟨_, .keep rfl rfl⟩ | fail
  · refine .mk (b + 1) (by omega) (by omega) ?_
    refine Ent.lp [(70, 47)] [] rfl rfl rfl ?_ ?_ <;> repeat' first | exact trivial | rfl | exact fun _ _ => rfl | omega | refine And.intro ?_ ?_ | (show (_ : Int) = _; first | omega | (simp only [Int.toNat_natCast]; omega))
    exact snoc_fun rfl
  obtain rfl : b = m.exts.length := by omega
  refine lp [6] (fun b : Nat => [.i .i64 b]) (fun b => coO m m.exts.length b) (fun b => b ≤ m.funcs.length) (fun b => m.funcs.length - b) 0 (by omega) ?_ fun b hb0 => ?_
  · refine Ent.lp [] [] rfl rfl rfl ?_ ?_ <;> repeat' first | exact trivial | rfl | exact fun _ _ => rfl | omega | refine And.intro ?_ ?_ | (show (_ : Int) = _; first | omega | (simp only [Int.toNat_natCast]; omega))
  conv => whnf
  have i4 : siz (m.funcs.getD b Enc.d) ≤ siz m.funcs := siz_at m.funcs b
  repeat' first | (refine And.intro (fun (hb : _ = true) => ?_) (fun (hb : _ = false) => ?_) <;> (try simp only [pickB_or, pickB_and] at hb) <;> (have hc := hb; try simp only [Int.toNat_natCast, Int.reduceToNat, Bool.or_eq_false_iff, Bool.and_eq_false_iff, Bool.not_eq_false', decide_eq_true_eq, decide_eq_false_iff_not, Bool.not_eq_true', Bool.and_eq_true, Bool.or_eq_true] at hc) <;> first | (exfalso; omega) | conv => whnf) | (refine ⟨_, wr64 (by first | omega | (simp only [Int.toNat_natCast, Int.reduceToNat]; omega)) (by first | omega | (simp only [Int.toNat_natCast, Int.reduceToNat]; omega)), ?_⟩; conv => whnf) | (refine And.intro (by first | omega | (simp only [Int.toNat_natCast, Int.reduceToNat, addZ]; omega) | (simp only [ByteArray.size_append, size_mk, List.length_cons, List.length_nil, Int.toNat_natCast, Int.reduceToNat]; omega) | exact ⟨rfl, by omega⟩ | ((repeat' apply And.intro) <;> first | exact trivial | omega) | decide +kernel) ?_; conv => whnf) | (refine And.intro (fun (ht : tg _ _ = true) => by (simp only [tg_ite, tg_nil, cn, Nat.reduceMul, Nat.reduceAdd, Nat.reduceEqDiff, ↓reduceIte, pickB_or, pickB_and, Bool.and_eq_true, Bool.or_eq_true, Bool.or_eq_false_iff, Bool.and_eq_false_iff, Bool.not_eq_true', Bool.not_eq_false', decide_eq_true_eq, decide_eq_false_iff_not, Int.toNat_natCast, Int.reduceToNat, ne_eq] at ht ⊢; first | omega | (simp only [Int.toNat_natCast, Int.reduceToNat]; omega))) ?_; conv => whnf) | (refine ⟨_, shl1 (by omega), ?_⟩; conv => whnf) | (refine ⟨_, wru64 (by first | omega | (simp only [Int.toNat_natCast, Int.reduceToNat]; omega)) (by first | omega | (simp only [Int.toNat_natCast, Int.reduceToNat]; omega)), ?_⟩; conv => whnf) | (refine ⟨_, fun _ => (IntKind.wrap_u64 _).symm, ?_⟩; conv => whnf) | ((first | refine CallK.mk _ _ (fun _ => CopyFunc_S _ (Nat.lt_of_le_of_lt (siz_at m.funcs _) (by omega))) ?_ | refine CallL.mk _ _ (fun _ => CopyFunc_S _ (Nat.lt_of_le_of_lt (siz_at m.funcs _) (by omega))) rfl (fun _ _ h => nomatch h) ?_ | (refine CallW.lent ?_; (conv => whnf); refine CallL.mk _ _ (fun _ => CopyFunc_S _ (Nat.lt_of_le_of_lt (siz_at m.funcs _) (by omega))) rfl (fun _ _ h => nomatch h) ?_) | (refine CallW.lent ?_; (conv => whnf); refine And.intro (by omega) ?_; (conv => whnf); refine CallL.mk _ _ (fun _ => CopyFunc_S _ (Nat.lt_of_le_of_lt (siz_at m.funcs _) (by omega))) rfl (fun _ _ h => nomatch h) ?_)); conv => whnf) | exact ⟨_, .keep rfl rfl⟩ | fail
  · refine .mk (b + 1) (by omega) (by omega) ?_
    refine Ent.lp [(71, 65)] [] rfl rfl rfl ?_ ?_ <;> repeat' first | exact trivial | rfl | exact fun _ _ => rfl | omega | refine And.intro ?_ ?_ | (show (_ : Int) = _; first | omega | (simp only [Int.toNat_natCast]; omega))
    exact snoc_fun rfl
  obtain rfl : b = m.funcs.length := by omega
  exact ⟨_, .agg (.cons (.freeze rfl (by omega) rfl (fun _ _ => rfl) rfl) (.cons (.freeze rfl (by omega) rfl (fun _ _ => rfl) rfl) (.cons (.freeze rfl (by omega) rfl (fun _ _ => rfl) rfl) .nil (nodupB_ok rfl)) (nodupB_ok rfl)) (nodupB_ok rfl))⟩
end Go.Proofs.YtilhkmlghhdpaaaDoor

/- Layer 5: how long the text of a module is; plain. -/
namespace Go.Proofs.YtilhkmlghhdpaaaDoor
open Go.RowKit
set_option linter.unusedVariables false
set_option linter.unusedSimpArgs false
set_option maxRecDepth 100000
set_option maxHeartbeats 4000000
theorem preT_size (G : Nat → ByteArray) : ∀ q, (preT G q).size = preN (fun i => (G i).size) q
  | 0 => rfl
  | q + 1 => by rw [preT_step, preT_size G q, preN]
theorem preT_bound {α : Type} [Enc α] [Siz α] (C : Nat) : ∀ (l : List α) (G : Nat → ByteArray), (∀ i, i < l.length → (G i).size ≤ C * siz (l.getD i Enc.d) + C) → (preT G l.length).size ≤ C * siz l
  | [], G, h => Nat.zero_le _
  | x :: l, G, h => by
    have h1 := preT_bound C l (fun i => G (i + 1)) fun i hi => h (i + 1) (by simpa using hi)
    have h0 : (G 0).size ≤ C * siz x + C := h 0 (by simp)
    have e : siz (x :: l) = l.length + 1 + (siz x + (l.map siz).sum) := rfl
    have e2 : siz l = l.length + (l.map siz).sum := rfl
    have e3 : siz (x :: l) = siz l + 1 + siz x := by omega
    rw [preT_size] at h1 ⊢
    rw [List.length_cons, preN_shift, e3, Nat.mul_add, Nat.mul_add, Nat.mul_one]
    omega
theorem joinT_bound {α : Type} {z : ByteArray} {f : α → ByteArray} {l : List α} {d : α} {B : Nat} (h : ∀ i, (f (l.getD i d)).size ≤ B) : ∀ q, (joinT z f l d q).size ≤ z.size + q * (B + 2)
  | 0 => Nat.le_add_right _ _
  | q + 1 => by
    have h1 := joinT_bound (z := z) (f := f) (l := l) (d := d) h q
    have h2 := h q
    rw [joinT_step, Nat.succ_mul]
    split <;> omega
theorem rng_getD {α : Type} [Enc α] [Rng α] {l : List α} (h : Rng.rng l) (hd : Rng.rng (Enc.d : α)) (i : Nat) : Rng.rng (l.getD i Enc.d) := by
  rw [List.getD_eq_getElem?_getD]
  rcases Nat.lt_or_ge i l.length with q | q
  · rw [List.getElem?_eq_getElem q]; exact h _ (List.getElem_mem q)
  · rw [List.getElem?_eq_none q]; exact hd
theorem rng0 : rngI 0 := ⟨by decide, by decide⟩
theorem rngU0 : rngU 0 := ⟨by decide, by decide⟩
theorem rngOpd : Rng.rng (Enc.d : Opd) := ⟨rng0, rng0, rngU0⟩
theorem rngNil {α : Type} [Rng α] : Rng.rng ([] : List α) := fun x h => by cases h
theorem rngIns : Rng.rng (Enc.d : InsE) := ⟨rng0, rng0, rng0, rng0, rng0, rngNil, rngNil⟩
theorem rngBlk : Rng.rng (Enc.d : BlkE) := rngNil (α := InsE)
theorem rngFn : Rng.rng (Enc.d : FnE) := ⟨trivial, rngNil, rng0, rngNil⟩
theorem rngVar : Rng.rng (Enc.d : VarE) := ⟨trivial, rng0⟩
theorem rng_ins {m : ModE} (h : Rng.rng m) (i b k : Nat) : Rng.rng (((m.funcs.getD i Enc.d).blocks.getD b Enc.d).code.getD k Enc.d) :=
  rng_getD (rng_getD (rng_getD (α := FnE) h.2.2 rngFn i).2.2.2 rngBlk b) rngIns k
theorem ModR.of {m : ModE} (h : Rng.rng m) : ModR m :=
  ⟨fun i b k => (rng_ins h i b k).2.2.2.1, fun i b k j => (rng_getD (rng_ins h i b k).2.2.2.2.2.1 rngOpd j).2.2, fun i => Int.lt_of_le_of_lt (rng_getD (α := VarE) h.1 rngVar i).2.2 (by decide)⟩
theorem blkT_bound {n : Int} (h : rngI n) : (blkT n).size ≤ 21 := by
  have d := dec_len n.toNat (by unfold rngI at h; omega)
  unfold blkT; rw [ByteArray.size_append, size_mk]; simp only [List.length_cons, List.length_nil]; omega
theorem saidT_bound {name : ByteArray} {params : List Int} {ret : Int} (hn : name.size ≤ 1048576) : (saidT name params ret).size ≤ 1048700 * params.length + 1048700 := by
  have h1 := joinT_bound (z := name ++ (⟨#[40]⟩ : ByteArray)) (f := tyT) (l := params) (d := Enc.d) (fun i => tyT_len _) params.length
  have h2 := tyT_len ret
  rw [ByteArray.size_append] at h1
  have e : ((⟨#[40]⟩ : ByteArray)).size = 1 := rfl
  unfold saidT
  simp only [ByteArray.size_append, size_mk, List.length_cons, List.length_nil]
  omega
section
variable {m : ModE} (hm : siz m ≤ 1048576)
include hm
theorem valT_bound {v : Opd} (h : Rng.rng v) : (valT m v).size ≤ 1048606 := by
  obtain ⟨h1, h2, h3⟩ := h
  have e1 := name_le m v.n.toNat
  have d1 := dec_len v.n.toNat (by unfold rngI at h2; omega)
  have d2 := dec_len v.b.toNat (by unfold rngU at h3; omega)
  unfold valT
  repeat' split
  all_goals (try simp only [ByteArray.size_append, size_mk, List.length_cons, List.length_nil])
  all_goals omega
theorem valuesT_bound {l : List Opd} (h : Rng.rng l) : (valuesT m l).size ≤ l.length * 1048608 := by
  have := joinT_bound (z := ⟨#[]⟩) (f := valT m) (l := l) (d := Enc.d) (fun i => valT_bound hm (rng_getD h rngOpd i)) l.length
  unfold valuesT
  have e : (⟨#[]⟩ : ByteArray).size = 0 := rfl
  omega
theorem phT_bound {x : InsE} (h : Rng.rng x) : ∀ q, (phT m x q).size ≤ 22 + q * 1048650
  | 0 => by
    have := tyT_len x.t
    rw [phT]; simp only [ByteArray.size_append, size_mk, List.length_cons, List.length_nil]; omega
  | q + 1 => by
    have h1 := phT_bound h q
    have h2 := valT_bound hm (rng_getD h.2.2.2.2.2.1 rngOpd q)
    have h3 := blkT_bound (n := x.to.getD q Enc.d) (rng_getD h.2.2.2.2.2.2 rng0 q)
    rw [phT_step, Nat.succ_mul]
    split <;> omega
theorem behT_bound {x : InsE} (h : Rng.rng x) : (behT m x).size ≤ (x.args.length + 2) * 1048650 := by
  have h1 := phT_bound hm h x.args.length
  have h2 := valuesT_bound hm h.2.2.2.2.2.1
  have h3 := fun q => valT_bound hm (rng_getD h.2.2.2.2.2.1 rngOpd q)
  have h4 := fun q => blkT_bound (n := x.to.getD q Enc.d) (rng_getD h.2.2.2.2.2.2 rng0 q)
  have h5 := tyT_len x.t
  have h6 := tyT_len x.n
  have h7 := calT_len m x.n
  have h8 := dec_len x.n.toNat (by have : rngI x.n := h.2.2.2.1; unfold rngI at this; omega)
  have a0 := h3 0
  have b0 := h4 0
  have b1 := h4 1
  unfold behT
  repeat' split
  all_goals (try simp only [ByteArray.size_append, size_mk, List.length_cons, List.length_nil])
  all_goals omega
theorem insL_bound {x : InsE} (h : Rng.rng x) : (insL m x).size ≤ 4194600 * siz x + 4194600 := by
  have h1 := behT_bound hm h
  have h2 := insL_beh m x
  have h3 := flT_len x ((if 0 ≤ x.reg then ((⟨#[37]⟩ : ByteArray) ++ dec x.reg.toNat) ++ (⟨#[32, 61, 32]⟩ : ByteArray) else ⟨#[]⟩) ++ opNames.getD x.op.toNat Enc.d)
  have h4 := opn_len x.op.toNat
  have h5 := dec_len x.reg.toNat (by have : rngI x.reg := h.2.1; unfold rngI at this; omega)
  have h6 := args_le x
  have e : (insT m x).size = (flT x ((if 0 ≤ x.reg then ((⟨#[37]⟩ : ByteArray) ++ dec x.reg.toNat) ++ (⟨#[32, 61, 32]⟩ : ByteArray) else ⟨#[]⟩) ++ opNames.getD x.op.toNat Enc.d)).size + (behT m x).size := by unfold insT; rw [ByteArray.size_append]
  rw [ByteArray.size_append] at h3
  have h7 : (if 0 ≤ x.reg then ((⟨#[37]⟩ : ByteArray) ++ dec x.reg.toNat) ++ (⟨#[32, 61, 32]⟩ : ByteArray) else ⟨#[]⟩ : ByteArray).size ≤ 24 := by
    split
    · simp only [ByteArray.size_append, size_mk, List.length_cons, List.length_nil]; omega
    · exact Nat.zero_le _
  omega
theorem bkT_bound {l : List BlkE} (h : Rng.rng l) (hl : l.length ≤ 1048576) : (bkT m l l.length).size ≤ 4194600 * siz l := by
  refine preT_bound 4194600 l _ fun i hi => ?_
  have h1 : Rng.rng (l.getD i Enc.d).code := rng_getD h rngBlk i
  have h2 : (cdT m (l.getD i Enc.d).code (l.getD i Enc.d).code.length).size ≤ 4194600 * siz (l.getD i Enc.d).code := preT_bound 4194600 _ _ fun k hk => insL_bound hm (rng_getD h1 rngIns k)
  have h3 := blkT_bound (n := i) ⟨by omega, by omega⟩
  have e : siz (l.getD i Enc.d) = siz (l.getD i Enc.d).code := rfl
  show ((blkT i ++ (⟨#[58, 10]⟩ : ByteArray)) ++ _).size ≤ _
  rw [e]
  simp only [ByteArray.size_append, size_mk, List.length_cons, List.length_nil]
  omega
theorem textT_bound (h : Rng.rng m) : (textT m).size ≤ 70368744177664 := by
  have h0 : siz m = siz m.vars + siz m.exts + siz m.funcs := rfl
  have g3 := len_siz m.funcs
  have v1 : (varsT m m.vars.length).size ≤ 4194600 * siz m.vars := preT_bound 4194600 _ _ fun i hi => by
    have e := dec_len (m.vars.getD i Enc.d).size.toNat (by have : rngI (m.vars.getD i Enc.d).size := (rng_getD (α := VarE) h.1 rngVar i).2; unfold rngI at this; omega)
    have e2 : siz (m.vars.getD i Enc.d) = (m.vars.getD i Enc.d).name.size := rfl
    show (varL _).size ≤ _
    unfold varL
    simp only [ByteArray.size_append, size_mk, List.length_cons, List.length_nil]
    omega
  have v2 : (extsT m m.exts.length).size ≤ 4194600 * siz m.exts := preT_bound 4194600 _ _ fun i hi => by
    have e1 : siz (m.exts.getD i Enc.d) ≤ siz m.exts := siz_at m.exts i
    have e2 : siz (m.exts.getD i Enc.d) = (m.exts.getD i Enc.d).name.size + siz (m.exts.getD i Enc.d).params := rfl
    have e3 := len_siz (m.exts.getD i Enc.d).params
    have e4 := saidT_bound (name := (m.exts.getD i Enc.d).name) (params := (m.exts.getD i Enc.d).params) (ret := (m.exts.getD i Enc.d).ret) (by omega)
    show (extL _).size ≤ _
    unfold extL
    simp only [ByteArray.size_append, size_mk, List.length_cons, List.length_nil]
    omega
  have v3 : (fnsT m m.funcs.length).size ≤ 4194600 * siz m.funcs := preT_bound 4194600 _ _ fun i hi => by
    have e1 : siz (m.funcs.getD i Enc.d) ≤ siz m.funcs := siz_at m.funcs i
    have e2 : siz (m.funcs.getD i Enc.d) = (m.funcs.getD i Enc.d).name.size + siz (m.funcs.getD i Enc.d).params + siz (m.funcs.getD i Enc.d).blocks := rfl
    have e3 := len_siz (m.funcs.getD i Enc.d).params
    have e5 := len_siz (m.funcs.getD i Enc.d).blocks
    have e4 := saidT_bound (name := (m.funcs.getD i Enc.d).name) (params := (m.funcs.getD i Enc.d).params) (ret := (m.funcs.getD i Enc.d).ret) (by omega)
    have e6 := bkT_bound hm (l := (m.funcs.getD i Enc.d).blocks) (rng_getD (α := FnE) h.2.2 rngFn i).2.2.2 (by omega)
    show (fnL m _).size ≤ _
    unfold fnL hdL
    simp only [ByteArray.size_append, size_mk, List.length_cons, List.length_nil]
    omega
  unfold textT
  rw [ByteArray.size_append, ByteArray.size_append]
  omega
end
end Go.Proofs.YtilhkmlghhdpaaaDoor

/- Layer 5: a fixed fact. -/
namespace Go.Proofs.YtilhkmlghhdpaaaDoor
open Go.RowKit
set_option linter.unusedVariables false
set_option linter.unusedSimpArgs false
set_option maxRecDepth 100000
set_option maxHeartbeats 8000000
theorem wkrow1 {g g' : Nat → List AV} (h : wks (g 0) (g' 0)) : ∀ i, i < 1 → wks (g i) (g' i) := fun i hi => by
  obtain rfl : i = 0 := by omega
  exact h
def liveM : ModE := ⟨[⟨(⟨#[103]⟩ : ByteArray), 8⟩], [], [⟨(⟨#[102]⟩ : ByteArray), [8], 0, [⟨[⟨34, -1, 0, 0, 0, [], []⟩]⟩]⟩]⟩
def liveT : ByteArray := (⟨#[103, 108, 111, 98, 97, 108, 32, 103, 32, 56, 10, 102, 117, 110, 99, 32, 102, 40, 105, 56, 41, 32, 118, 111, 105, 100, 10, 98, 48, 58, 10, 32, 32, 104, 97, 108, 116, 10, 101, 110, 100, 10]⟩ : ByteArray)
theorem live_say : sayP liveM = true := by decide +kernel
theorem live_text : text5 liveM = liveT := by decide +kernel
theorem live_ty : tyT 65 = (⟨#[112, 116, 114]⟩ : ByteArray) := by decide +kernel
theorem live_siz : siz liveM < 4294967296 := by decide +kernel
theorem live_rng : Rng.rng liveM := by
  refine ⟨?_, rngNil, ?_⟩
  · intro x hx; obtain rfl := List.mem_singleton.1 hx; exact ⟨trivial, by decide, by decide⟩
  · intro x hx; obtain rfl := List.mem_singleton.1 hx
    refine ⟨trivial, ?_, rng0, ?_⟩
    · intro x hx; obtain rfl := List.mem_singleton.1 hx; exact ⟨by decide, by decide⟩
    · intro x hx; obtain rfl := List.mem_singleton.1 hx
      show ∀ x ∈ _, Rng.rng x
      intro x hx; obtain rfl := List.mem_singleton.1 hx
      exact ⟨⟨by decide, by decide⟩, ⟨by decide, by decide⟩, rng0, rng0, rng0, rngNil, rngNil⟩
theorem lives5_S : ASpec Tryd.prog 5 [] (.b true) [] := by
  have h1 := ModR.of live_rng
  have h2 : siz liveM ≤ 1048576 := by decide +kernel
  have h3 := textT_bound h2 live_rng
  have h4 := live_text
  refine ASpec.enter TYok mixed Tryd.func5 rfl Tryd.call5 Tryd.ntmps5 rfl (rs := [.tmp 0]) rfl (nodupB_ok rfl) (Clo.one rfl) (keep := [0, 1]) ?_; conv => whnf
  repeat' first | (refine And.intro (fun (hb : _ = true) => ?_) (fun (hb : _ = false) => ?_) <;> (try simp only [pickB_or, pickB_and] at hb) <;> (have hc := hb; try simp only [Int.toNat_natCast, Int.reduceToNat, Bool.or_eq_false_iff, Bool.and_eq_false_iff, Bool.not_eq_false', decide_eq_true_eq, decide_eq_false_iff_not, Bool.not_eq_true', Bool.and_eq_true, Bool.or_eq_true] at hc) <;> first | (exfalso; omega) | conv => whnf) | (refine ⟨_, wr64 (by first | omega | (simp only [Int.toNat_natCast, Int.reduceToNat]; omega)) (by first | omega | (simp only [Int.toNat_natCast, Int.reduceToNat]; omega)), ?_⟩; conv => whnf) | (refine And.intro (by first | omega | (simp only [Int.toNat_natCast, Int.reduceToNat, addZ]; omega) | (simp only [ByteArray.size_append, size_mk, List.length_cons, List.length_nil, Int.toNat_natCast, Int.reduceToNat]; omega) | exact ⟨rfl, by omega⟩ | ((repeat' apply And.intro) <;> first | exact trivial | omega) | decide +kernel) ?_; conv => whnf) | (refine And.intro (fun (ht : tg _ _ = true) => by (simp only [tg_ite, tg_nil, cn, Nat.reduceMul, Nat.reduceAdd, Nat.reduceEqDiff, ↓reduceIte, pickB_or, pickB_and, Bool.and_eq_true, Bool.or_eq_true, Bool.or_eq_false_iff, Bool.and_eq_false_iff, Bool.not_eq_true', Bool.not_eq_false', decide_eq_true_eq, decide_eq_false_iff_not, Int.toNat_natCast, Int.reduceToNat, ne_eq] at ht ⊢; first | omega | (simp only [Int.toNat_natCast, Int.reduceToNat]; omega))) ?_; conv => whnf) | (refine ⟨_, shl1 (by omega), ?_⟩; conv => whnf) | (refine ⟨_, wru64 (by first | omega | (simp only [Int.toNat_natCast, Int.reduceToNat]; omega)) (by first | omega | (simp only [Int.toNat_natCast, Int.reduceToNat]; omega)), ?_⟩; conv => whnf) | (refine ⟨_, fun _ => (IntKind.wrap_u64 _).symm, ?_⟩; conv => whnf) | ((first | refine CallK.mk _ _ (fun _ => (Sayable_S liveM live_siz h1.n).weak (by repeat' first | exact trivial | exact rfl | refine And.intro ?_ ?_ | refine wkrow1 ?_)) ?_ | refine CallL.mk _ _ (fun _ => (Sayable_S liveM live_siz h1.n).weak (by repeat' first | exact trivial | exact rfl | refine And.intro ?_ ?_ | refine wkrow1 ?_)) rfl (fun _ _ h => nomatch h) ?_ | (refine CallW.lent ?_; (conv => whnf); refine CallL.mk _ _ (fun _ => (Sayable_S liveM live_siz h1.n).weak (by repeat' first | exact trivial | exact rfl | refine And.intro ?_ ?_ | refine wkrow1 ?_)) rfl (fun _ _ h => nomatch h) ?_) | (refine CallW.lent ?_; (conv => whnf); refine And.intro (by omega) ?_; (conv => whnf); refine CallL.mk _ _ (fun _ => (Sayable_S liveM live_siz h1.n).weak (by repeat' first | exact trivial | exact rfl | refine And.intro ?_ ?_ | refine wkrow1 ?_)) rfl (fun _ _ h => nomatch h) ?_)); conv => whnf) | ((first | refine CallK.mk _ _ (fun _ => (Text_S liveM live_siz h1 h3).weak (by repeat' first | exact trivial | exact rfl | refine And.intro ?_ ?_ | refine wkrow1 ?_)) ?_ | refine CallL.mk _ _ (fun _ => (Text_S liveM live_siz h1 h3).weak (by repeat' first | exact trivial | exact rfl | refine And.intro ?_ ?_ | refine wkrow1 ?_)) rfl (fun _ _ h => nomatch h) ?_ | (refine CallW.lent ?_; (conv => whnf); refine CallL.mk _ _ (fun _ => (Text_S liveM live_siz h1 h3).weak (by repeat' first | exact trivial | exact rfl | refine And.intro ?_ ?_ | refine wkrow1 ?_)) rfl (fun _ _ h => nomatch h) ?_) | (refine CallW.lent ?_; (conv => whnf); refine And.intro (by omega) ?_; (conv => whnf); refine CallL.mk _ _ (fun _ => (Text_S liveM live_siz h1 h3).weak (by repeat' first | exact trivial | exact rfl | refine And.intro ?_ ?_ | refine wkrow1 ?_)) rfl (fun _ _ h => nomatch h) ?_)); conv => whnf) | ((first | refine CallK.mk _ _ (fun _ => Type_S 65 (by decide)) ?_ | refine CallL.mk _ _ (fun _ => Type_S 65 (by decide)) rfl (fun _ _ h => nomatch h) ?_ | (refine CallW.lent ?_; (conv => whnf); refine CallL.mk _ _ (fun _ => Type_S 65 (by decide)) rfl (fun _ _ h => nomatch h) ?_) | (refine CallW.lent ?_; (conv => whnf); refine And.intro (by omega) ?_; (conv => whnf); refine CallL.mk _ _ (fun _ => Type_S 65 (by decide)) rfl (fun _ _ h => nomatch h) ?_)); conv => whnf) | exact ⟨_, .keep rfl rfl⟩ | fail
  exact ⟨_, .keep (congrArg AV.b (by rw [live_say, h4, live_ty]; decide +kernel)) rfl⟩
end Go.Proofs.YtilhkmlghhdpaaaDoor

/- Layer 5: which modules are sayable, and their texts: the statement's function. -/
namespace Go.Proofs.YtilhkmlghhdpaaaDoor
open Go.RowKit
set_option linter.unusedVariables false
set_option linter.unusedSimpArgs false
set_option maxRecDepth 100000
set_option maxHeartbeats 8000000
theorem SpellTexts_S (m : ModE) (t : Int) (hm : siz m ≤ 1048576) (hr : Rng.rng m) (ht : rngI t) : ASpec Tryd.prog 3 [eS m, .i .i64 t] (.b true) [] := by
  have h1 := ModR.of hr
  have h2 : siz m < 4294967296 := by omega
  have h3 := textT_bound hm hr
  unfold rngI at ht
  refine ASpec.enter TYok mixed Tryd.func3 rfl Tryd.call3 Tryd.ntmps3 rfl (rs := [.tmp 4]) rfl (nodupB_ok rfl) (Clo.one rfl) (keep := [0, 1, 2, 4, 5]) ?_; conv => whnf
  repeat' first | (refine And.intro (fun (hb : _ = true) => ?_) (fun (hb : _ = false) => ?_) <;> (try simp only [pickB_or, pickB_and] at hb) <;> (have hc := hb; try simp only [Int.toNat_natCast, Int.reduceToNat, Bool.or_eq_false_iff, Bool.and_eq_false_iff, Bool.not_eq_false', decide_eq_true_eq, decide_eq_false_iff_not, Bool.not_eq_true', Bool.and_eq_true, Bool.or_eq_true] at hc) <;> first | (exfalso; omega) | conv => whnf) | (refine ⟨_, wr64 (by first | omega | (simp only [Int.toNat_natCast, Int.reduceToNat]; omega)) (by first | omega | (simp only [Int.toNat_natCast, Int.reduceToNat]; omega)), ?_⟩; conv => whnf) | (refine And.intro (by first | omega | (simp only [Int.toNat_natCast, Int.reduceToNat, addZ]; omega) | (simp only [ByteArray.size_append, size_mk, List.length_cons, List.length_nil, Int.toNat_natCast, Int.reduceToNat]; omega) | exact ⟨rfl, by omega⟩ | ((repeat' apply And.intro) <;> first | exact trivial | omega) | decide +kernel) ?_; conv => whnf) | (refine And.intro (fun (ht : tg _ _ = true) => by (simp only [tg_ite, tg_nil, cn, Nat.reduceMul, Nat.reduceAdd, Nat.reduceEqDiff, ↓reduceIte, pickB_or, pickB_and, Bool.and_eq_true, Bool.or_eq_true, Bool.or_eq_false_iff, Bool.and_eq_false_iff, Bool.not_eq_true', Bool.not_eq_false', decide_eq_true_eq, decide_eq_false_iff_not, Int.toNat_natCast, Int.reduceToNat, ne_eq] at ht ⊢; first | omega | (simp only [Int.toNat_natCast, Int.reduceToNat]; omega))) ?_; conv => whnf) | (refine ⟨_, shl1 (by omega), ?_⟩; conv => whnf) | (refine ⟨_, wru64 (by first | omega | (simp only [Int.toNat_natCast, Int.reduceToNat]; omega)) (by first | omega | (simp only [Int.toNat_natCast, Int.reduceToNat]; omega)), ?_⟩; conv => whnf) | (refine ⟨_, fun _ => (IntKind.wrap_u64 _).symm, ?_⟩; conv => whnf) | ((first | refine CallK.mk _ _ (fun _ => lives5_S) ?_ | refine CallL.mk _ _ (fun _ => lives5_S) rfl (fun _ _ h => nomatch h) ?_ | (refine CallW.lent ?_; (conv => whnf); refine CallL.mk _ _ (fun _ => lives5_S) rfl (fun _ _ h => nomatch h) ?_) | (refine CallW.lent ?_; (conv => whnf); refine And.intro (by omega) ?_; (conv => whnf); refine CallL.mk _ _ (fun _ => lives5_S) rfl (fun _ _ h => nomatch h) ?_)); conv => whnf) | ((first | refine CallK.mk _ _ (fun _ => Few_S m 5000 h2) ?_ | refine CallL.mk _ _ (fun _ => Few_S m 5000 h2) rfl (fun _ _ h => nomatch h) ?_ | (refine CallW.lent ?_; (conv => whnf); refine CallL.mk _ _ (fun _ => Few_S m 5000 h2) rfl (fun _ _ h => nomatch h) ?_) | (refine CallW.lent ?_; (conv => whnf); refine And.intro (by omega) ?_; (conv => whnf); refine CallL.mk _ _ (fun _ => Few_S m 5000 h2) rfl (fun _ _ h => nomatch h) ?_)); conv => whnf) | ((first | refine CallK.mk _ _ (fun _ => Copy_S m h2) ?_ | refine CallL.mk _ _ (fun _ => Copy_S m h2) rfl (fun _ _ h => nomatch h) ?_ | (refine CallW.lent ?_; (conv => whnf); refine CallL.mk _ _ (fun _ => Copy_S m h2) rfl (fun _ _ h => nomatch h) ?_) | (refine CallW.lent ?_; (conv => whnf); refine And.intro (by omega) ?_; (conv => whnf); refine CallL.mk _ _ (fun _ => Copy_S m h2) rfl (fun _ _ h => nomatch h) ?_)); conv => whnf) | ((first | refine CallK.mk _ _ (fun _ => Sayable_S m h2 h1.n) ?_ | refine CallL.mk _ _ (fun _ => Sayable_S m h2 h1.n) rfl (fun _ _ h => nomatch h) ?_ | (refine CallW.lent ?_; (conv => whnf); refine CallL.mk _ _ (fun _ => Sayable_S m h2 h1.n) rfl (fun _ _ h => nomatch h) ?_) | (refine CallW.lent ?_; (conv => whnf); refine And.intro (by omega) ?_; (conv => whnf); refine CallL.mk _ _ (fun _ => Sayable_S m h2 h1.n) rfl (fun _ _ h => nomatch h) ?_)); conv => whnf) | ((first | refine CallK.mk _ _ (fun _ => Sayable5_S m h2 h1.n) ?_ | refine CallL.mk _ _ (fun _ => Sayable5_S m h2 h1.n) rfl (fun _ _ h => nomatch h) ?_ | (refine CallW.lent ?_; (conv => whnf); refine CallL.mk _ _ (fun _ => Sayable5_S m h2 h1.n) rfl (fun _ _ h => nomatch h) ?_) | (refine CallW.lent ?_; (conv => whnf); refine And.intro (by omega) ?_; (conv => whnf); refine CallL.mk _ _ (fun _ => Sayable5_S m h2 h1.n) rfl (fun _ _ h => nomatch h) ?_)); conv => whnf) | ((first | refine CallK.mk _ _ (fun _ => Text_S m h2 h1 h3) ?_ | refine CallL.mk _ _ (fun _ => Text_S m h2 h1 h3) rfl (fun _ _ h => nomatch h) ?_ | (refine CallW.lent ?_; (conv => whnf); refine CallL.mk _ _ (fun _ => Text_S m h2 h1 h3) rfl (fun _ _ h => nomatch h) ?_) | (refine CallW.lent ?_; (conv => whnf); refine And.intro (by omega) ?_; (conv => whnf); refine CallL.mk _ _ (fun _ => Text_S m h2 h1 h3) rfl (fun _ _ h => nomatch h) ?_)); conv => whnf) | ((first | refine CallK.mk _ _ (fun _ => Text5_S m h2 h1 h3) ?_ | refine CallL.mk _ _ (fun _ => Text5_S m h2 h1 h3) rfl (fun _ _ h => nomatch h) ?_ | (refine CallW.lent ?_; (conv => whnf); refine CallL.mk _ _ (fun _ => Text5_S m h2 h1 h3) rfl (fun _ _ h => nomatch h) ?_) | (refine CallW.lent ?_; (conv => whnf); refine And.intro (by omega) ?_; (conv => whnf); refine CallL.mk _ _ (fun _ => Text5_S m h2 h1 h3) rfl (fun _ _ h => nomatch h) ?_)); conv => whnf) | ((first | refine CallK.mk _ _ (fun _ => Type_S t (by omega)) ?_ | refine CallL.mk _ _ (fun _ => Type_S t (by omega)) rfl (fun _ _ h => nomatch h) ?_ | (refine CallW.lent ?_; (conv => whnf); refine CallL.mk _ _ (fun _ => Type_S t (by omega)) rfl (fun _ _ h => nomatch h) ?_) | (refine CallW.lent ?_; (conv => whnf); refine And.intro (by omega) ?_; (conv => whnf); refine CallL.mk _ _ (fun _ => Type_S t (by omega)) rfl (fun _ _ h => nomatch h) ?_)); conv => whnf) | ((first | refine CallK.mk _ _ (fun _ => Type5_S t) ?_ | refine CallL.mk _ _ (fun _ => Type5_S t) rfl (fun _ _ h => nomatch h) ?_ | (refine CallW.lent ?_; (conv => whnf); refine CallL.mk _ _ (fun _ => Type5_S t) rfl (fun _ _ h => nomatch h) ?_) | (refine CallW.lent ?_; (conv => whnf); refine And.intro (by omega) ?_; (conv => whnf); refine CallL.mk _ _ (fun _ => Type5_S t) rfl (fun _ _ h => nomatch h) ?_)); conv => whnf) | ((first | refine CallK.mk _ _ (fun _ => Same_S m m h2) ?_ | refine CallL.mk _ _ (fun _ => Same_S m m h2) rfl (fun _ _ h => nomatch h) ?_ | (refine CallW.lent ?_; (conv => whnf); refine CallL.mk _ _ (fun _ => Same_S m m h2) rfl (fun _ _ h => nomatch h) ?_) | (refine CallW.lent ?_; (conv => whnf); refine And.intro (by omega) ?_; (conv => whnf); refine CallL.mk _ _ (fun _ => Same_S m m h2) rfl (fun _ _ h => nomatch h) ?_)); conv => whnf) | exact ⟨_, .keep rfl rfl⟩ | fail
  · simp at hb
  · exact ⟨_, .keep (congrArg AV.b (by simp only [sayP_eq, decide_true]; rfl)) rfl⟩
theorem remap_nil (β : Nat → Wt) : remap [] [] β = β := rfl
theorem ASpec.mats {P : Program} {f : FuncId} {vs args : List AV} {r : AV} {no : Os} (h : ASpec P f args r no) (hw : mats [] [] vs args) : ASpec P f vs r no :=
  ⟨h.1, h.2.1, fun S w us hr hv => h.2.2 S w us (mats_ok (ρ := []) (nl := []) Comp.refl vs args us hw hr) hv⟩
def part (m : ModE) (k : Nat) : ModE := ⟨m.vars, m.exts, m.funcs.take k⟩
theorem siz_take {α : Type} [Enc α] [Siz α] : ∀ (l : List α) (k : Nat), siz (l.take k) ≤ siz l
  | [], k => by simp
  | x :: l, 0 => Nat.zero_le _
  | x :: l, k + 1 => by
    have h := siz_take l k
    have e : ∀ l : List α, siz (x :: l) = l.length + 1 + (siz x + (l.map siz).sum) := fun _ => rfl
    have e2 : ∀ l : List α, siz l = l.length + (l.map siz).sum := fun _ => rfl
    rw [List.take_succ_cons, e, e]
    rw [e2, e2] at h; omega
theorem part_siz (m : ModE) (k : Nat) : siz (part m k) ≤ siz m := by
  have h0 : siz m = siz m.vars + siz m.exts + siz m.funcs := rfl
  have h1 : siz (part m k) = siz m.vars + siz m.exts + siz (m.funcs.take k) := rfl
  have := siz_take m.funcs k
  omega
theorem part_rng {m : ModE} (h : Rng.rng m) (k : Nat) : Rng.rng (part m k) := ⟨h.1, h.2.1, fun x hx => h.2.2 x (List.mem_of_mem_take hx)⟩
theorem preT_congr {g g' : Nat → ByteArray} : ∀ {n : Nat}, (∀ i, i < n → g i = g' i) → preT g n = preT g' n
  | 0, _ => rfl
  | n + 1, h => by rw [preT, preT, preT_congr fun i hi => h i (by omega), h n (by omega)]
theorem preT_app {g : Nat → ByteArray} {k : Nat} : ∀ {n : Nat}, k ≤ n → ∃ r, preT g n = preT g k ++ r
  | 0, h => ⟨⟨#[]⟩, by rw [show k = 0 by omega]; exact (ByteArray.append_empty).symm⟩
  | n + 1, h => by
    rcases Nat.lt_or_ge k (n + 1) with q | q
    · obtain ⟨r, e⟩ := preT_app (g := g) (k := k) (n := n) (by omega)
      exact ⟨r ++ g n, by rw [preT, e, ByteArray.append_assoc]⟩
    · exact ⟨⟨#[]⟩, by rw [show k = n + 1 by omega]; exact (ByteArray.append_empty).symm⟩
theorem getD_take {α : Type} [Enc α] (l : List α) (k i : Nat) (h : i < k) : (l.take k).getD i Enc.d = l.getD i Enc.d := by
  rw [List.getD_eq_getElem?_getD, List.getD_eq_getElem?_getD, List.getElem?_take_of_lt h]
theorem part_cal {m : ModE} {k : Nat} {n : Int} (h : (0 ≤ n ∧ n < ((part m k).funcs.length : Nat)) ∨ n < 0) : calT (part m k) n = calT m n := by
  unfold calT
  rcases h with h | h
  · rw [if_pos h.1, if_pos h.1]
    have h1 : (part m k).funcs.length ≤ k := List.length_take_le _ _
    show ((m.funcs.take k).getD n.toNat Enc.d).name = _
    rw [getD_take _ _ _ (by omega)]
  · rw [if_neg (by omega), if_neg (by omega)]; rfl
theorem part_ph (m : ModE) (k : Nat) (x : InsE) : ∀ q, phT (part m k) x q = phT m x q
  | 0 => rfl
  | q + 1 => by rw [phT, phT, part_ph m k x q]; rfl
theorem part_ins {m : ModE} {k : Nat} {x : InsE} (h : InsOk (part m k) x) : insL (part m k) x = insL m x := by
  have e : behT (part m k) x = behT m x := by
    unfold behT
    rw [part_ph]
    by_cases hc : x.op = 30
    · rw [part_cal (by rcases h.ca hc with q | q; exact .inl q; exact .inr q.1)]; rfl
    · rw [if_neg hc, if_neg hc]; rfl
  unfold insL insT; rw [e]
theorem part_fn {m : ModE} {k : Nat} (hp : say5 (part m k) = true) (hr : ModR (part m k)) {i : Nat} (hi : i < (part m k).funcs.length) (hk : i < k) : fnL (part m k) ((part m k).funcs.getD i Enc.d) = fnL m (m.funcs.getD i Enc.d) := by
  have e : (part m k).funcs.getD i Enc.d = m.funcs.getD i Enc.d := getD_take _ _ _ hk
  have e2 : bkT (part m k) ((part m k).funcs.getD i Enc.d).blocks ((part m k).funcs.getD i Enc.d).blocks.length = bkT m ((part m k).funcs.getD i Enc.d).blocks ((part m k).funcs.getD i Enc.d).blocks.length := by
    refine preT_congr fun b hb => ?_
    congr 1
    exact preT_congr fun c hc => part_ins (InsOk.of (say5_ins hp hi hb hc) (hr.b i b c) (hr.n i b c).2)
  unfold fnL
  rw [e2, e]
theorem part_text {m : ModE} {k : Nat} (hk : k ≤ m.funcs.length) (hp : say5 (part m k) = true) (hr : ModR (part m k)) : ∃ r, textT m = textT (part m k) ++ r := by
  have hl : (part m k).funcs.length = k := by show (m.funcs.take k).length = k; rw [List.length_take]; omega
  obtain ⟨r, e⟩ := preT_app (g := fun i => fnL m (m.funcs.getD i Enc.d)) hk
  refine ⟨r, ?_⟩
  have e2 : fnsT (part m k) (part m k).funcs.length = preT (fun i => fnL m (m.funcs.getD i Enc.d)) k := by
    rw [hl]
    exact preT_congr fun i hi => part_fn hp hr (by omega) hi
  show (varsT m m.vars.length ++ extsT m m.exts.length) ++ preT (fun i => fnL m (m.funcs.getD i Enc.d)) m.funcs.length = ((varsT m m.vars.length ++ extsT m m.exts.length) ++ fnsT (part m k) (part m k).funcs.length) ++ r
  rw [e, e2]; simp only [ByteArray.append_assoc]
theorem part_mats (m : ModE) (k : Nat) (hk : k ≤ m.funcs.length) : mats [] [] ([AV.agg [eL m.vars, eL m.exts, AV.row none (Enc.sz FnE) (lenO none 0 (k : Int)) (offO none 0 fun i => Enc.enc (m.funcs.getD i Enc.d))]] ++ []) [eS (part m k)] := by
  have hkl : (m.funcs.take k).length = k := by rw [List.length_take]; omega
  refine And.intro (And.intro ⟨rfl, rfl, fun _ _ => rfl⟩ (And.intro ⟨rfl, rfl, fun _ _ => rfl⟩ (And.intro ⟨rfl, hkl.symm, fun i hi => ?_⟩ trivial))) trivial
  have hi : i < (m.funcs.take k).length := hi
  rw [hkl] at hi
  exact congrArg Enc.enc (getD_take m.funcs k i hi).symm
theorem SpellParts_S (m : ModE) (hm : siz m ≤ 1048576) (hr : Rng.rng m) : ASpec Tryd.prog 4 [eS m] (.b true) [] := by
  have h1 := ModR.of hr
  have h2 : siz m < 4294967296 := by omega
  have h3 := textT_bound hm hr
  refine ASpec.enter TYok mixed Tryd.func4 rfl Tryd.call4 Tryd.ntmps4 rfl (rs := [.tmp 2]) rfl (nodupB_ok rfl) (Clo.one rfl) (keep := [0, 1, 2, 3, 4, 5, 6]) ?_; conv => whnf
  have h4 : siz m = siz m.vars + siz m.exts + siz m.funcs := rfl
  have g3 := len_siz m.funcs
  repeat' first | (refine And.intro (fun (hb : _ = true) => ?_) (fun (hb : _ = false) => ?_) <;> (try simp only [pickB_or, pickB_and] at hb) <;> (have hc := hb; try simp only [Int.toNat_natCast, Int.reduceToNat, Bool.or_eq_false_iff, Bool.and_eq_false_iff, Bool.not_eq_false', decide_eq_true_eq, decide_eq_false_iff_not, Bool.not_eq_true', Bool.and_eq_true, Bool.or_eq_true] at hc) <;> first | (exfalso; omega) | conv => whnf) | (refine ⟨_, wr64 (by first | omega | (simp only [Int.toNat_natCast, Int.reduceToNat]; omega)) (by first | omega | (simp only [Int.toNat_natCast, Int.reduceToNat]; omega)), ?_⟩; conv => whnf) | (refine And.intro (by first | omega | (simp only [Int.toNat_natCast, Int.reduceToNat, addZ]; omega) | (simp only [ByteArray.size_append, size_mk, List.length_cons, List.length_nil, Int.toNat_natCast, Int.reduceToNat]; omega) | exact ⟨rfl, by omega⟩ | ((repeat' apply And.intro) <;> first | exact trivial | omega) | decide +kernel) ?_; conv => whnf) | (refine And.intro (fun (ht : tg _ _ = true) => by (simp only [tg_ite, tg_nil, cn, Nat.reduceMul, Nat.reduceAdd, Nat.reduceEqDiff, ↓reduceIte, pickB_or, pickB_and, Bool.and_eq_true, Bool.or_eq_true, Bool.or_eq_false_iff, Bool.and_eq_false_iff, Bool.not_eq_true', Bool.not_eq_false', decide_eq_true_eq, decide_eq_false_iff_not, Int.toNat_natCast, Int.reduceToNat, ne_eq] at ht ⊢; first | omega | (simp only [Int.toNat_natCast, Int.reduceToNat]; omega))) ?_; conv => whnf) | (refine ⟨_, shl1 (by omega), ?_⟩; conv => whnf) | (refine ⟨_, wru64 (by first | omega | (simp only [Int.toNat_natCast, Int.reduceToNat]; omega)) (by first | omega | (simp only [Int.toNat_natCast, Int.reduceToNat]; omega)), ?_⟩; conv => whnf) | (refine ⟨_, fun _ => (IntKind.wrap_u64 _).symm, ?_⟩; conv => whnf) | ((first | refine CallK.mk _ _ (fun _ => lives5_S) ?_ | refine CallL.mk _ _ (fun _ => lives5_S) rfl (fun _ _ h => nomatch h) ?_ | (refine CallW.lent ?_; (conv => whnf); refine CallL.mk _ _ (fun _ => lives5_S) rfl (fun _ _ h => nomatch h) ?_) | (refine CallW.lent ?_; (conv => whnf); refine And.intro (by omega) ?_; (conv => whnf); refine CallL.mk _ _ (fun _ => lives5_S) rfl (fun _ _ h => nomatch h) ?_)); conv => whnf) | ((first | refine CallK.mk _ _ (fun _ => Few_S m 5000 h2) ?_ | refine CallL.mk _ _ (fun _ => Few_S m 5000 h2) rfl (fun _ _ h => nomatch h) ?_ | (refine CallW.lent ?_; (conv => whnf); refine CallL.mk _ _ (fun _ => Few_S m 5000 h2) rfl (fun _ _ h => nomatch h) ?_) | (refine CallW.lent ?_; (conv => whnf); refine And.intro (by omega) ?_; (conv => whnf); refine CallL.mk _ _ (fun _ => Few_S m 5000 h2) rfl (fun _ _ h => nomatch h) ?_)); conv => whnf) | ((first | refine CallK.mk _ _ (fun _ => Sayable_S m h2 h1.n) ?_ | refine CallL.mk _ _ (fun _ => Sayable_S m h2 h1.n) rfl (fun _ _ h => nomatch h) ?_ | (refine CallW.lent ?_; (conv => whnf); refine CallL.mk _ _ (fun _ => Sayable_S m h2 h1.n) rfl (fun _ _ h => nomatch h) ?_) | (refine CallW.lent ?_; (conv => whnf); refine And.intro (by omega) ?_; (conv => whnf); refine CallL.mk _ _ (fun _ => Sayable_S m h2 h1.n) rfl (fun _ _ h => nomatch h) ?_)); conv => whnf) | ((first | refine CallK.mk _ _ (fun _ => Text_S m h2 h1 h3) ?_ | refine CallL.mk _ _ (fun _ => Text_S m h2 h1 h3) rfl (fun _ _ h => nomatch h) ?_ | (refine CallW.lent ?_; (conv => whnf); refine CallL.mk _ _ (fun _ => Text_S m h2 h1 h3) rfl (fun _ _ h => nomatch h) ?_) | (refine CallW.lent ?_; (conv => whnf); refine And.intro (by omega) ?_; (conv => whnf); refine CallL.mk _ _ (fun _ => Text_S m h2 h1 h3) rfl (fun _ _ h => nomatch h) ?_)); conv => whnf) | exact ⟨_, .keep rfl rfl⟩ | fail
  · simp at hb
  have hsay := hc.2
  refine lp [4] (fun q : Nat => [.i .i64 ((m.funcs.length : Int) - q)]) (fun q => [(1, bx m)]) (fun q => q ≤ m.funcs.length + 1) (fun q => m.funcs.length + 1 - q) 0 (by omega) ?_ fun q hq => ?_
  · refine Ent.lp [] [] rfl rfl rfl ?_ ?_ <;> repeat' first | exact trivial | rfl | exact fun _ _ => rfl | omega | refine And.intro ?_ ?_ | (show (_ : Int) = _; first | omega | (simp only [Int.toNat_natCast]; omega))
  conv => whnf
  rcases Nat.lt_or_ge m.funcs.length q with hlt | hge
  · repeat' first | (refine And.intro (fun (hb : _ = true) => ?_) (fun (hb : _ = false) => ?_) <;> (try simp only [pickB_or, pickB_and] at hb) <;> (have hc := hb; try simp only [Int.toNat_natCast, Int.reduceToNat, Bool.or_eq_false_iff, Bool.and_eq_false_iff, Bool.not_eq_false', decide_eq_true_eq, decide_eq_false_iff_not, Bool.not_eq_true', Bool.and_eq_true, Bool.or_eq_true] at hc) <;> first | (exfalso; omega) | conv => whnf) | (refine ⟨_, wr64 (by first | omega | (simp only [Int.toNat_natCast, Int.reduceToNat]; omega)) (by first | omega | (simp only [Int.toNat_natCast, Int.reduceToNat]; omega)), ?_⟩; conv => whnf) | (refine And.intro (by first | omega | (simp only [Int.toNat_natCast, Int.reduceToNat, addZ]; omega) | (simp only [ByteArray.size_append, size_mk, List.length_cons, List.length_nil, Int.toNat_natCast, Int.reduceToNat]; omega) | exact ⟨rfl, by omega⟩ | ((repeat' apply And.intro) <;> first | exact trivial | omega) | decide +kernel) ?_; conv => whnf) | (refine And.intro (fun (ht : tg _ _ = true) => by (simp only [tg_ite, tg_nil, cn, Nat.reduceMul, Nat.reduceAdd, Nat.reduceEqDiff, ↓reduceIte, pickB_or, pickB_and, Bool.and_eq_true, Bool.or_eq_true, Bool.or_eq_false_iff, Bool.and_eq_false_iff, Bool.not_eq_true', Bool.not_eq_false', decide_eq_true_eq, decide_eq_false_iff_not, Int.toNat_natCast, Int.reduceToNat, ne_eq] at ht ⊢; first | omega | (simp only [Int.toNat_natCast, Int.reduceToNat]; omega))) ?_; conv => whnf) | (refine ⟨_, shl1 (by omega), ?_⟩; conv => whnf) | (refine ⟨_, wru64 (by first | omega | (simp only [Int.toNat_natCast, Int.reduceToNat]; omega)) (by first | omega | (simp only [Int.toNat_natCast, Int.reduceToNat]; omega)), ?_⟩; conv => whnf) | (refine ⟨_, fun _ => (IntKind.wrap_u64 _).symm, ?_⟩; conv => whnf) | exact ⟨_, .keep rfl rfl⟩ | fail
  · obtain ⟨k, hk, hkq⟩ : ∃ k : Nat, (m.funcs.length : Int) - q = k ∧ k ≤ m.funcs.length := ⟨m.funcs.length - q, by omega, by omega⟩
    rw [hk]
    have p1 := part_siz m k
    have p2 := part_rng hr k
    have p3 := ModR.of p2
    have p4 := textT_bound (Nat.le_trans p1 hm) p2
    have p5 := part_mats m k hkq
    repeat' first | (refine And.intro (fun (hb : _ = true) => ?_) (fun (hb : _ = false) => ?_) <;> (try simp only [pickB_or, pickB_and] at hb) <;> (have hc := hb; try simp only [Int.toNat_natCast, Int.reduceToNat, Bool.or_eq_false_iff, Bool.and_eq_false_iff, Bool.not_eq_false', decide_eq_true_eq, decide_eq_false_iff_not, Bool.not_eq_true', Bool.and_eq_true, Bool.or_eq_true] at hc) <;> first | (exfalso; omega) | conv => whnf) | (refine ⟨_, wr64 (by first | omega | (simp only [Int.toNat_natCast, Int.reduceToNat]; omega)) (by first | omega | (simp only [Int.toNat_natCast, Int.reduceToNat]; omega)), ?_⟩; conv => whnf) | (refine And.intro (by first | omega | (simp only [Int.toNat_natCast, Int.reduceToNat, addZ]; omega) | (simp only [ByteArray.size_append, size_mk, List.length_cons, List.length_nil, Int.toNat_natCast, Int.reduceToNat]; omega) | exact ⟨rfl, by omega⟩ | ((repeat' apply And.intro) <;> first | exact trivial | omega) | decide +kernel) ?_; conv => whnf) | (refine And.intro (fun (ht : tg _ _ = true) => by (simp only [tg_ite, tg_nil, cn, Nat.reduceMul, Nat.reduceAdd, Nat.reduceEqDiff, ↓reduceIte, pickB_or, pickB_and, Bool.and_eq_true, Bool.or_eq_true, Bool.or_eq_false_iff, Bool.and_eq_false_iff, Bool.not_eq_true', Bool.not_eq_false', decide_eq_true_eq, decide_eq_false_iff_not, Int.toNat_natCast, Int.reduceToNat, ne_eq] at ht ⊢; first | omega | (simp only [Int.toNat_natCast, Int.reduceToNat]; omega))) ?_; conv => whnf) | (refine ⟨_, shl1 (by omega), ?_⟩; conv => whnf) | (refine ⟨_, wru64 (by first | omega | (simp only [Int.toNat_natCast, Int.reduceToNat]; omega)) (by first | omega | (simp only [Int.toNat_natCast, Int.reduceToNat]; omega)), ?_⟩; conv => whnf) | (refine ⟨_, fun _ => (IntKind.wrap_u64 _).symm, ?_⟩; conv => whnf) | ((first | refine CallK.mk _ _ (fun _ => Copy_S m h2) ?_ | refine CallL.mk _ _ (fun _ => Copy_S m h2) rfl (fun _ _ h => nomatch h) ?_ | (refine CallW.lent ?_; (conv => whnf); refine CallL.mk _ _ (fun _ => Copy_S m h2) rfl (fun _ _ h => nomatch h) ?_) | (refine CallW.lent ?_; (conv => whnf); refine And.intro (by omega) ?_; (conv => whnf); refine CallL.mk _ _ (fun _ => Copy_S m h2) rfl (fun _ _ h => nomatch h) ?_)); conv => whnf) | ((first | refine CallK.mk _ _ (fun _ => (Sayable_S (part m k) (Nat.lt_of_le_of_lt p1 h2) p3.n).mats p5) ?_ | refine CallL.mk _ _ (fun _ => (Sayable_S (part m k) (Nat.lt_of_le_of_lt p1 h2) p3.n).mats p5) rfl (fun _ _ h => nomatch h) ?_ | (refine CallW.lent ?_; (conv => whnf); refine CallL.mk _ _ (fun _ => (Sayable_S (part m k) (Nat.lt_of_le_of_lt p1 h2) p3.n).mats p5) rfl (fun _ _ h => nomatch h) ?_) | (refine CallW.lent ?_; (conv => whnf); refine And.intro (by omega) ?_; (conv => whnf); refine CallL.mk _ _ (fun _ => (Sayable_S (part m k) (Nat.lt_of_le_of_lt p1 h2) p3.n).mats p5) rfl (fun _ _ h => nomatch h) ?_)); conv => whnf) | ((first | refine CallK.mk _ _ (fun _ => (Text_S (part m k) (Nat.lt_of_le_of_lt p1 h2) p3 p4).mats p5) ?_ | refine CallL.mk _ _ (fun _ => (Text_S (part m k) (Nat.lt_of_le_of_lt p1 h2) p3 p4).mats p5) rfl (fun _ _ h => nomatch h) ?_ | (refine CallW.lent ?_; (conv => whnf); refine CallL.mk _ _ (fun _ => (Text_S (part m k) (Nat.lt_of_le_of_lt p1 h2) p3 p4).mats p5) rfl (fun _ _ h => nomatch h) ?_) | (refine CallW.lent ?_; (conv => whnf); refine And.intro (by omega) ?_; (conv => whnf); refine CallL.mk _ _ (fun _ => (Text_S (part m k) (Nat.lt_of_le_of_lt p1 h2) p3 p4).mats p5) rfl (fun _ _ h => nomatch h) ?_)); conv => whnf) | exact ⟨_, .keep rfl rfl⟩ | fail
    · exfalso
      rename_i hy2 hx2 hy1 hx1
      have hp : say5 (part m k) = true := (sayP_eq _).symm.trans hx1
      have hw : say5 m = true := (sayP_eq _).symm.trans hsay
      obtain ⟨r, e⟩ := part_text hkq hp p3
      rw [text5, if_pos hw, text5, if_pos hp, e, ByteArray.size_append] at hc
      rcases hc with hc | hc
      · omega
      · exact hc (ByteArray.extract_append_eq_left rfl)
    · refine .mk (q + 1) (by omega) (by omega) ?_
      refine Ent.lp [] [] rfl rfl rfl ?_ ?_ <;> repeat' first | exact trivial | rfl | exact fun _ _ => rfl | omega | refine And.intro ?_ ?_ | (show (_ : Int) = _; first | omega | (simp only [Int.toNat_natCast]; omega))
end Go.Proofs.YtilhkmlghhdpaaaDoor

/- What the rows of this seat list of variables. -/
namespace Go.Proofs.YtilhkmlghhdpaaaDoor
open Go.RowKit
set_option linter.unusedVariables false
set_option maxRecDepth 100000
theorem doorOwn : ownKnob Tryd.prog.godebug = none := by kernel_rfl
theorem doorLaidOut : laidOutB Tryd.prog = true := by kernel_rfl
/-- What a row of this seat lists. -/
def doorLaid : List (String × DataW Unit) := [("math/bits.deBruijn32tab", Rows.laid_math_bits_deBruijn32tab), ("math/bits.deBruijn64tab", Rows.laid_math_bits_deBruijn64tab), ("internal/strconv.uint64pow10", Rows.laid_internal_strconv_uint64pow10), ("unicode.White_Space", Rows.laid_unicode_White_Space), ("strings.asciiSpace", Rows.laid_strings_asciiSpace)]
theorem vars_of {w : World} (h : laidMetH Tryd.prog doorLaid w) : Vr w := by
  have hL : laidMet Tryd.prog doorLaid w := h
  have e1 : (Rows.laid_internal_strconv_uint64pow10 : DataW Unit) = Lib.tabData .u64 Lib.pow10Tab := by kernel_rfl
  have e2 : (Rows.laid_strings_asciiSpace : DataW Unit) = Lib.tabData .u8 Lib.asciiSpaceTab := by kernel_rfl
  unfold doorLaid at hL
  rw [e1, e2] at hL
  refine ⟨?_, ?_⟩
  · exact Lib.tabIs_of_head (g := 2) (by kernel_rfl) (by kernel_rfl) Tryd.underlying123 Tryd.underlying69 (by kernel_rfl) (by kernel_rfl) hL.tail.tail
  · exact Lib.tabIs_of_head (g := 0) (by kernel_rfl) (by kernel_rfl) Tryd.underlying100 Tryd.underlying5 (by kernel_rfl) (by kernel_rfl) hL.tail.tail.tail.tail
theorem vars_stay {w : World} (h : Vr w) : Rob allS w Vr := fun w' hs hq => by
  have hb : ∀ {g : Nat} {n : String} {k : IntKind} {zs : List Int}, Tryd.prog.globalNamed n = some g → Lib.TabIs Tryd.prog w n k zs → Lib.TabIs Tryd.prog w' n k zs := fun {g n k zs} hg ht => by
    unfold Lib.TabIs World.var? at ht ⊢
    rw [hg, Option.bind_some] at ht ⊢
    have hlt : g < w.heap.size := by
      rcases Nat.lt_or_ge g w.heap.size with q | q
      · exact q
      · rw [Array.getElem?_eq_none q] at ht; cases ht
    rw [hq g hlt trivial]; exact ht
  exact ⟨hb (g := 2) (by kernel_rfl) h.1, hb (g := 0) (by kernel_rfl) h.2⟩
theorem laid_met (os : Go.Os) (args : Array Value) : laidMet Tryd.prog doorLaid ((World.laidAll Tryd.prog os doorLaid).forCall (fun _ _ => 0) ⟨#[], args, []⟩).memory :=
  laidMet_laidAll args (by kernel_rfl) (by kernel_rfl)
end Go.Proofs.YtilhkmlghhdpaaaDoor
