/- What an instruction folds to: the law's code. -/
import Derived.Test.YtffimfmicapaaaaFoldL
namespace Go.Proofs.Ytffimfmicapaaaa
open Go.RowKit
set_option linter.unusedVariables false
set_option linter.unusedSimpArgs false
set_option maxRecDepth 100000
set_option maxHeartbeats 4000000
open Pl (Vl)
theorem value_rg {v : Opd} (h : 0 ≤ v.b ∧ v.b < 18446744073709551616) : 0 ≤ (d_lathelaw15_value v).b ∧ (d_lathelaw15_value v).b < 18446744073709551616 := by
  unfold d_lathelaw15_value
  simp only [Bool.cond_eq_ite]
  (repeat' split) <;> first | exact h | simp
def d_lathelaw15_FoldEvals_R10 (p0 : Ins) : Nat → (List Vl) → Int → List Vl × Int
  | 0, l5, x30 => (l5, x30)
  | k + 1, l5, x30 =>
   bif (decide (x30 < (p0.args.l.length : Int))) then
    d_lathelaw15_FoldEvals_R10 p0 k (l5 ++ [(d_lathelaw15_value (p0.args.l.getD (Int.toNat x30) Dat.d))]) (x30 + 1)
   else (l5, x30)
def d_lathelaw15_FoldEvals (p0 : Ins) : Bool :=
  bif (decide (3 < (p0.args.l.length : Int))) then
   true
  else bif (!((foldI p0).2)) then
    (decide (((foldI p0).1) = (⟨0, 0, 0⟩ : Opd)))
   else letV (d_lathelaw15_FoldEvals_R10 p0 (((p0.args.l.length : Int) - 0).toNat + 1) ([] : List Vl) 0) (fun (l5e, x30e) => (((((d_ir_Calm p0.op) && ((evalI p0 (⟨none, 0, l5e⟩ : SlD Vl)).2 == 0)) && (decide (2 ≤ ((foldI p0).1).k))) && (decide (((foldI p0).1).k ≤ 5))) && ((((((evalI p0 (⟨none, 0, l5e⟩ : SlD Vl)).1).k == 0) && ((d_lathelaw15_value ((foldI p0).1)).k == 0)) || ((((evalI p0 (⟨none, 0, l5e⟩ : SlD Vl)).1).k == 3) && ((d_lathelaw15_value ((foldI p0).1)).k != 0))) || (decide (((evalI p0 (⟨none, 0, l5e⟩ : SlD Vl)).1) = (d_lathelaw15_value ((foldI p0).1)))))))
theorem lathelaw15_FoldEvals_S (p0 : Ins)  : Spec Try.prog 4 [.agg [.int .i64 p0.op, .int .i64 p0.reg, .int .i64 p0.t, .int .i64 p0.n, .int .i64 p0.f, .slice p0.args.a p0.args.l.length p0.args.cap, .slice p0.to.a p0.to.l.length p0.to.cap].toArray] (fun w => Dat.ok p0 w) (fun v _ => v = Value.bool (d_lathelaw15_FoldEvals p0)) := by
  refine Spec.enter Try.func4 rfl (n := 90) Try.ntmps4 (Nat.le_of_ble_eq_true rfl) (l := [(0, _, _)]) rfl ?_
  intro S w
  refine SC.seq (fun K1 hK1 => ?_)
  refine SC.know (fun w h => h.rg0) (fun hf0 => ?_)
  refine SC.know (p := ∀ z ∈ p0.args.l, 0 ≤ z.b ∧ z.b < 18446744073709551616) (fun w h => fun z hz => (h.args.el z hz).rg0) (fun hpr => ?_)
  refine SC.region ?_
  refine SL.box (cs := [_, _, _, _, _, _, _]) rfl rfl rfl rfl rfl (fun b1 => ?_)
  refine SL.step (PS.assign rfl tt rfl rfl) ?_
  refine SL.keep (l' := [(1, _, _)]) ⟨rfl, trivial⟩ ?_
  refine SL.nil (SE.thenK hK1 (SC.seq (fun K2 hK2 => SC.seq (fun K3 hK3 => SC.region ?_))))
  refine SL.callV (vs := []) Try.call5 trivial (fun hg => lathelaw15_lives_V  ) rfl rfl ?_
  refine SL.step (PS.not rfl tt rfl rfl) ?_
  refine SL.keep (l' := [(12, _, _), (1, _, _)]) ⟨rfl, rfl, trivial⟩ ?_
  refine SL.nil (SE.thenK hK3 ?_)
  refine SC.cond_f rfl (by rw [lives15]; rfl) ?_
  refine SC.skip (SE.thenK hK2 (SC.seq (fun K4 hK4 => SC.seq (fun K5 hK5 => SC.region ?_))))
  refine SL.step (PS.fieldAddr rfl tt Try.fieldAt_25_5 rfl rfl) ?_
  refine SL.step (PS.load_own (k := 0) rfl tt rfl rfl rfl Try.isAgg22 rfl rfl) ?_
  refine SL.step (PS.len_slice rfl tt Try.underlying22 rfl rfl) ?_
  refine SL.know (p := p0.args.l.length ≤ 9223372036854775807) (fun w h => (((h)).args).le) (fun hle3 => ?_)
  refine SL.step (PS.gtr rfl tt rfl tt rfl rfl) ?_
  refine SL.keep (l' := [(16, _, _), (1, _, _)]) ⟨rfl, rfl, trivial⟩ ?_
  refine SL.nil (SE.thenK hK5 ?_)
  refine SC.cond rfl (fun c16 => ?_) (fun c16 => ?_)
  ·
   refine SC.seq (fun K6 hK6 => SC.region ?_)
   refine SL.step (PS.assign rfl tt rfl rfl) ?_
   refine SL.keep (l' := [(2, _, _)]) ⟨rfl, trivial⟩ ?_
   refine SL.nil (SE.thenK hK6 (SC.ret (SE.then_ret ?_)))
   exact fin1 rfl rfl rfl (fun _ _ => congrArg (fun z : Bool => Value.bool z) (show (d_lathelaw15_FoldEvals p0) = (true : Bool) from (bifT c16)).symm)
  ·
   have c16n := c16
   try simp only [Bool.and_eq_true, Bool.or_eq_true, decide_eq_true_eq, Bool.true_and, Bool.not_eq_true', Bool.not_eq_false', beq_iff_eq, bne_iff_ne, decide_eq_false_iff_not, beq_eq_false_iff_ne, bne_eq_false_iff_eq, ne_eq, Bool.or_eq_false_iff, Bool.and_eq_false_iff] at c16n
   refine SC.skip (SE.thenK hK4 (SC.seq (fun K7 hK7 => SC.region ?_)))
   refine SL.step (PS.load_own_agg (k := 0) (vs := [_, _, _, _, _, _, _]) rfl tt rfl rfl rfl rfl Try.isAgg25 Try.sizeOf25 rfl rfl) ?_
   refine SL.callR (vs := [_]) Try.call6 ⟨⟨_, rfl, tt⟩, trivial⟩ (fun hg => foldI_S p0 (by first | omega | exact Nat.le_of_ble_eq_true rfl)) (fun w h hok hg => (h)) rfl rfl ?_
   refine SL.step (PS.move rfl tt rfl rfl) ?_
   refine SL.step (PS.extract rfl tt rfl rfl rfl) ?_
   refine SL.step (PS.extract rfl tt rfl rfl rfl) ?_
   refine SL.alloc (cs := [_, _, _]) Try.zeroValue29 rfl rfl rfl (fun b3 => ?_)
   refine SL.store_own (k := 0) (own' := [_, _]) (cs' := [_, _, _]) rfl rfl rfl rfl rfl rfl rfl Try.sizeOf29 rfl (Nat.le_of_ble_eq_true rfl) rfl rfl rfl rfl ?_
   refine SL.step (PS.assign rfl tt rfl rfl) ?_
   refine SL.keep (l' := [(4, _, _), (3, _, _), (1, _, _)]) ⟨rfl, rfl, rfl, trivial⟩ ?_
   refine SL.nil (SE.thenK hK7 (SC.seq (fun K8 hK8 => SC.seq (fun K9 hK9 => SC.region ?_))))
   refine SL.step (PS.move rfl tt rfl rfl) ?_
   refine SL.step (PS.not rfl tt rfl rfl) ?_
   refine SL.keep (l' := [(23, _, _), (3, _, _), (1, _, _)]) ⟨rfl, rfl, rfl, trivial⟩ ?_
   refine SL.nil (SE.thenK hK9 ?_)
   refine SC.cond rfl (fun c23 => ?_) (fun c23 => ?_)
   ·
    refine SC.seq (fun K10 hK10 => SC.region ?_)
    refine SL.step (PS.load_own_agg (k := 0) (vs := [_, _, _]) rfl tt rfl rfl rfl rfl Try.isAgg29 Try.sizeOf29 rfl rfl) ?_
    refine SL.step (PS.build (us := []) (vs := [_, _, _]) trivial Try.underlying29 Try.zeroValue29 (Try.places_29 Try.underlying29) rfl rfl rfl) ?_
    refine SL.step (PS.eqlA (u := .agg [.int .i64 (((foldI p0).1).k), .int .i64 (((foldI p0).1).n), .int .u64 (((foldI p0).1).b)].toArray) (v := .agg [.int .i64 0, .int .i64 0, .int .u64 0].toArray) rfl tt rfl tt (fun x y w => Opd_eql x y ((foldI p0).1) (⟨0, 0, 0⟩ : Opd) w) rfl rfl) ?_
    refine SL.step (PS.assign rfl tt rfl rfl) ?_
    refine SL.keep (l' := [(2, _, _)]) ⟨rfl, trivial⟩ ?_
    refine SL.nil (SE.thenK hK10 (SC.ret (SE.then_ret ?_)))
    exact fin1 rfl rfl rfl (fun _ _ => congrArg (fun z : Bool => Value.bool z) (show (d_lathelaw15_FoldEvals p0) = ((decide (((foldI p0).1) = (⟨0, 0, 0⟩ : Opd))) : Bool) from ((bifF c16).trans (bifT c23))).symm)
   ·
    have c23n := c23
    try simp only [Bool.and_eq_true, Bool.or_eq_true, decide_eq_true_eq, Bool.true_and, Bool.not_eq_true', Bool.not_eq_false', beq_iff_eq, bne_iff_ne, decide_eq_false_iff_not, beq_eq_false_iff_ne, bne_eq_false_iff_eq, ne_eq, Bool.or_eq_false_iff, Bool.and_eq_false_iff] at c23n
    refine SC.skip (SE.thenK hK8 (SC.seq (fun K11 hK11 => SC.region ?_)))
    refine SL.step (PS.assign rfl tt rfl rfl) ?_
    refine SL.row0 (Dat.sz Vl) (Dat.cells (α := Vl)) ?_
    refine SL.keep (l' := [(5, _, _), (3, _, _), (1, _, _)]) ⟨rfl, rfl, rfl, trivial⟩ ?_
    refine SL.nil (SE.thenK hK11 (SC.seq (fun K12 hK12 => SC.seq (fun K13 hK13 => SC.region ?_))))
    refine SL.step (PS.fieldAddr rfl tt Try.fieldAt_25_5 rfl rfl) ?_
    refine SL.step (PS.load_own (k := 2) rfl tt rfl rfl rfl Try.isAgg22 rfl rfl) ?_
    refine SL.step (PS.len_slice rfl tt Try.underlying22 rfl rfl) ?_
    refine SL.know (p := p0.args.l.length ≤ 9223372036854775807) (fun w h => (((h)).args).le) (fun hle4 => ?_)
    refine SL.step (PS.move rfl tt rfl rfl) ?_
    refine SL.keep (l' := [(30, _, _), (29, _, _), (28, _, _), (5, _, _), (3, _, _), (1, _, _)]) ⟨rfl, rfl, rfl, rfl, rfl, rfl, trivial⟩ ?_
    refine SL.nil (SE.thenK hK13 (SC.block ?_))
    refine SC.loopF (fun ((k1, l5, x30, o5, cap5) : Nat × List Vl × Int × Option Nat × Nat) => [(30, true, .int .i64 x30), (29, true, .int .i64 (p0.args.l.length : Int)), (28, true, .slice p0.args.a p0.args.l.length p0.args.cap), (5, true, .slice (rowA o5) l5.length cap5), (3, true, .pointer (some ⟨b3, 0, none⟩)), (1, true, .pointer (some ⟨b1, 0, none⟩))]) (fun ((k1, l5, x30, o5, cap5) : Nat × List Vl × Int × Option Nat × Nat) => [Rw o5 l5 cap5, .blk b3 [.int .i64 (((foldI p0).1).k), .int .i64 (((foldI p0).1).n), .int .u64 (((foldI p0).1).b)], .blk b1 [.int .i64 p0.op, .int .i64 p0.reg, .int .i64 p0.t, .int .i64 p0.n, .int .i64 p0.f, .slice p0.args.a p0.args.l.length p0.args.cap, .slice p0.to.a p0.to.l.length p0.to.cap]]) (fun ((k1, l5, x30, o5, cap5) : Nat × List Vl × Int × Option Nat × Nat) w => ((d_lathelaw15_FoldEvals_R10 p0 k1 l5 x30 = d_lathelaw15_FoldEvals_R10 p0 (((p0.args.l.length : Int) - 0).toNat + 1) ([] : List Vl) 0) ∧ (((p0.args.l.length : Int) - x30).toNat < k1) ∧ (0 ≤ x30) ∧ (x30 ≤ (p0.args.l.length : Int)) ∧ ((l5.length : Int) = x30)) ∧ ((∀ x ∈ l5, Dat.ok x w))) (fun q => q.1) (((p0.args.l.length : Int) - 0).toNat + 1, ([] : List Vl), 0, none, 0) ⟨rfl, rfl, rfl, rfl, rfl, rfl, trivial⟩ rfl (fun w h => ⟨⟨rfl, Nat.lt_succ_self _, by omega, by omega, rfl⟩, (fun x hx => nomatch hx)⟩) (fun q => ?_)
    obtain ⟨k1, l5, x30, o5, cap5⟩ := q
    dsimp only
    refine SC.know (fun w h => h.2.1) (fun hp => ?_)
    obtain ⟨hL1, hm1, hi1_0, hi1_1, hi1_2⟩ := hp
    obtain ⟨k1p, rfl⟩ : ∃ j, k1 = j + 1 := ⟨k1 - 1, by omega⟩
    refine SC.seq (fun K14 hK14 => SC.region ?_)
    refine SL.step (PS.lss rfl tt rfl tt rfl rfl) ?_
    refine SL.nil (SE.thenK hK14 (SC.seq (fun K15 hK15 => ?_)))
    refine SC.cond rfl (fun c31 => ?_) (fun c31 => ?_)
    ·
     have c31n := c31
     try simp only [Bool.and_eq_true, Bool.or_eq_true, decide_eq_true_eq, Bool.true_and, Bool.not_eq_true', Bool.not_eq_false', beq_iff_eq, bne_iff_ne, decide_eq_false_iff_not, beq_eq_false_iff_ne, bne_eq_false_iff_eq, ne_eq, Bool.or_eq_false_iff, Bool.and_eq_false_iff] at c31n
     refine SC.skip (SE.thenK hK15 (SC.seq (fun K16 hK16 => SC.block (SC.seq (fun K17 hK17 => SC.region ?_)))))
     refine SL.step (PS.indexS (α := Opd) (xs := p0.args.l) rfl tt rfl tt Try.underlying22 Try.sizeOf29 (fun w hw hg => (((hw.now.1)).args).sl) rfl (fun hg => by first | omega | (simp only [List.length_cons, List.length_nil]; omega) | (try simp only [Bool.and_eq_true, Bool.or_eq_true, decide_eq_true_eq, Bool.true_and, Bool.not_eq_true', beq_iff_eq, bne_iff_ne, decide_eq_false_iff_not, beq_eq_false_iff_ne, ne_eq] at hg; omega)) rfl rfl) ?_
     refine SL.step (PS.loadS (α := Opd) (xs := p0.args.l) (m := x30) (vs := [.int .i64 ((p0.args.l.getD (Int.toNat x30) Dat.d).k), .int .i64 ((p0.args.l.getD (Int.toNat x30) Dat.d).n), .int .u64 ((p0.args.l.getD (Int.toNat x30) Dat.d).b)]) rfl tt (fun w hw hg => (((hw.now.1)).args).sl) (fun hg => by first | omega | (simp only [List.length_cons, List.length_nil]; omega) | (try simp only [Bool.and_eq_true, Bool.or_eq_true, decide_eq_true_eq, Bool.true_and, Bool.not_eq_true', beq_iff_eq, bne_iff_ne, decide_eq_false_iff_not, beq_eq_false_iff_ne, ne_eq] at hg; omega)) rfl Try.isAgg29 Try.sizeOf29 rfl rfl) ?_
     refine SL.alloc (cs := [_, _, _]) Try.zeroValue29 rfl rfl rfl (fun b7 => ?_)
     refine SL.store_own (k := 0) (own' := [_, _, _, _]) (cs' := [_, _, _]) rfl rfl rfl rfl rfl rfl rfl Try.sizeOf29 rfl (Nat.le_of_ble_eq_true rfl) rfl rfl rfl rfl ?_
     refine SL.keep (l' := [(7, _, _), (30, _, _), (29, _, _), (28, _, _), (5, _, _), (3, _, _), (1, _, _)]) ⟨rfl, rfl, rfl, rfl, rfl, rfl, rfl, trivial⟩ ?_
     refine SL.nil (SE.thenK hK17 (SC.region ?_))
     refine SL.step (PS.move rfl tt rfl rfl) ?_
     refine SL.step (PS.load_own_agg (k := 0) (vs := [_, _, _]) rfl tt rfl rfl rfl rfl Try.isAgg29 Try.sizeOf29 rfl rfl) ?_
     refine SL.callV (vs := [_]) Try.call8 ⟨⟨_, rfl, tt⟩, trivial⟩ (fun hg => lathelaw15_value_V (p0.args.l.getD (Int.toNat x30) Dat.d) ) rfl rfl ?_
     refine SL.buildSlice (us := [(0, _)]) (cs := [_, _, _, _]) ⟨rfl, ⟨_, rfl, tt⟩, trivial⟩ Try.underlying33 Try.sizeOf35 Try.zeroValue35 ⟨rfl, rfl, _, rfl, trivial⟩ rfl (by decide) rfl rfl (fun b37 => ?_)
     refine SL.append1 (k := 1) (xs := l5) (y := (d_lathelaw15_value (p0.args.l.getD (Int.toNat x30) Dat.d))) (cells := Dat.cells) rfl rfl rfl rfl Dat.len Dat.one Try.underlying33 Try.rowinfo_35 (by omega) (by omega) rfl rfl (fun o38 c38 => ?_)
     refine SL.own_eq (own' := [_, _, _, _]) rfl ?_
     refine SL.step (PS.assign rfl tt rfl rfl) ?_
     refine SL.keep (l' := [(5, _, _), (30, _, _), (29, _, _), (28, _, _), (3, _, _), (1, _, _)]) ⟨rfl, rfl, rfl, rfl, rfl, rfl, trivial⟩ ?_
     refine SL.nil (SE.block_normal (SE.thenK hK16 (SC.region ?_)))
     refine SL.step (PS.add_in rfl tt rfl tt (fun _ => wr_i64 (by omega)) rfl rfl) ?_
     refine SL.step (PS.move rfl tt rfl rfl) ?_
     refine SL.keep (l' := [(30, _, _), (5, _, _), (29, _, _), (28, _, _), (3, _, _), (1, _, _)]) ⟨rfl, rfl, rfl, rfl, rfl, rfl, trivial⟩ ?_
     refine SL.nil ?_
     refine SE.drop (own' := [_, _, _]) (List.Sublist.cons _ (List.Sublist.cons_cons _ (List.Sublist.cons_cons _ (List.Sublist.cons_cons _ List.Sublist.slnil)))) ?_
     exact SE.againF (k1p, (l5 ++ [(d_lathelaw15_value (p0.args.l.getD (Int.toNat x30) Dat.d))]), (x30 + 1), o38, c38) ⟨rfl, rfl, rfl, rfl, rfl, rfl, trivial⟩ rfl (fun w h => And.intro (h.1) (And.intro ⟨((show d_lathelaw15_FoldEvals_R10 p0 (k1p + 1) l5 x30 = d_lathelaw15_FoldEvals_R10 p0 k1p (l5 ++ [(d_lathelaw15_value (p0.args.l.getD (Int.toNat x30) Dat.d))]) (x30 + 1) from (bifT c31)).symm.trans hL1), by (try dsimp only); omega, by (try dsimp only); omega, by (try dsimp only); omega, by simp; omega⟩ ((all_snoc ((h.2.2)) (⟨(value_rg (hpr _ (getD_mem (by omega))))⟩))))) (Nat.lt_succ_self _)
    ·
     have c31n := c31
     try simp only [Bool.and_eq_true, Bool.or_eq_true, decide_eq_true_eq, Bool.true_and, Bool.not_eq_true', Bool.not_eq_false', beq_iff_eq, bne_iff_ne, decide_eq_false_iff_not, beq_eq_false_iff_ne, bne_eq_false_iff_eq, ne_eq, Bool.or_eq_false_iff, Bool.and_eq_false_iff] at c31n
     refine SC.exit (SE.then_exit (SE.then_exit (SE.block_same (SE.thenK hK12 (SC.seq (fun K18 hK18 => SC.region ?_))))))
     refine SL.step (PS.load_own_agg (k := 2) (vs := [_, _, _, _, _, _, _]) rfl tt rfl rfl rfl rfl Try.isAgg25 Try.sizeOf25 rfl rfl) ?_
     refine SL.step (PS.move rfl tt rfl rfl) ?_
     refine SL.callR (vs := [_, _]) Try.call9 ⟨⟨_, rfl, tt⟩, ⟨_, rfl, tt⟩, trivial⟩ (fun hg => evalI_S p0 (⟨rowA o5, cap5, l5⟩ : SlD Vl) (by assumption)) (fun w h hok hg => (⟨Rw.sl (hok _ (mem_nth (k := 0) rfl)), (h.2.2), (show l5.length ≤ 9223372036854775807 by omega)⟩ : SlD.rd _ _)) rfl rfl ?_
     refine SL.step (PS.move rfl tt rfl rfl) ?_
     refine SL.step (PS.extract rfl tt rfl rfl rfl) ?_
     refine SL.step (PS.extract rfl tt rfl rfl rfl) ?_
     refine SL.alloc (cs := [_, _, _, _]) Try.zeroValue35 rfl rfl rfl (fun b8 => ?_)
     refine SL.store_own (k := 0) (own' := [_, _, _, _]) (cs' := [_, _, _, _]) rfl rfl rfl rfl rfl rfl rfl Try.sizeOf35 rfl (Nat.le_of_ble_eq_true rfl) rfl rfl rfl rfl ?_
     refine SL.step (PS.assign rfl tt rfl rfl) ?_
     refine SL.keep (l' := [(9, _, _), (8, _, _), (3, _, _), (1, _, _)]) ⟨rfl, rfl, rfl, rfl, trivial⟩ ?_
     refine SL.nil (SE.thenK hK18 (SC.seq (fun K19 hK19 => SC.region ?_)))
     refine SL.step (PS.load_own_agg (k := 2) (vs := [_, _, _]) rfl tt rfl rfl rfl rfl Try.isAgg29 Try.sizeOf29 rfl rfl) ?_
     refine SL.callV (vs := [_]) Try.call8 ⟨⟨_, rfl, tt⟩, trivial⟩ (fun hg => lathelaw15_value_V ((foldI p0).1) ) rfl rfl ?_
     refine SL.alloc (cs := [_, _, _, _]) Try.zeroValue35 rfl rfl rfl (fun b10 => ?_)
     refine SL.store_own (k := 0) (own' := [_, _, _, _, _]) (cs' := [_, _, _, _]) rfl rfl rfl rfl rfl rfl rfl Try.sizeOf35 rfl (Nat.le_of_ble_eq_true rfl) rfl rfl rfl rfl ?_
     refine SL.keep (l' := [(10, _, _), (9, _, _), (8, _, _), (3, _, _), (1, _, _)]) ⟨rfl, rfl, rfl, rfl, rfl, trivial⟩ ?_
     refine SL.nil (SE.thenK hK19 (SC.seq (fun K20 hK20 => SC.region ?_)))
     refine SL.step (PS.fieldAddr rfl tt Try.fieldAt_25_0 rfl rfl) ?_
     refine SL.step (PS.load_own (k := 4) rfl tt rfl rfl rfl Try.isAgg3 rfl rfl) ?_
     refine SL.callV (vs := [_]) Try.call10 ⟨⟨_, rfl, tt⟩, trivial⟩ (fun hg => ir_Calm_V p0.op ) rfl rfl ?_
     refine SL.step (PS.move rfl tt rfl rfl) ?_
     refine SL.step (PS.move rfl tt rfl rfl) ?_
     refine SL.step (PS.eql rfl (fun h => h) rfl tt rfl rfl) ?_
     refine SL.step (PS.pick_and rfl tt rfl (fun h h2 => pk_and h h2) rfl rfl) ?_
     refine SL.step (PS.move rfl tt rfl rfl) ?_
     refine SL.step (PS.fieldAddr rfl tt Try.fieldAt_29_0 rfl rfl) ?_
     refine SL.step (PS.load_own (k := 3) rfl (fun h => h) rfl rfl rfl Try.isAgg3 rfl rfl) ?_
     refine SL.step (PS.geq rfl (fun h => h) rfl tt rfl rfl) ?_
     refine SL.step (PS.pick_and rfl tt rfl (fun h h2 => pk_and h h2) rfl rfl) ?_
     refine SL.step (PS.move rfl tt rfl rfl) ?_
     refine SL.step (PS.fieldAddr rfl tt Try.fieldAt_29_0 rfl rfl) ?_
     refine SL.step (PS.load_own (k := 3) rfl (fun h => h) rfl rfl rfl Try.isAgg3 rfl rfl) ?_
     refine SL.step (PS.leq rfl (fun h => h) rfl tt rfl rfl) ?_
     refine SL.step (PS.pick_and rfl tt rfl (fun h h2 => pk_and h h2) rfl rfl) ?_
     refine SL.step (PS.move rfl tt rfl rfl) ?_
     refine SL.step (PS.fieldAddr rfl tt Try.fieldAt_35_0 rfl rfl) ?_
     refine SL.step (PS.load_own (k := 1) rfl (fun h => h) rfl rfl rfl Try.isAgg3 rfl rfl) ?_
     refine SL.step (PS.eql rfl (fun h => h) rfl tt rfl rfl) ?_
     refine SL.step (PS.move rfl (fun h => h) rfl rfl) ?_
     refine SL.step (PS.fieldAddr rfl tt Try.fieldAt_35_0 rfl rfl) ?_
     refine SL.step (PS.load_own (k := 0) rfl (fun h => h) rfl rfl rfl Try.isAgg3 rfl rfl) ?_
     refine SL.step (PS.eql rfl (fun h => h) rfl tt rfl rfl) ?_
     refine SL.step (PS.pick_and rfl (fun h => h) rfl (fun h h2 => pk_and h h2) rfl rfl) ?_
     refine SL.step (PS.move rfl (fun h => h) rfl rfl) ?_
     refine SL.step (PS.fieldAddr rfl tt Try.fieldAt_35_0 rfl rfl) ?_
     refine SL.step (PS.load_own (k := 1) rfl (fun h => h) rfl rfl rfl Try.isAgg3 rfl rfl) ?_
     refine SL.step (PS.eql rfl (fun h => h) rfl tt rfl rfl) ?_
     refine SL.step (PS.move rfl (fun h => h) rfl rfl) ?_
     refine SL.step (PS.fieldAddr rfl tt Try.fieldAt_35_0 rfl rfl) ?_
     refine SL.step (PS.load_own (k := 0) rfl (fun h => h) rfl rfl rfl Try.isAgg3 rfl rfl) ?_
     refine SL.step (PS.neq rfl (fun h => h) rfl tt rfl rfl) ?_
     refine SL.step (PS.pick_and rfl (fun h => h) rfl (fun h h2 => pk_and h h2) rfl rfl) ?_
     refine SL.step (PS.pick_or rfl (fun h => h) rfl (fun h h2 => pk_or h h2) rfl rfl) ?_
     refine SL.step (PS.move rfl (fun h => h) rfl rfl) ?_
     refine SL.step (PS.load_own_agg (k := 1) (vs := [_, _, _, _]) rfl tt rfl rfl rfl rfl Try.isAgg35 Try.sizeOf35 rfl rfl) ?_
     refine SL.step (PS.load_own_agg (k := 0) (vs := [_, _, _, _]) rfl tt rfl rfl rfl rfl Try.isAgg35 Try.sizeOf35 rfl rfl) ?_
     refine SL.step (PS.eqlA (u := .agg [.int .i64 (((evalI p0 (⟨rowA o5, cap5, l5⟩ : SlD Vl)).1).k), .int .u64 (((evalI p0 (⟨rowA o5, cap5, l5⟩ : SlD Vl)).1).b), .int .i64 (((evalI p0 (⟨rowA o5, cap5, l5⟩ : SlD Vl)).1).bl), .int .i64 (((evalI p0 (⟨rowA o5, cap5, l5⟩ : SlD Vl)).1).off)].toArray) (v := .agg [.int .i64 ((d_lathelaw15_value ((foldI p0).1)).k), .int .u64 ((d_lathelaw15_value ((foldI p0).1)).b), .int .i64 ((d_lathelaw15_value ((foldI p0).1)).bl), .int .i64 ((d_lathelaw15_value ((foldI p0).1)).off)].toArray) rfl (fun h => h) rfl (fun h => h) (fun x y w => Vl_eql x y ((evalI p0 (⟨rowA o5, cap5, l5⟩ : SlD Vl)).1) (d_lathelaw15_value ((foldI p0).1)) w) rfl rfl) ?_
     refine SL.step (PS.pick_or rfl (fun h => h) rfl (fun h h2 => pk_or h h2) rfl rfl) ?_
     refine SL.step (PS.pick_and rfl tt rfl (fun h h2 => pk_and h h2) rfl rfl) ?_
     refine SL.step (PS.assign rfl tt rfl rfl) ?_
     refine SL.keep (l' := [(2, _, _)]) ⟨rfl, trivial⟩ ?_
     refine SL.nil (SE.thenK hK20 (SC.ret ?_))
     exact fin1 rfl rfl rfl (fun _ _ => congrArg (fun z : Bool => Value.bool z) (show (d_lathelaw15_FoldEvals p0) = ((((((d_ir_Calm p0.op) && ((evalI p0 (⟨rowA o5, cap5, l5⟩ : SlD Vl)).2 == 0)) && (decide (2 ≤ ((foldI p0).1).k))) && (decide (((foldI p0).1).k ≤ 5))) && ((((((evalI p0 (⟨rowA o5, cap5, l5⟩ : SlD Vl)).1).k == 0) && ((d_lathelaw15_value ((foldI p0).1)).k == 0)) || ((((evalI p0 (⟨rowA o5, cap5, l5⟩ : SlD Vl)).1).k == 3) && ((d_lathelaw15_value ((foldI p0).1)).k != 0))) || (decide (((evalI p0 (⟨rowA o5, cap5, l5⟩ : SlD Vl)).1) = (d_lathelaw15_value ((foldI p0).1)))))) : Bool) from ((bifF c16).trans ((bifF c23).trans (letV_eq (hL1.symm.trans (show d_lathelaw15_FoldEvals_R10 p0 (k1p + 1) l5 x30 = (l5, x30) from (bifF c31))))))).symm)
theorem R10_eq (p : Ins) : ∀ (m k j : Nat) (l : List Vl), j + m = p.args.l.length → m < k → (d_lathelaw15_FoldEvals_R10 p k l j) = (l ++ (p.args.l.drop j).map d_lathelaw15_value, (p.args.l.length : Int))
  | 0, k + 1, j, l, hj, _ => by
    have hjl : j = p.args.l.length := by omega
    unfold d_lathelaw15_FoldEvals_R10
    rw [decide_eq_false (by omega), cond_false, List.drop_eq_nil_of_le (by omega)]
    simp [hjl]
  | m + 1, k + 1, j, l, hj, hm => by
    have hjl : j < p.args.l.length := by omega
    unfold d_lathelaw15_FoldEvals_R10
    have hx := getD_some (d := (Dat.d : Opd)) hjl
    have hd : p.args.l.drop j = p.args.l.getD j Dat.d :: p.args.l.drop (j + 1) := by
      rw [List.drop_eq_getElem_cons hjl]; congr 1
      rw [List.getElem?_eq_getElem hjl] at hx; exact Option.some.inj hx
    rw [decide_eq_true (by omega), cond_true, Int.toNat_natCast, hd]
    have e : (j : Int) + 1 = ((j + 1 : Nat) : Int) := by omega
    rw [e, R10_eq p m k (j + 1) _ (by omega) (by omega)]
    simp
  | m, 0, _, _, _, h => by omega
theorem litsP_map : ∀ (l : List Opd) (vs : List Vl), litsP l = some vs → vs = l.map d_lathelaw15_value
  | [], vs, h => by simp [litsP] at h; simp [h]
  | v :: l, vs, h => by
    rw [litsP_cons] at h
    cases hv : (d_fold_literal v).2
    · rw [hv] at h; cases h
    · rw [hv, cond_true] at h
      cases hl : litsP l with
      | none => rw [hl] at h; cases h
      | some us =>
        rw [hl] at h
        simp only [Option.map_some, Option.some.injEq] at h
        have e : (d_fold_literal v).1 = d_lathelaw15_value v := by
          revert hv
          unfold d_fold_literal d_lathelaw15_value
          simp only [Bool.cond_eq_ite, beq_iff_eq]
          (repeat' split) <;> first | (intro _; rfl) | (exfalso; omega) | (intro h; cases h; done)
        rw [← h, e, litsP_map l us hl]; rfl
/-- What a value may look like. -/
def Shp (r : Vl) : Prop := r = Vl.zero ∨ r = Pl.any ∨ (r.k = 1 ∧ r.bl = 0 ∧ r.off = 0) ∨ (r.k = 2 ∧ r.b = 0)
theorem shp_zero : Shp Vl.zero := .inl rfl
theorem shp_any : Shp Pl.any := .inr (.inl rfl)
theorem shp_num (z : Int) : Shp (Pl.number z) := .inr (.inr (.inl ⟨rfl, rfl, rfl⟩))
theorem shp_norm (t : Int) (v : Vl) : Shp (Pl.norm t v) := by
  unfold Pl.norm
  (repeat' split) <;> first | exact .inr (.inr (.inl ⟨rfl, rfl, rfl⟩)) | exact .inr (.inr (.inr ⟨rfl, rfl⟩)) | exact shp_any | exact shp_zero
theorem shp_at {ws : List Int} {xs : List Vl} (i : Nat) : Shp (Pl.at_ (Pl.row ws xs) i) := by
  unfold Pl.at_
  rw [List.getD_eq_getElem?_getD]
  cases h : (Pl.row ws xs)[i]? with
  | none => exact shp_zero
  | some y =>
    unfold Pl.row at h
    rw [List.getElem?_zipWith] at h
    split at h
    · cases h; exact shp_norm _ _
    · cases h
theorem shp_eval {op t n f : Int} {xs : List Vl} : Shp (Pl.eval op t n f xs).1 := by
  unfold Pl.eval
  cases hk : Pl.kinds op t n f with
  | none => exact shp_zero
  | some ws =>
    simp only
    cases hl : (ws.length != xs.length)
    · simp only [cond_false]
      have hl' : ws.length = xs.length := by simpa using hl
      have h0 := shp_at (ws := ws) (xs := xs) 0
      have h1 := shp_at (ws := ws) (xs := xs) 1
      have h2 := shp_at (ws := ws) (xs := xs) 2
      have hg : op = 29 → (Pl.row ws xs).any (·.k == 0) = false → (Pl.row ws xs).any (·.k == 3) = false → (Pl.at_ (Pl.row ws xs) 0).k = 2 ∧ (Pl.at_ (Pl.row ws xs) 0).b = 0 := fun ho a0 a3 => by
        cases (Pl.kinds_cases hk).2 with
        | gep h ht =>
          obtain ⟨a, b, rfl⟩ := Pl.two_of (show xs.length = 2 by rw [← hl']; rfl)
          have e : Pl.row [65, 64] [a, b] = [Pl.norm 65 a, Pl.norm 64 b] := rfl
          rw [e] at a0 a3 ⊢
          have k0 := (Pl.ne_any2 a0).1
          have k3 := (Pl.ne_any2 a3).1
          have hn := Pl.norm_norm 65 a
          have hk := Pl.norm_kind hn
          have h2 : (Pl.norm 65 a).k = 2 := by omega
          exact ⟨h2, (Pl.norm3 hn).2.2 h2⟩
        | eq h => omega
        | two h h' => omega
        | conv h h' => omega
        | select h => omega
        | freeze h => omega
      unfold Pl.made Pl.chosen Pl.loosely Pl.clear
      cases ha0 : (Pl.row ws xs).any (·.k == 0)
      · cases ha3 : (Pl.row ws xs).any (·.k == 3)
        · simp only [Bool.cond_eq_ite, beq_iff_eq]
          (repeat' split) <;> first | exact shp_zero | exact shp_any | exact h0 | exact h1 | exact h2 | exact shp_num _ | (exact .inr (.inr (.inr (hg (by assumption) ha0 ha3)))) | contradiction
        · simp only [Bool.cond_eq_ite, beq_iff_eq]
          (repeat' split) <;> first | exact shp_zero | exact shp_any | exact h0 | exact h1 | exact h2 | exact shp_num _ | contradiction
      · simp only [Bool.cond_eq_ite, beq_iff_eq]
        (repeat' split) <;> first | exact shp_zero | exact shp_any | exact h0 | exact h1 | exact h2 | exact shp_num _ | contradiction
    · exact shp_zero
theorem operand_law {t : Int} {w : Vl} (h : Shp w) (hok : (d_fold_operand t w).2 = true) :
    ((decide (2 ≤ (d_fold_operand t w).1.k)) && (decide ((d_fold_operand t w).1.k ≤ 5))) = true ∧ ((w.k == 0 && (d_lathelaw15_value (d_fold_operand t w).1).k == 0) || (w.k == 3 && (d_lathelaw15_value (d_fold_operand t w).1).k != 0) || decide (w = d_lathelaw15_value (d_fold_operand t w).1)) = true := by
  obtain ⟨wk, wb, wl, wo⟩ := w
  rcases h with h | h | ⟨h1, h2, h3⟩ | ⟨h1, h2⟩
  · cases h; exact ⟨rfl, rfl⟩
  · cases h
    unfold d_fold_operand
    cases ht : (t != 65)
    · simp only [ht]; exact ⟨rfl, rfl⟩
    · simp only [ht]; exact ⟨rfl, rfl⟩
  · simp only at h1 h2 h3
    subst h1 h2 h3
    refine ⟨rfl, ?_⟩
    unfold d_fold_operand d_lathelaw15_value
    simp
  · simp only at h1 h2
    subst h1 h2
    revert hok
    unfold d_fold_operand
    cases hb : (wl == -1) <;> cases ho : (wo == 0) <;> cases hl : decide (0 ≤ wl) <;> simp only [hb, ho, hl] <;> intro hok
    all_goals first
      | (cases hok; done)
      | (simp at hb ho; subst hb ho; exact ⟨rfl, rfl⟩)
      | (simp at ho; subst ho; refine ⟨rfl, ?_⟩; unfold d_lathelaw15_value; simp)
theorem foldEvals_law (p : Ins) : d_lathelaw15_FoldEvals p = true := by
  unfold d_lathelaw15_FoldEvals
  cases decide (3 < (p.args.l.length : Int))
  · simp only [cond_false]
    have hR := R10_eq p p.args.l.length (((p.args.l.length : Int) - 0).toNat + 1) 0 [] (by omega) (by omega)
    rw [Int.natCast_zero, List.drop_zero, List.nil_append] at hR
    rw [letV_eq hR]
    simp only
    unfold foldI evalI
    cases hc : d_ir_Calm p.op
    · rfl
    · simp only [Bool.not_true, cond_false, Bool.true_and]
      cases hl : litsP p.args.l with
      | none => rfl
      | some vs =>
        have hv := litsP_map _ _ hl
        subst hv
        simp only
        have hv : ∀ x : Bool, x = false ∨ x = true := fun x => by cases x <;> simp
        rcases hv ((Pl.eval p.op p.t p.n p.f (p.args.l.map d_lathelaw15_value)).2 != 0) with he | he
        · have he' : ((Pl.eval p.op p.t p.n p.f (p.args.l.map d_lathelaw15_value)).2 == 0) = true := by simpa using he
          simp only [he, he', cond_false, Bool.true_and]
          rcases hv (d_fold_operand (d_ir_Result p) (Pl.eval p.op p.t p.n p.f (p.args.l.map d_lathelaw15_value)).1).2 with hok | hok
          · simp only [hok, Bool.not_false, cond_true]
            revert hok
            unfold d_fold_operand
            simp only [Bool.cond_eq_ite]
            (repeat' split) <;> intro h <;> first | rfl | (cases h; done)
          · have h := operand_law shp_eval hok
            simp only [hok, Bool.not_true, cond_false]
            rw [h.1, Bool.true_and]; exact h.2
        · simp only [he, cond_true]; rfl
  · rfl
theorem FoldEvals_S (p0 : Ins) : Spec Try.prog 4 [.agg (Dat.cells p0).toArray] (fun w => Dat.ok p0 w) (fun v _ => v = .bool true) := by
  have := lathelaw15_FoldEvals_S p0
  rw [foldEvals_law] at this; exact this
end Go.Proofs.Ytffimfmicapaaaa
