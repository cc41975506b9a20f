/- The reference of Eval: what its code computes. -/
import Derived.Test.YtffimfmicapaaaaPlT
namespace Go.Proofs.Ytffimfmicapaaaa
open Go.RowKit
set_option linter.unusedVariables false
set_option linter.unusedSimpArgs false
set_option maxRecDepth 100000
set_option maxHeartbeats 4000000
open Pl (Vl)
def d_latheref10_Eval_R6 (p0 : Ins) (p1 : SlD Vl) : Nat → (List Vl) → Int → List Vl × Int
  | 0, l7, x8 => (l7, x8)
  | k + 1, l7, x8 =>
   bif (decide (x8 < (p1.l.length : Int))) then
    d_latheref10_Eval_R6 p0 p1 k (l7 ++ [(d_latheref09_Norm (d_latheref10_kind p0 x8) (p1.l.getD (Int.toNat x8) Dat.d))]) (x8 + 1)
   else (l7, x8)
def d_latheref10_Eval (p0 : Ins) (p1 : SlD Vl) : Vl × Int :=
  bif (!(d_latheref10_such p0 (p1.l.length : Int))) then
   ((⟨0, 0, 0, 0⟩ : Vl), 3)
  else letV (d_latheref10_Eval_R6 p0 p1 (((p1.l.length : Int) - 0).toNat + 1) ([] : List Vl) 0) (fun (l7e, x8e) => bif (p0.op == 4) then
     (((d_latheref10_divided p0 (l7e.getD (Int.toNat 0) Dat.d) (l7e.getD (Int.toNat 1) Dat.d)).1), (d_latheref10_divided p0 (l7e.getD (Int.toNat 0) Dat.d) (l7e.getD (Int.toNat 1) Dat.d)).2)
    else bif (p0.op == 5) then
      (((d_latheref10_divided p0 (l7e.getD (Int.toNat 0) Dat.d) (l7e.getD (Int.toNat 1) Dat.d)).1), (d_latheref10_divided p0 (l7e.getD (Int.toNat 0) Dat.d) (l7e.getD (Int.toNat 1) Dat.d)).2)
     else bif (p0.op == 6) then
       (((d_latheref10_divided p0 (l7e.getD (Int.toNat 0) Dat.d) (l7e.getD (Int.toNat 1) Dat.d)).1), (d_latheref10_divided p0 (l7e.getD (Int.toNat 0) Dat.d) (l7e.getD (Int.toNat 1) Dat.d)).2)
      else bif (p0.op == 7) then
        (((d_latheref10_divided p0 (l7e.getD (Int.toNat 0) Dat.d) (l7e.getD (Int.toNat 1) Dat.d)).1), (d_latheref10_divided p0 (l7e.getD (Int.toNat 0) Dat.d) (l7e.getD (Int.toNat 1) Dat.d)).2)
       else bif (p0.op == 11) then
         (((d_latheref10_shifted p0 (l7e.getD (Int.toNat 0) Dat.d) (l7e.getD (Int.toNat 1) Dat.d)).1), (d_latheref10_shifted p0 (l7e.getD (Int.toNat 0) Dat.d) (l7e.getD (Int.toNat 1) Dat.d)).2)
        else bif (p0.op == 12) then
          (((d_latheref10_shifted p0 (l7e.getD (Int.toNat 0) Dat.d) (l7e.getD (Int.toNat 1) Dat.d)).1), (d_latheref10_shifted p0 (l7e.getD (Int.toNat 0) Dat.d) (l7e.getD (Int.toNat 1) Dat.d)).2)
         else bif (p0.op == 13) then
           (((d_latheref10_shifted p0 (l7e.getD (Int.toNat 0) Dat.d) (l7e.getD (Int.toNat 1) Dat.d)).1), (d_latheref10_shifted p0 (l7e.getD (Int.toNat 0) Dat.d) (l7e.getD (Int.toNat 1) Dat.d)).2)
          else bif (p0.op == 23) then
            ((d_latheref10_chosen (l7e.getD (Int.toNat 0) Dat.d) (l7e.getD (Int.toNat 1) Dat.d) (l7e.getD (Int.toNat 2) Dat.d)), 0)
           else bif (p0.op == 24) then
             bif ((l7e.getD (Int.toNat 0) Dat.d).k == 0) then
              (d_latheref10_Any, 0)
             else ((l7e.getD (Int.toNat 0) Dat.d), 0)
            else bif (p0.op == 20) then
              bif ((l7e.getD (Int.toNat 0) Dat.d).k != 1) then
               ((l7e.getD (Int.toNat 0) Dat.d), 0)
              else ((d_latheref10_number ((d_latheref01_Convert p0.op p0.n p0.t ((l7e.getD (Int.toNat 0) Dat.d).b)).1)), 0)
             else bif (p0.op == 21) then
               bif ((l7e.getD (Int.toNat 0) Dat.d).k != 1) then
                ((l7e.getD (Int.toNat 0) Dat.d), 0)
               else ((d_latheref10_number ((d_latheref01_Convert p0.op p0.n p0.t ((l7e.getD (Int.toNat 0) Dat.d).b)).1)), 0)
              else bif (p0.op == 22) then
                bif ((l7e.getD (Int.toNat 0) Dat.d).k != 1) then
                 ((l7e.getD (Int.toNat 0) Dat.d), 0)
                else ((d_latheref10_number ((d_latheref01_Convert p0.op p0.n p0.t ((l7e.getD (Int.toNat 0) Dat.d).b)).1)), 0)
               else (((d_latheref10_pair p0 (l7e.getD (Int.toNat 0) Dat.d) (l7e.getD (Int.toNat 1) Dat.d)).1), (d_latheref10_pair p0 (l7e.getD (Int.toNat 0) Dat.d) (l7e.getD (Int.toNat 1) Dat.d)).2))
theorem latheref10_Eval_S (p0 : Ins) (p1 : SlD Vl)  : Spec Try.prog 15 [.agg [.int .i64 p0.op, .int .i64 p0.reg, .int .i64 p0.t, .int .i64 p0.n, .int .i64 p0.f, .slice p0.args.a p0.args.l.length p0.args.cap, .slice p0.to.a p0.to.l.length p0.to.cap].toArray, .slice p1.a p1.l.length p1.cap] (fun w => Dat.ok p1 w) (fun v _ => v = Value.tuple #[Value.agg [.int .i64 (((d_latheref10_Eval p0 p1).1).k), .int .u64 (((d_latheref10_Eval p0 p1).1).b), .int .i64 (((d_latheref10_Eval p0 p1).1).bl), .int .i64 (((d_latheref10_Eval p0 p1).1).off)].toArray, Value.int .i64 (d_latheref10_Eval p0 p1).2]) := by
  refine Spec.enter Try.func15 rfl (n := 127) Try.ntmps15 (Nat.le_of_ble_eq_true rfl) (l := [(0, _, _), (1, _, _)]) rfl ?_
  intro S w
  refine SC.seq (fun K1 hK1 => ?_)
  refine SC.know (p := ∀ z ∈ p1.l, 0 ≤ z.b ∧ z.b < 18446744073709551616) (fun w h => fun z hz => (h.el z hz).rg0) (fun hpr => ?_)
  refine SC.region ?_
  refine SL.box (cs := [_, _, _, _, _, _, _]) rfl rfl rfl rfl rfl (fun b2 => ?_)
  refine SL.alloc (cs := [_, _, _, _]) Try.zeroValue35 rfl rfl rfl (fun b4 => ?_)
  refine SL.step (PS.assign rfl tt rfl rfl) ?_
  refine SL.keep (l' := [(4, _, _), (2, _, _), (1, _, _)]) ⟨rfl, rfl, rfl, trivial⟩ ?_
  refine SL.nil (SE.thenK hK1 (SC.seq (fun K2 hK2 => SC.region ?_)))
  refine SL.step (PS.load_own_agg (k := 1) (vs := [_, _, _, _, _, _, _]) rfl tt rfl rfl rfl rfl Try.isAgg25 Try.sizeOf25 rfl rfl) ?_
  refine SL.step (PS.move rfl tt rfl rfl) ?_
  refine SL.step (PS.len_slice rfl tt Try.underlying33 rfl rfl) ?_
  refine SL.know (p := p1.l.length ≤ 9223372036854775807) (fun w h => ((h)).le) (fun hle4 => ?_)
  refine SL.callV (vs := [_, _]) Try.call25 ⟨⟨_, rfl, tt⟩, ⟨_, rfl, tt⟩, trivial⟩ (fun hg => latheref10_such_V p0 (p1.l.length : Int) ) rfl rfl ?_
  refine SL.step (PS.assign rfl tt rfl rfl) ?_
  refine SL.keep (l' := [(6, _, _), (4, _, _), (2, _, _), (1, _, _)]) ⟨rfl, rfl, rfl, rfl, trivial⟩ ?_
  refine SL.nil (SE.thenK hK2 (SC.seq (fun K3 hK3 => SC.seq (fun K4 hK4 => SC.region ?_))))
  refine SL.step (PS.move rfl tt rfl rfl) ?_
  refine SL.step (PS.not rfl tt rfl rfl) ?_
  refine SL.keep (l' := [(16, _, _), (4, _, _), (2, _, _), (1, _, _)]) ⟨rfl, rfl, rfl, rfl, trivial⟩ ?_
  refine SL.nil (SE.thenK hK4 ?_)
  refine SC.cond rfl (fun c16 => ?_) (fun c16 => ?_)
  ·
   refine SC.seq (fun K5 hK5 => SC.region ?_)
   refine SL.step (PS.build (us := []) (vs := [_, _, _, _]) trivial Try.underlying35 Try.zeroValue35 (Try.places_35 Try.underlying35) rfl rfl rfl) ?_
   refine SL.store_own (k := 0) (own' := [_, _]) (cs' := [_, _, _, _]) rfl rfl rfl rfl rfl rfl rfl Try.sizeOf35 rfl (Nat.le_of_ble_eq_true rfl) rfl rfl rfl rfl ?_
   refine SL.step (PS.assign rfl tt rfl rfl) ?_
   refine SL.keep (l' := [(5, _, _), (4, _, _)]) ⟨rfl, rfl, trivial⟩ ?_
   refine SL.nil (SE.thenK hK5 (SC.ret (SE.then_ret ?_)))
   exact finct (k := 0) rfl Try.isAgg35 Try.sizeOf35 rfl rfl rfl rfl rfl rfl (fun _ _ => congrArg (fun z : Vl × Int => Value.tuple #[Value.agg [.int .i64 z.1.k, .int .u64 z.1.b, .int .i64 z.1.bl, .int .i64 z.1.off].toArray, Value.int .i64 z.2]) (show (d_latheref10_Eval p0 p1) = (((⟨0, 0, 0, 0⟩ : Vl), 3) : Vl × Int) from (bifT c16)).symm)
  ·
   have c16n := c16
   try simp only [Bool.and_eq_true, Bool.or_eq_true, decide_eq_true_eq, Bool.true_and, Bool.not_eq_true', Bool.not_eq_false', beq_iff_eq, bne_iff_ne, decide_eq_false_iff_not, beq_eq_false_iff_ne, bne_eq_false_iff_eq, ne_eq, Bool.or_eq_false_iff, Bool.and_eq_false_iff] at c16n
   have har := Pl.arity_of (i := p0) (k := p1.l.length) c16n
   have hao := Pl.arity_omega p0.op
   have hle3 : p1.l.length ≤ 3 := by omega
   refine SC.skip (SE.thenK hK3 (SC.seq (fun K6 hK6 => SC.region ?_)))
   refine SL.step (PS.assign rfl tt rfl rfl) ?_
   refine SL.row0 (Dat.sz Vl) (Dat.cells (α := Vl)) ?_
   refine SL.keep (l' := [(7, _, _), (4, _, _), (2, _, _), (1, _, _)]) ⟨rfl, rfl, rfl, rfl, trivial⟩ ?_
   refine SL.nil (SE.thenK hK6 (SC.seq (fun K7 hK7 => SC.seq (fun K8 hK8 => SC.region ?_))))
   refine SL.step (PS.assign rfl tt rfl rfl) ?_
   refine SL.nil (SE.thenK hK8 (SC.block ?_))
   refine SC.loopF (fun ((k1, l7, x8, o7, cap7) : Nat × List Vl × Int × Option Nat × Nat) => [(8, true, .int .i64 x8), (7, true, .slice (rowA o7) l7.length cap7), (4, true, .pointer (some ⟨b4, 0, none⟩)), (2, true, .pointer (some ⟨b2, 0, none⟩)), (1, true, .slice p1.a p1.l.length p1.cap)]) (fun ((k1, l7, x8, o7, cap7) : Nat × List Vl × Int × Option Nat × Nat) => [Rw o7 l7 cap7, .blk b4 [.int .i64 0, .int .u64 0, .int .i64 0, .int .i64 0], .blk b2 [.int .i64 p0.op, .int .i64 p0.reg, .int .i64 p0.t, .int .i64 p0.n, .int .i64 p0.f, .slice p0.args.a p0.args.l.length p0.args.cap, .slice p0.to.a p0.to.l.length p0.to.cap]]) (fun ((k1, l7, x8, o7, cap7) : Nat × List Vl × Int × Option Nat × Nat) w => ((d_latheref10_Eval_R6 p0 p1 k1 l7 x8 = d_latheref10_Eval_R6 p0 p1 (((p1.l.length : Int) - 0).toNat + 1) ([] : List Vl) 0) ∧ (((p1.l.length : Int) - x8).toNat < k1) ∧ (0 ≤ x8) ∧ (x8 ≤ (p1.l.length : Int)) ∧ ((l7.length : Int) = x8) ∧ (∀ z ∈ l7, 0 ≤ z.b ∧ z.b < 18446744073709551616)) ∧ ((∀ x ∈ l7, Dat.ok x w))) (fun q => q.1) (((p1.l.length : Int) - 0).toNat + 1, ([] : List Vl), 0, none, 0) ⟨rfl, rfl, rfl, rfl, rfl, trivial⟩ rfl (fun w h => ⟨⟨rfl, Nat.lt_succ_self _, by omega, by omega, rfl, (fun z hz => nomatch hz)⟩, (fun x hx => nomatch hx)⟩) (fun q => ?_)
   obtain ⟨k1, l7, x8, o7, cap7⟩ := q
   dsimp only
   refine SC.know (fun w h => h.2.1) (fun hp => ?_)
   obtain ⟨hL1, hm1, hi1_0, hi1_1, hi1_2, hi1_3⟩ := hp
   obtain ⟨k1p, rfl⟩ : ∃ j, k1 = j + 1 := ⟨k1 - 1, by omega⟩
   refine SC.seq (fun K9 hK9 => SC.seq (fun K10 hK10 => SC.region ?_))
   refine SL.step (PS.move rfl tt rfl rfl) ?_
   refine SL.step (PS.move rfl tt rfl rfl) ?_
   refine SL.step (PS.len_slice rfl tt Try.underlying33 rfl rfl) ?_
   refine SL.know (p := p1.l.length ≤ 9223372036854775807) (fun w h => ((h.1)).le) (fun hle6 => ?_)
   refine SL.step (PS.lss rfl tt rfl tt rfl rfl) ?_
   refine SL.keep (l' := [(21, _, _), (8, _, _), (7, _, _), (4, _, _), (2, _, _), (1, _, _)]) ⟨rfl, rfl, rfl, rfl, rfl, rfl, trivial⟩ ?_
   refine SL.nil (SE.thenK hK10 ?_)
   refine SC.cond rfl (fun c21 => ?_) (fun c21 => ?_)
   ·
    have c21n := c21
    try simp only [Bool.and_eq_true, Bool.or_eq_true, decide_eq_true_eq, Bool.true_and, Bool.not_eq_true', Bool.not_eq_false', beq_iff_eq, bne_iff_ne, decide_eq_false_iff_not, beq_eq_false_iff_ne, bne_eq_false_iff_eq, ne_eq, Bool.or_eq_false_iff, Bool.and_eq_false_iff] at c21n
    refine SC.skip (SE.thenK hK9 (SC.seq (fun K11 hK11 => SC.block ?_)))
    refine SC.draw (S := SP _ _ _) 10 (by kernel_rfl) (by kernel_rfl) (fun _ h => h) ?_
    refine SD.take 0 rfl rfl (by kernel_rfl) (PS.move rfl tt rfl rfl) ?_
    refine SD.take 1 rfl rfl (by kernel_rfl) (PS.load_own_agg (k := 2) (vs := [_, _, _, _, _, _, _]) rfl tt rfl rfl rfl rfl Try.isAgg25 Try.sizeOf25 rfl rfl) ?_
    refine SD.take 2 rfl rfl (by kernel_rfl) (PS.move rfl tt rfl rfl) ?_
    refine SD.take 4 rfl rfl (by kernel_rfl) (PS.move rfl tt rfl rfl) ?_
    refine SD.take 5 rfl rfl (by kernel_rfl) (PS.move rfl tt rfl rfl) ?_
    refine SD.take 6 rfl rfl (by kernel_rfl) (PS.indexS (α := Vl) (xs := p1.l) rfl tt rfl tt Try.underlying33 Try.sizeOf35 (fun w hw hg => ((hw.now.1)).sl) rfl (fun hg => by first | omega | (simp only [List.length_cons, List.length_nil]; omega) | (try simp only [Bool.and_eq_true, Bool.or_eq_true, decide_eq_true_eq, Bool.true_and, Bool.not_eq_true', beq_iff_eq, bne_iff_ne, decide_eq_false_iff_not, beq_eq_false_iff_ne, ne_eq] at hg; omega)) rfl rfl) ?_
    refine SD.take 7 rfl rfl (by kernel_rfl) (PS.loadS (α := Vl) (xs := p1.l) (m := x8) (vs := [.int .i64 ((p1.l.getD (Int.toNat x8) Dat.d).k), .int .u64 ((p1.l.getD (Int.toNat x8) Dat.d).b), .int .i64 ((p1.l.getD (Int.toNat x8) Dat.d).bl), .int .i64 ((p1.l.getD (Int.toNat x8) Dat.d).off)]) rfl tt (fun w hw hg => ((hw.now.1)).sl) (fun hg => by first | omega | (simp only [List.length_cons, List.length_nil]; omega) | (try simp only [Bool.and_eq_true, Bool.or_eq_true, decide_eq_true_eq, Bool.true_and, Bool.not_eq_true', beq_iff_eq, bne_iff_ne, decide_eq_false_iff_not, beq_eq_false_iff_ne, ne_eq] at hg; omega)) rfl Try.isAgg35 Try.sizeOf35 rfl rfl) ?_
    refine SD.one 3 rfl (by kernel_rfl) (fun inv3 => ?_)
    refine SL.callV (vs := [_, _]) Try.call27 ⟨⟨_, rfl, tt⟩, ⟨_, rfl, tt⟩, trivial⟩ (fun hg => latheref10_kind_V p0 x8 ) rfl rfl ?_
    refine SL.nil ?_
    refine SE.next (fun _ h => h.drop (List.Sublist.refl _) (fun _ h => h)) inv3 ?_
    refine SD.one 8 rfl (by kernel_rfl) (fun inv8 => ?_)
    refine SL.callR (vs := [_, _]) Try.call26 ⟨⟨_, rfl, tt⟩, ⟨_, rfl, tt⟩, trivial⟩ (fun hg => latheref09_Norm_S (d_latheref10_kind p0 x8) (p1.l.getD (Int.toNat x8) Dat.d) ) (fun w h hok hg => (((h.1)).at (by omega))) rfl rfl ?_
    refine SL.nil ?_
    refine SE.next (fun _ h => h.drop (List.Sublist.refl _) (fun _ h => h)) inv8 ?_
    refine SD.one 9 rfl (by kernel_rfl) (fun inv9 => ?_)
    refine SL.buildSlice (us := [(0, _)]) (cs := [_, _, _, _]) ⟨rfl, ⟨_, rfl, tt⟩, trivial⟩ Try.underlying33 Try.sizeOf35 Try.zeroValue35 ⟨rfl, rfl, _, rfl, trivial⟩ rfl (by decide) rfl rfl (fun b33 => ?_)
    refine SL.nil ?_
    refine SE.next (fun _ h => h.drop (List.Sublist.cons _ (List.Sublist.refl _)) (fun _ h => h)) inv9 ?_
    clear inv3 inv8 inv9
    refine SD.tail (by kernel_rfl) (os := [_, _]) rfl ?_
    refine SL.append1 (k := 0) (xs := l7) (y := (d_latheref09_Norm (d_latheref10_kind p0 x8) (p1.l.getD (Int.toNat x8) Dat.d))) (cells := Dat.cells) rfl rfl rfl rfl Dat.len Dat.one Try.underlying33 Try.rowinfo_35 (by omega) (by omega) rfl rfl (fun o34 c34 => ?_)
    refine SL.own_eq (own' := [_, _, _]) rfl ?_
    refine SL.step (PS.assign rfl tt rfl rfl) ?_
    refine SL.keep (l' := [(7, _, _), (8, _, _), (4, _, _), (2, _, _), (1, _, _)]) ⟨rfl, rfl, rfl, rfl, rfl, trivial⟩ ?_
    refine SL.nil (SE.calm (SE.block_normal (SE.thenK hK11 (SC.region ?_))))
    refine SL.step (PS.move rfl tt rfl rfl) ?_
    refine SL.step (PS.add_in rfl tt rfl tt (fun _ => wr_i64 (by omega)) rfl rfl) ?_
    refine SL.step (PS.assign rfl tt rfl rfl) ?_
    refine SL.keep (l' := [(8, _, _), (7, _, _), (4, _, _), (2, _, _), (1, _, _)]) ⟨rfl, rfl, rfl, rfl, rfl, trivial⟩ ?_
    refine SL.nil ?_
    exact SE.againF (k1p, (l7 ++ [(d_latheref09_Norm (d_latheref10_kind p0 x8) (p1.l.getD (Int.toNat x8) Dat.d))]), (x8 + 1), o34, c34) ⟨rfl, rfl, rfl, rfl, rfl, trivial⟩ rfl (fun w h => And.intro (h.1) (And.intro ⟨((show d_latheref10_Eval_R6 p0 p1 (k1p + 1) l7 x8 = d_latheref10_Eval_R6 p0 p1 k1p (l7 ++ [(d_latheref09_Norm (d_latheref10_kind p0 x8) (p1.l.getD (Int.toNat x8) Dat.d))]) (x8 + 1) from (bifT c21)).symm.trans hL1), by (try dsimp only); omega, by (try dsimp only); omega, by (try dsimp only); omega, by simp; omega, all_snoc hi1_3 (Pl.normref_rg (hpr _ (getD_mem (by omega))))⟩ ((all_snoc ((h.2.2)) (⟨(Pl.normref_rg (hpr _ (getD_mem (by omega))))⟩))))) (Nat.lt_succ_self _)
   ·
    have c21n := c21
    try simp only [Bool.and_eq_true, Bool.or_eq_true, decide_eq_true_eq, Bool.true_and, Bool.not_eq_true', Bool.not_eq_false', beq_iff_eq, bne_iff_ne, decide_eq_false_iff_not, beq_eq_false_iff_ne, bne_eq_false_iff_eq, ne_eq, Bool.or_eq_false_iff, Bool.and_eq_false_iff] at c21n
    have hll : l7.length = p1.l.length := by omega
    refine SC.exit (SE.then_exit (SE.then_exit (SE.block_same (SE.thenK hK7 (SC.seq (fun K12 hK12 => SC.seq (fun K13 hK13 => SC.region ?_)))))))
    refine SL.step (PS.fieldAddr rfl tt Try.fieldAt_25_0 rfl rfl) ?_
    refine SL.step (PS.load_own (k := 2) rfl tt rfl rfl rfl Try.isAgg3 rfl rfl) ?_
    refine SL.keep (l' := [(36, _, _), (7, _, _), (4, _, _), (2, _, _)]) ⟨rfl, rfl, rfl, rfl, trivial⟩ ?_
    refine SL.nil (SE.thenK hK13 (SC.block (SC.seq (fun K14 hK14 => SC.seq (fun K15 hK15 => SC.region ?_)))))
    refine SL.step (PS.eql rfl tt rfl tt rfl rfl) ?_
    refine SL.step (PS.assign rfl tt rfl rfl) ?_
    refine SL.keep (l' := [(37, _, _), (36, _, _), (7, _, _), (4, _, _), (2, _, _)]) ⟨rfl, rfl, rfl, rfl, rfl, trivial⟩ ?_
    refine SL.nil (SE.thenK hK15 ?_)
    refine SC.cond rfl (fun c37 => ?_) (fun c37 => ?_)
    ·
     have c37n := c37
     try simp only [Bool.and_eq_true, Bool.or_eq_true, decide_eq_true_eq, Bool.true_and, Bool.not_eq_true', Bool.not_eq_false', beq_iff_eq, bne_iff_ne, decide_eq_false_iff_not, beq_eq_false_iff_ne, bne_eq_false_iff_eq, ne_eq, Bool.or_eq_false_iff, Bool.and_eq_false_iff] at c37n
     refine SC.skip (SE.thenK hK14 (SC.cond_t rfl c37 (SC.seq (fun K16 hK16 => ?_))))
     have hr1 := hi1_3 _ (getD_mem (d := Dat.d) (i := Int.toNat 1) (show Int.toNat 1 < l7.length by omega))
     refine SC.draw (S := SP _ _ _) 10 (by kernel_rfl) (by kernel_rfl) (fun _ h => h) ?_
     refine SD.take 0 rfl rfl (by kernel_rfl) (PS.load_own_agg (k := 2) (vs := [_, _, _, _, _, _, _]) rfl tt rfl rfl rfl rfl Try.isAgg25 Try.sizeOf25 rfl rfl) ?_
     refine SD.take 1 rfl rfl (by kernel_rfl) (PS.move rfl tt rfl rfl) ?_
     refine SD.take 2 rfl rfl (by kernel_rfl) (PS.indexS (α := Vl) (xs := l7) rfl tt rfl tt Try.underlying33 Try.sizeOf35 (fun w hw _ => Rw.sl (hw.ok _ (mem_nth (k := 0) rfl))) rfl (fun hg => by first | omega | (simp only [List.length_cons, List.length_nil]; omega) | (try simp only [Bool.and_eq_true, Bool.or_eq_true, decide_eq_true_eq, Bool.true_and, Bool.not_eq_true', beq_iff_eq, bne_iff_ne, decide_eq_false_iff_not, beq_eq_false_iff_ne, ne_eq] at hg; omega)) rfl rfl) ?_
     refine SD.take 3 rfl rfl (by kernel_rfl) (PS.loadS (α := Vl) (xs := l7) (m := 0) (vs := [.int .i64 ((l7.getD (Int.toNat 0) Dat.d).k), .int .u64 ((l7.getD (Int.toNat 0) Dat.d).b), .int .i64 ((l7.getD (Int.toNat 0) Dat.d).bl), .int .i64 ((l7.getD (Int.toNat 0) Dat.d).off)]) rfl tt (fun w hw _ => Rw.sl (hw.ok _ (mem_nth (k := 0) rfl))) (fun hg => by first | omega | (simp only [List.length_cons, List.length_nil]; omega) | (try simp only [Bool.and_eq_true, Bool.or_eq_true, decide_eq_true_eq, Bool.true_and, Bool.not_eq_true', beq_iff_eq, bne_iff_ne, decide_eq_false_iff_not, beq_eq_false_iff_ne, ne_eq] at hg; omega)) rfl Try.isAgg35 Try.sizeOf35 rfl rfl) ?_
     refine SD.take 4 rfl rfl (by kernel_rfl) (PS.move rfl tt rfl rfl) ?_
     refine SD.take 5 rfl rfl (by kernel_rfl) (PS.indexS (α := Vl) (xs := l7) rfl tt rfl tt Try.underlying33 Try.sizeOf35 (fun w hw _ => Rw.sl (hw.ok _ (mem_nth (k := 0) rfl))) rfl (fun hg => by first | omega | (simp only [List.length_cons, List.length_nil]; omega) | (try simp only [Bool.and_eq_true, Bool.or_eq_true, decide_eq_true_eq, Bool.true_and, Bool.not_eq_true', beq_iff_eq, bne_iff_ne, decide_eq_false_iff_not, beq_eq_false_iff_ne, ne_eq] at hg; omega)) rfl rfl) ?_
     refine SD.take 6 rfl rfl (by kernel_rfl) (PS.loadS (α := Vl) (xs := l7) (m := 1) (vs := [.int .i64 ((l7.getD (Int.toNat 1) Dat.d).k), .int .u64 ((l7.getD (Int.toNat 1) Dat.d).b), .int .i64 ((l7.getD (Int.toNat 1) Dat.d).bl), .int .i64 ((l7.getD (Int.toNat 1) Dat.d).off)]) rfl tt (fun w hw _ => Rw.sl (hw.ok _ (mem_nth (k := 0) rfl))) (fun hg => by first | omega | (simp only [List.length_cons, List.length_nil]; omega) | (try simp only [Bool.and_eq_true, Bool.or_eq_true, decide_eq_true_eq, Bool.true_and, Bool.not_eq_true', beq_iff_eq, bne_iff_ne, decide_eq_false_iff_not, beq_eq_false_iff_ne, ne_eq] at hg; omega)) rfl Try.isAgg35 Try.sizeOf35 rfl rfl) ?_
     refine SD.one 7 rfl (by kernel_rfl) (fun inv7 => ?_)
     refine SL.callV (vs := [_, _, _]) Try.call28 ⟨⟨_, rfl, tt⟩, ⟨_, rfl, tt⟩, ⟨_, rfl, tt⟩, trivial⟩ (fun hg => latheref10_divided_V p0 (l7.getD (Int.toNat 0) Dat.d) (l7.getD (Int.toNat 1) Dat.d) (by omega)) rfl rfl ?_
     refine SL.nil ?_
     refine SE.next (fun _ h => h.drop (List.Sublist.refl _) (fun _ h => h)) inv7 ?_
     refine SD.take 8 rfl rfl (by kernel_rfl) (PS.extract rfl tt rfl rfl rfl) ?_
     refine SD.take 9 rfl rfl (by kernel_rfl) (PS.extract rfl tt rfl rfl rfl) ?_
     clear inv7
     refine SD.tail (by kernel_rfl) (os := [_, _]) rfl ?_
     refine SL.store_own (k := 1) (own' := [_, _, _]) (cs' := [_, _, _, _]) rfl rfl rfl rfl rfl rfl rfl Try.sizeOf35 rfl (Nat.le_of_ble_eq_true rfl) rfl rfl rfl rfl ?_
     refine SL.step (PS.assign rfl tt rfl rfl) ?_
     refine SL.keep (l' := [(5, _, _), (4, _, _)]) ⟨rfl, rfl, trivial⟩ ?_
     refine SL.nil (SE.calm (SE.thenK hK16 (SC.ret (SE.block_ret (SE.then_ret ?_)))))
     exact finct (k := 1) rfl Try.isAgg35 Try.sizeOf35 rfl rfl rfl rfl rfl rfl (fun _ _ => congrArg (fun z : Vl × Int => Value.tuple #[Value.agg [.int .i64 z.1.k, .int .u64 z.1.b, .int .i64 z.1.bl, .int .i64 z.1.off].toArray, Value.int .i64 z.2]) (show (d_latheref10_Eval p0 p1) = ((((d_latheref10_divided p0 (l7.getD (Int.toNat 0) Dat.d) (l7.getD (Int.toNat 1) Dat.d)).1), (d_latheref10_divided p0 (l7.getD (Int.toNat 0) Dat.d) (l7.getD (Int.toNat 1) Dat.d)).2) : Vl × Int) from ((bifF c16).trans ((letV_eq (hL1.symm.trans (show d_latheref10_Eval_R6 p0 p1 (k1p + 1) l7 x8 = (l7, x8) from (bifF c21)))).trans (bifT c37)))).symm)
    ·
     have c37n := c37
     try simp only [Bool.and_eq_true, Bool.or_eq_true, decide_eq_true_eq, Bool.true_and, Bool.not_eq_true', Bool.not_eq_false', beq_iff_eq, bne_iff_ne, decide_eq_false_iff_not, beq_eq_false_iff_ne, bne_eq_false_iff_eq, ne_eq, Bool.or_eq_false_iff, Bool.and_eq_false_iff] at c37n
     refine SC.seq (fun K17 hK17 => SC.region ?_)
     refine SL.step (PS.eql rfl tt rfl tt rfl rfl) ?_
     refine SL.step (PS.assign rfl tt rfl rfl) ?_
     refine SL.keep (l' := [(37, _, _), (36, _, _), (7, _, _), (4, _, _), (2, _, _)]) ⟨rfl, rfl, rfl, rfl, rfl, trivial⟩ ?_
     refine SL.nil (SE.thenK hK17 ?_)
     refine SC.cond rfl (fun c37a => ?_) (fun c37a => ?_)
     ·
      have c37an := c37a
      try simp only [Bool.and_eq_true, Bool.or_eq_true, decide_eq_true_eq, Bool.true_and, Bool.not_eq_true', Bool.not_eq_false', beq_iff_eq, bne_iff_ne, decide_eq_false_iff_not, beq_eq_false_iff_ne, bne_eq_false_iff_eq, ne_eq, Bool.or_eq_false_iff, Bool.and_eq_false_iff] at c37an
      refine SC.skip (SE.thenK hK14 (SC.cond_t rfl c37a (SC.seq (fun K18 hK18 => ?_))))
      have hr1 := hi1_3 _ (getD_mem (d := Dat.d) (i := Int.toNat 1) (show Int.toNat 1 < l7.length by omega))
      refine SC.draw (S := SP _ _ _) 10 (by kernel_rfl) (by kernel_rfl) (fun _ h => h) ?_
      refine SD.take 0 rfl rfl (by kernel_rfl) (PS.load_own_agg (k := 2) (vs := [_, _, _, _, _, _, _]) rfl tt rfl rfl rfl rfl Try.isAgg25 Try.sizeOf25 rfl rfl) ?_
      refine SD.take 1 rfl rfl (by kernel_rfl) (PS.move rfl tt rfl rfl) ?_
      refine SD.take 2 rfl rfl (by kernel_rfl) (PS.indexS (α := Vl) (xs := l7) rfl tt rfl tt Try.underlying33 Try.sizeOf35 (fun w hw _ => Rw.sl (hw.ok _ (mem_nth (k := 0) rfl))) rfl (fun hg => by first | omega | (simp only [List.length_cons, List.length_nil]; omega) | (try simp only [Bool.and_eq_true, Bool.or_eq_true, decide_eq_true_eq, Bool.true_and, Bool.not_eq_true', beq_iff_eq, bne_iff_ne, decide_eq_false_iff_not, beq_eq_false_iff_ne, ne_eq] at hg; omega)) rfl rfl) ?_
      refine SD.take 3 rfl rfl (by kernel_rfl) (PS.loadS (α := Vl) (xs := l7) (m := 0) (vs := [.int .i64 ((l7.getD (Int.toNat 0) Dat.d).k), .int .u64 ((l7.getD (Int.toNat 0) Dat.d).b), .int .i64 ((l7.getD (Int.toNat 0) Dat.d).bl), .int .i64 ((l7.getD (Int.toNat 0) Dat.d).off)]) rfl tt (fun w hw _ => Rw.sl (hw.ok _ (mem_nth (k := 0) rfl))) (fun hg => by first | omega | (simp only [List.length_cons, List.length_nil]; omega) | (try simp only [Bool.and_eq_true, Bool.or_eq_true, decide_eq_true_eq, Bool.true_and, Bool.not_eq_true', beq_iff_eq, bne_iff_ne, decide_eq_false_iff_not, beq_eq_false_iff_ne, ne_eq] at hg; omega)) rfl Try.isAgg35 Try.sizeOf35 rfl rfl) ?_
      refine SD.take 4 rfl rfl (by kernel_rfl) (PS.move rfl tt rfl rfl) ?_
      refine SD.take 5 rfl rfl (by kernel_rfl) (PS.indexS (α := Vl) (xs := l7) rfl tt rfl tt Try.underlying33 Try.sizeOf35 (fun w hw _ => Rw.sl (hw.ok _ (mem_nth (k := 0) rfl))) rfl (fun hg => by first | omega | (simp only [List.length_cons, List.length_nil]; omega) | (try simp only [Bool.and_eq_true, Bool.or_eq_true, decide_eq_true_eq, Bool.true_and, Bool.not_eq_true', beq_iff_eq, bne_iff_ne, decide_eq_false_iff_not, beq_eq_false_iff_ne, ne_eq] at hg; omega)) rfl rfl) ?_
      refine SD.take 6 rfl rfl (by kernel_rfl) (PS.loadS (α := Vl) (xs := l7) (m := 1) (vs := [.int .i64 ((l7.getD (Int.toNat 1) Dat.d).k), .int .u64 ((l7.getD (Int.toNat 1) Dat.d).b), .int .i64 ((l7.getD (Int.toNat 1) Dat.d).bl), .int .i64 ((l7.getD (Int.toNat 1) Dat.d).off)]) rfl tt (fun w hw _ => Rw.sl (hw.ok _ (mem_nth (k := 0) rfl))) (fun hg => by first | omega | (simp only [List.length_cons, List.length_nil]; omega) | (try simp only [Bool.and_eq_true, Bool.or_eq_true, decide_eq_true_eq, Bool.true_and, Bool.not_eq_true', beq_iff_eq, bne_iff_ne, decide_eq_false_iff_not, beq_eq_false_iff_ne, ne_eq] at hg; omega)) rfl Try.isAgg35 Try.sizeOf35 rfl rfl) ?_
      refine SD.one 7 rfl (by kernel_rfl) (fun inv7 => ?_)
      refine SL.callV (vs := [_, _, _]) Try.call28 ⟨⟨_, rfl, tt⟩, ⟨_, rfl, tt⟩, ⟨_, rfl, tt⟩, trivial⟩ (fun hg => latheref10_divided_V p0 (l7.getD (Int.toNat 0) Dat.d) (l7.getD (Int.toNat 1) Dat.d) (by omega)) rfl rfl ?_
      refine SL.nil ?_
      refine SE.next (fun _ h => h.drop (List.Sublist.refl _) (fun _ h => h)) inv7 ?_
      refine SD.take 8 rfl rfl (by kernel_rfl) (PS.extract rfl tt rfl rfl rfl) ?_
      refine SD.take 9 rfl rfl (by kernel_rfl) (PS.extract rfl tt rfl rfl rfl) ?_
      clear inv7
      refine SD.tail (by kernel_rfl) (os := [_, _]) rfl ?_
      refine SL.store_own (k := 1) (own' := [_, _, _]) (cs' := [_, _, _, _]) rfl rfl rfl rfl rfl rfl rfl Try.sizeOf35 rfl (Nat.le_of_ble_eq_true rfl) rfl rfl rfl rfl ?_
      refine SL.step (PS.assign rfl tt rfl rfl) ?_
      refine SL.keep (l' := [(5, _, _), (4, _, _)]) ⟨rfl, rfl, trivial⟩ ?_
      refine SL.nil (SE.calm (SE.thenK hK18 (SC.ret (SE.block_ret (SE.then_ret ?_)))))
      exact finct (k := 1) rfl Try.isAgg35 Try.sizeOf35 rfl rfl rfl rfl rfl rfl (fun _ _ => congrArg (fun z : Vl × Int => Value.tuple #[Value.agg [.int .i64 z.1.k, .int .u64 z.1.b, .int .i64 z.1.bl, .int .i64 z.1.off].toArray, Value.int .i64 z.2]) (show (d_latheref10_Eval p0 p1) = ((((d_latheref10_divided p0 (l7.getD (Int.toNat 0) Dat.d) (l7.getD (Int.toNat 1) Dat.d)).1), (d_latheref10_divided p0 (l7.getD (Int.toNat 0) Dat.d) (l7.getD (Int.toNat 1) Dat.d)).2) : Vl × Int) from ((bifF c16).trans ((letV_eq (hL1.symm.trans (show d_latheref10_Eval_R6 p0 p1 (k1p + 1) l7 x8 = (l7, x8) from (bifF c21)))).trans ((bifF c37).trans (bifT c37a))))).symm)
     ·
      have c37an := c37a
      try simp only [Bool.and_eq_true, Bool.or_eq_true, decide_eq_true_eq, Bool.true_and, Bool.not_eq_true', Bool.not_eq_false', beq_iff_eq, bne_iff_ne, decide_eq_false_iff_not, beq_eq_false_iff_ne, bne_eq_false_iff_eq, ne_eq, Bool.or_eq_false_iff, Bool.and_eq_false_iff] at c37an
      refine SC.seq (fun K19 hK19 => SC.region ?_)
      refine SL.step (PS.eql rfl tt rfl tt rfl rfl) ?_
      refine SL.step (PS.assign rfl tt rfl rfl) ?_
      refine SL.keep (l' := [(37, _, _), (36, _, _), (7, _, _), (4, _, _), (2, _, _)]) ⟨rfl, rfl, rfl, rfl, rfl, trivial⟩ ?_
      refine SL.nil (SE.thenK hK19 ?_)
      refine SC.cond rfl (fun c37b => ?_) (fun c37b => ?_)
      ·
       have c37bn := c37b
       try simp only [Bool.and_eq_true, Bool.or_eq_true, decide_eq_true_eq, Bool.true_and, Bool.not_eq_true', Bool.not_eq_false', beq_iff_eq, bne_iff_ne, decide_eq_false_iff_not, beq_eq_false_iff_ne, bne_eq_false_iff_eq, ne_eq, Bool.or_eq_false_iff, Bool.and_eq_false_iff] at c37bn
       refine SC.skip (SE.thenK hK14 (SC.cond_t rfl c37b (SC.seq (fun K20 hK20 => ?_))))
       have hr1 := hi1_3 _ (getD_mem (d := Dat.d) (i := Int.toNat 1) (show Int.toNat 1 < l7.length by omega))
       refine SC.draw (S := SP _ _ _) 10 (by kernel_rfl) (by kernel_rfl) (fun _ h => h) ?_
       refine SD.take 0 rfl rfl (by kernel_rfl) (PS.load_own_agg (k := 2) (vs := [_, _, _, _, _, _, _]) rfl tt rfl rfl rfl rfl Try.isAgg25 Try.sizeOf25 rfl rfl) ?_
       refine SD.take 1 rfl rfl (by kernel_rfl) (PS.move rfl tt rfl rfl) ?_
       refine SD.take 2 rfl rfl (by kernel_rfl) (PS.indexS (α := Vl) (xs := l7) rfl tt rfl tt Try.underlying33 Try.sizeOf35 (fun w hw _ => Rw.sl (hw.ok _ (mem_nth (k := 0) rfl))) rfl (fun hg => by first | omega | (simp only [List.length_cons, List.length_nil]; omega) | (try simp only [Bool.and_eq_true, Bool.or_eq_true, decide_eq_true_eq, Bool.true_and, Bool.not_eq_true', beq_iff_eq, bne_iff_ne, decide_eq_false_iff_not, beq_eq_false_iff_ne, ne_eq] at hg; omega)) rfl rfl) ?_
       refine SD.take 3 rfl rfl (by kernel_rfl) (PS.loadS (α := Vl) (xs := l7) (m := 0) (vs := [.int .i64 ((l7.getD (Int.toNat 0) Dat.d).k), .int .u64 ((l7.getD (Int.toNat 0) Dat.d).b), .int .i64 ((l7.getD (Int.toNat 0) Dat.d).bl), .int .i64 ((l7.getD (Int.toNat 0) Dat.d).off)]) rfl tt (fun w hw _ => Rw.sl (hw.ok _ (mem_nth (k := 0) rfl))) (fun hg => by first | omega | (simp only [List.length_cons, List.length_nil]; omega) | (try simp only [Bool.and_eq_true, Bool.or_eq_true, decide_eq_true_eq, Bool.true_and, Bool.not_eq_true', beq_iff_eq, bne_iff_ne, decide_eq_false_iff_not, beq_eq_false_iff_ne, ne_eq] at hg; omega)) rfl Try.isAgg35 Try.sizeOf35 rfl rfl) ?_
       refine SD.take 4 rfl rfl (by kernel_rfl) (PS.move rfl tt rfl rfl) ?_
       refine SD.take 5 rfl rfl (by kernel_rfl) (PS.indexS (α := Vl) (xs := l7) rfl tt rfl tt Try.underlying33 Try.sizeOf35 (fun w hw _ => Rw.sl (hw.ok _ (mem_nth (k := 0) rfl))) rfl (fun hg => by first | omega | (simp only [List.length_cons, List.length_nil]; omega) | (try simp only [Bool.and_eq_true, Bool.or_eq_true, decide_eq_true_eq, Bool.true_and, Bool.not_eq_true', beq_iff_eq, bne_iff_ne, decide_eq_false_iff_not, beq_eq_false_iff_ne, ne_eq] at hg; omega)) rfl rfl) ?_
       refine SD.take 6 rfl rfl (by kernel_rfl) (PS.loadS (α := Vl) (xs := l7) (m := 1) (vs := [.int .i64 ((l7.getD (Int.toNat 1) Dat.d).k), .int .u64 ((l7.getD (Int.toNat 1) Dat.d).b), .int .i64 ((l7.getD (Int.toNat 1) Dat.d).bl), .int .i64 ((l7.getD (Int.toNat 1) Dat.d).off)]) rfl tt (fun w hw _ => Rw.sl (hw.ok _ (mem_nth (k := 0) rfl))) (fun hg => by first | omega | (simp only [List.length_cons, List.length_nil]; omega) | (try simp only [Bool.and_eq_true, Bool.or_eq_true, decide_eq_true_eq, Bool.true_and, Bool.not_eq_true', beq_iff_eq, bne_iff_ne, decide_eq_false_iff_not, beq_eq_false_iff_ne, ne_eq] at hg; omega)) rfl Try.isAgg35 Try.sizeOf35 rfl rfl) ?_
       refine SD.one 7 rfl (by kernel_rfl) (fun inv7 => ?_)
       refine SL.callV (vs := [_, _, _]) Try.call28 ⟨⟨_, rfl, tt⟩, ⟨_, rfl, tt⟩, ⟨_, rfl, tt⟩, trivial⟩ (fun hg => latheref10_divided_V p0 (l7.getD (Int.toNat 0) Dat.d) (l7.getD (Int.toNat 1) Dat.d) (by omega)) rfl rfl ?_
       refine SL.nil ?_
       refine SE.next (fun _ h => h.drop (List.Sublist.refl _) (fun _ h => h)) inv7 ?_
       refine SD.take 8 rfl rfl (by kernel_rfl) (PS.extract rfl tt rfl rfl rfl) ?_
       refine SD.take 9 rfl rfl (by kernel_rfl) (PS.extract rfl tt rfl rfl rfl) ?_
       clear inv7
       refine SD.tail (by kernel_rfl) (os := [_, _]) rfl ?_
       refine SL.store_own (k := 1) (own' := [_, _, _]) (cs' := [_, _, _, _]) rfl rfl rfl rfl rfl rfl rfl Try.sizeOf35 rfl (Nat.le_of_ble_eq_true rfl) rfl rfl rfl rfl ?_
       refine SL.step (PS.assign rfl tt rfl rfl) ?_
       refine SL.keep (l' := [(5, _, _), (4, _, _)]) ⟨rfl, rfl, trivial⟩ ?_
       refine SL.nil (SE.calm (SE.thenK hK20 (SC.ret (SE.block_ret (SE.then_ret ?_)))))
       exact finct (k := 1) rfl Try.isAgg35 Try.sizeOf35 rfl rfl rfl rfl rfl rfl (fun _ _ => congrArg (fun z : Vl × Int => Value.tuple #[Value.agg [.int .i64 z.1.k, .int .u64 z.1.b, .int .i64 z.1.bl, .int .i64 z.1.off].toArray, Value.int .i64 z.2]) (show (d_latheref10_Eval p0 p1) = ((((d_latheref10_divided p0 (l7.getD (Int.toNat 0) Dat.d) (l7.getD (Int.toNat 1) Dat.d)).1), (d_latheref10_divided p0 (l7.getD (Int.toNat 0) Dat.d) (l7.getD (Int.toNat 1) Dat.d)).2) : Vl × Int) from ((bifF c16).trans ((letV_eq (hL1.symm.trans (show d_latheref10_Eval_R6 p0 p1 (k1p + 1) l7 x8 = (l7, x8) from (bifF c21)))).trans ((bifF c37).trans ((bifF c37a).trans (bifT c37b)))))).symm)
      ·
       have c37bn := c37b
       try simp only [Bool.and_eq_true, Bool.or_eq_true, decide_eq_true_eq, Bool.true_and, Bool.not_eq_true', Bool.not_eq_false', beq_iff_eq, bne_iff_ne, decide_eq_false_iff_not, beq_eq_false_iff_ne, bne_eq_false_iff_eq, ne_eq, Bool.or_eq_false_iff, Bool.and_eq_false_iff] at c37bn
       refine SC.region ?_
       refine SL.step (PS.eql rfl tt rfl tt rfl rfl) ?_
       refine SL.step (PS.assign rfl tt rfl rfl) ?_
       refine SL.keep (l' := [(37, _, _), (36, _, _), (7, _, _), (4, _, _), (2, _, _)]) ⟨rfl, rfl, rfl, rfl, rfl, trivial⟩ ?_
       refine SL.nil (SE.thenK hK14 ?_)
       refine SC.cond rfl (fun c37c => ?_) (fun c37c => ?_)
       ·
        have c37cn := c37c
        try simp only [Bool.and_eq_true, Bool.or_eq_true, decide_eq_true_eq, Bool.true_and, Bool.not_eq_true', Bool.not_eq_false', beq_iff_eq, bne_iff_ne, decide_eq_false_iff_not, beq_eq_false_iff_ne, bne_eq_false_iff_eq, ne_eq, Bool.or_eq_false_iff, Bool.and_eq_false_iff] at c37cn
        refine SC.seq (fun K21 hK21 => ?_)
        have hr1 := hi1_3 _ (getD_mem (d := Dat.d) (i := Int.toNat 1) (show Int.toNat 1 < l7.length by omega))
        refine SC.draw (S := SP _ _ _) 10 (by kernel_rfl) (by kernel_rfl) (fun _ h => h) ?_
        refine SD.take 0 rfl rfl (by kernel_rfl) (PS.load_own_agg (k := 2) (vs := [_, _, _, _, _, _, _]) rfl tt rfl rfl rfl rfl Try.isAgg25 Try.sizeOf25 rfl rfl) ?_
        refine SD.take 1 rfl rfl (by kernel_rfl) (PS.move rfl tt rfl rfl) ?_
        refine SD.take 2 rfl rfl (by kernel_rfl) (PS.indexS (α := Vl) (xs := l7) rfl tt rfl tt Try.underlying33 Try.sizeOf35 (fun w hw _ => Rw.sl (hw.ok _ (mem_nth (k := 0) rfl))) rfl (fun hg => by first | omega | (simp only [List.length_cons, List.length_nil]; omega) | (try simp only [Bool.and_eq_true, Bool.or_eq_true, decide_eq_true_eq, Bool.true_and, Bool.not_eq_true', beq_iff_eq, bne_iff_ne, decide_eq_false_iff_not, beq_eq_false_iff_ne, ne_eq] at hg; omega)) rfl rfl) ?_
        refine SD.take 3 rfl rfl (by kernel_rfl) (PS.loadS (α := Vl) (xs := l7) (m := 0) (vs := [.int .i64 ((l7.getD (Int.toNat 0) Dat.d).k), .int .u64 ((l7.getD (Int.toNat 0) Dat.d).b), .int .i64 ((l7.getD (Int.toNat 0) Dat.d).bl), .int .i64 ((l7.getD (Int.toNat 0) Dat.d).off)]) rfl tt (fun w hw _ => Rw.sl (hw.ok _ (mem_nth (k := 0) rfl))) (fun hg => by first | omega | (simp only [List.length_cons, List.length_nil]; omega) | (try simp only [Bool.and_eq_true, Bool.or_eq_true, decide_eq_true_eq, Bool.true_and, Bool.not_eq_true', beq_iff_eq, bne_iff_ne, decide_eq_false_iff_not, beq_eq_false_iff_ne, ne_eq] at hg; omega)) rfl Try.isAgg35 Try.sizeOf35 rfl rfl) ?_
        refine SD.take 4 rfl rfl (by kernel_rfl) (PS.move rfl tt rfl rfl) ?_
        refine SD.take 5 rfl rfl (by kernel_rfl) (PS.indexS (α := Vl) (xs := l7) rfl tt rfl tt Try.underlying33 Try.sizeOf35 (fun w hw _ => Rw.sl (hw.ok _ (mem_nth (k := 0) rfl))) rfl (fun hg => by first | omega | (simp only [List.length_cons, List.length_nil]; omega) | (try simp only [Bool.and_eq_true, Bool.or_eq_true, decide_eq_true_eq, Bool.true_and, Bool.not_eq_true', beq_iff_eq, bne_iff_ne, decide_eq_false_iff_not, beq_eq_false_iff_ne, ne_eq] at hg; omega)) rfl rfl) ?_
        refine SD.take 6 rfl rfl (by kernel_rfl) (PS.loadS (α := Vl) (xs := l7) (m := 1) (vs := [.int .i64 ((l7.getD (Int.toNat 1) Dat.d).k), .int .u64 ((l7.getD (Int.toNat 1) Dat.d).b), .int .i64 ((l7.getD (Int.toNat 1) Dat.d).bl), .int .i64 ((l7.getD (Int.toNat 1) Dat.d).off)]) rfl tt (fun w hw _ => Rw.sl (hw.ok _ (mem_nth (k := 0) rfl))) (fun hg => by first | omega | (simp only [List.length_cons, List.length_nil]; omega) | (try simp only [Bool.and_eq_true, Bool.or_eq_true, decide_eq_true_eq, Bool.true_and, Bool.not_eq_true', beq_iff_eq, bne_iff_ne, decide_eq_false_iff_not, beq_eq_false_iff_ne, ne_eq] at hg; omega)) rfl Try.isAgg35 Try.sizeOf35 rfl rfl) ?_
        refine SD.one 7 rfl (by kernel_rfl) (fun inv7 => ?_)
        refine SL.callV (vs := [_, _, _]) Try.call28 ⟨⟨_, rfl, tt⟩, ⟨_, rfl, tt⟩, ⟨_, rfl, tt⟩, trivial⟩ (fun hg => latheref10_divided_V p0 (l7.getD (Int.toNat 0) Dat.d) (l7.getD (Int.toNat 1) Dat.d) (by omega)) rfl rfl ?_
        refine SL.nil ?_
        refine SE.next (fun _ h => h.drop (List.Sublist.refl _) (fun _ h => h)) inv7 ?_
        refine SD.take 8 rfl rfl (by kernel_rfl) (PS.extract rfl tt rfl rfl rfl) ?_
        refine SD.take 9 rfl rfl (by kernel_rfl) (PS.extract rfl tt rfl rfl rfl) ?_
        clear inv7
        refine SD.tail (by kernel_rfl) (os := [_, _]) rfl ?_
        refine SL.store_own (k := 1) (own' := [_, _, _]) (cs' := [_, _, _, _]) rfl rfl rfl rfl rfl rfl rfl Try.sizeOf35 rfl (Nat.le_of_ble_eq_true rfl) rfl rfl rfl rfl ?_
        refine SL.step (PS.assign rfl tt rfl rfl) ?_
        refine SL.keep (l' := [(5, _, _), (4, _, _)]) ⟨rfl, rfl, trivial⟩ ?_
        refine SL.nil (SE.calm (SE.thenK hK21 (SC.ret (SE.block_ret (SE.then_ret ?_)))))
        exact finct (k := 1) rfl Try.isAgg35 Try.sizeOf35 rfl rfl rfl rfl rfl rfl (fun _ _ => congrArg (fun z : Vl × Int => Value.tuple #[Value.agg [.int .i64 z.1.k, .int .u64 z.1.b, .int .i64 z.1.bl, .int .i64 z.1.off].toArray, Value.int .i64 z.2]) (show (d_latheref10_Eval p0 p1) = ((((d_latheref10_divided p0 (l7.getD (Int.toNat 0) Dat.d) (l7.getD (Int.toNat 1) Dat.d)).1), (d_latheref10_divided p0 (l7.getD (Int.toNat 0) Dat.d) (l7.getD (Int.toNat 1) Dat.d)).2) : Vl × Int) from ((bifF c16).trans ((letV_eq (hL1.symm.trans (show d_latheref10_Eval_R6 p0 p1 (k1p + 1) l7 x8 = (l7, x8) from (bifF c21)))).trans ((bifF c37).trans ((bifF c37a).trans ((bifF c37b).trans (bifT c37c))))))).symm)
       ·
        have c37cn := c37c
        try simp only [Bool.and_eq_true, Bool.or_eq_true, decide_eq_true_eq, Bool.true_and, Bool.not_eq_true', Bool.not_eq_false', beq_iff_eq, bne_iff_ne, decide_eq_false_iff_not, beq_eq_false_iff_ne, bne_eq_false_iff_eq, ne_eq, Bool.or_eq_false_iff, Bool.and_eq_false_iff] at c37cn
        refine SC.seq (fun K22 hK22 => SC.seq (fun K23 hK23 => SC.region ?_))
        refine SL.step (PS.eql rfl tt rfl tt rfl rfl) ?_
        refine SL.step (PS.assign rfl tt rfl rfl) ?_
        refine SL.keep (l' := [(52, _, _), (36, _, _), (7, _, _), (4, _, _), (2, _, _)]) ⟨rfl, rfl, rfl, rfl, rfl, trivial⟩ ?_
        refine SL.nil (SE.thenK hK23 ?_)
        refine SC.cond rfl (fun c52 => ?_) (fun c52 => ?_)
        ·
         have c52n := c52
         try simp only [Bool.and_eq_true, Bool.or_eq_true, decide_eq_true_eq, Bool.true_and, Bool.not_eq_true', Bool.not_eq_false', beq_iff_eq, bne_iff_ne, decide_eq_false_iff_not, beq_eq_false_iff_ne, bne_eq_false_iff_eq, ne_eq, Bool.or_eq_false_iff, Bool.and_eq_false_iff] at c52n
         refine SC.skip (SE.thenK hK22 (SC.cond_t rfl c52 (SC.seq (fun K24 hK24 => ?_))))
         have hr1 := hi1_3 _ (getD_mem (d := Dat.d) (i := Int.toNat 1) (show Int.toNat 1 < l7.length by omega))
         refine SC.draw (S := SP _ _ _) 10 (by kernel_rfl) (by kernel_rfl) (fun _ h => h) ?_
         refine SD.take 0 rfl rfl (by kernel_rfl) (PS.load_own_agg (k := 2) (vs := [_, _, _, _, _, _, _]) rfl tt rfl rfl rfl rfl Try.isAgg25 Try.sizeOf25 rfl rfl) ?_
         refine SD.take 1 rfl rfl (by kernel_rfl) (PS.move rfl tt rfl rfl) ?_
         refine SD.take 2 rfl rfl (by kernel_rfl) (PS.indexS (α := Vl) (xs := l7) rfl tt rfl tt Try.underlying33 Try.sizeOf35 (fun w hw _ => Rw.sl (hw.ok _ (mem_nth (k := 0) rfl))) rfl (fun hg => by first | omega | (simp only [List.length_cons, List.length_nil]; omega) | (try simp only [Bool.and_eq_true, Bool.or_eq_true, decide_eq_true_eq, Bool.true_and, Bool.not_eq_true', beq_iff_eq, bne_iff_ne, decide_eq_false_iff_not, beq_eq_false_iff_ne, ne_eq] at hg; omega)) rfl rfl) ?_
         refine SD.take 3 rfl rfl (by kernel_rfl) (PS.loadS (α := Vl) (xs := l7) (m := 0) (vs := [.int .i64 ((l7.getD (Int.toNat 0) Dat.d).k), .int .u64 ((l7.getD (Int.toNat 0) Dat.d).b), .int .i64 ((l7.getD (Int.toNat 0) Dat.d).bl), .int .i64 ((l7.getD (Int.toNat 0) Dat.d).off)]) rfl tt (fun w hw _ => Rw.sl (hw.ok _ (mem_nth (k := 0) rfl))) (fun hg => by first | omega | (simp only [List.length_cons, List.length_nil]; omega) | (try simp only [Bool.and_eq_true, Bool.or_eq_true, decide_eq_true_eq, Bool.true_and, Bool.not_eq_true', beq_iff_eq, bne_iff_ne, decide_eq_false_iff_not, beq_eq_false_iff_ne, ne_eq] at hg; omega)) rfl Try.isAgg35 Try.sizeOf35 rfl rfl) ?_
         refine SD.take 4 rfl rfl (by kernel_rfl) (PS.move rfl tt rfl rfl) ?_
         refine SD.take 5 rfl rfl (by kernel_rfl) (PS.indexS (α := Vl) (xs := l7) rfl tt rfl tt Try.underlying33 Try.sizeOf35 (fun w hw _ => Rw.sl (hw.ok _ (mem_nth (k := 0) rfl))) rfl (fun hg => by first | omega | (simp only [List.length_cons, List.length_nil]; omega) | (try simp only [Bool.and_eq_true, Bool.or_eq_true, decide_eq_true_eq, Bool.true_and, Bool.not_eq_true', beq_iff_eq, bne_iff_ne, decide_eq_false_iff_not, beq_eq_false_iff_ne, ne_eq] at hg; omega)) rfl rfl) ?_
         refine SD.take 6 rfl rfl (by kernel_rfl) (PS.loadS (α := Vl) (xs := l7) (m := 1) (vs := [.int .i64 ((l7.getD (Int.toNat 1) Dat.d).k), .int .u64 ((l7.getD (Int.toNat 1) Dat.d).b), .int .i64 ((l7.getD (Int.toNat 1) Dat.d).bl), .int .i64 ((l7.getD (Int.toNat 1) Dat.d).off)]) rfl tt (fun w hw _ => Rw.sl (hw.ok _ (mem_nth (k := 0) rfl))) (fun hg => by first | omega | (simp only [List.length_cons, List.length_nil]; omega) | (try simp only [Bool.and_eq_true, Bool.or_eq_true, decide_eq_true_eq, Bool.true_and, Bool.not_eq_true', beq_iff_eq, bne_iff_ne, decide_eq_false_iff_not, beq_eq_false_iff_ne, ne_eq] at hg; omega)) rfl Try.isAgg35 Try.sizeOf35 rfl rfl) ?_
         refine SD.one 7 rfl (by kernel_rfl) (fun inv7 => ?_)
         refine SL.callV (vs := [_, _, _]) Try.call29 ⟨⟨_, rfl, tt⟩, ⟨_, rfl, tt⟩, ⟨_, rfl, tt⟩, trivial⟩ (fun hg => latheref10_shifted_V p0 (l7.getD (Int.toNat 0) Dat.d) (l7.getD (Int.toNat 1) Dat.d) (by omega)) rfl rfl ?_
         refine SL.nil ?_
         refine SE.next (fun _ h => h.drop (List.Sublist.refl _) (fun _ h => h)) inv7 ?_
         refine SD.take 8 rfl rfl (by kernel_rfl) (PS.extract rfl tt rfl rfl rfl) ?_
         refine SD.take 9 rfl rfl (by kernel_rfl) (PS.extract rfl tt rfl rfl rfl) ?_
         clear inv7
         refine SD.tail (by kernel_rfl) (os := [_, _]) rfl ?_
         refine SL.store_own (k := 1) (own' := [_, _, _]) (cs' := [_, _, _, _]) rfl rfl rfl rfl rfl rfl rfl Try.sizeOf35 rfl (Nat.le_of_ble_eq_true rfl) rfl rfl rfl rfl ?_
         refine SL.step (PS.assign rfl tt rfl rfl) ?_
         refine SL.keep (l' := [(5, _, _), (4, _, _)]) ⟨rfl, rfl, trivial⟩ ?_
         refine SL.nil (SE.calm (SE.thenK hK24 (SC.ret (SE.block_ret (SE.then_ret ?_)))))
         exact finct (k := 1) rfl Try.isAgg35 Try.sizeOf35 rfl rfl rfl rfl rfl rfl (fun _ _ => congrArg (fun z : Vl × Int => Value.tuple #[Value.agg [.int .i64 z.1.k, .int .u64 z.1.b, .int .i64 z.1.bl, .int .i64 z.1.off].toArray, Value.int .i64 z.2]) (show (d_latheref10_Eval p0 p1) = ((((d_latheref10_shifted p0 (l7.getD (Int.toNat 0) Dat.d) (l7.getD (Int.toNat 1) Dat.d)).1), (d_latheref10_shifted p0 (l7.getD (Int.toNat 0) Dat.d) (l7.getD (Int.toNat 1) Dat.d)).2) : Vl × Int) from ((bifF c16).trans ((letV_eq (hL1.symm.trans (show d_latheref10_Eval_R6 p0 p1 (k1p + 1) l7 x8 = (l7, x8) from (bifF c21)))).trans ((bifF c37).trans ((bifF c37a).trans ((bifF c37b).trans ((bifF c37c).trans (bifT c52)))))))).symm)
        ·
         have c52n := c52
         try simp only [Bool.and_eq_true, Bool.or_eq_true, decide_eq_true_eq, Bool.true_and, Bool.not_eq_true', Bool.not_eq_false', beq_iff_eq, bne_iff_ne, decide_eq_false_iff_not, beq_eq_false_iff_ne, bne_eq_false_iff_eq, ne_eq, Bool.or_eq_false_iff, Bool.and_eq_false_iff] at c52n
         refine SC.seq (fun K25 hK25 => SC.region ?_)
         refine SL.step (PS.eql rfl tt rfl tt rfl rfl) ?_
         refine SL.step (PS.assign rfl tt rfl rfl) ?_
         refine SL.keep (l' := [(52, _, _), (36, _, _), (7, _, _), (4, _, _), (2, _, _)]) ⟨rfl, rfl, rfl, rfl, rfl, trivial⟩ ?_
         refine SL.nil (SE.thenK hK25 ?_)
         refine SC.cond rfl (fun c52a => ?_) (fun c52a => ?_)
         ·
          have c52an := c52a
          try simp only [Bool.and_eq_true, Bool.or_eq_true, decide_eq_true_eq, Bool.true_and, Bool.not_eq_true', Bool.not_eq_false', beq_iff_eq, bne_iff_ne, decide_eq_false_iff_not, beq_eq_false_iff_ne, bne_eq_false_iff_eq, ne_eq, Bool.or_eq_false_iff, Bool.and_eq_false_iff] at c52an
          refine SC.skip (SE.thenK hK22 (SC.cond_t rfl c52a (SC.seq (fun K26 hK26 => ?_))))
          have hr1 := hi1_3 _ (getD_mem (d := Dat.d) (i := Int.toNat 1) (show Int.toNat 1 < l7.length by omega))
          refine SC.draw (S := SP _ _ _) 10 (by kernel_rfl) (by kernel_rfl) (fun _ h => h) ?_
          refine SD.take 0 rfl rfl (by kernel_rfl) (PS.load_own_agg (k := 2) (vs := [_, _, _, _, _, _, _]) rfl tt rfl rfl rfl rfl Try.isAgg25 Try.sizeOf25 rfl rfl) ?_
          refine SD.take 1 rfl rfl (by kernel_rfl) (PS.move rfl tt rfl rfl) ?_
          refine SD.take 2 rfl rfl (by kernel_rfl) (PS.indexS (α := Vl) (xs := l7) rfl tt rfl tt Try.underlying33 Try.sizeOf35 (fun w hw _ => Rw.sl (hw.ok _ (mem_nth (k := 0) rfl))) rfl (fun hg => by first | omega | (simp only [List.length_cons, List.length_nil]; omega) | (try simp only [Bool.and_eq_true, Bool.or_eq_true, decide_eq_true_eq, Bool.true_and, Bool.not_eq_true', beq_iff_eq, bne_iff_ne, decide_eq_false_iff_not, beq_eq_false_iff_ne, ne_eq] at hg; omega)) rfl rfl) ?_
          refine SD.take 3 rfl rfl (by kernel_rfl) (PS.loadS (α := Vl) (xs := l7) (m := 0) (vs := [.int .i64 ((l7.getD (Int.toNat 0) Dat.d).k), .int .u64 ((l7.getD (Int.toNat 0) Dat.d).b), .int .i64 ((l7.getD (Int.toNat 0) Dat.d).bl), .int .i64 ((l7.getD (Int.toNat 0) Dat.d).off)]) rfl tt (fun w hw _ => Rw.sl (hw.ok _ (mem_nth (k := 0) rfl))) (fun hg => by first | omega | (simp only [List.length_cons, List.length_nil]; omega) | (try simp only [Bool.and_eq_true, Bool.or_eq_true, decide_eq_true_eq, Bool.true_and, Bool.not_eq_true', beq_iff_eq, bne_iff_ne, decide_eq_false_iff_not, beq_eq_false_iff_ne, ne_eq] at hg; omega)) rfl Try.isAgg35 Try.sizeOf35 rfl rfl) ?_
          refine SD.take 4 rfl rfl (by kernel_rfl) (PS.move rfl tt rfl rfl) ?_
          refine SD.take 5 rfl rfl (by kernel_rfl) (PS.indexS (α := Vl) (xs := l7) rfl tt rfl tt Try.underlying33 Try.sizeOf35 (fun w hw _ => Rw.sl (hw.ok _ (mem_nth (k := 0) rfl))) rfl (fun hg => by first | omega | (simp only [List.length_cons, List.length_nil]; omega) | (try simp only [Bool.and_eq_true, Bool.or_eq_true, decide_eq_true_eq, Bool.true_and, Bool.not_eq_true', beq_iff_eq, bne_iff_ne, decide_eq_false_iff_not, beq_eq_false_iff_ne, ne_eq] at hg; omega)) rfl rfl) ?_
          refine SD.take 6 rfl rfl (by kernel_rfl) (PS.loadS (α := Vl) (xs := l7) (m := 1) (vs := [.int .i64 ((l7.getD (Int.toNat 1) Dat.d).k), .int .u64 ((l7.getD (Int.toNat 1) Dat.d).b), .int .i64 ((l7.getD (Int.toNat 1) Dat.d).bl), .int .i64 ((l7.getD (Int.toNat 1) Dat.d).off)]) rfl tt (fun w hw _ => Rw.sl (hw.ok _ (mem_nth (k := 0) rfl))) (fun hg => by first | omega | (simp only [List.length_cons, List.length_nil]; omega) | (try simp only [Bool.and_eq_true, Bool.or_eq_true, decide_eq_true_eq, Bool.true_and, Bool.not_eq_true', beq_iff_eq, bne_iff_ne, decide_eq_false_iff_not, beq_eq_false_iff_ne, ne_eq] at hg; omega)) rfl Try.isAgg35 Try.sizeOf35 rfl rfl) ?_
          refine SD.one 7 rfl (by kernel_rfl) (fun inv7 => ?_)
          refine SL.callV (vs := [_, _, _]) Try.call29 ⟨⟨_, rfl, tt⟩, ⟨_, rfl, tt⟩, ⟨_, rfl, tt⟩, trivial⟩ (fun hg => latheref10_shifted_V p0 (l7.getD (Int.toNat 0) Dat.d) (l7.getD (Int.toNat 1) Dat.d) (by omega)) rfl rfl ?_
          refine SL.nil ?_
          refine SE.next (fun _ h => h.drop (List.Sublist.refl _) (fun _ h => h)) inv7 ?_
          refine SD.take 8 rfl rfl (by kernel_rfl) (PS.extract rfl tt rfl rfl rfl) ?_
          refine SD.take 9 rfl rfl (by kernel_rfl) (PS.extract rfl tt rfl rfl rfl) ?_
          clear inv7
          refine SD.tail (by kernel_rfl) (os := [_, _]) rfl ?_
          refine SL.store_own (k := 1) (own' := [_, _, _]) (cs' := [_, _, _, _]) rfl rfl rfl rfl rfl rfl rfl Try.sizeOf35 rfl (Nat.le_of_ble_eq_true rfl) rfl rfl rfl rfl ?_
          refine SL.step (PS.assign rfl tt rfl rfl) ?_
          refine SL.keep (l' := [(5, _, _), (4, _, _)]) ⟨rfl, rfl, trivial⟩ ?_
          refine SL.nil (SE.calm (SE.thenK hK26 (SC.ret (SE.block_ret (SE.then_ret ?_)))))
          exact finct (k := 1) rfl Try.isAgg35 Try.sizeOf35 rfl rfl rfl rfl rfl rfl (fun _ _ => congrArg (fun z : Vl × Int => Value.tuple #[Value.agg [.int .i64 z.1.k, .int .u64 z.1.b, .int .i64 z.1.bl, .int .i64 z.1.off].toArray, Value.int .i64 z.2]) (show (d_latheref10_Eval p0 p1) = ((((d_latheref10_shifted p0 (l7.getD (Int.toNat 0) Dat.d) (l7.getD (Int.toNat 1) Dat.d)).1), (d_latheref10_shifted p0 (l7.getD (Int.toNat 0) Dat.d) (l7.getD (Int.toNat 1) Dat.d)).2) : Vl × Int) from ((bifF c16).trans ((letV_eq (hL1.symm.trans (show d_latheref10_Eval_R6 p0 p1 (k1p + 1) l7 x8 = (l7, x8) from (bifF c21)))).trans ((bifF c37).trans ((bifF c37a).trans ((bifF c37b).trans ((bifF c37c).trans ((bifF c52).trans (bifT c52a))))))))).symm)
         ·
          have c52an := c52a
          try simp only [Bool.and_eq_true, Bool.or_eq_true, decide_eq_true_eq, Bool.true_and, Bool.not_eq_true', Bool.not_eq_false', beq_iff_eq, bne_iff_ne, decide_eq_false_iff_not, beq_eq_false_iff_ne, bne_eq_false_iff_eq, ne_eq, Bool.or_eq_false_iff, Bool.and_eq_false_iff] at c52an
          refine SC.region ?_
          refine SL.step (PS.eql rfl tt rfl tt rfl rfl) ?_
          refine SL.step (PS.assign rfl tt rfl rfl) ?_
          refine SL.keep (l' := [(52, _, _), (36, _, _), (7, _, _), (4, _, _), (2, _, _)]) ⟨rfl, rfl, rfl, rfl, rfl, trivial⟩ ?_
          refine SL.nil (SE.thenK hK22 ?_)
          refine SC.cond rfl (fun c52b => ?_) (fun c52b => ?_)
          ·
           have c52bn := c52b
           try simp only [Bool.and_eq_true, Bool.or_eq_true, decide_eq_true_eq, Bool.true_and, Bool.not_eq_true', Bool.not_eq_false', beq_iff_eq, bne_iff_ne, decide_eq_false_iff_not, beq_eq_false_iff_ne, bne_eq_false_iff_eq, ne_eq, Bool.or_eq_false_iff, Bool.and_eq_false_iff] at c52bn
           refine SC.seq (fun K27 hK27 => ?_)
           have hr1 := hi1_3 _ (getD_mem (d := Dat.d) (i := Int.toNat 1) (show Int.toNat 1 < l7.length by omega))
           refine SC.draw (S := SP _ _ _) 10 (by kernel_rfl) (by kernel_rfl) (fun _ h => h) ?_
           refine SD.take 0 rfl rfl (by kernel_rfl) (PS.load_own_agg (k := 2) (vs := [_, _, _, _, _, _, _]) rfl tt rfl rfl rfl rfl Try.isAgg25 Try.sizeOf25 rfl rfl) ?_
           refine SD.take 1 rfl rfl (by kernel_rfl) (PS.move rfl tt rfl rfl) ?_
           refine SD.take 2 rfl rfl (by kernel_rfl) (PS.indexS (α := Vl) (xs := l7) rfl tt rfl tt Try.underlying33 Try.sizeOf35 (fun w hw _ => Rw.sl (hw.ok _ (mem_nth (k := 0) rfl))) rfl (fun hg => by first | omega | (simp only [List.length_cons, List.length_nil]; omega) | (try simp only [Bool.and_eq_true, Bool.or_eq_true, decide_eq_true_eq, Bool.true_and, Bool.not_eq_true', beq_iff_eq, bne_iff_ne, decide_eq_false_iff_not, beq_eq_false_iff_ne, ne_eq] at hg; omega)) rfl rfl) ?_
           refine SD.take 3 rfl rfl (by kernel_rfl) (PS.loadS (α := Vl) (xs := l7) (m := 0) (vs := [.int .i64 ((l7.getD (Int.toNat 0) Dat.d).k), .int .u64 ((l7.getD (Int.toNat 0) Dat.d).b), .int .i64 ((l7.getD (Int.toNat 0) Dat.d).bl), .int .i64 ((l7.getD (Int.toNat 0) Dat.d).off)]) rfl tt (fun w hw _ => Rw.sl (hw.ok _ (mem_nth (k := 0) rfl))) (fun hg => by first | omega | (simp only [List.length_cons, List.length_nil]; omega) | (try simp only [Bool.and_eq_true, Bool.or_eq_true, decide_eq_true_eq, Bool.true_and, Bool.not_eq_true', beq_iff_eq, bne_iff_ne, decide_eq_false_iff_not, beq_eq_false_iff_ne, ne_eq] at hg; omega)) rfl Try.isAgg35 Try.sizeOf35 rfl rfl) ?_
           refine SD.take 4 rfl rfl (by kernel_rfl) (PS.move rfl tt rfl rfl) ?_
           refine SD.take 5 rfl rfl (by kernel_rfl) (PS.indexS (α := Vl) (xs := l7) rfl tt rfl tt Try.underlying33 Try.sizeOf35 (fun w hw _ => Rw.sl (hw.ok _ (mem_nth (k := 0) rfl))) rfl (fun hg => by first | omega | (simp only [List.length_cons, List.length_nil]; omega) | (try simp only [Bool.and_eq_true, Bool.or_eq_true, decide_eq_true_eq, Bool.true_and, Bool.not_eq_true', beq_iff_eq, bne_iff_ne, decide_eq_false_iff_not, beq_eq_false_iff_ne, ne_eq] at hg; omega)) rfl rfl) ?_
           refine SD.take 6 rfl rfl (by kernel_rfl) (PS.loadS (α := Vl) (xs := l7) (m := 1) (vs := [.int .i64 ((l7.getD (Int.toNat 1) Dat.d).k), .int .u64 ((l7.getD (Int.toNat 1) Dat.d).b), .int .i64 ((l7.getD (Int.toNat 1) Dat.d).bl), .int .i64 ((l7.getD (Int.toNat 1) Dat.d).off)]) rfl tt (fun w hw _ => Rw.sl (hw.ok _ (mem_nth (k := 0) rfl))) (fun hg => by first | omega | (simp only [List.length_cons, List.length_nil]; omega) | (try simp only [Bool.and_eq_true, Bool.or_eq_true, decide_eq_true_eq, Bool.true_and, Bool.not_eq_true', beq_iff_eq, bne_iff_ne, decide_eq_false_iff_not, beq_eq_false_iff_ne, ne_eq] at hg; omega)) rfl Try.isAgg35 Try.sizeOf35 rfl rfl) ?_
           refine SD.one 7 rfl (by kernel_rfl) (fun inv7 => ?_)
           refine SL.callV (vs := [_, _, _]) Try.call29 ⟨⟨_, rfl, tt⟩, ⟨_, rfl, tt⟩, ⟨_, rfl, tt⟩, trivial⟩ (fun hg => latheref10_shifted_V p0 (l7.getD (Int.toNat 0) Dat.d) (l7.getD (Int.toNat 1) Dat.d) (by omega)) rfl rfl ?_
           refine SL.nil ?_
           refine SE.next (fun _ h => h.drop (List.Sublist.refl _) (fun _ h => h)) inv7 ?_
           refine SD.take 8 rfl rfl (by kernel_rfl) (PS.extract rfl tt rfl rfl rfl) ?_
           refine SD.take 9 rfl rfl (by kernel_rfl) (PS.extract rfl tt rfl rfl rfl) ?_
           clear inv7
           refine SD.tail (by kernel_rfl) (os := [_, _]) rfl ?_
           refine SL.store_own (k := 1) (own' := [_, _, _]) (cs' := [_, _, _, _]) rfl rfl rfl rfl rfl rfl rfl Try.sizeOf35 rfl (Nat.le_of_ble_eq_true rfl) rfl rfl rfl rfl ?_
           refine SL.step (PS.assign rfl tt rfl rfl) ?_
           refine SL.keep (l' := [(5, _, _), (4, _, _)]) ⟨rfl, rfl, trivial⟩ ?_
           refine SL.nil (SE.calm (SE.thenK hK27 (SC.ret (SE.block_ret (SE.then_ret ?_)))))
           exact finct (k := 1) rfl Try.isAgg35 Try.sizeOf35 rfl rfl rfl rfl rfl rfl (fun _ _ => congrArg (fun z : Vl × Int => Value.tuple #[Value.agg [.int .i64 z.1.k, .int .u64 z.1.b, .int .i64 z.1.bl, .int .i64 z.1.off].toArray, Value.int .i64 z.2]) (show (d_latheref10_Eval p0 p1) = ((((d_latheref10_shifted p0 (l7.getD (Int.toNat 0) Dat.d) (l7.getD (Int.toNat 1) Dat.d)).1), (d_latheref10_shifted p0 (l7.getD (Int.toNat 0) Dat.d) (l7.getD (Int.toNat 1) Dat.d)).2) : Vl × Int) from ((bifF c16).trans ((letV_eq (hL1.symm.trans (show d_latheref10_Eval_R6 p0 p1 (k1p + 1) l7 x8 = (l7, x8) from (bifF c21)))).trans ((bifF c37).trans ((bifF c37a).trans ((bifF c37b).trans ((bifF c37c).trans ((bifF c52).trans ((bifF c52a).trans (bifT c52b)))))))))).symm)
          ·
           have c52bn := c52b
           try simp only [Bool.and_eq_true, Bool.or_eq_true, decide_eq_true_eq, Bool.true_and, Bool.not_eq_true', Bool.not_eq_false', beq_iff_eq, bne_iff_ne, decide_eq_false_iff_not, beq_eq_false_iff_ne, bne_eq_false_iff_eq, ne_eq, Bool.or_eq_false_iff, Bool.and_eq_false_iff] at c52bn
           refine SC.seq (fun K28 hK28 => SC.region ?_)
           refine SL.step (PS.eql rfl tt rfl tt rfl rfl) ?_
           refine SL.step (PS.assign rfl tt rfl rfl) ?_
           refine SL.keep (l' := [(66, _, _), (36, _, _), (7, _, _), (4, _, _), (2, _, _)]) ⟨rfl, rfl, rfl, rfl, rfl, trivial⟩ ?_
           refine SL.nil (SE.thenK hK28 ?_)
           refine SC.cond rfl (fun c66 => ?_) (fun c66 => ?_)
           ·
            have c66n := c66
            try simp only [Bool.and_eq_true, Bool.or_eq_true, decide_eq_true_eq, Bool.true_and, Bool.not_eq_true', Bool.not_eq_false', beq_iff_eq, bne_iff_ne, decide_eq_false_iff_not, beq_eq_false_iff_ne, bne_eq_false_iff_eq, ne_eq, Bool.or_eq_false_iff, Bool.and_eq_false_iff] at c66n
            refine SC.seq (fun K29 hK29 => ?_)
            refine SC.draw (S := SP _ _ _) 10 (by kernel_rfl) (by kernel_rfl) (fun _ h => h) ?_
            refine SD.take 0 rfl rfl (by kernel_rfl) (PS.move rfl tt rfl rfl) ?_
            refine SD.take 1 rfl rfl (by kernel_rfl) (PS.indexS (α := Vl) (xs := l7) rfl tt rfl tt Try.underlying33 Try.sizeOf35 (fun w hw _ => Rw.sl (hw.ok _ (mem_nth (k := 0) rfl))) rfl (fun hg => by first | omega | (simp only [List.length_cons, List.length_nil]; omega) | (try simp only [Bool.and_eq_true, Bool.or_eq_true, decide_eq_true_eq, Bool.true_and, Bool.not_eq_true', beq_iff_eq, bne_iff_ne, decide_eq_false_iff_not, beq_eq_false_iff_ne, ne_eq] at hg; omega)) rfl rfl) ?_
            refine SD.take 2 rfl rfl (by kernel_rfl) (PS.loadS (α := Vl) (xs := l7) (m := 0) (vs := [.int .i64 ((l7.getD (Int.toNat 0) Dat.d).k), .int .u64 ((l7.getD (Int.toNat 0) Dat.d).b), .int .i64 ((l7.getD (Int.toNat 0) Dat.d).bl), .int .i64 ((l7.getD (Int.toNat 0) Dat.d).off)]) rfl tt (fun w hw _ => Rw.sl (hw.ok _ (mem_nth (k := 0) rfl))) (fun hg => by first | omega | (simp only [List.length_cons, List.length_nil]; omega) | (try simp only [Bool.and_eq_true, Bool.or_eq_true, decide_eq_true_eq, Bool.true_and, Bool.not_eq_true', beq_iff_eq, bne_iff_ne, decide_eq_false_iff_not, beq_eq_false_iff_ne, ne_eq] at hg; omega)) rfl Try.isAgg35 Try.sizeOf35 rfl rfl) ?_
            refine SD.take 3 rfl rfl (by kernel_rfl) (PS.move rfl tt rfl rfl) ?_
            refine SD.take 4 rfl rfl (by kernel_rfl) (PS.indexS (α := Vl) (xs := l7) rfl tt rfl tt Try.underlying33 Try.sizeOf35 (fun w hw _ => Rw.sl (hw.ok _ (mem_nth (k := 0) rfl))) rfl (fun hg => by first | omega | (simp only [List.length_cons, List.length_nil]; omega) | (try simp only [Bool.and_eq_true, Bool.or_eq_true, decide_eq_true_eq, Bool.true_and, Bool.not_eq_true', beq_iff_eq, bne_iff_ne, decide_eq_false_iff_not, beq_eq_false_iff_ne, ne_eq] at hg; omega)) rfl rfl) ?_
            refine SD.take 5 rfl rfl (by kernel_rfl) (PS.loadS (α := Vl) (xs := l7) (m := 1) (vs := [.int .i64 ((l7.getD (Int.toNat 1) Dat.d).k), .int .u64 ((l7.getD (Int.toNat 1) Dat.d).b), .int .i64 ((l7.getD (Int.toNat 1) Dat.d).bl), .int .i64 ((l7.getD (Int.toNat 1) Dat.d).off)]) rfl tt (fun w hw _ => Rw.sl (hw.ok _ (mem_nth (k := 0) rfl))) (fun hg => by first | omega | (simp only [List.length_cons, List.length_nil]; omega) | (try simp only [Bool.and_eq_true, Bool.or_eq_true, decide_eq_true_eq, Bool.true_and, Bool.not_eq_true', beq_iff_eq, bne_iff_ne, decide_eq_false_iff_not, beq_eq_false_iff_ne, ne_eq] at hg; omega)) rfl Try.isAgg35 Try.sizeOf35 rfl rfl) ?_
            refine SD.take 6 rfl rfl (by kernel_rfl) (PS.move rfl tt rfl rfl) ?_
            refine SD.take 7 rfl rfl (by kernel_rfl) (PS.indexS (α := Vl) (xs := l7) rfl tt rfl tt Try.underlying33 Try.sizeOf35 (fun w hw _ => Rw.sl (hw.ok _ (mem_nth (k := 0) rfl))) rfl (fun hg => by first | omega | (simp only [List.length_cons, List.length_nil]; omega) | (try simp only [Bool.and_eq_true, Bool.or_eq_true, decide_eq_true_eq, Bool.true_and, Bool.not_eq_true', beq_iff_eq, bne_iff_ne, decide_eq_false_iff_not, beq_eq_false_iff_ne, ne_eq] at hg; omega)) rfl rfl) ?_
            refine SD.take 8 rfl rfl (by kernel_rfl) (PS.loadS (α := Vl) (xs := l7) (m := 2) (vs := [.int .i64 ((l7.getD (Int.toNat 2) Dat.d).k), .int .u64 ((l7.getD (Int.toNat 2) Dat.d).b), .int .i64 ((l7.getD (Int.toNat 2) Dat.d).bl), .int .i64 ((l7.getD (Int.toNat 2) Dat.d).off)]) rfl tt (fun w hw _ => Rw.sl (hw.ok _ (mem_nth (k := 0) rfl))) (fun hg => by first | omega | (simp only [List.length_cons, List.length_nil]; omega) | (try simp only [Bool.and_eq_true, Bool.or_eq_true, decide_eq_true_eq, Bool.true_and, Bool.not_eq_true', beq_iff_eq, bne_iff_ne, decide_eq_false_iff_not, beq_eq_false_iff_ne, ne_eq] at hg; omega)) rfl Try.isAgg35 Try.sizeOf35 rfl rfl) ?_
            refine SD.one 9 rfl (by kernel_rfl) (fun inv9 => ?_)
            refine SL.callV (vs := [_, _, _]) Try.call30 ⟨⟨_, rfl, tt⟩, ⟨_, rfl, tt⟩, ⟨_, rfl, tt⟩, trivial⟩ (fun hg => latheref10_chosen_V (l7.getD (Int.toNat 0) Dat.d) (l7.getD (Int.toNat 1) Dat.d) (l7.getD (Int.toNat 2) Dat.d) ) rfl rfl ?_
            refine SL.nil ?_
            refine SE.next (fun _ h => h.drop (List.Sublist.refl _) (fun _ h => h)) inv9 ?_
            clear inv9
            refine SD.tail (by kernel_rfl) (os := [_, _]) rfl ?_
            refine SL.store_own (k := 1) (own' := [_, _, _]) (cs' := [_, _, _, _]) rfl rfl rfl rfl rfl rfl rfl Try.sizeOf35 rfl (Nat.le_of_ble_eq_true rfl) rfl rfl rfl rfl ?_
            refine SL.step (PS.assign rfl tt rfl rfl) ?_
            refine SL.keep (l' := [(5, _, _), (4, _, _)]) ⟨rfl, rfl, trivial⟩ ?_
            refine SL.nil (SE.calm (SE.thenK hK29 (SC.ret (SE.block_ret (SE.then_ret ?_)))))
            exact finct (k := 1) rfl Try.isAgg35 Try.sizeOf35 rfl rfl rfl rfl rfl rfl (fun _ _ => congrArg (fun z : Vl × Int => Value.tuple #[Value.agg [.int .i64 z.1.k, .int .u64 z.1.b, .int .i64 z.1.bl, .int .i64 z.1.off].toArray, Value.int .i64 z.2]) (show (d_latheref10_Eval p0 p1) = (((d_latheref10_chosen (l7.getD (Int.toNat 0) Dat.d) (l7.getD (Int.toNat 1) Dat.d) (l7.getD (Int.toNat 2) Dat.d)), 0) : Vl × Int) from ((bifF c16).trans ((letV_eq (hL1.symm.trans (show d_latheref10_Eval_R6 p0 p1 (k1p + 1) l7 x8 = (l7, x8) from (bifF c21)))).trans ((bifF c37).trans ((bifF c37a).trans ((bifF c37b).trans ((bifF c37c).trans ((bifF c52).trans ((bifF c52a).trans ((bifF c52b).trans (bifT c66))))))))))).symm)
           ·
            have c66n := c66
            try simp only [Bool.and_eq_true, Bool.or_eq_true, decide_eq_true_eq, Bool.true_and, Bool.not_eq_true', Bool.not_eq_false', beq_iff_eq, bne_iff_ne, decide_eq_false_iff_not, beq_eq_false_iff_ne, bne_eq_false_iff_eq, ne_eq, Bool.or_eq_false_iff, Bool.and_eq_false_iff] at c66n
            refine SC.seq (fun K30 hK30 => SC.region ?_)
            refine SL.step (PS.eql rfl tt rfl tt rfl rfl) ?_
            refine SL.step (PS.assign rfl tt rfl rfl) ?_
            refine SL.keep (l' := [(78, _, _), (36, _, _), (7, _, _), (4, _, _), (2, _, _)]) ⟨rfl, rfl, rfl, rfl, rfl, trivial⟩ ?_
            refine SL.nil (SE.thenK hK30 ?_)
            refine SC.cond rfl (fun c78 => ?_) (fun c78 => ?_)
            ·
             have c78n := c78
             try simp only [Bool.and_eq_true, Bool.or_eq_true, decide_eq_true_eq, Bool.true_and, Bool.not_eq_true', Bool.not_eq_false', beq_iff_eq, bne_iff_ne, decide_eq_false_iff_not, beq_eq_false_iff_ne, bne_eq_false_iff_eq, ne_eq, Bool.or_eq_false_iff, Bool.and_eq_false_iff] at c78n
             refine SC.seq (fun K31 hK31 => SC.seq (fun K32 hK32 => SC.region ?_))
             refine SL.step (PS.move rfl tt rfl rfl) ?_
             refine SL.step (PS.indexS (α := Vl) (xs := l7) rfl tt rfl tt Try.underlying33 Try.sizeOf35 (fun w hw _ => Rw.sl (hw.ok _ (mem_nth (k := 0) rfl))) rfl (fun hg => by first | omega | (simp only [List.length_cons, List.length_nil]; omega) | (try simp only [Bool.and_eq_true, Bool.or_eq_true, decide_eq_true_eq, Bool.true_and, Bool.not_eq_true', beq_iff_eq, bne_iff_ne, decide_eq_false_iff_not, beq_eq_false_iff_ne, ne_eq] at hg; omega)) rfl rfl) ?_
             refine SL.step (PS.fieldAddr rfl tt Try.fieldAt_35_0 rfl rfl) ?_
             refine SL.step (PS.loadSF (α := Vl) (xs := l7) (m := 0) rfl tt (fun w hw _ => Rw.sl (hw.ok _ (mem_nth (k := 0) rfl))) (fun hg => by first | omega | (simp only [List.length_cons, List.length_nil]; omega) | (try simp only [Bool.and_eq_true, Bool.or_eq_true, decide_eq_true_eq, Bool.true_and, Bool.not_eq_true', beq_iff_eq, bne_iff_ne, decide_eq_false_iff_not, beq_eq_false_iff_ne, ne_eq] at hg; omega)) rfl Try.isAgg3 rfl rfl) ?_
             refine SL.step (PS.eql rfl tt rfl tt rfl rfl) ?_
             refine SL.keep (l' := [(84, _, _), (7, _, _), (4, _, _)]) ⟨rfl, rfl, rfl, trivial⟩ ?_
             refine SL.nil (SE.thenK hK32 ?_)
             refine SC.cond rfl (fun c84 => ?_) (fun c84 => ?_)
             ·
              refine SC.seq (fun K33 hK33 => SC.region ?_)
              refine SL.callV (vs := []) Try.call31 trivial (fun hg => latheref10_Any_V  ) rfl rfl ?_
              refine SL.store_own (k := 1) (own' := [_, _, _]) (cs' := [_, _, _, _]) rfl rfl rfl rfl rfl rfl rfl Try.sizeOf35 rfl (Nat.le_of_ble_eq_true rfl) rfl rfl rfl rfl ?_
              refine SL.step (PS.assign rfl tt rfl rfl) ?_
              refine SL.keep (l' := [(5, _, _), (4, _, _)]) ⟨rfl, rfl, trivial⟩ ?_
              refine SL.nil (SE.thenK hK33 (SC.ret (SE.then_ret (SE.block_ret (SE.then_ret ?_)))))
              exact finct (k := 1) rfl Try.isAgg35 Try.sizeOf35 rfl rfl rfl rfl rfl rfl (fun _ _ => congrArg (fun z : Vl × Int => Value.tuple #[Value.agg [.int .i64 z.1.k, .int .u64 z.1.b, .int .i64 z.1.bl, .int .i64 z.1.off].toArray, Value.int .i64 z.2]) (show (d_latheref10_Eval p0 p1) = ((d_latheref10_Any, 0) : Vl × Int) from ((bifF c16).trans ((letV_eq (hL1.symm.trans (show d_latheref10_Eval_R6 p0 p1 (k1p + 1) l7 x8 = (l7, x8) from (bifF c21)))).trans ((bifF c37).trans ((bifF c37a).trans ((bifF c37b).trans ((bifF c37c).trans ((bifF c52).trans ((bifF c52a).trans ((bifF c52b).trans ((bifF c66).trans ((bifT c78).trans (bifT c84))))))))))))).symm)
             ·
              have c84n := c84
              try simp only [Bool.and_eq_true, Bool.or_eq_true, decide_eq_true_eq, Bool.true_and, Bool.not_eq_true', Bool.not_eq_false', beq_iff_eq, bne_iff_ne, decide_eq_false_iff_not, beq_eq_false_iff_ne, bne_eq_false_iff_eq, ne_eq, Bool.or_eq_false_iff, Bool.and_eq_false_iff] at c84n
              refine SC.skip (SE.thenK hK31 (SC.seq (fun K34 hK34 => SC.region ?_)))
              refine SL.step (PS.move rfl tt rfl rfl) ?_
              refine SL.step (PS.indexS (α := Vl) (xs := l7) rfl tt rfl tt Try.underlying33 Try.sizeOf35 (fun w hw _ => Rw.sl (hw.ok _ (mem_nth (k := 0) rfl))) rfl (fun hg => by first | omega | (simp only [List.length_cons, List.length_nil]; omega) | (try simp only [Bool.and_eq_true, Bool.or_eq_true, decide_eq_true_eq, Bool.true_and, Bool.not_eq_true', beq_iff_eq, bne_iff_ne, decide_eq_false_iff_not, beq_eq_false_iff_ne, ne_eq] at hg; omega)) rfl rfl) ?_
              refine SL.step (PS.loadS (α := Vl) (xs := l7) (m := 0) (vs := [.int .i64 ((l7.getD (Int.toNat 0) Dat.d).k), .int .u64 ((l7.getD (Int.toNat 0) Dat.d).b), .int .i64 ((l7.getD (Int.toNat 0) Dat.d).bl), .int .i64 ((l7.getD (Int.toNat 0) Dat.d).off)]) rfl tt (fun w hw _ => Rw.sl (hw.ok _ (mem_nth (k := 0) rfl))) (fun hg => by first | omega | (simp only [List.length_cons, List.length_nil]; omega) | (try simp only [Bool.and_eq_true, Bool.or_eq_true, decide_eq_true_eq, Bool.true_and, Bool.not_eq_true', beq_iff_eq, bne_iff_ne, decide_eq_false_iff_not, beq_eq_false_iff_ne, ne_eq] at hg; omega)) rfl Try.isAgg35 Try.sizeOf35 rfl rfl) ?_
              refine SL.store_own (k := 1) (own' := [_, _, _]) (cs' := [_, _, _, _]) rfl rfl rfl rfl rfl rfl rfl Try.sizeOf35 rfl (Nat.le_of_ble_eq_true rfl) rfl rfl rfl rfl ?_
              refine SL.step (PS.assign rfl tt rfl rfl) ?_
              refine SL.keep (l' := [(5, _, _), (4, _, _)]) ⟨rfl, rfl, trivial⟩ ?_
              refine SL.nil (SE.thenK hK34 (SC.ret (SE.block_ret (SE.then_ret ?_))))
              exact finct (k := 1) rfl Try.isAgg35 Try.sizeOf35 rfl rfl rfl rfl rfl rfl (fun _ _ => congrArg (fun z : Vl × Int => Value.tuple #[Value.agg [.int .i64 z.1.k, .int .u64 z.1.b, .int .i64 z.1.bl, .int .i64 z.1.off].toArray, Value.int .i64 z.2]) (show (d_latheref10_Eval p0 p1) = (((l7.getD (Int.toNat 0) Dat.d), 0) : Vl × Int) from ((bifF c16).trans ((letV_eq (hL1.symm.trans (show d_latheref10_Eval_R6 p0 p1 (k1p + 1) l7 x8 = (l7, x8) from (bifF c21)))).trans ((bifF c37).trans ((bifF c37a).trans ((bifF c37b).trans ((bifF c37c).trans ((bifF c52).trans ((bifF c52a).trans ((bifF c52b).trans ((bifF c66).trans ((bifT c78).trans (bifF c84))))))))))))).symm)
            ·
             have c78n := c78
             try simp only [Bool.and_eq_true, Bool.or_eq_true, decide_eq_true_eq, Bool.true_and, Bool.not_eq_true', Bool.not_eq_false', beq_iff_eq, bne_iff_ne, decide_eq_false_iff_not, beq_eq_false_iff_ne, bne_eq_false_iff_eq, ne_eq, Bool.or_eq_false_iff, Bool.and_eq_false_iff] at c78n
             refine SC.seq (fun K35 hK35 => SC.seq (fun K36 hK36 => SC.region ?_))
             refine SL.step (PS.eql rfl tt rfl tt rfl rfl) ?_
             refine SL.step (PS.assign rfl tt rfl rfl) ?_
             refine SL.keep (l' := [(89, _, _), (36, _, _), (7, _, _), (4, _, _), (2, _, _)]) ⟨rfl, rfl, rfl, rfl, rfl, trivial⟩ ?_
             refine SL.nil (SE.thenK hK36 ?_)
             refine SC.cond rfl (fun c89 => ?_) (fun c89 => ?_)
             ·
              have c89n := c89
              try simp only [Bool.and_eq_true, Bool.or_eq_true, decide_eq_true_eq, Bool.true_and, Bool.not_eq_true', Bool.not_eq_false', beq_iff_eq, bne_iff_ne, decide_eq_false_iff_not, beq_eq_false_iff_ne, bne_eq_false_iff_eq, ne_eq, Bool.or_eq_false_iff, Bool.and_eq_false_iff] at c89n
              refine SC.skip (SE.thenK hK35 (SC.cond_t rfl c89 (SC.seq (fun K37 hK37 => SC.seq (fun K38 hK38 => SC.region ?_)))))
              refine SL.step (PS.move rfl tt rfl rfl) ?_
              refine SL.step (PS.indexS (α := Vl) (xs := l7) rfl tt rfl tt Try.underlying33 Try.sizeOf35 (fun w hw _ => Rw.sl (hw.ok _ (mem_nth (k := 0) rfl))) rfl (fun hg => by first | omega | (simp only [List.length_cons, List.length_nil]; omega) | (try simp only [Bool.and_eq_true, Bool.or_eq_true, decide_eq_true_eq, Bool.true_and, Bool.not_eq_true', beq_iff_eq, bne_iff_ne, decide_eq_false_iff_not, beq_eq_false_iff_ne, ne_eq] at hg; omega)) rfl rfl) ?_
              refine SL.step (PS.fieldAddr rfl tt Try.fieldAt_35_0 rfl rfl) ?_
              refine SL.step (PS.loadSF (α := Vl) (xs := l7) (m := 0) rfl tt (fun w hw _ => Rw.sl (hw.ok _ (mem_nth (k := 0) rfl))) (fun hg => by first | omega | (simp only [List.length_cons, List.length_nil]; omega) | (try simp only [Bool.and_eq_true, Bool.or_eq_true, decide_eq_true_eq, Bool.true_and, Bool.not_eq_true', beq_iff_eq, bne_iff_ne, decide_eq_false_iff_not, beq_eq_false_iff_ne, ne_eq] at hg; omega)) rfl Try.isAgg3 rfl rfl) ?_
              refine SL.step (PS.neq rfl tt rfl tt rfl rfl) ?_
              refine SL.keep (l' := [(97, _, _), (7, _, _), (4, _, _), (2, _, _)]) ⟨rfl, rfl, rfl, rfl, trivial⟩ ?_
              refine SL.nil (SE.thenK hK38 ?_)
              refine SC.cond rfl (fun c97 => ?_) (fun c97 => ?_)
              ·
               have c97n := c97
               try simp only [Bool.and_eq_true, Bool.or_eq_true, decide_eq_true_eq, Bool.true_and, Bool.not_eq_true', Bool.not_eq_false', beq_iff_eq, bne_iff_ne, decide_eq_false_iff_not, beq_eq_false_iff_ne, bne_eq_false_iff_eq, ne_eq, Bool.or_eq_false_iff, Bool.and_eq_false_iff] at c97n
               refine SC.seq (fun K39 hK39 => SC.region ?_)
               refine SL.step (PS.move rfl tt rfl rfl) ?_
               refine SL.step (PS.indexS (α := Vl) (xs := l7) rfl tt rfl tt Try.underlying33 Try.sizeOf35 (fun w hw _ => Rw.sl (hw.ok _ (mem_nth (k := 0) rfl))) rfl (fun hg => by first | omega | (simp only [List.length_cons, List.length_nil]; omega) | (try simp only [Bool.and_eq_true, Bool.or_eq_true, decide_eq_true_eq, Bool.true_and, Bool.not_eq_true', beq_iff_eq, bne_iff_ne, decide_eq_false_iff_not, beq_eq_false_iff_ne, ne_eq] at hg; omega)) rfl rfl) ?_
               refine SL.step (PS.loadS (α := Vl) (xs := l7) (m := 0) (vs := [.int .i64 ((l7.getD (Int.toNat 0) Dat.d).k), .int .u64 ((l7.getD (Int.toNat 0) Dat.d).b), .int .i64 ((l7.getD (Int.toNat 0) Dat.d).bl), .int .i64 ((l7.getD (Int.toNat 0) Dat.d).off)]) rfl tt (fun w hw _ => Rw.sl (hw.ok _ (mem_nth (k := 0) rfl))) (fun hg => by first | omega | (simp only [List.length_cons, List.length_nil]; omega) | (try simp only [Bool.and_eq_true, Bool.or_eq_true, decide_eq_true_eq, Bool.true_and, Bool.not_eq_true', beq_iff_eq, bne_iff_ne, decide_eq_false_iff_not, beq_eq_false_iff_ne, ne_eq] at hg; omega)) rfl Try.isAgg35 Try.sizeOf35 rfl rfl) ?_
               refine SL.store_own (k := 1) (own' := [_, _, _]) (cs' := [_, _, _, _]) rfl rfl rfl rfl rfl rfl rfl Try.sizeOf35 rfl (Nat.le_of_ble_eq_true rfl) rfl rfl rfl rfl ?_
               refine SL.step (PS.assign rfl tt rfl rfl) ?_
               refine SL.keep (l' := [(5, _, _), (4, _, _)]) ⟨rfl, rfl, trivial⟩ ?_
               refine SL.nil (SE.thenK hK39 (SC.ret (SE.then_ret (SE.block_ret (SE.then_ret ?_)))))
               exact finct (k := 1) rfl Try.isAgg35 Try.sizeOf35 rfl rfl rfl rfl rfl rfl (fun _ _ => congrArg (fun z : Vl × Int => Value.tuple #[Value.agg [.int .i64 z.1.k, .int .u64 z.1.b, .int .i64 z.1.bl, .int .i64 z.1.off].toArray, Value.int .i64 z.2]) (show (d_latheref10_Eval p0 p1) = (((l7.getD (Int.toNat 0) Dat.d), 0) : Vl × Int) from ((bifF c16).trans ((letV_eq (hL1.symm.trans (show d_latheref10_Eval_R6 p0 p1 (k1p + 1) l7 x8 = (l7, x8) from (bifF c21)))).trans ((bifF c37).trans ((bifF c37a).trans ((bifF c37b).trans ((bifF c37c).trans ((bifF c52).trans ((bifF c52a).trans ((bifF c52b).trans ((bifF c66).trans ((bifF c78).trans ((bifT c89).trans (bifT c97)))))))))))))).symm)
              ·
               have c97n := c97
               try simp only [Bool.and_eq_true, Bool.or_eq_true, decide_eq_true_eq, Bool.true_and, Bool.not_eq_true', Bool.not_eq_false', beq_iff_eq, bne_iff_ne, decide_eq_false_iff_not, beq_eq_false_iff_ne, bne_eq_false_iff_eq, ne_eq, Bool.or_eq_false_iff, Bool.and_eq_false_iff] at c97n
               refine SC.skip (SE.thenK hK37 (SC.seq (fun K40 hK40 => ?_)))
               refine SC.draw (S := SP _ _ _) 16 (by kernel_rfl) (by kernel_rfl) (fun _ h => h) ?_
               refine SD.take 0 rfl rfl (by kernel_rfl) (PS.fieldAddr rfl tt Try.fieldAt_25_0 rfl rfl) ?_
               refine SD.take 1 rfl rfl (by kernel_rfl) (PS.load_own (k := 2) rfl tt rfl rfl rfl Try.isAgg3 rfl rfl) ?_
               refine SD.take 2 rfl rfl (by kernel_rfl) (PS.fieldAddr rfl tt Try.fieldAt_25_3 rfl rfl) ?_
               refine SD.take 3 rfl rfl (by kernel_rfl) (PS.load_own (k := 2) rfl tt rfl rfl rfl Try.isAgg3 rfl rfl) ?_
               refine SD.take 4 rfl rfl (by kernel_rfl) (PS.fieldAddr rfl tt Try.fieldAt_25_2 rfl rfl) ?_
               refine SD.take 5 rfl rfl (by kernel_rfl) (PS.load_own (k := 2) rfl tt rfl rfl rfl Try.isAgg3 rfl rfl) ?_
               refine SD.take 6 rfl rfl (by kernel_rfl) (PS.move rfl tt rfl rfl) ?_
               refine SD.take 7 rfl rfl (by kernel_rfl) (PS.indexS (α := Vl) (xs := l7) rfl tt rfl tt Try.underlying33 Try.sizeOf35 (fun w hw _ => Rw.sl (hw.ok _ (mem_nth (k := 0) rfl))) rfl (fun hg => by first | omega | (simp only [List.length_cons, List.length_nil]; omega) | (try simp only [Bool.and_eq_true, Bool.or_eq_true, decide_eq_true_eq, Bool.true_and, Bool.not_eq_true', beq_iff_eq, bne_iff_ne, decide_eq_false_iff_not, beq_eq_false_iff_ne, ne_eq] at hg; omega)) rfl rfl) ?_
               refine SD.take 8 rfl rfl (by kernel_rfl) (PS.fieldAddr rfl tt Try.fieldAt_35_1 rfl rfl) ?_
               refine SD.take 9 rfl rfl (by kernel_rfl) (PS.loadSF (α := Vl) (xs := l7) (m := 0) rfl tt (fun w hw _ => Rw.sl (hw.ok _ (mem_nth (k := 0) rfl))) (fun hg => by first | omega | (simp only [List.length_cons, List.length_nil]; omega) | (try simp only [Bool.and_eq_true, Bool.or_eq_true, decide_eq_true_eq, Bool.true_and, Bool.not_eq_true', beq_iff_eq, bne_iff_ne, decide_eq_false_iff_not, beq_eq_false_iff_ne, ne_eq] at hg; omega)) rfl Try.isAgg27 rfl rfl) ?_
               refine SD.one 10 rfl (by kernel_rfl) (fun inv10 => ?_)
               refine SL.callV (vs := [_, _, _, _]) Try.call32 ⟨⟨_, rfl, tt⟩, ⟨_, rfl, tt⟩, ⟨_, rfl, tt⟩, ⟨_, rfl, tt⟩, trivial⟩ (fun hg => latheref01_Convert_V p0.op p0.n p0.t ((l7.getD (Int.toNat 0) Dat.d).b) ) rfl rfl ?_
               refine SL.nil ?_
               refine SE.next (fun _ h => h.drop (List.Sublist.refl _) (fun _ h => h)) inv10 ?_
               refine SD.take 11 rfl rfl (by kernel_rfl) (PS.move rfl tt rfl rfl) ?_
               refine SD.take 12 rfl rfl (by kernel_rfl) (PS.extract rfl tt rfl rfl rfl) ?_
               refine SD.take 13 rfl rfl (by kernel_rfl) (PS.extract rfl tt rfl rfl rfl) ?_
               refine SD.take 14 rfl rfl (by kernel_rfl) (PS.assign rfl tt rfl rfl) ?_
               refine SD.take 15 rfl rfl (by kernel_rfl) (PS.assign rfl tt rfl rfl) ?_
               clear inv10
               refine SD.tail (by kernel_rfl) (os := []) rfl ?_
               refine SL.keep (l' := [(9, _, _), (4, _, _)]) ⟨rfl, rfl, trivial⟩ ?_
               refine SL.nil (SE.calm (SE.thenK hK40 (SC.seq (fun K41 hK41 => SC.region ?_))))
               refine SL.step (PS.move rfl tt rfl rfl) ?_
               refine SL.callV (vs := [_]) Try.call33 ⟨⟨_, rfl, tt⟩, trivial⟩ (fun hg => latheref10_number_V ((d_latheref01_Convert p0.op p0.n p0.t ((l7.getD (Int.toNat 0) Dat.d).b)).1) ) rfl rfl ?_
               refine SL.store_own (k := 1) (own' := [_, _, _]) (cs' := [_, _, _, _]) rfl rfl rfl rfl rfl rfl rfl Try.sizeOf35 rfl (Nat.le_of_ble_eq_true rfl) rfl rfl rfl rfl ?_
               refine SL.step (PS.assign rfl tt rfl rfl) ?_
               refine SL.keep (l' := [(5, _, _), (4, _, _)]) ⟨rfl, rfl, trivial⟩ ?_
               refine SL.nil (SE.thenK hK41 (SC.ret (SE.block_ret (SE.then_ret ?_))))
               exact finct (k := 1) rfl Try.isAgg35 Try.sizeOf35 rfl rfl rfl rfl rfl rfl (fun _ _ => congrArg (fun z : Vl × Int => Value.tuple #[Value.agg [.int .i64 z.1.k, .int .u64 z.1.b, .int .i64 z.1.bl, .int .i64 z.1.off].toArray, Value.int .i64 z.2]) (show (d_latheref10_Eval p0 p1) = (((d_latheref10_number ((d_latheref01_Convert p0.op p0.n p0.t ((l7.getD (Int.toNat 0) Dat.d).b)).1)), 0) : Vl × Int) from ((bifF c16).trans ((letV_eq (hL1.symm.trans (show d_latheref10_Eval_R6 p0 p1 (k1p + 1) l7 x8 = (l7, x8) from (bifF c21)))).trans ((bifF c37).trans ((bifF c37a).trans ((bifF c37b).trans ((bifF c37c).trans ((bifF c52).trans ((bifF c52a).trans ((bifF c52b).trans ((bifF c66).trans ((bifF c78).trans ((bifT c89).trans (bifF c97)))))))))))))).symm)
             ·
              have c89n := c89
              try simp only [Bool.and_eq_true, Bool.or_eq_true, decide_eq_true_eq, Bool.true_and, Bool.not_eq_true', Bool.not_eq_false', beq_iff_eq, bne_iff_ne, decide_eq_false_iff_not, beq_eq_false_iff_ne, bne_eq_false_iff_eq, ne_eq, Bool.or_eq_false_iff, Bool.and_eq_false_iff] at c89n
              refine SC.seq (fun K42 hK42 => SC.region ?_)
              refine SL.step (PS.eql rfl tt rfl tt rfl rfl) ?_
              refine SL.step (PS.assign rfl tt rfl rfl) ?_
              refine SL.keep (l' := [(89, _, _), (36, _, _), (7, _, _), (4, _, _), (2, _, _)]) ⟨rfl, rfl, rfl, rfl, rfl, trivial⟩ ?_
              refine SL.nil (SE.thenK hK42 ?_)
              refine SC.cond rfl (fun c89a => ?_) (fun c89a => ?_)
              ·
               have c89an := c89a
               try simp only [Bool.and_eq_true, Bool.or_eq_true, decide_eq_true_eq, Bool.true_and, Bool.not_eq_true', Bool.not_eq_false', beq_iff_eq, bne_iff_ne, decide_eq_false_iff_not, beq_eq_false_iff_ne, bne_eq_false_iff_eq, ne_eq, Bool.or_eq_false_iff, Bool.and_eq_false_iff] at c89an
               refine SC.skip (SE.thenK hK35 (SC.cond_t rfl c89a (SC.seq (fun K43 hK43 => SC.seq (fun K44 hK44 => SC.region ?_)))))
               refine SL.step (PS.move rfl tt rfl rfl) ?_
               refine SL.step (PS.indexS (α := Vl) (xs := l7) rfl tt rfl tt Try.underlying33 Try.sizeOf35 (fun w hw _ => Rw.sl (hw.ok _ (mem_nth (k := 0) rfl))) rfl (fun hg => by first | omega | (simp only [List.length_cons, List.length_nil]; omega) | (try simp only [Bool.and_eq_true, Bool.or_eq_true, decide_eq_true_eq, Bool.true_and, Bool.not_eq_true', beq_iff_eq, bne_iff_ne, decide_eq_false_iff_not, beq_eq_false_iff_ne, ne_eq] at hg; omega)) rfl rfl) ?_
               refine SL.step (PS.fieldAddr rfl tt Try.fieldAt_35_0 rfl rfl) ?_
               refine SL.step (PS.loadSF (α := Vl) (xs := l7) (m := 0) rfl tt (fun w hw _ => Rw.sl (hw.ok _ (mem_nth (k := 0) rfl))) (fun hg => by first | omega | (simp only [List.length_cons, List.length_nil]; omega) | (try simp only [Bool.and_eq_true, Bool.or_eq_true, decide_eq_true_eq, Bool.true_and, Bool.not_eq_true', beq_iff_eq, bne_iff_ne, decide_eq_false_iff_not, beq_eq_false_iff_ne, ne_eq] at hg; omega)) rfl Try.isAgg3 rfl rfl) ?_
               refine SL.step (PS.neq rfl tt rfl tt rfl rfl) ?_
               refine SL.keep (l' := [(97, _, _), (7, _, _), (4, _, _), (2, _, _)]) ⟨rfl, rfl, rfl, rfl, trivial⟩ ?_
               refine SL.nil (SE.thenK hK44 ?_)
               refine SC.cond rfl (fun c97 => ?_) (fun c97 => ?_)
               ·
                have c97n := c97
                try simp only [Bool.and_eq_true, Bool.or_eq_true, decide_eq_true_eq, Bool.true_and, Bool.not_eq_true', Bool.not_eq_false', beq_iff_eq, bne_iff_ne, decide_eq_false_iff_not, beq_eq_false_iff_ne, bne_eq_false_iff_eq, ne_eq, Bool.or_eq_false_iff, Bool.and_eq_false_iff] at c97n
                refine SC.seq (fun K45 hK45 => SC.region ?_)
                refine SL.step (PS.move rfl tt rfl rfl) ?_
                refine SL.step (PS.indexS (α := Vl) (xs := l7) rfl tt rfl tt Try.underlying33 Try.sizeOf35 (fun w hw _ => Rw.sl (hw.ok _ (mem_nth (k := 0) rfl))) rfl (fun hg => by first | omega | (simp only [List.length_cons, List.length_nil]; omega) | (try simp only [Bool.and_eq_true, Bool.or_eq_true, decide_eq_true_eq, Bool.true_and, Bool.not_eq_true', beq_iff_eq, bne_iff_ne, decide_eq_false_iff_not, beq_eq_false_iff_ne, ne_eq] at hg; omega)) rfl rfl) ?_
                refine SL.step (PS.loadS (α := Vl) (xs := l7) (m := 0) (vs := [.int .i64 ((l7.getD (Int.toNat 0) Dat.d).k), .int .u64 ((l7.getD (Int.toNat 0) Dat.d).b), .int .i64 ((l7.getD (Int.toNat 0) Dat.d).bl), .int .i64 ((l7.getD (Int.toNat 0) Dat.d).off)]) rfl tt (fun w hw _ => Rw.sl (hw.ok _ (mem_nth (k := 0) rfl))) (fun hg => by first | omega | (simp only [List.length_cons, List.length_nil]; omega) | (try simp only [Bool.and_eq_true, Bool.or_eq_true, decide_eq_true_eq, Bool.true_and, Bool.not_eq_true', beq_iff_eq, bne_iff_ne, decide_eq_false_iff_not, beq_eq_false_iff_ne, ne_eq] at hg; omega)) rfl Try.isAgg35 Try.sizeOf35 rfl rfl) ?_
                refine SL.store_own (k := 1) (own' := [_, _, _]) (cs' := [_, _, _, _]) rfl rfl rfl rfl rfl rfl rfl Try.sizeOf35 rfl (Nat.le_of_ble_eq_true rfl) rfl rfl rfl rfl ?_
                refine SL.step (PS.assign rfl tt rfl rfl) ?_
                refine SL.keep (l' := [(5, _, _), (4, _, _)]) ⟨rfl, rfl, trivial⟩ ?_
                refine SL.nil (SE.thenK hK45 (SC.ret (SE.then_ret (SE.block_ret (SE.then_ret ?_)))))
                exact finct (k := 1) rfl Try.isAgg35 Try.sizeOf35 rfl rfl rfl rfl rfl rfl (fun _ _ => congrArg (fun z : Vl × Int => Value.tuple #[Value.agg [.int .i64 z.1.k, .int .u64 z.1.b, .int .i64 z.1.bl, .int .i64 z.1.off].toArray, Value.int .i64 z.2]) (show (d_latheref10_Eval p0 p1) = (((l7.getD (Int.toNat 0) Dat.d), 0) : Vl × Int) from ((bifF c16).trans ((letV_eq (hL1.symm.trans (show d_latheref10_Eval_R6 p0 p1 (k1p + 1) l7 x8 = (l7, x8) from (bifF c21)))).trans ((bifF c37).trans ((bifF c37a).trans ((bifF c37b).trans ((bifF c37c).trans ((bifF c52).trans ((bifF c52a).trans ((bifF c52b).trans ((bifF c66).trans ((bifF c78).trans ((bifF c89).trans ((bifT c89a).trans (bifT c97))))))))))))))).symm)
               ·
                have c97n := c97
                try simp only [Bool.and_eq_true, Bool.or_eq_true, decide_eq_true_eq, Bool.true_and, Bool.not_eq_true', Bool.not_eq_false', beq_iff_eq, bne_iff_ne, decide_eq_false_iff_not, beq_eq_false_iff_ne, bne_eq_false_iff_eq, ne_eq, Bool.or_eq_false_iff, Bool.and_eq_false_iff] at c97n
                refine SC.skip (SE.thenK hK43 (SC.seq (fun K46 hK46 => ?_)))
                refine SC.draw (S := SP _ _ _) 16 (by kernel_rfl) (by kernel_rfl) (fun _ h => h) ?_
                refine SD.take 0 rfl rfl (by kernel_rfl) (PS.fieldAddr rfl tt Try.fieldAt_25_0 rfl rfl) ?_
                refine SD.take 1 rfl rfl (by kernel_rfl) (PS.load_own (k := 2) rfl tt rfl rfl rfl Try.isAgg3 rfl rfl) ?_
                refine SD.take 2 rfl rfl (by kernel_rfl) (PS.fieldAddr rfl tt Try.fieldAt_25_3 rfl rfl) ?_
                refine SD.take 3 rfl rfl (by kernel_rfl) (PS.load_own (k := 2) rfl tt rfl rfl rfl Try.isAgg3 rfl rfl) ?_
                refine SD.take 4 rfl rfl (by kernel_rfl) (PS.fieldAddr rfl tt Try.fieldAt_25_2 rfl rfl) ?_
                refine SD.take 5 rfl rfl (by kernel_rfl) (PS.load_own (k := 2) rfl tt rfl rfl rfl Try.isAgg3 rfl rfl) ?_
                refine SD.take 6 rfl rfl (by kernel_rfl) (PS.move rfl tt rfl rfl) ?_
                refine SD.take 7 rfl rfl (by kernel_rfl) (PS.indexS (α := Vl) (xs := l7) rfl tt rfl tt Try.underlying33 Try.sizeOf35 (fun w hw _ => Rw.sl (hw.ok _ (mem_nth (k := 0) rfl))) rfl (fun hg => by first | omega | (simp only [List.length_cons, List.length_nil]; omega) | (try simp only [Bool.and_eq_true, Bool.or_eq_true, decide_eq_true_eq, Bool.true_and, Bool.not_eq_true', beq_iff_eq, bne_iff_ne, decide_eq_false_iff_not, beq_eq_false_iff_ne, ne_eq] at hg; omega)) rfl rfl) ?_
                refine SD.take 8 rfl rfl (by kernel_rfl) (PS.fieldAddr rfl tt Try.fieldAt_35_1 rfl rfl) ?_
                refine SD.take 9 rfl rfl (by kernel_rfl) (PS.loadSF (α := Vl) (xs := l7) (m := 0) rfl tt (fun w hw _ => Rw.sl (hw.ok _ (mem_nth (k := 0) rfl))) (fun hg => by first | omega | (simp only [List.length_cons, List.length_nil]; omega) | (try simp only [Bool.and_eq_true, Bool.or_eq_true, decide_eq_true_eq, Bool.true_and, Bool.not_eq_true', beq_iff_eq, bne_iff_ne, decide_eq_false_iff_not, beq_eq_false_iff_ne, ne_eq] at hg; omega)) rfl Try.isAgg27 rfl rfl) ?_
                refine SD.one 10 rfl (by kernel_rfl) (fun inv10 => ?_)
                refine SL.callV (vs := [_, _, _, _]) Try.call32 ⟨⟨_, rfl, tt⟩, ⟨_, rfl, tt⟩, ⟨_, rfl, tt⟩, ⟨_, rfl, tt⟩, trivial⟩ (fun hg => latheref01_Convert_V p0.op p0.n p0.t ((l7.getD (Int.toNat 0) Dat.d).b) ) rfl rfl ?_
                refine SL.nil ?_
                refine SE.next (fun _ h => h.drop (List.Sublist.refl _) (fun _ h => h)) inv10 ?_
                refine SD.take 11 rfl rfl (by kernel_rfl) (PS.move rfl tt rfl rfl) ?_
                refine SD.take 12 rfl rfl (by kernel_rfl) (PS.extract rfl tt rfl rfl rfl) ?_
                refine SD.take 13 rfl rfl (by kernel_rfl) (PS.extract rfl tt rfl rfl rfl) ?_
                refine SD.take 14 rfl rfl (by kernel_rfl) (PS.assign rfl tt rfl rfl) ?_
                refine SD.take 15 rfl rfl (by kernel_rfl) (PS.assign rfl tt rfl rfl) ?_
                clear inv10
                refine SD.tail (by kernel_rfl) (os := []) rfl ?_
                refine SL.keep (l' := [(9, _, _), (4, _, _)]) ⟨rfl, rfl, trivial⟩ ?_
                refine SL.nil (SE.calm (SE.thenK hK46 (SC.seq (fun K47 hK47 => SC.region ?_))))
                refine SL.step (PS.move rfl tt rfl rfl) ?_
                refine SL.callV (vs := [_]) Try.call33 ⟨⟨_, rfl, tt⟩, trivial⟩ (fun hg => latheref10_number_V ((d_latheref01_Convert p0.op p0.n p0.t ((l7.getD (Int.toNat 0) Dat.d).b)).1) ) rfl rfl ?_
                refine SL.store_own (k := 1) (own' := [_, _, _]) (cs' := [_, _, _, _]) rfl rfl rfl rfl rfl rfl rfl Try.sizeOf35 rfl (Nat.le_of_ble_eq_true rfl) rfl rfl rfl rfl ?_
                refine SL.step (PS.assign rfl tt rfl rfl) ?_
                refine SL.keep (l' := [(5, _, _), (4, _, _)]) ⟨rfl, rfl, trivial⟩ ?_
                refine SL.nil (SE.thenK hK47 (SC.ret (SE.block_ret (SE.then_ret ?_))))
                exact finct (k := 1) rfl Try.isAgg35 Try.sizeOf35 rfl rfl rfl rfl rfl rfl (fun _ _ => congrArg (fun z : Vl × Int => Value.tuple #[Value.agg [.int .i64 z.1.k, .int .u64 z.1.b, .int .i64 z.1.bl, .int .i64 z.1.off].toArray, Value.int .i64 z.2]) (show (d_latheref10_Eval p0 p1) = (((d_latheref10_number ((d_latheref01_Convert p0.op p0.n p0.t ((l7.getD (Int.toNat 0) Dat.d).b)).1)), 0) : Vl × Int) from ((bifF c16).trans ((letV_eq (hL1.symm.trans (show d_latheref10_Eval_R6 p0 p1 (k1p + 1) l7 x8 = (l7, x8) from (bifF c21)))).trans ((bifF c37).trans ((bifF c37a).trans ((bifF c37b).trans ((bifF c37c).trans ((bifF c52).trans ((bifF c52a).trans ((bifF c52b).trans ((bifF c66).trans ((bifF c78).trans ((bifF c89).trans ((bifT c89a).trans (bifF c97))))))))))))))).symm)
              ·
               have c89an := c89a
               try simp only [Bool.and_eq_true, Bool.or_eq_true, decide_eq_true_eq, Bool.true_and, Bool.not_eq_true', Bool.not_eq_false', beq_iff_eq, bne_iff_ne, decide_eq_false_iff_not, beq_eq_false_iff_ne, bne_eq_false_iff_eq, ne_eq, Bool.or_eq_false_iff, Bool.and_eq_false_iff] at c89an
               refine SC.region ?_
               refine SL.step (PS.eql rfl tt rfl tt rfl rfl) ?_
               refine SL.step (PS.assign rfl tt rfl rfl) ?_
               refine SL.keep (l' := [(89, _, _), (7, _, _), (4, _, _), (2, _, _)]) ⟨rfl, rfl, rfl, rfl, trivial⟩ ?_
               refine SL.nil (SE.thenK hK35 ?_)
               refine SC.cond rfl (fun c89b => ?_) (fun c89b => ?_)
               ·
                have c89bn := c89b
                try simp only [Bool.and_eq_true, Bool.or_eq_true, decide_eq_true_eq, Bool.true_and, Bool.not_eq_true', Bool.not_eq_false', beq_iff_eq, bne_iff_ne, decide_eq_false_iff_not, beq_eq_false_iff_ne, bne_eq_false_iff_eq, ne_eq, Bool.or_eq_false_iff, Bool.and_eq_false_iff] at c89bn
                refine SC.seq (fun K48 hK48 => SC.seq (fun K49 hK49 => SC.region ?_))
                refine SL.step (PS.move rfl tt rfl rfl) ?_
                refine SL.step (PS.indexS (α := Vl) (xs := l7) rfl tt rfl tt Try.underlying33 Try.sizeOf35 (fun w hw _ => Rw.sl (hw.ok _ (mem_nth (k := 0) rfl))) rfl (fun hg => by first | omega | (simp only [List.length_cons, List.length_nil]; omega) | (try simp only [Bool.and_eq_true, Bool.or_eq_true, decide_eq_true_eq, Bool.true_and, Bool.not_eq_true', beq_iff_eq, bne_iff_ne, decide_eq_false_iff_not, beq_eq_false_iff_ne, ne_eq] at hg; omega)) rfl rfl) ?_
                refine SL.step (PS.fieldAddr rfl tt Try.fieldAt_35_0 rfl rfl) ?_
                refine SL.step (PS.loadSF (α := Vl) (xs := l7) (m := 0) rfl tt (fun w hw _ => Rw.sl (hw.ok _ (mem_nth (k := 0) rfl))) (fun hg => by first | omega | (simp only [List.length_cons, List.length_nil]; omega) | (try simp only [Bool.and_eq_true, Bool.or_eq_true, decide_eq_true_eq, Bool.true_and, Bool.not_eq_true', beq_iff_eq, bne_iff_ne, decide_eq_false_iff_not, beq_eq_false_iff_ne, ne_eq] at hg; omega)) rfl Try.isAgg3 rfl rfl) ?_
                refine SL.step (PS.neq rfl tt rfl tt rfl rfl) ?_
                refine SL.keep (l' := [(97, _, _), (7, _, _), (4, _, _), (2, _, _)]) ⟨rfl, rfl, rfl, rfl, trivial⟩ ?_
                refine SL.nil (SE.thenK hK49 ?_)
                refine SC.cond rfl (fun c97 => ?_) (fun c97 => ?_)
                ·
                 have c97n := c97
                 try simp only [Bool.and_eq_true, Bool.or_eq_true, decide_eq_true_eq, Bool.true_and, Bool.not_eq_true', Bool.not_eq_false', beq_iff_eq, bne_iff_ne, decide_eq_false_iff_not, beq_eq_false_iff_ne, bne_eq_false_iff_eq, ne_eq, Bool.or_eq_false_iff, Bool.and_eq_false_iff] at c97n
                 refine SC.seq (fun K50 hK50 => SC.region ?_)
                 refine SL.step (PS.move rfl tt rfl rfl) ?_
                 refine SL.step (PS.indexS (α := Vl) (xs := l7) rfl tt rfl tt Try.underlying33 Try.sizeOf35 (fun w hw _ => Rw.sl (hw.ok _ (mem_nth (k := 0) rfl))) rfl (fun hg => by first | omega | (simp only [List.length_cons, List.length_nil]; omega) | (try simp only [Bool.and_eq_true, Bool.or_eq_true, decide_eq_true_eq, Bool.true_and, Bool.not_eq_true', beq_iff_eq, bne_iff_ne, decide_eq_false_iff_not, beq_eq_false_iff_ne, ne_eq] at hg; omega)) rfl rfl) ?_
                 refine SL.step (PS.loadS (α := Vl) (xs := l7) (m := 0) (vs := [.int .i64 ((l7.getD (Int.toNat 0) Dat.d).k), .int .u64 ((l7.getD (Int.toNat 0) Dat.d).b), .int .i64 ((l7.getD (Int.toNat 0) Dat.d).bl), .int .i64 ((l7.getD (Int.toNat 0) Dat.d).off)]) rfl tt (fun w hw _ => Rw.sl (hw.ok _ (mem_nth (k := 0) rfl))) (fun hg => by first | omega | (simp only [List.length_cons, List.length_nil]; omega) | (try simp only [Bool.and_eq_true, Bool.or_eq_true, decide_eq_true_eq, Bool.true_and, Bool.not_eq_true', beq_iff_eq, bne_iff_ne, decide_eq_false_iff_not, beq_eq_false_iff_ne, ne_eq] at hg; omega)) rfl Try.isAgg35 Try.sizeOf35 rfl rfl) ?_
                 refine SL.store_own (k := 1) (own' := [_, _, _]) (cs' := [_, _, _, _]) rfl rfl rfl rfl rfl rfl rfl Try.sizeOf35 rfl (Nat.le_of_ble_eq_true rfl) rfl rfl rfl rfl ?_
                 refine SL.step (PS.assign rfl tt rfl rfl) ?_
                 refine SL.keep (l' := [(5, _, _), (4, _, _)]) ⟨rfl, rfl, trivial⟩ ?_
                 refine SL.nil (SE.thenK hK50 (SC.ret (SE.then_ret (SE.block_ret (SE.then_ret ?_)))))
                 exact finct (k := 1) rfl Try.isAgg35 Try.sizeOf35 rfl rfl rfl rfl rfl rfl (fun _ _ => congrArg (fun z : Vl × Int => Value.tuple #[Value.agg [.int .i64 z.1.k, .int .u64 z.1.b, .int .i64 z.1.bl, .int .i64 z.1.off].toArray, Value.int .i64 z.2]) (show (d_latheref10_Eval p0 p1) = (((l7.getD (Int.toNat 0) Dat.d), 0) : Vl × Int) from ((bifF c16).trans ((letV_eq (hL1.symm.trans (show d_latheref10_Eval_R6 p0 p1 (k1p + 1) l7 x8 = (l7, x8) from (bifF c21)))).trans ((bifF c37).trans ((bifF c37a).trans ((bifF c37b).trans ((bifF c37c).trans ((bifF c52).trans ((bifF c52a).trans ((bifF c52b).trans ((bifF c66).trans ((bifF c78).trans ((bifF c89).trans ((bifF c89a).trans ((bifT c89b).trans (bifT c97)))))))))))))))).symm)
                ·
                 have c97n := c97
                 try simp only [Bool.and_eq_true, Bool.or_eq_true, decide_eq_true_eq, Bool.true_and, Bool.not_eq_true', Bool.not_eq_false', beq_iff_eq, bne_iff_ne, decide_eq_false_iff_not, beq_eq_false_iff_ne, bne_eq_false_iff_eq, ne_eq, Bool.or_eq_false_iff, Bool.and_eq_false_iff] at c97n
                 refine SC.skip (SE.thenK hK48 (SC.seq (fun K51 hK51 => ?_)))
                 refine SC.draw (S := SP _ _ _) 16 (by kernel_rfl) (by kernel_rfl) (fun _ h => h) ?_
                 refine SD.take 0 rfl rfl (by kernel_rfl) (PS.fieldAddr rfl tt Try.fieldAt_25_0 rfl rfl) ?_
                 refine SD.take 1 rfl rfl (by kernel_rfl) (PS.load_own (k := 2) rfl tt rfl rfl rfl Try.isAgg3 rfl rfl) ?_
                 refine SD.take 2 rfl rfl (by kernel_rfl) (PS.fieldAddr rfl tt Try.fieldAt_25_3 rfl rfl) ?_
                 refine SD.take 3 rfl rfl (by kernel_rfl) (PS.load_own (k := 2) rfl tt rfl rfl rfl Try.isAgg3 rfl rfl) ?_
                 refine SD.take 4 rfl rfl (by kernel_rfl) (PS.fieldAddr rfl tt Try.fieldAt_25_2 rfl rfl) ?_
                 refine SD.take 5 rfl rfl (by kernel_rfl) (PS.load_own (k := 2) rfl tt rfl rfl rfl Try.isAgg3 rfl rfl) ?_
                 refine SD.take 6 rfl rfl (by kernel_rfl) (PS.move rfl tt rfl rfl) ?_
                 refine SD.take 7 rfl rfl (by kernel_rfl) (PS.indexS (α := Vl) (xs := l7) rfl tt rfl tt Try.underlying33 Try.sizeOf35 (fun w hw _ => Rw.sl (hw.ok _ (mem_nth (k := 0) rfl))) rfl (fun hg => by first | omega | (simp only [List.length_cons, List.length_nil]; omega) | (try simp only [Bool.and_eq_true, Bool.or_eq_true, decide_eq_true_eq, Bool.true_and, Bool.not_eq_true', beq_iff_eq, bne_iff_ne, decide_eq_false_iff_not, beq_eq_false_iff_ne, ne_eq] at hg; omega)) rfl rfl) ?_
                 refine SD.take 8 rfl rfl (by kernel_rfl) (PS.fieldAddr rfl tt Try.fieldAt_35_1 rfl rfl) ?_
                 refine SD.take 9 rfl rfl (by kernel_rfl) (PS.loadSF (α := Vl) (xs := l7) (m := 0) rfl tt (fun w hw _ => Rw.sl (hw.ok _ (mem_nth (k := 0) rfl))) (fun hg => by first | omega | (simp only [List.length_cons, List.length_nil]; omega) | (try simp only [Bool.and_eq_true, Bool.or_eq_true, decide_eq_true_eq, Bool.true_and, Bool.not_eq_true', beq_iff_eq, bne_iff_ne, decide_eq_false_iff_not, beq_eq_false_iff_ne, ne_eq] at hg; omega)) rfl Try.isAgg27 rfl rfl) ?_
                 refine SD.one 10 rfl (by kernel_rfl) (fun inv10 => ?_)
                 refine SL.callV (vs := [_, _, _, _]) Try.call32 ⟨⟨_, rfl, tt⟩, ⟨_, rfl, tt⟩, ⟨_, rfl, tt⟩, ⟨_, rfl, tt⟩, trivial⟩ (fun hg => latheref01_Convert_V p0.op p0.n p0.t ((l7.getD (Int.toNat 0) Dat.d).b) ) rfl rfl ?_
                 refine SL.nil ?_
                 refine SE.next (fun _ h => h.drop (List.Sublist.refl _) (fun _ h => h)) inv10 ?_
                 refine SD.take 11 rfl rfl (by kernel_rfl) (PS.move rfl tt rfl rfl) ?_
                 refine SD.take 12 rfl rfl (by kernel_rfl) (PS.extract rfl tt rfl rfl rfl) ?_
                 refine SD.take 13 rfl rfl (by kernel_rfl) (PS.extract rfl tt rfl rfl rfl) ?_
                 refine SD.take 14 rfl rfl (by kernel_rfl) (PS.assign rfl tt rfl rfl) ?_
                 refine SD.take 15 rfl rfl (by kernel_rfl) (PS.assign rfl tt rfl rfl) ?_
                 clear inv10
                 refine SD.tail (by kernel_rfl) (os := []) rfl ?_
                 refine SL.keep (l' := [(9, _, _), (4, _, _)]) ⟨rfl, rfl, trivial⟩ ?_
                 refine SL.nil (SE.calm (SE.thenK hK51 (SC.seq (fun K52 hK52 => SC.region ?_))))
                 refine SL.step (PS.move rfl tt rfl rfl) ?_
                 refine SL.callV (vs := [_]) Try.call33 ⟨⟨_, rfl, tt⟩, trivial⟩ (fun hg => latheref10_number_V ((d_latheref01_Convert p0.op p0.n p0.t ((l7.getD (Int.toNat 0) Dat.d).b)).1) ) rfl rfl ?_
                 refine SL.store_own (k := 1) (own' := [_, _, _]) (cs' := [_, _, _, _]) rfl rfl rfl rfl rfl rfl rfl Try.sizeOf35 rfl (Nat.le_of_ble_eq_true rfl) rfl rfl rfl rfl ?_
                 refine SL.step (PS.assign rfl tt rfl rfl) ?_
                 refine SL.keep (l' := [(5, _, _), (4, _, _)]) ⟨rfl, rfl, trivial⟩ ?_
                 refine SL.nil (SE.thenK hK52 (SC.ret (SE.block_ret (SE.then_ret ?_))))
                 exact finct (k := 1) rfl Try.isAgg35 Try.sizeOf35 rfl rfl rfl rfl rfl rfl (fun _ _ => congrArg (fun z : Vl × Int => Value.tuple #[Value.agg [.int .i64 z.1.k, .int .u64 z.1.b, .int .i64 z.1.bl, .int .i64 z.1.off].toArray, Value.int .i64 z.2]) (show (d_latheref10_Eval p0 p1) = (((d_latheref10_number ((d_latheref01_Convert p0.op p0.n p0.t ((l7.getD (Int.toNat 0) Dat.d).b)).1)), 0) : Vl × Int) from ((bifF c16).trans ((letV_eq (hL1.symm.trans (show d_latheref10_Eval_R6 p0 p1 (k1p + 1) l7 x8 = (l7, x8) from (bifF c21)))).trans ((bifF c37).trans ((bifF c37a).trans ((bifF c37b).trans ((bifF c37c).trans ((bifF c52).trans ((bifF c52a).trans ((bifF c52b).trans ((bifF c66).trans ((bifF c78).trans ((bifF c89).trans ((bifF c89a).trans ((bifT c89b).trans (bifF c97)))))))))))))))).symm)
               ·
                have c89bn := c89b
                try simp only [Bool.and_eq_true, Bool.or_eq_true, decide_eq_true_eq, Bool.true_and, Bool.not_eq_true', Bool.not_eq_false', beq_iff_eq, bne_iff_ne, decide_eq_false_iff_not, beq_eq_false_iff_ne, bne_eq_false_iff_eq, ne_eq, Bool.or_eq_false_iff, Bool.and_eq_false_iff] at c89bn
                refine SC.skip (SE.block_normal (SE.thenK hK12 (SC.seq (fun K53 hK53 => ?_))))
                have hr1 := hi1_3 _ (getD_mem (d := Dat.d) (i := Int.toNat 1) (show Int.toNat 1 < l7.length by omega))
                refine SC.draw (S := SP _ _ _) 10 (by kernel_rfl) (by kernel_rfl) (fun _ h => h) ?_
                refine SD.take 0 rfl rfl (by kernel_rfl) (PS.load_own_agg (k := 2) (vs := [_, _, _, _, _, _, _]) rfl tt rfl rfl rfl rfl Try.isAgg25 Try.sizeOf25 rfl rfl) ?_
                refine SD.take 1 rfl rfl (by kernel_rfl) (PS.move rfl tt rfl rfl) ?_
                refine SD.take 2 rfl rfl (by kernel_rfl) (PS.indexS (α := Vl) (xs := l7) rfl tt rfl tt Try.underlying33 Try.sizeOf35 (fun w hw _ => Rw.sl (hw.ok _ (mem_nth (k := 0) rfl))) rfl (fun hg => by first | omega | (simp only [List.length_cons, List.length_nil]; omega) | (try simp only [Bool.and_eq_true, Bool.or_eq_true, decide_eq_true_eq, Bool.true_and, Bool.not_eq_true', beq_iff_eq, bne_iff_ne, decide_eq_false_iff_not, beq_eq_false_iff_ne, ne_eq] at hg; omega)) rfl rfl) ?_
                refine SD.take 3 rfl rfl (by kernel_rfl) (PS.loadS (α := Vl) (xs := l7) (m := 0) (vs := [.int .i64 ((l7.getD (Int.toNat 0) Dat.d).k), .int .u64 ((l7.getD (Int.toNat 0) Dat.d).b), .int .i64 ((l7.getD (Int.toNat 0) Dat.d).bl), .int .i64 ((l7.getD (Int.toNat 0) Dat.d).off)]) rfl tt (fun w hw _ => Rw.sl (hw.ok _ (mem_nth (k := 0) rfl))) (fun hg => by first | omega | (simp only [List.length_cons, List.length_nil]; omega) | (try simp only [Bool.and_eq_true, Bool.or_eq_true, decide_eq_true_eq, Bool.true_and, Bool.not_eq_true', beq_iff_eq, bne_iff_ne, decide_eq_false_iff_not, beq_eq_false_iff_ne, ne_eq] at hg; omega)) rfl Try.isAgg35 Try.sizeOf35 rfl rfl) ?_
                refine SD.take 4 rfl rfl (by kernel_rfl) (PS.move rfl tt rfl rfl) ?_
                refine SD.take 5 rfl rfl (by kernel_rfl) (PS.indexS (α := Vl) (xs := l7) rfl tt rfl tt Try.underlying33 Try.sizeOf35 (fun w hw _ => Rw.sl (hw.ok _ (mem_nth (k := 0) rfl))) rfl (fun hg => by first | omega | (simp only [List.length_cons, List.length_nil]; omega) | (try simp only [Bool.and_eq_true, Bool.or_eq_true, decide_eq_true_eq, Bool.true_and, Bool.not_eq_true', beq_iff_eq, bne_iff_ne, decide_eq_false_iff_not, beq_eq_false_iff_ne, ne_eq] at hg; omega)) rfl rfl) ?_
                refine SD.take 6 rfl rfl (by kernel_rfl) (PS.loadS (α := Vl) (xs := l7) (m := 1) (vs := [.int .i64 ((l7.getD (Int.toNat 1) Dat.d).k), .int .u64 ((l7.getD (Int.toNat 1) Dat.d).b), .int .i64 ((l7.getD (Int.toNat 1) Dat.d).bl), .int .i64 ((l7.getD (Int.toNat 1) Dat.d).off)]) rfl tt (fun w hw _ => Rw.sl (hw.ok _ (mem_nth (k := 0) rfl))) (fun hg => by first | omega | (simp only [List.length_cons, List.length_nil]; omega) | (try simp only [Bool.and_eq_true, Bool.or_eq_true, decide_eq_true_eq, Bool.true_and, Bool.not_eq_true', beq_iff_eq, bne_iff_ne, decide_eq_false_iff_not, beq_eq_false_iff_ne, ne_eq] at hg; omega)) rfl Try.isAgg35 Try.sizeOf35 rfl rfl) ?_
                refine SD.one 7 rfl (by kernel_rfl) (fun inv7 => ?_)
                refine SL.callV (vs := [_, _, _]) Try.call34 ⟨⟨_, rfl, tt⟩, ⟨_, rfl, tt⟩, ⟨_, rfl, tt⟩, trivial⟩ (fun hg => latheref10_pair_V p0 (l7.getD (Int.toNat 0) Dat.d) (l7.getD (Int.toNat 1) Dat.d) (by omega)) rfl rfl ?_
                refine SL.nil ?_
                refine SE.next (fun _ h => h.drop (List.Sublist.refl _) (fun _ h => h)) inv7 ?_
                refine SD.take 8 rfl rfl (by kernel_rfl) (PS.extract rfl tt rfl rfl rfl) ?_
                refine SD.take 9 rfl rfl (by kernel_rfl) (PS.extract rfl tt rfl rfl rfl) ?_
                clear inv7
                refine SD.tail (by kernel_rfl) (os := [_, _]) rfl ?_
                refine SL.store_own (k := 1) (own' := [_, _, _]) (cs' := [_, _, _, _]) rfl rfl rfl rfl rfl rfl rfl Try.sizeOf35 rfl (Nat.le_of_ble_eq_true rfl) rfl rfl rfl rfl ?_
                refine SL.step (PS.assign rfl tt rfl rfl) ?_
                refine SL.keep (l' := [(5, _, _), (4, _, _)]) ⟨rfl, rfl, trivial⟩ ?_
                refine SL.nil (SE.calm (SE.thenK hK53 (SC.ret ?_)))
                exact finct (k := 1) rfl Try.isAgg35 Try.sizeOf35 rfl rfl rfl rfl rfl rfl (fun _ _ => congrArg (fun z : Vl × Int => Value.tuple #[Value.agg [.int .i64 z.1.k, .int .u64 z.1.b, .int .i64 z.1.bl, .int .i64 z.1.off].toArray, Value.int .i64 z.2]) (show (d_latheref10_Eval p0 p1) = ((((d_latheref10_pair p0 (l7.getD (Int.toNat 0) Dat.d) (l7.getD (Int.toNat 1) Dat.d)).1), (d_latheref10_pair p0 (l7.getD (Int.toNat 0) Dat.d) (l7.getD (Int.toNat 1) Dat.d)).2) : Vl × Int) from ((bifF c16).trans ((letV_eq (hL1.symm.trans (show d_latheref10_Eval_R6 p0 p1 (k1p + 1) l7 x8 = (l7, x8) from (bifF c21)))).trans ((bifF c37).trans ((bifF c37a).trans ((bifF c37b).trans ((bifF c37c).trans ((bifF c52).trans ((bifF c52a).trans ((bifF c52b).trans ((bifF c66).trans ((bifF c78).trans ((bifF c89).trans ((bifF c89a).trans (bifF c89b))))))))))))))).symm)
end Go.Proofs.Ytffimfmicapaaaa
