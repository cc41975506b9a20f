/- The law on cuts: what its code computes. -/
import Derived.Test.YtjdiohhniiooeaaDoorLexV
namespace Go.Proofs.YtjdiohhniiooeaaDoor
open Go.RowKit
set_option linter.unusedVariables false
set_option linter.unusedSimpArgs false
set_option maxRecDepth 100000
set_option maxHeartbeats 4000000
def d_lathelaw03_LexCuts_R9 (p0 : ByteArray) : Nat → (List Tok) → Int → List Tok × Int
  | 0, lq16, x45 => (lq16, x45)
  | k + 1, lq16, x45 =>
   bif (decide (x45 < ((d_lex_Tokens p0).1.length : Int))) then
    d_lathelaw03_LexCuts_R9 p0 k (lq16.set (Int.toNat x45) (⟨99, ByteArray.empty, 0, 0⟩ : Tok)) (x45 + 1)
   else (lq16, x45)
def d_lathelaw03_LexCuts (p0 : ByteArray) : Bool :=
  bif (!d_lathelaw03_lives) then
   false
  else bif ((!decide (((d_lex_Tokens p0).2) = (⟨(d_latheref03_Tokens p0).2.1, (d_latheref03_Tokens p0).2.2.1, (d_latheref03_Tokens p0).2.2.2⟩ : Flt))) || (!(sameL ((d_lex_Tokens p0).1) ((d_latheref03_Tokens p0).1)))) then
    false
   else letV (d_lathelaw03_LexCuts_R9 p0 ((((d_lex_Tokens p0).1.length : Int) - 0).toNat + 1) ((d_lex_Tokens p0).1) 0) (fun (lq16e, x45e) => ((sameL ((d_lex_Tokens p0).1) ((d_latheref03_Tokens p0).1)) && ((d_lex_Word p0) == (d_latheref03_Word p0))))
theorem lathelaw03_LexCuts_S (p0 : ByteArray) (h0 : p0.size ≤ 9223372036854775807) : Spec Tryd.prog 6 [.string p0] (fun w => Vars w) (fun v _ => v = Value.bool (d_lathelaw03_LexCuts p0)) := by
  refine Spec.enter Tryd.func6 rfl (n := 63) Tryd.ntmps6 (Nat.le_of_ble_eq_true rfl) (l := [(0, _, _)]) rfl ?_
  intro S w
  refine SC.seq (fun K1 hK1 => SC.region ?_)
  refine SL.step (PS.assign rfl tt rfl rfl) ?_
  refine SL.keep (l' := [(0, _, _)]) ⟨rfl, trivial⟩ ?_
  refine SL.nil (SE.thenK hK1 (SC.seq (fun K2 hK2 => SC.seq (fun K3 hK3 => SC.region ?_))))
  refine SL.callR (vs := []) Tryd.call8 trivial (fun hg => lathelaw03_lives_S  ) (fun w h hok hg => (h)) rfl rfl ?_
  refine SL.step (PS.not rfl tt rfl rfl) ?_
  refine SL.keep (l' := [(13, _, _), (0, _, _)]) ⟨rfl, rfl, trivial⟩ ?_
  refine SL.nil (SE.thenK hK3 ?_)
  refine SC.cond rfl (fun c13 => ?_) (fun c13 => ?_)
  ·
   refine SC.seq (fun K4 hK4 => SC.region ?_)
   refine SL.step (PS.assign rfl tt rfl rfl) ?_
   refine SL.keep (l' := [(2, _, _)]) ⟨rfl, trivial⟩ ?_
   refine SL.nil (SE.thenK hK4 (SC.ret (SE.then_ret ?_)))
   exact fin1 rfl rfl rfl (fun _ _ => congrArg (fun z : Bool => Value.bool z) (show (d_lathelaw03_LexCuts p0) = (false : Bool) from (bifT c13)).symm)
  ·
   have c13n := c13
   try simp only [Bool.and_eq_true, Bool.or_eq_true, decide_eq_true_eq, Bool.true_and, Bool.not_eq_true', Bool.not_eq_false', beq_iff_eq, bne_iff_ne, decide_eq_false_iff_not, beq_eq_false_iff_ne, bne_eq_false_iff_eq, ne_eq, Bool.or_eq_false_iff, Bool.and_eq_false_iff] at c13n
   refine SC.skip (SE.thenK hK2 (SC.seq (fun K5 hK5 => SC.region ?_)))
   refine SL.step (PS.move rfl tt rfl rfl) ?_
   refine SL.callX (vs := [_]) (rs := []) (own' := []) (List.Perm.refl _) Tryd.call9 ⟨⟨_, rfl, tt⟩, trivial⟩ (lex_Tokens_O p0 ) (fun w h => (h)) rfl rfl (fun x16 => ?_)
   obtain ⟨o0q16, cap0q16⟩ := x16
   refine SL.know (p := (d_lex_Tokens p0).1.length ≤ 9223372036854775807) (fun w h => h.2.1) (fun hleq16 => ?_)
   refine SL.step (PS.move rfl tt rfl rfl) ?_
   refine SL.step (PS.extract rfl tt rfl rfl rfl) ?_
   refine SL.step (PS.extract rfl tt rfl rfl rfl) ?_
   refine SL.alloc (cs := [_, _, _]) Tryd.zeroValue26 rfl rfl rfl (fun b4 => ?_)
   refine SL.step (PS.assign rfl tt rfl rfl) ?_
   refine SL.store_own (k := 0) (own' := [_, _]) (cs' := [_, _, _]) rfl rfl rfl rfl rfl rfl rfl Tryd.sizeOf26 rfl (Nat.le_of_ble_eq_true rfl) rfl rfl rfl rfl ?_
   refine SL.keep (l' := [(3, _, _), (4, _, _), (0, _, _)]) ⟨rfl, rfl, rfl, trivial⟩ ?_
   refine SL.nil (SE.thenK hK5 (SC.seq (fun K6 hK6 => SC.region ?_)))
   refine SL.step (PS.move rfl tt rfl rfl) ?_
   refine SL.callX (vs := [_]) (rs := []) (own' := [_, _]) (List.Perm.refl _) Tryd.call9 ⟨⟨_, rfl, tt⟩, trivial⟩ (lex_Tokens_O p0 ) (fun w h => (h.1)) rfl rfl (fun x21 => ?_)
   obtain ⟨o0q21, cap0q21⟩ := x21
   refine SL.know (p := (d_lex_Tokens p0).1.length ≤ 9223372036854775807) (fun w h => h.2.1) (fun hleq21 => ?_)
   refine SL.step (PS.move rfl tt rfl rfl) ?_
   refine SL.step (PS.extract rfl tt rfl rfl rfl) ?_
   refine SL.step (PS.extract rfl tt rfl rfl rfl) ?_
   refine SL.alloc (cs := [_, _, _]) Tryd.zeroValue26 rfl rfl rfl (fun b6 => ?_)
   refine SL.step (PS.assign rfl tt rfl rfl) ?_
   refine SL.store_own (k := 0) (own' := [_, _, _, _]) (cs' := [_, _, _]) rfl rfl rfl rfl rfl rfl rfl Tryd.sizeOf26 rfl (Nat.le_of_ble_eq_true rfl) rfl rfl rfl rfl ?_
   refine SL.keep (l' := [(5, _, _), (3, _, _), (4, _, _), (0, _, _)]) ⟨rfl, rfl, rfl, rfl, trivial⟩ ?_
   refine SL.nil (SE.thenK hK6 (SC.seq (fun K7 hK7 => SC.region ?_)))
   refine SL.step (PS.move rfl tt rfl rfl) ?_
   refine SL.callE (vs := [_]) Tryd.call11 ⟨⟨_, rfl, tt⟩, trivial⟩ (latheref03_Tokens_E p0 ) (fun w h => trivial) rfl rfl (fun x26 => ?_)
   obtain ⟨xa26, xc26, xl26⟩ := x26
   refine SL.know (p := xl26 = (d_latheref03_Tokens p0).1) (fun w h => h.2.2) (fun hx26 => ?_)
   subst hx26
   refine SL.step (PS.move rfl tt rfl rfl) ?_
   refine SL.step (PS.extract rfl tt rfl rfl rfl) ?_
   refine SL.step (PS.extract rfl tt rfl rfl rfl) ?_
   refine SL.step (PS.extract rfl tt rfl rfl rfl) ?_
   refine SL.step (PS.extract rfl tt rfl rfl rfl) ?_
   refine SL.step (PS.assign rfl tt rfl rfl) ?_
   refine SL.step (PS.assign rfl tt rfl rfl) ?_
   refine SL.step (PS.assign rfl tt rfl rfl) ?_
   refine SL.step (PS.assign rfl tt rfl rfl) ?_
   refine SL.keep (l' := [(10, _, _), (9, _, _), (8, _, _), (7, _, _), (5, _, _), (3, _, _), (4, _, _), (0, _, _)]) ⟨rfl, rfl, rfl, rfl, rfl, rfl, rfl, rfl, trivial⟩ ?_
   refine SL.nil (SE.thenK hK7 (SC.seq (fun K8 hK8 => SC.seq (fun K9 hK9 => SC.region ?_))))
   refine SL.step (PS.load_own_agg (k := 2) (vs := [_, _, _]) rfl tt rfl rfl rfl rfl Tryd.isAgg26 Tryd.sizeOf26 rfl rfl) ?_
   refine SL.step (PS.move rfl tt rfl rfl) ?_
   refine SL.step (PS.move rfl tt rfl rfl) ?_
   refine SL.step (PS.move rfl tt rfl rfl) ?_
   refine SL.step (PS.build (us := [(0, _), (1, _), (2, _)]) (vs := [_, _, _]) ⟨rfl, ⟨_, rfl, tt⟩, ⟨rfl, ⟨_, rfl, tt⟩, ⟨rfl, ⟨_, rfl, tt⟩, trivial⟩⟩⟩ Tryd.underlying26 Tryd.zeroValue26 (Tryd.places_26 Tryd.underlying26) rfl rfl rfl) ?_
   refine SL.step (PS.neqA (u := .agg [.int .i64 (((d_lex_Tokens p0).2).code), .int .i64 (((d_lex_Tokens p0).2).line), .int .i64 (((d_lex_Tokens p0).2).col)].toArray) (v := .agg [.int .i64 ((d_latheref03_Tokens p0).2.1), .int .i64 ((d_latheref03_Tokens p0).2.2.1), .int .i64 ((d_latheref03_Tokens p0).2.2.2)].toArray) rfl tt rfl tt (fun x y w => Flt_nql x y ((d_lex_Tokens p0).2) (⟨(d_latheref03_Tokens p0).2.1, (d_latheref03_Tokens p0).2.2.1, (d_latheref03_Tokens p0).2.2.2⟩ : Flt) w) rfl rfl) ?_
   refine SL.step (PS.move rfl tt rfl rfl) ?_
   refine SL.step (PS.move rfl tt rfl rfl) ?_
   refine SL.step (PS.move rfl tt rfl rfl) ?_
   refine SL.callR (vs := [_, _]) Tryd.call10 ⟨⟨_, rfl, (fun h => h)⟩, ⟨_, rfl, (fun h => h)⟩, trivial⟩ (fun hg => lathelaw03_sameL (⟨rowA o0q16, cap0q16, (d_lex_Tokens p0).1⟩ : SlD Tok) (⟨xa26, xc26, (d_latheref03_Tokens p0).1⟩ : SlD Tok) ) (fun w h hok hg => ⟨(⟨Rw.sl (hok _ (mem_nth (k := 3) rfl)), (h.1.1.2.2), (show ((d_lex_Tokens p0).1).length ≤ 9223372036854775807 by omega)⟩ : SlD.rd _ _), (h.2).1⟩) rfl rfl ?_
   refine SL.step (PS.not rfl (fun h => h) rfl rfl) ?_
   refine SL.step (PS.pick_or rfl tt rfl (fun h h2 => pk_or h h2) rfl rfl) ?_
   refine SL.keep (l' := [(42, _, _), (7, _, _), (5, _, _), (3, _, _), (0, _, _)]) ⟨rfl, rfl, rfl, rfl, rfl, trivial⟩ ?_
   refine SL.nil (SE.thenK hK9 ?_)
   refine SC.cond rfl (fun c42 => ?_) (fun c42 => ?_)
   ·
    refine SC.seq (fun K10 hK10 => SC.region ?_)
    refine SL.step (PS.assign rfl tt rfl rfl) ?_
    refine SL.keep (l' := [(2, _, _)]) ⟨rfl, trivial⟩ ?_
    refine SL.nil (SE.thenK hK10 (SC.ret (SE.then_ret ?_)))
    exact fin1 rfl rfl rfl (fun _ _ => congrArg (fun z : Bool => Value.bool z) (show (d_lathelaw03_LexCuts p0) = (false : Bool) from ((bifF c13).trans (bifT c42))).symm)
   ·
    have c42n := c42
    try simp only [Bool.and_eq_true, Bool.or_eq_true, decide_eq_true_eq, Bool.true_and, Bool.not_eq_true', Bool.not_eq_false', beq_iff_eq, bne_iff_ne, decide_eq_false_iff_not, beq_eq_false_iff_ne, bne_eq_false_iff_eq, ne_eq, Bool.or_eq_false_iff, Bool.and_eq_false_iff] at c42n
    refine SC.skip (SE.thenK hK8 (SC.seq (fun K11 hK11 => SC.seq (fun K12 hK12 => SC.region ?_))))
    refine SL.step (PS.move rfl tt rfl rfl) ?_
    refine SL.step (PS.len_slice rfl tt Tryd.underlying23 rfl rfl) ?_
    refine SL.step (PS.move rfl tt rfl rfl) ?_
    refine SL.keep (l' := [(45, _, _), (44, _, _), (7, _, _), (5, _, _), (3, _, _), (0, _, _)]) ⟨rfl, rfl, rfl, rfl, rfl, rfl, trivial⟩ ?_
    refine SL.nil (SE.thenK hK12 (SC.block ?_))
    refine SC.loopF (fun ((k1, lq16, x45, oq16, capq16) : Nat × List Tok × Int × Option Nat × Nat) => [(45, true, .int .i64 x45), (44, true, .int .i64 ((d_lex_Tokens p0).1.length : Int)), (7, true, .slice xa26 ((d_latheref03_Tokens p0).1.length) xc26), (5, true, .slice (rowA o0q21) ((d_lex_Tokens p0).1.length) cap0q21), (3, true, .slice (rowA oq16) lq16.length capq16), (0, true, .string p0)]) (fun ((k1, lq16, x45, oq16, capq16) : Nat × List Tok × Int × Option Nat × Nat) => [.blk b6 [.int .i64 (((d_lex_Tokens p0).2).code), .int .i64 (((d_lex_Tokens p0).2).line), .int .i64 (((d_lex_Tokens p0).2).col)], Rw o0q21 ((d_lex_Tokens p0).1) cap0q21, .blk b4 [.int .i64 (((d_lex_Tokens p0).2).code), .int .i64 (((d_lex_Tokens p0).2).line), .int .i64 (((d_lex_Tokens p0).2).col)], Rw oq16 lq16 capq16]) (fun ((k1, lq16, x45, oq16, capq16) : Nat × List Tok × Int × Option Nat × Nat) w => ((d_lathelaw03_LexCuts_R9 p0 k1 lq16 x45 = d_lathelaw03_LexCuts_R9 p0 ((((d_lex_Tokens p0).1.length : Int) - 0).toNat + 1) ((d_lex_Tokens p0).1) 0) ∧ ((((d_lex_Tokens p0).1.length : Int) - x45).toNat < k1) ∧ (0 ≤ x45) ∧ (x45 ≤ ((d_lex_Tokens p0).1.length : Int)) ∧ (lq16.length = (d_lex_Tokens p0).1.length)) ∧ ((∀ x ∈ lq16, Dat.ok x w))) (fun q => q.1) ((((d_lex_Tokens p0).1.length : Int) - 0).toNat + 1, (d_lex_Tokens p0).1, 0, o0q16, cap0q16) ⟨rfl, rfl, rfl, rfl, rfl, rfl, trivial⟩ rfl (fun w h => ⟨⟨rfl, Nat.lt_succ_self _, by omega, by omega, rfl⟩, (h.1.1.2.2)⟩) (fun q => ?_)
    obtain ⟨k1, lq16, x45, oq16, capq16⟩ := q
    dsimp only
    refine SC.know (fun w h => h.2.1) (fun hp => ?_)
    obtain ⟨hL1, hm1, hi1_0, hi1_1, hi1_2⟩ := hp
    obtain ⟨k1p, rfl⟩ : ∃ j, k1 = j + 1 := ⟨k1 - 1, by omega⟩
    refine SC.seq (fun K13 hK13 => SC.region ?_)
    refine SL.step (PS.lss rfl tt rfl tt rfl rfl) ?_
    refine SL.nil (SE.thenK hK13 (SC.seq (fun K14 hK14 => ?_)))
    refine SC.cond rfl (fun c46 => ?_) (fun c46 => ?_)
    ·
     have c46n := c46
     try simp only [Bool.and_eq_true, Bool.or_eq_true, decide_eq_true_eq, Bool.true_and, Bool.not_eq_true', Bool.not_eq_false', beq_iff_eq, bne_iff_ne, decide_eq_false_iff_not, beq_eq_false_iff_ne, bne_eq_false_iff_eq, ne_eq, Bool.or_eq_false_iff, Bool.and_eq_false_iff] at c46n
     refine SC.skip (SE.thenK hK14 (SC.seq (fun K15 hK15 => SC.block (SC.seq (fun K16 hK16 => SC.region ?_)))))
     refine SL.step (PS.move rfl tt rfl rfl) ?_
     refine SL.step (PS.assign rfl tt rfl rfl) ?_
     refine SL.keep (l' := [(11, _, _), (45, _, _), (44, _, _), (7, _, _), (5, _, _), (3, _, _), (0, _, _)]) ⟨rfl, rfl, rfl, rfl, rfl, rfl, rfl, trivial⟩ ?_
     refine SL.nil (SE.thenK hK16 (SC.region ?_))
     refine SL.step (PS.move rfl tt rfl rfl) ?_
     refine SL.step (PS.move rfl tt rfl rfl) ?_
     refine SL.step (PS.build (us := [(0, _)]) (vs := [_, _, _, _]) ⟨rfl, ⟨_, rfl, tt⟩, trivial⟩ Tryd.underlying31 Tryd.zeroValue31 (Tryd.places_31 Tryd.underlying31) rfl rfl rfl) ?_
     refine SL.step (PS.indexS (α := Tok) (xs := lq16) rfl tt rfl tt Tryd.underlying23 Tryd.sizeOf31 (fun w hw _ => Rw.sl (hw.ok _ (mem_nth (k := 3) rfl))) rfl (fun hg => by first | omega | (simp only [List.length_cons, List.length_nil]; omega) | (try simp only [Bool.and_eq_true, Bool.or_eq_true, decide_eq_true_eq, Bool.true_and, Bool.not_eq_true', beq_iff_eq, bne_iff_ne, decide_eq_false_iff_not, beq_eq_false_iff_ne, ne_eq] at hg; omega)) rfl rfl) ?_
     refine SL.storeR (e' := (⟨99, ByteArray.empty, 0, 0⟩ : Tok)) (α := Tok) (k := 3) (j := 0) (own' := [_, _, _, _]) rfl rfl rfl rfl (add_zero _).symm rfl (by omega) rfl Tryd.sizeOf31 rfl (Nat.le_of_ble_eq_true rfl) rfl rfl rfl rfl rfl ?_
     refine SL.keep (l' := [(45, _, _), (44, _, _), (7, _, _), (5, _, _), (3, _, _), (0, _, _)]) ⟨rfl, rfl, rfl, rfl, rfl, rfl, trivial⟩ ?_
     refine SL.nil (SE.block_normal (SE.thenK hK15 (SC.region ?_)))
     refine SL.step (PS.add_in rfl tt rfl tt (fun _ => wr_i64 (by omega)) rfl rfl) ?_
     refine SL.step (PS.move rfl tt rfl rfl) ?_
     refine SL.keep (l' := [(45, _, _), (44, _, _), (7, _, _), (5, _, _), (3, _, _), (0, _, _)]) ⟨rfl, rfl, rfl, rfl, rfl, rfl, trivial⟩ ?_
     refine SL.nil ?_
     exact SE.againF (k1p, (lq16.set (Int.toNat x45) (⟨99, ByteArray.empty, 0, 0⟩ : Tok)), (x45 + 1), oq16, capq16) ⟨rfl, rfl, rfl, rfl, (show some (true, Value.slice (rowA oq16) lq16.length capq16) = some (true, Value.slice (rowA oq16) ((lq16.set (Int.toNat x45) (⟨99, ByteArray.empty, 0, 0⟩ : Tok))).length capq16) by simp only [List.length_set]), rfl, trivial⟩ rfl (fun w h => And.intro (h.1) (And.intro ⟨((show d_lathelaw03_LexCuts_R9 p0 (k1p + 1) lq16 x45 = d_lathelaw03_LexCuts_R9 p0 k1p (lq16.set (Int.toNat x45) (⟨99, ByteArray.empty, 0, 0⟩ : Tok)) (x45 + 1) from (bifT c46)).symm.trans hL1), by (try dsimp only); omega, by (try dsimp only); omega, by (try dsimp only); omega, by rw [List.length_set]; exact hi1_2⟩ ((all_set ((h.2.2)) (⟨(by first | assumption | decide | exact Nat.zero_le _)⟩))))) (Nat.lt_succ_self _)
    ·
     have c46n := c46
     try simp only [Bool.and_eq_true, Bool.or_eq_true, decide_eq_true_eq, Bool.true_and, Bool.not_eq_true', Bool.not_eq_false', beq_iff_eq, bne_iff_ne, decide_eq_false_iff_not, beq_eq_false_iff_ne, bne_eq_false_iff_eq, ne_eq, Bool.or_eq_false_iff, Bool.and_eq_false_iff] at c46n
     refine SC.exit (SE.then_exit (SE.then_exit (SE.block_same (SE.thenK hK11 (SC.seq (fun K17 hK17 => SC.region ?_))))))
     refine SL.step (PS.move rfl tt rfl rfl) ?_
     refine SL.step (PS.move rfl tt rfl rfl) ?_
     refine SL.callR (vs := [_, _]) Tryd.call10 ⟨⟨_, rfl, tt⟩, ⟨_, rfl, tt⟩, trivial⟩ (fun hg => lathelaw03_sameL (⟨rowA o0q21, cap0q21, (d_lex_Tokens p0).1⟩ : SlD Tok) (⟨xa26, xc26, (d_latheref03_Tokens p0).1⟩ : SlD Tok) ) (fun w h hok hg => ⟨(⟨Rw.sl (hok _ (mem_nth (k := 1) rfl)), (h.1.1.2.2), (show ((d_lex_Tokens p0).1).length ≤ 9223372036854775807 by omega)⟩ : SlD.rd _ _), (h.1.2).1⟩) rfl rfl ?_
     refine SL.step (PS.move rfl tt rfl rfl) ?_
     refine SL.step (PS.move rfl tt rfl rfl) ?_
     refine SL.callV (vs := [_]) Tryd.call12 ⟨⟨_, rfl, (fun h => h)⟩, trivial⟩ (fun hg => lex_Word_V p0 (by omega)) rfl rfl ?_
     refine SL.step (PS.move rfl tt rfl rfl) ?_
     refine SL.callV (vs := [_]) Tryd.call13 ⟨⟨_, rfl, (fun h => h)⟩, trivial⟩ (fun hg => latheref03_Word_V p0 (by omega)) rfl rfl ?_
     refine SL.step (PS.eqlB rfl (fun h => h) rfl (fun h => h) Tryd.underlying4 rfl rfl) ?_
     refine SL.step (PS.pick_and rfl tt rfl (fun h h2 => pk_and h h2) rfl rfl) ?_
     refine SL.step (PS.assign rfl tt rfl rfl) ?_
     refine SL.keep (l' := [(2, _, _)]) ⟨rfl, trivial⟩ ?_
     refine SL.nil (SE.thenK hK17 (SC.ret ?_))
     exact fin1 rfl rfl rfl (fun _ _ => congrArg (fun z : Bool => Value.bool z) (show (d_lathelaw03_LexCuts p0) = (((sameL ((d_lex_Tokens p0).1) ((d_latheref03_Tokens p0).1)) && ((d_lex_Word p0) == (d_latheref03_Word p0))) : Bool) from ((bifF c13).trans ((bifF c42).trans (letV_eq (hL1.symm.trans (show d_lathelaw03_LexCuts_R9 p0 (k1p + 1) lq16 x45 = (lq16, x45) from (bifF c46))))))).symm)
end Go.Proofs.YtjdiohhniiooeaaDoor
