/- The law on words: what its code computes. -/
import Derived.Test.YtjdiohhniiooeaaDoorLexV
namespace Go.Proofs.YtjdiohhniiooeaaDoor
open Go.RowKit
set_option linter.unusedVariables false
set_option linter.unusedSimpArgs false
set_option maxRecDepth 100000
set_option maxHeartbeats 4000000
def d_lathelaw03_LexWords (p0 : ByteArray) : Bool :=
  bif (!d_lathelaw03_lives) then
   false
  else bif (decide (60000 < (p0.size : Int))) then
    true
   else ((d_lex_Word p0) == ((((((d_lex_Tokens p0).2).code == 0) && (((d_lex_Tokens p0).1.length : Int) == 1)) && ((((d_lex_Tokens p0).1).getD (Int.toNat 0) Dat.d).k == 1)) && (strEq ((((d_lex_Tokens p0).1).getD (Int.toNat 0) Dat.d).text) p0)))
theorem lathelaw03_LexWords_S (p0 : ByteArray)  : Spec Tryd.prog 7 [.string p0] (fun w => Vars w) (fun v _ => v = Value.bool (d_lathelaw03_LexWords p0)) := by
  refine Spec.enter Tryd.func7 rfl (n := 41) Tryd.ntmps7 (Nat.le_of_ble_eq_true rfl) (l := [(0, _, _)]) rfl ?_
  intro S w
  refine SC.seq (fun K1 hK1 => SC.region ?_)
  refine SL.step (PS.assign rfl tt rfl rfl) ?_
  refine SL.keep (l' := [(0, _, _)]) ⟨rfl, trivial⟩ ?_
  refine SL.nil (SE.thenK hK1 (SC.seq (fun K2 hK2 => SC.seq (fun K3 hK3 => SC.region ?_))))
  refine SL.callR (vs := []) Tryd.call8 trivial (fun hg => lathelaw03_lives_S  ) (fun w h hok hg => (h)) rfl rfl ?_
  refine SL.step (PS.not rfl tt rfl rfl) ?_
  refine SL.keep (l' := [(6, _, _), (0, _, _)]) ⟨rfl, rfl, trivial⟩ ?_
  refine SL.nil (SE.thenK hK3 ?_)
  refine SC.cond rfl (fun c6 => ?_) (fun c6 => ?_)
  ·
   refine SC.seq (fun K4 hK4 => SC.region ?_)
   refine SL.step (PS.assign rfl tt rfl rfl) ?_
   refine SL.keep (l' := [(2, _, _)]) ⟨rfl, trivial⟩ ?_
   refine SL.nil (SE.thenK hK4 (SC.ret (SE.then_ret ?_)))
   exact fin1 rfl rfl rfl (fun _ _ => congrArg (fun z : Bool => Value.bool z) (show (d_lathelaw03_LexWords p0) = (false : Bool) from (bifT c6)).symm)
  ·
   have c6n := c6
   try simp only [Bool.and_eq_true, Bool.or_eq_true, decide_eq_true_eq, Bool.true_and, Bool.not_eq_true', Bool.not_eq_false', beq_iff_eq, bne_iff_ne, decide_eq_false_iff_not, beq_eq_false_iff_ne, bne_eq_false_iff_eq, ne_eq, Bool.or_eq_false_iff, Bool.and_eq_false_iff] at c6n
   refine SC.skip (SE.thenK hK2 (SC.seq (fun K5 hK5 => SC.seq (fun K6 hK6 => SC.region ?_))))
   refine SL.step (PS.move rfl tt rfl rfl) ?_
   refine SL.step (PS.len_string rfl tt Tryd.underlying9 rfl rfl) ?_
   refine SL.step (PS.gtr rfl tt rfl tt rfl rfl) ?_
   refine SL.keep (l' := [(9, _, _), (0, _, _)]) ⟨rfl, rfl, trivial⟩ ?_
   refine SL.nil (SE.thenK hK6 ?_)
   refine SC.cond rfl (fun c9 => ?_) (fun c9 => ?_)
   ·
    refine SC.seq (fun K7 hK7 => SC.region ?_)
    refine SL.step (PS.assign rfl tt rfl rfl) ?_
    refine SL.keep (l' := [(2, _, _)]) ⟨rfl, trivial⟩ ?_
    refine SL.nil (SE.thenK hK7 (SC.ret (SE.then_ret ?_)))
    exact fin1 rfl rfl rfl (fun _ _ => congrArg (fun z : Bool => Value.bool z) (show (d_lathelaw03_LexWords p0) = (true : Bool) from ((bifF c6).trans (bifT c9))).symm)
   ·
    have c9n := c9
    try simp only [Bool.and_eq_true, Bool.or_eq_true, decide_eq_true_eq, Bool.true_and, Bool.not_eq_true', Bool.not_eq_false', beq_iff_eq, bne_iff_ne, decide_eq_false_iff_not, beq_eq_false_iff_ne, bne_eq_false_iff_eq, ne_eq, Bool.or_eq_false_iff, Bool.and_eq_false_iff] at c9n
    refine SC.skip (SE.thenK hK5 (SC.seq (fun K8 hK8 => SC.region ?_)))
    refine SL.step (PS.move rfl tt rfl rfl) ?_
    refine SL.callX (vs := [_]) (rs := []) (own' := []) (List.Perm.refl _) Tryd.call9 ⟨⟨_, rfl, tt⟩, trivial⟩ (lex_Tokens_O p0 ) (fun w h => (h)) rfl rfl (fun x12 => ?_)
    obtain ⟨o0q12, cap0q12⟩ := x12
    refine SL.know (p := (d_lex_Tokens p0).1.length ≤ 9223372036854775807) (fun w h => h.2.1) (fun hleq12 => ?_)
    refine SL.step (PS.move rfl tt rfl rfl) ?_
    refine SL.step (PS.extract rfl tt rfl rfl rfl) ?_
    refine SL.step (PS.extract rfl tt rfl rfl rfl) ?_
    refine SL.alloc (cs := [_, _, _]) Tryd.zeroValue26 rfl rfl rfl (fun b4 => ?_)
    refine SL.step (PS.assign rfl tt rfl rfl) ?_
    refine SL.store_own (k := 0) (own' := [_, _]) (cs' := [_, _, _]) rfl rfl rfl rfl rfl rfl rfl Tryd.sizeOf26 rfl (Nat.le_of_ble_eq_true rfl) rfl rfl rfl rfl ?_
    refine SL.keep (l' := [(3, _, _), (4, _, _), (0, _, _)]) ⟨rfl, rfl, rfl, trivial⟩ ?_
    refine SL.nil (SE.thenK hK8 (SC.seq (fun K9 hK9 => ?_)))
    refine SC.draw (S := SP _ _ _) 27 (by kernel_rfl) (by kernel_rfl) (fun _ h => h) ?_
    refine SD.take 0 rfl rfl (by kernel_rfl) (PS.move rfl tt rfl rfl) ?_
    refine SD.take 2 rfl rfl (by kernel_rfl) (PS.fieldAddr rfl tt Tryd.fieldAt_26_0 rfl rfl) ?_
    refine SD.take 3 rfl rfl (by kernel_rfl) (PS.load_own (k := 0) rfl tt rfl rfl rfl Tryd.isAgg24 rfl rfl) ?_
    refine SD.take 4 rfl rfl (by kernel_rfl) (PS.eql rfl tt rfl tt rfl rfl) ?_
    refine SD.one 1 rfl (by kernel_rfl) (fun inv1 => ?_)
    refine SL.callV (vs := [_]) Tryd.call12 ⟨⟨_, rfl, tt⟩, trivial⟩ (fun hg => lex_Word_V p0 (by omega)) rfl rfl ?_
    refine SL.nil ?_
    refine SE.next (fun _ h => h.drop (List.Sublist.refl _) (fun _ h => h)) inv1 ?_
    refine SD.take 5 rfl rfl (by kernel_rfl) (PS.move rfl tt rfl rfl) ?_
    refine SD.take 6 rfl rfl (by kernel_rfl) (PS.move rfl tt rfl rfl) ?_
    refine SD.take 7 rfl rfl (by kernel_rfl) (PS.len_slice rfl (fun h => h) Tryd.underlying23 rfl rfl) ?_
    refine SD.take 8 rfl rfl (by kernel_rfl) (PS.eql rfl (fun h => h) rfl tt rfl rfl) ?_
    refine SD.take 9 rfl rfl (by kernel_rfl) (PS.pick_and rfl tt rfl (fun h h2 => pk_and h h2) rfl rfl) ?_
    refine SD.take 10 rfl rfl (by kernel_rfl) (PS.move rfl tt rfl rfl) ?_
    refine SD.take 11 rfl rfl (by kernel_rfl) (PS.move rfl tt rfl rfl) ?_
    refine SD.take 12 rfl rfl (by kernel_rfl) (PS.indexS (α := Tok) (xs := (d_lex_Tokens p0).1) rfl (fun h => h) rfl tt Tryd.underlying23 Tryd.sizeOf31 (fun w hw _ => Rw.sl (hw.ok _ (mem_nth (k := 1) rfl))) rfl (fun hg => by first | omega | (simp only [List.length_cons, List.length_nil]; omega) | (try simp only [Bool.and_eq_true, Bool.or_eq_true, decide_eq_true_eq, Bool.true_and, Bool.not_eq_true', beq_iff_eq, bne_iff_ne, decide_eq_false_iff_not, beq_eq_false_iff_ne, ne_eq] at hg; omega)) rfl rfl) ?_
    refine SD.take 13 rfl rfl (by kernel_rfl) (PS.fieldAddr rfl (fun h => h) Tryd.fieldAt_31_0 rfl rfl) ?_
    refine SD.take 14 rfl rfl (by kernel_rfl) (PS.loadSF (α := Tok) (xs := (d_lex_Tokens p0).1) (m := 0) rfl (fun h => h) (fun w hw _ => Rw.sl (hw.ok _ (mem_nth (k := 1) rfl))) (fun hg => by first | omega | (simp only [List.length_cons, List.length_nil]; omega) | (try simp only [Bool.and_eq_true, Bool.or_eq_true, decide_eq_true_eq, Bool.true_and, Bool.not_eq_true', beq_iff_eq, bne_iff_ne, decide_eq_false_iff_not, beq_eq_false_iff_ne, ne_eq] at hg; omega)) rfl Tryd.isAgg3 rfl rfl) ?_
    refine SD.take 15 rfl rfl (by kernel_rfl) (PS.eql rfl (fun h => h) rfl tt rfl rfl) ?_
    refine SD.take 16 rfl rfl (by kernel_rfl) (PS.pick_and rfl tt rfl (fun h h2 => pk_and h h2) rfl rfl) ?_
    refine SD.take 17 rfl rfl (by kernel_rfl) (PS.move rfl tt rfl rfl) ?_
    refine SD.take 18 rfl rfl (by kernel_rfl) (PS.move rfl tt rfl rfl) ?_
    refine SD.take 19 rfl rfl (by kernel_rfl) (PS.indexS (α := Tok) (xs := (d_lex_Tokens p0).1) rfl (fun h => h) rfl tt Tryd.underlying23 Tryd.sizeOf31 (fun w hw _ => Rw.sl (hw.ok _ (mem_nth (k := 1) rfl))) rfl (fun hg => by first | omega | (simp only [List.length_cons, List.length_nil]; omega) | (try simp only [Bool.and_eq_true, Bool.or_eq_true, decide_eq_true_eq, Bool.true_and, Bool.not_eq_true', beq_iff_eq, bne_iff_ne, decide_eq_false_iff_not, beq_eq_false_iff_ne, ne_eq] at hg; omega)) rfl rfl) ?_
    refine SD.take 20 rfl rfl (by kernel_rfl) (PS.fieldAddr rfl (fun h => h) Tryd.fieldAt_31_1 rfl rfl) ?_
    refine SD.take 21 rfl rfl (by kernel_rfl) (PS.loadSF (α := Tok) (xs := (d_lex_Tokens p0).1) (m := 0) rfl (fun h => h) (fun w hw _ => Rw.sl (hw.ok _ (mem_nth (k := 1) rfl))) (fun hg => by first | omega | (simp only [List.length_cons, List.length_nil]; omega) | (try simp only [Bool.and_eq_true, Bool.or_eq_true, decide_eq_true_eq, Bool.true_and, Bool.not_eq_true', beq_iff_eq, bne_iff_ne, decide_eq_false_iff_not, beq_eq_false_iff_ne, ne_eq] at hg; omega)) rfl Tryd.isAgg9 rfl rfl) ?_
    refine SD.take 22 rfl rfl (by kernel_rfl) (PS.move rfl tt rfl rfl) ?_
    refine SD.take 23 rfl rfl (by kernel_rfl) (PS.eqlS rfl (fun h => h) rfl (fun h => h) rfl rfl) ?_
    refine SD.take 24 rfl rfl (by kernel_rfl) (PS.pick_and rfl tt rfl (fun h h2 => pk_and h h2) rfl rfl) ?_
    refine SD.take 25 rfl rfl (by kernel_rfl) (PS.eqlB rfl tt rfl tt Tryd.underlying4 rfl rfl) ?_
    refine SD.take 26 rfl rfl (by kernel_rfl) (PS.assign rfl tt rfl rfl) ?_
    clear inv1
    refine SD.tail (by kernel_rfl) (os := []) rfl ?_
    refine SL.keep (l' := [(2, _, _)]) ⟨rfl, trivial⟩ ?_
    refine SL.nil (SE.calm (SE.thenK hK9 (SC.ret ?_)))
    exact fin1 rfl rfl rfl (fun _ _ => congrArg (fun z : Bool => Value.bool z) (show (d_lathelaw03_LexWords p0) = (((d_lex_Word p0) == ((((((d_lex_Tokens p0).2).code == 0) && (((d_lex_Tokens p0).1.length : Int) == 1)) && ((((d_lex_Tokens p0).1).getD (Int.toNat 0) Dat.d).k == 1)) && (strEq ((((d_lex_Tokens p0).1).getD (Int.toNat 0) Dat.d).text) p0))) : Bool) from ((bifF c6).trans (bifF c9))).symm)
end Go.Proofs.YtjdiohhniiooeaaDoor
