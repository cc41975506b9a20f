/- The law Stands: what its code computes. -/
import Derived.Test.YtjdiohhniiooeaaDoorLexZ
namespace Go.Proofs.YtjdiohhniiooeaaDoor
open Go.RowKit
set_option linter.unusedVariables false
set_option linter.unusedSimpArgs false
set_option maxRecDepth 100000
set_option maxHeartbeats 4000000
def d_lathelaw03_LexStands_R15 (p0 : ByteArray) (l5e : List Int) : Nat → Int → Int → Int → Sum (Bool) (Int × Int × Int)
  | 0, x56, x8, x7 => Sum.inr (x56, x8, x7)
  | k + 1, x56, x8, x7 =>
   bif (decide (x56 < ((d_lex_Tokens p0).1.length : Int))) then
    bif (((decide ((((d_lex_Tokens p0).1).getD (Int.toNat x56) Dat.d).line < 1)) || (decide ((l5e.length : Int) < (((d_lex_Tokens p0).1).getD (Int.toNat x56) Dat.d).line))) || (decide ((((d_lex_Tokens p0).1).getD (Int.toNat x56) Dat.d).col < 1))) then
     Sum.inl false
    else bif ((((d_lex_Tokens p0).1).getD (Int.toNat x56) Dat.d).k == 3) then
      bif ((((strEq ((⟨#[37]⟩ : ByteArray) ++ (((d_lex_Tokens p0).1).getD (Int.toNat x56) Dat.d).text) (⟨#[]⟩ : ByteArray)) || (decide ((IntKind.i64.wrap ((IntKind.i64.wrap ((l5e.getD (Int.toNat ((((d_lex_Tokens p0).1).getD (Int.toNat x56) Dat.d).line - 1)) Dat.d) + (((d_lex_Tokens p0).1).getD (Int.toNat x56) Dat.d).col)) - 1)) ≤ x7))) || (decide (((p0.size : Int) - (((⟨#[37]⟩ : ByteArray) ++ (((d_lex_Tokens p0).1).getD (Int.toNat x56) Dat.d).text).size : Int)) < (IntKind.i64.wrap ((IntKind.i64.wrap ((l5e.getD (Int.toNat ((((d_lex_Tokens p0).1).getD (Int.toNat x56) Dat.d).line - 1)) Dat.d) + (((d_lex_Tokens p0).1).getD (Int.toNat x56) Dat.d).col)) - 1))))) || (!strEq (p0.extract (Int.toNat (IntKind.i64.wrap ((IntKind.i64.wrap ((l5e.getD (Int.toNat ((((d_lex_Tokens p0).1).getD (Int.toNat x56) Dat.d).line - 1)) Dat.d) + (((d_lex_Tokens p0).1).getD (Int.toNat x56) Dat.d).col)) - 1))) (Int.toNat ((IntKind.i64.wrap ((IntKind.i64.wrap ((l5e.getD (Int.toNat ((((d_lex_Tokens p0).1).getD (Int.toNat x56) Dat.d).line - 1)) Dat.d) + (((d_lex_Tokens p0).1).getD (Int.toNat x56) Dat.d).col)) - 1)) + (((⟨#[37]⟩ : ByteArray) ++ (((d_lex_Tokens p0).1).getD (Int.toNat x56) Dat.d).text).size : Int)))) ((⟨#[37]⟩ : ByteArray) ++ (((d_lex_Tokens p0).1).getD (Int.toNat x56) Dat.d).text))) then
       Sum.inl false
      else d_lathelaw03_LexStands_R15 p0 l5e k (x56 + 1) x8 (((IntKind.i64.wrap ((IntKind.i64.wrap ((l5e.getD (Int.toNat ((((d_lex_Tokens p0).1).getD (Int.toNat x56) Dat.d).line - 1)) Dat.d) + (((d_lex_Tokens p0).1).getD (Int.toNat x56) Dat.d).col)) - 1)) + (((⟨#[37]⟩ : ByteArray) ++ (((d_lex_Tokens p0).1).getD (Int.toNat x56) Dat.d).text).size : Int)) - 1)
     else bif ((((d_lex_Tokens p0).1).getD (Int.toNat x56) Dat.d).k == 4) then
       bif ((((strEq ((⟨#[64]⟩ : ByteArray) ++ (((d_lex_Tokens p0).1).getD (Int.toNat x56) Dat.d).text) (⟨#[]⟩ : ByteArray)) || (decide ((IntKind.i64.wrap ((IntKind.i64.wrap ((l5e.getD (Int.toNat ((((d_lex_Tokens p0).1).getD (Int.toNat x56) Dat.d).line - 1)) Dat.d) + (((d_lex_Tokens p0).1).getD (Int.toNat x56) Dat.d).col)) - 1)) ≤ x7))) || (decide (((p0.size : Int) - (((⟨#[64]⟩ : ByteArray) ++ (((d_lex_Tokens p0).1).getD (Int.toNat x56) Dat.d).text).size : Int)) < (IntKind.i64.wrap ((IntKind.i64.wrap ((l5e.getD (Int.toNat ((((d_lex_Tokens p0).1).getD (Int.toNat x56) Dat.d).line - 1)) Dat.d) + (((d_lex_Tokens p0).1).getD (Int.toNat x56) Dat.d).col)) - 1))))) || (!strEq (p0.extract (Int.toNat (IntKind.i64.wrap ((IntKind.i64.wrap ((l5e.getD (Int.toNat ((((d_lex_Tokens p0).1).getD (Int.toNat x56) Dat.d).line - 1)) Dat.d) + (((d_lex_Tokens p0).1).getD (Int.toNat x56) Dat.d).col)) - 1))) (Int.toNat ((IntKind.i64.wrap ((IntKind.i64.wrap ((l5e.getD (Int.toNat ((((d_lex_Tokens p0).1).getD (Int.toNat x56) Dat.d).line - 1)) Dat.d) + (((d_lex_Tokens p0).1).getD (Int.toNat x56) Dat.d).col)) - 1)) + (((⟨#[64]⟩ : ByteArray) ++ (((d_lex_Tokens p0).1).getD (Int.toNat x56) Dat.d).text).size : Int)))) ((⟨#[64]⟩ : ByteArray) ++ (((d_lex_Tokens p0).1).getD (Int.toNat x56) Dat.d).text))) then
        Sum.inl false
       else d_lathelaw03_LexStands_R15 p0 l5e k (x56 + 1) x8 (((IntKind.i64.wrap ((IntKind.i64.wrap ((l5e.getD (Int.toNat ((((d_lex_Tokens p0).1).getD (Int.toNat x56) Dat.d).line - 1)) Dat.d) + (((d_lex_Tokens p0).1).getD (Int.toNat x56) Dat.d).col)) - 1)) + (((⟨#[64]⟩ : ByteArray) ++ (((d_lex_Tokens p0).1).getD (Int.toNat x56) Dat.d).text).size : Int)) - 1)
      else bif ((((d_lex_Tokens p0).1).getD (Int.toNat x56) Dat.d).k == 6) then
        bif ((((strEq ((⟨#[10]⟩ : ByteArray) ++ (((d_lex_Tokens p0).1).getD (Int.toNat x56) Dat.d).text) (⟨#[]⟩ : ByteArray)) || (decide ((IntKind.i64.wrap ((IntKind.i64.wrap ((l5e.getD (Int.toNat ((((d_lex_Tokens p0).1).getD (Int.toNat x56) Dat.d).line - 1)) Dat.d) + (((d_lex_Tokens p0).1).getD (Int.toNat x56) Dat.d).col)) - 1)) ≤ x7))) || (decide (((p0.size : Int) - (((⟨#[10]⟩ : ByteArray) ++ (((d_lex_Tokens p0).1).getD (Int.toNat x56) Dat.d).text).size : Int)) < (IntKind.i64.wrap ((IntKind.i64.wrap ((l5e.getD (Int.toNat ((((d_lex_Tokens p0).1).getD (Int.toNat x56) Dat.d).line - 1)) Dat.d) + (((d_lex_Tokens p0).1).getD (Int.toNat x56) Dat.d).col)) - 1))))) || (!strEq (p0.extract (Int.toNat (IntKind.i64.wrap ((IntKind.i64.wrap ((l5e.getD (Int.toNat ((((d_lex_Tokens p0).1).getD (Int.toNat x56) Dat.d).line - 1)) Dat.d) + (((d_lex_Tokens p0).1).getD (Int.toNat x56) Dat.d).col)) - 1))) (Int.toNat ((IntKind.i64.wrap ((IntKind.i64.wrap ((l5e.getD (Int.toNat ((((d_lex_Tokens p0).1).getD (Int.toNat x56) Dat.d).line - 1)) Dat.d) + (((d_lex_Tokens p0).1).getD (Int.toNat x56) Dat.d).col)) - 1)) + (((⟨#[10]⟩ : ByteArray) ++ (((d_lex_Tokens p0).1).getD (Int.toNat x56) Dat.d).text).size : Int)))) ((⟨#[10]⟩ : ByteArray) ++ (((d_lex_Tokens p0).1).getD (Int.toNat x56) Dat.d).text))) then
         Sum.inl false
        else d_lathelaw03_LexStands_R15 p0 l5e k (x56 + 1) (x8 + 1) (((IntKind.i64.wrap ((IntKind.i64.wrap ((l5e.getD (Int.toNat ((((d_lex_Tokens p0).1).getD (Int.toNat x56) Dat.d).line - 1)) Dat.d) + (((d_lex_Tokens p0).1).getD (Int.toNat x56) Dat.d).col)) - 1)) + (((⟨#[10]⟩ : ByteArray) ++ (((d_lex_Tokens p0).1).getD (Int.toNat x56) Dat.d).text).size : Int)) - 1)
       else bif ((((strEq ((⟨#[]⟩ : ByteArray) ++ (((d_lex_Tokens p0).1).getD (Int.toNat x56) Dat.d).text) (⟨#[]⟩ : ByteArray)) || (decide ((IntKind.i64.wrap ((IntKind.i64.wrap ((l5e.getD (Int.toNat ((((d_lex_Tokens p0).1).getD (Int.toNat x56) Dat.d).line - 1)) Dat.d) + (((d_lex_Tokens p0).1).getD (Int.toNat x56) Dat.d).col)) - 1)) ≤ x7))) || (decide (((p0.size : Int) - (((⟨#[]⟩ : ByteArray) ++ (((d_lex_Tokens p0).1).getD (Int.toNat x56) Dat.d).text).size : Int)) < (IntKind.i64.wrap ((IntKind.i64.wrap ((l5e.getD (Int.toNat ((((d_lex_Tokens p0).1).getD (Int.toNat x56) Dat.d).line - 1)) Dat.d) + (((d_lex_Tokens p0).1).getD (Int.toNat x56) Dat.d).col)) - 1))))) || (!strEq (p0.extract (Int.toNat (IntKind.i64.wrap ((IntKind.i64.wrap ((l5e.getD (Int.toNat ((((d_lex_Tokens p0).1).getD (Int.toNat x56) Dat.d).line - 1)) Dat.d) + (((d_lex_Tokens p0).1).getD (Int.toNat x56) Dat.d).col)) - 1))) (Int.toNat ((IntKind.i64.wrap ((IntKind.i64.wrap ((l5e.getD (Int.toNat ((((d_lex_Tokens p0).1).getD (Int.toNat x56) Dat.d).line - 1)) Dat.d) + (((d_lex_Tokens p0).1).getD (Int.toNat x56) Dat.d).col)) - 1)) + (((⟨#[]⟩ : ByteArray) ++ (((d_lex_Tokens p0).1).getD (Int.toNat x56) Dat.d).text).size : Int)))) ((⟨#[]⟩ : ByteArray) ++ (((d_lex_Tokens p0).1).getD (Int.toNat x56) Dat.d).text))) then
         Sum.inl false
        else d_lathelaw03_LexStands_R15 p0 l5e k (x56 + 1) x8 (((IntKind.i64.wrap ((IntKind.i64.wrap ((l5e.getD (Int.toNat ((((d_lex_Tokens p0).1).getD (Int.toNat x56) Dat.d).line - 1)) Dat.d) + (((d_lex_Tokens p0).1).getD (Int.toNat x56) Dat.d).col)) - 1)) + (((⟨#[]⟩ : ByteArray) ++ (((d_lex_Tokens p0).1).getD (Int.toNat x56) Dat.d).text).size : Int)) - 1)
   else Sum.inr (x56, x8, x7)
def d_lathelaw03_LexStands_R9 (p0 : ByteArray) : Nat → (List Int) → Int → List Int × Int
  | 0, l5, x6 => (l5, x6)
  | k + 1, l5, x6 =>
   bif (decide (x6 < (p0.size : Int))) then
    bif ((byteAt p0 x6) == 10) then
     d_lathelaw03_LexStands_R9 p0 k (l5 ++ [(x6 + 1)]) (x6 + 1)
    else d_lathelaw03_LexStands_R9 p0 k l5 (x6 + 1)
   else (l5, x6)
def d_lathelaw03_LexStands (p0 : ByteArray) : Bool :=
  bif (!d_lathelaw03_lives) then
   false
  else bif (((d_lex_Tokens p0).2).code != 0) then
    ((((d_lex_Tokens p0).1.length : Int) == 0) && ((((d_lex_Tokens p0).2).code == 6) == (decide (65536 < (p0.size : Int)))))
   else letV (d_lathelaw03_LexStands_R9 p0 (((p0.size : Int) - 0).toNat + 1) (([] : List Int) ++ [0]) 0) (fun (l5e, x6e) => thenL (d_lathelaw03_LexStands_R15 p0 l5e ((((d_lex_Tokens p0).1.length : Int) - 0).toNat + 1) 0 0 (-1)) (fun (x56e, x8e, x7e) => (x8e == ((l5e.length : Int) - 1))))
theorem lathelaw03_LexStands_S (p0 : ByteArray)  : Spec Tryd.prog 3 [.string p0] (fun w => Vars w) (fun v _ => v = Value.bool (d_lathelaw03_LexStands p0)) := by
  refine Spec.enter Tryd.func3 rfl (n := 137) Tryd.ntmps3 (Nat.le_of_ble_eq_true rfl) (l := [(0, _, _)]) rfl ?_
  intro S w
  refine SC.seq (fun K1 hK1 => SC.region ?_)
  refine SL.step (PS.assign rfl tt rfl rfl) ?_
  refine SL.keep (l' := [(0, _, _)]) ⟨rfl, trivial⟩ ?_
  refine SL.nil (SE.thenK hK1 (SC.seq (fun K2 hK2 => SC.seq (fun K3 hK3 => SC.region ?_))))
  refine SL.callR (vs := []) Tryd.call8 trivial (fun hg => lathelaw03_lives_S  ) (fun w h hok hg => (h)) rfl rfl ?_
  refine SL.step (PS.not rfl tt rfl rfl) ?_
  refine SL.keep (l' := [(15, _, _), (0, _, _)]) ⟨rfl, rfl, trivial⟩ ?_
  refine SL.nil (SE.thenK hK3 ?_)
  refine SC.cond rfl (fun c15 => ?_) (fun c15 => ?_)
  ·
   refine SC.seq (fun K4 hK4 => SC.region ?_)
   refine SL.step (PS.assign rfl tt rfl rfl) ?_
   refine SL.keep (l' := [(2, _, _)]) ⟨rfl, trivial⟩ ?_
   refine SL.nil (SE.thenK hK4 (SC.ret (SE.then_ret ?_)))
   exact fin1 rfl rfl rfl (fun _ _ => congrArg (fun z : Bool => Value.bool z) (show (d_lathelaw03_LexStands p0) = (false : Bool) from (bifT c15)).symm)
  ·
   have c15n := c15
   try simp only [Bool.and_eq_true, Bool.or_eq_true, decide_eq_true_eq, Bool.true_and, Bool.not_eq_true', Bool.not_eq_false', beq_iff_eq, bne_iff_ne, decide_eq_false_iff_not, beq_eq_false_iff_ne, bne_eq_false_iff_eq, ne_eq, Bool.or_eq_false_iff, Bool.and_eq_false_iff] at c15n
   refine SC.skip (SE.thenK hK2 (SC.seq (fun K5 hK5 => SC.region ?_)))
   refine SL.step (PS.move rfl tt rfl rfl) ?_
   refine SL.callX (vs := [_]) (rs := []) (own' := []) (List.Perm.refl _) Tryd.call9 ⟨⟨_, rfl, tt⟩, trivial⟩ (lex_Tokens_O p0 ) (fun w h => (h)) rfl rfl (fun x18 => ?_)
   obtain ⟨o0q18, cap0q18⟩ := x18
   refine SL.know (p := (d_lex_Tokens p0).1.length ≤ 9223372036854775807) (fun w h => h.2.1) (fun hleq18 => ?_)
   refine SL.step (PS.move rfl tt rfl rfl) ?_
   refine SL.step (PS.extract rfl tt rfl rfl rfl) ?_
   refine SL.step (PS.extract rfl tt rfl rfl rfl) ?_
   refine SL.alloc (cs := [_, _, _]) Tryd.zeroValue26 rfl rfl rfl (fun b4 => ?_)
   refine SL.step (PS.assign rfl tt rfl rfl) ?_
   refine SL.store_own (k := 0) (own' := [_, _]) (cs' := [_, _, _]) rfl rfl rfl rfl rfl rfl rfl Tryd.sizeOf26 rfl (Nat.le_of_ble_eq_true rfl) rfl rfl rfl rfl ?_
   refine SL.keep (l' := [(3, _, _), (4, _, _), (0, _, _)]) ⟨rfl, rfl, rfl, trivial⟩ ?_
   refine SL.nil (SE.thenK hK5 (SC.seq (fun K6 hK6 => SC.seq (fun K7 hK7 => SC.region ?_))))
   refine SL.step (PS.fieldAddr rfl tt Tryd.fieldAt_26_0 rfl rfl) ?_
   refine SL.step (PS.load_own (k := 0) rfl tt rfl rfl rfl Tryd.isAgg24 rfl rfl) ?_
   refine SL.step (PS.neq rfl tt rfl tt rfl rfl) ?_
   refine SL.keep (l' := [(23, _, _), (3, _, _), (4, _, _), (0, _, _)]) ⟨rfl, rfl, rfl, rfl, trivial⟩ ?_
   refine SL.nil (SE.thenK hK7 ?_)
   refine SC.cond rfl (fun c23 => ?_) (fun c23 => ?_)
   ·
    refine SC.seq (fun K8 hK8 => SC.region ?_)
    refine SL.step (PS.move rfl tt rfl rfl) ?_
    refine SL.step (PS.len_slice rfl tt Tryd.underlying23 rfl rfl) ?_
    refine SL.step (PS.eql rfl tt rfl tt rfl rfl) ?_
    refine SL.step (PS.move rfl tt rfl rfl) ?_
    refine SL.step (PS.fieldAddr rfl tt Tryd.fieldAt_26_0 rfl rfl) ?_
    refine SL.step (PS.load_own (k := 0) rfl (fun h => h) rfl rfl rfl Tryd.isAgg24 rfl rfl) ?_
    refine SL.step (PS.eql rfl (fun h => h) rfl tt rfl rfl) ?_
    refine SL.step (PS.move rfl tt rfl rfl) ?_
    refine SL.step (PS.len_string rfl (fun h => h) Tryd.underlying9 rfl rfl) ?_
    refine SL.step (PS.gtr rfl (fun h => h) rfl tt rfl rfl) ?_
    refine SL.step (PS.eqlB rfl (fun h => h) rfl (fun h => h) Tryd.underlying4 rfl rfl) ?_
    refine SL.step (PS.pick_and rfl tt rfl (fun h h2 => pk_and h h2) rfl rfl) ?_
    refine SL.step (PS.assign rfl tt rfl rfl) ?_
    refine SL.keep (l' := [(2, _, _)]) ⟨rfl, trivial⟩ ?_
    refine SL.nil (SE.thenK hK8 (SC.ret (SE.then_ret ?_)))
    exact fin1 rfl rfl rfl (fun _ _ => congrArg (fun z : Bool => Value.bool z) (show (d_lathelaw03_LexStands p0) = (((((d_lex_Tokens p0).1.length : Int) == 0) && ((((d_lex_Tokens p0).2).code == 6) == (decide (65536 < (p0.size : Int))))) : Bool) from ((bifF c15).trans (bifT c23))).symm)
   ·
    have c23n := c23
    try simp only [Bool.and_eq_true, Bool.or_eq_true, decide_eq_true_eq, Bool.true_and, Bool.not_eq_true', Bool.not_eq_false', beq_iff_eq, bne_iff_ne, decide_eq_false_iff_not, beq_eq_false_iff_ne, bne_eq_false_iff_eq, ne_eq, Bool.or_eq_false_iff, Bool.and_eq_false_iff] at c23n
    have hq0 := lex_small (by simpa using c23)
    refine SC.skip (SE.thenK hK6 (SC.seq (fun K9 hK9 => SC.region ?_)))
    refine SL.step (PS.assign rfl tt rfl rfl) ?_
    refine SL.row0 (Dat.sz Int) (Dat.cells (α := Int)) ?_
    refine SL.keep (l' := [(5, _, _), (3, _, _), (0, _, _)]) ⟨rfl, rfl, rfl, trivial⟩ ?_
    refine SL.nil (SE.thenK hK9 (SC.seq (fun K10 hK10 => SC.region ?_)))
    refine SL.step (PS.move rfl tt rfl rfl) ?_
    refine SL.buildSlice (us := [(0, _)]) (cs := [_]) ⟨rfl, ⟨_, rfl, tt⟩, trivial⟩ Tryd.underlying29 Tryd.sizeOf3 Tryd.zeroValue3 ⟨rfl, rfl, _, rfl, trivial⟩ rfl (by decide) rfl rfl (fun b37 => ?_)
    refine SL.append1 (k := 0) (xs := ([] : List Int)) (y := 0) (cells := Dat.cells) rfl rfl rfl rfl Dat.len Dat.one Tryd.underlying29 Tryd.rowinfo_3 (by (try simp only [List.length_append, List.length_cons, List.length_nil]); omega) (by (try simp only [List.length_append, List.length_cons, List.length_nil]); omega) rfl rfl (fun o38 c38 => ?_)
    refine SL.own_eq (own' := [_, _, _]) rfl ?_
    refine SL.step (PS.assign rfl tt rfl rfl) ?_
    refine SL.keep (l' := [(5, _, _), (3, _, _), (0, _, _)]) ⟨rfl, rfl, rfl, trivial⟩ ?_
    refine SL.nil (SE.thenK hK10 (SC.seq (fun K11 hK11 => SC.seq (fun K12 hK12 => SC.region ?_))))
    refine SL.step (PS.assign rfl tt rfl rfl) ?_
    refine SL.nil (SE.thenK hK12 (SC.block ?_))
    refine SC.loopF (fun ((k1, l5, x6, o5, cap5) : Nat × List Int × Int × Option Nat × Nat) => [(6, true, .int .i64 x6), (5, true, .slice (rowA o5) l5.length cap5), (3, true, .slice (rowA o0q18) ((d_lex_Tokens p0).1.length) cap0q18), (0, true, .string p0)]) (fun ((k1, l5, x6, o5, cap5) : Nat × List Int × Int × Option Nat × Nat) => [Rw o5 l5 cap5, .blk b4 [.int .i64 (((d_lex_Tokens p0).2).code), .int .i64 (((d_lex_Tokens p0).2).line), .int .i64 (((d_lex_Tokens p0).2).col)], Rw o0q18 ((d_lex_Tokens p0).1) cap0q18]) (fun ((k1, l5, x6, o5, cap5) : Nat × List Int × Int × Option Nat × Nat) w => ((d_lathelaw03_LexStands_R9 p0 k1 l5 x6 = d_lathelaw03_LexStands_R9 p0 (((p0.size : Int) - 0).toNat + 1) (([] : List Int) ++ [0]) 0) ∧ (((p0.size : Int) - x6).toNat < k1) ∧ (0 ≤ x6) ∧ (x6 ≤ (p0.size : Int)) ∧ ((l5.length : Int) ≤ x6 + 1)) ∧ (True)) (fun q => q.1) (((p0.size : Int) - 0).toNat + 1, (([] : List Int) ++ [0]), 0, o38, c38) ⟨rfl, rfl, rfl, rfl, trivial⟩ rfl (fun w h => ⟨⟨rfl, Nat.lt_succ_self _, by omega, by omega, by simp⟩, trivial⟩) (fun q => ?_)
    obtain ⟨k1, l5, x6, o5, cap5⟩ := q
    dsimp only
    refine SC.know (fun w h => h.2.1) (fun hp => ?_)
    obtain ⟨hL1, hm1, hi1_0, hi1_1, hi1_2⟩ := hp
    obtain ⟨k1p, rfl⟩ : ∃ j, k1 = j + 1 := ⟨k1 - 1, by omega⟩
    refine SC.seq (fun K13 hK13 => SC.seq (fun K14 hK14 => SC.region ?_))
    refine SL.step (PS.move rfl tt rfl rfl) ?_
    refine SL.step (PS.move rfl tt rfl rfl) ?_
    refine SL.step (PS.len_string rfl tt Tryd.underlying9 rfl rfl) ?_
    refine SL.step (PS.lss rfl tt rfl tt rfl rfl) ?_
    refine SL.keep (l' := [(42, _, _), (6, _, _), (5, _, _), (3, _, _), (0, _, _)]) ⟨rfl, rfl, rfl, rfl, rfl, trivial⟩ ?_
    refine SL.nil (SE.thenK hK14 ?_)
    refine SC.cond rfl (fun c42 => ?_) (fun c42 => ?_)
    ·
     have c42n := c42
     try simp only [Bool.and_eq_true, Bool.or_eq_true, decide_eq_true_eq, Bool.true_and, Bool.not_eq_true', Bool.not_eq_false', beq_iff_eq, bne_iff_ne, decide_eq_false_iff_not, beq_eq_false_iff_ne, bne_eq_false_iff_eq, ne_eq, Bool.or_eq_false_iff, Bool.and_eq_false_iff] at c42n
     refine SC.skip (SE.thenK hK13 (SC.seq (fun K15 hK15 => SC.block (SC.seq (fun K16 hK16 => SC.region ?_)))))
     refine SL.step (PS.move rfl tt rfl rfl) ?_
     refine SL.step (PS.move rfl tt rfl rfl) ?_
     refine SL.step (PS.indexStr rfl tt rfl tt Tryd.underlying9 (fun hg => by first | omega | (simp only [List.length_cons, List.length_nil]; omega) | (try simp only [Bool.and_eq_true, Bool.or_eq_true, decide_eq_true_eq, Bool.true_and, Bool.not_eq_true', beq_iff_eq, bne_iff_ne, decide_eq_false_iff_not, beq_eq_false_iff_ne, ne_eq, Bool.or_eq_false_iff, Bool.not_eq_false'] at hg; omega)) rfl rfl) ?_
     refine SL.step (PS.eql rfl tt rfl tt rfl rfl) ?_
     refine SL.keep (l' := [(48, _, _), (6, _, _), (5, _, _), (3, _, _), (0, _, _)]) ⟨rfl, rfl, rfl, rfl, rfl, trivial⟩ ?_
     refine SL.nil (SE.thenK hK16 ?_)
     refine SC.cond rfl (fun c48 => ?_) (fun c48 => ?_)
     ·
      have c48n := c48
      try simp only [Bool.and_eq_true, Bool.or_eq_true, decide_eq_true_eq, Bool.true_and, Bool.not_eq_true', Bool.not_eq_false', beq_iff_eq, bne_iff_ne, decide_eq_false_iff_not, beq_eq_false_iff_ne, bne_eq_false_iff_eq, ne_eq, Bool.or_eq_false_iff, Bool.and_eq_false_iff] at c48n
      refine SC.region ?_
      refine SL.step (PS.move rfl tt rfl rfl) ?_
      refine SL.step (PS.move rfl tt rfl rfl) ?_
      refine SL.step (PS.add_in rfl tt rfl tt (fun _ => wr_i64 (by omega)) rfl rfl) ?_
      refine SL.buildSlice (us := [(0, _)]) (cs := [_]) ⟨rfl, ⟨_, rfl, tt⟩, trivial⟩ Tryd.underlying29 Tryd.sizeOf3 Tryd.zeroValue3 ⟨rfl, rfl, _, rfl, trivial⟩ rfl (by decide) rfl rfl (fun b52 => ?_)
      refine SL.append1 (k := 0) (xs := l5) (y := (x6 + 1)) (cells := Dat.cells) rfl rfl rfl rfl Dat.len Dat.one Tryd.underlying29 Tryd.rowinfo_3 (by (try simp only [List.length_append, List.length_cons, List.length_nil]); omega) (by (try simp only [List.length_append, List.length_cons, List.length_nil]); omega) rfl rfl (fun o53 c53 => ?_)
      refine SL.own_eq (own' := [_, _, _]) rfl ?_
      refine SL.step (PS.assign rfl tt rfl rfl) ?_
      refine SL.keep (l' := [(5, _, _), (6, _, _), (3, _, _), (0, _, _)]) ⟨rfl, rfl, rfl, rfl, trivial⟩ ?_
      refine SL.nil (SE.block_normal (SE.thenK hK15 (SC.region ?_)))
      refine SL.step (PS.move rfl tt rfl rfl) ?_
      refine SL.step (PS.add_in rfl tt rfl tt (fun _ => wr_i64 (by omega)) rfl rfl) ?_
      refine SL.step (PS.assign rfl tt rfl rfl) ?_
      refine SL.keep (l' := [(6, _, _), (5, _, _), (3, _, _), (0, _, _)]) ⟨rfl, rfl, rfl, rfl, trivial⟩ ?_
      refine SL.nil ?_
      exact SE.againF (k1p, (l5 ++ [(x6 + 1)]), (x6 + 1), o53, c53) ⟨rfl, rfl, rfl, rfl, trivial⟩ rfl (fun w h => And.intro (h.1) (And.intro ⟨((show d_lathelaw03_LexStands_R9 p0 (k1p + 1) l5 x6 = d_lathelaw03_LexStands_R9 p0 k1p (l5 ++ [(x6 + 1)]) (x6 + 1) from ((bifT c42).trans (bifT c48))).symm.trans hL1), by (try dsimp only); omega, by (try dsimp only); omega, by (try dsimp only); omega, by (try simp only [List.length_append, List.length_cons, List.length_nil]); omega⟩ (trivial))) (Nat.lt_succ_self _)
     ·
      have c48n := c48
      try simp only [Bool.and_eq_true, Bool.or_eq_true, decide_eq_true_eq, Bool.true_and, Bool.not_eq_true', Bool.not_eq_false', beq_iff_eq, bne_iff_ne, decide_eq_false_iff_not, beq_eq_false_iff_ne, bne_eq_false_iff_eq, ne_eq, Bool.or_eq_false_iff, Bool.and_eq_false_iff] at c48n
      refine SC.skip (SE.block_normal (SE.thenK hK15 (SC.region ?_)))
      refine SL.step (PS.move rfl tt rfl rfl) ?_
      refine SL.step (PS.add_in rfl tt rfl tt (fun _ => wr_i64 (by omega)) rfl rfl) ?_
      refine SL.step (PS.assign rfl tt rfl rfl) ?_
      refine SL.keep (l' := [(6, _, _), (5, _, _), (3, _, _), (0, _, _)]) ⟨rfl, rfl, rfl, rfl, trivial⟩ ?_
      refine SL.nil ?_
      exact SE.againF (k1p, l5, (x6 + 1), o5, cap5) ⟨rfl, rfl, rfl, rfl, trivial⟩ rfl (fun w h => And.intro (h.1) (And.intro ⟨((show d_lathelaw03_LexStands_R9 p0 (k1p + 1) l5 x6 = d_lathelaw03_LexStands_R9 p0 k1p l5 (x6 + 1) from ((bifT c42).trans (bifF c48))).symm.trans hL1), by (try dsimp only); omega, by (try dsimp only); omega, by (try dsimp only); omega, by (try simp only [List.length_append, List.length_cons, List.length_nil]); omega⟩ (trivial))) (Nat.lt_succ_self _)
    ·
     have c42n := c42
     try simp only [Bool.and_eq_true, Bool.or_eq_true, decide_eq_true_eq, Bool.true_and, Bool.not_eq_true', Bool.not_eq_false', beq_iff_eq, bne_iff_ne, decide_eq_false_iff_not, beq_eq_false_iff_ne, bne_eq_false_iff_eq, ne_eq, Bool.or_eq_false_iff, Bool.and_eq_false_iff] at c42n
     refine SC.exit (SE.then_exit (SE.then_exit (SE.block_same (SE.thenK hK11 (SC.seq (fun K17 hK17 => SC.region ?_))))))
     refine SL.step (PS.assign rfl tt rfl rfl) ?_
     refine SL.step (PS.assign rfl tt rfl rfl) ?_
     refine SL.keep (l' := [(8, _, _), (7, _, _), (5, _, _), (3, _, _), (0, _, _)]) ⟨rfl, rfl, rfl, rfl, rfl, trivial⟩ ?_
     refine SL.nil (SE.thenK hK17 (SC.seq (fun K18 hK18 => SC.seq (fun K19 hK19 => SC.region ?_))))
     refine SL.step (PS.move rfl tt rfl rfl) ?_
     refine SL.step (PS.len_slice rfl tt Tryd.underlying23 rfl rfl) ?_
     refine SL.step (PS.move rfl tt rfl rfl) ?_
     refine SL.keep (l' := [(56, _, _), (55, _, _), (54, _, _), (8, _, _), (7, _, _), (5, _, _), (0, _, _)]) ⟨rfl, rfl, rfl, rfl, rfl, rfl, rfl, trivial⟩ ?_
     refine SL.nil (SE.thenK hK19 (SC.block ?_))
     refine SC.loopF (fun ((k1b, x56, x8, x7) : Nat × Int × Int × Int) => [(56, true, .int .i64 x56), (55, true, .int .i64 ((d_lex_Tokens p0).1.length : Int)), (54, true, .slice (rowA o0q18) ((d_lex_Tokens p0).1.length) cap0q18), (8, true, .int .i64 x8), (7, true, .int .i64 x7), (5, true, .slice (rowA o5) l5.length cap5), (0, true, .string p0)]) (fun ((k1b, x56, x8, x7) : Nat × Int × Int × Int) => [Rw o5 l5 cap5, .blk b4 [.int .i64 (((d_lex_Tokens p0).2).code), .int .i64 (((d_lex_Tokens p0).2).line), .int .i64 (((d_lex_Tokens p0).2).col)], Rw o0q18 ((d_lex_Tokens p0).1) cap0q18]) (fun ((k1b, x56, x8, x7) : Nat × Int × Int × Int) w => ((d_lathelaw03_LexStands_R15 p0 l5 k1b x56 x8 x7 = d_lathelaw03_LexStands_R15 p0 l5 ((((d_lex_Tokens p0).1.length : Int) - 0).toNat + 1) 0 0 (-1)) ∧ ((((d_lex_Tokens p0).1.length : Int) - x56).toNat < k1b) ∧ (0 ≤ x56) ∧ (x56 ≤ ((d_lex_Tokens p0).1.length : Int)) ∧ (-1 ≤ x7) ∧ (x7 ≤ p0.size) ∧ (0 ≤ x8) ∧ (x8 ≤ x56)) ∧ (True)) (fun q => q.1) ((((d_lex_Tokens p0).1.length : Int) - 0).toNat + 1, 0, 0, (-1)) ⟨rfl, rfl, rfl, rfl, rfl, rfl, rfl, trivial⟩ rfl (fun w h => ⟨⟨rfl, Nat.lt_succ_self _, by omega, by omega, by omega, by omega, by omega, by omega⟩, trivial⟩) (fun q => ?_)
     obtain ⟨k1b, x56, x8, x7⟩ := q
     dsimp only
     refine SC.know (fun w h => h.2.1) (fun hp => ?_)
     obtain ⟨hL1b, hm1b, hi1b_0, hi1b_1, hi1b_2, hi1b_3, hi1b_4, hi1b_5⟩ := hp
     obtain ⟨k1bp, rfl⟩ : ∃ j, k1b = j + 1 := ⟨k1b - 1, by omega⟩
     refine SC.seq (fun K20 hK20 => SC.region ?_)
     refine SL.step (PS.lss rfl tt rfl tt rfl rfl) ?_
     refine SL.nil (SE.thenK hK20 (SC.seq (fun K21 hK21 => ?_)))
     refine SC.cond rfl (fun c57 => ?_) (fun c57 => ?_)
     ·
      have c57n := c57
      try simp only [Bool.and_eq_true, Bool.or_eq_true, decide_eq_true_eq, Bool.true_and, Bool.not_eq_true', Bool.not_eq_false', beq_iff_eq, bne_iff_ne, decide_eq_false_iff_not, beq_eq_false_iff_ne, bne_eq_false_iff_eq, ne_eq, Bool.or_eq_false_iff, Bool.and_eq_false_iff] at c57n
      refine SC.skip (SE.thenK hK21 (SC.seq (fun K22 hK22 => SC.block (SC.seq (fun K23 hK23 => SC.region ?_)))))
      refine SL.step (PS.indexS (α := Tok) (xs := (d_lex_Tokens p0).1) rfl tt rfl tt Tryd.underlying23 Tryd.sizeOf31 (fun w hw _ => Rw.sl (hw.ok _ (mem_nth (k := 2) rfl))) rfl (fun hg => by first | omega | (simp only [List.length_cons, List.length_nil]; omega) | (try simp only [Bool.and_eq_true, Bool.or_eq_true, decide_eq_true_eq, Bool.true_and, Bool.not_eq_true', beq_iff_eq, bne_iff_ne, decide_eq_false_iff_not, beq_eq_false_iff_ne, ne_eq, Bool.or_eq_false_iff, Bool.not_eq_false'] at hg; omega)) rfl rfl) ?_
      refine SL.step (PS.loadS (α := Tok) (xs := (d_lex_Tokens p0).1) (m := x56) (vs := [.int .i64 ((((d_lex_Tokens p0).1).getD (Int.toNat x56) Dat.d).k), .string ((((d_lex_Tokens p0).1).getD (Int.toNat x56) Dat.d).text), .int .i64 ((((d_lex_Tokens p0).1).getD (Int.toNat x56) Dat.d).line), .int .i64 ((((d_lex_Tokens p0).1).getD (Int.toNat x56) Dat.d).col)]) rfl tt (fun w hw _ => Rw.sl (hw.ok _ (mem_nth (k := 2) rfl))) (fun hg => by first | omega | (simp only [List.length_cons, List.length_nil]; omega) | (try simp only [Bool.and_eq_true, Bool.or_eq_true, decide_eq_true_eq, Bool.true_and, Bool.not_eq_true', beq_iff_eq, bne_iff_ne, decide_eq_false_iff_not, beq_eq_false_iff_ne, ne_eq, Bool.or_eq_false_iff, Bool.not_eq_false'] at hg; omega)) rfl Tryd.isAgg31 Tryd.sizeOf31 rfl rfl) ?_
      refine SL.alloc (cs := [_, _, _, _]) Tryd.zeroValue31 rfl rfl rfl (fun b10 => ?_)
      refine SL.store_own (k := 0) (own' := [_, _, _, _]) (cs' := [_, _, _, _]) rfl rfl rfl rfl rfl rfl rfl Tryd.sizeOf31 rfl (Nat.le_of_ble_eq_true rfl) rfl rfl rfl rfl ?_
      refine SL.keep (l' := [(10, _, _), (56, _, _), (55, _, _), (54, _, _), (8, _, _), (7, _, _), (5, _, _), (0, _, _)]) ⟨rfl, rfl, rfl, rfl, rfl, rfl, rfl, rfl, trivial⟩ ?_
      refine SL.nil (SE.thenK hK23 (SC.seq (fun K24 hK24 => SC.seq (fun K25 hK25 => ?_))))
      have ht59 := hq0.2.2 _ (getD_mem (d := Dat.d) (i := Int.toNat x56) (by omega))
      have hs37 : ((⟨#[37]⟩ : ByteArray) ++ ((d_lex_Tokens p0).1.getD (Int.toNat x56) Dat.d).text).size = ((d_lex_Tokens p0).1.getD (Int.toNat x56) Dat.d).text.size + 1 := by rw [ByteArray.size_append]; show 1 + _ = _; omega
      have hs64 : ((⟨#[64]⟩ : ByteArray) ++ ((d_lex_Tokens p0).1.getD (Int.toNat x56) Dat.d).text).size = ((d_lex_Tokens p0).1.getD (Int.toNat x56) Dat.d).text.size + 1 := by rw [ByteArray.size_append]; show 1 + _ = _; omega
      have hs10 : ((⟨#[10]⟩ : ByteArray) ++ ((d_lex_Tokens p0).1.getD (Int.toNat x56) Dat.d).text).size = ((d_lex_Tokens p0).1.getD (Int.toNat x56) Dat.d).text.size + 1 := by rw [ByteArray.size_append]; show 1 + _ = _; omega
      have hs00 : ((⟨#[]⟩ : ByteArray) ++ ((d_lex_Tokens p0).1.getD (Int.toNat x56) Dat.d).text).size = ((d_lex_Tokens p0).1.getD (Int.toNat x56) Dat.d).text.size + 0 := by rw [ByteArray.size_append]; show 0 + _ = _; omega
      refine SC.region ?_
      refine SL.step (PS.fieldAddr rfl tt Tryd.fieldAt_31_2 rfl rfl) ?_
      refine SL.step (PS.load_own (k := 0) rfl tt rfl rfl rfl Tryd.isAgg3 rfl rfl) ?_
      refine SL.step (PS.lss rfl tt rfl tt rfl rfl) ?_
      refine SL.step (PS.move rfl tt rfl rfl) ?_
      refine SL.step (PS.fieldAddr rfl tt Tryd.fieldAt_31_2 rfl rfl) ?_
      refine SL.step (PS.load_own (k := 0) rfl (fun h => h) rfl rfl rfl Tryd.isAgg3 rfl rfl) ?_
      refine SL.step (PS.move rfl tt rfl rfl) ?_
      refine SL.step (PS.len_slice rfl (fun h => h) Tryd.underlying29 rfl rfl) ?_
      refine SL.step (PS.gtr rfl (fun h => h) rfl (fun h => h) rfl rfl) ?_
      refine SL.step (PS.pick_or rfl tt rfl (fun h h2 => pk_or h h2) rfl rfl) ?_
      refine SL.step (PS.move rfl tt rfl rfl) ?_
      refine SL.step (PS.fieldAddr rfl tt Tryd.fieldAt_31_3 rfl rfl) ?_
      refine SL.step (PS.load_own (k := 0) rfl (fun h => h) rfl rfl rfl Tryd.isAgg3 rfl rfl) ?_
      refine SL.step (PS.lss rfl (fun h => h) rfl tt rfl rfl) ?_
      refine SL.step (PS.pick_or rfl tt rfl (fun h h2 => pk_or h h2) rfl rfl) ?_
      refine SL.keep (l' := [(74, _, _), (10, _, _), (56, _, _), (55, _, _), (54, _, _), (8, _, _), (7, _, _), (5, _, _), (0, _, _)]) ⟨rfl, rfl, rfl, rfl, rfl, rfl, rfl, rfl, rfl, trivial⟩ ?_
      refine SL.nil (SE.thenK hK25 ?_)
      refine SC.cond rfl (fun c74 => ?_) (fun c74 => ?_)
      ·
       refine SC.seq (fun K26 hK26 => SC.region ?_)
       refine SL.step (PS.assign rfl tt rfl rfl) ?_
       refine SL.keep (l' := [(2, _, _)]) ⟨rfl, trivial⟩ ?_
       refine SL.nil (SE.thenK hK26 (SC.ret (SE.then_ret (SE.block_ret (SE.then_ret (SE.then_ret (SE.block_ret ?_)))))))
       refine SE.then_ret ?_
       exact fin1 rfl rfl rfl (fun _ _ => congrArg (fun z : Bool => Value.bool z) (show (d_lathelaw03_LexStands p0) = (false : Bool) from ((bifF c15).trans ((bifF c23).trans ((letV_eq (hL1.symm.trans (show d_lathelaw03_LexStands_R9 p0 (k1p + 1) l5 x6 = (l5, x6) from (bifF c42)))).trans (thenL_inl ((hL1b.symm.trans (show d_lathelaw03_LexStands_R15 p0 l5 (k1bp + 1) x56 x8 x7 = Sum.inl false from ((bifT c57).trans (bifT c74)))))))))).symm)
      ·
       have c74n := c74
       try simp only [Bool.and_eq_true, Bool.or_eq_true, decide_eq_true_eq, Bool.true_and, Bool.not_eq_true', Bool.not_eq_false', beq_iff_eq, bne_iff_ne, decide_eq_false_iff_not, beq_eq_false_iff_ne, bne_eq_false_iff_eq, ne_eq, Bool.or_eq_false_iff, Bool.and_eq_false_iff] at c74n
       refine SC.skip (SE.thenK hK24 (SC.seq (fun K27 hK27 => ?_)))
       refine SC.draw (S := SP _ _ _) 11 (by kernel_rfl) (by kernel_rfl) (fun _ h => h) ?_
       refine SD.take 0 rfl rfl (by kernel_rfl) (PS.move rfl tt rfl rfl) ?_
       refine SD.take 1 rfl rfl (by kernel_rfl) (PS.fieldAddr rfl tt Tryd.fieldAt_31_2 rfl rfl) ?_
       refine SD.take 2 rfl rfl (by kernel_rfl) (PS.load_own (k := 0) rfl tt rfl rfl rfl Tryd.isAgg3 rfl rfl) ?_
       refine SD.take 3 rfl rfl (by kernel_rfl) (PS.sub_in rfl tt rfl tt (fun _ => wr_i64 (by omega)) rfl rfl) ?_
       refine SD.take 4 rfl rfl (by kernel_rfl) (PS.indexS (α := Int) (xs := l5) rfl tt rfl tt Tryd.underlying29 Tryd.sizeOf3 (fun w hw _ => Rw.sl (hw.ok _ (mem_nth (k := 1) rfl))) rfl (fun hg => by first | omega | (simp only [List.length_cons, List.length_nil]; omega) | (try simp only [Bool.and_eq_true, Bool.or_eq_true, decide_eq_true_eq, Bool.true_and, Bool.not_eq_true', beq_iff_eq, bne_iff_ne, decide_eq_false_iff_not, beq_eq_false_iff_ne, ne_eq, Bool.or_eq_false_iff, Bool.not_eq_false'] at hg; omega)) rfl rfl) ?_
       refine SD.take 5 rfl rfl (by kernel_rfl) (PS.loadS1 (α := Int) (xs := l5) (m := ((((d_lex_Tokens p0).1).getD (Int.toNat x56) Dat.d).line - 1)) rfl tt (fun w hw _ => Rw.sl (hw.ok _ (mem_nth (k := 1) rfl))) (fun hg => by first | omega | (simp only [List.length_cons, List.length_nil]; omega) | (try simp only [Bool.and_eq_true, Bool.or_eq_true, decide_eq_true_eq, Bool.true_and, Bool.not_eq_true', beq_iff_eq, bne_iff_ne, decide_eq_false_iff_not, beq_eq_false_iff_ne, ne_eq, Bool.or_eq_false_iff, Bool.not_eq_false'] at hg; omega)) rfl Tryd.isAgg3 rfl rfl) ?_
       refine SD.take 6 rfl rfl (by kernel_rfl) (PS.fieldAddr rfl tt Tryd.fieldAt_31_3 rfl rfl) ?_
       refine SD.take 7 rfl rfl (by kernel_rfl) (PS.load_own (k := 0) rfl tt rfl rfl rfl Tryd.isAgg3 rfl rfl) ?_
       refine SD.take 8 rfl rfl (by kernel_rfl) (PS.add rfl tt rfl tt rfl rfl) ?_
       refine SD.take 9 rfl rfl (by kernel_rfl) (PS.sub rfl tt rfl tt rfl rfl) ?_
       refine SD.take 10 rfl rfl (by kernel_rfl) (PS.assign rfl tt rfl rfl) ?_
       refine SD.tail (by kernel_rfl) (os := []) rfl ?_
       refine SL.keep (l' := [(11, _, _), (10, _, _), (56, _, _), (55, _, _), (54, _, _), (8, _, _), (7, _, _), (5, _, _), (0, _, _)]) ⟨rfl, rfl, rfl, rfl, rfl, rfl, rfl, rfl, rfl, trivial⟩ ?_
       refine SL.nil (SE.calm (SE.thenK hK27 (SC.seq (fun K28 hK28 => SC.region ?_))))
       refine SL.step (PS.assign rfl tt rfl rfl) ?_
       refine SL.nil (SE.thenK hK28 (SC.seq (fun K29 hK29 => SC.seq (fun K30 hK30 => SC.region ?_))))
       refine SL.step (PS.fieldAddr rfl tt Tryd.fieldAt_31_0 rfl rfl) ?_
       refine SL.step (PS.load_own (k := 0) rfl tt rfl rfl rfl Tryd.isAgg3 rfl rfl) ?_
       refine SL.keep (l' := [(86, _, _), (12, _, _), (11, _, _), (10, _, _), (56, _, _), (55, _, _), (54, _, _), (8, _, _), (7, _, _), (5, _, _), (0, _, _)]) ⟨rfl, rfl, rfl, rfl, rfl, rfl, rfl, rfl, rfl, rfl, rfl, trivial⟩ ?_
       refine SL.nil (SE.thenK hK30 (SC.block (SC.seq (fun K31 hK31 => SC.region ?_))))
       refine SL.step (PS.eql rfl tt rfl tt rfl rfl) ?_
       refine SL.step (PS.assign rfl tt rfl rfl) ?_
       refine SL.keep (l' := [(87, _, _), (86, _, _), (12, _, _), (11, _, _), (10, _, _), (56, _, _), (55, _, _), (54, _, _), (8, _, _), (7, _, _), (5, _, _), (0, _, _)]) ⟨rfl, rfl, rfl, rfl, rfl, rfl, rfl, rfl, rfl, rfl, rfl, rfl, trivial⟩ ?_
       refine SL.nil (SE.thenK hK31 ?_)
       refine SC.cond rfl (fun c87 => ?_) (fun c87 => ?_)
       ·
        have c87n := c87
        try simp only [Bool.and_eq_true, Bool.or_eq_true, decide_eq_true_eq, Bool.true_and, Bool.not_eq_true', Bool.not_eq_false', beq_iff_eq, bne_iff_ne, decide_eq_false_iff_not, beq_eq_false_iff_ne, bne_eq_false_iff_eq, ne_eq, Bool.or_eq_false_iff, Bool.and_eq_false_iff] at c87n
        refine SC.region ?_
        refine SL.step (PS.assign rfl tt rfl rfl) ?_
        refine SL.keep (l' := [(12, _, _), (11, _, _), (10, _, _), (56, _, _), (55, _, _), (54, _, _), (8, _, _), (7, _, _), (5, _, _), (0, _, _)]) ⟨rfl, rfl, rfl, rfl, rfl, rfl, rfl, rfl, rfl, rfl, trivial⟩ ?_
        refine SL.nil (SE.block_normal (SE.thenK hK29 (SC.seq (fun K32 hK32 => SC.region ?_))))
        refine SL.step (PS.move rfl tt rfl rfl) ?_
        refine SL.step (PS.fieldAddr rfl tt Tryd.fieldAt_31_1 rfl rfl) ?_
        refine SL.step (PS.load_own (k := 0) rfl tt rfl rfl rfl Tryd.isAgg9 rfl rfl) ?_
        refine SL.step (PS.addS rfl tt rfl tt (fun hg => by first | (show 1 + _ ≤ _; omega) | (show 0 + _ ≤ _; omega)) rfl rfl) ?_
        refine SL.step (PS.assign rfl tt rfl rfl) ?_
        refine SL.keep (l' := [(13, _, _), (11, _, _), (56, _, _), (55, _, _), (54, _, _), (8, _, _), (7, _, _), (5, _, _), (0, _, _)]) ⟨rfl, rfl, rfl, rfl, rfl, rfl, rfl, rfl, rfl, trivial⟩ ?_
        refine SL.nil (SE.thenK hK32 (SC.seq (fun K33 hK33 => SC.seq (fun K34 hK34 => SC.region ?_))))
        refine SL.step (PS.move rfl tt rfl rfl) ?_
        refine SL.step (PS.eqlS rfl tt rfl tt rfl rfl) ?_
        refine SL.step (PS.move rfl tt rfl rfl) ?_
        refine SL.step (PS.move rfl tt rfl rfl) ?_
        refine SL.step (PS.move rfl tt rfl rfl) ?_
        refine SL.step (PS.leq rfl (fun h => h) rfl (fun h => h) rfl rfl) ?_
        refine SL.step (PS.pick_or rfl tt rfl (fun h h2 => pk_or h h2) rfl rfl) ?_
        refine SL.step (PS.move rfl tt rfl rfl) ?_
        refine SL.step (PS.move rfl tt rfl rfl) ?_
        refine SL.step (PS.move rfl tt rfl rfl) ?_
        refine SL.step (PS.len_string rfl (fun h => h) Tryd.underlying9 rfl rfl) ?_
        refine SL.step (PS.move rfl tt rfl rfl) ?_
        refine SL.step (PS.len_string rfl (fun h => h) Tryd.underlying9 rfl rfl) ?_
        refine SL.step (PS.sub_in rfl (fun h => h) rfl (fun h => h) (fun hg => wr_i64 (by first | omega | (simp only [List.length_cons, List.length_nil]; omega) | (try simp only [Bool.and_eq_true, Bool.or_eq_true, decide_eq_true_eq, Bool.true_and, Bool.not_eq_true', beq_iff_eq, bne_iff_ne, decide_eq_false_iff_not, beq_eq_false_iff_ne, ne_eq, Bool.or_eq_false_iff, Bool.not_eq_false'] at hg; omega))) rfl rfl) ?_
        refine SL.step (PS.gtr rfl (fun h => h) rfl (fun h => h) rfl rfl) ?_
        refine SL.step (PS.pick_or rfl tt rfl (fun h h2 => pk_or h h2) rfl rfl) ?_
        refine SL.step (PS.move rfl tt rfl rfl) ?_
        refine SL.step (PS.move rfl tt rfl rfl) ?_
        refine SL.step (PS.move rfl tt rfl rfl) ?_
        refine SL.step (PS.move rfl tt rfl rfl) ?_
        refine SL.step (PS.move rfl tt rfl rfl) ?_
        refine SL.step (PS.len_string rfl (fun h => h) Tryd.underlying9 rfl rfl) ?_
        refine SL.step (PS.add_in rfl (fun h => h) rfl (fun h => h) (fun hg => wr_i64 (by first | omega | (simp only [List.length_cons, List.length_nil]; omega) | (try simp only [Bool.and_eq_true, Bool.or_eq_true, decide_eq_true_eq, Bool.true_and, Bool.not_eq_true', beq_iff_eq, bne_iff_ne, decide_eq_false_iff_not, beq_eq_false_iff_ne, ne_eq, Bool.or_eq_false_iff, Bool.not_eq_false'] at hg; omega))) rfl rfl) ?_
        refine SL.step (PS.sliceStr rfl (fun h => h) rfl (fun h => h) rfl (fun h => h) Tryd.underlying9 (fun hg => by first | omega | (simp only [List.length_cons, List.length_nil]; omega) | (try simp only [Bool.and_eq_true, Bool.or_eq_true, decide_eq_true_eq, Bool.true_and, Bool.not_eq_true', beq_iff_eq, bne_iff_ne, decide_eq_false_iff_not, beq_eq_false_iff_ne, ne_eq, Bool.or_eq_false_iff, Bool.not_eq_false'] at hg; omega)) rfl rfl) ?_
        refine SL.step (PS.move rfl tt rfl rfl) ?_
        refine SL.step (PS.neqS rfl (fun h => h) rfl (fun h => h) rfl rfl) ?_
        refine SL.step (PS.pick_or rfl tt rfl (fun h h2 => pk_or h h2) rfl rfl) ?_
        refine SL.keep (l' := [(125, _, _), (13, _, _), (11, _, _), (56, _, _), (55, _, _), (54, _, _), (8, _, _), (5, _, _), (0, _, _)]) ⟨rfl, rfl, rfl, rfl, rfl, rfl, rfl, rfl, rfl, trivial⟩ ?_
        refine SL.nil (SE.thenK hK34 ?_)
        refine SC.cond rfl (fun c125 => ?_) (fun c125 => ?_)
        ·
         refine SC.seq (fun K35 hK35 => SC.region ?_)
         refine SL.step (PS.assign rfl tt rfl rfl) ?_
         refine SL.keep (l' := [(2, _, _)]) ⟨rfl, trivial⟩ ?_
         refine SL.nil (SE.thenK hK35 (SC.ret (SE.then_ret (SE.block_ret (SE.then_ret (SE.then_ret (SE.block_ret ?_)))))))
         refine SE.then_ret ?_
         exact fin1 rfl rfl rfl (fun _ _ => congrArg (fun z : Bool => Value.bool z) (show (d_lathelaw03_LexStands p0) = (false : Bool) from ((bifF c15).trans ((bifF c23).trans ((letV_eq (hL1.symm.trans (show d_lathelaw03_LexStands_R9 p0 (k1p + 1) l5 x6 = (l5, x6) from (bifF c42)))).trans (thenL_inl ((hL1b.symm.trans (show d_lathelaw03_LexStands_R15 p0 l5 (k1bp + 1) x56 x8 x7 = Sum.inl false from ((bifT c57).trans ((bifF c74).trans ((bifT c87).trans (bifT c125)))))))))))).symm)
        ·
         have c125n := c125
         try simp only [Bool.and_eq_true, Bool.or_eq_true, decide_eq_true_eq, Bool.true_and, Bool.not_eq_true', Bool.not_eq_false', beq_iff_eq, bne_iff_ne, decide_eq_false_iff_not, beq_eq_false_iff_ne, bne_eq_false_iff_eq, ne_eq, Bool.or_eq_false_iff, Bool.and_eq_false_iff] at c125n
         refine SC.skip (SE.thenK hK33 (SC.region ?_))
         refine SL.step (PS.move rfl tt rfl rfl) ?_
         refine SL.step (PS.move rfl tt rfl rfl) ?_
         refine SL.step (PS.len_string rfl tt Tryd.underlying9 rfl rfl) ?_
         refine SL.step (PS.add_in rfl tt rfl tt (fun _ => wr_i64 (by omega)) rfl rfl) ?_
         refine SL.step (PS.sub_in rfl tt rfl tt (fun _ => wr_i64 (by omega)) rfl rfl) ?_
         refine SL.step (PS.assign rfl tt rfl rfl) ?_
         refine SL.keep (l' := [(7, _, _), (56, _, _), (55, _, _), (54, _, _), (8, _, _), (5, _, _), (0, _, _)]) ⟨rfl, rfl, rfl, rfl, rfl, rfl, rfl, trivial⟩ ?_
         refine SL.nil (SE.block_normal (SE.thenK hK22 (SC.region ?_)))
         refine SL.step (PS.add_in rfl tt rfl tt (fun _ => wr_i64 (by omega)) rfl rfl) ?_
         refine SL.step (PS.move rfl tt rfl rfl) ?_
         refine SL.keep (l' := [(56, _, _), (7, _, _), (55, _, _), (54, _, _), (8, _, _), (5, _, _), (0, _, _)]) ⟨rfl, rfl, rfl, rfl, rfl, rfl, rfl, trivial⟩ ?_
         refine SL.nil ?_
         refine SE.drop (own' := [_, _, _]) (List.Sublist.cons _ (List.Sublist.cons_cons _ (List.Sublist.cons_cons _ (List.Sublist.cons_cons _ List.Sublist.slnil)))) ?_
         exact SE.againF (k1bp, (x56 + 1), x8, (((IntKind.i64.wrap ((IntKind.i64.wrap ((l5.getD (Int.toNat ((((d_lex_Tokens p0).1).getD (Int.toNat x56) Dat.d).line - 1)) Dat.d) + (((d_lex_Tokens p0).1).getD (Int.toNat x56) Dat.d).col)) - 1)) + (((⟨#[37]⟩ : ByteArray) ++ (((d_lex_Tokens p0).1).getD (Int.toNat x56) Dat.d).text).size : Int)) - 1)) ⟨rfl, rfl, rfl, rfl, rfl, rfl, rfl, trivial⟩ rfl (fun w h => And.intro (h.1) (And.intro ⟨((show d_lathelaw03_LexStands_R15 p0 l5 (k1bp + 1) x56 x8 x7 = d_lathelaw03_LexStands_R15 p0 l5 k1bp (x56 + 1) x8 (((IntKind.i64.wrap ((IntKind.i64.wrap ((l5.getD (Int.toNat ((((d_lex_Tokens p0).1).getD (Int.toNat x56) Dat.d).line - 1)) Dat.d) + (((d_lex_Tokens p0).1).getD (Int.toNat x56) Dat.d).col)) - 1)) + (((⟨#[37]⟩ : ByteArray) ++ (((d_lex_Tokens p0).1).getD (Int.toNat x56) Dat.d).text).size : Int)) - 1) from ((bifT c57).trans ((bifF c74).trans ((bifT c87).trans (bifF c125))))).symm.trans hL1b), by (try dsimp only); omega, by (try dsimp only); omega, by (try dsimp only); omega, by (try dsimp only); omega, by (try dsimp only); omega, by (try dsimp only); omega, by (try dsimp only); omega⟩ (trivial))) (Nat.lt_succ_self _)
       ·
        have c87n := c87
        try simp only [Bool.and_eq_true, Bool.or_eq_true, decide_eq_true_eq, Bool.true_and, Bool.not_eq_true', Bool.not_eq_false', beq_iff_eq, bne_iff_ne, decide_eq_false_iff_not, beq_eq_false_iff_ne, bne_eq_false_iff_eq, ne_eq, Bool.or_eq_false_iff, Bool.and_eq_false_iff] at c87n
        refine SC.seq (fun K36 hK36 => SC.region ?_)
        refine SL.step (PS.eql rfl tt rfl tt rfl rfl) ?_
        refine SL.step (PS.assign rfl tt rfl rfl) ?_
        refine SL.keep (l' := [(89, _, _), (86, _, _), (12, _, _), (11, _, _), (10, _, _), (56, _, _), (55, _, _), (54, _, _), (8, _, _), (7, _, _), (5, _, _), (0, _, _)]) ⟨rfl, rfl, rfl, rfl, rfl, rfl, rfl, rfl, rfl, rfl, rfl, rfl, trivial⟩ ?_
        refine SL.nil (SE.thenK hK36 ?_)
        refine SC.cond rfl (fun c89 => ?_) (fun c89 => ?_)
        ·
         have c89n := c89
         try simp only [Bool.and_eq_true, Bool.or_eq_true, decide_eq_true_eq, Bool.true_and, Bool.not_eq_true', Bool.not_eq_false', beq_iff_eq, bne_iff_ne, decide_eq_false_iff_not, beq_eq_false_iff_ne, bne_eq_false_iff_eq, ne_eq, Bool.or_eq_false_iff, Bool.and_eq_false_iff] at c89n
         refine SC.region ?_
         refine SL.step (PS.assign rfl tt rfl rfl) ?_
         refine SL.keep (l' := [(12, _, _), (11, _, _), (10, _, _), (56, _, _), (55, _, _), (54, _, _), (8, _, _), (7, _, _), (5, _, _), (0, _, _)]) ⟨rfl, rfl, rfl, rfl, rfl, rfl, rfl, rfl, rfl, rfl, trivial⟩ ?_
         refine SL.nil (SE.block_normal (SE.thenK hK29 (SC.seq (fun K37 hK37 => SC.region ?_))))
         refine SL.step (PS.move rfl tt rfl rfl) ?_
         refine SL.step (PS.fieldAddr rfl tt Tryd.fieldAt_31_1 rfl rfl) ?_
         refine SL.step (PS.load_own (k := 0) rfl tt rfl rfl rfl Tryd.isAgg9 rfl rfl) ?_
         refine SL.step (PS.addS rfl tt rfl tt (fun hg => by first | (show 1 + _ ≤ _; omega) | (show 0 + _ ≤ _; omega)) rfl rfl) ?_
         refine SL.step (PS.assign rfl tt rfl rfl) ?_
         refine SL.keep (l' := [(13, _, _), (11, _, _), (56, _, _), (55, _, _), (54, _, _), (8, _, _), (7, _, _), (5, _, _), (0, _, _)]) ⟨rfl, rfl, rfl, rfl, rfl, rfl, rfl, rfl, rfl, trivial⟩ ?_
         refine SL.nil (SE.thenK hK37 (SC.seq (fun K38 hK38 => SC.seq (fun K39 hK39 => SC.region ?_))))
         refine SL.step (PS.move rfl tt rfl rfl) ?_
         refine SL.step (PS.eqlS rfl tt rfl tt rfl rfl) ?_
         refine SL.step (PS.move rfl tt rfl rfl) ?_
         refine SL.step (PS.move rfl tt rfl rfl) ?_
         refine SL.step (PS.move rfl tt rfl rfl) ?_
         refine SL.step (PS.leq rfl (fun h => h) rfl (fun h => h) rfl rfl) ?_
         refine SL.step (PS.pick_or rfl tt rfl (fun h h2 => pk_or h h2) rfl rfl) ?_
         refine SL.step (PS.move rfl tt rfl rfl) ?_
         refine SL.step (PS.move rfl tt rfl rfl) ?_
         refine SL.step (PS.move rfl tt rfl rfl) ?_
         refine SL.step (PS.len_string rfl (fun h => h) Tryd.underlying9 rfl rfl) ?_
         refine SL.step (PS.move rfl tt rfl rfl) ?_
         refine SL.step (PS.len_string rfl (fun h => h) Tryd.underlying9 rfl rfl) ?_
         refine SL.step (PS.sub_in rfl (fun h => h) rfl (fun h => h) (fun hg => wr_i64 (by first | omega | (simp only [List.length_cons, List.length_nil]; omega) | (try simp only [Bool.and_eq_true, Bool.or_eq_true, decide_eq_true_eq, Bool.true_and, Bool.not_eq_true', beq_iff_eq, bne_iff_ne, decide_eq_false_iff_not, beq_eq_false_iff_ne, ne_eq, Bool.or_eq_false_iff, Bool.not_eq_false'] at hg; omega))) rfl rfl) ?_
         refine SL.step (PS.gtr rfl (fun h => h) rfl (fun h => h) rfl rfl) ?_
         refine SL.step (PS.pick_or rfl tt rfl (fun h h2 => pk_or h h2) rfl rfl) ?_
         refine SL.step (PS.move rfl tt rfl rfl) ?_
         refine SL.step (PS.move rfl tt rfl rfl) ?_
         refine SL.step (PS.move rfl tt rfl rfl) ?_
         refine SL.step (PS.move rfl tt rfl rfl) ?_
         refine SL.step (PS.move rfl tt rfl rfl) ?_
         refine SL.step (PS.len_string rfl (fun h => h) Tryd.underlying9 rfl rfl) ?_
         refine SL.step (PS.add_in rfl (fun h => h) rfl (fun h => h) (fun hg => wr_i64 (by first | omega | (simp only [List.length_cons, List.length_nil]; omega) | (try simp only [Bool.and_eq_true, Bool.or_eq_true, decide_eq_true_eq, Bool.true_and, Bool.not_eq_true', beq_iff_eq, bne_iff_ne, decide_eq_false_iff_not, beq_eq_false_iff_ne, ne_eq, Bool.or_eq_false_iff, Bool.not_eq_false'] at hg; omega))) rfl rfl) ?_
         refine SL.step (PS.sliceStr rfl (fun h => h) rfl (fun h => h) rfl (fun h => h) Tryd.underlying9 (fun hg => by first | omega | (simp only [List.length_cons, List.length_nil]; omega) | (try simp only [Bool.and_eq_true, Bool.or_eq_true, decide_eq_true_eq, Bool.true_and, Bool.not_eq_true', beq_iff_eq, bne_iff_ne, decide_eq_false_iff_not, beq_eq_false_iff_ne, ne_eq, Bool.or_eq_false_iff, Bool.not_eq_false'] at hg; omega)) rfl rfl) ?_
         refine SL.step (PS.move rfl tt rfl rfl) ?_
         refine SL.step (PS.neqS rfl (fun h => h) rfl (fun h => h) rfl rfl) ?_
         refine SL.step (PS.pick_or rfl tt rfl (fun h h2 => pk_or h h2) rfl rfl) ?_
         refine SL.keep (l' := [(125, _, _), (13, _, _), (11, _, _), (56, _, _), (55, _, _), (54, _, _), (8, _, _), (5, _, _), (0, _, _)]) ⟨rfl, rfl, rfl, rfl, rfl, rfl, rfl, rfl, rfl, trivial⟩ ?_
         refine SL.nil (SE.thenK hK39 ?_)
         refine SC.cond rfl (fun c125 => ?_) (fun c125 => ?_)
         ·
          refine SC.seq (fun K40 hK40 => SC.region ?_)
          refine SL.step (PS.assign rfl tt rfl rfl) ?_
          refine SL.keep (l' := [(2, _, _)]) ⟨rfl, trivial⟩ ?_
          refine SL.nil (SE.thenK hK40 (SC.ret (SE.then_ret (SE.block_ret (SE.then_ret (SE.then_ret (SE.block_ret ?_)))))))
          refine SE.then_ret ?_
          exact fin1 rfl rfl rfl (fun _ _ => congrArg (fun z : Bool => Value.bool z) (show (d_lathelaw03_LexStands p0) = (false : Bool) from ((bifF c15).trans ((bifF c23).trans ((letV_eq (hL1.symm.trans (show d_lathelaw03_LexStands_R9 p0 (k1p + 1) l5 x6 = (l5, x6) from (bifF c42)))).trans (thenL_inl ((hL1b.symm.trans (show d_lathelaw03_LexStands_R15 p0 l5 (k1bp + 1) x56 x8 x7 = Sum.inl false from ((bifT c57).trans ((bifF c74).trans ((bifF c87).trans ((bifT c89).trans (bifT c125))))))))))))).symm)
         ·
          have c125n := c125
          try simp only [Bool.and_eq_true, Bool.or_eq_true, decide_eq_true_eq, Bool.true_and, Bool.not_eq_true', Bool.not_eq_false', beq_iff_eq, bne_iff_ne, decide_eq_false_iff_not, beq_eq_false_iff_ne, bne_eq_false_iff_eq, ne_eq, Bool.or_eq_false_iff, Bool.and_eq_false_iff] at c125n
          refine SC.skip (SE.thenK hK38 (SC.region ?_))
          refine SL.step (PS.move rfl tt rfl rfl) ?_
          refine SL.step (PS.move rfl tt rfl rfl) ?_
          refine SL.step (PS.len_string rfl tt Tryd.underlying9 rfl rfl) ?_
          refine SL.step (PS.add_in rfl tt rfl tt (fun _ => wr_i64 (by omega)) rfl rfl) ?_
          refine SL.step (PS.sub_in rfl tt rfl tt (fun _ => wr_i64 (by omega)) rfl rfl) ?_
          refine SL.step (PS.assign rfl tt rfl rfl) ?_
          refine SL.keep (l' := [(7, _, _), (56, _, _), (55, _, _), (54, _, _), (8, _, _), (5, _, _), (0, _, _)]) ⟨rfl, rfl, rfl, rfl, rfl, rfl, rfl, trivial⟩ ?_
          refine SL.nil (SE.block_normal (SE.thenK hK22 (SC.region ?_)))
          refine SL.step (PS.add_in rfl tt rfl tt (fun _ => wr_i64 (by omega)) rfl rfl) ?_
          refine SL.step (PS.move rfl tt rfl rfl) ?_
          refine SL.keep (l' := [(56, _, _), (7, _, _), (55, _, _), (54, _, _), (8, _, _), (5, _, _), (0, _, _)]) ⟨rfl, rfl, rfl, rfl, rfl, rfl, rfl, trivial⟩ ?_
          refine SL.nil ?_
          refine SE.drop (own' := [_, _, _]) (List.Sublist.cons _ (List.Sublist.cons_cons _ (List.Sublist.cons_cons _ (List.Sublist.cons_cons _ List.Sublist.slnil)))) ?_
          exact SE.againF (k1bp, (x56 + 1), x8, (((IntKind.i64.wrap ((IntKind.i64.wrap ((l5.getD (Int.toNat ((((d_lex_Tokens p0).1).getD (Int.toNat x56) Dat.d).line - 1)) Dat.d) + (((d_lex_Tokens p0).1).getD (Int.toNat x56) Dat.d).col)) - 1)) + (((⟨#[64]⟩ : ByteArray) ++ (((d_lex_Tokens p0).1).getD (Int.toNat x56) Dat.d).text).size : Int)) - 1)) ⟨rfl, rfl, rfl, rfl, rfl, rfl, rfl, trivial⟩ rfl (fun w h => And.intro (h.1) (And.intro ⟨((show d_lathelaw03_LexStands_R15 p0 l5 (k1bp + 1) x56 x8 x7 = d_lathelaw03_LexStands_R15 p0 l5 k1bp (x56 + 1) x8 (((IntKind.i64.wrap ((IntKind.i64.wrap ((l5.getD (Int.toNat ((((d_lex_Tokens p0).1).getD (Int.toNat x56) Dat.d).line - 1)) Dat.d) + (((d_lex_Tokens p0).1).getD (Int.toNat x56) Dat.d).col)) - 1)) + (((⟨#[64]⟩ : ByteArray) ++ (((d_lex_Tokens p0).1).getD (Int.toNat x56) Dat.d).text).size : Int)) - 1) from ((bifT c57).trans ((bifF c74).trans ((bifF c87).trans ((bifT c89).trans (bifF c125)))))).symm.trans hL1b), by (try dsimp only); omega, by (try dsimp only); omega, by (try dsimp only); omega, by (try dsimp only); omega, by (try dsimp only); omega, by (try dsimp only); omega, by (try dsimp only); omega⟩ (trivial))) (Nat.lt_succ_self _)
        ·
         have c89n := c89
         try simp only [Bool.and_eq_true, Bool.or_eq_true, decide_eq_true_eq, Bool.true_and, Bool.not_eq_true', Bool.not_eq_false', beq_iff_eq, bne_iff_ne, decide_eq_false_iff_not, beq_eq_false_iff_ne, bne_eq_false_iff_eq, ne_eq, Bool.or_eq_false_iff, Bool.and_eq_false_iff] at c89n
         refine SC.seq (fun K41 hK41 => SC.region ?_)
         refine SL.step (PS.eql rfl tt rfl tt rfl rfl) ?_
         refine SL.step (PS.assign rfl tt rfl rfl) ?_
         refine SL.keep (l' := [(91, _, _), (12, _, _), (11, _, _), (10, _, _), (56, _, _), (55, _, _), (54, _, _), (8, _, _), (7, _, _), (5, _, _), (0, _, _)]) ⟨rfl, rfl, rfl, rfl, rfl, rfl, rfl, rfl, rfl, rfl, rfl, trivial⟩ ?_
         refine SL.nil (SE.thenK hK41 ?_)
         refine SC.cond rfl (fun c91 => ?_) (fun c91 => ?_)
         ·
          have c91n := c91
          try simp only [Bool.and_eq_true, Bool.or_eq_true, decide_eq_true_eq, Bool.true_and, Bool.not_eq_true', Bool.not_eq_false', beq_iff_eq, bne_iff_ne, decide_eq_false_iff_not, beq_eq_false_iff_ne, bne_eq_false_iff_eq, ne_eq, Bool.or_eq_false_iff, Bool.and_eq_false_iff] at c91n
          refine SC.seq (fun K42 hK42 => SC.region ?_)
          refine SL.step (PS.assign rfl tt rfl rfl) ?_
          refine SL.keep (l' := [(12, _, _), (11, _, _), (10, _, _), (56, _, _), (55, _, _), (54, _, _), (8, _, _), (7, _, _), (5, _, _), (0, _, _)]) ⟨rfl, rfl, rfl, rfl, rfl, rfl, rfl, rfl, rfl, rfl, trivial⟩ ?_
          refine SL.nil (SE.thenK hK42 (SC.region ?_))
          refine SL.step (PS.move rfl tt rfl rfl) ?_
          refine SL.step (PS.add_in rfl tt rfl tt (fun _ => wr_i64 (by omega)) rfl rfl) ?_
          refine SL.step (PS.assign rfl tt rfl rfl) ?_
          refine SL.keep (l' := [(8, _, _), (12, _, _), (11, _, _), (10, _, _), (56, _, _), (55, _, _), (54, _, _), (7, _, _), (5, _, _), (0, _, _)]) ⟨rfl, rfl, rfl, rfl, rfl, rfl, rfl, rfl, rfl, rfl, trivial⟩ ?_
          refine SL.nil (SE.block_normal (SE.thenK hK29 (SC.seq (fun K43 hK43 => SC.region ?_))))
          refine SL.step (PS.move rfl tt rfl rfl) ?_
          refine SL.step (PS.fieldAddr rfl tt Tryd.fieldAt_31_1 rfl rfl) ?_
          refine SL.step (PS.load_own (k := 0) rfl tt rfl rfl rfl Tryd.isAgg9 rfl rfl) ?_
          refine SL.step (PS.addS rfl tt rfl tt (fun hg => by first | (show 1 + _ ≤ _; omega) | (show 0 + _ ≤ _; omega)) rfl rfl) ?_
          refine SL.step (PS.assign rfl tt rfl rfl) ?_
          refine SL.keep (l' := [(13, _, _), (8, _, _), (11, _, _), (56, _, _), (55, _, _), (54, _, _), (7, _, _), (5, _, _), (0, _, _)]) ⟨rfl, rfl, rfl, rfl, rfl, rfl, rfl, rfl, rfl, trivial⟩ ?_
          refine SL.nil (SE.thenK hK43 (SC.seq (fun K44 hK44 => SC.seq (fun K45 hK45 => SC.region ?_))))
          refine SL.step (PS.move rfl tt rfl rfl) ?_
          refine SL.step (PS.eqlS rfl tt rfl tt rfl rfl) ?_
          refine SL.step (PS.move rfl tt rfl rfl) ?_
          refine SL.step (PS.move rfl tt rfl rfl) ?_
          refine SL.step (PS.move rfl tt rfl rfl) ?_
          refine SL.step (PS.leq rfl (fun h => h) rfl (fun h => h) rfl rfl) ?_
          refine SL.step (PS.pick_or rfl tt rfl (fun h h2 => pk_or h h2) rfl rfl) ?_
          refine SL.step (PS.move rfl tt rfl rfl) ?_
          refine SL.step (PS.move rfl tt rfl rfl) ?_
          refine SL.step (PS.move rfl tt rfl rfl) ?_
          refine SL.step (PS.len_string rfl (fun h => h) Tryd.underlying9 rfl rfl) ?_
          refine SL.step (PS.move rfl tt rfl rfl) ?_
          refine SL.step (PS.len_string rfl (fun h => h) Tryd.underlying9 rfl rfl) ?_
          refine SL.step (PS.sub_in rfl (fun h => h) rfl (fun h => h) (fun hg => wr_i64 (by first | omega | (simp only [List.length_cons, List.length_nil]; omega) | (try simp only [Bool.and_eq_true, Bool.or_eq_true, decide_eq_true_eq, Bool.true_and, Bool.not_eq_true', beq_iff_eq, bne_iff_ne, decide_eq_false_iff_not, beq_eq_false_iff_ne, ne_eq, Bool.or_eq_false_iff, Bool.not_eq_false'] at hg; omega))) rfl rfl) ?_
          refine SL.step (PS.gtr rfl (fun h => h) rfl (fun h => h) rfl rfl) ?_
          refine SL.step (PS.pick_or rfl tt rfl (fun h h2 => pk_or h h2) rfl rfl) ?_
          refine SL.step (PS.move rfl tt rfl rfl) ?_
          refine SL.step (PS.move rfl tt rfl rfl) ?_
          refine SL.step (PS.move rfl tt rfl rfl) ?_
          refine SL.step (PS.move rfl tt rfl rfl) ?_
          refine SL.step (PS.move rfl tt rfl rfl) ?_
          refine SL.step (PS.len_string rfl (fun h => h) Tryd.underlying9 rfl rfl) ?_
          refine SL.step (PS.add_in rfl (fun h => h) rfl (fun h => h) (fun hg => wr_i64 (by first | omega | (simp only [List.length_cons, List.length_nil]; omega) | (try simp only [Bool.and_eq_true, Bool.or_eq_true, decide_eq_true_eq, Bool.true_and, Bool.not_eq_true', beq_iff_eq, bne_iff_ne, decide_eq_false_iff_not, beq_eq_false_iff_ne, ne_eq, Bool.or_eq_false_iff, Bool.not_eq_false'] at hg; omega))) rfl rfl) ?_
          refine SL.step (PS.sliceStr rfl (fun h => h) rfl (fun h => h) rfl (fun h => h) Tryd.underlying9 (fun hg => by first | omega | (simp only [List.length_cons, List.length_nil]; omega) | (try simp only [Bool.and_eq_true, Bool.or_eq_true, decide_eq_true_eq, Bool.true_and, Bool.not_eq_true', beq_iff_eq, bne_iff_ne, decide_eq_false_iff_not, beq_eq_false_iff_ne, ne_eq, Bool.or_eq_false_iff, Bool.not_eq_false'] at hg; omega)) rfl rfl) ?_
          refine SL.step (PS.move rfl tt rfl rfl) ?_
          refine SL.step (PS.neqS rfl (fun h => h) rfl (fun h => h) rfl rfl) ?_
          refine SL.step (PS.pick_or rfl tt rfl (fun h h2 => pk_or h h2) rfl rfl) ?_
          refine SL.keep (l' := [(125, _, _), (13, _, _), (8, _, _), (11, _, _), (56, _, _), (55, _, _), (54, _, _), (5, _, _), (0, _, _)]) ⟨rfl, rfl, rfl, rfl, rfl, rfl, rfl, rfl, rfl, trivial⟩ ?_
          refine SL.nil (SE.thenK hK45 ?_)
          refine SC.cond rfl (fun c125 => ?_) (fun c125 => ?_)
          ·
           refine SC.seq (fun K46 hK46 => SC.region ?_)
           refine SL.step (PS.assign rfl tt rfl rfl) ?_
           refine SL.keep (l' := [(2, _, _)]) ⟨rfl, trivial⟩ ?_
           refine SL.nil (SE.thenK hK46 (SC.ret (SE.then_ret (SE.block_ret (SE.then_ret (SE.then_ret (SE.block_ret ?_)))))))
           refine SE.then_ret ?_
           exact fin1 rfl rfl rfl (fun _ _ => congrArg (fun z : Bool => Value.bool z) (show (d_lathelaw03_LexStands p0) = (false : Bool) from ((bifF c15).trans ((bifF c23).trans ((letV_eq (hL1.symm.trans (show d_lathelaw03_LexStands_R9 p0 (k1p + 1) l5 x6 = (l5, x6) from (bifF c42)))).trans (thenL_inl ((hL1b.symm.trans (show d_lathelaw03_LexStands_R15 p0 l5 (k1bp + 1) x56 x8 x7 = Sum.inl false from ((bifT c57).trans ((bifF c74).trans ((bifF c87).trans ((bifF c89).trans ((bifT c91).trans (bifT c125)))))))))))))).symm)
          ·
           have c125n := c125
           try simp only [Bool.and_eq_true, Bool.or_eq_true, decide_eq_true_eq, Bool.true_and, Bool.not_eq_true', Bool.not_eq_false', beq_iff_eq, bne_iff_ne, decide_eq_false_iff_not, beq_eq_false_iff_ne, bne_eq_false_iff_eq, ne_eq, Bool.or_eq_false_iff, Bool.and_eq_false_iff] at c125n
           refine SC.skip (SE.thenK hK44 (SC.region ?_))
           refine SL.step (PS.move rfl tt rfl rfl) ?_
           refine SL.step (PS.move rfl tt rfl rfl) ?_
           refine SL.step (PS.len_string rfl tt Tryd.underlying9 rfl rfl) ?_
           refine SL.step (PS.add_in rfl tt rfl tt (fun _ => wr_i64 (by omega)) rfl rfl) ?_
           refine SL.step (PS.sub_in rfl tt rfl tt (fun _ => wr_i64 (by omega)) rfl rfl) ?_
           refine SL.step (PS.assign rfl tt rfl rfl) ?_
           refine SL.keep (l' := [(7, _, _), (8, _, _), (56, _, _), (55, _, _), (54, _, _), (5, _, _), (0, _, _)]) ⟨rfl, rfl, rfl, rfl, rfl, rfl, rfl, trivial⟩ ?_
           refine SL.nil (SE.block_normal (SE.thenK hK22 (SC.region ?_)))
           refine SL.step (PS.add_in rfl tt rfl tt (fun _ => wr_i64 (by omega)) rfl rfl) ?_
           refine SL.step (PS.move rfl tt rfl rfl) ?_
           refine SL.keep (l' := [(56, _, _), (7, _, _), (8, _, _), (55, _, _), (54, _, _), (5, _, _), (0, _, _)]) ⟨rfl, rfl, rfl, rfl, rfl, rfl, rfl, trivial⟩ ?_
           refine SL.nil ?_
           refine SE.drop (own' := [_, _, _]) (List.Sublist.cons _ (List.Sublist.cons_cons _ (List.Sublist.cons_cons _ (List.Sublist.cons_cons _ List.Sublist.slnil)))) ?_
           exact SE.againF (k1bp, (x56 + 1), (x8 + 1), (((IntKind.i64.wrap ((IntKind.i64.wrap ((l5.getD (Int.toNat ((((d_lex_Tokens p0).1).getD (Int.toNat x56) Dat.d).line - 1)) Dat.d) + (((d_lex_Tokens p0).1).getD (Int.toNat x56) Dat.d).col)) - 1)) + (((⟨#[10]⟩ : ByteArray) ++ (((d_lex_Tokens p0).1).getD (Int.toNat x56) Dat.d).text).size : Int)) - 1)) ⟨rfl, rfl, rfl, rfl, rfl, rfl, rfl, trivial⟩ rfl (fun w h => And.intro (h.1) (And.intro ⟨((show d_lathelaw03_LexStands_R15 p0 l5 (k1bp + 1) x56 x8 x7 = d_lathelaw03_LexStands_R15 p0 l5 k1bp (x56 + 1) (x8 + 1) (((IntKind.i64.wrap ((IntKind.i64.wrap ((l5.getD (Int.toNat ((((d_lex_Tokens p0).1).getD (Int.toNat x56) Dat.d).line - 1)) Dat.d) + (((d_lex_Tokens p0).1).getD (Int.toNat x56) Dat.d).col)) - 1)) + (((⟨#[10]⟩ : ByteArray) ++ (((d_lex_Tokens p0).1).getD (Int.toNat x56) Dat.d).text).size : Int)) - 1) from ((bifT c57).trans ((bifF c74).trans ((bifF c87).trans ((bifF c89).trans ((bifT c91).trans (bifF c125))))))).symm.trans hL1b), by (try dsimp only); omega, by (try dsimp only); omega, by (try dsimp only); omega, by (try dsimp only); omega, by (try dsimp only); omega, by (try dsimp only); omega, by (try dsimp only); omega⟩ (trivial))) (Nat.lt_succ_self _)
         ·
          have c91n := c91
          try simp only [Bool.and_eq_true, Bool.or_eq_true, decide_eq_true_eq, Bool.true_and, Bool.not_eq_true', Bool.not_eq_false', beq_iff_eq, bne_iff_ne, decide_eq_false_iff_not, beq_eq_false_iff_ne, bne_eq_false_iff_eq, ne_eq, Bool.or_eq_false_iff, Bool.and_eq_false_iff] at c91n
          refine SC.skip (SE.block_normal (SE.thenK hK29 (SC.seq (fun K47 hK47 => SC.region ?_))))
          refine SL.step (PS.move rfl tt rfl rfl) ?_
          refine SL.step (PS.fieldAddr rfl tt Tryd.fieldAt_31_1 rfl rfl) ?_
          refine SL.step (PS.load_own (k := 0) rfl tt rfl rfl rfl Tryd.isAgg9 rfl rfl) ?_
          refine SL.step (PS.addS rfl tt rfl tt (fun hg => by first | (show 1 + _ ≤ _; omega) | (show 0 + _ ≤ _; omega)) rfl rfl) ?_
          refine SL.step (PS.assign rfl tt rfl rfl) ?_
          refine SL.keep (l' := [(13, _, _), (11, _, _), (56, _, _), (55, _, _), (54, _, _), (8, _, _), (7, _, _), (5, _, _), (0, _, _)]) ⟨rfl, rfl, rfl, rfl, rfl, rfl, rfl, rfl, rfl, trivial⟩ ?_
          refine SL.nil (SE.thenK hK47 (SC.seq (fun K48 hK48 => SC.seq (fun K49 hK49 => SC.region ?_))))
          refine SL.step (PS.move rfl tt rfl rfl) ?_
          refine SL.step (PS.eqlS rfl tt rfl tt rfl rfl) ?_
          refine SL.step (PS.move rfl tt rfl rfl) ?_
          refine SL.step (PS.move rfl tt rfl rfl) ?_
          refine SL.step (PS.move rfl tt rfl rfl) ?_
          refine SL.step (PS.leq rfl (fun h => h) rfl (fun h => h) rfl rfl) ?_
          refine SL.step (PS.pick_or rfl tt rfl (fun h h2 => pk_or h h2) rfl rfl) ?_
          refine SL.step (PS.move rfl tt rfl rfl) ?_
          refine SL.step (PS.move rfl tt rfl rfl) ?_
          refine SL.step (PS.move rfl tt rfl rfl) ?_
          refine SL.step (PS.len_string rfl (fun h => h) Tryd.underlying9 rfl rfl) ?_
          refine SL.step (PS.move rfl tt rfl rfl) ?_
          refine SL.step (PS.len_string rfl (fun h => h) Tryd.underlying9 rfl rfl) ?_
          refine SL.step (PS.sub_in rfl (fun h => h) rfl (fun h => h) (fun hg => wr_i64 (by first | omega | (simp only [List.length_cons, List.length_nil]; omega) | (try simp only [Bool.and_eq_true, Bool.or_eq_true, decide_eq_true_eq, Bool.true_and, Bool.not_eq_true', beq_iff_eq, bne_iff_ne, decide_eq_false_iff_not, beq_eq_false_iff_ne, ne_eq, Bool.or_eq_false_iff, Bool.not_eq_false'] at hg; omega))) rfl rfl) ?_
          refine SL.step (PS.gtr rfl (fun h => h) rfl (fun h => h) rfl rfl) ?_
          refine SL.step (PS.pick_or rfl tt rfl (fun h h2 => pk_or h h2) rfl rfl) ?_
          refine SL.step (PS.move rfl tt rfl rfl) ?_
          refine SL.step (PS.move rfl tt rfl rfl) ?_
          refine SL.step (PS.move rfl tt rfl rfl) ?_
          refine SL.step (PS.move rfl tt rfl rfl) ?_
          refine SL.step (PS.move rfl tt rfl rfl) ?_
          refine SL.step (PS.len_string rfl (fun h => h) Tryd.underlying9 rfl rfl) ?_
          refine SL.step (PS.add_in rfl (fun h => h) rfl (fun h => h) (fun hg => wr_i64 (by first | omega | (simp only [List.length_cons, List.length_nil]; omega) | (try simp only [Bool.and_eq_true, Bool.or_eq_true, decide_eq_true_eq, Bool.true_and, Bool.not_eq_true', beq_iff_eq, bne_iff_ne, decide_eq_false_iff_not, beq_eq_false_iff_ne, ne_eq, Bool.or_eq_false_iff, Bool.not_eq_false'] at hg; omega))) rfl rfl) ?_
          refine SL.step (PS.sliceStr rfl (fun h => h) rfl (fun h => h) rfl (fun h => h) Tryd.underlying9 (fun hg => by first | omega | (simp only [List.length_cons, List.length_nil]; omega) | (try simp only [Bool.and_eq_true, Bool.or_eq_true, decide_eq_true_eq, Bool.true_and, Bool.not_eq_true', beq_iff_eq, bne_iff_ne, decide_eq_false_iff_not, beq_eq_false_iff_ne, ne_eq, Bool.or_eq_false_iff, Bool.not_eq_false'] at hg; omega)) rfl rfl) ?_
          refine SL.step (PS.move rfl tt rfl rfl) ?_
          refine SL.step (PS.neqS rfl (fun h => h) rfl (fun h => h) rfl rfl) ?_
          refine SL.step (PS.pick_or rfl tt rfl (fun h h2 => pk_or h h2) rfl rfl) ?_
          refine SL.keep (l' := [(125, _, _), (13, _, _), (11, _, _), (56, _, _), (55, _, _), (54, _, _), (8, _, _), (5, _, _), (0, _, _)]) ⟨rfl, rfl, rfl, rfl, rfl, rfl, rfl, rfl, rfl, trivial⟩ ?_
          refine SL.nil (SE.thenK hK49 ?_)
          refine SC.cond rfl (fun c125 => ?_) (fun c125 => ?_)
          ·
           refine SC.seq (fun K50 hK50 => SC.region ?_)
           refine SL.step (PS.assign rfl tt rfl rfl) ?_
           refine SL.keep (l' := [(2, _, _)]) ⟨rfl, trivial⟩ ?_
           refine SL.nil (SE.thenK hK50 (SC.ret (SE.then_ret (SE.block_ret (SE.then_ret (SE.then_ret (SE.block_ret ?_)))))))
           refine SE.then_ret ?_
           exact fin1 rfl rfl rfl (fun _ _ => congrArg (fun z : Bool => Value.bool z) (show (d_lathelaw03_LexStands p0) = (false : Bool) from ((bifF c15).trans ((bifF c23).trans ((letV_eq (hL1.symm.trans (show d_lathelaw03_LexStands_R9 p0 (k1p + 1) l5 x6 = (l5, x6) from (bifF c42)))).trans (thenL_inl ((hL1b.symm.trans (show d_lathelaw03_LexStands_R15 p0 l5 (k1bp + 1) x56 x8 x7 = Sum.inl false from ((bifT c57).trans ((bifF c74).trans ((bifF c87).trans ((bifF c89).trans ((bifF c91).trans (bifT c125)))))))))))))).symm)
          ·
           have c125n := c125
           try simp only [Bool.and_eq_true, Bool.or_eq_true, decide_eq_true_eq, Bool.true_and, Bool.not_eq_true', Bool.not_eq_false', beq_iff_eq, bne_iff_ne, decide_eq_false_iff_not, beq_eq_false_iff_ne, bne_eq_false_iff_eq, ne_eq, Bool.or_eq_false_iff, Bool.and_eq_false_iff] at c125n
           refine SC.skip (SE.thenK hK48 (SC.region ?_))
           refine SL.step (PS.move rfl tt rfl rfl) ?_
           refine SL.step (PS.move rfl tt rfl rfl) ?_
           refine SL.step (PS.len_string rfl tt Tryd.underlying9 rfl rfl) ?_
           refine SL.step (PS.add_in rfl tt rfl tt (fun _ => wr_i64 (by omega)) rfl rfl) ?_
           refine SL.step (PS.sub_in rfl tt rfl tt (fun _ => wr_i64 (by omega)) rfl rfl) ?_
           refine SL.step (PS.assign rfl tt rfl rfl) ?_
           refine SL.keep (l' := [(7, _, _), (56, _, _), (55, _, _), (54, _, _), (8, _, _), (5, _, _), (0, _, _)]) ⟨rfl, rfl, rfl, rfl, rfl, rfl, rfl, trivial⟩ ?_
           refine SL.nil (SE.block_normal (SE.thenK hK22 (SC.region ?_)))
           refine SL.step (PS.add_in rfl tt rfl tt (fun _ => wr_i64 (by omega)) rfl rfl) ?_
           refine SL.step (PS.move rfl tt rfl rfl) ?_
           refine SL.keep (l' := [(56, _, _), (7, _, _), (55, _, _), (54, _, _), (8, _, _), (5, _, _), (0, _, _)]) ⟨rfl, rfl, rfl, rfl, rfl, rfl, rfl, trivial⟩ ?_
           refine SL.nil ?_
           refine SE.drop (own' := [_, _, _]) (List.Sublist.cons _ (List.Sublist.cons_cons _ (List.Sublist.cons_cons _ (List.Sublist.cons_cons _ List.Sublist.slnil)))) ?_
           exact SE.againF (k1bp, (x56 + 1), x8, (((IntKind.i64.wrap ((IntKind.i64.wrap ((l5.getD (Int.toNat ((((d_lex_Tokens p0).1).getD (Int.toNat x56) Dat.d).line - 1)) Dat.d) + (((d_lex_Tokens p0).1).getD (Int.toNat x56) Dat.d).col)) - 1)) + (((⟨#[]⟩ : ByteArray) ++ (((d_lex_Tokens p0).1).getD (Int.toNat x56) Dat.d).text).size : Int)) - 1)) ⟨rfl, rfl, rfl, rfl, rfl, rfl, rfl, trivial⟩ rfl (fun w h => And.intro (h.1) (And.intro ⟨((show d_lathelaw03_LexStands_R15 p0 l5 (k1bp + 1) x56 x8 x7 = d_lathelaw03_LexStands_R15 p0 l5 k1bp (x56 + 1) x8 (((IntKind.i64.wrap ((IntKind.i64.wrap ((l5.getD (Int.toNat ((((d_lex_Tokens p0).1).getD (Int.toNat x56) Dat.d).line - 1)) Dat.d) + (((d_lex_Tokens p0).1).getD (Int.toNat x56) Dat.d).col)) - 1)) + (((⟨#[]⟩ : ByteArray) ++ (((d_lex_Tokens p0).1).getD (Int.toNat x56) Dat.d).text).size : Int)) - 1) from ((bifT c57).trans ((bifF c74).trans ((bifF c87).trans ((bifF c89).trans ((bifF c91).trans (bifF c125))))))).symm.trans hL1b), by (try dsimp only); omega, by (try dsimp only); omega, by (try dsimp only); omega, by (try dsimp only); omega, by (try dsimp only); omega, by (try dsimp only); omega, by (try dsimp only); omega⟩ (trivial))) (Nat.lt_succ_self _)
     ·
      have c57n := c57
      try simp only [Bool.and_eq_true, Bool.or_eq_true, decide_eq_true_eq, Bool.true_and, Bool.not_eq_true', Bool.not_eq_false', beq_iff_eq, bne_iff_ne, decide_eq_false_iff_not, beq_eq_false_iff_ne, bne_eq_false_iff_eq, ne_eq, Bool.or_eq_false_iff, Bool.and_eq_false_iff] at c57n
      refine SC.exit (SE.then_exit (SE.then_exit (SE.block_same (SE.thenK hK18 (SC.seq (fun K51 hK51 => SC.region ?_))))))
      refine SL.step (PS.move rfl tt rfl rfl) ?_
      refine SL.step (PS.move rfl tt rfl rfl) ?_
      refine SL.step (PS.len_slice rfl tt Tryd.underlying29 rfl rfl) ?_
      refine SL.step (PS.sub_in rfl tt rfl tt (fun _ => wr_i64 (by omega)) rfl rfl) ?_
      refine SL.step (PS.eql rfl tt rfl tt rfl rfl) ?_
      refine SL.step (PS.assign rfl tt rfl rfl) ?_
      refine SL.keep (l' := [(2, _, _)]) ⟨rfl, trivial⟩ ?_
      refine SL.nil (SE.thenK hK51 (SC.ret ?_))
      exact fin1 rfl rfl rfl (fun _ _ => congrArg (fun z : Bool => Value.bool z) (show (d_lathelaw03_LexStands p0) = ((x8 == ((l5.length : Int) - 1)) : Bool) from ((bifF c15).trans ((bifF c23).trans ((letV_eq (hL1.symm.trans (show d_lathelaw03_LexStands_R9 p0 (k1p + 1) l5 x6 = (l5, x6) from (bifF c42)))).trans (thenL_inr (hL1b.symm.trans (show d_lathelaw03_LexStands_R15 p0 l5 (k1bp + 1) x56 x8 x7 = Sum.inr (x56, x8, x7) from (bifF c57)))))))).symm)
end Go.Proofs.YtjdiohhniiooeaaDoor
