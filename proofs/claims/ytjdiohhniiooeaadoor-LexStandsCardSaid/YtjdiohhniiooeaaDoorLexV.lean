/- The fixed fact. -/
import Derived.Test.YtjdiohhniiooeaaDoorLexS
import Derived.Test.YtjdiohhniiooeaaDoorLexT
namespace Go.Proofs.YtjdiohhniiooeaaDoor
open Go.RowKit
set_option linter.unusedVariables false
set_option linter.unusedSimpArgs false
set_option maxRecDepth 100000
set_option maxHeartbeats 4000000
def d_lathelaw03_lives  : Bool :=
  (((((decide (((d_lex_Tokens (⟨#[97, 35, 98, 10, 64, 120]⟩ : ByteArray)).2) = (⟨0, 0, 0⟩ : Flt))) && (((d_lex_Tokens (⟨#[97, 35, 98, 10, 64, 120]⟩ : ByteArray)).1.length : Int) == 3)) && (decide ((((d_lex_Tokens (⟨#[97, 35, 98, 10, 64, 120]⟩ : ByteArray)).1).getD (Int.toNat 1) Dat.d) = (⟨6, ByteArray.empty, 1, 4⟩ : Tok)))) && (decide ((((d_lex_Tokens (⟨#[97, 35, 98, 10, 64, 120]⟩ : ByteArray)).1).getD (Int.toNat 2) Dat.d) = (⟨4, (⟨#[120]⟩ : ByteArray), 2, 1⟩ : Tok)))) && (decide (((d_lex_Tokens (⟨#[97, 45, 98]⟩ : ByteArray)).2) = (⟨1, 1, 2⟩ : Flt))))
theorem lathelaw03_lives_S   : Spec Tryd.prog 8 [] (fun w => Vars w) (fun v _ => v = Value.bool d_lathelaw03_lives) := by
  refine Spec.enter Tryd.func8 rfl (n := 40) Tryd.ntmps8 (Nat.le_of_ble_eq_true rfl) (l := []) rfl ?_
  intro S w
  refine SC.seq (fun K1 hK1 => SC.region ?_)
  refine SL.step (PS.assign rfl tt rfl rfl) ?_
  refine SL.keep (l' := []) trivial ?_
  refine SL.nil (SE.thenK hK1 (SC.seq (fun K2 hK2 => SC.region ?_)))
  refine SL.callE (vs := [_]) Tryd.call9 ⟨⟨_, rfl, tt⟩, trivial⟩ (lex_Tokens_E (⟨#[97, 35, 98, 10, 64, 120]⟩ : ByteArray) ) (fun w h => (h)) rfl rfl (fun x6 => ?_)
  obtain ⟨xa6, xc6, xl6⟩ := x6
  refine SL.know (p := xl6 = (d_lex_Tokens (⟨#[97, 35, 98, 10, 64, 120]⟩ : ByteArray)).1) (fun w h => h.2.2) (fun hx6 => ?_)
  subst hx6
  refine SL.step (PS.move rfl tt rfl rfl) ?_
  refine SL.step (PS.extract rfl tt rfl rfl rfl) ?_
  refine SL.step (PS.extract rfl tt rfl rfl rfl) ?_
  refine SL.alloc (cs := [_, _, _]) Tryd.zeroValue26 rfl rfl rfl (fun b2 => ?_)
  refine SL.step (PS.assign rfl tt rfl rfl) ?_
  refine SL.store_own (k := 0) (own' := [_]) (cs' := [_, _, _]) rfl rfl rfl rfl rfl rfl rfl Tryd.sizeOf26 rfl (Nat.le_of_ble_eq_true rfl) rfl rfl rfl rfl ?_
  refine SL.keep (l' := [(1, _, _), (2, _, _)]) ⟨rfl, rfl, trivial⟩ ?_
  refine SL.nil (SE.thenK hK2 (SC.seq (fun K3 hK3 => SC.region ?_)))
  refine SL.callE (vs := [_]) Tryd.call9 ⟨⟨_, rfl, tt⟩, trivial⟩ (lex_Tokens_E (⟨#[97, 45, 98]⟩ : ByteArray) ) (fun w h => (h.1)) rfl rfl (fun x10 => ?_)
  obtain ⟨xa10, xc10, xl10⟩ := x10
  refine SL.know (p := xl10 = (d_lex_Tokens (⟨#[97, 45, 98]⟩ : ByteArray)).1) (fun w h => h.2.2) (fun hx10 => ?_)
  subst hx10
  refine SL.step (PS.move rfl tt rfl rfl) ?_
  refine SL.step (PS.extract rfl tt rfl rfl rfl) ?_
  refine SL.step (PS.extract rfl tt rfl rfl rfl) ?_
  refine SL.alloc (cs := [_, _, _]) Tryd.zeroValue26 rfl rfl rfl (fun b4 => ?_)
  refine SL.step (PS.assign rfl tt rfl rfl) ?_
  refine SL.store_own (k := 0) (own' := [_, _]) (cs' := [_, _, _]) rfl rfl rfl rfl rfl rfl rfl Tryd.sizeOf26 rfl (Nat.le_of_ble_eq_true rfl) rfl rfl rfl rfl ?_
  refine SL.keep (l' := [(4, _, _), (1, _, _), (2, _, _)]) ⟨rfl, rfl, rfl, trivial⟩ ?_
  refine SL.nil (SE.thenK hK3 (SC.seq (fun K4 hK4 => SC.region ?_)))
  refine SL.step (PS.load_own_agg (k := 1) (vs := [_, _, _]) rfl tt rfl rfl rfl rfl Tryd.isAgg26 Tryd.sizeOf26 rfl rfl) ?_
  refine SL.step (PS.build (us := []) (vs := [_, _, _]) trivial Tryd.underlying26 Tryd.zeroValue26 (Tryd.places_26 Tryd.underlying26) rfl rfl rfl) ?_
  refine SL.step (PS.eqlA (u := .agg [.int .i64 (((d_lex_Tokens (⟨#[97, 35, 98, 10, 64, 120]⟩ : ByteArray)).2).code), .int .i64 (((d_lex_Tokens (⟨#[97, 35, 98, 10, 64, 120]⟩ : ByteArray)).2).line), .int .i64 (((d_lex_Tokens (⟨#[97, 35, 98, 10, 64, 120]⟩ : ByteArray)).2).col)].toArray) (v := .agg [.int .i64 0, .int .i64 0, .int .i64 0].toArray) rfl tt rfl tt (fun x y w => Flt_eql x y ((d_lex_Tokens (⟨#[97, 35, 98, 10, 64, 120]⟩ : ByteArray)).2) (⟨0, 0, 0⟩ : Flt) w) rfl rfl) ?_
  refine SL.step (PS.move rfl tt rfl rfl) ?_
  refine SL.step (PS.move rfl tt rfl rfl) ?_
  refine SL.step (PS.len_slice rfl (fun h => h) Tryd.underlying23 rfl rfl) ?_
  refine SL.step (PS.eql rfl (fun h => h) rfl tt rfl rfl) ?_
  refine SL.step (PS.pick_and rfl tt rfl (fun h h2 => pk_and h h2) rfl rfl) ?_
  refine SL.step (PS.move rfl tt rfl rfl) ?_
  refine SL.step (PS.move rfl tt rfl rfl) ?_
  refine SL.step (PS.indexS (α := Tok) (xs := (d_lex_Tokens (⟨#[97, 35, 98, 10, 64, 120]⟩ : ByteArray)).1) rfl (fun h => h) rfl tt Tryd.underlying23 Tryd.sizeOf31 (fun w hw hg => ((hw.now.1.2).1).sl) rfl (fun hg => by first | omega | (simp only [List.length_cons, List.length_nil]; omega) | (try simp only [Bool.and_eq_true, Bool.or_eq_true, decide_eq_true_eq, Bool.true_and, Bool.not_eq_true', beq_iff_eq, bne_iff_ne, decide_eq_false_iff_not, beq_eq_false_iff_ne, ne_eq] at hg; omega)) rfl rfl) ?_
  refine SL.step (PS.loadS (α := Tok) (xs := (d_lex_Tokens (⟨#[97, 35, 98, 10, 64, 120]⟩ : ByteArray)).1) (m := 1) (vs := [.int .i64 ((((d_lex_Tokens (⟨#[97, 35, 98, 10, 64, 120]⟩ : ByteArray)).1).getD (Int.toNat 1) Dat.d).k), .string ((((d_lex_Tokens (⟨#[97, 35, 98, 10, 64, 120]⟩ : ByteArray)).1).getD (Int.toNat 1) Dat.d).text), .int .i64 ((((d_lex_Tokens (⟨#[97, 35, 98, 10, 64, 120]⟩ : ByteArray)).1).getD (Int.toNat 1) Dat.d).line), .int .i64 ((((d_lex_Tokens (⟨#[97, 35, 98, 10, 64, 120]⟩ : ByteArray)).1).getD (Int.toNat 1) Dat.d).col)]) rfl (fun h => h) (fun w hw hg => ((hw.now.1.2).1).sl) (fun hg => by first | omega | (simp only [List.length_cons, List.length_nil]; omega) | (try simp only [Bool.and_eq_true, Bool.or_eq_true, decide_eq_true_eq, Bool.true_and, Bool.not_eq_true', beq_iff_eq, bne_iff_ne, decide_eq_false_iff_not, beq_eq_false_iff_ne, ne_eq] at hg; omega)) rfl Tryd.isAgg31 Tryd.sizeOf31 rfl rfl) ?_
  refine SL.step (PS.build (us := [(0, _), (2, _), (3, _)]) (vs := [_, _, _, _]) ⟨rfl, ⟨_, rfl, tt⟩, ⟨rfl, ⟨_, rfl, tt⟩, ⟨rfl, ⟨_, rfl, tt⟩, trivial⟩⟩⟩ Tryd.underlying31 Tryd.zeroValue31 (Tryd.places_31 Tryd.underlying31) rfl rfl rfl) ?_
  refine SL.step (PS.eqlA (u := .agg [.int .i64 ((((d_lex_Tokens (⟨#[97, 35, 98, 10, 64, 120]⟩ : ByteArray)).1).getD (Int.toNat 1) Dat.d).k), .string ((((d_lex_Tokens (⟨#[97, 35, 98, 10, 64, 120]⟩ : ByteArray)).1).getD (Int.toNat 1) Dat.d).text), .int .i64 ((((d_lex_Tokens (⟨#[97, 35, 98, 10, 64, 120]⟩ : ByteArray)).1).getD (Int.toNat 1) Dat.d).line), .int .i64 ((((d_lex_Tokens (⟨#[97, 35, 98, 10, 64, 120]⟩ : ByteArray)).1).getD (Int.toNat 1) Dat.d).col)].toArray) (v := .agg [.int .i64 6, .string ByteArray.empty, .int .i64 1, .int .i64 4].toArray) rfl (fun h => h) rfl (fun h => h) (fun x y w => Tok_eql x y (((d_lex_Tokens (⟨#[97, 35, 98, 10, 64, 120]⟩ : ByteArray)).1).getD (Int.toNat 1) Dat.d) (⟨6, ByteArray.empty, 1, 4⟩ : Tok) w) rfl rfl) ?_
  refine SL.step (PS.pick_and rfl tt rfl (fun h h2 => pk_and h h2) rfl rfl) ?_
  refine SL.step (PS.move rfl tt rfl rfl) ?_
  refine SL.step (PS.move rfl tt rfl rfl) ?_
  refine SL.step (PS.indexS (α := Tok) (xs := (d_lex_Tokens (⟨#[97, 35, 98, 10, 64, 120]⟩ : ByteArray)).1) rfl (fun h => h) rfl tt Tryd.underlying23 Tryd.sizeOf31 (fun w hw hg => ((hw.now.1.2).1).sl) rfl (fun hg => by first | omega | (simp only [List.length_cons, List.length_nil]; omega) | (try simp only [Bool.and_eq_true, Bool.or_eq_true, decide_eq_true_eq, Bool.true_and, Bool.not_eq_true', beq_iff_eq, bne_iff_ne, decide_eq_false_iff_not, beq_eq_false_iff_ne, ne_eq] at hg; omega)) rfl rfl) ?_
  refine SL.step (PS.loadS (α := Tok) (xs := (d_lex_Tokens (⟨#[97, 35, 98, 10, 64, 120]⟩ : ByteArray)).1) (m := 2) (vs := [.int .i64 ((((d_lex_Tokens (⟨#[97, 35, 98, 10, 64, 120]⟩ : ByteArray)).1).getD (Int.toNat 2) Dat.d).k), .string ((((d_lex_Tokens (⟨#[97, 35, 98, 10, 64, 120]⟩ : ByteArray)).1).getD (Int.toNat 2) Dat.d).text), .int .i64 ((((d_lex_Tokens (⟨#[97, 35, 98, 10, 64, 120]⟩ : ByteArray)).1).getD (Int.toNat 2) Dat.d).line), .int .i64 ((((d_lex_Tokens (⟨#[97, 35, 98, 10, 64, 120]⟩ : ByteArray)).1).getD (Int.toNat 2) Dat.d).col)]) rfl (fun h => h) (fun w hw hg => ((hw.now.1.2).1).sl) (fun hg => by first | omega | (simp only [List.length_cons, List.length_nil]; omega) | (try simp only [Bool.and_eq_true, Bool.or_eq_true, decide_eq_true_eq, Bool.true_and, Bool.not_eq_true', beq_iff_eq, bne_iff_ne, decide_eq_false_iff_not, beq_eq_false_iff_ne, ne_eq] at hg; omega)) rfl Tryd.isAgg31 Tryd.sizeOf31 rfl rfl) ?_
  refine SL.step (PS.build (us := [(0, _), (1, _), (2, _), (3, _)]) (vs := [_, _, _, _]) ⟨rfl, ⟨_, rfl, tt⟩, ⟨rfl, ⟨_, rfl, tt⟩, ⟨rfl, ⟨_, rfl, tt⟩, ⟨rfl, ⟨_, rfl, tt⟩, trivial⟩⟩⟩⟩ Tryd.underlying31 Tryd.zeroValue31 (Tryd.places_31 Tryd.underlying31) rfl rfl rfl) ?_
  refine SL.step (PS.eqlA (u := .agg [.int .i64 ((((d_lex_Tokens (⟨#[97, 35, 98, 10, 64, 120]⟩ : ByteArray)).1).getD (Int.toNat 2) Dat.d).k), .string ((((d_lex_Tokens (⟨#[97, 35, 98, 10, 64, 120]⟩ : ByteArray)).1).getD (Int.toNat 2) Dat.d).text), .int .i64 ((((d_lex_Tokens (⟨#[97, 35, 98, 10, 64, 120]⟩ : ByteArray)).1).getD (Int.toNat 2) Dat.d).line), .int .i64 ((((d_lex_Tokens (⟨#[97, 35, 98, 10, 64, 120]⟩ : ByteArray)).1).getD (Int.toNat 2) Dat.d).col)].toArray) (v := .agg [.int .i64 4, .string (⟨#[120]⟩ : ByteArray), .int .i64 2, .int .i64 1].toArray) rfl (fun h => h) rfl (fun h => h) (fun x y w => Tok_eql x y (((d_lex_Tokens (⟨#[97, 35, 98, 10, 64, 120]⟩ : ByteArray)).1).getD (Int.toNat 2) Dat.d) (⟨4, (⟨#[120]⟩ : ByteArray), 2, 1⟩ : Tok) w) rfl rfl) ?_
  refine SL.step (PS.pick_and rfl tt rfl (fun h h2 => pk_and h h2) rfl rfl) ?_
  refine SL.step (PS.move rfl tt rfl rfl) ?_
  refine SL.step (PS.load_own_agg (k := 0) (vs := [_, _, _]) rfl tt rfl rfl rfl rfl Tryd.isAgg26 Tryd.sizeOf26 rfl rfl) ?_
  refine SL.step (PS.build (us := [(0, _), (1, _), (2, _)]) (vs := [_, _, _]) ⟨rfl, ⟨_, rfl, tt⟩, ⟨rfl, ⟨_, rfl, tt⟩, ⟨rfl, ⟨_, rfl, tt⟩, trivial⟩⟩⟩ Tryd.underlying26 Tryd.zeroValue26 (Tryd.places_26 Tryd.underlying26) rfl rfl rfl) ?_
  refine SL.step (PS.eqlA (u := .agg [.int .i64 (((d_lex_Tokens (⟨#[97, 45, 98]⟩ : ByteArray)).2).code), .int .i64 (((d_lex_Tokens (⟨#[97, 45, 98]⟩ : ByteArray)).2).line), .int .i64 (((d_lex_Tokens (⟨#[97, 45, 98]⟩ : ByteArray)).2).col)].toArray) (v := .agg [.int .i64 1, .int .i64 1, .int .i64 2].toArray) rfl (fun h => h) rfl (fun h => h) (fun x y w => Flt_eql x y ((d_lex_Tokens (⟨#[97, 45, 98]⟩ : ByteArray)).2) (⟨1, 1, 2⟩ : Flt) w) rfl rfl) ?_
  refine SL.step (PS.pick_and rfl tt rfl (fun h h2 => pk_and h h2) rfl rfl) ?_
  refine SL.step (PS.assign rfl tt rfl rfl) ?_
  refine SL.keep (l' := [(0, _, _)]) ⟨rfl, trivial⟩ ?_
  refine SL.nil (SE.thenK hK4 (SC.ret ?_))
  exact fin1 rfl rfl rfl (fun _ _ => congrArg (fun z : Bool => Value.bool z) (show d_lathelaw03_lives = ((((((decide (((d_lex_Tokens (⟨#[97, 35, 98, 10, 64, 120]⟩ : ByteArray)).2) = (⟨0, 0, 0⟩ : Flt))) && (((d_lex_Tokens (⟨#[97, 35, 98, 10, 64, 120]⟩ : ByteArray)).1.length : Int) == 3)) && (decide ((((d_lex_Tokens (⟨#[97, 35, 98, 10, 64, 120]⟩ : ByteArray)).1).getD (Int.toNat 1) Dat.d) = (⟨6, ByteArray.empty, 1, 4⟩ : Tok)))) && (decide ((((d_lex_Tokens (⟨#[97, 35, 98, 10, 64, 120]⟩ : ByteArray)).1).getD (Int.toNat 2) Dat.d) = (⟨4, (⟨#[120]⟩ : ByteArray), 2, 1⟩ : Tok)))) && (decide (((d_lex_Tokens (⟨#[97, 45, 98]⟩ : ByteArray)).2) = (⟨1, 1, 2⟩ : Flt)))) : Bool) from rfl).symm)
end Go.Proofs.YtjdiohhniiooeaaDoor
