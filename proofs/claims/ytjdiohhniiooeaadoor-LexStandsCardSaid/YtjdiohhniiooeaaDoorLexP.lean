/- Numerals: what Go's library says of them. -/
import Derived.Test.YtjdiohhniiooeaaDoorLex
import Derived.Test.YtjdiohhniiooeaaDoorShelf
namespace Go.Proofs.YtjdiohhniiooeaaDoor
open Go.RowKit
set_option linter.unusedVariables false
set_option linter.unusedSimpArgs false
set_option maxRecDepth 100000
set_option maxHeartbeats 4000000
/-- The library's two variables hold errors. -/
def Vars (w : World) : Prop := (∃ ev, w.cell? ⟨0, 0, none⟩ = some ev ∧ (ev = .nilIface ∨ ∃ te pe, ev = .iface te pe)) ∧ (∃ ev, w.cell? ⟨1, 0, none⟩ = some ev ∧ (ev = .nilIface ∨ ∃ te pe, ev = .iface te pe))
def puV (s : ByteArray) : Int := match Lib.parseUintB 64 s.data.toList with
  | .ok u => (u : Int)
  | .syntax => 0
  | .range => 18446744073709551615
def puOk (s : ByteArray) : Bool := match Lib.parseUintB 64 s.data.toList with
  | .ok _ => true
  | _ => false
theorem parseUint_P (s : ByteArray) (h : s.size ≤ 281474976710656) : SpecE Tryd.prog 27 [.string s, .int .i64 10, .int .i64 64] Vars (fun ev => .tuple #[.int .u64 (puV s), ev]) (fun ev _ => ErrIs ev (puOk s)) := by
  intro S w hr
  have hv : Vars w := hr w (Nat.le_refl _) fun _ _ _ => rfl
  obtain ⟨⟨e0, c0, k0⟩, e1, c1, k1⟩ := hv
  cases hq : Lib.parseUintB 64 s.data.toList with
  | ok u =>
    refine (Tryd.strconv_ParseUint_10_at64_ok s (by omega) u hq w).mono ?_
    rintro e w' ⟨rfl, hw⟩
    refine ⟨.nilIface, by simp only [puV, hq], ?_, fun _ _ _ => .inl ⟨by simp only [puOk, hq], rfl⟩⟩
    rcases hw with rfl | rfl
    · exact Below.refl _ _
    · exact Lib.bytesWorld_below _ _ _
  | «syntax» =>
    refine (Tryd.strconv_ParseUint_10_at64_syntax s h hq e0 w c0 k0).mono ?_
    rintro e w' ⟨N, rfl, _, _, hb⟩
    exact ⟨.iface 59 (.pointer (some ⟨N, 0, none⟩)), by simp only [puV, hq], hb, fun _ _ _ => .inr ⟨by simp only [puOk, hq], _, _, rfl⟩⟩
  | range =>
    refine (Tryd.strconv_ParseUint_10_at64_range s h hq e1 w c1 k1).mono ?_
    rintro e w' ⟨N, rfl, _, _, hb⟩
    exact ⟨.iface 59 (.pointer (some ⟨N, 0, none⟩)), by simp only [puV, hq], hb, fun _ _ _ => .inr ⟨by simp only [puOk, hq], _, _, rfl⟩⟩

theorem parseUint_T (s : ByteArray) (a b : Int) (h : s.size ≤ 281474976710656 ∧ a = 10 ∧ b = 64) : SpecE Tryd.prog 27 [.string s, .int .i64 a, .int .i64 b] Vars (fun ev => .tuple #[.int .u64 (puV s), ev]) (fun ev _ => ErrIs ev (puOk s)) := by
  obtain ⟨h1, rfl, rfl⟩ := h
  exact parseUint_P s h1
def d_lex_numeral (p0 : ByteArray) (p1 : Int) : Bool :=
  bif ((strEq p0 (⟨#[]⟩ : ByteArray)) || ((decide (1 < (p0.size : Int))) && ((byteAt p0 0) == 48))) then
   false
  else ((puOk p0) && (decide ((puV p0) ≤ p1)))
theorem lex_numeral_S (p0 : ByteArray) (p1 : Int) (h0 : p0.size ≤ 281474976710656) : Spec Tryd.prog 26 [.string p0, .int .u64 p1] (fun w => Vars w) (fun v _ => v = Value.bool (d_lex_numeral p0 p1)) := by
  refine Spec.enter Tryd.func26 rfl (n := 31) Tryd.ntmps26 (Nat.le_of_ble_eq_true rfl) (l := [(0, _, _), (1, _, _)]) rfl ?_
  intro S w
  refine SC.seq (fun K1 hK1 => SC.region ?_)
  refine SL.step (PS.assign rfl tt rfl rfl) ?_
  refine SL.keep (l' := [(0, _, _), (1, _, _)]) ⟨rfl, rfl, trivial⟩ ?_
  refine SL.nil (SE.thenK hK1 (SC.seq (fun K2 hK2 => SC.seq (fun K3 hK3 => SC.region ?_))))
  refine SL.step (PS.move rfl tt rfl rfl) ?_
  refine SL.step (PS.eqlS rfl tt rfl tt rfl rfl) ?_
  refine SL.step (PS.move rfl tt rfl rfl) ?_
  refine SL.step (PS.move rfl tt rfl rfl) ?_
  refine SL.step (PS.len_string rfl (fun h => h) Tryd.underlying9 rfl rfl) ?_
  refine SL.step (PS.gtr rfl (fun h => h) rfl tt rfl rfl) ?_
  refine SL.step (PS.move rfl (fun h => h) rfl rfl) ?_
  refine SL.step (PS.move rfl tt rfl rfl) ?_
  refine SL.step (PS.indexStr rfl (fun h => h) rfl tt Tryd.underlying9 (fun hg => by first | omega | (simp only [List.length_cons, List.length_nil]; omega) | (try simp only [Bool.and_eq_true, Bool.or_eq_true, decide_eq_true_eq, Bool.true_and, Bool.not_eq_true', beq_iff_eq, bne_iff_ne, decide_eq_false_iff_not, beq_eq_false_iff_ne, ne_eq] at hg; omega)) rfl rfl) ?_
  refine SL.step (PS.eql rfl (fun h => h) rfl tt rfl rfl) ?_
  refine SL.step (PS.pick_and rfl (fun h => h) rfl (fun h h2 => pk_and h h2) rfl rfl) ?_
  refine SL.step (PS.pick_or rfl tt rfl (fun h h2 => pk_or h h2) rfl rfl) ?_
  refine SL.keep (l' := [(18, _, _), (0, _, _), (1, _, _)]) ⟨rfl, rfl, rfl, trivial⟩ ?_
  refine SL.nil (SE.thenK hK3 ?_)
  refine SC.cond rfl (fun c18 => ?_) (fun c18 => ?_)
  ·
   refine SC.seq (fun K4 hK4 => SC.region ?_)
   refine SL.step (PS.assign rfl tt rfl rfl) ?_
   refine SL.keep (l' := [(4, _, _)]) ⟨rfl, trivial⟩ ?_
   refine SL.nil (SE.thenK hK4 (SC.ret (SE.then_ret ?_)))
   exact fin1 rfl rfl rfl (fun _ _ => congrArg (fun z : Bool => Value.bool z) (show (d_lex_numeral p0 p1) = (false : Bool) from (bifT c18)).symm)
  ·
   have c18n := c18
   try simp only [Bool.and_eq_true, Bool.or_eq_true, decide_eq_true_eq, Bool.true_and, Bool.not_eq_true', Bool.not_eq_false', beq_iff_eq, bne_iff_ne, decide_eq_false_iff_not, beq_eq_false_iff_ne, bne_eq_false_iff_eq, ne_eq, Bool.or_eq_false_iff, Bool.and_eq_false_iff] at c18n
   refine SC.skip (SE.thenK hK2 (SC.seq (fun K5 hK5 => SC.region ?_)))
   refine SL.step (PS.move rfl tt rfl rfl) ?_
   refine SL.callE (vs := [_, _, _]) Tryd.call27 ⟨⟨_, rfl, tt⟩, ⟨_, rfl, tt⟩, ⟨_, rfl, tt⟩, trivial⟩ (parseUint_T p0 10 64 (by omega)) (fun w h => (h)) rfl rfl (fun x21 => ?_)
   refine SL.know (p := ErrIs x21 ((puOk p0))) (fun w h => h.2) (fun hx21 => ?_)
   refine SL.step (PS.move rfl tt rfl rfl) ?_
   refine SL.step (PS.extract rfl tt rfl rfl rfl) ?_
   refine SL.step (PS.extract rfl tt rfl rfl rfl) ?_
   refine SL.step (PS.assign rfl tt rfl rfl) ?_
   refine SL.step (PS.assign rfl tt rfl rfl) ?_
   refine SL.keep (l' := [(6, _, _), (5, _, _), (1, _, _)]) ⟨rfl, rfl, rfl, trivial⟩ ?_
   refine SL.nil (SE.thenK hK5 (SC.seq (fun K6 hK6 => SC.region ?_)))
   refine SL.step (PS.move rfl tt rfl rfl) ?_
   refine SL.step (PS.eqlNil rfl tt rfl tt hx21 Tryd.underlying51 rfl rfl) ?_
   refine SL.step (PS.move rfl tt rfl rfl) ?_
   refine SL.step (PS.move rfl tt rfl rfl) ?_
   refine SL.step (PS.move rfl tt rfl rfl) ?_
   refine SL.step (PS.leq rfl (fun h => h) rfl (fun h => h) rfl rfl) ?_
   refine SL.step (PS.pick_and rfl tt rfl (fun h h2 => pk_and h h2) rfl rfl) ?_
   refine SL.step (PS.assign rfl tt rfl rfl) ?_
   refine SL.keep (l' := [(4, _, _)]) ⟨rfl, trivial⟩ ?_
   refine SL.nil (SE.thenK hK6 (SC.ret ?_))
   exact fin1 rfl rfl rfl (fun _ _ => congrArg (fun z : Bool => Value.bool z) (show (d_lex_numeral p0 p1) = (((puOk p0) && (decide ((puV p0) ≤ p1))) : Bool) from (bifF c18)).symm)
end Go.Proofs.YtjdiohhniiooeaaDoor
