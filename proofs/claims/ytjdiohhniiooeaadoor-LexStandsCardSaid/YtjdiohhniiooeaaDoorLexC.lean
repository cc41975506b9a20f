/- The cutter: calls that turn it. -/
import Derived.Test.YtjdiohhniiooeaaDoorLexP
import Derived.Test.YtjdiohhniiooeaaDoorLexR
import Derived.Test.YtjdiohhniiooeaaDoorPrt
namespace Go.Proofs.YtjdiohhniiooeaaDoor
open Go.RowKit
set_option linter.unusedVariables false
set_option linter.unusedSimpArgs false
set_option maxRecDepth 100000
set_option maxHeartbeats 4000000
def d_lex_cutter_put (text : ByteArray) (ci : Int) (line : Int) (fr : Int) (l : List Tok) (code : Int) (pk : Int) (pt : Int) (pe : Int) : ByteArray × Int × Int × Int × List Tok × Int :=
  (text, pe, line, fr, (l ++ [(⟨pk, (text.extract (Int.toNat pt) (Int.toNat pe)), line, ((ci - fr) + 1)⟩ : Tok)]), code)
theorem lex_cutter_put_X (b0 : Nat) (o0 : Option Nat) (cap0 : Nat) (text : ByteArray) (ci : Int) (line : Int) (fr : Int) (l : List Tok) (code : Int) (pk : Int) (pt : Int) (pe : Int) (h0 : 0 ≤ pt ∧ pt ≤ pe ∧ pe ≤ text.size) (h1 : text.size ≤ 65536) (h2 : (l.length : Int) ≤ 65536) (h3 : 0 ≤ fr ∧ fr ≤ ci ∧ ci ≤ 65536) : SpecX Tryd.prog 14 [.pointer (some ⟨b0, 0, none⟩), .int .i64 pk, .int .i64 pt, .int .i64 pe] [.blk b0 [.string text, .int .i64 ci, .int .i64 line, .int .i64 fr, .slice (rowA o0) l.length cap0, .int .i64 code], Rw o0 l cap0] (fun w => ∀ x ∈ l, Dat.ok x w) (fun v : Option Nat × Nat => Value.tuple #[]) (fun v => [.blk b0 [.string ((d_lex_cutter_put text ci line fr l code pk pt pe).1), .int .i64 ((d_lex_cutter_put text ci line fr l code pk pt pe).2.1), .int .i64 ((d_lex_cutter_put text ci line fr l code pk pt pe).2.2.1), .int .i64 ((d_lex_cutter_put text ci line fr l code pk pt pe).2.2.2.1), .slice (rowA v.1) ((d_lex_cutter_put text ci line fr l code pk pt pe).2.2.2.2.1).length v.2, .int .i64 ((d_lex_cutter_put text ci line fr l code pk pt pe).2.2.2.2.2)], Rw v.1 ((d_lex_cutter_put text ci line fr l code pk pt pe).2.2.2.2.1) v.2]) (fun v w => ∀ x ∈ (d_lex_cutter_put text ci line fr l code pk pt pe).2.2.2.2.1, Dat.ok x w) := by
  refine SpecX.enter Tryd.func14 rfl (n := 44) Tryd.ntmps14 (Nat.le_of_ble_eq_true rfl) (l := [(0, _, _), (1, _, _), (2, _, _), (3, _, _)]) rfl ?_
  intro S w
  refine SC.seq (fun K1 hK1 => ?_)
  refine SC.draw (S := SP _ [Prt b0 [some (.string text), some (.int .i64 ci), some (.int .i64 line), some (.int .i64 fr), none, some (.int .i64 code)]] _) 33 (by kernel_rfl) (by kernel_rfl) (fun _ h => h.weak (Weak.prt _ ⟨rfl, rfl, rfl, rfl, trivial, rfl, trivial⟩ (Weak.drop _ Weak.nil)) (fun _ h => h)) ?_
  refine SD.take 0 rfl rfl (by kernel_rfl) (PS.move rfl tt rfl rfl) ?_
  refine SD.take 1 rfl rfl (by kernel_rfl) (PS.move rfl tt rfl rfl) ?_
  refine SD.take 2 rfl rfl (by kernel_rfl) (PS.nilCheck rfl tt rfl rfl) ?_
  refine SD.take 3 rfl rfl (by kernel_rfl) (PS.fieldAddr rfl tt Tryd.fieldAt_39_4 rfl rfl) ?_
  refine SD.take 5 rfl rfl (by kernel_rfl) (PS.move rfl tt rfl rfl) ?_
  refine SD.take 6 rfl rfl (by kernel_rfl) (PS.move rfl tt rfl rfl) ?_
  refine SD.take 7 rfl rfl (by kernel_rfl) (PS.nilCheck rfl tt rfl rfl) ?_
  refine SD.take 8 rfl rfl (by kernel_rfl) (PS.fieldAddr rfl tt Tryd.fieldAt_39_0 rfl rfl) ?_
  refine SD.take 9 rfl rfl (by kernel_rfl) (PS.load_prt (k := 0) rfl tt rfl rfl rfl Tryd.isAgg9 rfl rfl) ?_
  refine SD.take 10 rfl rfl (by kernel_rfl) (PS.move rfl tt rfl rfl) ?_
  refine SD.take 11 rfl rfl (by kernel_rfl) (PS.move rfl tt rfl rfl) ?_
  refine SD.take 12 rfl rfl (by kernel_rfl) (PS.sliceStr rfl tt rfl tt rfl tt Tryd.underlying9 (fun hg => by first | omega | (simp only [List.length_cons, List.length_nil]; omega) | (try simp only [Bool.and_eq_true, Bool.or_eq_true, decide_eq_true_eq, Bool.true_and, Bool.not_eq_true', beq_iff_eq, bne_iff_ne, decide_eq_false_iff_not, beq_eq_false_iff_ne, ne_eq] at hg; omega)) rfl rfl) ?_
  refine SD.take 13 rfl rfl (by kernel_rfl) (PS.move rfl tt rfl rfl) ?_
  refine SD.take 14 rfl rfl (by kernel_rfl) (PS.nilCheck rfl tt rfl rfl) ?_
  refine SD.take 15 rfl rfl (by kernel_rfl) (PS.fieldAddr rfl tt Tryd.fieldAt_39_2 rfl rfl) ?_
  refine SD.take 16 rfl rfl (by kernel_rfl) (PS.load_prt (k := 0) rfl tt rfl rfl rfl Tryd.isAgg3 rfl rfl) ?_
  refine SD.take 17 rfl rfl (by kernel_rfl) (PS.move rfl tt rfl rfl) ?_
  refine SD.take 18 rfl rfl (by kernel_rfl) (PS.nilCheck rfl tt rfl rfl) ?_
  refine SD.take 19 rfl rfl (by kernel_rfl) (PS.fieldAddr rfl tt Tryd.fieldAt_39_1 rfl rfl) ?_
  refine SD.take 20 rfl rfl (by kernel_rfl) (PS.load_prt (k := 0) rfl tt rfl rfl rfl Tryd.isAgg3 rfl rfl) ?_
  refine SD.take 21 rfl rfl (by kernel_rfl) (PS.move rfl tt rfl rfl) ?_
  refine SD.take 22 rfl rfl (by kernel_rfl) (PS.nilCheck rfl tt rfl rfl) ?_
  refine SD.take 23 rfl rfl (by kernel_rfl) (PS.fieldAddr rfl tt Tryd.fieldAt_39_3 rfl rfl) ?_
  refine SD.take 24 rfl rfl (by kernel_rfl) (PS.load_prt (k := 0) rfl tt rfl rfl rfl Tryd.isAgg3 rfl rfl) ?_
  refine SD.take 25 rfl rfl (by kernel_rfl) (PS.sub_in rfl tt rfl tt (fun _ => wr_i64 (by omega)) rfl rfl) ?_
  refine SD.take 26 rfl rfl (by kernel_rfl) (PS.add_in rfl tt rfl tt (fun _ => wr_i64 (by omega)) rfl rfl) ?_
  refine SD.take 27 rfl rfl (by kernel_rfl) (PS.build (us := [(0, _), (1, _), (2, _), (3, _)]) (vs := [_, _, _, _]) ⟨rfl, ⟨_, rfl, tt⟩, ⟨rfl, ⟨_, rfl, tt⟩, ⟨rfl, ⟨_, rfl, tt⟩, ⟨rfl, ⟨_, rfl, tt⟩, trivial⟩⟩⟩⟩ Tryd.underlying31 Tryd.zeroValue31 (Tryd.places_31 Tryd.underlying31) rfl rfl rfl) ?_
  refine SD.join3 (f' := 0) (listed' := (List.replicate 33 true ++ List.replicate 0 false).toArray) (L := ?L0_1) (O := ?O0_1) (G := ?G0_1) (fun HT => ?way0_1) (fun (b36 : Nat) (o37 : Option Nat) (c37 : Nat) => ?tail0_1)
  case way0_1 =>
   refine SD.two 4 28 rfl rfl (by kernel_rfl) (fun inv4 => ?_) (fun inv28 => ?_)
   ·
    refine SL.step (PS.load_own (k := 0) rfl tt rfl rfl rfl Tryd.isAgg23 rfl rfl) ?_
    refine SL.nil ?_
    refine SE.next (fun _ h => h.weak (Weak.prt _ ⟨rfl, rfl, rfl, rfl, trivial, rfl, trivial⟩ (Weak.drop _ Weak.nil)) (fun _ h => h)) inv4 ?_
    refine SD.one 28 rfl (by kernel_rfl) (fun inv28 => ?_)
    refine SL.buildSlice (us := [(0, _)]) (cs := [_, _, _, _]) ⟨rfl, ⟨_, rfl, tt⟩, trivial⟩ Tryd.underlying23 Tryd.sizeOf31 Tryd.zeroValue31 ⟨rfl, rfl, _, rfl, trivial⟩ rfl (by decide) rfl rfl (fun b36 => ?_)
    refine SL.nil ?_
    refine SE.next (fun _ h => h.weak (Weak.drop _ (Weak.prt _ ⟨rfl, rfl, rfl, rfl, trivial, rfl, trivial⟩ (Weak.drop _ Weak.nil))) (fun _ h => h)) inv28 ?_
    refine SD.one 29 rfl (by kernel_rfl) (fun inv29 => ?_)
    refine SL.append1 (k := 1) (xs := l) (y := (⟨pk, (text.extract (Int.toNat pt) (Int.toNat pe)), line, ((ci - fr) + 1)⟩ : Tok)) (cells := Dat.cells) rfl rfl rfl rfl Dat.len Dat.one Tryd.underlying23 Tryd.rowinfo_31 (by omega) (by omega) rfl rfl (fun o37 c37 => ?_)
    refine SL.own_eq (own' := [_, _]) rfl ?_
    refine SL.nil ?_
    refine SE.next (fun _ h => h.weak (Weak.prt _ ⟨rfl, rfl, rfl, rfl, trivial, rfl, trivial⟩ (Weak.drop _ Weak.nil)) (fun _ h => h)) inv29 ?_
    refine SD.take 30 rfl rfl (by kernel_rfl) (PS.nilCheck rfl tt rfl rfl) ?_
    refine SD.take 31 rfl rfl (by kernel_rfl) (PS.fieldAddr rfl tt Tryd.fieldAt_39_4 rfl rfl) ?_
    refine SD.one 32 rfl (by kernel_rfl) (fun inv32 => ?_)
    refine SL.store_own (k := 0) (own' := [_, _]) (cs' := [_, _, _, _, _, _]) rfl rfl rfl rfl rfl rfl rfl Tryd.sizeOf23 rfl (Nat.le_of_ble_eq_true rfl) rfl rfl rfl rfl ?_
    refine SL.nil ?_
    refine SE.next (fun _ h => h.weak (Weak.prt _ ⟨rfl, rfl, rfl, rfl, trivial, rfl, trivial⟩ (Weak.drop _ Weak.nil)) (fun _ h => h)) inv32 ?_
    refine SD.lst (listed' := (List.replicate 33 true ++ List.replicate 0 false).toArray) (by kernel_rfl) ?_
    exact (HT b36 o37 c37)
   ·
    refine SL.buildSlice (us := [(0, _)]) (cs := [_, _, _, _]) ⟨rfl, ⟨_, rfl, tt⟩, trivial⟩ Tryd.underlying23 Tryd.sizeOf31 Tryd.zeroValue31 ⟨rfl, rfl, _, rfl, trivial⟩ rfl (by decide) rfl rfl (fun b36 => ?_)
    refine SL.nil ?_
    refine SE.next (fun _ h => h.weak (Weak.drop _ (Weak.prt _ ⟨rfl, rfl, rfl, rfl, trivial, rfl, trivial⟩ (Weak.drop _ Weak.nil))) (fun _ h => h)) inv28 ?_
    refine SD.one 4 rfl (by kernel_rfl) (fun inv4 => ?_)
    refine SL.step (PS.load_own (k := 1) rfl tt rfl rfl rfl Tryd.isAgg23 rfl rfl) ?_
    refine SL.nil ?_
    refine SE.next (fun _ h => h.weak (Weak.drop _ (Weak.prt _ ⟨rfl, rfl, rfl, rfl, trivial, rfl, trivial⟩ (Weak.drop _ Weak.nil))) (fun _ h => h)) inv4 ?_
    refine SD.one 29 rfl (by kernel_rfl) (fun inv29 => ?_)
    refine SL.append1 (k := 1) (xs := l) (y := (⟨pk, (text.extract (Int.toNat pt) (Int.toNat pe)), line, ((ci - fr) + 1)⟩ : Tok)) (cells := Dat.cells) rfl rfl rfl rfl Dat.len Dat.one Tryd.underlying23 Tryd.rowinfo_31 (by omega) (by omega) rfl rfl (fun o37 c37 => ?_)
    refine SL.own_eq (own' := [_, _]) rfl ?_
    refine SL.nil ?_
    refine SE.next (fun _ h => h.weak (Weak.prt _ ⟨rfl, rfl, rfl, rfl, trivial, rfl, trivial⟩ (Weak.drop _ Weak.nil)) (fun _ h => h)) inv29 ?_
    refine SD.take 30 rfl rfl (by kernel_rfl) (PS.nilCheck rfl tt rfl rfl) ?_
    refine SD.take 31 rfl rfl (by kernel_rfl) (PS.fieldAddr rfl tt Tryd.fieldAt_39_4 rfl rfl) ?_
    refine SD.one 32 rfl (by kernel_rfl) (fun inv32 => ?_)
    refine SL.store_own (k := 0) (own' := [_, _]) (cs' := [_, _, _, _, _, _]) rfl rfl rfl rfl rfl rfl rfl Tryd.sizeOf23 rfl (Nat.le_of_ble_eq_true rfl) rfl rfl rfl rfl ?_
    refine SL.nil ?_
    refine SE.next (fun _ h => h.weak (Weak.prt _ ⟨rfl, rfl, rfl, rfl, trivial, rfl, trivial⟩ (Weak.drop _ Weak.nil)) (fun _ h => h)) inv32 ?_
    refine SD.lst (listed' := (List.replicate 33 true ++ List.replicate 0 false).toArray) (by kernel_rfl) ?_
    refine SD.keep ?_ (SD.perm ?_ (HT b36 o37 c37))
    · exact ⟨rfl, rfl, rfl, rfl, rfl, rfl, rfl, rfl, rfl, rfl, rfl, rfl, rfl, rfl, rfl, rfl, rfl, rfl, rfl, rfl, rfl, rfl, rfl, rfl, rfl, rfl, rfl, rfl, rfl, rfl, rfl, rfl, rfl, rfl, rfl, rfl, trivial⟩
    · exact (List.Perm.refl _)
  refine SD.tail (by kernel_rfl) (os := []) rfl ?_
  refine SL.keep (l' := [(0, _, _), (3, _, _)]) ⟨rfl, rfl, trivial⟩ ?_
  refine SL.nil (SE.calm (SE.thenK hK1 (SC.region ?_)))
  refine SL.step (PS.move rfl tt rfl rfl) ?_
  refine SL.step (PS.move rfl tt rfl rfl) ?_
  refine SL.step (PS.nilCheck rfl tt rfl rfl) ?_
  refine SL.step (PS.fieldAddr rfl tt Tryd.fieldAt_39_1 rfl rfl) ?_
  refine SL.store_own (k := 0) (own' := [_, _]) (cs' := [_, _, _, _, _, _]) rfl rfl rfl rfl rfl rfl rfl Tryd.sizeOf3 rfl (Nat.le_of_ble_eq_true rfl) rfl rfl rfl rfl ?_
  refine SL.keep (l' := []) trivial ?_
  refine SL.nil ?_
  refine SE.fall ?_
  exact finX (rs := [.blk b0 [.string text, .int .i64 ci, .int .i64 line, .int .i64 fr, .slice (rowA o0) l.length cap0, .int .i64 code], Rw o0 l cap0]) (val := fun v : Option Nat × Nat => Value.tuple #[]) (rs' := fun v => [.blk b0 [.string ((d_lex_cutter_put text ci line fr l code pk pt pe).1), .int .i64 ((d_lex_cutter_put text ci line fr l code pk pt pe).2.1), .int .i64 ((d_lex_cutter_put text ci line fr l code pk pt pe).2.2.1), .int .i64 ((d_lex_cutter_put text ci line fr l code pk pt pe).2.2.2.1), .slice (rowA v.1) ((d_lex_cutter_put text ci line fr l code pk pt pe).2.2.2.2.1).length v.2, .int .i64 ((d_lex_cutter_put text ci line fr l code pk pt pe).2.2.2.2.2)], Rw v.1 ((d_lex_cutter_put text ci line fr l code pk pt pe).2.2.2.2.1) v.2]) (Φ := fun v w => ∀ x ∈ (d_lex_cutter_put text ci line fr l code pk pt pe).2.2.2.2.1, Dat.ok x w) (o37, c37) (congrArg (fun z : ByteArray × Int × Int × Int × List Tok × Int => Value.tuple #[]) (show (d_lex_cutter_put text ci line fr l code pk pt pe) = ((text, pe, line, fr, (l ++ [(⟨pk, (text.extract (Int.toNat pt) (Int.toNat pe)), line, ((ci - fr) + 1)⟩ : Tok)]), code) : ByteArray × Int × Int × Int × List Tok × Int) from rfl).symm) (List.Perm.refl _) (run0 rfl) (by rfl) (by rfl) ((congrArg (fun z : ByteArray × Int × Int × Int × List Tok × Int => List.Sublist [.blk b0 [.string z.1, .int .i64 z.2.1, .int .i64 z.2.2.1, .int .i64 z.2.2.2.1, .slice (rowA o37) (z.2.2.2.2.1).length c37, .int .i64 z.2.2.2.2.2], Rw o37 (z.2.2.2.2.1) c37] _) (show (d_lex_cutter_put text ci line fr l code pk pt pe) = ((text, pe, line, fr, (l ++ [(⟨pk, (text.extract (Int.toNat pt) (Int.toNat pe)), line, ((ci - fr) + 1)⟩ : Tok)]), code) : ByteArray × Int × Int × Int × List Tok × Int) from rfl)).mpr (List.Sublist.cons_cons _ (List.Sublist.cons_cons _ List.Sublist.slnil))) (fun w h => (congrArg (fun z : ByteArray × Int × Int × Int × List Tok × Int => ∀ x ∈ z.2.2.2.2.1, Dat.ok x w) (show (d_lex_cutter_put text ci line fr l code pk pt pe) = ((text, pe, line, fr, (l ++ [(⟨pk, (text.extract (Int.toNat pt) (Int.toNat pe)), line, ((ci - fr) + 1)⟩ : Tok)]), code) : ByteArray × Int × Int × Int × List Tok × Int) from rfl)).mpr ((all_snoc ((h)) (⟨(ext_ok (by omega))⟩))))
theorem lex_digits_R1_rg {s : ByteArray} : ∀ (k : Nat) (x : Int), x ≤ s.size → x ≤ d_lex_digits_R1 s k x ∧ d_lex_digits_R1 s k x ≤ s.size
  | 0, x, h => ⟨Int.le_refl _, h⟩
  | k + 1, x, h => by
    unfold d_lex_digits_R1
    by_cases hc : x < (s.size : Int)
    · rw [decide_eq_true hc, Bool.true_and]
      refine cond_ind (P := fun r : Int => x ≤ r ∧ r ≤ s.size) (fun _ => ?_) (fun _ => ⟨Int.le_refl _, h⟩)
      have := lex_digits_R1_rg (s := s) k (x + 1) (by omega)
      exact ⟨by omega, this.2⟩
    · rw [decide_eq_false hc, Bool.false_and]
      exact ⟨Int.le_refl _, h⟩
theorem lex_digits_rg {s : ByteArray} {i : Int} (h : i ≤ s.size) : i ≤ d_lex_digits s i ∧ d_lex_digits s i ≤ s.size := lex_digits_R1_rg _ i h
theorem lex_behind_R1_rg {s : ByteArray} : ∀ (k : Nat) (x : Int), x ≤ s.size → x ≤ d_lex_behind_R1 s k x ∧ d_lex_behind_R1 s k x ≤ s.size
  | 0, x, h => ⟨Int.le_refl _, h⟩
  | k + 1, x, h => by
    unfold d_lex_behind_R1
    by_cases hc : x < (s.size : Int)
    · rw [decide_eq_true hc, Bool.true_and]
      refine cond_ind (P := fun r : Int => x ≤ r ∧ r ≤ s.size) (fun _ => ?_) (fun _ => ⟨Int.le_refl _, h⟩)
      have := lex_behind_R1_rg (s := s) k (x + 1) (by omega)
      exact ⟨by omega, this.2⟩
    · rw [decide_eq_false hc, Bool.false_and]
      exact ⟨Int.le_refl _, h⟩
theorem lex_behind_rg {s : ByteArray} {i : Int} (h : i ≤ s.size) : i ≤ d_lex_behind s i ∧ d_lex_behind s i ≤ s.size := lex_behind_R1_rg _ i h
theorem ext_le {s : ByteArray} {a b : Nat} : (s.extract a b).size ≤ s.size := by
  rw [ByteArray.size_extract]; omega
def d_lex_cutter_number (text : ByteArray) (ci : Int) (line : Int) (fr : Int) (l : List Tok) (code : Int) (pk : Int) (pf : Int) (pm : Int) : ByteArray × Int × Int × Int × List Tok × Int × Bool :=
  bif (!(d_lex_numeral (text.extract (Int.toNat pf) (Int.toNat (d_lex_digits text pf))) pm)) then
   (text, ci, line, fr, l, 2, false)
  else ((d_lex_cutter_put text ci line fr l code pk pf (d_lex_digits text pf)).1, (d_lex_cutter_put text ci line fr l code pk pf (d_lex_digits text pf)).2.1, (d_lex_cutter_put text ci line fr l code pk pf (d_lex_digits text pf)).2.2.1, (d_lex_cutter_put text ci line fr l code pk pf (d_lex_digits text pf)).2.2.2.1, (d_lex_cutter_put text ci line fr l code pk pf (d_lex_digits text pf)).2.2.2.2.1, (d_lex_cutter_put text ci line fr l code pk pf (d_lex_digits text pf)).2.2.2.2.2, true)
theorem lex_cutter_number_X (b0 : Nat) (o0 : Option Nat) (cap0 : Nat) (text : ByteArray) (ci : Int) (line : Int) (fr : Int) (l : List Tok) (code : Int) (pk : Int) (pf : Int) (pm : Int) (h0 : 0 ≤ pf ∧ pf ≤ text.size) (h1 : text.size ≤ 65536) (h2 : (l.length : Int) ≤ 65536) (h3 : 0 ≤ fr ∧ fr ≤ ci ∧ ci ≤ 65536) : SpecX Tryd.prog 21 [.pointer (some ⟨b0, 0, none⟩), .int .i64 pk, .int .i64 pf, .int .u64 pm] [.blk b0 [.string text, .int .i64 ci, .int .i64 line, .int .i64 fr, .slice (rowA o0) l.length cap0, .int .i64 code], Rw o0 l cap0] (fun w => Vars w ∧ ∀ x ∈ l, Dat.ok x w) (fun v : Option Nat × Nat => Value.bool ((d_lex_cutter_number text ci line fr l code pk pf pm).2.2.2.2.2.2)) (fun v => [.blk b0 [.string ((d_lex_cutter_number text ci line fr l code pk pf pm).1), .int .i64 ((d_lex_cutter_number text ci line fr l code pk pf pm).2.1), .int .i64 ((d_lex_cutter_number text ci line fr l code pk pf pm).2.2.1), .int .i64 ((d_lex_cutter_number text ci line fr l code pk pf pm).2.2.2.1), .slice (rowA v.1) ((d_lex_cutter_number text ci line fr l code pk pf pm).2.2.2.2.1).length v.2, .int .i64 ((d_lex_cutter_number text ci line fr l code pk pf pm).2.2.2.2.2.1)], Rw v.1 ((d_lex_cutter_number text ci line fr l code pk pf pm).2.2.2.2.1) v.2]) (fun v w => ∀ x ∈ (d_lex_cutter_number text ci line fr l code pk pf pm).2.2.2.2.1, Dat.ok x w) := by
  refine SpecX.enter Tryd.func21 rfl (n := 34) Tryd.ntmps21 (Nat.le_of_ble_eq_true rfl) (l := [(0, _, _), (1, _, _), (2, _, _), (3, _, _)]) rfl ?_
  intro S w
  have hd0 := lex_digits_rg (s := text) (i := pf) (by omega)
  refine SC.seq (fun K1 hK1 => SC.region ?_)
  refine SL.step (PS.assign rfl tt rfl rfl) ?_
  refine SL.keep (l' := [(0, _, _), (1, _, _), (2, _, _), (3, _, _)]) ⟨rfl, rfl, rfl, rfl, trivial⟩ ?_
  refine SL.nil (SE.thenK hK1 (SC.seq (fun K2 hK2 => SC.region ?_)))
  refine SL.step (PS.move rfl tt rfl rfl) ?_
  refine SL.step (PS.nilCheck rfl tt rfl rfl) ?_
  refine SL.step (PS.fieldAddr rfl tt Tryd.fieldAt_39_0 rfl rfl) ?_
  refine SL.step (PS.load_own (k := 0) rfl tt rfl rfl rfl Tryd.isAgg9 rfl rfl) ?_
  refine SL.step (PS.move rfl tt rfl rfl) ?_
  refine SL.callV (vs := [_, _]) Tryd.call25 ⟨⟨_, rfl, tt⟩, ⟨_, rfl, tt⟩, trivial⟩ (fun hg => lex_digits_V text pf (by omega) (by omega)) rfl rfl ?_
  refine SL.step (PS.assign rfl tt rfl rfl) ?_
  refine SL.keep (l' := [(9, _, _), (0, _, _), (1, _, _), (2, _, _), (3, _, _)]) ⟨rfl, rfl, rfl, rfl, rfl, trivial⟩ ?_
  refine SL.nil (SE.thenK hK2 (SC.seq (fun K3 hK3 => SC.seq (fun K4 hK4 => SC.region ?_))))
  refine SL.step (PS.move rfl tt rfl rfl) ?_
  refine SL.step (PS.nilCheck rfl tt rfl rfl) ?_
  refine SL.step (PS.fieldAddr rfl tt Tryd.fieldAt_39_0 rfl rfl) ?_
  refine SL.step (PS.load_own (k := 0) rfl tt rfl rfl rfl Tryd.isAgg9 rfl rfl) ?_
  refine SL.step (PS.move rfl tt rfl rfl) ?_
  refine SL.step (PS.move rfl tt rfl rfl) ?_
  refine SL.step (PS.sliceStr rfl tt rfl tt rfl tt Tryd.underlying9 (fun hg => by first | omega | (simp only [List.length_cons, List.length_nil]; omega) | (try simp only [Bool.and_eq_true, Bool.or_eq_true, decide_eq_true_eq, Bool.true_and, Bool.not_eq_true', beq_iff_eq, bne_iff_ne, decide_eq_false_iff_not, beq_eq_false_iff_ne, ne_eq] at hg; omega)) rfl rfl) ?_
  refine SL.step (PS.move rfl tt rfl rfl) ?_
  refine SL.callR (vs := [_, _]) Tryd.call26 ⟨⟨_, rfl, tt⟩, ⟨_, rfl, tt⟩, trivial⟩ (fun hg => lex_numeral_S (text.extract (Int.toNat pf) (Int.toNat (d_lex_digits text pf))) pm (by first | omega | (refine Nat.le_trans ext_le ?_; omega))) (fun w h hok hg => (h.1)) rfl rfl ?_
  refine SL.step (PS.not rfl tt rfl rfl) ?_
  refine SL.keep (l' := [(25, _, _), (9, _, _), (0, _, _), (1, _, _), (2, _, _)]) ⟨rfl, rfl, rfl, rfl, rfl, trivial⟩ ?_
  refine SL.nil (SE.thenK hK4 ?_)
  refine SC.cond rfl (fun c25 => ?_) (fun c25 => ?_)
  ·
   refine SC.seq (fun K5 hK5 => SC.region ?_)
   refine SL.step (PS.move rfl tt rfl rfl) ?_
   refine SL.step (PS.nilCheck rfl tt rfl rfl) ?_
   refine SL.step (PS.fieldAddr rfl tt Tryd.fieldAt_39_5 rfl rfl) ?_
   refine SL.store_own (k := 0) (own' := [_, _]) (cs' := [_, _, _, _, _, _]) rfl rfl rfl rfl rfl rfl rfl Tryd.sizeOf24 rfl (Nat.le_of_ble_eq_true rfl) rfl rfl rfl rfl ?_
   refine SL.keep (l' := []) trivial ?_
   refine SL.nil (SE.thenK hK5 (SC.seq (fun K6 hK6 => SC.region ?_)))
   refine SL.step (PS.assign rfl tt rfl rfl) ?_
   refine SL.nil (SE.thenK hK6 (SC.ret (SE.then_ret ?_)))
   exact finX (rs := [.blk b0 [.string text, .int .i64 ci, .int .i64 line, .int .i64 fr, .slice (rowA o0) l.length cap0, .int .i64 code], Rw o0 l cap0]) (val := fun v : Option Nat × Nat => Value.bool ((d_lex_cutter_number text ci line fr l code pk pf pm).2.2.2.2.2.2)) (rs' := fun v => [.blk b0 [.string ((d_lex_cutter_number text ci line fr l code pk pf pm).1), .int .i64 ((d_lex_cutter_number text ci line fr l code pk pf pm).2.1), .int .i64 ((d_lex_cutter_number text ci line fr l code pk pf pm).2.2.1), .int .i64 ((d_lex_cutter_number text ci line fr l code pk pf pm).2.2.2.1), .slice (rowA v.1) ((d_lex_cutter_number text ci line fr l code pk pf pm).2.2.2.2.1).length v.2, .int .i64 ((d_lex_cutter_number text ci line fr l code pk pf pm).2.2.2.2.2.1)], Rw v.1 ((d_lex_cutter_number text ci line fr l code pk pf pm).2.2.2.2.1) v.2]) (Φ := fun v w => ∀ x ∈ (d_lex_cutter_number text ci line fr l code pk pf pm).2.2.2.2.1, Dat.ok x w) (o0, cap0) (congrArg (fun z : ByteArray × Int × Int × Int × List Tok × Int × Bool => Value.bool z.2.2.2.2.2.2) (show (d_lex_cutter_number text ci line fr l code pk pf pm) = ((text, ci, line, fr, l, 2, false) : ByteArray × Int × Int × Int × List Tok × Int × Bool) from (bifT c25)).symm) (List.Perm.refl _) (run1 rfl rfl) (by rfl) (by rfl) ((congrArg (fun z : ByteArray × Int × Int × Int × List Tok × Int × Bool => List.Sublist [.blk b0 [.string z.1, .int .i64 z.2.1, .int .i64 z.2.2.1, .int .i64 z.2.2.2.1, .slice (rowA o0) (z.2.2.2.2.1).length cap0, .int .i64 z.2.2.2.2.2.1], Rw o0 (z.2.2.2.2.1) cap0] _) (show (d_lex_cutter_number text ci line fr l code pk pf pm) = ((text, ci, line, fr, l, 2, false) : ByteArray × Int × Int × Int × List Tok × Int × Bool) from (bifT c25))).mpr (List.Sublist.cons_cons _ (List.Sublist.cons_cons _ List.Sublist.slnil))) (fun w h => (congrArg (fun z : ByteArray × Int × Int × Int × List Tok × Int × Bool => ∀ x ∈ z.2.2.2.2.1, Dat.ok x w) (show (d_lex_cutter_number text ci line fr l code pk pf pm) = ((text, ci, line, fr, l, 2, false) : ByteArray × Int × Int × Int × List Tok × Int × Bool) from (bifT c25))).mpr ((h.2)))
  ·
   have c25n := c25
   try simp only [Bool.and_eq_true, Bool.or_eq_true, decide_eq_true_eq, Bool.true_and, Bool.not_eq_true', Bool.not_eq_false', beq_iff_eq, bne_iff_ne, decide_eq_false_iff_not, beq_eq_false_iff_ne, bne_eq_false_iff_eq, ne_eq, Bool.or_eq_false_iff, Bool.and_eq_false_iff] at c25n
   refine SC.skip (SE.thenK hK3 (SC.seq (fun K7 hK7 => SC.region ?_)))
   refine SL.step (PS.move rfl tt rfl rfl) ?_
   refine SL.step (PS.move rfl tt rfl rfl) ?_
   refine SL.step (PS.move rfl tt rfl rfl) ?_
   refine SL.step (PS.move rfl tt rfl rfl) ?_
   refine SL.callX (vs := [_, _, _, _]) (rs := [_, _]) (own' := []) (List.Perm.refl _) Tryd.call14 ⟨⟨_, rfl, tt⟩, ⟨_, rfl, tt⟩, ⟨_, rfl, tt⟩, ⟨_, rfl, tt⟩, trivial⟩ (lex_cutter_put_X b0 o0 cap0 text ci line fr l code pk pf (d_lex_digits text pf) (by omega) (by omega) (by omega) (by omega)) (fun w h => (h.2)) rfl rfl (fun x33 => ?_)
   obtain ⟨o33, c33⟩ := x33
   refine SL.keep (l' := []) trivial ?_
   refine SL.nil (SE.thenK hK7 (SC.seq (fun K8 hK8 => SC.region ?_)))
   refine SL.step (PS.assign rfl tt rfl rfl) ?_
   refine SL.nil (SE.thenK hK8 (SC.ret ?_))
   exact finX (rs := [.blk b0 [.string text, .int .i64 ci, .int .i64 line, .int .i64 fr, .slice (rowA o0) l.length cap0, .int .i64 code], Rw o0 l cap0]) (val := fun v : Option Nat × Nat => Value.bool ((d_lex_cutter_number text ci line fr l code pk pf pm).2.2.2.2.2.2)) (rs' := fun v => [.blk b0 [.string ((d_lex_cutter_number text ci line fr l code pk pf pm).1), .int .i64 ((d_lex_cutter_number text ci line fr l code pk pf pm).2.1), .int .i64 ((d_lex_cutter_number text ci line fr l code pk pf pm).2.2.1), .int .i64 ((d_lex_cutter_number text ci line fr l code pk pf pm).2.2.2.1), .slice (rowA v.1) ((d_lex_cutter_number text ci line fr l code pk pf pm).2.2.2.2.1).length v.2, .int .i64 ((d_lex_cutter_number text ci line fr l code pk pf pm).2.2.2.2.2.1)], Rw v.1 ((d_lex_cutter_number text ci line fr l code pk pf pm).2.2.2.2.1) v.2]) (Φ := fun v w => ∀ x ∈ (d_lex_cutter_number text ci line fr l code pk pf pm).2.2.2.2.1, Dat.ok x w) (o33, c33) (congrArg (fun z : ByteArray × Int × Int × Int × List Tok × Int × Bool => Value.bool z.2.2.2.2.2.2) (show (d_lex_cutter_number text ci line fr l code pk pf pm) = (((d_lex_cutter_put text ci line fr l code pk pf (d_lex_digits text pf)).1, (d_lex_cutter_put text ci line fr l code pk pf (d_lex_digits text pf)).2.1, (d_lex_cutter_put text ci line fr l code pk pf (d_lex_digits text pf)).2.2.1, (d_lex_cutter_put text ci line fr l code pk pf (d_lex_digits text pf)).2.2.2.1, (d_lex_cutter_put text ci line fr l code pk pf (d_lex_digits text pf)).2.2.2.2.1, (d_lex_cutter_put text ci line fr l code pk pf (d_lex_digits text pf)).2.2.2.2.2, true) : ByteArray × Int × Int × Int × List Tok × Int × Bool) from (bifF c25)).symm) (List.Perm.refl _) (run1 rfl rfl) (by rfl) (by rfl) ((congrArg (fun z : ByteArray × Int × Int × Int × List Tok × Int × Bool => List.Sublist [.blk b0 [.string z.1, .int .i64 z.2.1, .int .i64 z.2.2.1, .int .i64 z.2.2.2.1, .slice (rowA o33) (z.2.2.2.2.1).length c33, .int .i64 z.2.2.2.2.2.1], Rw o33 (z.2.2.2.2.1) c33] _) (show (d_lex_cutter_number text ci line fr l code pk pf pm) = (((d_lex_cutter_put text ci line fr l code pk pf (d_lex_digits text pf)).1, (d_lex_cutter_put text ci line fr l code pk pf (d_lex_digits text pf)).2.1, (d_lex_cutter_put text ci line fr l code pk pf (d_lex_digits text pf)).2.2.1, (d_lex_cutter_put text ci line fr l code pk pf (d_lex_digits text pf)).2.2.2.1, (d_lex_cutter_put text ci line fr l code pk pf (d_lex_digits text pf)).2.2.2.2.1, (d_lex_cutter_put text ci line fr l code pk pf (d_lex_digits text pf)).2.2.2.2.2, true) : ByteArray × Int × Int × Int × List Tok × Int × Bool) from (bifF c25))).mpr (List.Sublist.cons_cons _ (List.Sublist.cons_cons _ List.Sublist.slnil))) (fun w h => (congrArg (fun z : ByteArray × Int × Int × Int × List Tok × Int × Bool => ∀ x ∈ z.2.2.2.2.1, Dat.ok x w) (show (d_lex_cutter_number text ci line fr l code pk pf pm) = (((d_lex_cutter_put text ci line fr l code pk pf (d_lex_digits text pf)).1, (d_lex_cutter_put text ci line fr l code pk pf (d_lex_digits text pf)).2.1, (d_lex_cutter_put text ci line fr l code pk pf (d_lex_digits text pf)).2.2.1, (d_lex_cutter_put text ci line fr l code pk pf (d_lex_digits text pf)).2.2.2.1, (d_lex_cutter_put text ci line fr l code pk pf (d_lex_digits text pf)).2.2.2.2.1, (d_lex_cutter_put text ci line fr l code pk pf (d_lex_digits text pf)).2.2.2.2.2, true) : ByteArray × Int × Int × Int × List Tok × Int × Bool) from (bifF c25))).mpr (h.2))
def d_lex_cutter_piece (text : ByteArray) (ci : Int) (line : Int) (fr : Int) (l : List Tok) (code : Int) (pb : Int) : ByteArray × Int × Int × Int × List Tok × Int × Bool :=
  bif (((((pb == 61) || (pb == 44)) || (pb == 40)) || (pb == 41)) || (pb == 58)) then
   ((d_lex_cutter_put text ci line fr l code 5 ci (ci + 1)).1, (d_lex_cutter_put text ci line fr l code 5 ci (ci + 1)).2.1, (d_lex_cutter_put text ci line fr l code 5 ci (ci + 1)).2.2.1, (d_lex_cutter_put text ci line fr l code 5 ci (ci + 1)).2.2.2.1, (d_lex_cutter_put text ci line fr l code 5 ci (ci + 1)).2.2.2.2.1, (d_lex_cutter_put text ci line fr l code 5 ci (ci + 1)).2.2.2.2.2, true)
  else bif (d_lex_letter pb) then
    ((d_lex_cutter_put text ci line fr l code 1 ci (d_lex_behind text ci)).1, (d_lex_cutter_put text ci line fr l code 1 ci (d_lex_behind text ci)).2.1, (d_lex_cutter_put text ci line fr l code 1 ci (d_lex_behind text ci)).2.2.1, (d_lex_cutter_put text ci line fr l code 1 ci (d_lex_behind text ci)).2.2.2.1, (d_lex_cutter_put text ci line fr l code 1 ci (d_lex_behind text ci)).2.2.2.2.1, (d_lex_cutter_put text ci line fr l code 1 ci (d_lex_behind text ci)).2.2.2.2.2, true)
   else bif (d_lex_digit pb) then
     ((d_lex_cutter_number text ci line fr l code 2 ci 18446744073709551615).1, (d_lex_cutter_number text ci line fr l code 2 ci 18446744073709551615).2.1, (d_lex_cutter_number text ci line fr l code 2 ci 18446744073709551615).2.2.1, (d_lex_cutter_number text ci line fr l code 2 ci 18446744073709551615).2.2.2.1, (d_lex_cutter_number text ci line fr l code 2 ci 18446744073709551615).2.2.2.2.1, (d_lex_cutter_number text ci line fr l code 2 ci 18446744073709551615).2.2.2.2.2.1, (d_lex_cutter_number text ci line fr l code 2 ci 18446744073709551615).2.2.2.2.2.2)
    else bif (pb == 37) then
      ((d_lex_cutter_number text ci line fr l code 3 (ci + 1) 4095).1, (d_lex_cutter_number text ci line fr l code 3 (ci + 1) 4095).2.1, (d_lex_cutter_number text ci line fr l code 3 (ci + 1) 4095).2.2.1, (d_lex_cutter_number text ci line fr l code 3 (ci + 1) 4095).2.2.2.1, (d_lex_cutter_number text ci line fr l code 3 (ci + 1) 4095).2.2.2.2.1, (d_lex_cutter_number text ci line fr l code 3 (ci + 1) 4095).2.2.2.2.2.1, (d_lex_cutter_number text ci line fr l code 3 (ci + 1) 4095).2.2.2.2.2.2)
     else bif (((pb == 64) && (decide ((ci + 1) < (text.size : Int)))) && (d_lex_letter (byteAt text (ci + 1)))) then
       ((d_lex_cutter_put text ci line fr l code 4 (ci + 1) (d_lex_behind text (ci + 1))).1, (d_lex_cutter_put text ci line fr l code 4 (ci + 1) (d_lex_behind text (ci + 1))).2.1, (d_lex_cutter_put text ci line fr l code 4 (ci + 1) (d_lex_behind text (ci + 1))).2.2.1, (d_lex_cutter_put text ci line fr l code 4 (ci + 1) (d_lex_behind text (ci + 1))).2.2.2.1, (d_lex_cutter_put text ci line fr l code 4 (ci + 1) (d_lex_behind text (ci + 1))).2.2.2.2.1, (d_lex_cutter_put text ci line fr l code 4 (ci + 1) (d_lex_behind text (ci + 1))).2.2.2.2.2, true)
      else (text, ci, line, fr, l, 1, false)
theorem lex_cutter_piece_X (b0 : Nat) (o0 : Option Nat) (cap0 : Nat) (text : ByteArray) (ci : Int) (line : Int) (fr : Int) (l : List Tok) (code : Int) (pb : Int) (h0 : 0 ≤ ci ∧ ci < text.size) (h1 : text.size ≤ 65536) (h2 : (l.length : Int) ≤ 65536) (h3 : 0 ≤ fr ∧ fr ≤ ci) : SpecX Tryd.prog 15 [.pointer (some ⟨b0, 0, none⟩), .int .u8 pb] [.blk b0 [.string text, .int .i64 ci, .int .i64 line, .int .i64 fr, .slice (rowA o0) l.length cap0, .int .i64 code], Rw o0 l cap0] (fun w => Vars w ∧ ∀ x ∈ l, Dat.ok x w) (fun v : Option Nat × Nat => Value.bool ((d_lex_cutter_piece text ci line fr l code pb).2.2.2.2.2.2)) (fun v => [.blk b0 [.string ((d_lex_cutter_piece text ci line fr l code pb).1), .int .i64 ((d_lex_cutter_piece text ci line fr l code pb).2.1), .int .i64 ((d_lex_cutter_piece text ci line fr l code pb).2.2.1), .int .i64 ((d_lex_cutter_piece text ci line fr l code pb).2.2.2.1), .slice (rowA v.1) ((d_lex_cutter_piece text ci line fr l code pb).2.2.2.2.1).length v.2, .int .i64 ((d_lex_cutter_piece text ci line fr l code pb).2.2.2.2.2.1)], Rw v.1 ((d_lex_cutter_piece text ci line fr l code pb).2.2.2.2.1) v.2]) (fun v w => ∀ x ∈ (d_lex_cutter_piece text ci line fr l code pb).2.2.2.2.1, Dat.ok x w) := by
  refine SpecX.enter Tryd.func15 rfl (n := 121) Tryd.ntmps15 (Nat.le_of_ble_eq_true rfl) (l := [(0, _, _), (1, _, _)]) rfl ?_
  intro S w
  have hb0 := lex_behind_rg (s := text) (i := ci) (by omega)
  have hb1 := lex_behind_rg (s := text) (i := ci + 1) (by omega)
  refine SC.seq (fun K1 hK1 => SC.region ?_)
  refine SL.step (PS.assign rfl tt rfl rfl) ?_
  refine SL.keep (l' := [(0, _, _), (1, _, _)]) ⟨rfl, rfl, trivial⟩ ?_
  refine SL.nil (SE.thenK hK1 (SC.seq (fun K2 hK2 => SC.block (SC.seq (fun K3 hK3 => SC.region ?_)))))
  refine SL.step (PS.move rfl tt rfl rfl) ?_
  refine SL.step (PS.eql rfl tt rfl tt rfl rfl) ?_
  refine SL.step (PS.move rfl tt rfl rfl) ?_
  refine SL.step (PS.move rfl tt rfl rfl) ?_
  refine SL.step (PS.eql rfl (fun h => h) rfl tt rfl rfl) ?_
  refine SL.step (PS.pick_or rfl tt rfl (fun h h2 => pk_or h h2) rfl rfl) ?_
  refine SL.step (PS.move rfl tt rfl rfl) ?_
  refine SL.step (PS.move rfl tt rfl rfl) ?_
  refine SL.step (PS.eql rfl (fun h => h) rfl tt rfl rfl) ?_
  refine SL.step (PS.pick_or rfl tt rfl (fun h h2 => pk_or h h2) rfl rfl) ?_
  refine SL.step (PS.move rfl tt rfl rfl) ?_
  refine SL.step (PS.move rfl tt rfl rfl) ?_
  refine SL.step (PS.eql rfl (fun h => h) rfl tt rfl rfl) ?_
  refine SL.step (PS.pick_or rfl tt rfl (fun h h2 => pk_or h h2) rfl rfl) ?_
  refine SL.step (PS.move rfl tt rfl rfl) ?_
  refine SL.step (PS.move rfl tt rfl rfl) ?_
  refine SL.step (PS.eql rfl (fun h => h) rfl tt rfl rfl) ?_
  refine SL.step (PS.pick_or rfl tt rfl (fun h h2 => pk_or h h2) rfl rfl) ?_
  refine SL.step (PS.assign rfl tt rfl rfl) ?_
  refine SL.keep (l' := [(8, _, _), (0, _, _), (1, _, _)]) ⟨rfl, rfl, rfl, trivial⟩ ?_
  refine SL.nil (SE.thenK hK3 ?_)
  refine SC.cond rfl (fun c8 => ?_) (fun c8 => ?_)
  ·
   have c8n := c8
   try simp only [Bool.and_eq_true, Bool.or_eq_true, decide_eq_true_eq, Bool.true_and, Bool.not_eq_true', Bool.not_eq_false', beq_iff_eq, bne_iff_ne, decide_eq_false_iff_not, beq_eq_false_iff_ne, bne_eq_false_iff_eq, ne_eq, Bool.or_eq_false_iff, Bool.and_eq_false_iff] at c8n
   refine SC.draw (S := SP _ _ _) 10 (by kernel_rfl) (by kernel_rfl) (fun _ h => h) ?_
   refine SD.take 0 rfl rfl (by kernel_rfl) (PS.move rfl tt rfl rfl) ?_
   refine SD.take 1 rfl rfl (by kernel_rfl) (PS.move rfl tt rfl rfl) ?_
   refine SD.take 2 rfl rfl (by kernel_rfl) (PS.nilCheck rfl tt rfl rfl) ?_
   refine SD.take 3 rfl rfl (by kernel_rfl) (PS.fieldAddr rfl tt Tryd.fieldAt_39_1 rfl rfl) ?_
   refine SD.take 4 rfl rfl (by kernel_rfl) (PS.load_own (k := 0) rfl tt rfl rfl rfl Tryd.isAgg3 rfl rfl) ?_
   refine SD.take 5 rfl rfl (by kernel_rfl) (PS.move rfl tt rfl rfl) ?_
   refine SD.take 6 rfl rfl (by kernel_rfl) (PS.nilCheck rfl tt rfl rfl) ?_
   refine SD.take 7 rfl rfl (by kernel_rfl) (PS.fieldAddr rfl tt Tryd.fieldAt_39_1 rfl rfl) ?_
   refine SD.take 8 rfl rfl (by kernel_rfl) (PS.load_own (k := 0) rfl tt rfl rfl rfl Tryd.isAgg3 rfl rfl) ?_
   refine SD.take 9 rfl rfl (by kernel_rfl) (PS.add_in rfl tt rfl tt (fun _ => wr_i64 (by omega)) rfl rfl) ?_
   refine SD.tail (by kernel_rfl) (os := [_]) rfl ?_
   refine SL.callX (vs := [_, _, _, _]) (rs := [_, _]) (own' := []) (List.Perm.refl _) Tryd.call14 ⟨⟨_, rfl, tt⟩, ⟨_, rfl, tt⟩, ⟨_, rfl, tt⟩, ⟨_, rfl, tt⟩, trivial⟩ (lex_cutter_put_X b0 o0 cap0 text ci line fr l code 5 ci (ci + 1) (by omega) (by omega) (by omega) (by omega)) (fun w h => (h.2)) rfl rfl (fun x37 => ?_)
   obtain ⟨o37, c37⟩ := x37
   refine SL.keep (l' := []) trivial ?_
   refine SL.nil (SE.calm (SE.block_normal (SE.thenK hK2 (SC.seq (fun K4 hK4 => SC.region ?_)))))
   refine SL.step (PS.assign rfl tt rfl rfl) ?_
   refine SL.nil (SE.thenK hK4 (SC.ret ?_))
   exact finX (rs := [.blk b0 [.string text, .int .i64 ci, .int .i64 line, .int .i64 fr, .slice (rowA o0) l.length cap0, .int .i64 code], Rw o0 l cap0]) (val := fun v : Option Nat × Nat => Value.bool ((d_lex_cutter_piece text ci line fr l code pb).2.2.2.2.2.2)) (rs' := fun v => [.blk b0 [.string ((d_lex_cutter_piece text ci line fr l code pb).1), .int .i64 ((d_lex_cutter_piece text ci line fr l code pb).2.1), .int .i64 ((d_lex_cutter_piece text ci line fr l code pb).2.2.1), .int .i64 ((d_lex_cutter_piece text ci line fr l code pb).2.2.2.1), .slice (rowA v.1) ((d_lex_cutter_piece text ci line fr l code pb).2.2.2.2.1).length v.2, .int .i64 ((d_lex_cutter_piece text ci line fr l code pb).2.2.2.2.2.1)], Rw v.1 ((d_lex_cutter_piece text ci line fr l code pb).2.2.2.2.1) v.2]) (Φ := fun v w => ∀ x ∈ (d_lex_cutter_piece text ci line fr l code pb).2.2.2.2.1, Dat.ok x w) (o37, c37) (congrArg (fun z : ByteArray × Int × Int × Int × List Tok × Int × Bool => Value.bool z.2.2.2.2.2.2) (show (d_lex_cutter_piece text ci line fr l code pb) = (((d_lex_cutter_put text ci line fr l code 5 ci (ci + 1)).1, (d_lex_cutter_put text ci line fr l code 5 ci (ci + 1)).2.1, (d_lex_cutter_put text ci line fr l code 5 ci (ci + 1)).2.2.1, (d_lex_cutter_put text ci line fr l code 5 ci (ci + 1)).2.2.2.1, (d_lex_cutter_put text ci line fr l code 5 ci (ci + 1)).2.2.2.2.1, (d_lex_cutter_put text ci line fr l code 5 ci (ci + 1)).2.2.2.2.2, true) : ByteArray × Int × Int × Int × List Tok × Int × Bool) from (bifT c8)).symm) (List.Perm.refl _) (run1 rfl rfl) (by rfl) (by rfl) ((congrArg (fun z : ByteArray × Int × Int × Int × List Tok × Int × Bool => List.Sublist [.blk b0 [.string z.1, .int .i64 z.2.1, .int .i64 z.2.2.1, .int .i64 z.2.2.2.1, .slice (rowA o37) (z.2.2.2.2.1).length c37, .int .i64 z.2.2.2.2.2.1], Rw o37 (z.2.2.2.2.1) c37] _) (show (d_lex_cutter_piece text ci line fr l code pb) = (((d_lex_cutter_put text ci line fr l code 5 ci (ci + 1)).1, (d_lex_cutter_put text ci line fr l code 5 ci (ci + 1)).2.1, (d_lex_cutter_put text ci line fr l code 5 ci (ci + 1)).2.2.1, (d_lex_cutter_put text ci line fr l code 5 ci (ci + 1)).2.2.2.1, (d_lex_cutter_put text ci line fr l code 5 ci (ci + 1)).2.2.2.2.1, (d_lex_cutter_put text ci line fr l code 5 ci (ci + 1)).2.2.2.2.2, true) : ByteArray × Int × Int × Int × List Tok × Int × Bool) from (bifT c8))).mpr (List.Sublist.cons_cons _ (List.Sublist.cons_cons _ List.Sublist.slnil))) (fun w h => (congrArg (fun z : ByteArray × Int × Int × Int × List Tok × Int × Bool => ∀ x ∈ z.2.2.2.2.1, Dat.ok x w) (show (d_lex_cutter_piece text ci line fr l code pb) = (((d_lex_cutter_put text ci line fr l code 5 ci (ci + 1)).1, (d_lex_cutter_put text ci line fr l code 5 ci (ci + 1)).2.1, (d_lex_cutter_put text ci line fr l code 5 ci (ci + 1)).2.2.1, (d_lex_cutter_put text ci line fr l code 5 ci (ci + 1)).2.2.2.1, (d_lex_cutter_put text ci line fr l code 5 ci (ci + 1)).2.2.2.2.1, (d_lex_cutter_put text ci line fr l code 5 ci (ci + 1)).2.2.2.2.2, true) : ByteArray × Int × Int × Int × List Tok × Int × Bool) from (bifT c8))).mpr (h.2))
  ·
   have c8n := c8
   try simp only [Bool.and_eq_true, Bool.or_eq_true, decide_eq_true_eq, Bool.true_and, Bool.not_eq_true', Bool.not_eq_false', beq_iff_eq, bne_iff_ne, decide_eq_false_iff_not, beq_eq_false_iff_ne, bne_eq_false_iff_eq, ne_eq, Bool.or_eq_false_iff, Bool.and_eq_false_iff] at c8n
   refine SC.seq (fun K5 hK5 => SC.region ?_)
   refine SL.step (PS.move rfl tt rfl rfl) ?_
   refine SL.callV (vs := [_]) Tryd.call17 ⟨⟨_, rfl, tt⟩, trivial⟩ (fun hg => lex_letter_V pb ) rfl rfl ?_
   refine SL.step (PS.assign rfl tt rfl rfl) ?_
   refine SL.keep (l' := [(38, _, _), (0, _, _), (1, _, _)]) ⟨rfl, rfl, rfl, trivial⟩ ?_
   refine SL.nil (SE.thenK hK5 ?_)
   refine SC.cond rfl (fun c38 => ?_) (fun c38 => ?_)
   ·
    have c38n := c38
    try simp only [Bool.and_eq_true, Bool.or_eq_true, decide_eq_true_eq, Bool.true_and, Bool.not_eq_true', Bool.not_eq_false', beq_iff_eq, bne_iff_ne, decide_eq_false_iff_not, beq_eq_false_iff_ne, bne_eq_false_iff_eq, ne_eq, Bool.or_eq_false_iff, Bool.and_eq_false_iff] at c38n
    refine SC.draw (S := SP _ _ _) 14 (by kernel_rfl) (by kernel_rfl) (fun _ h => h) ?_
    refine SD.take 0 rfl rfl (by kernel_rfl) (PS.move rfl tt rfl rfl) ?_
    refine SD.take 1 rfl rfl (by kernel_rfl) (PS.move rfl tt rfl rfl) ?_
    refine SD.take 2 rfl rfl (by kernel_rfl) (PS.nilCheck rfl tt rfl rfl) ?_
    refine SD.take 3 rfl rfl (by kernel_rfl) (PS.fieldAddr rfl tt Tryd.fieldAt_39_1 rfl rfl) ?_
    refine SD.take 4 rfl rfl (by kernel_rfl) (PS.load_own (k := 0) rfl tt rfl rfl rfl Tryd.isAgg3 rfl rfl) ?_
    refine SD.take 5 rfl rfl (by kernel_rfl) (PS.move rfl tt rfl rfl) ?_
    refine SD.take 6 rfl rfl (by kernel_rfl) (PS.nilCheck rfl tt rfl rfl) ?_
    refine SD.take 7 rfl rfl (by kernel_rfl) (PS.fieldAddr rfl tt Tryd.fieldAt_39_0 rfl rfl) ?_
    refine SD.take 8 rfl rfl (by kernel_rfl) (PS.load_own (k := 0) rfl tt rfl rfl rfl Tryd.isAgg9 rfl rfl) ?_
    refine SD.take 9 rfl rfl (by kernel_rfl) (PS.move rfl tt rfl rfl) ?_
    refine SD.take 10 rfl rfl (by kernel_rfl) (PS.nilCheck rfl tt rfl rfl) ?_
    refine SD.take 11 rfl rfl (by kernel_rfl) (PS.fieldAddr rfl tt Tryd.fieldAt_39_1 rfl rfl) ?_
    refine SD.take 12 rfl rfl (by kernel_rfl) (PS.load_own (k := 0) rfl tt rfl rfl rfl Tryd.isAgg3 rfl rfl) ?_
    refine SD.one 13 rfl (by kernel_rfl) (fun inv13 => ?_)
    refine SL.callV (vs := [_, _]) Tryd.call18 ⟨⟨_, rfl, tt⟩, ⟨_, rfl, tt⟩, trivial⟩ (fun hg => lex_behind_V text ci (by omega) (by omega)) rfl rfl ?_
    refine SL.nil ?_
    refine SE.next (fun _ h => h.drop (List.Sublist.refl _) (fun _ h => h)) inv13 ?_
    clear inv13
    refine SD.tail (by kernel_rfl) (os := [_]) rfl ?_
    refine SL.callX (vs := [_, _, _, _]) (rs := [_, _]) (own' := []) (List.Perm.refl _) Tryd.call14 ⟨⟨_, rfl, tt⟩, ⟨_, rfl, tt⟩, ⟨_, rfl, tt⟩, ⟨_, rfl, tt⟩, trivial⟩ (lex_cutter_put_X b0 o0 cap0 text ci line fr l code 1 ci (d_lex_behind text ci) (by omega) (by omega) (by omega) (by omega)) (fun w h => (h.2)) rfl rfl (fun x55 => ?_)
    obtain ⟨o55, c55⟩ := x55
    refine SL.keep (l' := []) trivial ?_
    refine SL.nil (SE.calm (SE.block_normal (SE.thenK hK2 (SC.seq (fun K6 hK6 => SC.region ?_)))))
    refine SL.step (PS.assign rfl tt rfl rfl) ?_
    refine SL.nil (SE.thenK hK6 (SC.ret ?_))
    exact finX (rs := [.blk b0 [.string text, .int .i64 ci, .int .i64 line, .int .i64 fr, .slice (rowA o0) l.length cap0, .int .i64 code], Rw o0 l cap0]) (val := fun v : Option Nat × Nat => Value.bool ((d_lex_cutter_piece text ci line fr l code pb).2.2.2.2.2.2)) (rs' := fun v => [.blk b0 [.string ((d_lex_cutter_piece text ci line fr l code pb).1), .int .i64 ((d_lex_cutter_piece text ci line fr l code pb).2.1), .int .i64 ((d_lex_cutter_piece text ci line fr l code pb).2.2.1), .int .i64 ((d_lex_cutter_piece text ci line fr l code pb).2.2.2.1), .slice (rowA v.1) ((d_lex_cutter_piece text ci line fr l code pb).2.2.2.2.1).length v.2, .int .i64 ((d_lex_cutter_piece text ci line fr l code pb).2.2.2.2.2.1)], Rw v.1 ((d_lex_cutter_piece text ci line fr l code pb).2.2.2.2.1) v.2]) (Φ := fun v w => ∀ x ∈ (d_lex_cutter_piece text ci line fr l code pb).2.2.2.2.1, Dat.ok x w) (o55, c55) (congrArg (fun z : ByteArray × Int × Int × Int × List Tok × Int × Bool => Value.bool z.2.2.2.2.2.2) (show (d_lex_cutter_piece text ci line fr l code pb) = (((d_lex_cutter_put text ci line fr l code 1 ci (d_lex_behind text ci)).1, (d_lex_cutter_put text ci line fr l code 1 ci (d_lex_behind text ci)).2.1, (d_lex_cutter_put text ci line fr l code 1 ci (d_lex_behind text ci)).2.2.1, (d_lex_cutter_put text ci line fr l code 1 ci (d_lex_behind text ci)).2.2.2.1, (d_lex_cutter_put text ci line fr l code 1 ci (d_lex_behind text ci)).2.2.2.2.1, (d_lex_cutter_put text ci line fr l code 1 ci (d_lex_behind text ci)).2.2.2.2.2, true) : ByteArray × Int × Int × Int × List Tok × Int × Bool) from ((bifF c8).trans (bifT c38))).symm) (List.Perm.refl _) (run1 rfl rfl) (by rfl) (by rfl) ((congrArg (fun z : ByteArray × Int × Int × Int × List Tok × Int × Bool => List.Sublist [.blk b0 [.string z.1, .int .i64 z.2.1, .int .i64 z.2.2.1, .int .i64 z.2.2.2.1, .slice (rowA o55) (z.2.2.2.2.1).length c55, .int .i64 z.2.2.2.2.2.1], Rw o55 (z.2.2.2.2.1) c55] _) (show (d_lex_cutter_piece text ci line fr l code pb) = (((d_lex_cutter_put text ci line fr l code 1 ci (d_lex_behind text ci)).1, (d_lex_cutter_put text ci line fr l code 1 ci (d_lex_behind text ci)).2.1, (d_lex_cutter_put text ci line fr l code 1 ci (d_lex_behind text ci)).2.2.1, (d_lex_cutter_put text ci line fr l code 1 ci (d_lex_behind text ci)).2.2.2.1, (d_lex_cutter_put text ci line fr l code 1 ci (d_lex_behind text ci)).2.2.2.2.1, (d_lex_cutter_put text ci line fr l code 1 ci (d_lex_behind text ci)).2.2.2.2.2, true) : ByteArray × Int × Int × Int × List Tok × Int × Bool) from ((bifF c8).trans (bifT c38)))).mpr (List.Sublist.cons_cons _ (List.Sublist.cons_cons _ List.Sublist.slnil))) (fun w h => (congrArg (fun z : ByteArray × Int × Int × Int × List Tok × Int × Bool => ∀ x ∈ z.2.2.2.2.1, Dat.ok x w) (show (d_lex_cutter_piece text ci line fr l code pb) = (((d_lex_cutter_put text ci line fr l code 1 ci (d_lex_behind text ci)).1, (d_lex_cutter_put text ci line fr l code 1 ci (d_lex_behind text ci)).2.1, (d_lex_cutter_put text ci line fr l code 1 ci (d_lex_behind text ci)).2.2.1, (d_lex_cutter_put text ci line fr l code 1 ci (d_lex_behind text ci)).2.2.2.1, (d_lex_cutter_put text ci line fr l code 1 ci (d_lex_behind text ci)).2.2.2.2.1, (d_lex_cutter_put text ci line fr l code 1 ci (d_lex_behind text ci)).2.2.2.2.2, true) : ByteArray × Int × Int × Int × List Tok × Int × Bool) from ((bifF c8).trans (bifT c38)))).mpr (h.2))
   ·
    have c38n := c38
    try simp only [Bool.and_eq_true, Bool.or_eq_true, decide_eq_true_eq, Bool.true_and, Bool.not_eq_true', Bool.not_eq_false', beq_iff_eq, bne_iff_ne, decide_eq_false_iff_not, beq_eq_false_iff_ne, bne_eq_false_iff_eq, ne_eq, Bool.or_eq_false_iff, Bool.and_eq_false_iff] at c38n
    refine SC.seq (fun K7 hK7 => SC.region ?_)
    refine SL.step (PS.move rfl tt rfl rfl) ?_
    refine SL.callV (vs := [_]) Tryd.call20 ⟨⟨_, rfl, tt⟩, trivial⟩ (fun hg => lex_digit_V pb ) rfl rfl ?_
    refine SL.step (PS.assign rfl tt rfl rfl) ?_
    refine SL.keep (l' := [(56, _, _), (0, _, _), (1, _, _)]) ⟨rfl, rfl, rfl, trivial⟩ ?_
    refine SL.nil (SE.thenK hK7 ?_)
    refine SC.cond rfl (fun c56 => ?_) (fun c56 => ?_)
    ·
     have c56n := c56
     try simp only [Bool.and_eq_true, Bool.or_eq_true, decide_eq_true_eq, Bool.true_and, Bool.not_eq_true', Bool.not_eq_false', beq_iff_eq, bne_iff_ne, decide_eq_false_iff_not, beq_eq_false_iff_ne, bne_eq_false_iff_eq, ne_eq, Bool.or_eq_false_iff, Bool.and_eq_false_iff] at c56n
     refine SC.seq (fun K8 hK8 => SC.region ?_)
     refine SL.step (PS.move rfl tt rfl rfl) ?_
     refine SL.step (PS.move rfl tt rfl rfl) ?_
     refine SL.step (PS.nilCheck rfl tt rfl rfl) ?_
     refine SL.step (PS.fieldAddr rfl tt Tryd.fieldAt_39_1 rfl rfl) ?_
     refine SL.step (PS.load_own (k := 0) rfl tt rfl rfl rfl Tryd.isAgg3 rfl rfl) ?_
     refine SL.callX (vs := [_, _, _, _]) (rs := [_, _]) (own' := []) (List.Perm.refl _) Tryd.call21 ⟨⟨_, rfl, tt⟩, ⟨_, rfl, tt⟩, ⟨_, rfl, tt⟩, ⟨_, rfl, tt⟩, trivial⟩ (lex_cutter_number_X b0 o0 cap0 text ci line fr l code 2 ci 18446744073709551615 (by omega) (by omega) (by omega) (by omega)) (fun w h => ⟨(h.1), (h.2)⟩) rfl rfl (fun x64 => ?_)
     obtain ⟨o64, c64⟩ := x64
     refine SL.step (PS.assign rfl tt rfl rfl) ?_
     refine SL.keep (l' := [(4, _, _)]) ⟨rfl, trivial⟩ ?_
     refine SL.nil (SE.thenK hK8 (SC.ret (SE.block_ret (SE.then_ret ?_))))
     exact finX (rs := [.blk b0 [.string text, .int .i64 ci, .int .i64 line, .int .i64 fr, .slice (rowA o0) l.length cap0, .int .i64 code], Rw o0 l cap0]) (val := fun v : Option Nat × Nat => Value.bool ((d_lex_cutter_piece text ci line fr l code pb).2.2.2.2.2.2)) (rs' := fun v => [.blk b0 [.string ((d_lex_cutter_piece text ci line fr l code pb).1), .int .i64 ((d_lex_cutter_piece text ci line fr l code pb).2.1), .int .i64 ((d_lex_cutter_piece text ci line fr l code pb).2.2.1), .int .i64 ((d_lex_cutter_piece text ci line fr l code pb).2.2.2.1), .slice (rowA v.1) ((d_lex_cutter_piece text ci line fr l code pb).2.2.2.2.1).length v.2, .int .i64 ((d_lex_cutter_piece text ci line fr l code pb).2.2.2.2.2.1)], Rw v.1 ((d_lex_cutter_piece text ci line fr l code pb).2.2.2.2.1) v.2]) (Φ := fun v w => ∀ x ∈ (d_lex_cutter_piece text ci line fr l code pb).2.2.2.2.1, Dat.ok x w) (o64, c64) (congrArg (fun z : ByteArray × Int × Int × Int × List Tok × Int × Bool => Value.bool z.2.2.2.2.2.2) (show (d_lex_cutter_piece text ci line fr l code pb) = (((d_lex_cutter_number text ci line fr l code 2 ci 18446744073709551615).1, (d_lex_cutter_number text ci line fr l code 2 ci 18446744073709551615).2.1, (d_lex_cutter_number text ci line fr l code 2 ci 18446744073709551615).2.2.1, (d_lex_cutter_number text ci line fr l code 2 ci 18446744073709551615).2.2.2.1, (d_lex_cutter_number text ci line fr l code 2 ci 18446744073709551615).2.2.2.2.1, (d_lex_cutter_number text ci line fr l code 2 ci 18446744073709551615).2.2.2.2.2.1, (d_lex_cutter_number text ci line fr l code 2 ci 18446744073709551615).2.2.2.2.2.2) : ByteArray × Int × Int × Int × List Tok × Int × Bool) from ((bifF c8).trans ((bifF c38).trans (bifT c56)))).symm) (List.Perm.refl _) (run1 rfl rfl) (by rfl) (by rfl) ((congrArg (fun z : ByteArray × Int × Int × Int × List Tok × Int × Bool => List.Sublist [.blk b0 [.string z.1, .int .i64 z.2.1, .int .i64 z.2.2.1, .int .i64 z.2.2.2.1, .slice (rowA o64) (z.2.2.2.2.1).length c64, .int .i64 z.2.2.2.2.2.1], Rw o64 (z.2.2.2.2.1) c64] _) (show (d_lex_cutter_piece text ci line fr l code pb) = (((d_lex_cutter_number text ci line fr l code 2 ci 18446744073709551615).1, (d_lex_cutter_number text ci line fr l code 2 ci 18446744073709551615).2.1, (d_lex_cutter_number text ci line fr l code 2 ci 18446744073709551615).2.2.1, (d_lex_cutter_number text ci line fr l code 2 ci 18446744073709551615).2.2.2.1, (d_lex_cutter_number text ci line fr l code 2 ci 18446744073709551615).2.2.2.2.1, (d_lex_cutter_number text ci line fr l code 2 ci 18446744073709551615).2.2.2.2.2.1, (d_lex_cutter_number text ci line fr l code 2 ci 18446744073709551615).2.2.2.2.2.2) : ByteArray × Int × Int × Int × List Tok × Int × Bool) from ((bifF c8).trans ((bifF c38).trans (bifT c56))))).mpr (List.Sublist.cons_cons _ (List.Sublist.cons_cons _ List.Sublist.slnil))) (fun w h => (congrArg (fun z : ByteArray × Int × Int × Int × List Tok × Int × Bool => ∀ x ∈ z.2.2.2.2.1, Dat.ok x w) (show (d_lex_cutter_piece text ci line fr l code pb) = (((d_lex_cutter_number text ci line fr l code 2 ci 18446744073709551615).1, (d_lex_cutter_number text ci line fr l code 2 ci 18446744073709551615).2.1, (d_lex_cutter_number text ci line fr l code 2 ci 18446744073709551615).2.2.1, (d_lex_cutter_number text ci line fr l code 2 ci 18446744073709551615).2.2.2.1, (d_lex_cutter_number text ci line fr l code 2 ci 18446744073709551615).2.2.2.2.1, (d_lex_cutter_number text ci line fr l code 2 ci 18446744073709551615).2.2.2.2.2.1, (d_lex_cutter_number text ci line fr l code 2 ci 18446744073709551615).2.2.2.2.2.2) : ByteArray × Int × Int × Int × List Tok × Int × Bool) from ((bifF c8).trans ((bifF c38).trans (bifT c56))))).mpr (h.2))
    ·
     have c56n := c56
     try simp only [Bool.and_eq_true, Bool.or_eq_true, decide_eq_true_eq, Bool.true_and, Bool.not_eq_true', Bool.not_eq_false', beq_iff_eq, bne_iff_ne, decide_eq_false_iff_not, beq_eq_false_iff_ne, bne_eq_false_iff_eq, ne_eq, Bool.or_eq_false_iff, Bool.and_eq_false_iff] at c56n
     refine SC.seq (fun K9 hK9 => SC.region ?_)
     refine SL.step (PS.move rfl tt rfl rfl) ?_
     refine SL.step (PS.eql rfl tt rfl tt rfl rfl) ?_
     refine SL.step (PS.assign rfl tt rfl rfl) ?_
     refine SL.keep (l' := [(65, _, _), (0, _, _), (1, _, _)]) ⟨rfl, rfl, rfl, trivial⟩ ?_
     refine SL.nil (SE.thenK hK9 ?_)
     refine SC.cond rfl (fun c65 => ?_) (fun c65 => ?_)
     ·
      have c65n := c65
      try simp only [Bool.and_eq_true, Bool.or_eq_true, decide_eq_true_eq, Bool.true_and, Bool.not_eq_true', Bool.not_eq_false', beq_iff_eq, bne_iff_ne, decide_eq_false_iff_not, beq_eq_false_iff_ne, bne_eq_false_iff_eq, ne_eq, Bool.or_eq_false_iff, Bool.and_eq_false_iff] at c65n
      refine SC.seq (fun K10 hK10 => SC.region ?_)
      refine SL.step (PS.move rfl tt rfl rfl) ?_
      refine SL.step (PS.move rfl tt rfl rfl) ?_
      refine SL.step (PS.nilCheck rfl tt rfl rfl) ?_
      refine SL.step (PS.fieldAddr rfl tt Tryd.fieldAt_39_1 rfl rfl) ?_
      refine SL.step (PS.load_own (k := 0) rfl tt rfl rfl rfl Tryd.isAgg3 rfl rfl) ?_
      refine SL.step (PS.add_in rfl tt rfl tt (fun _ => wr_i64 (by omega)) rfl rfl) ?_
      refine SL.callX (vs := [_, _, _, _]) (rs := [_, _]) (own' := []) (List.Perm.refl _) Tryd.call21 ⟨⟨_, rfl, tt⟩, ⟨_, rfl, tt⟩, ⟨_, rfl, tt⟩, ⟨_, rfl, tt⟩, trivial⟩ (lex_cutter_number_X b0 o0 cap0 text ci line fr l code 3 (ci + 1) 4095 (by omega) (by omega) (by omega) (by omega)) (fun w h => ⟨(h.1), (h.2)⟩) rfl rfl (fun x74 => ?_)
      obtain ⟨o74, c74⟩ := x74
      refine SL.step (PS.assign rfl tt rfl rfl) ?_
      refine SL.keep (l' := [(4, _, _)]) ⟨rfl, trivial⟩ ?_
      refine SL.nil (SE.thenK hK10 (SC.ret (SE.block_ret (SE.then_ret ?_))))
      exact finX (rs := [.blk b0 [.string text, .int .i64 ci, .int .i64 line, .int .i64 fr, .slice (rowA o0) l.length cap0, .int .i64 code], Rw o0 l cap0]) (val := fun v : Option Nat × Nat => Value.bool ((d_lex_cutter_piece text ci line fr l code pb).2.2.2.2.2.2)) (rs' := fun v => [.blk b0 [.string ((d_lex_cutter_piece text ci line fr l code pb).1), .int .i64 ((d_lex_cutter_piece text ci line fr l code pb).2.1), .int .i64 ((d_lex_cutter_piece text ci line fr l code pb).2.2.1), .int .i64 ((d_lex_cutter_piece text ci line fr l code pb).2.2.2.1), .slice (rowA v.1) ((d_lex_cutter_piece text ci line fr l code pb).2.2.2.2.1).length v.2, .int .i64 ((d_lex_cutter_piece text ci line fr l code pb).2.2.2.2.2.1)], Rw v.1 ((d_lex_cutter_piece text ci line fr l code pb).2.2.2.2.1) v.2]) (Φ := fun v w => ∀ x ∈ (d_lex_cutter_piece text ci line fr l code pb).2.2.2.2.1, Dat.ok x w) (o74, c74) (congrArg (fun z : ByteArray × Int × Int × Int × List Tok × Int × Bool => Value.bool z.2.2.2.2.2.2) (show (d_lex_cutter_piece text ci line fr l code pb) = (((d_lex_cutter_number text ci line fr l code 3 (ci + 1) 4095).1, (d_lex_cutter_number text ci line fr l code 3 (ci + 1) 4095).2.1, (d_lex_cutter_number text ci line fr l code 3 (ci + 1) 4095).2.2.1, (d_lex_cutter_number text ci line fr l code 3 (ci + 1) 4095).2.2.2.1, (d_lex_cutter_number text ci line fr l code 3 (ci + 1) 4095).2.2.2.2.1, (d_lex_cutter_number text ci line fr l code 3 (ci + 1) 4095).2.2.2.2.2.1, (d_lex_cutter_number text ci line fr l code 3 (ci + 1) 4095).2.2.2.2.2.2) : ByteArray × Int × Int × Int × List Tok × Int × Bool) from ((bifF c8).trans ((bifF c38).trans ((bifF c56).trans (bifT c65))))).symm) (List.Perm.refl _) (run1 rfl rfl) (by rfl) (by rfl) ((congrArg (fun z : ByteArray × Int × Int × Int × List Tok × Int × Bool => List.Sublist [.blk b0 [.string z.1, .int .i64 z.2.1, .int .i64 z.2.2.1, .int .i64 z.2.2.2.1, .slice (rowA o74) (z.2.2.2.2.1).length c74, .int .i64 z.2.2.2.2.2.1], Rw o74 (z.2.2.2.2.1) c74] _) (show (d_lex_cutter_piece text ci line fr l code pb) = (((d_lex_cutter_number text ci line fr l code 3 (ci + 1) 4095).1, (d_lex_cutter_number text ci line fr l code 3 (ci + 1) 4095).2.1, (d_lex_cutter_number text ci line fr l code 3 (ci + 1) 4095).2.2.1, (d_lex_cutter_number text ci line fr l code 3 (ci + 1) 4095).2.2.2.1, (d_lex_cutter_number text ci line fr l code 3 (ci + 1) 4095).2.2.2.2.1, (d_lex_cutter_number text ci line fr l code 3 (ci + 1) 4095).2.2.2.2.2.1, (d_lex_cutter_number text ci line fr l code 3 (ci + 1) 4095).2.2.2.2.2.2) : ByteArray × Int × Int × Int × List Tok × Int × Bool) from ((bifF c8).trans ((bifF c38).trans ((bifF c56).trans (bifT c65)))))).mpr (List.Sublist.cons_cons _ (List.Sublist.cons_cons _ List.Sublist.slnil))) (fun w h => (congrArg (fun z : ByteArray × Int × Int × Int × List Tok × Int × Bool => ∀ x ∈ z.2.2.2.2.1, Dat.ok x w) (show (d_lex_cutter_piece text ci line fr l code pb) = (((d_lex_cutter_number text ci line fr l code 3 (ci + 1) 4095).1, (d_lex_cutter_number text ci line fr l code 3 (ci + 1) 4095).2.1, (d_lex_cutter_number text ci line fr l code 3 (ci + 1) 4095).2.2.1, (d_lex_cutter_number text ci line fr l code 3 (ci + 1) 4095).2.2.2.1, (d_lex_cutter_number text ci line fr l code 3 (ci + 1) 4095).2.2.2.2.1, (d_lex_cutter_number text ci line fr l code 3 (ci + 1) 4095).2.2.2.2.2.1, (d_lex_cutter_number text ci line fr l code 3 (ci + 1) 4095).2.2.2.2.2.2) : ByteArray × Int × Int × Int × List Tok × Int × Bool) from ((bifF c8).trans ((bifF c38).trans ((bifF c56).trans (bifT c65)))))).mpr (h.2))
     ·
      have c65n := c65
      try simp only [Bool.and_eq_true, Bool.or_eq_true, decide_eq_true_eq, Bool.true_and, Bool.not_eq_true', Bool.not_eq_false', beq_iff_eq, bne_iff_ne, decide_eq_false_iff_not, beq_eq_false_iff_ne, bne_eq_false_iff_eq, ne_eq, Bool.or_eq_false_iff, Bool.and_eq_false_iff] at c65n
      refine SC.seq (fun K11 hK11 => ?_)
      refine SC.draw (S := SP _ _ _) 29 (by kernel_rfl) (by kernel_rfl) (fun _ h => h) ?_
      refine SD.take 0 rfl rfl (by kernel_rfl) (PS.move rfl tt rfl rfl) ?_
      refine SD.take 1 rfl rfl (by kernel_rfl) (PS.eql rfl tt rfl tt rfl rfl) ?_
      refine SD.take 2 rfl rfl (by kernel_rfl) (PS.move rfl tt rfl rfl) ?_
      refine SD.take 3 rfl rfl (by kernel_rfl) (PS.move rfl tt rfl rfl) ?_
      refine SD.take 4 rfl rfl (by kernel_rfl) (PS.nilCheck rfl (fun h => h) rfl rfl) ?_
      refine SD.take 5 rfl rfl (by kernel_rfl) (PS.fieldAddr rfl (fun h => h) Tryd.fieldAt_39_1 rfl rfl) ?_
      refine SD.take 6 rfl rfl (by kernel_rfl) (PS.load_own (k := 0) rfl (fun h => h) rfl rfl rfl Tryd.isAgg3 rfl rfl) ?_
      refine SD.take 7 rfl rfl (by kernel_rfl) (PS.add_in rfl (fun h => h) rfl tt (fun _ => wr_i64 (by omega)) rfl rfl) ?_
      refine SD.take 8 rfl rfl (by kernel_rfl) (PS.move rfl tt rfl rfl) ?_
      refine SD.take 9 rfl rfl (by kernel_rfl) (PS.nilCheck rfl (fun h => h) rfl rfl) ?_
      refine SD.take 10 rfl rfl (by kernel_rfl) (PS.fieldAddr rfl (fun h => h) Tryd.fieldAt_39_0 rfl rfl) ?_
      refine SD.take 11 rfl rfl (by kernel_rfl) (PS.load_own (k := 0) rfl (fun h => h) rfl rfl rfl Tryd.isAgg9 rfl rfl) ?_
      refine SD.take 12 rfl rfl (by kernel_rfl) (PS.len_string rfl (fun h => h) Tryd.underlying9 rfl rfl) ?_
      refine SD.take 13 rfl rfl (by kernel_rfl) (PS.lss rfl (fun h => h) rfl (fun h => h) rfl rfl) ?_
      refine SD.take 14 rfl rfl (by kernel_rfl) (PS.pick_and rfl tt rfl (fun h h2 => pk_and h h2) rfl rfl) ?_
      refine SD.take 15 rfl rfl (by kernel_rfl) (PS.move rfl tt rfl rfl) ?_
      refine SD.take 16 rfl rfl (by kernel_rfl) (PS.move rfl tt rfl rfl) ?_
      refine SD.take 17 rfl rfl (by kernel_rfl) (PS.nilCheck rfl (fun h => h) rfl rfl) ?_
      refine SD.take 18 rfl rfl (by kernel_rfl) (PS.fieldAddr rfl (fun h => h) Tryd.fieldAt_39_0 rfl rfl) ?_
      refine SD.take 19 rfl rfl (by kernel_rfl) (PS.load_own (k := 0) rfl (fun h => h) rfl rfl rfl Tryd.isAgg9 rfl rfl) ?_
      refine SD.take 20 rfl rfl (by kernel_rfl) (PS.move rfl tt rfl rfl) ?_
      refine SD.take 21 rfl rfl (by kernel_rfl) (PS.nilCheck rfl (fun h => h) rfl rfl) ?_
      refine SD.take 22 rfl rfl (by kernel_rfl) (PS.fieldAddr rfl (fun h => h) Tryd.fieldAt_39_1 rfl rfl) ?_
      refine SD.take 23 rfl rfl (by kernel_rfl) (PS.load_own (k := 0) rfl (fun h => h) rfl rfl rfl Tryd.isAgg3 rfl rfl) ?_
      refine SD.take 24 rfl rfl (by kernel_rfl) (PS.add_in rfl (fun h => h) rfl tt (fun _ => wr_i64 (by omega)) rfl rfl) ?_
      refine SD.take 25 rfl rfl (by kernel_rfl) (PS.indexStr rfl (fun h => h) rfl (fun h => h) Tryd.underlying9 (fun hg => by first | omega | (simp only [List.length_cons, List.length_nil]; omega) | (try simp only [Bool.and_eq_true, Bool.or_eq_true, decide_eq_true_eq, Bool.true_and, Bool.not_eq_true', beq_iff_eq, bne_iff_ne, decide_eq_false_iff_not, beq_eq_false_iff_ne, ne_eq] at hg; omega)) rfl rfl) ?_
      refine SD.one 26 rfl (by kernel_rfl) (fun inv26 => ?_)
      refine SL.callV (vs := [_]) Tryd.call17 ⟨⟨_, rfl, (fun h => h)⟩, trivial⟩ (fun hg => lex_letter_V (byteAt text (ci + 1)) ) rfl rfl ?_
      refine SL.nil ?_
      refine SE.next (fun _ h => h.drop (List.Sublist.refl _) (fun _ h => h)) inv26 ?_
      refine SD.take 27 rfl rfl (by kernel_rfl) (PS.pick_and rfl tt rfl (fun h h2 => pk_and h h2) rfl rfl) ?_
      refine SD.take 28 rfl rfl (by kernel_rfl) (PS.assign rfl tt rfl rfl) ?_
      clear inv26
      refine SD.tail (by kernel_rfl) (os := []) rfl ?_
      refine SL.keep (l' := [(75, _, _), (0, _, _)]) ⟨rfl, rfl, trivial⟩ ?_
      refine SL.nil (SE.calm (SE.thenK hK11 ?_))
      refine SC.cond rfl (fun c75 => ?_) (fun c75 => ?_)
      ·
       have c75n := c75
       try simp only [Bool.and_eq_true, Bool.or_eq_true, decide_eq_true_eq, Bool.true_and, Bool.not_eq_true', Bool.not_eq_false', beq_iff_eq, bne_iff_ne, decide_eq_false_iff_not, beq_eq_false_iff_ne, bne_eq_false_iff_eq, ne_eq, Bool.or_eq_false_iff, Bool.and_eq_false_iff] at c75n
       refine SC.draw (S := SP _ _ _) 16 (by kernel_rfl) (by kernel_rfl) (fun _ h => h) ?_
       refine SD.take 0 rfl rfl (by kernel_rfl) (PS.move rfl tt rfl rfl) ?_
       refine SD.take 1 rfl rfl (by kernel_rfl) (PS.move rfl tt rfl rfl) ?_
       refine SD.take 2 rfl rfl (by kernel_rfl) (PS.nilCheck rfl tt rfl rfl) ?_
       refine SD.take 3 rfl rfl (by kernel_rfl) (PS.fieldAddr rfl tt Tryd.fieldAt_39_1 rfl rfl) ?_
       refine SD.take 4 rfl rfl (by kernel_rfl) (PS.load_own (k := 0) rfl tt rfl rfl rfl Tryd.isAgg3 rfl rfl) ?_
       refine SD.take 5 rfl rfl (by kernel_rfl) (PS.add_in rfl tt rfl tt (fun _ => wr_i64 (by omega)) rfl rfl) ?_
       refine SD.take 6 rfl rfl (by kernel_rfl) (PS.move rfl tt rfl rfl) ?_
       refine SD.take 7 rfl rfl (by kernel_rfl) (PS.nilCheck rfl tt rfl rfl) ?_
       refine SD.take 8 rfl rfl (by kernel_rfl) (PS.fieldAddr rfl tt Tryd.fieldAt_39_0 rfl rfl) ?_
       refine SD.take 9 rfl rfl (by kernel_rfl) (PS.load_own (k := 0) rfl tt rfl rfl rfl Tryd.isAgg9 rfl rfl) ?_
       refine SD.take 10 rfl rfl (by kernel_rfl) (PS.move rfl tt rfl rfl) ?_
       refine SD.take 11 rfl rfl (by kernel_rfl) (PS.nilCheck rfl tt rfl rfl) ?_
       refine SD.take 12 rfl rfl (by kernel_rfl) (PS.fieldAddr rfl tt Tryd.fieldAt_39_1 rfl rfl) ?_
       refine SD.take 13 rfl rfl (by kernel_rfl) (PS.load_own (k := 0) rfl tt rfl rfl rfl Tryd.isAgg3 rfl rfl) ?_
       refine SD.take 14 rfl rfl (by kernel_rfl) (PS.add_in rfl tt rfl tt (fun _ => wr_i64 (by omega)) rfl rfl) ?_
       refine SD.one 15 rfl (by kernel_rfl) (fun inv15 => ?_)
       refine SL.callV (vs := [_, _]) Tryd.call18 ⟨⟨_, rfl, tt⟩, ⟨_, rfl, tt⟩, trivial⟩ (fun hg => lex_behind_V text (ci + 1) (by omega) (by omega)) rfl rfl ?_
       refine SL.nil ?_
       refine SE.next (fun _ h => h.drop (List.Sublist.refl _) (fun _ h => h)) inv15 ?_
       clear inv15
       refine SD.tail (by kernel_rfl) (os := [_]) rfl ?_
       refine SL.callX (vs := [_, _, _, _]) (rs := [_, _]) (own' := []) (List.Perm.refl _) Tryd.call14 ⟨⟨_, rfl, tt⟩, ⟨_, rfl, tt⟩, ⟨_, rfl, tt⟩, ⟨_, rfl, tt⟩, trivial⟩ (lex_cutter_put_X b0 o0 cap0 text ci line fr l code 4 (ci + 1) (d_lex_behind text (ci + 1)) (by omega) (by omega) (by omega) (by omega)) (fun w h => (h.2)) rfl rfl (fun x120 => ?_)
       obtain ⟨o120, c120⟩ := x120
       refine SL.keep (l' := []) trivial ?_
       refine SL.nil (SE.calm (SE.block_normal (SE.thenK hK2 (SC.seq (fun K12 hK12 => SC.region ?_)))))
       refine SL.step (PS.assign rfl tt rfl rfl) ?_
       refine SL.nil (SE.thenK hK12 (SC.ret ?_))
       exact finX (rs := [.blk b0 [.string text, .int .i64 ci, .int .i64 line, .int .i64 fr, .slice (rowA o0) l.length cap0, .int .i64 code], Rw o0 l cap0]) (val := fun v : Option Nat × Nat => Value.bool ((d_lex_cutter_piece text ci line fr l code pb).2.2.2.2.2.2)) (rs' := fun v => [.blk b0 [.string ((d_lex_cutter_piece text ci line fr l code pb).1), .int .i64 ((d_lex_cutter_piece text ci line fr l code pb).2.1), .int .i64 ((d_lex_cutter_piece text ci line fr l code pb).2.2.1), .int .i64 ((d_lex_cutter_piece text ci line fr l code pb).2.2.2.1), .slice (rowA v.1) ((d_lex_cutter_piece text ci line fr l code pb).2.2.2.2.1).length v.2, .int .i64 ((d_lex_cutter_piece text ci line fr l code pb).2.2.2.2.2.1)], Rw v.1 ((d_lex_cutter_piece text ci line fr l code pb).2.2.2.2.1) v.2]) (Φ := fun v w => ∀ x ∈ (d_lex_cutter_piece text ci line fr l code pb).2.2.2.2.1, Dat.ok x w) (o120, c120) (congrArg (fun z : ByteArray × Int × Int × Int × List Tok × Int × Bool => Value.bool z.2.2.2.2.2.2) (show (d_lex_cutter_piece text ci line fr l code pb) = (((d_lex_cutter_put text ci line fr l code 4 (ci + 1) (d_lex_behind text (ci + 1))).1, (d_lex_cutter_put text ci line fr l code 4 (ci + 1) (d_lex_behind text (ci + 1))).2.1, (d_lex_cutter_put text ci line fr l code 4 (ci + 1) (d_lex_behind text (ci + 1))).2.2.1, (d_lex_cutter_put text ci line fr l code 4 (ci + 1) (d_lex_behind text (ci + 1))).2.2.2.1, (d_lex_cutter_put text ci line fr l code 4 (ci + 1) (d_lex_behind text (ci + 1))).2.2.2.2.1, (d_lex_cutter_put text ci line fr l code 4 (ci + 1) (d_lex_behind text (ci + 1))).2.2.2.2.2, true) : ByteArray × Int × Int × Int × List Tok × Int × Bool) from ((bifF c8).trans ((bifF c38).trans ((bifF c56).trans ((bifF c65).trans (bifT c75)))))).symm) (List.Perm.refl _) (run1 rfl rfl) (by rfl) (by rfl) ((congrArg (fun z : ByteArray × Int × Int × Int × List Tok × Int × Bool => List.Sublist [.blk b0 [.string z.1, .int .i64 z.2.1, .int .i64 z.2.2.1, .int .i64 z.2.2.2.1, .slice (rowA o120) (z.2.2.2.2.1).length c120, .int .i64 z.2.2.2.2.2.1], Rw o120 (z.2.2.2.2.1) c120] _) (show (d_lex_cutter_piece text ci line fr l code pb) = (((d_lex_cutter_put text ci line fr l code 4 (ci + 1) (d_lex_behind text (ci + 1))).1, (d_lex_cutter_put text ci line fr l code 4 (ci + 1) (d_lex_behind text (ci + 1))).2.1, (d_lex_cutter_put text ci line fr l code 4 (ci + 1) (d_lex_behind text (ci + 1))).2.2.1, (d_lex_cutter_put text ci line fr l code 4 (ci + 1) (d_lex_behind text (ci + 1))).2.2.2.1, (d_lex_cutter_put text ci line fr l code 4 (ci + 1) (d_lex_behind text (ci + 1))).2.2.2.2.1, (d_lex_cutter_put text ci line fr l code 4 (ci + 1) (d_lex_behind text (ci + 1))).2.2.2.2.2, true) : ByteArray × Int × Int × Int × List Tok × Int × Bool) from ((bifF c8).trans ((bifF c38).trans ((bifF c56).trans ((bifF c65).trans (bifT c75))))))).mpr (List.Sublist.cons_cons _ (List.Sublist.cons_cons _ List.Sublist.slnil))) (fun w h => (congrArg (fun z : ByteArray × Int × Int × Int × List Tok × Int × Bool => ∀ x ∈ z.2.2.2.2.1, Dat.ok x w) (show (d_lex_cutter_piece text ci line fr l code pb) = (((d_lex_cutter_put text ci line fr l code 4 (ci + 1) (d_lex_behind text (ci + 1))).1, (d_lex_cutter_put text ci line fr l code 4 (ci + 1) (d_lex_behind text (ci + 1))).2.1, (d_lex_cutter_put text ci line fr l code 4 (ci + 1) (d_lex_behind text (ci + 1))).2.2.1, (d_lex_cutter_put text ci line fr l code 4 (ci + 1) (d_lex_behind text (ci + 1))).2.2.2.1, (d_lex_cutter_put text ci line fr l code 4 (ci + 1) (d_lex_behind text (ci + 1))).2.2.2.2.1, (d_lex_cutter_put text ci line fr l code 4 (ci + 1) (d_lex_behind text (ci + 1))).2.2.2.2.2, true) : ByteArray × Int × Int × Int × List Tok × Int × Bool) from ((bifF c8).trans ((bifF c38).trans ((bifF c56).trans ((bifF c65).trans (bifT c75))))))).mpr (h.2))
      ·
       refine SC.seq (fun K13 hK13 => SC.region ?_)
       refine SL.step (PS.move rfl tt rfl rfl) ?_
       refine SL.step (PS.nilCheck rfl tt rfl rfl) ?_
       refine SL.step (PS.fieldAddr rfl tt Tryd.fieldAt_39_5 rfl rfl) ?_
       refine SL.store_own (k := 0) (own' := [_, _]) (cs' := [_, _, _, _, _, _]) rfl rfl rfl rfl rfl rfl rfl Tryd.sizeOf24 rfl (Nat.le_of_ble_eq_true rfl) rfl rfl rfl rfl ?_
       refine SL.keep (l' := []) trivial ?_
       refine SL.nil (SE.thenK hK13 (SC.seq (fun K14 hK14 => SC.region ?_)))
       refine SL.step (PS.assign rfl tt rfl rfl) ?_
       refine SL.nil (SE.thenK hK14 (SC.ret (SE.block_ret (SE.then_ret ?_))))
       exact finX (rs := [.blk b0 [.string text, .int .i64 ci, .int .i64 line, .int .i64 fr, .slice (rowA o0) l.length cap0, .int .i64 code], Rw o0 l cap0]) (val := fun v : Option Nat × Nat => Value.bool ((d_lex_cutter_piece text ci line fr l code pb).2.2.2.2.2.2)) (rs' := fun v => [.blk b0 [.string ((d_lex_cutter_piece text ci line fr l code pb).1), .int .i64 ((d_lex_cutter_piece text ci line fr l code pb).2.1), .int .i64 ((d_lex_cutter_piece text ci line fr l code pb).2.2.1), .int .i64 ((d_lex_cutter_piece text ci line fr l code pb).2.2.2.1), .slice (rowA v.1) ((d_lex_cutter_piece text ci line fr l code pb).2.2.2.2.1).length v.2, .int .i64 ((d_lex_cutter_piece text ci line fr l code pb).2.2.2.2.2.1)], Rw v.1 ((d_lex_cutter_piece text ci line fr l code pb).2.2.2.2.1) v.2]) (Φ := fun v w => ∀ x ∈ (d_lex_cutter_piece text ci line fr l code pb).2.2.2.2.1, Dat.ok x w) (o0, cap0) (congrArg (fun z : ByteArray × Int × Int × Int × List Tok × Int × Bool => Value.bool z.2.2.2.2.2.2) (show (d_lex_cutter_piece text ci line fr l code pb) = ((text, ci, line, fr, l, 1, false) : ByteArray × Int × Int × Int × List Tok × Int × Bool) from ((bifF c8).trans ((bifF c38).trans ((bifF c56).trans ((bifF c65).trans (bifF c75)))))).symm) (List.Perm.refl _) (run1 rfl rfl) (by rfl) (by rfl) ((congrArg (fun z : ByteArray × Int × Int × Int × List Tok × Int × Bool => List.Sublist [.blk b0 [.string z.1, .int .i64 z.2.1, .int .i64 z.2.2.1, .int .i64 z.2.2.2.1, .slice (rowA o0) (z.2.2.2.2.1).length cap0, .int .i64 z.2.2.2.2.2.1], Rw o0 (z.2.2.2.2.1) cap0] _) (show (d_lex_cutter_piece text ci line fr l code pb) = ((text, ci, line, fr, l, 1, false) : ByteArray × Int × Int × Int × List Tok × Int × Bool) from ((bifF c8).trans ((bifF c38).trans ((bifF c56).trans ((bifF c65).trans (bifF c75))))))).mpr (List.Sublist.cons_cons _ (List.Sublist.cons_cons _ List.Sublist.slnil))) (fun w h => (congrArg (fun z : ByteArray × Int × Int × Int × List Tok × Int × Bool => ∀ x ∈ z.2.2.2.2.1, Dat.ok x w) (show (d_lex_cutter_piece text ci line fr l code pb) = ((text, ci, line, fr, l, 1, false) : ByteArray × Int × Int × Int × List Tok × Int × Bool) from ((bifF c8).trans ((bifF c38).trans ((bifF c56).trans ((bifF c65).trans (bifF c75))))))).mpr ((h.2)))
end Go.Proofs.YtjdiohhniiooeaaDoor
