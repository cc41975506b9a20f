/- The pieces of a text, handed over. -/
import Derived.Test.YtjdiohhniiooeaaDoorLexU
namespace Go.Proofs.YtjdiohhniiooeaaDoor
open Go.RowKit
set_option linter.unusedVariables false
set_option linter.unusedSimpArgs false
set_option maxRecDepth 100000
set_option maxHeartbeats 4000000
theorem SE.row0 {E : Env} {ex : Exit} {Q : Exit → Act → World → Prop} {l : Slots} {own : Own} {F : World → Prop} {α : Type} (sz : Nat) (cells : α → List Value) (K : SE E Q ex l (Res.row sz cells none ([] : List α) 0 :: own) F) : SE E Q ex l own F := ⟨fun a w ha hw => K.out a w ha hw.row0⟩
theorem finO {P : Program} {E : Env} {own : Own} {l : Slots} {F : World → Prop} {fn : Func} {D : Type} {val : D → Value} {rs' : D → Own} {Φ : D → World → Prop} {S : Nat → Prop} {u : Value} (x : D) (hu : u = val x) (hrun : ∀ a w, Has E.n l a → SP E own F w → (results fn a.tmps).run P w = .ok u w) (hS : E.S = S) (hX : E.X = Own.feet []) (hsub : (rs' x).Sublist own) (hv : ∀ w, F w → Φ x w) :
    SE E (bodyPost P fn fun e w' => ∃ v, e = .returned (val v) ∧ BelowX (Own.feet []) E.w0 w' ∧ (∀ r ∈ rs' v, r.ok w') ∧ (Own.feet (rs' v)).Nodup ∧
      (∀ k ∈ Own.feet (rs' v), (E.w0.heap.size ≤ k ∨ k ∈ Own.feet []) ∧ k < w'.heap.size) ∧ Rob (fun k => (S k ∨ E.w0.heap.size ≤ k ∨ k ∈ Own.feet []) ∧ k ∉ Own.feet (rs' v)) w' (Φ v)) .ret l own F :=
  finX (rs := []) x hu (List.Perm.refl _) hrun hS hX hsub hv
theorem all_app {α : Type} {p : α → Prop} {xs ys : List α} (h : ∀ x ∈ xs, p x) (h' : ∀ x ∈ ys, p x) : ∀ x ∈ xs ++ ys, p x := fun x hx => (List.mem_append.1 hx).elim (h x) (h' x)
theorem all_set {α : Type} {p : α → Prop} {xs : List α} {i : Nat} {y : α} (h : ∀ x ∈ xs, p x) (hy : p y) : ∀ x ∈ xs.set i y, p x := fun x hx => (List.mem_or_eq_of_mem_set hx).elim (h x) fun e => e ▸ hy
theorem tok_col {t : Tok} {c : Int} {w : World} (h : Dat.ok t w) : Dat.ok (⟨t.k, t.text, t.line, c⟩ : Tok) w := ⟨h.text⟩
theorem lex_Tokens_O (p0 : ByteArray)  : SpecX Tryd.prog 9 [.string p0] [] (fun w => Vars w) (fun v : Option Nat × Nat => Value.tuple #[.slice (rowA v.1) ((d_lex_Tokens p0).1).length v.2, Value.agg [.int .i64 (((d_lex_Tokens p0).2).code), .int .i64 (((d_lex_Tokens p0).2).line), .int .i64 (((d_lex_Tokens p0).2).col)].toArray]) (fun v => [Rw v.1 ((d_lex_Tokens p0).1) v.2]) (fun v w => ((d_lex_Tokens p0).1).length ≤ 9223372036854775807 ∧ ∀ x ∈ (d_lex_Tokens p0).1, Dat.ok x w) := by
  refine SpecX.enter Tryd.func9 rfl (n := 132) Tryd.ntmps9 (Nat.le_of_ble_eq_true rfl) (l := [(0, _, _)]) rfl ?_
  intro S w
  refine SC.seq (fun K1 hK1 => SC.region ?_)
  refine SL.step (PS.assign rfl tt rfl rfl) ?_
  refine SL.alloc (cs := [_, _, _]) Tryd.zeroValue26 rfl rfl rfl (fun b3 => ?_)
  refine SL.keep (l' := [(3, _, _), (0, _, _)]) ⟨rfl, rfl, trivial⟩ ?_
  refine SL.nil (SE.thenK hK1 ?_)
  refine SC.scopeF (n := 0) (fun ((k1, l12, yb12_0, yb12_1, yb12_2, yb12_3, yb12_5, yb3_0, yb3_1, yb3_2, o12, cap12, b12) : Nat × List Tok × ByteArray × Int × Int × Int × Int × Int × Int × Int × Option Nat × Nat × Nat) => [(4, true, .pointer (some ⟨b12, 0, none⟩)), (3, true, .pointer (some ⟨b3, 0, none⟩)), (0, true, .string p0)]) (fun ((k1, l12, yb12_0, yb12_1, yb12_2, yb12_3, yb12_5, yb3_0, yb3_1, yb3_2, o12, cap12, b12) : Nat × List Tok × ByteArray × Int × Int × Int × Int × Int × Int × Int × Option Nat × Nat × Nat) => [Rw o12 l12 cap12, .blk b12 [.string yb12_0, .int .i64 yb12_1, .int .i64 yb12_2, .int .i64 yb12_3, .slice (rowA o12) l12.length cap12, .int .i64 yb12_5], .blk b3 [.int .i64 yb3_0, .int .i64 yb3_1, .int .i64 yb3_2]]) (fun ((k1, l12, yb12_0, yb12_1, yb12_2, yb12_3, yb12_5, yb3_0, yb3_1, yb3_2, o12, cap12, b12) : Nat × List Tok × ByteArray × Int × Int × Int × Int × Int × Int × Int × Option Nat × Nat × Nat) w => ((d_lex_Tokens_R4 p0 k1 l12 yb12_0 yb12_1 yb12_2 yb12_3 yb12_5 yb3_0 yb3_1 yb3_2 = d_lex_Tokens_R4 p0 (((p0.size : Int) - 0).toNat + 1) ([] : List Tok) p0 0 1 0 0 0 0 0) ∧ (((p0.size : Int) - yb12_1).toNat < k1) ∧ (yb12_0 = p0) ∧ (0 ≤ yb12_1) ∧ (yb12_1 ≤ p0.size) ∧ ((l12.length : Int) ≤ yb12_1) ∧ (0 ≤ yb12_3) ∧ (yb12_3 ≤ yb12_1) ∧ (1 ≤ yb12_2) ∧ (yb12_2 ≤ yb12_1 + 1) ∧ (p0.size ≤ 65536) ∧ ((d_lex_Tokens p0) = thenL (d_lex_Tokens_R4 p0 (((p0.size : Int) - 0).toNat + 1) ([] : List Tok) p0 0 1 0 0 0 0 0) (fun _ => ([], (Dat.d : Flt))))) ∧ ((∀ x ∈ l12, Dat.ok x w))) (fun q => q.1) rfl (by kernel_rfl) (fun HL => ?_) (fun q => ?_)
  ·
   refine SC.seq (fun K6 hK6 => SC.seq (fun K7 hK7 => SC.region ?_))
   refine SL.step (PS.move rfl tt rfl rfl) ?_
   refine SL.step (PS.len_string rfl tt Tryd.underlying9 rfl rfl) ?_
   refine SL.step (PS.gtr rfl tt rfl tt rfl rfl) ?_
   refine SL.keep (l' := [(8, _, _), (3, _, _), (0, _, _)]) ⟨rfl, rfl, rfl, trivial⟩ ?_
   refine SL.nil (SE.thenK hK7 ?_)
   refine SC.cond rfl (fun c8 => ?_) (fun c8 => ?_)
   ·
    have c8n := c8
    try simp only [Bool.and_eq_true, Bool.or_eq_true, decide_eq_true_eq, Bool.true_and, Bool.not_eq_true', Bool.not_eq_false', beq_iff_eq, bne_iff_ne, decide_eq_false_iff_not, beq_eq_false_iff_ne, bne_eq_false_iff_eq, ne_eq, Bool.or_eq_false_iff, Bool.and_eq_false_iff] at c8n
    refine SC.seq (fun K8 hK8 => SC.region ?_)
    refine SL.step (PS.build (us := [(0, _)]) (vs := [_, _, _]) ⟨rfl, ⟨_, rfl, tt⟩, trivial⟩ Tryd.underlying26 Tryd.zeroValue26 (Tryd.places_26 Tryd.underlying26) rfl rfl rfl) ?_
    refine SL.step (PS.assign rfl tt rfl rfl) ?_
    refine SL.store_own (k := 0) (own' := [_]) (cs' := [_, _, _]) rfl rfl rfl rfl rfl rfl rfl Tryd.sizeOf26 rfl (Nat.le_of_ble_eq_true rfl) rfl rfl rfl rfl ?_
    refine SL.keep (l' := [(2, _, _), (3, _, _)]) ⟨rfl, rfl, trivial⟩ ?_
    refine SL.nil (SE.thenK hK8 (SC.ret (SE.then_ret ?_)))
    refine SE.jump_ret ?_
    refine SE.row0 (Dat.sz Tok) (Dat.cells (α := Tok)) ?_
    refine finO (val := fun v : Option Nat × Nat => Value.tuple #[.slice (rowA v.1) ((d_lex_Tokens p0).1).length v.2, Value.agg [.int .i64 (((d_lex_Tokens p0).2).code), .int .i64 (((d_lex_Tokens p0).2).line), .int .i64 (((d_lex_Tokens p0).2).col)].toArray]) (rs' := fun v => [Rw v.1 ((d_lex_Tokens p0).1) v.2]) (Φ := fun v w => ((d_lex_Tokens p0).1).length ≤ 9223372036854775807 ∧ ∀ x ∈ (d_lex_Tokens p0).1, Dat.ok x w) (none, 0) (u := Value.tuple #[.slice none 0 0, .agg [.int .i64 6, .int .i64 0, .int .i64 0].toArray]) ?_ ?_ ?_ ?_ ?_ ?_
    · exact congrArg (fun z : List Tok × Flt => Value.tuple #[.slice (rowA none) (z.1).length 0, Value.agg [.int .i64 z.2.code, .int .i64 z.2.line, .int .i64 z.2.col].toArray]) (show (d_lex_Tokens p0) = (([], (⟨6, 0, 0⟩ : Flt)) : List Tok × Flt) from (bifT c8)).symm
    · exact runtc (k := 1) rfl rfl Tryd.isAgg26 Tryd.sizeOf26 rfl rfl rfl rfl
    · rfl
    · rfl
    · exact (congrArg (fun z : List Tok × Flt => List.Sublist [Rw none (z.1) 0] _) (show (d_lex_Tokens p0) = (([], (⟨6, 0, 0⟩ : Flt)) : List Tok × Flt) from (bifT c8))).mpr (List.Sublist.cons_cons _ (List.Sublist.cons _ List.Sublist.slnil))
    · exact fun w h => (congrArg (fun z : List Tok × Flt => (z.1).length ≤ 9223372036854775807 ∧ ∀ x ∈ z.1, Dat.ok x w) (show (d_lex_Tokens p0) = (([], (⟨6, 0, 0⟩ : Flt)) : List Tok × Flt) from (bifT c8))).mpr ⟨by (try simp only [List.length_append, List.length_cons, List.length_nil]); omega, (fun x hx => nomatch hx)⟩
   ·
    have c8n := c8
    try simp only [Bool.and_eq_true, Bool.or_eq_true, decide_eq_true_eq, Bool.true_and, Bool.not_eq_true', Bool.not_eq_false', beq_iff_eq, bne_iff_ne, decide_eq_false_iff_not, beq_eq_false_iff_ne, bne_eq_false_iff_eq, ne_eq, Bool.or_eq_false_iff, Bool.and_eq_false_iff] at c8n
    refine SC.skip (SE.thenK hK6 (SC.seq (fun K9 hK9 => SC.region ?_)))
    refine SL.step (PS.move rfl tt rfl rfl) ?_
    refine SL.step (PS.build (us := [(0, _), (2, _)]) (vs := [_, _, _, _, _, _]) ⟨rfl, ⟨_, rfl, tt⟩, ⟨rfl, ⟨_, rfl, tt⟩, trivial⟩⟩ Tryd.underlying39 Tryd.zeroValue39 (Tryd.places_39 Tryd.underlying39) rfl rfl rfl) ?_
    refine SL.box (cs := [_, _, _, _, _, _]) rfl rfl rfl rfl rfl (fun b12 => ?_)
    refine SL.row0 (Dat.sz Tok) (Dat.cells (α := Tok)) ?_
    refine SL.step (PS.assign rfl tt rfl rfl) ?_
    refine SL.keep (l' := [(4, _, _), (3, _, _), (0, _, _)]) ⟨rfl, rfl, rfl, trivial⟩ ?_
    refine SL.nil (SE.thenK hK9 ?_)
    exact SC.into (HL (((p0.size : Int) - 0).toNat + 1, ([] : List Tok), p0, 0, 1, 0, 0, 0, 0, 0, none, 0, b12)) ⟨rfl, rfl, rfl, trivial⟩ rfl (fun w h => And.intro (h) (And.intro ⟨rfl, Nat.lt_succ_self _, rfl, by omega, by omega, by simp, by omega, by omega, by omega, by omega, by omega, (show (d_lex_Tokens p0) = thenL (d_lex_Tokens_R4 p0 (((p0.size : Int) - 0).toNat + 1) ([] : List Tok) p0 0 1 0 0 0 0 0) (fun _ => ([], (Dat.d : Flt))) from (bifF c8))⟩ ((fun x hx => nomatch hx))))
  ·
   obtain ⟨k1, l12, yb12_0, yb12_1, yb12_2, yb12_3, yb12_5, yb3_0, yb3_1, yb3_2, o12, cap12, b12⟩ := q
   dsimp only
   refine SC.know (fun w h => h.2.1) (fun hp => ?_)
   obtain ⟨hL1, hm1, hi1_0, hi1_1, hi1_2, hi1_3, hi1_4, hi1_5, hi1_6, hi1_7, hi1_8, hTop⟩ := hp
   obtain ⟨k1p, rfl⟩ : ∃ j, k1 = j + 1 := ⟨k1 - 1, by omega⟩
   have hs0 : yb12_0.size = p0.size := by rw [hi1_0]
   obtain ⟨z1, hz1⟩ : ∃ z : Int, z = yb12_1 := ⟨yb12_1, rfl⟩
   refine SC.seq (fun K10 hK10 => SC.seq (fun K11 hK11 => SC.region ?_))
   refine SL.step (PS.move rfl tt rfl rfl) ?_
   refine SL.step (PS.nilCheck rfl tt rfl rfl) ?_
   refine SL.step (PS.fieldAddr rfl tt Tryd.fieldAt_39_1 rfl rfl) ?_
   refine SL.step (PS.load_own (k := 1) rfl tt rfl rfl rfl Tryd.isAgg3 rfl rfl) ?_
   refine SL.step (PS.move rfl tt rfl rfl) ?_
   refine SL.step (PS.len_string rfl tt Tryd.underlying9 rfl rfl) ?_
   refine SL.step (PS.eql rfl tt rfl tt rfl rfl) ?_
   refine SL.keep (l' := [(19, _, _), (4, _, _), (3, _, _), (0, _, _)]) ⟨rfl, rfl, rfl, rfl, trivial⟩ ?_
   refine SL.nil (SE.thenK hK11 ?_)
   refine SC.cond rfl (fun c19 => ?_) (fun c19 => ?_)
   ·
    have c19n := c19
    try simp only [Bool.and_eq_true, Bool.or_eq_true, decide_eq_true_eq, Bool.true_and, Bool.not_eq_true', Bool.not_eq_false', beq_iff_eq, bne_iff_ne, decide_eq_false_iff_not, beq_eq_false_iff_ne, bne_eq_false_iff_eq, ne_eq, Bool.or_eq_false_iff, Bool.and_eq_false_iff] at c19n
    refine SC.seq (fun K12 hK12 => SC.region ?_)
    refine SL.step (PS.move rfl tt rfl rfl) ?_
    refine SL.step (PS.nilCheck rfl tt rfl rfl) ?_
    refine SL.step (PS.fieldAddr rfl tt Tryd.fieldAt_39_4 rfl rfl) ?_
    refine SL.step (PS.load_own (k := 1) rfl tt rfl rfl rfl Tryd.isAgg23 rfl rfl) ?_
    refine SL.step (PS.build (us := []) (vs := [_, _, _]) trivial Tryd.underlying26 Tryd.zeroValue26 (Tryd.places_26 Tryd.underlying26) rfl rfl rfl) ?_
    refine SL.step (PS.assign rfl tt rfl rfl) ?_
    refine SL.store_own (k := 2) (own' := [_, _, _]) (cs' := [_, _, _]) rfl rfl rfl rfl rfl rfl rfl Tryd.sizeOf26 rfl (Nat.le_of_ble_eq_true rfl) rfl rfl rfl rfl ?_
    refine SL.keep (l' := [(2, _, _), (3, _, _)]) ⟨rfl, rfl, trivial⟩ ?_
    refine SL.nil (SE.thenK hK12 (SC.ret (SE.then_ret ?_)))
    refine SE.jump_ret ?_
    refine finO (val := fun v : Option Nat × Nat => Value.tuple #[.slice (rowA v.1) ((d_lex_Tokens p0).1).length v.2, Value.agg [.int .i64 (((d_lex_Tokens p0).2).code), .int .i64 (((d_lex_Tokens p0).2).line), .int .i64 (((d_lex_Tokens p0).2).col)].toArray]) (rs' := fun v => [Rw v.1 ((d_lex_Tokens p0).1) v.2]) (Φ := fun v w => ((d_lex_Tokens p0).1).length ≤ 9223372036854775807 ∧ ∀ x ∈ (d_lex_Tokens p0).1, Dat.ok x w) (o12, cap12) (u := Value.tuple #[.slice (rowA o12) l12.length cap12, .agg [.int .i64 0, .int .i64 0, .int .i64 0].toArray]) ?_ ?_ ?_ ?_ ?_ ?_
    · exact congrArg (fun z : List Tok × Flt => Value.tuple #[.slice (rowA o12) (z.1).length cap12, Value.agg [.int .i64 z.2.code, .int .i64 z.2.line, .int .i64 z.2.col].toArray]) (show (d_lex_Tokens p0) = ((l12, (⟨0, 0, 0⟩ : Flt)) : List Tok × Flt) from (hTop.trans (thenL_inl ((hL1.symm.trans (show d_lex_Tokens_R4 p0 (k1p + 1) l12 yb12_0 yb12_1 yb12_2 yb12_3 yb12_5 yb3_0 yb3_1 yb3_2 = Sum.inl (l12, (⟨0, 0, 0⟩ : Flt)) from (bifT c19))))))).symm
    · exact runtc (k := 2) rfl rfl Tryd.isAgg26 Tryd.sizeOf26 rfl rfl rfl rfl
    · rfl
    · rfl
    · exact (congrArg (fun z : List Tok × Flt => List.Sublist [Rw o12 (z.1) cap12] _) (show (d_lex_Tokens p0) = ((l12, (⟨0, 0, 0⟩ : Flt)) : List Tok × Flt) from (hTop.trans (thenL_inl ((hL1.symm.trans (show d_lex_Tokens_R4 p0 (k1p + 1) l12 yb12_0 yb12_1 yb12_2 yb12_3 yb12_5 yb3_0 yb3_1 yb3_2 = Sum.inl (l12, (⟨0, 0, 0⟩ : Flt)) from (bifT c19)))))))).mpr (List.Sublist.cons_cons _ (List.Sublist.cons _ (List.Sublist.cons _ List.Sublist.slnil)))
    · exact fun w h => (congrArg (fun z : List Tok × Flt => (z.1).length ≤ 9223372036854775807 ∧ ∀ x ∈ z.1, Dat.ok x w) (show (d_lex_Tokens p0) = ((l12, (⟨0, 0, 0⟩ : Flt)) : List Tok × Flt) from (hTop.trans (thenL_inl ((hL1.symm.trans (show d_lex_Tokens_R4 p0 (k1p + 1) l12 yb12_0 yb12_1 yb12_2 yb12_3 yb12_5 yb3_0 yb3_1 yb3_2 = Sum.inl (l12, (⟨0, 0, 0⟩ : Flt)) from (bifT c19)))))))).mpr ⟨by (try simp only [List.length_append, List.length_cons, List.length_nil]); omega, (h.2.2)⟩
   ·
    have c19n := c19
    try simp only [Bool.and_eq_true, Bool.or_eq_true, decide_eq_true_eq, Bool.true_and, Bool.not_eq_true', Bool.not_eq_false', beq_iff_eq, bne_iff_ne, decide_eq_false_iff_not, beq_eq_false_iff_ne, bne_eq_false_iff_eq, ne_eq, Bool.or_eq_false_iff, Bool.and_eq_false_iff] at c19n
    refine SC.skip (SE.thenK hK10 (SC.seq (fun K13 hK13 => SC.seq (fun K14 hK14 => SC.region ?_))))
    refine SL.step (PS.move rfl tt rfl rfl) ?_
    refine SL.step (PS.move rfl tt rfl rfl) ?_
    refine SL.step (PS.nilCheck rfl tt rfl rfl) ?_
    refine SL.step (PS.fieldAddr rfl tt Tryd.fieldAt_39_1 rfl rfl) ?_
    refine SL.step (PS.load_own (k := 1) rfl tt rfl rfl rfl Tryd.isAgg3 rfl rfl) ?_
    refine SL.step (PS.indexStr rfl tt rfl tt Tryd.underlying9 (fun hg => by first | omega | (simp only [List.length_cons, List.length_nil]; omega) | (try simp only [Bool.and_eq_true, Bool.or_eq_true, decide_eq_true_eq, Bool.true_and, Bool.not_eq_true', beq_iff_eq, bne_iff_ne, decide_eq_false_iff_not, beq_eq_false_iff_ne, ne_eq] at hg; omega)) rfl rfl) ?_
    refine SL.step (PS.assign rfl tt rfl rfl) ?_
    refine SL.keep (l' := [(5, _, _), (4, _, _), (3, _, _), (0, _, _)]) ⟨rfl, rfl, rfl, rfl, trivial⟩ ?_
    refine SL.nil (SE.thenK hK14 (SC.block (SC.seq (fun K15 hK15 => SC.region ?_))))
    refine SL.step (PS.move rfl tt rfl rfl) ?_
    refine SL.step (PS.eql rfl tt rfl tt rfl rfl) ?_
    refine SL.step (PS.move rfl tt rfl rfl) ?_
    refine SL.step (PS.move rfl tt rfl rfl) ?_
    refine SL.step (PS.eql rfl (fun h => h) rfl tt rfl rfl) ?_
    refine SL.step (PS.pick_or rfl tt rfl (fun h h2 => pk_or h h2) rfl rfl) ?_
    refine SL.step (PS.move rfl tt rfl rfl) ?_
    refine SL.step (PS.move rfl tt rfl rfl) ?_
    refine SL.step (PS.eql rfl (fun h => h) rfl tt rfl rfl) ?_
    refine SL.step (PS.pick_or rfl tt rfl (fun h h2 => pk_or h h2) rfl rfl) ?_
    refine SL.step (PS.assign rfl tt rfl rfl) ?_
    refine SL.keep (l' := [(54, _, _), (5, _, _), (4, _, _), (3, _, _), (0, _, _)]) ⟨rfl, rfl, rfl, rfl, rfl, trivial⟩ ?_
    refine SL.nil (SE.thenK hK15 ?_)
    refine SC.cond rfl (fun c54 => ?_) (fun c54 => ?_)
    ·
     have c54n := c54
     try simp only [Bool.and_eq_true, Bool.or_eq_true, decide_eq_true_eq, Bool.true_and, Bool.not_eq_true', Bool.not_eq_false', beq_iff_eq, bne_iff_ne, decide_eq_false_iff_not, beq_eq_false_iff_ne, bne_eq_false_iff_eq, ne_eq, Bool.or_eq_false_iff, Bool.and_eq_false_iff] at c54n
     refine SC.region ?_
     refine SL.step (PS.move rfl tt rfl rfl) ?_
     refine SL.step (PS.nilCheck rfl tt rfl rfl) ?_
     refine SL.step (PS.fieldAddr rfl tt Tryd.fieldAt_39_1 rfl rfl) ?_
     refine SL.step (PS.load_own (k := 1) rfl tt rfl rfl rfl Tryd.isAgg3 rfl rfl) ?_
     refine SL.step (PS.add_in rfl tt rfl tt (fun _ => wr_i64 (by omega)) rfl rfl) ?_
     refine SL.step (PS.nilCheck rfl tt rfl rfl) ?_
     refine SL.step (PS.fieldAddr rfl tt Tryd.fieldAt_39_1 rfl rfl) ?_
     refine SL.store_own (k := 1) (own' := [_, _, _]) (cs' := [_, _, _, _, _, _]) rfl rfl rfl rfl rfl rfl rfl Tryd.sizeOf3 rfl (Nat.le_of_ble_eq_true rfl) rfl rfl rfl rfl ?_
     refine SL.keep (l' := [(4, _, _), (3, _, _), (0, _, _)]) ⟨rfl, rfl, rfl, trivial⟩ ?_
     refine SL.nil (SE.block_normal (SE.thenK hK13 ?_))
     refine SC.goto ?_
     exact SE.jumpF (k1p, l12, yb12_0, (yb12_1 + 1), yb12_2, yb12_3, yb12_5, yb3_0, yb3_1, yb3_2, o12, cap12, b12) ⟨rfl, rfl, rfl, trivial⟩ rfl (fun w h => And.intro (h.1) (And.intro ⟨((show d_lex_Tokens_R4 p0 (k1p + 1) l12 yb12_0 yb12_1 yb12_2 yb12_3 yb12_5 yb3_0 yb3_1 yb3_2 = d_lex_Tokens_R4 p0 k1p l12 yb12_0 (yb12_1 + 1) yb12_2 yb12_3 yb12_5 yb3_0 yb3_1 yb3_2 from ((bifF c19).trans (bifT c54))).symm.trans hL1), by (try dsimp only); omega, by first | exact hi1_0 | exact hpk.1.trans hi1_0, by (try dsimp only); omega, by (try dsimp only); omega, by (try dsimp only); omega, by (try dsimp only); omega, by (try dsimp only); omega, by (try dsimp only); omega, by (try dsimp only); omega, by (try dsimp only); omega, hTop⟩ ((h.2.2)))) (Nat.lt_succ_self _)
    ·
     have c54n := c54
     try simp only [Bool.and_eq_true, Bool.or_eq_true, decide_eq_true_eq, Bool.true_and, Bool.not_eq_true', Bool.not_eq_false', beq_iff_eq, bne_iff_ne, decide_eq_false_iff_not, beq_eq_false_iff_ne, bne_eq_false_iff_eq, ne_eq, Bool.or_eq_false_iff, Bool.and_eq_false_iff] at c54n
     refine SC.seq (fun K16 hK16 => SC.region ?_)
     refine SL.step (PS.move rfl tt rfl rfl) ?_
     refine SL.step (PS.eql rfl tt rfl tt rfl rfl) ?_
     refine SL.step (PS.assign rfl tt rfl rfl) ?_
     refine SL.keep (l' := [(72, _, _), (5, _, _), (4, _, _), (3, _, _), (0, _, _)]) ⟨rfl, rfl, rfl, rfl, rfl, trivial⟩ ?_
     refine SL.nil (SE.thenK hK16 ?_)
     refine SC.cond rfl (fun c72 => ?_) (fun c72 => ?_)
     ·
      have c72n := c72
      try simp only [Bool.and_eq_true, Bool.or_eq_true, decide_eq_true_eq, Bool.true_and, Bool.not_eq_true', Bool.not_eq_false', beq_iff_eq, bne_iff_ne, decide_eq_false_iff_not, beq_eq_false_iff_ne, bne_eq_false_iff_eq, ne_eq, Bool.or_eq_false_iff, Bool.and_eq_false_iff] at c72n
      refine SC.block ?_
      refine SC.loopF (fun ((k2, yb12_1i) : Nat × Int) => [(4, true, .pointer (some ⟨b12, 0, none⟩)), (3, true, .pointer (some ⟨b3, 0, none⟩)), (0, true, .string p0)]) (fun ((k2, yb12_1i) : Nat × Int) => [Rw o12 l12 cap12, .blk b12 [.string yb12_0, .int .i64 yb12_1i, .int .i64 yb12_2, .int .i64 yb12_3, .slice (rowA o12) l12.length cap12, .int .i64 yb12_5], .blk b3 [.int .i64 yb3_0, .int .i64 yb3_1, .int .i64 yb3_2]]) (fun ((k2, yb12_1i) : Nat × Int) w => ((d_lex_Tokens_R12 p0 k2 yb12_1i = d_lex_Tokens_R12 p0 (((p0.size : Int) - yb12_1).toNat + 1) yb12_1) ∧ (((p0.size : Int) - yb12_1i).toNat < k2) ∧ (yb12_1i ≤ p0.size) ∧ (z1 ≤ yb12_1i) ∧ ((yb12_1i = z1 → byteAt p0 z1 = 35))) ∧ (True)) (fun q => q.1) (((p0.size : Int) - yb12_1).toNat + 1, yb12_1) ⟨rfl, rfl, rfl, trivial⟩ rfl (fun w h => ⟨⟨rfl, Nat.lt_succ_self _, by omega, by omega, fun _ => by rw [hz1]; omega⟩, trivial⟩) (fun q => ?_)
      obtain ⟨k2, yb12_1i⟩ := q
      dsimp only
      refine SC.know (fun w h => h.2.1) (fun hp => ?_)
      obtain ⟨hL2, hm2, hi2_0, hi2_1, hi2_2⟩ := hp
      obtain ⟨k2p, rfl⟩ : ∃ j, k2 = j + 1 := ⟨k2 - 1, by omega⟩
      refine SC.seq (fun K17 hK17 => SC.seq (fun K18 hK18 => SC.region ?_))
      refine SL.step (PS.move rfl tt rfl rfl) ?_
      refine SL.step (PS.nilCheck rfl tt rfl rfl) ?_
      refine SL.step (PS.fieldAddr rfl tt Tryd.fieldAt_39_1 rfl rfl) ?_
      refine SL.step (PS.load_own (k := 1) rfl tt rfl rfl rfl Tryd.isAgg3 rfl rfl) ?_
      refine SL.step (PS.move rfl tt rfl rfl) ?_
      refine SL.step (PS.len_string rfl tt Tryd.underlying9 rfl rfl) ?_
      refine SL.step (PS.lss rfl tt rfl tt rfl rfl) ?_
      refine SL.step (PS.move rfl tt rfl rfl) ?_
      refine SL.step (PS.move rfl tt rfl rfl) ?_
      refine SL.step (PS.move rfl tt rfl rfl) ?_
      refine SL.step (PS.nilCheck rfl (fun h => h) rfl rfl) ?_
      refine SL.step (PS.fieldAddr rfl (fun h => h) Tryd.fieldAt_39_1 rfl rfl) ?_
      refine SL.step (PS.load_own (k := 1) rfl (fun h => h) rfl rfl rfl Tryd.isAgg3 rfl rfl) ?_
      refine SL.step (PS.indexStr rfl (fun h => h) rfl (fun h => h) Tryd.underlying9 (fun hg => by first | omega | (simp only [List.length_cons, List.length_nil]; omega) | (try simp only [Bool.and_eq_true, Bool.or_eq_true, decide_eq_true_eq, Bool.true_and, Bool.not_eq_true', beq_iff_eq, bne_iff_ne, decide_eq_false_iff_not, beq_eq_false_iff_ne, ne_eq] at hg; omega)) rfl rfl) ?_
      refine SL.step (PS.neq rfl (fun h => h) rfl tt rfl rfl) ?_
      refine SL.step (PS.pick_and rfl tt rfl (fun h h2 => pk_and h h2) rfl rfl) ?_
      refine SL.keep (l' := [(90, _, _), (4, _, _), (3, _, _), (0, _, _)]) ⟨rfl, rfl, rfl, rfl, trivial⟩ ?_
      refine SL.nil (SE.thenK hK18 ?_)
      refine SC.cond rfl (fun c90 => ?_) (fun c90 => ?_)
      ·
       have c90n := c90
       try simp only [Bool.and_eq_true, Bool.or_eq_true, decide_eq_true_eq, Bool.true_and, Bool.not_eq_true', Bool.not_eq_false', beq_iff_eq, bne_iff_ne, decide_eq_false_iff_not, beq_eq_false_iff_ne, bne_eq_false_iff_eq, ne_eq, Bool.or_eq_false_iff, Bool.and_eq_false_iff] at c90n
       refine SC.skip (SE.thenK hK17 (SC.block (SC.region ?_)))
       refine SL.step (PS.move rfl tt rfl rfl) ?_
       refine SL.step (PS.nilCheck rfl tt rfl rfl) ?_
       refine SL.step (PS.fieldAddr rfl tt Tryd.fieldAt_39_1 rfl rfl) ?_
       refine SL.step (PS.load_own (k := 1) rfl tt rfl rfl rfl Tryd.isAgg3 rfl rfl) ?_
       refine SL.step (PS.add_in rfl tt rfl tt (fun _ => wr_i64 (by omega)) rfl rfl) ?_
       refine SL.step (PS.nilCheck rfl tt rfl rfl) ?_
       refine SL.step (PS.fieldAddr rfl tt Tryd.fieldAt_39_1 rfl rfl) ?_
       refine SL.store_own (k := 1) (own' := [_, _, _]) (cs' := [_, _, _, _, _, _]) rfl rfl rfl rfl rfl rfl rfl Tryd.sizeOf3 rfl (Nat.le_of_ble_eq_true rfl) rfl rfl rfl rfl ?_
       refine SL.keep (l' := [(4, _, _), (3, _, _), (0, _, _)]) ⟨rfl, rfl, rfl, trivial⟩ ?_
       refine SL.nil (SE.block_normal ?_)
       exact SE.againF (k2p, (yb12_1i + 1)) ⟨rfl, rfl, rfl, trivial⟩ rfl (fun w h => And.intro (h.1) (And.intro ⟨((show d_lex_Tokens_R12 p0 (k2p + 1) yb12_1i = d_lex_Tokens_R12 p0 k2p (yb12_1i + 1) from (bifT c90)).symm.trans hL2), by (try dsimp only); omega, by (try dsimp only); omega, by (try dsimp only); omega, by (try dsimp only); omega⟩ (trivial))) (Nat.lt_succ_self _)
      ·
       have c90n := c90
       try simp only [Bool.and_eq_true, Bool.or_eq_true, decide_eq_true_eq, Bool.true_and, Bool.not_eq_true', Bool.not_eq_false', beq_iff_eq, bne_iff_ne, decide_eq_false_iff_not, beq_eq_false_iff_ne, bne_eq_false_iff_eq, ne_eq, Bool.or_eq_false_iff, Bool.and_eq_false_iff] at c90n
       have hgt : z1 < yb12_1i := by
        rcases Int.lt_or_eq_of_le hi2_1 with q | q
        · exact q
        · exfalso; have h35 := hi2_2 q.symm; rw [← q] at c90n; omega
       refine SC.exit (SE.then_exit (SE.then_exit (SE.block_same (SE.block_normal (SE.thenK hK13 ?_)))))
       refine SC.goto ?_
       exact SE.jumpF (k1p, l12, yb12_0, yb12_1i, yb12_2, yb12_3, yb12_5, yb3_0, yb3_1, yb3_2, o12, cap12, b12) ⟨rfl, rfl, rfl, trivial⟩ rfl (fun w h => And.intro (h.1.1) (And.intro ⟨((show d_lex_Tokens_R4 p0 (k1p + 1) l12 yb12_0 yb12_1 yb12_2 yb12_3 yb12_5 yb3_0 yb3_1 yb3_2 = d_lex_Tokens_R4 p0 k1p l12 yb12_0 yb12_1i yb12_2 yb12_3 yb12_5 yb3_0 yb3_1 yb3_2 from ((bifF c19).trans ((bifF c54).trans ((bifT c72).trans (letV_eq (hL2.symm.trans (show d_lex_Tokens_R12 p0 (k2p + 1) yb12_1i = yb12_1i from (bifF c90)))))))).symm.trans hL1), by (try dsimp only); omega, by first | exact hi1_0 | exact hpk.1.trans hi1_0, by (try dsimp only); omega, by (try dsimp only); omega, by (try dsimp only); omega, by (try dsimp only); omega, by (try dsimp only); omega, by (try dsimp only); omega, by (try dsimp only); omega, by (try dsimp only); omega, hTop⟩ ((h.1.2.2)))) (Nat.lt_succ_self _)
     ·
      have c72n := c72
      try simp only [Bool.and_eq_true, Bool.or_eq_true, decide_eq_true_eq, Bool.true_and, Bool.not_eq_true', Bool.not_eq_false', beq_iff_eq, bne_iff_ne, decide_eq_false_iff_not, beq_eq_false_iff_ne, bne_eq_false_iff_eq, ne_eq, Bool.or_eq_false_iff, Bool.and_eq_false_iff] at c72n
      refine SC.seq (fun K19 hK19 => SC.region ?_)
      refine SL.step (PS.move rfl tt rfl rfl) ?_
      refine SL.step (PS.eql rfl tt rfl tt rfl rfl) ?_
      refine SL.step (PS.assign rfl tt rfl rfl) ?_
      refine SL.keep (l' := [(98, _, _), (5, _, _), (4, _, _), (3, _, _), (0, _, _)]) ⟨rfl, rfl, rfl, rfl, rfl, trivial⟩ ?_
      refine SL.nil (SE.thenK hK19 ?_)
      refine SC.cond rfl (fun c98 => ?_) (fun c98 => ?_)
      ·
       have c98n := c98
       try simp only [Bool.and_eq_true, Bool.or_eq_true, decide_eq_true_eq, Bool.true_and, Bool.not_eq_true', Bool.not_eq_false', beq_iff_eq, bne_iff_ne, decide_eq_false_iff_not, beq_eq_false_iff_ne, bne_eq_false_iff_eq, ne_eq, Bool.or_eq_false_iff, Bool.and_eq_false_iff] at c98n
       refine SC.seq (fun K20 hK20 => ?_)
       refine SC.draw (S := SP _ _ _) 9 (by kernel_rfl) (by kernel_rfl) (fun _ h => h) ?_
       refine SD.take 0 rfl rfl (by kernel_rfl) (PS.move rfl tt rfl rfl) ?_
       refine SD.take 1 rfl rfl (by kernel_rfl) (PS.move rfl tt rfl rfl) ?_
       refine SD.take 2 rfl rfl (by kernel_rfl) (PS.nilCheck rfl tt rfl rfl) ?_
       refine SD.take 3 rfl rfl (by kernel_rfl) (PS.fieldAddr rfl tt Tryd.fieldAt_39_1 rfl rfl) ?_
       refine SD.take 4 rfl rfl (by kernel_rfl) (PS.load_own (k := 1) rfl tt rfl rfl rfl Tryd.isAgg3 rfl rfl) ?_
       refine SD.take 5 rfl rfl (by kernel_rfl) (PS.move rfl tt rfl rfl) ?_
       refine SD.take 6 rfl rfl (by kernel_rfl) (PS.nilCheck rfl tt rfl rfl) ?_
       refine SD.take 7 rfl rfl (by kernel_rfl) (PS.fieldAddr rfl tt Tryd.fieldAt_39_1 rfl rfl) ?_
       refine SD.take 8 rfl rfl (by kernel_rfl) (PS.load_own (k := 1) rfl tt rfl rfl rfl Tryd.isAgg3 rfl rfl) ?_
       refine SD.tail (by kernel_rfl) (os := [_]) rfl ?_
       refine SL.callX (vs := [_, _, _, _]) (rs := [_, _]) (own' := [_]) (List.Perm.swap _ _ _) Tryd.call14 ⟨⟨_, rfl, tt⟩, ⟨_, rfl, tt⟩, ⟨_, rfl, tt⟩, ⟨_, rfl, tt⟩, trivial⟩ (lex_cutter_put_X b12 o12 cap12 yb12_0 yb12_1 yb12_2 yb12_3 l12 yb12_5 6 yb12_1 yb12_1 (by omega) (by omega) (by omega) (by omega)) (fun w h => (h.2.2)) rfl rfl (fun x110 => ?_)
       obtain ⟨o110, c110⟩ := x110
       refine SL.keep (l' := [(4, _, _), (3, _, _), (0, _, _)]) ⟨rfl, rfl, rfl, trivial⟩ ?_
       refine SL.nil (SE.calm (SE.thenK hK20 (SC.seq (fun K21 hK21 => ?_))))
       have hp1 : (d_lex_cutter_put yb12_0 yb12_1 yb12_2 yb12_3 l12 yb12_5 6 yb12_1 yb12_1).2.1 = yb12_1 := rfl
       have hp2 : (d_lex_cutter_put yb12_0 yb12_1 yb12_2 yb12_3 l12 yb12_5 6 yb12_1 yb12_1).2.2.1 = yb12_2 := rfl
       have hp3 : (d_lex_cutter_put yb12_0 yb12_1 yb12_2 yb12_3 l12 yb12_5 6 yb12_1 yb12_1).2.2.2.1 = yb12_3 := rfl
       have hp4 : (d_lex_cutter_put yb12_0 yb12_1 yb12_2 yb12_3 l12 yb12_5 6 yb12_1 yb12_1).2.2.2.2.1.length = l12.length + 1 := by simp [d_lex_cutter_put]
       refine SC.region ?_
       refine SL.step (PS.move rfl tt rfl rfl) ?_
       refine SL.step (PS.nilCheck rfl tt rfl rfl) ?_
       refine SL.step (PS.fieldAddr rfl tt Tryd.fieldAt_39_1 rfl rfl) ?_
       refine SL.step (PS.load_own (k := 0) rfl tt rfl rfl rfl Tryd.isAgg3 rfl rfl) ?_
       refine SL.step (PS.add_in rfl tt rfl tt (fun _ => wr_i64 (by omega)) rfl rfl) ?_
       refine SL.step (PS.nilCheck rfl tt rfl rfl) ?_
       refine SL.step (PS.fieldAddr rfl tt Tryd.fieldAt_39_1 rfl rfl) ?_
       refine SL.store_own (k := 0) (own' := [_, _, _]) (cs' := [_, _, _, _, _, _]) rfl rfl rfl rfl rfl rfl rfl Tryd.sizeOf3 rfl (Nat.le_of_ble_eq_true rfl) rfl rfl rfl rfl ?_
       refine SL.keep (l' := [(4, _, _), (3, _, _), (0, _, _)]) ⟨rfl, rfl, rfl, trivial⟩ ?_
       refine SL.nil (SE.thenK hK21 (SC.seq (fun K22 hK22 => SC.region ?_)))
       refine SL.step (PS.move rfl tt rfl rfl) ?_
       refine SL.step (PS.nilCheck rfl tt rfl rfl) ?_
       refine SL.step (PS.fieldAddr rfl tt Tryd.fieldAt_39_2 rfl rfl) ?_
       refine SL.step (PS.load_own (k := 0) rfl tt rfl rfl rfl Tryd.isAgg3 rfl rfl) ?_
       refine SL.step (PS.add_in rfl tt rfl tt (fun _ => wr_i64 (by omega)) rfl rfl) ?_
       refine SL.step (PS.nilCheck rfl tt rfl rfl) ?_
       refine SL.step (PS.fieldAddr rfl tt Tryd.fieldAt_39_2 rfl rfl) ?_
       refine SL.store_own (k := 0) (own' := [_, _, _]) (cs' := [_, _, _, _, _, _]) rfl rfl rfl rfl rfl rfl rfl Tryd.sizeOf3 rfl (Nat.le_of_ble_eq_true rfl) rfl rfl rfl rfl ?_
       refine SL.keep (l' := [(4, _, _), (3, _, _), (0, _, _)]) ⟨rfl, rfl, rfl, trivial⟩ ?_
       refine SL.nil (SE.thenK hK22 (SC.region ?_))
       refine SL.step (PS.move rfl tt rfl rfl) ?_
       refine SL.step (PS.move rfl tt rfl rfl) ?_
       refine SL.step (PS.nilCheck rfl tt rfl rfl) ?_
       refine SL.step (PS.fieldAddr rfl tt Tryd.fieldAt_39_1 rfl rfl) ?_
       refine SL.step (PS.load_own (k := 0) rfl tt rfl rfl rfl Tryd.isAgg3 rfl rfl) ?_
       refine SL.step (PS.nilCheck rfl tt rfl rfl) ?_
       refine SL.step (PS.fieldAddr rfl tt Tryd.fieldAt_39_3 rfl rfl) ?_
       refine SL.store_own (k := 0) (own' := [_, _, _]) (cs' := [_, _, _, _, _, _]) rfl rfl rfl rfl rfl rfl rfl Tryd.sizeOf3 rfl (Nat.le_of_ble_eq_true rfl) rfl rfl rfl rfl ?_
       refine SL.keep (l' := [(4, _, _), (3, _, _), (0, _, _)]) ⟨rfl, rfl, rfl, trivial⟩ ?_
       refine SL.nil (SE.block_normal (SE.thenK hK13 ?_))
       refine SC.goto ?_
       refine SE.permO (own' := [_, _, _]) (List.Perm.swap _ _ _) ?_
       exact SE.jumpF (k1p, (d_lex_cutter_put yb12_0 yb12_1 yb12_2 yb12_3 l12 yb12_5 6 yb12_1 yb12_1).2.2.2.2.1, (d_lex_cutter_put yb12_0 yb12_1 yb12_2 yb12_3 l12 yb12_5 6 yb12_1 yb12_1).1, ((d_lex_cutter_put yb12_0 yb12_1 yb12_2 yb12_3 l12 yb12_5 6 yb12_1 yb12_1).2.1 + 1), ((d_lex_cutter_put yb12_0 yb12_1 yb12_2 yb12_3 l12 yb12_5 6 yb12_1 yb12_1).2.2.1 + 1), ((d_lex_cutter_put yb12_0 yb12_1 yb12_2 yb12_3 l12 yb12_5 6 yb12_1 yb12_1).2.1 + 1), (d_lex_cutter_put yb12_0 yb12_1 yb12_2 yb12_3 l12 yb12_5 6 yb12_1 yb12_1).2.2.2.2.2, yb3_0, yb3_1, yb3_2, o110, c110, b12) ⟨rfl, rfl, rfl, trivial⟩ rfl (fun w h => And.intro (h.1.1) (And.intro ⟨((show d_lex_Tokens_R4 p0 (k1p + 1) l12 yb12_0 yb12_1 yb12_2 yb12_3 yb12_5 yb3_0 yb3_1 yb3_2 = d_lex_Tokens_R4 p0 k1p ((d_lex_cutter_put yb12_0 yb12_1 yb12_2 yb12_3 l12 yb12_5 6 yb12_1 yb12_1).2.2.2.2.1) ((d_lex_cutter_put yb12_0 yb12_1 yb12_2 yb12_3 l12 yb12_5 6 yb12_1 yb12_1).1) ((d_lex_cutter_put yb12_0 yb12_1 yb12_2 yb12_3 l12 yb12_5 6 yb12_1 yb12_1).2.1 + 1) ((d_lex_cutter_put yb12_0 yb12_1 yb12_2 yb12_3 l12 yb12_5 6 yb12_1 yb12_1).2.2.1 + 1) ((d_lex_cutter_put yb12_0 yb12_1 yb12_2 yb12_3 l12 yb12_5 6 yb12_1 yb12_1).2.1 + 1) ((d_lex_cutter_put yb12_0 yb12_1 yb12_2 yb12_3 l12 yb12_5 6 yb12_1 yb12_1).2.2.2.2.2) yb3_0 yb3_1 yb3_2 from ((bifF c19).trans ((bifF c54).trans ((bifF c72).trans (bifT c98))))).symm.trans hL1), by (try dsimp only); omega, by first | exact hi1_0 | exact hpk.1.trans hi1_0, by (try dsimp only); omega, by (try dsimp only); omega, by (try dsimp only); omega, by (try dsimp only); omega, by (try dsimp only); omega, by (try dsimp only); omega, by (try dsimp only); omega, by (try dsimp only); omega, hTop⟩ (h.2))) (Nat.lt_succ_self _)
      ·
       have c98n := c98
       try simp only [Bool.and_eq_true, Bool.or_eq_true, decide_eq_true_eq, Bool.true_and, Bool.not_eq_true', Bool.not_eq_false', beq_iff_eq, bne_iff_ne, decide_eq_false_iff_not, beq_eq_false_iff_ne, bne_eq_false_iff_eq, ne_eq, Bool.or_eq_false_iff, Bool.and_eq_false_iff] at c98n
       refine SC.seq (fun K23 hK23 => ?_)
       have hpk : PieceOk yb12_0 yb12_1 yb12_2 yb12_3 l12 (d_lex_cutter_piece yb12_0 yb12_1 yb12_2 yb12_3 l12 yb12_5 (byteAt p0 yb12_1)) := by
        have := piece_ok (text := yb12_0) (ci := yb12_1) (line := yb12_2) (fr := yb12_3) (l := l12) (code := yb12_5) (by omega)
        rw [hi1_0] at this ⊢
        exact this
       have hpk1 := hpk.2.1
       have hpk3 := hpk.2.2.1
       refine SC.region ?_
       refine SL.step (PS.move rfl tt rfl rfl) ?_
       refine SL.step (PS.move rfl tt rfl rfl) ?_
       refine SL.callX (vs := [_, _]) (rs := [_, _]) (own' := [_]) (List.Perm.swap _ _ _) Tryd.call15 ⟨⟨_, rfl, tt⟩, ⟨_, rfl, tt⟩, trivial⟩ (lex_cutter_piece_X b12 o12 cap12 yb12_0 yb12_1 yb12_2 yb12_3 l12 yb12_5 (byteAt p0 yb12_1) (by omega) (by omega) (by omega) (by omega)) (fun w h => ⟨(h.1), (h.2.2)⟩) rfl rfl (fun x33 => ?_)
       obtain ⟨o33, c33⟩ := x33
       refine SL.step (PS.not rfl tt rfl rfl) ?_
       refine SL.keep (l' := [(34, _, _), (4, _, _), (3, _, _), (0, _, _)]) ⟨rfl, rfl, rfl, rfl, trivial⟩ ?_
       refine SL.nil (SE.thenK hK23 ?_)
       refine SC.cond rfl (fun c34 => ?_) (fun c34 => ?_)
       ·
        have c34n := c34
        try simp only [Bool.and_eq_true, Bool.or_eq_true, decide_eq_true_eq, Bool.true_and, Bool.not_eq_true', Bool.not_eq_false', beq_iff_eq, bne_iff_ne, decide_eq_false_iff_not, beq_eq_false_iff_ne, bne_eq_false_iff_eq, ne_eq, Bool.or_eq_false_iff, Bool.and_eq_false_iff] at c34n
        have hpk2 := hpk.2.2.2.2 (by simpa using c34)
        refine SC.seq (fun K24 hK24 => ?_)
        refine SC.draw (S := SP _ _ _) 20 (by kernel_rfl) (by kernel_rfl) (fun _ h => h) ?_
        refine SD.take 0 rfl rfl (by kernel_rfl) (PS.move rfl tt rfl rfl) ?_
        refine SD.take 1 rfl rfl (by kernel_rfl) (PS.nilCheck rfl tt rfl rfl) ?_
        refine SD.take 2 rfl rfl (by kernel_rfl) (PS.fieldAddr rfl tt Tryd.fieldAt_39_5 rfl rfl) ?_
        refine SD.take 3 rfl rfl (by kernel_rfl) (PS.load_own (k := 0) rfl tt rfl rfl rfl Tryd.isAgg24 rfl rfl) ?_
        refine SD.take 4 rfl rfl (by kernel_rfl) (PS.move rfl tt rfl rfl) ?_
        refine SD.take 5 rfl rfl (by kernel_rfl) (PS.nilCheck rfl tt rfl rfl) ?_
        refine SD.take 6 rfl rfl (by kernel_rfl) (PS.fieldAddr rfl tt Tryd.fieldAt_39_2 rfl rfl) ?_
        refine SD.take 7 rfl rfl (by kernel_rfl) (PS.load_own (k := 0) rfl tt rfl rfl rfl Tryd.isAgg3 rfl rfl) ?_
        refine SD.take 8 rfl rfl (by kernel_rfl) (PS.move rfl tt rfl rfl) ?_
        refine SD.take 9 rfl rfl (by kernel_rfl) (PS.nilCheck rfl tt rfl rfl) ?_
        refine SD.take 10 rfl rfl (by kernel_rfl) (PS.fieldAddr rfl tt Tryd.fieldAt_39_1 rfl rfl) ?_
        refine SD.take 11 rfl rfl (by kernel_rfl) (PS.load_own (k := 0) rfl tt rfl rfl rfl Tryd.isAgg3 rfl rfl) ?_
        refine SD.take 12 rfl rfl (by kernel_rfl) (PS.move rfl tt rfl rfl) ?_
        refine SD.take 13 rfl rfl (by kernel_rfl) (PS.nilCheck rfl tt rfl rfl) ?_
        refine SD.take 14 rfl rfl (by kernel_rfl) (PS.fieldAddr rfl tt Tryd.fieldAt_39_3 rfl rfl) ?_
        refine SD.take 15 rfl rfl (by kernel_rfl) (PS.load_own (k := 0) rfl tt rfl rfl rfl Tryd.isAgg3 rfl rfl) ?_
        refine SD.take 16 rfl rfl (by kernel_rfl) (PS.sub_in rfl tt rfl tt (fun _ => wr_i64 (by omega)) rfl rfl) ?_
        refine SD.take 17 rfl rfl (by kernel_rfl) (PS.add_in rfl tt rfl tt (fun _ => wr_i64 (by omega)) rfl rfl) ?_
        refine SD.take 18 rfl rfl (by kernel_rfl) (PS.build (us := [(0, _), (1, _), (2, _)]) (vs := [_, _, _]) ⟨rfl, ⟨_, rfl, tt⟩, ⟨rfl, ⟨_, rfl, tt⟩, ⟨rfl, ⟨_, rfl, tt⟩, trivial⟩⟩⟩ Tryd.underlying26 Tryd.zeroValue26 (Tryd.places_26 Tryd.underlying26) rfl rfl rfl) ?_
        refine SD.take 19 rfl rfl (by kernel_rfl) (PS.assign rfl tt rfl rfl) ?_
        refine SD.tail (by kernel_rfl) (os := [_]) rfl ?_
        refine SL.store_own (k := 2) (own' := [_, _, _]) (cs' := [_, _, _]) rfl rfl rfl rfl rfl rfl rfl Tryd.sizeOf26 rfl (Nat.le_of_ble_eq_true rfl) rfl rfl rfl rfl ?_
        refine SL.keep (l' := [(2, _, _), (3, _, _)]) ⟨rfl, rfl, trivial⟩ ?_
        refine SL.nil (SE.calm (SE.thenK hK24 (SC.ret (SE.block_ret (SE.then_ret ?_)))))
        refine SE.jump_ret ?_
        refine SE.row0 (Dat.sz Tok) (Dat.cells (α := Tok)) ?_
        refine finO (val := fun v : Option Nat × Nat => Value.tuple #[.slice (rowA v.1) ((d_lex_Tokens p0).1).length v.2, Value.agg [.int .i64 (((d_lex_Tokens p0).2).code), .int .i64 (((d_lex_Tokens p0).2).line), .int .i64 (((d_lex_Tokens p0).2).col)].toArray]) (rs' := fun v => [Rw v.1 ((d_lex_Tokens p0).1) v.2]) (Φ := fun v w => ((d_lex_Tokens p0).1).length ≤ 9223372036854775807 ∧ ∀ x ∈ (d_lex_Tokens p0).1, Dat.ok x w) (none, 0) (u := Value.tuple #[.slice none 0 0, .agg [.int .i64 ((d_lex_cutter_piece yb12_0 yb12_1 yb12_2 yb12_3 l12 yb12_5 (byteAt p0 yb12_1)).2.2.2.2.2.1), .int .i64 ((d_lex_cutter_piece yb12_0 yb12_1 yb12_2 yb12_3 l12 yb12_5 (byteAt p0 yb12_1)).2.2.1), .int .i64 (((d_lex_cutter_piece yb12_0 yb12_1 yb12_2 yb12_3 l12 yb12_5 (byteAt p0 yb12_1)).2.1 - (d_lex_cutter_piece yb12_0 yb12_1 yb12_2 yb12_3 l12 yb12_5 (byteAt p0 yb12_1)).2.2.2.1) + 1)].toArray]) ?_ ?_ ?_ ?_ ?_ ?_
        · exact congrArg (fun z : List Tok × Flt => Value.tuple #[.slice (rowA none) (z.1).length 0, Value.agg [.int .i64 z.2.code, .int .i64 z.2.line, .int .i64 z.2.col].toArray]) (show (d_lex_Tokens p0) = (([], (⟨(d_lex_cutter_piece yb12_0 yb12_1 yb12_2 yb12_3 l12 yb12_5 (byteAt p0 yb12_1)).2.2.2.2.2.1, (d_lex_cutter_piece yb12_0 yb12_1 yb12_2 yb12_3 l12 yb12_5 (byteAt p0 yb12_1)).2.2.1, (((d_lex_cutter_piece yb12_0 yb12_1 yb12_2 yb12_3 l12 yb12_5 (byteAt p0 yb12_1)).2.1 - (d_lex_cutter_piece yb12_0 yb12_1 yb12_2 yb12_3 l12 yb12_5 (byteAt p0 yb12_1)).2.2.2.1) + 1)⟩ : Flt)) : List Tok × Flt) from (hTop.trans (thenL_inl ((hL1.symm.trans (show d_lex_Tokens_R4 p0 (k1p + 1) l12 yb12_0 yb12_1 yb12_2 yb12_3 yb12_5 yb3_0 yb3_1 yb3_2 = Sum.inl ([], (⟨(d_lex_cutter_piece yb12_0 yb12_1 yb12_2 yb12_3 l12 yb12_5 (byteAt p0 yb12_1)).2.2.2.2.2.1, (d_lex_cutter_piece yb12_0 yb12_1 yb12_2 yb12_3 l12 yb12_5 (byteAt p0 yb12_1)).2.2.1, (((d_lex_cutter_piece yb12_0 yb12_1 yb12_2 yb12_3 l12 yb12_5 (byteAt p0 yb12_1)).2.1 - (d_lex_cutter_piece yb12_0 yb12_1 yb12_2 yb12_3 l12 yb12_5 (byteAt p0 yb12_1)).2.2.2.1) + 1)⟩ : Flt)) from ((bifF c19).trans ((bifF c54).trans ((bifF c72).trans ((bifF c98).trans (bifT c34))))))))))).symm
        · exact runtc (k := 3) rfl rfl Tryd.isAgg26 Tryd.sizeOf26 rfl rfl rfl rfl
        · rfl
        · rfl
        · exact (congrArg (fun z : List Tok × Flt => List.Sublist [Rw none (z.1) 0] _) (show (d_lex_Tokens p0) = (([], (⟨(d_lex_cutter_piece yb12_0 yb12_1 yb12_2 yb12_3 l12 yb12_5 (byteAt p0 yb12_1)).2.2.2.2.2.1, (d_lex_cutter_piece yb12_0 yb12_1 yb12_2 yb12_3 l12 yb12_5 (byteAt p0 yb12_1)).2.2.1, (((d_lex_cutter_piece yb12_0 yb12_1 yb12_2 yb12_3 l12 yb12_5 (byteAt p0 yb12_1)).2.1 - (d_lex_cutter_piece yb12_0 yb12_1 yb12_2 yb12_3 l12 yb12_5 (byteAt p0 yb12_1)).2.2.2.1) + 1)⟩ : Flt)) : List Tok × Flt) from (hTop.trans (thenL_inl ((hL1.symm.trans (show d_lex_Tokens_R4 p0 (k1p + 1) l12 yb12_0 yb12_1 yb12_2 yb12_3 yb12_5 yb3_0 yb3_1 yb3_2 = Sum.inl ([], (⟨(d_lex_cutter_piece yb12_0 yb12_1 yb12_2 yb12_3 l12 yb12_5 (byteAt p0 yb12_1)).2.2.2.2.2.1, (d_lex_cutter_piece yb12_0 yb12_1 yb12_2 yb12_3 l12 yb12_5 (byteAt p0 yb12_1)).2.2.1, (((d_lex_cutter_piece yb12_0 yb12_1 yb12_2 yb12_3 l12 yb12_5 (byteAt p0 yb12_1)).2.1 - (d_lex_cutter_piece yb12_0 yb12_1 yb12_2 yb12_3 l12 yb12_5 (byteAt p0 yb12_1)).2.2.2.1) + 1)⟩ : Flt)) from ((bifF c19).trans ((bifF c54).trans ((bifF c72).trans ((bifF c98).trans (bifT c34)))))))))))).mpr (List.Sublist.cons_cons _ (List.Sublist.cons _ (List.Sublist.cons _ (List.Sublist.cons _ List.Sublist.slnil))))
        · exact fun w h => (congrArg (fun z : List Tok × Flt => (z.1).length ≤ 9223372036854775807 ∧ ∀ x ∈ z.1, Dat.ok x w) (show (d_lex_Tokens p0) = (([], (⟨(d_lex_cutter_piece yb12_0 yb12_1 yb12_2 yb12_3 l12 yb12_5 (byteAt p0 yb12_1)).2.2.2.2.2.1, (d_lex_cutter_piece yb12_0 yb12_1 yb12_2 yb12_3 l12 yb12_5 (byteAt p0 yb12_1)).2.2.1, (((d_lex_cutter_piece yb12_0 yb12_1 yb12_2 yb12_3 l12 yb12_5 (byteAt p0 yb12_1)).2.1 - (d_lex_cutter_piece yb12_0 yb12_1 yb12_2 yb12_3 l12 yb12_5 (byteAt p0 yb12_1)).2.2.2.1) + 1)⟩ : Flt)) : List Tok × Flt) from (hTop.trans (thenL_inl ((hL1.symm.trans (show d_lex_Tokens_R4 p0 (k1p + 1) l12 yb12_0 yb12_1 yb12_2 yb12_3 yb12_5 yb3_0 yb3_1 yb3_2 = Sum.inl ([], (⟨(d_lex_cutter_piece yb12_0 yb12_1 yb12_2 yb12_3 l12 yb12_5 (byteAt p0 yb12_1)).2.2.2.2.2.1, (d_lex_cutter_piece yb12_0 yb12_1 yb12_2 yb12_3 l12 yb12_5 (byteAt p0 yb12_1)).2.2.1, (((d_lex_cutter_piece yb12_0 yb12_1 yb12_2 yb12_3 l12 yb12_5 (byteAt p0 yb12_1)).2.1 - (d_lex_cutter_piece yb12_0 yb12_1 yb12_2 yb12_3 l12 yb12_5 (byteAt p0 yb12_1)).2.2.2.1) + 1)⟩ : Flt)) from ((bifF c19).trans ((bifF c54).trans ((bifF c72).trans ((bifF c98).trans (bifT c34)))))))))))).mpr ⟨by (try simp only [List.length_append, List.length_cons, List.length_nil]); omega, (fun x hx => nomatch hx)⟩
       ·
        have c34n := c34
        try simp only [Bool.and_eq_true, Bool.or_eq_true, decide_eq_true_eq, Bool.true_and, Bool.not_eq_true', Bool.not_eq_false', beq_iff_eq, bne_iff_ne, decide_eq_false_iff_not, beq_eq_false_iff_ne, bne_eq_false_iff_eq, ne_eq, Bool.or_eq_false_iff, Bool.and_eq_false_iff] at c34n
        have hpk2 := hpk.2.2.2.1 (by simpa using c34)
        refine SC.skip (SE.block_normal (SE.thenK hK13 ?_))
        refine SC.goto ?_
        refine SE.permO (own' := [_, _, _]) (List.Perm.swap _ _ _) ?_
        exact SE.jumpF (k1p, (d_lex_cutter_piece yb12_0 yb12_1 yb12_2 yb12_3 l12 yb12_5 (byteAt p0 yb12_1)).2.2.2.2.1, (d_lex_cutter_piece yb12_0 yb12_1 yb12_2 yb12_3 l12 yb12_5 (byteAt p0 yb12_1)).1, (d_lex_cutter_piece yb12_0 yb12_1 yb12_2 yb12_3 l12 yb12_5 (byteAt p0 yb12_1)).2.1, (d_lex_cutter_piece yb12_0 yb12_1 yb12_2 yb12_3 l12 yb12_5 (byteAt p0 yb12_1)).2.2.1, (d_lex_cutter_piece yb12_0 yb12_1 yb12_2 yb12_3 l12 yb12_5 (byteAt p0 yb12_1)).2.2.2.1, (d_lex_cutter_piece yb12_0 yb12_1 yb12_2 yb12_3 l12 yb12_5 (byteAt p0 yb12_1)).2.2.2.2.2.1, yb3_0, yb3_1, yb3_2, o33, c33, b12) ⟨rfl, rfl, rfl, trivial⟩ rfl (fun w h => And.intro (h.1.1) (And.intro ⟨((show d_lex_Tokens_R4 p0 (k1p + 1) l12 yb12_0 yb12_1 yb12_2 yb12_3 yb12_5 yb3_0 yb3_1 yb3_2 = d_lex_Tokens_R4 p0 k1p ((d_lex_cutter_piece yb12_0 yb12_1 yb12_2 yb12_3 l12 yb12_5 (byteAt p0 yb12_1)).2.2.2.2.1) ((d_lex_cutter_piece yb12_0 yb12_1 yb12_2 yb12_3 l12 yb12_5 (byteAt p0 yb12_1)).1) ((d_lex_cutter_piece yb12_0 yb12_1 yb12_2 yb12_3 l12 yb12_5 (byteAt p0 yb12_1)).2.1) ((d_lex_cutter_piece yb12_0 yb12_1 yb12_2 yb12_3 l12 yb12_5 (byteAt p0 yb12_1)).2.2.1) ((d_lex_cutter_piece yb12_0 yb12_1 yb12_2 yb12_3 l12 yb12_5 (byteAt p0 yb12_1)).2.2.2.1) ((d_lex_cutter_piece yb12_0 yb12_1 yb12_2 yb12_3 l12 yb12_5 (byteAt p0 yb12_1)).2.2.2.2.2.1) yb3_0 yb3_1 yb3_2 from ((bifF c19).trans ((bifF c54).trans ((bifF c72).trans ((bifF c98).trans (bifF c34)))))).symm.trans hL1), by (try dsimp only); omega, by first | exact hi1_0 | exact hpk.1.trans hi1_0, by (try dsimp only); omega, by (try dsimp only); omega, by (try dsimp only); omega, by (try dsimp only); omega, by (try dsimp only); omega, by (try dsimp only); omega, by (try dsimp only); omega, by (try dsimp only); omega, hTop⟩ (h.2))) (Nat.lt_succ_self _)
end Go.Proofs.YtjdiohhniiooeaaDoor
