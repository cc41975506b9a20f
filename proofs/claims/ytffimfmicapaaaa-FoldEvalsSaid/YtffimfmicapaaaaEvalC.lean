/- Contract of Eval. -/
import Derived.Test.YtffimfmicapaaaaEvalB
namespace Go.Proofs.Ytffimfmicapaaaa
open Go.RowKit
set_option linter.unusedVariables false
set_option linter.unusedSimpArgs false
set_option maxRecDepth 100000
open Pl (Vl)

def cellI (t : Int) : List Value := [.int .i64 t]
theorem cells_len (x : Vl) : x.cells.length = 4 := rfl
theorem cellI_len (x : Int) : (cellI x).length = 1 := rfl
theorem cellI_flat (ts : List Int) : ts.flatMap cellI = ts.map fun t => Value.int .i64 t := by
  induction ts with
  | nil => rfl
  | cons t ts ih => rw [List.flatMap_cons, ih]; rfl
section
variable {P : Program} {E : Env} {ops : Array Oper} {Q : Exit → Act → World → Prop} {rest : List Oper} {l : Slots} {own : Own} {F : World → Prop}
theorem SL.wants {L : Value → Slots} (v : Value) {o : Option (List Int)} {G : World → Prop}
    (K : ∀ (B : Option Addr) (ws : List Int), B.isNone = o.isNone → ws = o.getD [] → SL P E ops Q rest (L (.slice B ws.length ws.length)) own (fun w => G w ∧ Sl 1 cellI B ws w)) :
    SL P E ops Q rest (L v) own (fun w => G w ∧ (true = true → Go.Proofs.Ytffimfmicapaaaa.wants o v w)) := by
  cases o with
  | none =>
    refine SL.know (p := v = .slice none 0 0) (fun w h => h.2 rfl) (fun hv => ?_)
    subst hv
    exact SL.fact (fun w h => ⟨h.1, fun i x hx => by simp at hx⟩) (K none [] rfl rfl)
  | some ts =>
    refine SL.know (p := ∃ b, v = .slice (some ⟨b, 0, none⟩) ts.length ts.length) (fun w h => by obtain ⟨b, hv, _⟩ := h.2 rfl; exact ⟨b, hv⟩) (fun hv => ?_)
    obtain ⟨b, hv⟩ := hv
    subst hv
    refine SL.fact (fun w h => ⟨h.1, ?_⟩) (K (some ⟨b, 0, none⟩) ts rfl rfl)
    obtain ⟨b', hv, hb⟩ := h.2 rfl
    simp only [Value.slice.injEq, Option.some.injEq, Addr.mk.injEq, and_true] at hv
    subst hv
    exact Sl.of_blk (cells := cellI) cellI_len (cellI_flat ts) hb
end
theorem clear_G (i : In) (bl n c : Nat) (L : List Vl) (hn : L.length = n) (h : n = 2 ∨ n = 1 ∧ (i.op == 29) = false ∧ decide (20 ≤ i.op) = true) (hL : ∀ y ∈ L, 0 ≤ y.b ∧ y.b < 18446744073709551616) (hf : -9223372036854775808 ≤ i.f ∧ i.f ≤ 9223372036854775807) :
    SpecG Try.prog 23 [i.val, .slice (some ⟨bl, 0, none⟩) n c] [.blk bl (L.flatMap Vl.cells)]
      (fun _ => True) (fun _ => []) (fun v _ => v = outV (Pl.clear i.op i.t i.n i.f (Pl.at_ L 0) (Pl.at_ L 1))) := by
  subst hn
  rcases h with h | ⟨h, h1, h2⟩
  · obtain ⟨a, b, rfl⟩ : ∃ a b, L = [a, b] := by
      rcases L with _ | ⟨a, _ | ⟨b, _ | ⟨c, L⟩⟩⟩ <;> simp at h
      exact ⟨a, b, rfl⟩
    exact clear2_G i bl c a b (hL b (by simp)) (hL a (by simp)) hf
  · obtain ⟨a, rfl⟩ : ∃ a, L = [a] := by
      rcases L with _ | ⟨a, _ | ⟨b, L⟩⟩ <;> simp at h
      exact ⟨a, rfl⟩
    exact clear1_G i bl c a Vl.zero (hL a (by simp)) h1 h2

theorem Eval_S (i : In) (A : Option Addr) (c : Nat) (xs : List Vl) (hx : ∀ x ∈ xs, 0 ≤ x.b ∧ x.b < 18446744073709551616) (hf : -9223372036854775808 ≤ i.f ∧ i.f ≤ 9223372036854775807) :
    Spec Try.prog 9 [i.val, .slice A xs.length c] (Sl 4 Vl.cells A xs) (fun v _ => v = outV (Pl.eval i.op i.t i.n i.f xs)) := by
  refine Spec.enter Try.func9 rfl (n := 106) Try.ntmps9 (Nat.le_of_ble_eq_true rfl) (l := [(0, _, _), (1, _, _)]) rfl ?_
  intro S w
  refine SC.seq (fun K1 hK1 => SC.region ?_)
  refine SL.box (cs := [_, _, _, _, _, _, _]) rfl rfl rfl rfl rfl (fun b2 => ?_)
  refine SL.alloc (cs := [_, _, _, _]) Try.zeroValue35 rfl rfl rfl (fun b4 => ?_)
  refine SL.step (PS.assign rfl tt rfl rfl) ?_
  refine SL.keep (l' := [(4, _, _), (2, _, _), (1, _, _)]) ⟨rfl, rfl, rfl, trivial⟩ ?_
  refine SL.nil (SE.thenK hK1 (SC.seq (fun K2 hK2 => SC.region ?_)))
  first | refine SL.step (PS.load_own_agg (k := 0) (vs := [_, _, _, _, _, _, _]) rfl tt rfl rfl rfl rfl Try.isAgg25 Try.sizeOf25 rfl rfl) ?_ | refine SL.step (PS.load_own_agg (k := 1) (vs := [_, _, _, _, _, _, _]) rfl tt rfl rfl rfl rfl Try.isAgg25 Try.sizeOf25 rfl rfl) ?_
  refine SL.call (vs := [_]) Try.call17 ⟨⟨_, rfl, tt⟩, trivial⟩ (fun hg => kinds_S i) (fun _ _ _ => trivial) rfl rfl (fun v14 => ?_)
  refine SL.wants (L := fun v => [(14, true, v), (13, true, _), (4, true, _), (2, true, _), (1, true, _)]) (G := Sl 4 Vl.cells A xs) (o := Pl.kinds i.op i.t i.n i.f) v14 ?_
  intro B ws hB hws
  refine SL.step (PS.assign rfl tt rfl rfl) ?_
  refine SL.keep (l' := [(6, _, _), (4, _, _), (2, _, _), (1, _, _)]) ⟨rfl, rfl, rfl, rfl, trivial⟩ ?_
  refine SL.nil (SE.thenK hK2 (SC.seq (fun K3 hK3 => SC.seq (fun K4 hK4 => SC.region ?_))))
  refine SL.step (PS.move rfl tt rfl rfl) ?_
  refine SL.step (PS.eqlN rfl tt rfl tt Try.underlying23 rfl rfl) ?_
  refine SL.step (PS.move rfl tt rfl rfl) ?_
  refine SL.step (PS.move rfl tt rfl rfl) ?_
  refine SL.step (PS.len_slice rfl (fun h => h) Try.underlying23 rfl rfl) ?_
  refine SL.step (PS.move rfl tt rfl rfl) ?_
  refine SL.step (PS.len_slice rfl (fun h => h) Try.underlying33 rfl rfl) ?_
  refine SL.step (PS.neq rfl (fun h => h) rfl (fun h => h) rfl rfl) ?_
  refine SL.step (PS.pick_or rfl tt rfl (fun h h2 => pk_or h h2) rfl rfl) ?_
  refine SL.keep (l' := [(23, _, _), (6, _, _), (4, _, _), (2, _, _), (1, _, _)]) ⟨rfl, rfl, rfl, rfl, rfl, trivial⟩ ?_
  refine SL.nil (SE.thenK hK4 ?_)
  refine SC.cond rfl (fun c23 => ?_) (fun c23 => ?_)
  ·
   refine SC.seq (fun K5 hK5 => SC.region ?_)
   refine SL.step (PS.build (us := []) (vs := [_, _, _, _]) trivial Try.underlying35 Try.zeroValue35 (Try.places_35 Try.underlying35) rfl rfl rfl) ?_
   first | refine SL.store_own (k := 0) (own' := [_, _]) (cs' := [_, _, _, _]) rfl rfl rfl rfl rfl rfl rfl Try.sizeOf35 rfl (Nat.le_of_ble_eq_true rfl) rfl rfl rfl rfl ?_ | refine SL.store_own (k := 1) (own' := [_, _]) (cs' := [_, _, _, _, _, _, _]) rfl rfl rfl rfl rfl rfl rfl Try.sizeOf35 rfl (Nat.le_of_ble_eq_true rfl) rfl rfl rfl rfl ?_
   refine SL.step (PS.assign rfl tt rfl rfl) ?_
   refine SL.keep (l' := [(5, _, _), (4, _, _)]) ⟨rfl, rfl, trivial⟩ ?_
   refine SL.nil (SE.thenK hK5 (SC.ret (SE.then_ret ?_)))
   exact finct (k := 0) rfl Try.isAgg35 Try.sizeOf35 rfl rfl rfl rfl rfl rfl (fun _ _ => outV_eq (Pl.eval_bad hB hws c23))
  ·
   obtain ⟨hk, hlen⟩ := Pl.eval_good hB hws c23
   have hev := Pl.eval_made hk hlen
   have har := Pl.kinds_len hk
   have har3 := Pl.arity_le i.op
   have hlen3 : xs.length ≤ 3 := by omega
   have hrl := Pl.row_length hlen
   refine SC.skip (SE.thenK hK3 (SC.seq (fun K6 hK6 => SC.region ?_)))
   refine SL.step (PS.move rfl tt rfl rfl) ?_
   refine SL.step (PS.len_slice rfl tt Try.underlying33 rfl rfl) ?_
   refine SL.makeSlice (zs := [_, _, _, _]) rfl rfl rfl rfl (rfl) (rfl) (Nat.le_refl _) Try.underlying33 Try.bytes_35 Try.sizeOf35 Try.zeroValue35 rfl rfl (by omega) (by omega) rfl rfl (fun b27 => ?_)
   refine SL.step (PS.assign rfl tt rfl rfl) ?_
   refine SL.keep (l' := [(7, _, _), (6, _, _), (4, _, _), (2, _, _), (1, _, _)]) ⟨rfl, rfl, rfl, rfl, rfl, trivial⟩ ?_
   refine SL.nil (SE.thenK hK6 (SC.seq (fun K7 hK7 => SC.region ?_)))
   refine SL.step (PS.assign rfl tt rfl rfl) ?_
   refine SL.step (PS.assign rfl tt rfl rfl) ?_
   refine SL.nil (SE.thenK hK7 (SC.seq (fun K8 hK8 => SC.seq (fun K9 hK9 => SC.region ?_))))
   refine SL.step (PS.move rfl tt rfl rfl) ?_
   refine SL.step (PS.len_slice rfl tt Try.underlying33 rfl rfl) ?_
   refine SL.step (PS.move rfl tt rfl rfl) ?_
   refine SL.keep (l' := [(30, _, _), (29, _, _), (28, _, _), (9, _, _), (8, _, _), (7, _, _), (6, _, _), (4, _, _), (2, _, _)]) ⟨rfl, rfl, rfl, rfl, rfl, rfl, rfl, rfl, rfl, trivial⟩ ?_
   refine SL.blk_eq (cs' := (Pl.fill ws xs 0).flatMap Vl.cells) (rep_flat _ Vl.zero Vl.cells) ?_
   refine SL.nil (SE.thenK hK9 (SC.block ?_))
   refine SC.loop (fun j : Nat => ⟨[(30, true, .int .i64 (j : Int)), (29, true, .int .i64 (xs.length : Int)), (28, true, .slice A xs.length c), (9, true, .bool (Pl.has 3 ws xs j)), (8, true, .bool (Pl.has 0 ws xs j)), (7, true, .slice (some ⟨b27, 0, none⟩) xs.length xs.length), (6, true, .slice B ws.length ws.length), (4, true, .pointer (some ⟨b4, 0, none⟩)), (2, true, .pointer (some ⟨b2, 0, none⟩))], [.blk b27 ((Pl.fill ws xs j).flatMap Vl.cells), .blk b4 [.int .i64 0, .int .u64 0, .int .i64 0, .int .i64 0], .blk b2 [.int .i64 i.op, .int .i64 i.reg, .int .i64 i.t, .int .i64 i.n, .int .i64 i.f, .slice i.args.1 i.args.2.1 i.args.2.2, .slice i.to.1 i.to.2.1 i.to.2.2]], fun w => (Sl 4 Vl.cells A xs w ∧ Sl 1 cellI B ws w) ∧ j ≤ xs.length⟩) (fun j => xs.length - j) (0) rfl ⟨rfl, rfl, rfl, rfl, rfl, rfl, rfl, rfl, rfl, trivial⟩ (fun w h => ⟨h, Nat.zero_le _⟩) (fun j => ?_)
   dsimp only
   refine SC.know (fun w h => h.2) (fun hj => ?_)
   refine SC.seq (fun K10 hK10 => SC.region ?_)
   refine SL.step (PS.lss rfl tt rfl tt rfl rfl) ?_
   refine SL.nil (SE.thenK hK10 (SC.seq (fun K11 hK11 => ?_)))
   refine SC.cond rfl (fun c31 => ?_) (fun c31 => ?_)
   ·
    have hlt : j < xs.length := by simpa using c31
    obtain ⟨x, hx0⟩ : ∃ x, xs[j]? = some x := ⟨_, List.getElem?_eq_getElem hlt⟩
    obtain ⟨t, hw0⟩ : ∃ t, ws[j]? = some t := ⟨_, List.getElem?_eq_getElem (by omega)⟩
    have hxr := hx x (List.mem_of_getElem? hx0)
    have hfl := Pl.fill_length hlen hj
    have hry := Pl.row_get hw0 hx0
    refine SC.know (p := ∃ ad, A = some ad) (fun w h => by obtain ⟨ad, h1, _⟩ := h.1.1 j x hx0; exact ⟨ad, h1⟩) (fun hA => ?_)
    obtain ⟨ad, rfl⟩ := hA
    refine SC.know (p := ∃ bd, B = some bd) (fun w h => by obtain ⟨ad, h1, _⟩ := h.1.2 j t hw0; exact ⟨ad, h1⟩) (fun hB => ?_)
    obtain ⟨bd, rfl⟩ := hB
    refine SC.skip (SE.thenK hK11 (SC.seq (fun K12 hK12 => SC.block (SC.seq (fun K13 hK13 => SC.region ?_)))))
    refine SL.step (PS.move rfl tt rfl rfl) ?_
    refine SL.step (PS.indexAddr rfl tt rfl tt Try.underlying33 Try.sizeOf35 (fun _ _ _ => by omega) rfl rfl) ?_
    refine SL.step (PS.load_F_agg (vs := [_, _, _, _]) rfl tt rfl Try.isAgg35 Try.sizeOf35 (fun w h _ => h.1.1.cell (i := j) hx0 (by simp)) rfl rfl) ?_
    refine SL.alloc (cs := [_, _, _, _]) Try.zeroValue35 rfl rfl rfl (fun b11 => ?_)
    refine SL.step (PS.assign rfl tt rfl rfl) ?_
    first | refine SL.store_own (k := 0) (own' := [_, _, _, _]) (cs' := [_, _, _, _]) rfl rfl rfl rfl rfl rfl rfl Try.sizeOf35 rfl (Nat.le_of_ble_eq_true rfl) rfl rfl rfl rfl ?_ | refine SL.store_own (k := 1) (own' := [_, _, _, _]) (cs' := _) rfl rfl rfl rfl rfl rfl rfl Try.sizeOf35 rfl (Nat.le_of_ble_eq_true rfl) rfl rfl rfl rfl ?_ | refine SL.store_own (k := 2) (own' := [_, _, _, _]) (cs' := [_, _, _, _]) rfl rfl rfl rfl rfl rfl rfl Try.sizeOf35 rfl (Nat.le_of_ble_eq_true rfl) rfl rfl rfl rfl ?_ | refine SL.store_own (k := 3) (own' := [_, _, _, _]) (cs' := [_, _, _, _, _, _, _]) rfl rfl rfl rfl rfl rfl rfl Try.sizeOf35 rfl (Nat.le_of_ble_eq_true rfl) rfl rfl rfl rfl ?_
    refine SL.keep (l' := [(10, _, _), (11, _, _), (30, _, _), (29, _, _), (28, _, _), (9, _, _), (8, _, _), (7, _, _), (6, _, _), (4, _, _), (2, _, _)]) ⟨rfl, rfl, rfl, rfl, rfl, rfl, rfl, rfl, rfl, rfl, rfl, trivial⟩ ?_
    refine SL.nil (SE.thenK hK13 (SC.seq (fun K14 hK14 => ?_)))
    refine SC.draw (S := SP _ _ _) 9 (by kernel_rfl) (by kernel_rfl) (fun _ h => h) ?_
    refine SD.take 0 rfl rfl (by kernel_rfl) (PS.move rfl tt rfl rfl) ?_
    refine SD.take 1 rfl rfl (by kernel_rfl) (PS.move rfl tt rfl rfl) ?_
    refine SD.take 2 rfl rfl (by kernel_rfl) (PS.move rfl tt rfl rfl) ?_
    refine SD.take 3 rfl rfl (by kernel_rfl) (PS.move rfl tt rfl rfl) ?_
    refine SD.take 4 rfl rfl (by kernel_rfl) (PS.indexAddr rfl tt rfl tt Try.underlying23 Try.sizeOf3 (fun _ _ _ => by omega) rfl rfl) ?_
    refine SD.take 5 rfl rfl (by kernel_rfl) (PS.load_F rfl tt Try.isAgg3 (fun w h _ => h.1.2.at_ (i := j) (j := 0) hw0 (by simp) rfl) rfl rfl) ?_
    first | refine SD.take 6 rfl rfl (by kernel_rfl) (PS.load_own_agg (k := 0) (vs := [_, _, _, _]) rfl tt rfl rfl rfl rfl Try.isAgg35 Try.sizeOf35 rfl rfl) ?_ | refine SD.take 6 rfl rfl (by kernel_rfl) (PS.load_own_agg (k := 1) (vs := [_, _, _, _]) rfl tt rfl rfl rfl rfl Try.isAgg35 Try.sizeOf35 rfl rfl) ?_ | refine SD.take 6 rfl rfl (by kernel_rfl) (PS.load_own_agg (k := 2) (vs := [_, _, _, _]) rfl tt rfl rfl rfl rfl Try.isAgg35 Try.sizeOf35 rfl rfl) ?_ | refine SD.take 6 rfl rfl (by kernel_rfl) (PS.load_own_agg (k := 3) (vs := [_, _, _, _]) rfl tt rfl rfl rfl rfl Try.isAgg35 Try.sizeOf35 rfl rfl) ?_
    refine SD.one 7 rfl (by kernel_rfl) (fun inv7 => ?_)
    refine SL.callV (vs := [_, _]) Try.call18 ⟨⟨_, rfl, tt⟩, ⟨_, rfl, tt⟩, trivial⟩ (fun hg => norm_V t x hxr.1 hxr.2) rfl rfl ?_
    refine SL.nil ?_
    refine SE.next (fun _ h => h.drop (List.Sublist.refl _) (fun _ h => h)) inv7 ?_
    refine SD.take 8 rfl rfl (by kernel_rfl) (PS.indexAddr rfl tt rfl tt Try.underlying33 Try.sizeOf35 (fun _ _ _ => by omega) rfl rfl) ?_
    clear inv7
    refine SD.tail (by kernel_rfl) (os := [_]) rfl ?_
    refine SL.store_own (k := 1) (own' := [_, .blk b27 (((Pl.fill ws xs j).set j (Pl.norm t x)).flatMap Vl.cells), _, _]) rfl rfl rfl rfl (add_none _ _ _) rfl rfl Try.sizeOf35 rfl (by rw [flat_length cells_len, hfl]; omega) rfl (splice_flat' (xs := Pl.fill ws xs j) (i := j) (v := Pl.norm t x) cells_len (by omega) (by omega) rfl) rfl rfl ?_
    refine SL.keep (l' := [(10, _, _), (30, _, _), (29, _, _), (28, _, _), (9, _, _), (8, _, _), (7, _, _), (6, _, _), (4, _, _), (2, _, _)]) ⟨rfl, rfl, rfl, rfl, rfl, rfl, rfl, rfl, rfl, rfl, trivial⟩ ?_
    refine SL.nil (SE.calm (SE.thenK hK14 (SC.seq (fun K15 hK15 => SC.region ?_))))
    refine SL.step (PS.move rfl tt rfl rfl) ?_
    refine SL.step (PS.move rfl tt rfl rfl) ?_
    refine SL.step (PS.move rfl tt rfl rfl) ?_
    refine SL.step (PS.move rfl tt rfl rfl) ?_
    refine SL.step (PS.indexAddr rfl (fun h => h) rfl (fun h => h) Try.underlying33 Try.sizeOf35 (fun _ _ _ => by omega) rfl rfl) ?_
    refine SL.step (PS.fieldAddr rfl (fun h => h) Try.fieldAt_35_0 rfl rfl) ?_
    refine SL.step (PS.load_own (k := 1) rfl (fun h => h) (add2_none _ _ _ _) rfl (nth_flat' (i := j) (j := 0) (x := Pl.norm t x) cells_len (List.getElem?_set_self (by omega)) rfl (by omega)) Try.isAgg3 rfl rfl) ?_
    refine SL.step (PS.eql rfl (fun h => h) rfl tt rfl rfl) ?_
    refine SL.step (PS.pick_or rfl tt rfl (fun h h2 => pk_or h h2) rfl rfl) ?_
    refine SL.step (PS.assign rfl tt rfl rfl) ?_
    refine SL.keep (l' := [(8, _, _), (10, _, _), (30, _, _), (29, _, _), (28, _, _), (9, _, _), (7, _, _), (6, _, _), (4, _, _), (2, _, _)]) ⟨rfl, rfl, rfl, rfl, rfl, rfl, rfl, rfl, rfl, rfl, trivial⟩ ?_
    refine SL.nil (SE.thenK hK15 (SC.region ?_))
    refine SL.step (PS.move rfl tt rfl rfl) ?_
    refine SL.step (PS.move rfl tt rfl rfl) ?_
    refine SL.step (PS.move rfl tt rfl rfl) ?_
    refine SL.step (PS.move rfl tt rfl rfl) ?_
    refine SL.step (PS.indexAddr rfl (fun h => h) rfl (fun h => h) Try.underlying33 Try.sizeOf35 (fun _ _ _ => by omega) rfl rfl) ?_
    refine SL.step (PS.fieldAddr rfl (fun h => h) Try.fieldAt_35_0 rfl rfl) ?_
    refine SL.step (PS.load_own (k := 1) rfl (fun h => h) (add2_none _ _ _ _) rfl (nth_flat' (i := j) (j := 0) (x := Pl.norm t x) cells_len (List.getElem?_set_self (by omega)) rfl (by omega)) Try.isAgg3 rfl rfl) ?_
    refine SL.step (PS.eql rfl (fun h => h) rfl tt rfl rfl) ?_
    refine SL.step (PS.pick_or rfl tt rfl (fun h h2 => pk_or h h2) rfl rfl) ?_
    refine SL.step (PS.assign rfl tt rfl rfl) ?_
    refine SL.keep (l' := [(9, _, _), (8, _, _), (30, _, _), (29, _, _), (28, _, _), (7, _, _), (6, _, _), (4, _, _), (2, _, _)]) ⟨rfl, rfl, rfl, rfl, rfl, rfl, rfl, rfl, rfl, trivial⟩ ?_
    refine SL.nil (SE.block_normal (SE.thenK hK12 (SC.region ?_)))
    first | refine SL.step (PS.add_in rfl tt rfl tt (fun _ => wr_i64 (by omega)) rfl rfl) ?_ | refine SL.step (PS.add rfl tt rfl tt rfl rfl) ?_
    refine SL.step (PS.move rfl tt rfl rfl) ?_
    refine SL.keep (l' := [(30, _, _), (9, _, _), (8, _, _), (29, _, _), (28, _, _), (7, _, _), (6, _, _), (4, _, _), (2, _, _)]) ⟨rfl, rfl, rfl, rfl, rfl, rfl, rfl, rfl, rfl, trivial⟩ ?_
    refine SL.nil ?_
    refine SE.give ?_
    refine SE.blk_eq (cs' := (Pl.fill ws xs (j + 1)).flatMap Vl.cells) (by rw [Pl.fill_succ hlen hry]) ?_
    rw [← Pl.has_succ 0 hry, ← Pl.has_succ 3 hry]
    exact SE.again (j + 1) rfl ⟨rfl, rfl, rfl, rfl, rfl, rfl, rfl, rfl, rfl, trivial⟩ (fun w h => ⟨h.1.1, by omega⟩) (by omega)
   ·
    have hjn : j = xs.length := by simp at c31; omega
    subst hjn
    rw [Pl.fill_all hlen, Pl.has_all 0 hlen, Pl.has_all 3 hlen]
    refine SC.exit (SE.then_exit (SE.then_exit (SE.block_same (SE.thenK hK8 (SC.seq (fun K16 hK16 => SC.seq (fun K17 hK17 => SC.region ?_)))))))
    refine SL.step (PS.fieldAddr rfl tt Try.fieldAt_25_0 rfl rfl) ?_
    first | refine SL.step (PS.load_own (k := 0) rfl tt rfl rfl rfl Try.isAgg3 rfl rfl) ?_ | refine SL.step (PS.load_own (k := 1) rfl tt rfl rfl rfl Try.isAgg3 rfl rfl) ?_ | refine SL.step (PS.load_own (k := 2) rfl tt rfl rfl rfl Try.isAgg3 rfl rfl) ?_
    refine SL.step (PS.geq rfl tt rfl tt rfl rfl) ?_
    refine SL.step (PS.move rfl tt rfl rfl) ?_
    refine SL.step (PS.fieldAddr rfl tt Try.fieldAt_25_0 rfl rfl) ?_
    first | refine SL.step (PS.load_own (k := 0) rfl (fun h => h) rfl rfl rfl Try.isAgg3 rfl rfl) ?_ | refine SL.step (PS.load_own (k := 1) rfl (fun h => h) rfl rfl rfl Try.isAgg3 rfl rfl) ?_ | refine SL.step (PS.load_own (k := 2) rfl (fun h => h) rfl rfl rfl Try.isAgg3 rfl rfl) ?_
    refine SL.step (PS.leq rfl (fun h => h) rfl tt rfl rfl) ?_
    refine SL.step (PS.pick_and rfl tt rfl (fun h h2 => pk_and h h2) rfl rfl) ?_
    refine SL.keep (l' := [(70, _, _), (9, _, _), (8, _, _), (7, _, _), (4, _, _), (2, _, _)]) ⟨rfl, rfl, rfl, rfl, rfl, rfl, trivial⟩ ?_
    refine SL.nil (SE.thenK hK17 ?_)
    refine SC.cond rfl (fun c70 => ?_) (fun c70 => ?_)
    ·
     have h2 : xs.length = 2 := by rw [← hlen, har.1, Pl.arity_div c70]
     refine SC.seq (fun K18 hK18 => SC.region ?_)
     first | refine SL.step (PS.load_own_agg (k := 0) (vs := [_, _, _, _, _, _, _]) rfl tt rfl rfl rfl rfl Try.isAgg25 Try.sizeOf25 rfl rfl) ?_ | refine SL.step (PS.load_own_agg (k := 1) (vs := [_, _, _, _, _, _, _]) rfl tt rfl rfl rfl rfl Try.isAgg25 Try.sizeOf25 rfl rfl) ?_ | refine SL.step (PS.load_own_agg (k := 2) (vs := [_, _, _, _, _, _, _]) rfl tt rfl rfl rfl rfl Try.isAgg25 Try.sizeOf25 rfl rfl) ?_
     refine SL.step (PS.move rfl tt rfl rfl) ?_
     refine SL.callQ (vs := [_, _]) Try.call19 ⟨⟨_, rfl, tt⟩, ⟨_, rfl, tt⟩, trivial⟩ (fun hg => divisor_S i _ _ _ (Pl.row ws xs) _ _ (Pl.at_get (by omega)) (Pl.at_get (by omega)) (by omega)) (fun w h hok _ => Sl.of_blk cells_len rfl (own_get hok (k := 0) rfl)) rfl rfl (fun v73 hv73 => ?_)
     obtain rfl := hv73 rfl
     refine SL.step (PS.assign rfl tt rfl rfl) ?_
     refine SL.keep (l' := [(12, _, _), (9, _, _), (8, _, _), (7, _, _), (4, _, _), (2, _, _)]) ⟨rfl, rfl, rfl, rfl, rfl, rfl, trivial⟩ ?_
     refine SL.nil (SE.thenK hK18 (SC.seq (fun K19 hK19 => SC.region ?_)))
     refine SL.step (PS.move rfl tt rfl rfl) ?_
     refine SL.step (PS.neq rfl tt rfl tt rfl rfl) ?_
     refine SL.keep (l' := [(75, _, _), (12, _, _), (9, _, _), (8, _, _), (7, _, _), (4, _, _), (2, _, _)]) ⟨rfl, rfl, rfl, rfl, rfl, rfl, rfl, trivial⟩ ?_
     refine SL.nil (SE.thenK hK19 ?_)
     refine SC.cond rfl (fun c75 => ?_) (fun c75 => ?_)
     ·
      refine SC.seq (fun K20 hK20 => SC.region ?_)
      refine SL.step (PS.build (us := []) (vs := [_, _, _, _]) trivial Try.underlying35 Try.zeroValue35 (Try.places_35 Try.underlying35) rfl rfl rfl) ?_
      refine SL.step (PS.move rfl tt rfl rfl) ?_
      first | refine SL.store_own (k := 0) (own' := [_, _, _]) (cs' := _) rfl rfl rfl rfl rfl rfl rfl Try.sizeOf35 rfl (Nat.le_of_ble_eq_true rfl) rfl rfl rfl rfl ?_ | refine SL.store_own (k := 1) (own' := [_, _, _]) (cs' := [_, _, _, _]) rfl rfl rfl rfl rfl rfl rfl Try.sizeOf35 rfl (Nat.le_of_ble_eq_true rfl) rfl rfl rfl rfl ?_ | refine SL.store_own (k := 2) (own' := [_, _, _]) (cs' := [_, _, _, _, _, _, _]) rfl rfl rfl rfl rfl rfl rfl Try.sizeOf35 rfl (Nat.le_of_ble_eq_true rfl) rfl rfl rfl rfl ?_
      refine SL.step (PS.assign rfl tt rfl rfl) ?_
      refine SL.keep (l' := [(5, _, _), (4, _, _)]) ⟨rfl, rfl, trivial⟩ ?_
      refine SL.nil (SE.thenK hK20 (SC.ret (SE.then_ret ?_)))
      exact finct (k := 1) rfl Try.isAgg35 Try.sizeOf35 rfl rfl rfl rfl rfl rfl (fun _ _ => by rw [hev]; clear hev hws hB hk har hlen; simp only [Pl.made, Pl.isDiv, *, Bool.true_and, Bool.false_and, cond_true, cond_false]; rfl)
     ·
      refine SC.skip (SE.thenK hK16 (SC.seq (fun K21 hK21 => SC.block (SC.seq (fun K22 hK22 => SC.region ?_)))))
      refine SL.step (PS.fieldAddr rfl tt Try.fieldAt_25_0 rfl rfl) ?_
      first | refine SL.step (PS.load_own (k := 0) rfl tt rfl rfl rfl Try.isAgg3 rfl rfl) ?_ | refine SL.step (PS.load_own (k := 1) rfl tt rfl rfl rfl Try.isAgg3 rfl rfl) ?_ | refine SL.step (PS.load_own (k := 2) rfl tt rfl rfl rfl Try.isAgg3 rfl rfl) ?_
      refine SL.step (PS.eql rfl tt rfl tt rfl rfl) ?_
      refine SL.step (PS.assign rfl tt rfl rfl) ?_
      refine SL.keep (l' := [(78, _, _), (9, _, _), (8, _, _), (7, _, _), (4, _, _), (2, _, _)]) ⟨rfl, rfl, rfl, rfl, rfl, rfl, trivial⟩ ?_
      refine SL.nil (SE.thenK hK22 ?_)
      refine SC.cond rfl (fun c78 => ?_) (fun c78 => ?_)
      ·
       refine SC.seq (fun K23 hK23 => SC.seq (fun K24 hK24 => SC.region ?_))
       refine SL.step (PS.move rfl tt rfl rfl) ?_
       refine SL.keep (l' := [(82, _, _), (7, _, _), (4, _, _)]) ⟨rfl, rfl, rfl, trivial⟩ ?_
       refine SL.nil (SE.thenK hK24 ?_)
       refine SC.cond rfl (fun c82 => ?_) (fun c82 => ?_)
       ·
        refine SC.seq (fun K25 hK25 => SC.region ?_)
        refine SL.callV (vs := []) Try.call20 trivial (fun hg => anyone_V) rfl rfl ?_
        first | refine SL.store_own (k := 0) (own' := [_, _, _]) (cs' := _) rfl rfl rfl rfl rfl rfl rfl Try.sizeOf35 rfl (Nat.le_of_ble_eq_true rfl) rfl rfl rfl rfl ?_ | refine SL.store_own (k := 1) (own' := [_, _, _]) (cs' := [_, _, _, _]) rfl rfl rfl rfl rfl rfl rfl Try.sizeOf35 rfl (Nat.le_of_ble_eq_true rfl) rfl rfl rfl rfl ?_ | refine SL.store_own (k := 2) (own' := [_, _, _]) (cs' := [_, _, _, _, _, _, _]) rfl rfl rfl rfl rfl rfl rfl Try.sizeOf35 rfl (Nat.le_of_ble_eq_true rfl) rfl rfl rfl rfl ?_
        refine SL.step (PS.assign rfl tt rfl rfl) ?_
        refine SL.keep (l' := [(5, _, _), (4, _, _)]) ⟨rfl, rfl, trivial⟩ ?_
        refine SL.nil (SE.thenK hK25 (SC.ret (SE.then_ret (SE.block_ret (SE.then_ret ?_)))))
        exact finct (k := 1) rfl Try.isAgg35 Try.sizeOf35 rfl rfl rfl rfl rfl rfl (fun _ _ => by rw [hev]; clear hev hws hB hk har hlen; simp only [Pl.made, Pl.isDiv, *, Bool.true_and, Bool.false_and, cond_true, cond_false]; rfl)
       ·
        refine SC.skip (SE.thenK hK23 (SC.seq (fun K26 hK26 => SC.region ?_)))
        refine SL.step (PS.move rfl tt rfl rfl) ?_
        refine SL.step (PS.indexAddr rfl tt rfl tt Try.underlying33 Try.sizeOf35 (fun _ _ _ => by omega) rfl rfl) ?_
        refine SL.step (PS.load_own_agg (k := 0) rfl (fun h => rfl) rfl rfl (cut_flat' (i := 0) cells_len (Pl.at_get (by omega)) rfl) rfl Try.isAgg35 Try.sizeOf35 rfl rfl) ?_
        first | refine SL.store_own (k := 0) (own' := [_, _, _]) (cs' := _) rfl rfl rfl rfl rfl rfl rfl Try.sizeOf35 rfl (Nat.le_of_ble_eq_true rfl) rfl rfl rfl rfl ?_ | refine SL.store_own (k := 1) (own' := [_, _, _]) (cs' := [_, _, _, _]) rfl rfl rfl rfl rfl rfl rfl Try.sizeOf35 rfl (Nat.le_of_ble_eq_true rfl) rfl rfl rfl rfl ?_ | refine SL.store_own (k := 2) (own' := [_, _, _]) (cs' := [_, _, _, _, _, _, _]) rfl rfl rfl rfl rfl rfl rfl Try.sizeOf35 rfl (Nat.le_of_ble_eq_true rfl) rfl rfl rfl rfl ?_
        refine SL.step (PS.assign rfl tt rfl rfl) ?_
        refine SL.keep (l' := [(5, _, _), (4, _, _)]) ⟨rfl, rfl, trivial⟩ ?_
        refine SL.nil (SE.thenK hK26 (SC.ret (SE.block_ret (SE.then_ret ?_))))
        exact finct (k := 1) rfl Try.isAgg35 Try.sizeOf35 rfl rfl rfl rfl rfl rfl (fun _ _ => by rw [hev]; clear hev hws hB hk har hlen; simp only [Pl.made, Pl.isDiv, *, Bool.true_and, Bool.false_and, cond_true, cond_false]; rfl)
      ·
       refine SC.seq (fun K27 hK27 => SC.region ?_)
       refine SL.step (PS.fieldAddr rfl tt Try.fieldAt_25_0 rfl rfl) ?_
       first | refine SL.step (PS.load_own (k := 0) rfl tt rfl rfl rfl Try.isAgg3 rfl rfl) ?_ | refine SL.step (PS.load_own (k := 1) rfl tt rfl rfl rfl Try.isAgg3 rfl rfl) ?_ | refine SL.step (PS.load_own (k := 2) rfl tt rfl rfl rfl Try.isAgg3 rfl rfl) ?_
       refine SL.step (PS.eql rfl tt rfl tt rfl rfl) ?_
       refine SL.step (PS.assign rfl tt rfl rfl) ?_
       refine SL.keep (l' := [(87, _, _), (9, _, _), (8, _, _), (7, _, _), (4, _, _), (2, _, _)]) ⟨rfl, rfl, rfl, rfl, rfl, rfl, trivial⟩ ?_
       refine SL.nil (SE.thenK hK27 ?_)
       refine SC.cond rfl (fun c87 => ?_) (fun c87 => ?_)
       ·
        have h3 : xs.length = 3 := by rw [← hlen, har.1, Pl.arity_23 c87]
        refine SC.seq (fun K28 hK28 => SC.region ?_)
        refine SL.step (PS.move rfl tt rfl rfl) ?_
        refine SL.callQ (vs := [_]) Try.call21 ⟨⟨_, rfl, tt⟩, trivial⟩ (fun hg => chosen_V _ _ _ (Pl.row ws xs) _ _ _ (Pl.at_get (by omega)) (Pl.at_get (by omega)) (Pl.at_get (by omega)) (by omega)) (fun w h hok _ => Sl.of_blk cells_len rfl (own_get hok (k := 0) rfl)) rfl rfl (fun v92 hv92 => ?_)
        obtain rfl := hv92 rfl
        first | refine SL.store_own (k := 0) (own' := [_, _, _]) (cs' := _) rfl rfl rfl rfl rfl rfl rfl Try.sizeOf35 rfl (Nat.le_of_ble_eq_true rfl) rfl rfl rfl rfl ?_ | refine SL.store_own (k := 1) (own' := [_, _, _]) (cs' := [_, _, _, _]) rfl rfl rfl rfl rfl rfl rfl Try.sizeOf35 rfl (Nat.le_of_ble_eq_true rfl) rfl rfl rfl rfl ?_ | refine SL.store_own (k := 2) (own' := [_, _, _]) (cs' := [_, _, _, _, _, _, _]) rfl rfl rfl rfl rfl rfl rfl Try.sizeOf35 rfl (Nat.le_of_ble_eq_true rfl) rfl rfl rfl rfl ?_
        refine SL.step (PS.assign rfl tt rfl rfl) ?_
        refine SL.keep (l' := [(5, _, _), (4, _, _)]) ⟨rfl, rfl, trivial⟩ ?_
        refine SL.nil (SE.thenK hK28 (SC.ret (SE.block_ret (SE.then_ret ?_))))
        exact finct (k := 1) rfl Try.isAgg35 Try.sizeOf35 rfl rfl rfl rfl rfl rfl (fun _ _ => by rw [hev]; clear hev hws hB hk har hlen; simp only [Pl.made, Pl.isDiv, *, Bool.true_and, Bool.false_and, cond_true, cond_false]; rfl)
       ·
        refine SC.seq (fun K29 hK29 => SC.region ?_)
        refine SL.step (PS.move rfl tt rfl rfl) ?_
        refine SL.step (PS.assign rfl tt rfl rfl) ?_
        refine SL.keep (l' := [(93, _, _), (9, _, _), (7, _, _), (4, _, _), (2, _, _)]) ⟨rfl, rfl, rfl, rfl, rfl, trivial⟩ ?_
        refine SL.nil (SE.thenK hK29 ?_)
        refine SC.cond rfl (fun c93 => ?_) (fun c93 => ?_)
        ·
         refine SC.seq (fun K30 hK30 => SC.region ?_)
         refine SL.step (PS.build (us := []) (vs := [_, _, _, _]) trivial Try.underlying35 Try.zeroValue35 (Try.places_35 Try.underlying35) rfl rfl rfl) ?_
         first | refine SL.store_own (k := 0) (own' := [_, _, _]) (cs' := _) rfl rfl rfl rfl rfl rfl rfl Try.sizeOf35 rfl (Nat.le_of_ble_eq_true rfl) rfl rfl rfl rfl ?_ | refine SL.store_own (k := 1) (own' := [_, _, _]) (cs' := [_, _, _, _]) rfl rfl rfl rfl rfl rfl rfl Try.sizeOf35 rfl (Nat.le_of_ble_eq_true rfl) rfl rfl rfl rfl ?_ | refine SL.store_own (k := 2) (own' := [_, _, _]) (cs' := [_, _, _, _, _, _, _]) rfl rfl rfl rfl rfl rfl rfl Try.sizeOf35 rfl (Nat.le_of_ble_eq_true rfl) rfl rfl rfl rfl ?_
         refine SL.step (PS.assign rfl tt rfl rfl) ?_
         refine SL.keep (l' := [(5, _, _), (4, _, _)]) ⟨rfl, rfl, trivial⟩ ?_
         refine SL.nil (SE.thenK hK30 (SC.ret (SE.block_ret (SE.then_ret ?_))))
         exact finct (k := 1) rfl Try.isAgg35 Try.sizeOf35 rfl rfl rfl rfl rfl rfl (fun _ _ => by rw [hev]; clear hev hws hB hk har hlen; simp only [Pl.made, Pl.isDiv, *, Bool.true_and, Bool.false_and, cond_true, cond_false]; rfl)
        ·
         refine SC.seq (fun K31 hK31 => SC.region ?_)
         refine SL.step (PS.move rfl tt rfl rfl) ?_
         refine SL.step (PS.assign rfl tt rfl rfl) ?_
         refine SL.keep (l' := [(96, _, _), (7, _, _), (4, _, _), (2, _, _)]) ⟨rfl, rfl, rfl, rfl, trivial⟩ ?_
         refine SL.nil (SE.thenK hK31 ?_)
         refine SC.cond rfl (fun c96 => ?_) (fun c96 => ?_)
         ·
          refine SC.seq (fun K32 hK32 => ?_)
          have har2 := fun hs => (hlen.symm.trans har.1).trans (Pl.arity_shift (op := i.op) hs)
          refine SC.region ?_
          first | refine SL.step (PS.load_own_agg (k := 0) (vs := [_, _, _, _, _, _, _]) rfl tt rfl rfl rfl rfl Try.isAgg25 Try.sizeOf25 rfl rfl) ?_ | refine SL.step (PS.load_own_agg (k := 1) (vs := [_, _, _, _, _, _, _]) rfl tt rfl rfl rfl rfl Try.isAgg25 Try.sizeOf25 rfl rfl) ?_ | refine SL.step (PS.load_own_agg (k := 2) (vs := [_, _, _, _, _, _, _]) rfl tt rfl rfl rfl rfl Try.isAgg25 Try.sizeOf25 rfl rfl) ?_
          refine SL.step (PS.move rfl tt rfl rfl) ?_
          refine SL.callQ (vs := [_, _]) Try.call22 ⟨⟨_, rfl, tt⟩, ⟨_, rfl, tt⟩, trivial⟩ (fun hg => loosely_V i _ _ _ (Pl.row ws xs) (Pl.at_ (Pl.row ws xs) 1) (fun hs => ⟨Pl.at_get (by have := har2 hs; omega), by have := har2 hs; omega⟩)) (fun w h hok _ => Sl.of_blk cells_len rfl (own_get hok (k := 0) rfl)) rfl rfl (fun v100 hv100 => ?_)
          obtain rfl := hv100 rfl
          first | refine SL.store_own (k := 0) (own' := [_, _, _]) (cs' := _) rfl rfl rfl rfl rfl rfl rfl Try.sizeOf35 rfl (Nat.le_of_ble_eq_true rfl) rfl rfl rfl rfl ?_ | refine SL.store_own (k := 1) (own' := [_, _, _]) (cs' := [_, _, _, _]) rfl rfl rfl rfl rfl rfl rfl Try.sizeOf35 rfl (Nat.le_of_ble_eq_true rfl) rfl rfl rfl rfl ?_ | refine SL.store_own (k := 2) (own' := [_, _, _]) (cs' := [_, _, _, _, _, _, _]) rfl rfl rfl rfl rfl rfl rfl Try.sizeOf35 rfl (Nat.le_of_ble_eq_true rfl) rfl rfl rfl rfl ?_
          refine SL.step (PS.assign rfl tt rfl rfl) ?_
          refine SL.keep (l' := [(5, _, _), (4, _, _)]) ⟨rfl, rfl, trivial⟩ ?_
          refine SL.nil (SE.thenK hK32 (SC.ret (SE.block_ret (SE.then_ret ?_))))
          exact finct (k := 1) rfl Try.isAgg35 Try.sizeOf35 rfl rfl rfl rfl rfl rfl (fun _ _ => by rw [hev]; clear hev hws hB hk har hlen; simp only [Pl.made, Pl.isDiv, *, Bool.true_and, Bool.false_and, cond_true, cond_false]; rfl)
         ·
          refine SC.skip (SE.block_normal (SE.thenK hK21 (SC.seq (fun K33 hK33 => ?_))))
          have hcl := Pl.arity_clear c78 c87
          rw [← har.1, hlen] at hcl
          refine SC.region ?_
          first | refine SL.step (PS.load_own_agg (k := 0) (vs := [_, _, _, _, _, _, _]) rfl tt rfl rfl rfl rfl Try.isAgg25 Try.sizeOf25 rfl rfl) ?_ | refine SL.step (PS.load_own_agg (k := 1) (vs := [_, _, _, _, _, _, _]) rfl tt rfl rfl rfl rfl Try.isAgg25 Try.sizeOf25 rfl rfl) ?_ | refine SL.step (PS.load_own_agg (k := 2) (vs := [_, _, _, _, _, _, _]) rfl tt rfl rfl rfl rfl Try.isAgg25 Try.sizeOf25 rfl rfl) ?_
          refine SL.step (PS.move rfl tt rfl rfl) ?_
          refine SL.callG (rs := [_]) (vs := [_, _]) Try.call23 ⟨⟨_, rfl, tt⟩, ⟨_, rfl, tt⟩, trivial⟩ (clear_G i _ _ _ (Pl.row ws xs) hrl hcl (fun y hy => Pl.row_range hy) hf) (fun _ _ => trivial) rfl rfl (fun v103 => ?_)
          refine SL.know (fun _ h => h.2) (fun hv => ?_)
          subst hv
          refine SL.step (PS.extract rfl tt rfl rfl rfl) ?_
          refine SL.step (PS.extract rfl tt rfl rfl rfl) ?_
          first | refine SL.store_own (k := 0) (own' := [_, _]) (cs' := [_, _, _, _]) rfl rfl rfl rfl rfl rfl rfl Try.sizeOf35 rfl (Nat.le_of_ble_eq_true rfl) rfl rfl rfl rfl ?_ | refine SL.store_own (k := 1) (own' := [_, _]) (cs' := [_, _, _, _, _, _, _]) rfl rfl rfl rfl rfl rfl rfl Try.sizeOf35 rfl (Nat.le_of_ble_eq_true rfl) rfl rfl rfl rfl ?_
          refine SL.step (PS.assign rfl tt rfl rfl) ?_
          refine SL.keep (l' := [(5, _, _), (4, _, _)]) ⟨rfl, rfl, trivial⟩ ?_
          refine SL.nil (SE.thenK hK33 (SC.ret ?_))
          exact finct (k := 0) rfl Try.isAgg35 Try.sizeOf35 rfl rfl rfl rfl rfl rfl (fun _ _ => by rw [hev]; clear hev hws hB hk har hlen; simp only [Pl.made, Pl.isDiv, *, Bool.true_and, Bool.false_and, cond_true, cond_false]; rfl)
    ·
     refine SC.skip (SE.thenK hK16 (SC.seq (fun K34 hK34 => SC.block (SC.seq (fun K35 hK35 => SC.region ?_)))))
     refine SL.step (PS.fieldAddr rfl tt Try.fieldAt_25_0 rfl rfl) ?_
     first | refine SL.step (PS.load_own (k := 0) rfl tt rfl rfl rfl Try.isAgg3 rfl rfl) ?_ | refine SL.step (PS.load_own (k := 1) rfl tt rfl rfl rfl Try.isAgg3 rfl rfl) ?_ | refine SL.step (PS.load_own (k := 2) rfl tt rfl rfl rfl Try.isAgg3 rfl rfl) ?_
     refine SL.step (PS.eql rfl tt rfl tt rfl rfl) ?_
     refine SL.step (PS.assign rfl tt rfl rfl) ?_
     refine SL.keep (l' := [(78, _, _), (9, _, _), (8, _, _), (7, _, _), (4, _, _), (2, _, _)]) ⟨rfl, rfl, rfl, rfl, rfl, rfl, trivial⟩ ?_
     refine SL.nil (SE.thenK hK35 ?_)
     refine SC.cond rfl (fun c78 => ?_) (fun c78 => ?_)
     ·
      refine SC.seq (fun K36 hK36 => SC.seq (fun K37 hK37 => SC.region ?_))
      refine SL.step (PS.move rfl tt rfl rfl) ?_
      refine SL.keep (l' := [(82, _, _), (7, _, _), (4, _, _)]) ⟨rfl, rfl, rfl, trivial⟩ ?_
      refine SL.nil (SE.thenK hK37 ?_)
      refine SC.cond rfl (fun c82 => ?_) (fun c82 => ?_)
      ·
       refine SC.seq (fun K38 hK38 => SC.region ?_)
       refine SL.callV (vs := []) Try.call20 trivial (fun hg => anyone_V) rfl rfl ?_
       first | refine SL.store_own (k := 0) (own' := [_, _, _]) (cs' := _) rfl rfl rfl rfl rfl rfl rfl Try.sizeOf35 rfl (Nat.le_of_ble_eq_true rfl) rfl rfl rfl rfl ?_ | refine SL.store_own (k := 1) (own' := [_, _, _]) (cs' := [_, _, _, _]) rfl rfl rfl rfl rfl rfl rfl Try.sizeOf35 rfl (Nat.le_of_ble_eq_true rfl) rfl rfl rfl rfl ?_ | refine SL.store_own (k := 2) (own' := [_, _, _]) (cs' := [_, _, _, _, _, _, _]) rfl rfl rfl rfl rfl rfl rfl Try.sizeOf35 rfl (Nat.le_of_ble_eq_true rfl) rfl rfl rfl rfl ?_
       refine SL.step (PS.assign rfl tt rfl rfl) ?_
       refine SL.keep (l' := [(5, _, _), (4, _, _)]) ⟨rfl, rfl, trivial⟩ ?_
       refine SL.nil (SE.thenK hK38 (SC.ret (SE.then_ret (SE.block_ret (SE.then_ret ?_)))))
       exact finct (k := 1) rfl Try.isAgg35 Try.sizeOf35 rfl rfl rfl rfl rfl rfl (fun _ _ => by rw [hev]; clear hev hws hB hk har hlen; simp only [Pl.made, Pl.isDiv, *, Bool.true_and, Bool.false_and, cond_true, cond_false]; rfl)
      ·
       refine SC.skip (SE.thenK hK36 (SC.seq (fun K39 hK39 => SC.region ?_)))
       refine SL.step (PS.move rfl tt rfl rfl) ?_
       refine SL.step (PS.indexAddr rfl tt rfl tt Try.underlying33 Try.sizeOf35 (fun _ _ _ => by omega) rfl rfl) ?_
       refine SL.step (PS.load_own_agg (k := 0) rfl (fun h => rfl) rfl rfl (cut_flat' (i := 0) cells_len (Pl.at_get (by omega)) rfl) rfl Try.isAgg35 Try.sizeOf35 rfl rfl) ?_
       first | refine SL.store_own (k := 0) (own' := [_, _, _]) (cs' := _) rfl rfl rfl rfl rfl rfl rfl Try.sizeOf35 rfl (Nat.le_of_ble_eq_true rfl) rfl rfl rfl rfl ?_ | refine SL.store_own (k := 1) (own' := [_, _, _]) (cs' := [_, _, _, _]) rfl rfl rfl rfl rfl rfl rfl Try.sizeOf35 rfl (Nat.le_of_ble_eq_true rfl) rfl rfl rfl rfl ?_ | refine SL.store_own (k := 2) (own' := [_, _, _]) (cs' := [_, _, _, _, _, _, _]) rfl rfl rfl rfl rfl rfl rfl Try.sizeOf35 rfl (Nat.le_of_ble_eq_true rfl) rfl rfl rfl rfl ?_
       refine SL.step (PS.assign rfl tt rfl rfl) ?_
       refine SL.keep (l' := [(5, _, _), (4, _, _)]) ⟨rfl, rfl, trivial⟩ ?_
       refine SL.nil (SE.thenK hK39 (SC.ret (SE.block_ret (SE.then_ret ?_))))
       exact finct (k := 1) rfl Try.isAgg35 Try.sizeOf35 rfl rfl rfl rfl rfl rfl (fun _ _ => by rw [hev]; clear hev hws hB hk har hlen; simp only [Pl.made, Pl.isDiv, *, Bool.true_and, Bool.false_and, cond_true, cond_false]; rfl)
     ·
      refine SC.seq (fun K40 hK40 => SC.region ?_)
      refine SL.step (PS.fieldAddr rfl tt Try.fieldAt_25_0 rfl rfl) ?_
      first | refine SL.step (PS.load_own (k := 0) rfl tt rfl rfl rfl Try.isAgg3 rfl rfl) ?_ | refine SL.step (PS.load_own (k := 1) rfl tt rfl rfl rfl Try.isAgg3 rfl rfl) ?_ | refine SL.step (PS.load_own (k := 2) rfl tt rfl rfl rfl Try.isAgg3 rfl rfl) ?_
      refine SL.step (PS.eql rfl tt rfl tt rfl rfl) ?_
      refine SL.step (PS.assign rfl tt rfl rfl) ?_
      refine SL.keep (l' := [(87, _, _), (9, _, _), (8, _, _), (7, _, _), (4, _, _), (2, _, _)]) ⟨rfl, rfl, rfl, rfl, rfl, rfl, trivial⟩ ?_
      refine SL.nil (SE.thenK hK40 ?_)
      refine SC.cond rfl (fun c87 => ?_) (fun c87 => ?_)
      ·
       have h3 : xs.length = 3 := by rw [← hlen, har.1, Pl.arity_23 c87]
       refine SC.seq (fun K41 hK41 => SC.region ?_)
       refine SL.step (PS.move rfl tt rfl rfl) ?_
       refine SL.callQ (vs := [_]) Try.call21 ⟨⟨_, rfl, tt⟩, trivial⟩ (fun hg => chosen_V _ _ _ (Pl.row ws xs) _ _ _ (Pl.at_get (by omega)) (Pl.at_get (by omega)) (Pl.at_get (by omega)) (by omega)) (fun w h hok _ => Sl.of_blk cells_len rfl (own_get hok (k := 0) rfl)) rfl rfl (fun v92 hv92 => ?_)
       obtain rfl := hv92 rfl
       first | refine SL.store_own (k := 0) (own' := [_, _, _]) (cs' := _) rfl rfl rfl rfl rfl rfl rfl Try.sizeOf35 rfl (Nat.le_of_ble_eq_true rfl) rfl rfl rfl rfl ?_ | refine SL.store_own (k := 1) (own' := [_, _, _]) (cs' := [_, _, _, _]) rfl rfl rfl rfl rfl rfl rfl Try.sizeOf35 rfl (Nat.le_of_ble_eq_true rfl) rfl rfl rfl rfl ?_ | refine SL.store_own (k := 2) (own' := [_, _, _]) (cs' := [_, _, _, _, _, _, _]) rfl rfl rfl rfl rfl rfl rfl Try.sizeOf35 rfl (Nat.le_of_ble_eq_true rfl) rfl rfl rfl rfl ?_
       refine SL.step (PS.assign rfl tt rfl rfl) ?_
       refine SL.keep (l' := [(5, _, _), (4, _, _)]) ⟨rfl, rfl, trivial⟩ ?_
       refine SL.nil (SE.thenK hK41 (SC.ret (SE.block_ret (SE.then_ret ?_))))
       exact finct (k := 1) rfl Try.isAgg35 Try.sizeOf35 rfl rfl rfl rfl rfl rfl (fun _ _ => by rw [hev]; clear hev hws hB hk har hlen; simp only [Pl.made, Pl.isDiv, *, Bool.true_and, Bool.false_and, cond_true, cond_false]; rfl)
      ·
       refine SC.seq (fun K42 hK42 => SC.region ?_)
       refine SL.step (PS.move rfl tt rfl rfl) ?_
       refine SL.step (PS.assign rfl tt rfl rfl) ?_
       refine SL.keep (l' := [(93, _, _), (9, _, _), (7, _, _), (4, _, _), (2, _, _)]) ⟨rfl, rfl, rfl, rfl, rfl, trivial⟩ ?_
       refine SL.nil (SE.thenK hK42 ?_)
       refine SC.cond rfl (fun c93 => ?_) (fun c93 => ?_)
       ·
        refine SC.seq (fun K43 hK43 => SC.region ?_)
        refine SL.step (PS.build (us := []) (vs := [_, _, _, _]) trivial Try.underlying35 Try.zeroValue35 (Try.places_35 Try.underlying35) rfl rfl rfl) ?_
        first | refine SL.store_own (k := 0) (own' := [_, _, _]) (cs' := _) rfl rfl rfl rfl rfl rfl rfl Try.sizeOf35 rfl (Nat.le_of_ble_eq_true rfl) rfl rfl rfl rfl ?_ | refine SL.store_own (k := 1) (own' := [_, _, _]) (cs' := [_, _, _, _]) rfl rfl rfl rfl rfl rfl rfl Try.sizeOf35 rfl (Nat.le_of_ble_eq_true rfl) rfl rfl rfl rfl ?_ | refine SL.store_own (k := 2) (own' := [_, _, _]) (cs' := [_, _, _, _, _, _, _]) rfl rfl rfl rfl rfl rfl rfl Try.sizeOf35 rfl (Nat.le_of_ble_eq_true rfl) rfl rfl rfl rfl ?_
        refine SL.step (PS.assign rfl tt rfl rfl) ?_
        refine SL.keep (l' := [(5, _, _), (4, _, _)]) ⟨rfl, rfl, trivial⟩ ?_
        refine SL.nil (SE.thenK hK43 (SC.ret (SE.block_ret (SE.then_ret ?_))))
        exact finct (k := 1) rfl Try.isAgg35 Try.sizeOf35 rfl rfl rfl rfl rfl rfl (fun _ _ => by rw [hev]; clear hev hws hB hk har hlen; simp only [Pl.made, Pl.isDiv, *, Bool.true_and, Bool.false_and, cond_true, cond_false]; rfl)
       ·
        refine SC.seq (fun K44 hK44 => SC.region ?_)
        refine SL.step (PS.move rfl tt rfl rfl) ?_
        refine SL.step (PS.assign rfl tt rfl rfl) ?_
        refine SL.keep (l' := [(96, _, _), (7, _, _), (4, _, _), (2, _, _)]) ⟨rfl, rfl, rfl, rfl, trivial⟩ ?_
        refine SL.nil (SE.thenK hK44 ?_)
        refine SC.cond rfl (fun c96 => ?_) (fun c96 => ?_)
        ·
         refine SC.seq (fun K45 hK45 => ?_)
         have har2 := fun hs => (hlen.symm.trans har.1).trans (Pl.arity_shift (op := i.op) hs)
         refine SC.region ?_
         first | refine SL.step (PS.load_own_agg (k := 0) (vs := [_, _, _, _, _, _, _]) rfl tt rfl rfl rfl rfl Try.isAgg25 Try.sizeOf25 rfl rfl) ?_ | refine SL.step (PS.load_own_agg (k := 1) (vs := [_, _, _, _, _, _, _]) rfl tt rfl rfl rfl rfl Try.isAgg25 Try.sizeOf25 rfl rfl) ?_ | refine SL.step (PS.load_own_agg (k := 2) (vs := [_, _, _, _, _, _, _]) rfl tt rfl rfl rfl rfl Try.isAgg25 Try.sizeOf25 rfl rfl) ?_
         refine SL.step (PS.move rfl tt rfl rfl) ?_
         refine SL.callQ (vs := [_, _]) Try.call22 ⟨⟨_, rfl, tt⟩, ⟨_, rfl, tt⟩, trivial⟩ (fun hg => loosely_V i _ _ _ (Pl.row ws xs) (Pl.at_ (Pl.row ws xs) 1) (fun hs => ⟨Pl.at_get (by have := har2 hs; omega), by have := har2 hs; omega⟩)) (fun w h hok _ => Sl.of_blk cells_len rfl (own_get hok (k := 0) rfl)) rfl rfl (fun v100 hv100 => ?_)
         obtain rfl := hv100 rfl
         first | refine SL.store_own (k := 0) (own' := [_, _, _]) (cs' := _) rfl rfl rfl rfl rfl rfl rfl Try.sizeOf35 rfl (Nat.le_of_ble_eq_true rfl) rfl rfl rfl rfl ?_ | refine SL.store_own (k := 1) (own' := [_, _, _]) (cs' := [_, _, _, _]) rfl rfl rfl rfl rfl rfl rfl Try.sizeOf35 rfl (Nat.le_of_ble_eq_true rfl) rfl rfl rfl rfl ?_ | refine SL.store_own (k := 2) (own' := [_, _, _]) (cs' := [_, _, _, _, _, _, _]) rfl rfl rfl rfl rfl rfl rfl Try.sizeOf35 rfl (Nat.le_of_ble_eq_true rfl) rfl rfl rfl rfl ?_
         refine SL.step (PS.assign rfl tt rfl rfl) ?_
         refine SL.keep (l' := [(5, _, _), (4, _, _)]) ⟨rfl, rfl, trivial⟩ ?_
         refine SL.nil (SE.thenK hK45 (SC.ret (SE.block_ret (SE.then_ret ?_))))
         exact finct (k := 1) rfl Try.isAgg35 Try.sizeOf35 rfl rfl rfl rfl rfl rfl (fun _ _ => by rw [hev]; clear hev hws hB hk har hlen; simp only [Pl.made, Pl.isDiv, *, Bool.true_and, Bool.false_and, cond_true, cond_false]; rfl)
        ·
         refine SC.skip (SE.block_normal (SE.thenK hK34 (SC.seq (fun K46 hK46 => ?_))))
         have hcl := Pl.arity_clear c78 c87
         rw [← har.1, hlen] at hcl
         refine SC.region ?_
         first | refine SL.step (PS.load_own_agg (k := 0) (vs := [_, _, _, _, _, _, _]) rfl tt rfl rfl rfl rfl Try.isAgg25 Try.sizeOf25 rfl rfl) ?_ | refine SL.step (PS.load_own_agg (k := 1) (vs := [_, _, _, _, _, _, _]) rfl tt rfl rfl rfl rfl Try.isAgg25 Try.sizeOf25 rfl rfl) ?_ | refine SL.step (PS.load_own_agg (k := 2) (vs := [_, _, _, _, _, _, _]) rfl tt rfl rfl rfl rfl Try.isAgg25 Try.sizeOf25 rfl rfl) ?_
         refine SL.step (PS.move rfl tt rfl rfl) ?_
         refine SL.callG (rs := [_]) (vs := [_, _]) Try.call23 ⟨⟨_, rfl, tt⟩, ⟨_, rfl, tt⟩, trivial⟩ (clear_G i _ _ _ (Pl.row ws xs) hrl hcl (fun y hy => Pl.row_range hy) hf) (fun _ _ => trivial) rfl rfl (fun v103 => ?_)
         refine SL.know (fun _ h => h.2) (fun hv => ?_)
         subst hv
         refine SL.step (PS.extract rfl tt rfl rfl rfl) ?_
         refine SL.step (PS.extract rfl tt rfl rfl rfl) ?_
         first | refine SL.store_own (k := 0) (own' := [_, _]) (cs' := [_, _, _, _]) rfl rfl rfl rfl rfl rfl rfl Try.sizeOf35 rfl (Nat.le_of_ble_eq_true rfl) rfl rfl rfl rfl ?_ | refine SL.store_own (k := 1) (own' := [_, _]) (cs' := [_, _, _, _, _, _, _]) rfl rfl rfl rfl rfl rfl rfl Try.sizeOf35 rfl (Nat.le_of_ble_eq_true rfl) rfl rfl rfl rfl ?_
         refine SL.step (PS.assign rfl tt rfl rfl) ?_
         refine SL.keep (l' := [(5, _, _), (4, _, _)]) ⟨rfl, rfl, trivial⟩ ?_
         refine SL.nil (SE.thenK hK46 (SC.ret ?_))
         exact finct (k := 0) rfl Try.isAgg35 Try.sizeOf35 rfl rfl rfl rfl rfl rfl (fun _ _ => by rw [hev]; clear hev hws hB hk har hlen; simp only [Pl.made, Pl.isDiv, *, Bool.true_and, Bool.false_and, cond_true, cond_false]; rfl)
end Go.Proofs.Ytffimfmicapaaaa
