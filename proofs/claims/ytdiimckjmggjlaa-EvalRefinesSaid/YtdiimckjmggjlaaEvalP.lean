/- EvalRefines: what its code computes. -/
import Derived.Test.YtdiimckjmggjlaaEvalL
import Derived.Test.YtdiimckjmggjlaaPlI
import Derived.Test.YtdiimckjmggjlaaApp2
namespace Go.Proofs.Ytdiimckjmggjlaa
open Go.RowKit
set_option linter.unusedVariables false
set_option linter.unusedSimpArgs false
set_option maxRecDepth 100000
set_option maxHeartbeats 4000000
open Pl (Vl)
theorem cells_one (x : Vl) : x.cells.all (·.oneCell') = true := rfl
section
variable {P : Program} {E : Env} {ops : Array Oper} {Q : Exit → Act → World → Prop} {rest : List Oper} {l : Slots} {own : Own} {F : World → Prop}
theorem SL.wants' {v : Value} {ts : List Int} {G : World → Prop}
    (K : ∀ (B : Option Addr) (ws : List Int), ws = ts → v = .slice B ws.length ws.length → SL P E ops Q rest l own (fun w => G w ∧ Sl 1 cellI B ws w)) :
    SL P E ops Q rest l own (fun w => G w ∧ (true = true → Go.Proofs.Ytdiimckjmggjlaa.wants (some ts) v w)) := by
  refine SL.know (p := ∃ b, v = .slice (some ⟨b, 0, none⟩) ts.length ts.length) (fun w h => by obtain ⟨b, hv, _⟩ := h.2 rfl; exact ⟨b, hv⟩) (fun hv => ?_)
  obtain ⟨b, hv⟩ := hv
  refine SL.fact (fun w h => ⟨h.1, ?_⟩) (K (some ⟨b, 0, none⟩) ts rfl hv)
  obtain ⟨b', hv', hb⟩ := h.2 rfl
  subst hv
  simp only [Value.slice.injEq, Option.some.injEq, Addr.mk.injEq, and_true] at hv'
  subst hv'
  exact Sl.of_blk (cells := cellI) cellI_len (cellI_flat ts) hb
end
theorem EvalRefines_S (i : In) (A : Option Addr) (c : Nat) (xs : List Vl) (A2 : Option Addr) (c2 : Nat) (ys : List Vl) (hx : ∀ x ∈ xs, 0 ≤ x.b ∧ x.b < 18446744073709551616) (hy : ∀ x ∈ ys, 0 ≤ x.b ∧ x.b < 18446744073709551616) (hf : -9223372036854775808 ≤ i.f ∧ i.f ≤ 9223372036854775807) :
    Spec Try.prog 3 [i.val, .slice A xs.length c, .slice A2 ys.length c2] (fun w => Sl 4 Vl.cells A xs w ∧ Sl 4 Vl.cells A2 ys w) (fun v _ => v = .bool true) := by
  refine Spec.enter Try.func3 rfl (n := 104) Try.ntmps3 (Nat.le_of_ble_eq_true rfl) (l := [(0, _, _), (1, _, _), (2, _, _)]) rfl ?_
  intro S w
  refine SC.seq (fun K1 hK1 => ?_)
  refine SC.region ?_
  refine SL.box (cs := [_, _, _, _, _, _, _]) rfl rfl rfl rfl rfl (fun b3 => ?_)
  refine SL.step (PS.assign rfl (fun _ => rfl) rfl rfl) ?_
  refine SL.keep (l' := [(3, _, _), (1, _, _), (2, _, _)]) ⟨rfl, rfl, rfl, trivial⟩ ?_
  refine SL.nil ?_
  refine SE.thenK hK1 ?_
  refine SC.seq (fun K2 hK2 => ?_)
  refine SC.seq (fun K3 hK3 => ?_)
  refine SC.region ?_
  refine SL.callV (vs := []) Try.call8 trivial (fun hg => lives_V) rfl rfl ?_
  refine SL.step (PS.not rfl (fun _ => rfl) rfl rfl) ?_
  refine SL.keep (l' := [(17, _, _), (3, _, _), (1, _, _), (2, _, _)]) ⟨rfl, rfl, rfl, rfl, trivial⟩ ?_
  refine SL.nil ?_
  refine SE.thenK hK3 ?_
  refine SC.cond_f rfl (rfl) ?_
  refine SC.skip ?_
  refine SE.thenK hK2 ?_
  refine SC.seq (fun K4 hK4 => ?_)
  refine SC.seq (fun K5 hK5 => ?_)
  refine SC.region ?_
  refine SL.step (PS.move rfl (fun _ => rfl) rfl rfl) ?_
  refine SL.step (PS.len_slice rfl (fun _ => rfl) Try.underlying26 rfl rfl) ?_
  refine SL.step (PS.gtr rfl (fun _ => rfl) rfl (fun _ => rfl) rfl rfl) ?_
  refine SL.step (PS.move rfl (fun _ => rfl) rfl rfl) ?_
  refine SL.step (PS.move rfl (fun _ => rfl) rfl rfl) ?_
  refine SL.step (PS.len_slice rfl (fun h => h) Try.underlying26 rfl rfl) ?_
  refine SL.step (PS.move rfl (fun _ => rfl) rfl rfl) ?_
  refine SL.step (PS.len_slice rfl (fun h => h) Try.underlying26 rfl rfl) ?_
  refine SL.step (PS.lss rfl (fun h => h) rfl (fun h => h) rfl rfl) ?_
  refine SL.step (PS.pick_or rfl (fun _ => rfl) rfl (fun h h2 => pk_or h h2) rfl rfl) ?_
  refine SL.keep (l' := [(27, _, _), (3, _, _), (1, _, _), (2, _, _)]) ⟨rfl, rfl, rfl, rfl, trivial⟩ ?_
  refine SL.nil ?_
  refine SE.thenK hK5 ?_
  refine SC.cond rfl (fun c27 => ?_) (fun c27 => ?_)
  ·
    refine SC.seq (fun K6 hK6 => ?_)
    refine SC.region ?_
    refine SL.step (PS.assign rfl (fun _ => rfl) rfl rfl) ?_
    refine SL.keep (l' := [(6, _, _)]) ⟨rfl, trivial⟩ ?_
    refine SL.nil ?_
    refine SE.thenK hK6 ?_
    refine SC.ret ?_
    refine SE.then_ret ?_
    exact fin1 rfl rfl rfl (fun _ _ => rfl)
  ·
    have hle : xs.length ≤ 1000 ∧ xs.length ≤ ys.length := by simp at c27; omega
    refine SC.skip ?_
    refine SE.thenK hK4 ?_
    refine SC.seq (fun K7 hK7 => ?_)
    refine SC.region ?_
    refine SL.step (PS.load_own_agg (k := 0) (vs := [_, _, _, _, _, _, _]) rfl (fun _ => rfl) rfl rfl rfl rfl Try.isAgg25 Try.sizeOf25 rfl rfl) ?_
    refine SL.step (PS.move rfl (fun _ => rfl) rfl rfl) ?_
    refine SL.callQ (vs := [_, _]) Try.call9 ⟨⟨_, rfl, (fun _ => rfl)⟩, ⟨_, rfl, (fun _ => rfl)⟩, trivial⟩ (fun hg => Eval_S ⟨_, _, _, _, _, (_, _, _), (_, _, _)⟩ _ _ xs hx hf) (fun w h _ _ => h.1) rfl rfl (fun vt31 hvt31 => ?_)
    obtain ⟨pt31, hpt31, rfl⟩ := out_ex (hvt31 rfl)
    clear hvt31
    simp only at hpt31
    refine SL.step (PS.move rfl (fun _ => rfl) rfl rfl) ?_
    refine SL.step (PS.extract rfl (fun _ => rfl) rfl rfl rfl) ?_
    refine SL.step (PS.extract rfl (fun _ => rfl) rfl rfl rfl) ?_
    refine SL.alloc (cs := [_, _, _, _]) Try.zeroValue30 rfl rfl rfl (fun b7 => ?_)
    first | refine SL.store_own (k := 0) (own' := [_, _]) (cs' := [_, _, _, _]) rfl rfl rfl rfl rfl rfl rfl Try.sizeOf30 rfl (Nat.le_of_ble_eq_true rfl) rfl rfl rfl rfl ?_ | refine SL.store_own (k := 1) (own' := [_, _]) (cs' := [_, _, _, _, _, _, _]) rfl rfl rfl rfl rfl rfl rfl Try.sizeOf30 rfl (Nat.le_of_ble_eq_true rfl) rfl rfl rfl rfl ?_
    refine SL.step (PS.assign rfl (fun _ => rfl) rfl rfl) ?_
    refine SL.keep (l' := [(8, _, _), (7, _, _), (3, _, _), (1, _, _), (2, _, _)]) ⟨rfl, rfl, rfl, rfl, rfl, trivial⟩ ?_
    refine SL.nil ?_
    refine SE.thenK hK7 ?_
    refine SC.seq (fun K8 hK8 => ?_)
    refine SC.seq (fun K9 hK9 => ?_)
    refine SC.region ?_
    refine SL.step (PS.move rfl (fun _ => rfl) rfl rfl) ?_
    refine SL.step (PS.eql rfl (fun _ => rfl) rfl (fun _ => rfl) rfl rfl) ?_
    refine SL.keep (l' := [(35, _, _), (8, _, _), (7, _, _), (3, _, _), (1, _, _), (2, _, _)]) ⟨rfl, rfl, rfl, rfl, rfl, rfl, trivial⟩ ?_
    refine SL.nil ?_
    refine SE.thenK hK9 ?_
    refine SC.cond rfl (fun c35 => ?_) (fun c35 => ?_)
    ·
      refine SC.seq (fun K10 hK10 => ?_)
      refine SC.region ?_
      first | refine SL.step (PS.load_own_agg (k := 0) (vs := [_, _, _, _]) rfl (fun _ => rfl) rfl rfl rfl rfl Try.isAgg30 Try.sizeOf30 rfl rfl) ?_ | refine SL.step (PS.load_own_agg (k := 1) (vs := [_, _, _, _]) rfl (fun _ => rfl) rfl rfl rfl rfl Try.isAgg30 Try.sizeOf30 rfl rfl) ?_
      refine SL.step (PS.build (us := []) (vs := [_, _, _, _]) trivial Try.underlying30 Try.zeroValue30 (Try.places_30 Try.underlying30) rfl rfl rfl) ?_
      refine SL.step (PS.eqlA rfl (fun _ => rfl) rfl (fun _ => rfl) (by intro x y w; first | exact val_eql x y _ _ w | exact val_eql x y ⟨_, _, _, _⟩ _ w | exact val_eql x y _ ⟨_, _, _, _⟩ w | exact val_eql x y ⟨_, _, _, _⟩ ⟨_, _, _, _⟩ w) rfl rfl) ?_
      refine SL.step (PS.assign rfl (fun _ => rfl) rfl rfl) ?_
      refine SL.keep (l' := [(6, _, _)]) ⟨rfl, trivial⟩ ?_
      refine SL.nil ?_
      refine SE.thenK hK10 ?_
      refine SC.ret ?_
      refine SE.then_ret ?_
      exact fin1 rfl rfl rfl (fun _ _ => congrArg Value.bool (by have := Pl.eval_end (op := i.op) (t := i.t) (n := i.n) (f := i.f) (xs := xs) (by rw [← hpt31]; simp at c35; omega); rw [hpt31, this]; rfl))
    ·
      refine SC.skip ?_
      refine SE.thenK hK8 ?_
      refine SC.seq (fun K11 hK11 => ?_)
      refine SC.region ?_
      first | refine SL.step (PS.load_own_agg (k := 0) (vs := [_, _, _, _, _, _, _]) rfl (fun _ => rfl) rfl rfl rfl rfl Try.isAgg25 Try.sizeOf25 rfl rfl) ?_ | refine SL.step (PS.load_own_agg (k := 1) (vs := [_, _, _, _, _, _, _]) rfl (fun _ => rfl) rfl rfl rfl rfl Try.isAgg25 Try.sizeOf25 rfl rfl) ?_
      refine SL.call (vs := [_]) Try.call10 ⟨⟨_, rfl, (fun _ => rfl)⟩, trivial⟩ (fun hg => types_S ⟨_, _, _, _, _, (_, _, _), (_, _, _)⟩) (fun _ _ _ => trivial) rfl rfl (fun v40 => ?_)
      refine SL.wants' ?_
      intro B ws hws hv40
      subst hv40
      refine SL.step (PS.assign rfl (fun _ => rfl) rfl rfl) ?_
      refine SL.keep (l' := [(9, _, _), (8, _, _), (7, _, _), (3, _, _), (1, _, _), (2, _, _)]) ⟨rfl, rfl, rfl, rfl, rfl, rfl, trivial⟩ ?_
      refine SL.nil ?_
      refine SE.thenK hK11 ?_
      refine SC.seq (fun K12 hK12 => ?_)
      refine SC.seq (fun K13 hK13 => ?_)
      refine SC.region ?_
      refine SL.step (PS.move rfl (fun _ => rfl) rfl rfl) ?_
      refine SL.step (PS.len_slice rfl (fun _ => rfl) Try.underlying26 rfl rfl) ?_
      refine SL.step (PS.move rfl (fun _ => rfl) rfl rfl) ?_
      refine SL.step (PS.len_slice rfl (fun _ => rfl) Try.underlying23 rfl rfl) ?_
      refine SL.step (PS.gtr rfl (fun _ => rfl) rfl (fun _ => rfl) rfl rfl) ?_
      refine SL.keep (l' := [(45, _, _), (9, _, _), (8, _, _), (7, _, _), (3, _, _), (1, _, _), (2, _, _)]) ⟨rfl, rfl, rfl, rfl, rfl, rfl, rfl, trivial⟩ ?_
      refine SL.nil ?_
      refine SE.thenK hK13 ?_
      refine SC.cond_f rfl (by have := Pl.types_len (hpt31 ▸ c35); subst hws; simp; omega) ?_
      refine SC.skip ?_
      refine SE.thenK hK12 ?_
      refine SC.seq (fun K14 hK14 => ?_)
      refine SC.region ?_
      refine SL.buildSlice (us := []) (cs := []) trivial Try.underlying26 Try.sizeOf30 Try.zeroValue30 trivial rfl (by decide) rfl rfl (fun b46 => ?_)
      refine SL.blkRow (k := 0) (sz := 4) (cells := Vl.cells) (xs := []) (own' := [_, _, _]) rfl rfl rfl ?_
      refine SL.step (PS.move rfl (fun _ => rfl) rfl rfl) ?_
      first | refine SL.append (k := 0) (ys := xs) rfl rfl rfl cells_len cells_one (fun w hw => Src.ofSl Try.underlying26 cells_len cells_one hw.now.1.1) Try.underlying26 Try.rowinfo_30 (by simp; omega) (by simp; omega) rfl rfl (fun o48 cap48 => ?_) | refine SL.append (k := 1) (ys := xs) rfl rfl rfl cells_len cells_one (fun w hw => Src.ofSl Try.underlying26 cells_len cells_one hw.now.1.1) Try.underlying26 Try.rowinfo_30 (by simp; omega) (by simp; omega) rfl rfl (fun o48 cap48 => ?_) | refine SL.append (k := 2) (ys := xs) rfl rfl rfl cells_len cells_one (fun w hw => Src.ofSl Try.underlying26 cells_len cells_one hw.now.1.1) Try.underlying26 Try.rowinfo_30 (by simp; omega) (by simp; omega) rfl rfl (fun o48 cap48 => ?_)
      refine SL.own_eq (own' := [_, _, _]) rfl ?_
      rw [List.nil_append]
      refine SL.step (PS.assign rfl (fun _ => rfl) rfl rfl) ?_
      refine SL.keep (l' := [(10, _, _), (9, _, _), (8, _, _), (7, _, _), (3, _, _), (1, _, _), (2, _, _)]) ⟨rfl, rfl, rfl, rfl, rfl, rfl, rfl, trivial⟩ ?_
      refine SL.nil ?_
      refine SE.thenK hK14 ?_
      refine SC.seq (fun K15 hK15 => ?_)
      refine SC.seq (fun K16 hK16 => ?_)
      refine SC.region ?_
      refine SL.step (PS.move rfl (fun _ => rfl) rfl rfl) ?_
      refine SL.step (PS.len_slice rfl (fun _ => rfl) Try.underlying26 rfl rfl) ?_
      refine SL.step (PS.move rfl (fun _ => rfl) rfl rfl) ?_
      refine SL.keep (l' := [(51, _, _), (50, _, _), (10, _, _), (9, _, _), (8, _, _), (7, _, _), (3, _, _), (1, _, _), (2, _, _)]) ⟨rfl, rfl, rfl, rfl, rfl, rfl, rfl, rfl, rfl, trivial⟩ ?_
      refine SL.nil ?_
      refine SE.thenK hK16 ?_
      refine SC.block ?_
      refine SC.loop (fun q : Nat × List Vl => ⟨[(51, true, .int .i64 (q.1 : Int)), (50, true, .int .i64 (xs.length : Int)), (10, true, .slice (rowA o48) xs.length cap48), (9, true, .slice B ws.length ws.length), (8, true, .int .i64 pt31.2), (7, true, .pointer (some ⟨b7, 0, none⟩)), (3, true, .pointer (some ⟨b3, 0, none⟩)), (2, true, .slice A2 ys.length c2), (1, true, .slice A xs.length c)], [Res.row 4 Vl.cells o48 q.2 cap48, .blk b7 pt31.1.cells, .blk b3 [.int .i64 i.op, .int .i64 i.reg, .int .i64 i.t, .int .i64 i.n, .int .i64 i.f, .slice i.args.1 i.args.2.1 i.args.2.2, .slice i.to.1 i.to.2.1 i.to.2.2]], fun w => ((Sl 4 Vl.cells A xs w ∧ Sl 4 Vl.cells A2 ys w) ∧ Sl 1 cellI B ws w) ∧ Pl.Mix ws xs ys q.1 q.2⟩) (fun q => xs.length - q.1) ((0, xs)) rfl ⟨rfl, rfl, rfl, rfl, rfl, rfl, rfl, rfl, rfl, trivial⟩ (fun w h => ⟨h, Pl.Mix.start hx⟩) (fun q => ?_)
      obtain ⟨j, zs⟩ := q
      dsimp only
      refine SC.know (fun w h => h.2) (fun hz => ?_)
      refine SC.seq (fun K17 hK17 => ?_)
      refine SC.region ?_
      refine SL.step (PS.lss rfl (fun _ => rfl) rfl (fun _ => rfl) rfl rfl) ?_
      refine SL.nil ?_
      refine SE.thenK hK17 ?_
      refine SC.seq (fun K18 hK18 => ?_)
      refine SC.cond rfl (fun c52 => ?_) (fun c52 => ?_)
      ·
        have hlt : j < xs.length := by simpa using c52
        obtain ⟨x, hx0⟩ : ∃ x, xs[j]? = some x := ⟨_, List.getElem?_eq_getElem hlt⟩
        obtain ⟨y, hy0⟩ : ∃ y, ys[j]? = some y := ⟨_, List.getElem?_eq_getElem (by omega)⟩
        have hwl : xs.length ≤ ws.length := by have := Pl.types_len (hpt31 ▸ c35); rw [hws]; exact this
        obtain ⟨t, hw0⟩ : ∃ t, ws[j]? = some t := ⟨_, List.getElem?_eq_getElem (by omega)⟩
        have hxb : Bd x := hx x (List.mem_of_getElem? hx0)
        have hyb : Bd y := hy y (List.mem_of_getElem? hy0)
        refine SC.know (p := ∃ ad, A = some ad) (fun w h => by obtain ⟨ad, h1, _⟩ := h.1.1.1 j x hx0; exact ⟨ad, h1⟩) (fun hA => ?_)
        obtain ⟨ad, rfl⟩ := hA
        refine SC.know (p := ∃ ad, A2 = some ad) (fun w h => by obtain ⟨ad, h1, _⟩ := h.1.1.2 j y hy0; exact ⟨ad, h1⟩) (fun hA => ?_)
        obtain ⟨ad2, rfl⟩ := hA
        refine SC.know (p := ∃ bd, B = some bd) (fun w h => by obtain ⟨ad, h1, _⟩ := h.1.2 j t hw0; exact ⟨ad, h1⟩) (fun hB => ?_)
        obtain ⟨bd, rfl⟩ := hB
        refine SC.knowR (k := 0) (p := ∃ b, o48 = some b) rfl (fun w h => row_some (fun e => by have := hz.len; rw [e] at this; simp at this; omega) h) (fun ho => ?_)
        obtain ⟨bo, rfl⟩ := ho
        refine SC.skip ?_
        refine SE.thenK hK18 ?_
        refine SC.seq (fun K19 hK19 => ?_)
        refine SC.block ?_
        refine SC.seq (fun K20 hK20 => ?_)
        refine SC.region ?_
        refine SL.step (PS.move rfl (fun _ => rfl) rfl rfl) ?_
        refine SL.step (PS.assign rfl (fun _ => rfl) rfl rfl) ?_
        refine SL.keep (l' := [(11, _, _), (51, _, _), (50, _, _), (10, _, _), (9, _, _), (8, _, _), (7, _, _), (3, _, _), (2, _, _), (1, _, _)]) ⟨rfl, rfl, rfl, rfl, rfl, rfl, rfl, rfl, rfl, rfl, trivial⟩ ?_
        refine SL.nil ?_
        refine SE.thenK hK20 ?_
        refine SC.seq (fun K21 hK21 => ?_)
        refine SC.draw (S := SP _ _ _) 20 (by kernel_rfl) (by kernel_rfl) (fun _ h => h) ?_
        refine SD.take 0 rfl rfl (by kernel_rfl) (PS.move rfl (fun _ => rfl) rfl rfl) ?_
        refine SD.take 1 rfl rfl (by kernel_rfl) (PS.move rfl (fun _ => rfl) rfl rfl) ?_
        refine SD.take 2 rfl rfl (by kernel_rfl) (PS.indexAddr rfl (fun _ => rfl) rfl (fun _ => rfl) Try.underlying23 Try.sizeOf3 (fun _ _ _ => by omega) rfl rfl) ?_
        refine SD.take 3 rfl rfl (by kernel_rfl) (PS.load_F rfl (fun _ => rfl) Try.isAgg3 (fun w h _ => h.1.2.at_ (i := j) (j := 0) hw0 (by simp) rfl) rfl rfl) ?_
        refine SD.take 4 rfl rfl (by kernel_rfl) (PS.move rfl (fun _ => rfl) rfl rfl) ?_
        refine SD.take 5 rfl rfl (by kernel_rfl) (PS.move rfl (fun _ => rfl) rfl rfl) ?_
        refine SD.take 6 rfl rfl (by kernel_rfl) (PS.indexAddr rfl (fun _ => rfl) rfl (fun _ => rfl) Try.underlying26 Try.sizeOf30 (fun _ _ _ => by omega) rfl rfl) ?_
        refine SD.take 7 rfl rfl (by kernel_rfl) (PS.load_F_agg (vs := [_, _, _, _]) rfl (fun _ => rfl) rfl Try.isAgg30 Try.sizeOf30 (fun w h _ => h.1.1.1.cell (i := j) hx0 (by simp)) rfl rfl) ?_
        refine SD.take 9 rfl rfl (by kernel_rfl) (PS.move rfl (fun _ => rfl) rfl rfl) ?_
        refine SD.take 10 rfl rfl (by kernel_rfl) (PS.move rfl (fun _ => rfl) rfl rfl) ?_
        refine SD.take 11 rfl rfl (by kernel_rfl) (PS.indexAddr rfl (fun _ => rfl) rfl (fun _ => rfl) Try.underlying23 Try.sizeOf3 (fun _ _ _ => by omega) rfl rfl) ?_
        refine SD.take 12 rfl rfl (by kernel_rfl) (PS.load_F rfl (fun _ => rfl) Try.isAgg3 (fun w h _ => h.1.2.at_ (i := j) (j := 0) hw0 (by simp) rfl) rfl rfl) ?_
        refine SD.take 13 rfl rfl (by kernel_rfl) (PS.move rfl (fun _ => rfl) rfl rfl) ?_
        refine SD.take 14 rfl rfl (by kernel_rfl) (PS.move rfl (fun _ => rfl) rfl rfl) ?_
        refine SD.take 15 rfl rfl (by kernel_rfl) (PS.indexAddr rfl (fun _ => rfl) rfl (fun _ => rfl) Try.underlying26 Try.sizeOf30 (fun _ _ _ => by omega) rfl rfl) ?_
        refine SD.take 16 rfl rfl (by kernel_rfl) (PS.load_F_agg (vs := [_, _, _, _]) rfl (fun _ => rfl) rfl Try.isAgg30 Try.sizeOf30 (fun w h _ => h.1.1.2.cell (i := j) hy0 (by simp)) rfl rfl) ?_
        refine SD.join2 (f' := 0) (listed' := (List.replicate 20 true ++ List.replicate 2 false).toArray) (L := ?L15) (O := ?O15) (G := ?G15) (fun HT => ?way15) (fun (b12 : Nat) (b13 : Nat) => ?tail15)
        case way15 =>
          refine SD.three 8 18 19 rfl rfl rfl (by kernel_rfl) (fun inv8 => ?_) (fun inv18 => ?_) (fun inv19 => ?_)
          ·
            refine SL.callV (vs := [_, _]) Try.call11 ⟨⟨_, rfl, (fun _ => rfl)⟩, ⟨_, rfl, (fun _ => rfl)⟩, trivial⟩ (fun hg => read_V t x hxb) rfl rfl ?_
            refine SL.nil ?_
            refine SE.next (fun _ h => h.drop (List.Sublist.refl _) (fun _ h => h)) inv8 ?_
            refine SD.three 17 18 19 rfl rfl rfl (by kernel_rfl) (fun inv17 => ?_) (fun inv18 => ?_) (fun inv19 => ?_)
            ·
              refine SL.callV (vs := [_, _]) Try.call11 ⟨⟨_, rfl, (fun _ => rfl)⟩, ⟨_, rfl, (fun _ => rfl)⟩, trivial⟩ (fun hg => read_V t y hyb) rfl rfl ?_
              refine SL.nil ?_
              refine SE.next (fun _ h => h.drop (List.Sublist.refl _) (fun _ h => h)) inv17 ?_
              refine SD.two 18 19 rfl rfl (by kernel_rfl) (fun inv18 => ?_) (fun inv19 => ?_)
              ·
                refine SL.alloc (cs := [_, _, _, _]) Try.zeroValue30 rfl rfl rfl (fun b12 => ?_)
                refine SL.nil ?_
                refine SE.next (fun _ h => h.drop (List.Sublist.cons _ (List.Sublist.refl _)) (fun _ h => h)) inv18 ?_
                refine SD.one 19 rfl (by kernel_rfl) (fun inv19 => ?_)
                refine SL.alloc (cs := [_, _, _, _]) Try.zeroValue30 rfl rfl rfl (fun b13 => ?_)
                refine SL.nil ?_
                refine SE.next (fun _ h => h.drop (List.Sublist.cons _ (List.Sublist.cons _ (List.Sublist.refl _))) (fun _ h => h)) inv19 ?_
                refine SD.lst (listed' := (List.replicate 20 true ++ List.replicate 2 false).toArray) (by kernel_rfl) ?_
                exact (HT b12 b13)
              ·
                refine SL.alloc (cs := [_, _, _, _]) Try.zeroValue30 rfl rfl rfl (fun b13 => ?_)
                refine SL.nil ?_
                refine SE.next (fun _ h => h.drop (List.Sublist.cons _ (List.Sublist.refl _)) (fun _ h => h)) inv19 ?_
                refine SD.one 18 rfl (by kernel_rfl) (fun inv18 => ?_)
                refine SL.alloc (cs := [_, _, _, _]) Try.zeroValue30 rfl rfl rfl (fun b12 => ?_)
                refine SL.nil ?_
                refine SE.next (fun _ h => h.drop (List.Sublist.cons _ (List.Sublist.cons _ (List.Sublist.refl _))) (fun _ h => h)) inv18 ?_
                refine SD.lst (listed' := (List.replicate 20 true ++ List.replicate 2 false).toArray) (by kernel_rfl) ?_
                refine SD.keep ?_ (SD.perm ?_ (HT b12 b13))
                · exact ⟨rfl, rfl, rfl, rfl, rfl, rfl, rfl, rfl, rfl, rfl, rfl, rfl, rfl, rfl, rfl, rfl, rfl, rfl, rfl, rfl, rfl, rfl, rfl, rfl, rfl, rfl, rfl, rfl, rfl, rfl, trivial⟩
                · exact (List.Perm.swap _ _ _)
            ·
              refine SL.alloc (cs := [_, _, _, _]) Try.zeroValue30 rfl rfl rfl (fun b12 => ?_)
              refine SL.nil ?_
              refine SE.next (fun _ h => h.drop (List.Sublist.cons _ (List.Sublist.refl _)) (fun _ h => h)) inv18 ?_
              refine SD.two 17 19 rfl rfl (by kernel_rfl) (fun inv17 => ?_) (fun inv19 => ?_)
              ·
                refine SL.callV (vs := [_, _]) Try.call11 ⟨⟨_, rfl, (fun _ => rfl)⟩, ⟨_, rfl, (fun _ => rfl)⟩, trivial⟩ (fun hg => read_V t y hyb) rfl rfl ?_
                refine SL.nil ?_
                refine SE.next (fun _ h => h.drop (List.Sublist.cons _ (List.Sublist.refl _)) (fun _ h => h)) inv17 ?_
                refine SD.one 19 rfl (by kernel_rfl) (fun inv19 => ?_)
                refine SL.alloc (cs := [_, _, _, _]) Try.zeroValue30 rfl rfl rfl (fun b13 => ?_)
                refine SL.nil ?_
                refine SE.next (fun _ h => h.drop (List.Sublist.cons _ (List.Sublist.cons _ (List.Sublist.refl _))) (fun _ h => h)) inv19 ?_
                refine SD.lst (listed' := (List.replicate 20 true ++ List.replicate 2 false).toArray) (by kernel_rfl) ?_
                refine SD.keep ?_ (SD.perm ?_ (HT b12 b13))
                · exact ⟨rfl, rfl, rfl, rfl, rfl, rfl, rfl, rfl, rfl, rfl, rfl, rfl, rfl, rfl, rfl, rfl, rfl, rfl, rfl, rfl, rfl, rfl, rfl, rfl, rfl, rfl, rfl, rfl, rfl, rfl, trivial⟩
                · exact (List.Perm.refl _)
              ·
                refine SL.alloc (cs := [_, _, _, _]) Try.zeroValue30 rfl rfl rfl (fun b13 => ?_)
                refine SL.nil ?_
                refine SE.next (fun _ h => h.drop (List.Sublist.cons _ (List.Sublist.cons _ (List.Sublist.refl _))) (fun _ h => h)) inv19 ?_
                refine SD.one 17 rfl (by kernel_rfl) (fun inv17 => ?_)
                refine SL.callV (vs := [_, _]) Try.call11 ⟨⟨_, rfl, (fun _ => rfl)⟩, ⟨_, rfl, (fun _ => rfl)⟩, trivial⟩ (fun hg => read_V t y hyb) rfl rfl ?_
                refine SL.nil ?_
                refine SE.next (fun _ h => h.drop (List.Sublist.cons _ (List.Sublist.cons _ (List.Sublist.refl _))) (fun _ h => h)) inv17 ?_
                refine SD.lst (listed' := (List.replicate 20 true ++ List.replicate 2 false).toArray) (by kernel_rfl) ?_
                refine SD.keep ?_ (SD.perm ?_ (HT b12 b13))
                · exact ⟨rfl, rfl, rfl, rfl, rfl, rfl, rfl, rfl, rfl, rfl, rfl, rfl, rfl, rfl, rfl, rfl, rfl, rfl, rfl, rfl, rfl, rfl, rfl, rfl, rfl, rfl, rfl, rfl, rfl, rfl, trivial⟩
                · exact (List.Perm.refl _)
            ·
              refine SL.alloc (cs := [_, _, _, _]) Try.zeroValue30 rfl rfl rfl (fun b13 => ?_)
              refine SL.nil ?_
              refine SE.next (fun _ h => h.drop (List.Sublist.cons _ (List.Sublist.refl _)) (fun _ h => h)) inv19 ?_
              refine SD.two 17 18 rfl rfl (by kernel_rfl) (fun inv17 => ?_) (fun inv18 => ?_)
              ·
                refine SL.callV (vs := [_, _]) Try.call11 ⟨⟨_, rfl, (fun _ => rfl)⟩, ⟨_, rfl, (fun _ => rfl)⟩, trivial⟩ (fun hg => read_V t y hyb) rfl rfl ?_
                refine SL.nil ?_
                refine SE.next (fun _ h => h.drop (List.Sublist.cons _ (List.Sublist.refl _)) (fun _ h => h)) inv17 ?_
                refine SD.one 18 rfl (by kernel_rfl) (fun inv18 => ?_)
                refine SL.alloc (cs := [_, _, _, _]) Try.zeroValue30 rfl rfl rfl (fun b12 => ?_)
                refine SL.nil ?_
                refine SE.next (fun _ h => h.drop (List.Sublist.cons _ (List.Sublist.cons _ (List.Sublist.refl _))) (fun _ h => h)) inv18 ?_
                refine SD.lst (listed' := (List.replicate 20 true ++ List.replicate 2 false).toArray) (by kernel_rfl) ?_
                refine SD.keep ?_ (SD.perm ?_ (HT b12 b13))
                · exact ⟨rfl, rfl, rfl, rfl, rfl, rfl, rfl, rfl, rfl, rfl, rfl, rfl, rfl, rfl, rfl, rfl, rfl, rfl, rfl, rfl, rfl, rfl, rfl, rfl, rfl, rfl, rfl, rfl, rfl, rfl, trivial⟩
                · exact (List.Perm.swap _ _ _)
              ·
                refine SL.alloc (cs := [_, _, _, _]) Try.zeroValue30 rfl rfl rfl (fun b12 => ?_)
                refine SL.nil ?_
                refine SE.next (fun _ h => h.drop (List.Sublist.cons _ (List.Sublist.cons _ (List.Sublist.refl _))) (fun _ h => h)) inv18 ?_
                refine SD.one 17 rfl (by kernel_rfl) (fun inv17 => ?_)
                refine SL.callV (vs := [_, _]) Try.call11 ⟨⟨_, rfl, (fun _ => rfl)⟩, ⟨_, rfl, (fun _ => rfl)⟩, trivial⟩ (fun hg => read_V t y hyb) rfl rfl ?_
                refine SL.nil ?_
                refine SE.next (fun _ h => h.drop (List.Sublist.cons _ (List.Sublist.cons _ (List.Sublist.refl _))) (fun _ h => h)) inv17 ?_
                refine SD.lst (listed' := (List.replicate 20 true ++ List.replicate 2 false).toArray) (by kernel_rfl) ?_
                refine SD.keep ?_ (SD.perm ?_ (HT b12 b13))
                · exact ⟨rfl, rfl, rfl, rfl, rfl, rfl, rfl, rfl, rfl, rfl, rfl, rfl, rfl, rfl, rfl, rfl, rfl, rfl, rfl, rfl, rfl, rfl, rfl, rfl, rfl, rfl, rfl, rfl, rfl, rfl, trivial⟩
                · exact (List.Perm.swap _ _ _)
          ·
            refine SL.alloc (cs := [_, _, _, _]) Try.zeroValue30 rfl rfl rfl (fun b12 => ?_)
            refine SL.nil ?_
            refine SE.next (fun _ h => h.drop (List.Sublist.cons _ (List.Sublist.refl _)) (fun _ h => h)) inv18 ?_
            refine SD.two 8 19 rfl rfl (by kernel_rfl) (fun inv8 => ?_) (fun inv19 => ?_)
            ·
              refine SL.callV (vs := [_, _]) Try.call11 ⟨⟨_, rfl, (fun _ => rfl)⟩, ⟨_, rfl, (fun _ => rfl)⟩, trivial⟩ (fun hg => read_V t x hxb) rfl rfl ?_
              refine SL.nil ?_
              refine SE.next (fun _ h => h.drop (List.Sublist.cons _ (List.Sublist.refl _)) (fun _ h => h)) inv8 ?_
              refine SD.two 17 19 rfl rfl (by kernel_rfl) (fun inv17 => ?_) (fun inv19 => ?_)
              ·
                refine SL.callV (vs := [_, _]) Try.call11 ⟨⟨_, rfl, (fun _ => rfl)⟩, ⟨_, rfl, (fun _ => rfl)⟩, trivial⟩ (fun hg => read_V t y hyb) rfl rfl ?_
                refine SL.nil ?_
                refine SE.next (fun _ h => h.drop (List.Sublist.cons _ (List.Sublist.refl _)) (fun _ h => h)) inv17 ?_
                refine SD.one 19 rfl (by kernel_rfl) (fun inv19 => ?_)
                refine SL.alloc (cs := [_, _, _, _]) Try.zeroValue30 rfl rfl rfl (fun b13 => ?_)
                refine SL.nil ?_
                refine SE.next (fun _ h => h.drop (List.Sublist.cons _ (List.Sublist.cons _ (List.Sublist.refl _))) (fun _ h => h)) inv19 ?_
                refine SD.lst (listed' := (List.replicate 20 true ++ List.replicate 2 false).toArray) (by kernel_rfl) ?_
                refine SD.keep ?_ (SD.perm ?_ (HT b12 b13))
                · exact ⟨rfl, rfl, rfl, rfl, rfl, rfl, rfl, rfl, rfl, rfl, rfl, rfl, rfl, rfl, rfl, rfl, rfl, rfl, rfl, rfl, rfl, rfl, rfl, rfl, rfl, rfl, rfl, rfl, rfl, rfl, trivial⟩
                · exact (List.Perm.refl _)
              ·
                refine SL.alloc (cs := [_, _, _, _]) Try.zeroValue30 rfl rfl rfl (fun b13 => ?_)
                refine SL.nil ?_
                refine SE.next (fun _ h => h.drop (List.Sublist.cons _ (List.Sublist.cons _ (List.Sublist.refl _))) (fun _ h => h)) inv19 ?_
                refine SD.one 17 rfl (by kernel_rfl) (fun inv17 => ?_)
                refine SL.callV (vs := [_, _]) Try.call11 ⟨⟨_, rfl, (fun _ => rfl)⟩, ⟨_, rfl, (fun _ => rfl)⟩, trivial⟩ (fun hg => read_V t y hyb) rfl rfl ?_
                refine SL.nil ?_
                refine SE.next (fun _ h => h.drop (List.Sublist.cons _ (List.Sublist.cons _ (List.Sublist.refl _))) (fun _ h => h)) inv17 ?_
                refine SD.lst (listed' := (List.replicate 20 true ++ List.replicate 2 false).toArray) (by kernel_rfl) ?_
                refine SD.keep ?_ (SD.perm ?_ (HT b12 b13))
                · exact ⟨rfl, rfl, rfl, rfl, rfl, rfl, rfl, rfl, rfl, rfl, rfl, rfl, rfl, rfl, rfl, rfl, rfl, rfl, rfl, rfl, rfl, rfl, rfl, rfl, rfl, rfl, rfl, rfl, rfl, rfl, trivial⟩
                · exact (List.Perm.refl _)
            ·
              refine SL.alloc (cs := [_, _, _, _]) Try.zeroValue30 rfl rfl rfl (fun b13 => ?_)
              refine SL.nil ?_
              refine SE.next (fun _ h => h.drop (List.Sublist.cons _ (List.Sublist.cons _ (List.Sublist.refl _))) (fun _ h => h)) inv19 ?_
              refine SD.one 8 rfl (by kernel_rfl) (fun inv8 => ?_)
              refine SL.callV (vs := [_, _]) Try.call11 ⟨⟨_, rfl, (fun _ => rfl)⟩, ⟨_, rfl, (fun _ => rfl)⟩, trivial⟩ (fun hg => read_V t x hxb) rfl rfl ?_
              refine SL.nil ?_
              refine SE.next (fun _ h => h.drop (List.Sublist.cons _ (List.Sublist.cons _ (List.Sublist.refl _))) (fun _ h => h)) inv8 ?_
              refine SD.one 17 rfl (by kernel_rfl) (fun inv17 => ?_)
              refine SL.callV (vs := [_, _]) Try.call11 ⟨⟨_, rfl, (fun _ => rfl)⟩, ⟨_, rfl, (fun _ => rfl)⟩, trivial⟩ (fun hg => read_V t y hyb) rfl rfl ?_
              refine SL.nil ?_
              refine SE.next (fun _ h => h.drop (List.Sublist.cons _ (List.Sublist.cons _ (List.Sublist.refl _))) (fun _ h => h)) inv17 ?_
              refine SD.lst (listed' := (List.replicate 20 true ++ List.replicate 2 false).toArray) (by kernel_rfl) ?_
              refine SD.keep ?_ (SD.perm ?_ (HT b12 b13))
              · exact ⟨rfl, rfl, rfl, rfl, rfl, rfl, rfl, rfl, rfl, rfl, rfl, rfl, rfl, rfl, rfl, rfl, rfl, rfl, rfl, rfl, rfl, rfl, rfl, rfl, rfl, rfl, rfl, rfl, rfl, rfl, trivial⟩
              · exact (List.Perm.refl _)
          ·
            refine SL.alloc (cs := [_, _, _, _]) Try.zeroValue30 rfl rfl rfl (fun b13 => ?_)
            refine SL.nil ?_
            refine SE.next (fun _ h => h.drop (List.Sublist.cons _ (List.Sublist.refl _)) (fun _ h => h)) inv19 ?_
            refine SD.two 8 18 rfl rfl (by kernel_rfl) (fun inv8 => ?_) (fun inv18 => ?_)
            ·
              refine SL.callV (vs := [_, _]) Try.call11 ⟨⟨_, rfl, (fun _ => rfl)⟩, ⟨_, rfl, (fun _ => rfl)⟩, trivial⟩ (fun hg => read_V t x hxb) rfl rfl ?_
              refine SL.nil ?_
              refine SE.next (fun _ h => h.drop (List.Sublist.cons _ (List.Sublist.refl _)) (fun _ h => h)) inv8 ?_
              refine SD.two 17 18 rfl rfl (by kernel_rfl) (fun inv17 => ?_) (fun inv18 => ?_)
              ·
                refine SL.callV (vs := [_, _]) Try.call11 ⟨⟨_, rfl, (fun _ => rfl)⟩, ⟨_, rfl, (fun _ => rfl)⟩, trivial⟩ (fun hg => read_V t y hyb) rfl rfl ?_
                refine SL.nil ?_
                refine SE.next (fun _ h => h.drop (List.Sublist.cons _ (List.Sublist.refl _)) (fun _ h => h)) inv17 ?_
                refine SD.one 18 rfl (by kernel_rfl) (fun inv18 => ?_)
                refine SL.alloc (cs := [_, _, _, _]) Try.zeroValue30 rfl rfl rfl (fun b12 => ?_)
                refine SL.nil ?_
                refine SE.next (fun _ h => h.drop (List.Sublist.cons _ (List.Sublist.cons _ (List.Sublist.refl _))) (fun _ h => h)) inv18 ?_
                refine SD.lst (listed' := (List.replicate 20 true ++ List.replicate 2 false).toArray) (by kernel_rfl) ?_
                refine SD.keep ?_ (SD.perm ?_ (HT b12 b13))
                · exact ⟨rfl, rfl, rfl, rfl, rfl, rfl, rfl, rfl, rfl, rfl, rfl, rfl, rfl, rfl, rfl, rfl, rfl, rfl, rfl, rfl, rfl, rfl, rfl, rfl, rfl, rfl, rfl, rfl, rfl, rfl, trivial⟩
                · exact (List.Perm.swap _ _ _)
              ·
                refine SL.alloc (cs := [_, _, _, _]) Try.zeroValue30 rfl rfl rfl (fun b12 => ?_)
                refine SL.nil ?_
                refine SE.next (fun _ h => h.drop (List.Sublist.cons _ (List.Sublist.cons _ (List.Sublist.refl _))) (fun _ h => h)) inv18 ?_
                refine SD.one 17 rfl (by kernel_rfl) (fun inv17 => ?_)
                refine SL.callV (vs := [_, _]) Try.call11 ⟨⟨_, rfl, (fun _ => rfl)⟩, ⟨_, rfl, (fun _ => rfl)⟩, trivial⟩ (fun hg => read_V t y hyb) rfl rfl ?_
                refine SL.nil ?_
                refine SE.next (fun _ h => h.drop (List.Sublist.cons _ (List.Sublist.cons _ (List.Sublist.refl _))) (fun _ h => h)) inv17 ?_
                refine SD.lst (listed' := (List.replicate 20 true ++ List.replicate 2 false).toArray) (by kernel_rfl) ?_
                refine SD.keep ?_ (SD.perm ?_ (HT b12 b13))
                · exact ⟨rfl, rfl, rfl, rfl, rfl, rfl, rfl, rfl, rfl, rfl, rfl, rfl, rfl, rfl, rfl, rfl, rfl, rfl, rfl, rfl, rfl, rfl, rfl, rfl, rfl, rfl, rfl, rfl, rfl, rfl, trivial⟩
                · exact (List.Perm.swap _ _ _)
            ·
              refine SL.alloc (cs := [_, _, _, _]) Try.zeroValue30 rfl rfl rfl (fun b12 => ?_)
              refine SL.nil ?_
              refine SE.next (fun _ h => h.drop (List.Sublist.cons _ (List.Sublist.cons _ (List.Sublist.refl _))) (fun _ h => h)) inv18 ?_
              refine SD.one 8 rfl (by kernel_rfl) (fun inv8 => ?_)
              refine SL.callV (vs := [_, _]) Try.call11 ⟨⟨_, rfl, (fun _ => rfl)⟩, ⟨_, rfl, (fun _ => rfl)⟩, trivial⟩ (fun hg => read_V t x hxb) rfl rfl ?_
              refine SL.nil ?_
              refine SE.next (fun _ h => h.drop (List.Sublist.cons _ (List.Sublist.cons _ (List.Sublist.refl _))) (fun _ h => h)) inv8 ?_
              refine SD.one 17 rfl (by kernel_rfl) (fun inv17 => ?_)
              refine SL.callV (vs := [_, _]) Try.call11 ⟨⟨_, rfl, (fun _ => rfl)⟩, ⟨_, rfl, (fun _ => rfl)⟩, trivial⟩ (fun hg => read_V t y hyb) rfl rfl ?_
              refine SL.nil ?_
              refine SE.next (fun _ h => h.drop (List.Sublist.cons _ (List.Sublist.cons _ (List.Sublist.refl _))) (fun _ h => h)) inv17 ?_
              refine SD.lst (listed' := (List.replicate 20 true ++ List.replicate 2 false).toArray) (by kernel_rfl) ?_
              refine SD.keep ?_ (SD.perm ?_ (HT b12 b13))
              · exact ⟨rfl, rfl, rfl, rfl, rfl, rfl, rfl, rfl, rfl, rfl, rfl, rfl, rfl, rfl, rfl, rfl, rfl, rfl, rfl, rfl, rfl, rfl, rfl, rfl, rfl, rfl, rfl, rfl, rfl, rfl, trivial⟩
              · exact (List.Perm.swap _ _ _)
        refine SD.tail (by kernel_rfl) (os := [_, _]) rfl ?_
        first | refine SL.store_own (k := 0) (own' := [_, _, _, _, _]) (cs' := [_, _, _, _]) rfl rfl rfl rfl rfl rfl rfl Try.sizeOf30 rfl (Nat.le_of_ble_eq_true rfl) rfl rfl rfl rfl ?_ | refine SL.store_own (k := 1) (own' := [_, _, _, _, _]) (cs' := [_, _, _, _]) rfl rfl rfl rfl rfl rfl rfl Try.sizeOf30 rfl (Nat.le_of_ble_eq_true rfl) rfl rfl rfl rfl ?_ | refine SL.store_own (k := 2) (own' := [_, _, _, _, _]) (cs' := _) rfl rfl rfl rfl rfl rfl rfl Try.sizeOf30 rfl (Nat.le_of_ble_eq_true rfl) rfl rfl rfl rfl ?_ | refine SL.store_own (k := 3) (own' := [_, _, _, _, _]) (cs' := [_, _, _, _]) rfl rfl rfl rfl rfl rfl rfl Try.sizeOf30 rfl (Nat.le_of_ble_eq_true rfl) rfl rfl rfl rfl ?_ | refine SL.store_own (k := 4) (own' := [_, _, _, _, _]) (cs' := [_, _, _, _, _, _, _]) rfl rfl rfl rfl rfl rfl rfl Try.sizeOf30 rfl (Nat.le_of_ble_eq_true rfl) rfl rfl rfl rfl ?_
        first | refine SL.store_own (k := 0) (own' := [_, _, _, _, _]) (cs' := [_, _, _, _]) rfl rfl rfl rfl rfl rfl rfl Try.sizeOf30 rfl (Nat.le_of_ble_eq_true rfl) rfl rfl rfl rfl ?_ | refine SL.store_own (k := 1) (own' := [_, _, _, _, _]) (cs' := [_, _, _, _]) rfl rfl rfl rfl rfl rfl rfl Try.sizeOf30 rfl (Nat.le_of_ble_eq_true rfl) rfl rfl rfl rfl ?_ | refine SL.store_own (k := 2) (own' := [_, _, _, _, _]) (cs' := _) rfl rfl rfl rfl rfl rfl rfl Try.sizeOf30 rfl (Nat.le_of_ble_eq_true rfl) rfl rfl rfl rfl ?_ | refine SL.store_own (k := 3) (own' := [_, _, _, _, _]) (cs' := [_, _, _, _]) rfl rfl rfl rfl rfl rfl rfl Try.sizeOf30 rfl (Nat.le_of_ble_eq_true rfl) rfl rfl rfl rfl ?_ | refine SL.store_own (k := 4) (own' := [_, _, _, _, _]) (cs' := [_, _, _, _, _, _, _]) rfl rfl rfl rfl rfl rfl rfl Try.sizeOf30 rfl (Nat.le_of_ble_eq_true rfl) rfl rfl rfl rfl ?_
        refine SL.keep (l' := [(13, _, _), (12, _, _), (11, _, _), (51, _, _), (50, _, _), (10, _, _), (9, _, _), (8, _, _), (7, _, _), (3, _, _), (2, _, _), (1, _, _)]) ⟨rfl, rfl, rfl, rfl, rfl, rfl, rfl, rfl, rfl, rfl, rfl, rfl, trivial⟩ ?_
        refine SL.nil ?_
        refine SE.calm ?_
        refine SE.thenK hK21 ?_
        refine SC.seq (fun K22 hK22 => ?_)
        refine SC.region ?_
        first | refine SL.step (PS.load_own_agg (k := 0) (vs := [_, _, _, _]) rfl (fun _ => rfl) rfl rfl rfl rfl Try.isAgg30 Try.sizeOf30 rfl rfl) ?_ | refine SL.step (PS.load_own_agg (k := 1) (vs := [_, _, _, _]) rfl (fun _ => rfl) rfl rfl rfl rfl Try.isAgg30 Try.sizeOf30 rfl rfl) ?_ | refine SL.step (PS.load_own_agg (k := 2) (vs := [_, _, _, _]) rfl (fun _ => rfl) rfl rfl rfl rfl Try.isAgg30 Try.sizeOf30 rfl rfl) ?_ | refine SL.step (PS.load_own_agg (k := 3) (vs := [_, _, _, _]) rfl (fun _ => rfl) rfl rfl rfl rfl Try.isAgg30 Try.sizeOf30 rfl rfl) ?_ | refine SL.step (PS.load_own_agg (k := 4) (vs := [_, _, _, _]) rfl (fun _ => rfl) rfl rfl rfl rfl Try.isAgg30 Try.sizeOf30 rfl rfl) ?_
        first | refine SL.step (PS.load_own_agg (k := 0) (vs := [_, _, _, _]) rfl (fun _ => rfl) rfl rfl rfl rfl Try.isAgg30 Try.sizeOf30 rfl rfl) ?_ | refine SL.step (PS.load_own_agg (k := 1) (vs := [_, _, _, _]) rfl (fun _ => rfl) rfl rfl rfl rfl Try.isAgg30 Try.sizeOf30 rfl rfl) ?_ | refine SL.step (PS.load_own_agg (k := 2) (vs := [_, _, _, _]) rfl (fun _ => rfl) rfl rfl rfl rfl Try.isAgg30 Try.sizeOf30 rfl rfl) ?_ | refine SL.step (PS.load_own_agg (k := 3) (vs := [_, _, _, _]) rfl (fun _ => rfl) rfl rfl rfl rfl Try.isAgg30 Try.sizeOf30 rfl rfl) ?_ | refine SL.step (PS.load_own_agg (k := 4) (vs := [_, _, _, _]) rfl (fun _ => rfl) rfl rfl rfl rfl Try.isAgg30 Try.sizeOf30 rfl rfl) ?_
        refine SL.callV (vs := [_, _]) Try.call12 ⟨⟨_, rfl, (fun _ => rfl)⟩, ⟨_, rfl, (fun _ => rfl)⟩, trivial⟩ (fun hg => better_V _ _) rfl rfl ?_
        refine SL.keep (l' := [(74, _, _), (11, _, _), (51, _, _), (50, _, _), (10, _, _), (9, _, _), (8, _, _), (7, _, _), (3, _, _), (2, _, _), (1, _, _)]) ⟨rfl, rfl, rfl, rfl, rfl, rfl, rfl, rfl, rfl, rfl, rfl, trivial⟩ ?_
        refine SL.nil ?_
        refine SE.thenK hK22 ?_
        refine SC.cond rfl (fun c74 => ?_) (fun c74 => ?_)
        ·
          refine SC.region ?_
          refine SL.step (PS.move rfl (fun _ => rfl) rfl rfl) ?_
          refine SL.step (PS.move rfl (fun _ => rfl) rfl rfl) ?_
          refine SL.step (PS.move rfl (fun _ => rfl) rfl rfl) ?_
          refine SL.step (PS.move rfl (fun _ => rfl) rfl rfl) ?_
          refine SL.step (PS.indexAddr rfl (fun _ => rfl) rfl (fun _ => rfl) Try.underlying26 Try.sizeOf30 (fun _ _ _ => by omega) rfl rfl) ?_
          refine SL.step (PS.load_F_agg (vs := [_, _, _, _]) rfl (fun _ => rfl) rfl Try.isAgg30 Try.sizeOf30 (fun w h _ => h.1.1.2.cell (i := j) hy0 (by simp)) rfl rfl) ?_
          refine SL.step (PS.indexAddr rfl (fun _ => rfl) rfl (fun _ => rfl) Try.underlying26 Try.sizeOf30 (fun _ _ _ => by omega) rfl rfl) ?_
          refine SL.store_row (k := 2) (own' := [_, _, _, _, _]) (i := j) (j := 0) (e := x) (e' := y) rfl rfl rfl rfl (add_none _ _ _) rfl cells_len ((hz.rest j (Nat.le_refl _)).trans hx0) (by simp) rfl Try.sizeOf30 rfl (Nat.le_of_ble_eq_true rfl) rfl rfl rfl rfl rfl ?_
          refine SL.keep (l' := [(51, _, _), (50, _, _), (10, _, _), (9, _, _), (8, _, _), (7, _, _), (3, _, _), (2, _, _), (1, _, _)]) ⟨rfl, rfl, rfl, rfl, rfl, rfl, rfl, rfl, rfl, trivial⟩ ?_
          refine SL.nil ?_
          refine SE.block_normal ?_
          refine SE.thenK hK19 ?_
          refine SC.region ?_
          first | refine SL.step (PS.add_in rfl (fun _ => rfl) rfl (fun _ => rfl) (fun _ => wr_i64 (by omega)) rfl rfl) ?_ | refine SL.step (PS.add rfl (fun _ => rfl) rfl (fun _ => rfl) rfl rfl) ?_
          refine SL.step (PS.move rfl (fun _ => rfl) rfl rfl) ?_
          refine SL.keep (l' := [(51, _, _), (50, _, _), (10, _, _), (9, _, _), (8, _, _), (7, _, _), (3, _, _), (2, _, _), (1, _, _)]) ⟨rfl, rfl, rfl, rfl, rfl, rfl, rfl, rfl, rfl, trivial⟩ ?_
          refine SL.nil ?_
          refine SE.give ?_
          refine SE.give ?_
          first | exact SE.again (j + 1, zs.set j y) rfl ⟨rfl, rfl, rfl, rfl, rfl, rfl, rfl, rfl, rfl, trivial⟩ (fun w h => ⟨h.1.1.1, hz.set hw0 hx0 c74 hyb⟩) (by dsimp only; omega) | exact SE.again (j + 1, zs) rfl ⟨rfl, rfl, rfl, rfl, rfl, rfl, rfl, rfl, rfl, trivial⟩ (fun w h => ⟨h.1.1.1, hz.skip hlt⟩) (by dsimp only; omega)
        ·
          refine SC.skip ?_
          refine SE.block_normal ?_
          refine SE.thenK hK19 ?_
          refine SC.region ?_
          first | refine SL.step (PS.add_in rfl (fun _ => rfl) rfl (fun _ => rfl) (fun _ => wr_i64 (by omega)) rfl rfl) ?_ | refine SL.step (PS.add rfl (fun _ => rfl) rfl (fun _ => rfl) rfl rfl) ?_
          refine SL.step (PS.move rfl (fun _ => rfl) rfl rfl) ?_
          refine SL.keep (l' := [(51, _, _), (50, _, _), (10, _, _), (9, _, _), (8, _, _), (7, _, _), (3, _, _), (2, _, _), (1, _, _)]) ⟨rfl, rfl, rfl, rfl, rfl, rfl, rfl, rfl, rfl, trivial⟩ ?_
          refine SL.nil ?_
          refine SE.give ?_
          refine SE.give ?_
          first | exact SE.again (j + 1, zs.set j y) rfl ⟨rfl, rfl, rfl, rfl, rfl, rfl, rfl, rfl, rfl, trivial⟩ (fun w h => ⟨h.1.1.1, hz.set hw0 hx0 c74 hyb⟩) (by dsimp only; omega) | exact SE.again (j + 1, zs) rfl ⟨rfl, rfl, rfl, rfl, rfl, rfl, rfl, rfl, rfl, trivial⟩ (fun w h => ⟨h.1.1.1, hz.skip hlt⟩) (by dsimp only; omega)
      ·
        have hjn : j = xs.length := by have := hz.le; simp at c52; omega
        subst hjn
        refine SC.exit ?_
        refine SE.then_exit ?_
        refine SE.then_exit ?_
        refine SE.block_same ?_
        refine SE.thenK hK15 ?_
        refine SC.seq (fun K23 hK23 => ?_)
        rw [← hz.len]
        refine SC.region ?_
        first | refine SL.step (PS.load_own_agg (k := 0) (vs := [_, _, _, _, _, _, _]) rfl (fun _ => rfl) rfl rfl rfl rfl Try.isAgg25 Try.sizeOf25 rfl rfl) ?_ | refine SL.step (PS.load_own_agg (k := 1) (vs := [_, _, _, _, _, _, _]) rfl (fun _ => rfl) rfl rfl rfl rfl Try.isAgg25 Try.sizeOf25 rfl rfl) ?_ | refine SL.step (PS.load_own_agg (k := 2) (vs := [_, _, _, _, _, _, _]) rfl (fun _ => rfl) rfl rfl rfl rfl Try.isAgg25 Try.sizeOf25 rfl rfl) ?_
        refine SL.step (PS.move rfl (fun _ => rfl) rfl rfl) ?_
        refine SL.callQ (vs := [_, _]) Try.call9 ⟨⟨_, rfl, (fun _ => rfl)⟩, ⟨_, rfl, (fun _ => rfl)⟩, trivial⟩ (fun hg => Eval_S ⟨_, _, _, _, _, (_, _, _), (_, _, _)⟩ _ _ zs hz.rg hf) (fun w h hok _ => own_row (k := 0) hok rfl cells_len) rfl rfl (fun vt86 hvt86 => ?_)
        obtain ⟨pt86, hpt86, rfl⟩ := out_ex (hvt86 rfl)
        clear hvt86
        simp only at hpt86
        refine SL.step (PS.move rfl (fun _ => rfl) rfl rfl) ?_
        refine SL.step (PS.extract rfl (fun _ => rfl) rfl rfl rfl) ?_
        refine SL.step (PS.extract rfl (fun _ => rfl) rfl rfl rfl) ?_
        refine SL.alloc (cs := [_, _, _, _]) Try.zeroValue30 rfl rfl rfl (fun b14 => ?_)
        first | refine SL.store_own (k := 0) (own' := [_, _, _, _]) (cs' := [_, _, _, _]) rfl rfl rfl rfl rfl rfl rfl Try.sizeOf30 rfl (Nat.le_of_ble_eq_true rfl) rfl rfl rfl rfl ?_ | refine SL.store_own (k := 1) (own' := [_, _, _, _]) (cs' := _) rfl rfl rfl rfl rfl rfl rfl Try.sizeOf30 rfl (Nat.le_of_ble_eq_true rfl) rfl rfl rfl rfl ?_ | refine SL.store_own (k := 2) (own' := [_, _, _, _]) (cs' := [_, _, _, _]) rfl rfl rfl rfl rfl rfl rfl Try.sizeOf30 rfl (Nat.le_of_ble_eq_true rfl) rfl rfl rfl rfl ?_ | refine SL.store_own (k := 3) (own' := [_, _, _, _]) (cs' := [_, _, _, _, _, _, _]) rfl rfl rfl rfl rfl rfl rfl Try.sizeOf30 rfl (Nat.le_of_ble_eq_true rfl) rfl rfl rfl rfl ?_
        refine SL.step (PS.assign rfl (fun _ => rfl) rfl rfl) ?_
        refine SL.keep (l' := [(15, _, _), (14, _, _), (8, _, _), (7, _, _)]) ⟨rfl, rfl, rfl, rfl, trivial⟩ ?_
        refine SL.nil ?_
        refine SE.thenK hK23 ?_
        refine SC.seq (fun K24 hK24 => ?_)
        refine SC.region ?_
        refine SL.step (PS.move rfl (fun _ => rfl) rfl rfl) ?_
        refine SL.step (PS.neq rfl (fun _ => rfl) rfl (fun _ => rfl) rfl rfl) ?_
        refine SL.step (PS.move rfl (fun _ => rfl) rfl rfl) ?_
        refine SL.step (PS.move rfl (fun _ => rfl) rfl rfl) ?_
        refine SL.step (PS.eql rfl (fun h => h) rfl (fun _ => rfl) rfl rfl) ?_
        refine SL.step (PS.pick_or rfl (fun _ => rfl) rfl (fun h h2 => pk_or h h2) rfl rfl) ?_
        refine SL.step (PS.move rfl (fun _ => rfl) rfl rfl) ?_
        refine SL.step (PS.move rfl (fun _ => rfl) rfl rfl) ?_
        refine SL.step (PS.eql rfl (fun h => h) rfl (fun _ => rfl) rfl rfl) ?_
        refine SL.step (PS.move rfl (fun h => h) rfl rfl) ?_
        first | refine SL.step (PS.load_own_agg (k := 0) (vs := [_, _, _, _]) rfl (fun _ => rfl) rfl rfl rfl rfl Try.isAgg30 Try.sizeOf30 rfl rfl) ?_ | refine SL.step (PS.load_own_agg (k := 1) (vs := [_, _, _, _]) rfl (fun _ => rfl) rfl rfl rfl rfl Try.isAgg30 Try.sizeOf30 rfl rfl) ?_ | refine SL.step (PS.load_own_agg (k := 2) (vs := [_, _, _, _]) rfl (fun _ => rfl) rfl rfl rfl rfl Try.isAgg30 Try.sizeOf30 rfl rfl) ?_ | refine SL.step (PS.load_own_agg (k := 3) (vs := [_, _, _, _]) rfl (fun _ => rfl) rfl rfl rfl rfl Try.isAgg30 Try.sizeOf30 rfl rfl) ?_
        first | refine SL.step (PS.load_own_agg (k := 0) (vs := [_, _, _, _]) rfl (fun _ => rfl) rfl rfl rfl rfl Try.isAgg30 Try.sizeOf30 rfl rfl) ?_ | refine SL.step (PS.load_own_agg (k := 1) (vs := [_, _, _, _]) rfl (fun _ => rfl) rfl rfl rfl rfl Try.isAgg30 Try.sizeOf30 rfl rfl) ?_ | refine SL.step (PS.load_own_agg (k := 2) (vs := [_, _, _, _]) rfl (fun _ => rfl) rfl rfl rfl rfl Try.isAgg30 Try.sizeOf30 rfl rfl) ?_ | refine SL.step (PS.load_own_agg (k := 3) (vs := [_, _, _, _]) rfl (fun _ => rfl) rfl rfl rfl rfl Try.isAgg30 Try.sizeOf30 rfl rfl) ?_
        refine SL.callV (vs := [_, _]) Try.call12 ⟨⟨_, rfl, (fun h => h)⟩, ⟨_, rfl, (fun h => h)⟩, trivial⟩ (fun hg => better_V _ _) rfl rfl ?_
        refine SL.step (PS.pick_and rfl (fun h => h) rfl (fun h h2 => pk_and h h2) rfl rfl) ?_
        refine SL.step (PS.pick_or rfl (fun _ => rfl) rfl (fun h h2 => pk_or h h2) rfl rfl) ?_
        refine SL.step (PS.assign rfl (fun _ => rfl) rfl rfl) ?_
        refine SL.keep (l' := [(6, _, _)]) ⟨rfl, trivial⟩ ?_
        refine SL.nil ?_
        refine SE.thenK hK24 ?_
        refine SC.ret ?_
        exact fin1 rfl rfl rfl (fun _ _ => congrArg Value.bool (by rw [hpt31, hpt86]; exact Pl.refines_law (hpt31 ▸ c35) hz.len (hws ▸ hz.mix)))
end Go.Proofs.Ytdiimckjmggjlaa
