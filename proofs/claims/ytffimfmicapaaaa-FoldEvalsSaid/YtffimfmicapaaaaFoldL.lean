/- Layer 15, one instruction: the two ways to fold are one. -/
import Derived.Test.YtffimfmicapaaaaFold
namespace Go.Proofs.Ytffimfmicapaaaa
open Go.RowKit
set_option linter.unusedVariables false
set_option linter.unusedSimpArgs false
set_option maxRecDepth 100000
set_option maxHeartbeats 4000000
open Pl (Vl)
def litsP : List Opd → Option (List Vl)
  | [] => some []
  | v :: vs => bif (d_fold_literal v).2 then (litsP vs).map ((d_fold_literal v).1 :: ·) else none
theorem litsP_cons (v : Opd) (vs : List Opd) : litsP (v :: vs) = bif (d_fold_literal v).2 then (litsP vs).map ((d_fold_literal v).1 :: ·) else none := rfl
def noV : Opd × Bool := (⟨0, 0, 0⟩, false)
def foldI (i : Ins) : Opd × Bool := bif !(d_ir_Calm i.op) then noV else match litsP i.args.l with
  | none => noV
  | some vs => bif (Pl.eval i.op i.t i.n i.f vs).2 != 0 then noV else d_fold_operand (d_ir_Result i) (Pl.eval i.op i.t i.n i.f vs).1
theorem R5_eq (p : Ins) (a b c : Int) : ∀ (m k j : Nat) (l : List Vl), j + m = p.args.l.length → m < k → d_fold_Fold_R5 p k l a b c j = match litsP (p.args.l.drop j) with
    | none => .inl noV
    | some vs => .inr (l ++ vs, a, b, c, (p.args.l.length : Int))
  | 0, k + 1, j, l, hj, _ => by
    have hjl : j = p.args.l.length := by omega
    unfold d_fold_Fold_R5
    rw [decide_eq_false (by omega), cond_false, List.drop_eq_nil_of_le (by omega)]
    simp [litsP, hjl]
  | m + 1, k + 1, j, l, hj, hm => by
    have hjl : j < p.args.l.length := by omega
    unfold d_fold_Fold_R5
    have hx := getD_some (d := (Dat.d : Opd)) hjl
    have hd : p.args.l.drop j = p.args.l.getD j Dat.d :: p.args.l.drop (j + 1) := by
      rw [List.drop_eq_getElem_cons hjl]; congr 1
      rw [List.getElem?_eq_getElem hjl] at hx; exact Option.some.inj hx
    rw [decide_eq_true (by omega), cond_true, Int.toNat_natCast, hd]
    have e : (j : Int) + 1 = ((j + 1 : Nat) : Int) := by omega
    rw [e, R5_eq p a b c m k (j + 1) _ (by omega) (by omega)]
    rw [litsP_cons]
    cases (d_fold_literal (p.args.l.getD j Dat.d)).2
    · rfl
    · simp only [Bool.not_true, cond_false, cond_true]
      cases litsP (p.args.l.drop (j + 1)) <;> simp
  | m, 0, _, _, _, h => by omega
theorem fold_eq (i : Ins) : d_fold_Fold i = foldI i := by
  unfold d_fold_Fold foldI
  cases (!(d_ir_Calm i.op))
  · simp only [cond_false]
    have h := R5_eq i 0 0 0 i.args.l.length (((i.args.l.length : Int) - 0).toNat + 1) 0 [] (by omega) (by omega)
    rw [Int.natCast_zero, List.drop_zero] at h
    cases hl : litsP i.args.l with
    | none => rw [hl] at h; rw [thenL_inl h]
    | some vs => rw [hl] at h; rw [thenL_inr h]; rfl
  · rfl
theorem calm_eq (op : Int) : d_latheref02_Calm op = d_ir_Calm op := by
  unfold d_latheref02_Calm d_ir_Calm d_ir_Idle
  have h : d_latheref02_Calm_R3 op (((8 : Int) - 0).toNat + 1) 0 = bif (4 == op) then .inl false else bif (5 == op) then .inl false else bif (6 == op) then .inl false else bif (7 == op) then .inl false else bif (25 == op) then .inl false else bif (26 == op) then .inl false else bif (27 == op) then .inl false else bif (28 == op) then .inl false else .inr 8 := rfl
  rw [h]
  have e : ∀ k : Int, (k == op) = (op == k) := fun k => Bool.beq_comm
  simp only [e]
  rcases Classical.em (op = 28) with rfl | h28
  · rfl
  · have : (op == 28) = false := by simpa using h28
    rw [this, show (op != 28) = true by simpa using h28, Bool.and_true]
    cases op == 4 <;> cases op == 5 <;> cases op == 6 <;> cases op == 7 <;> cases op == 25 <;> cases op == 26 <;> cases op == 27 <;> rfl
theorem result_eq (i : Ins) : d_latheref02_Result i = d_ir_Result i := by
  unfold d_latheref02_Result d_ir_Result
  simp only [Bool.cond_eq_ite, Bool.or_eq_true, Bool.and_eq_true, decide_eq_true_eq, beq_iff_eq]
  (repeat' split) <;> first | rfl | omega
theorem R7_eq (p : Ins) (a b c : Int) : ∀ (k : Nat) (l : List Vl) (x : Int), d_latheref15_Fold_R7 p k l a b c x = d_fold_Fold_R5 p k l a b c x
  | 0, l, x => rfl
  | k + 1, l, x => by
    unfold d_latheref15_Fold_R7 d_fold_Fold_R5 d_fold_literal
    simp only [R7_eq p a b c k]
    cases decide (x < (p.args.l.length : Int))
    · rfl
    · simp only [cond_true]
      generalize p.args.l.getD (Int.toNat x) Dat.d = v
      cases v.k == 2 <;> cases v.k == 3 <;> cases v.k == 4 <;> cases v.k == 5 <;> rfl
theorem operand_eq (t : Int) (v : Vl) : d_fold_operand t v = bif v.k == 3 then (bif t == 65 then (⟨4, 0, 0⟩, true) else (⟨2, 0, 0⟩, true)) else bif v.k == 1 then (⟨2, 0, v.b⟩, true) else bif v.k == 0 then (⟨3, 0, 0⟩, true) else bif v.off == 0 && v.bl == -1 then (⟨4, 0, 0⟩, true) else bif v.off == 0 && decide (0 ≤ v.bl) then (⟨5, v.bl, 0⟩, true) else (⟨0, 0, 0⟩, false) := by
  unfold d_fold_operand
  simp only [Bool.cond_eq_ite, Bool.or_eq_true, Bool.and_eq_true, decide_eq_true_eq, beq_iff_eq, bne_iff_ne]
  (repeat' split) <;> first | rfl | omega
theorem fold_ref (i : Ins) : d_latheref15_Fold i = foldI i := by
  rw [← fold_eq]
  unfold d_latheref15_Fold d_fold_Fold
  rw [calm_eq]
  cases (!(d_ir_Calm i.op))
  · simp only [cond_false, R7_eq, result_eq]
    congr 1
    funext q
    obtain ⟨l, q1, q2, q3, q4⟩ := q
    simp only [operand_eq]
  · rfl
theorem foldI_S (p0 : Ins) (hn : p0.args.l.length ≤ 1000000) : Spec Try.prog 6 [.agg [.int .i64 p0.op, .int .i64 p0.reg, .int .i64 p0.t, .int .i64 p0.n, .int .i64 p0.f, .slice p0.args.a p0.args.l.length p0.args.cap, .slice p0.to.a p0.to.l.length p0.to.cap].toArray] (fun w => Dat.ok p0 w)
    (fun v _ => v = Value.tuple #[Value.agg [.int .i64 (foldI p0).1.k, .int .i64 (foldI p0).1.n, .int .u64 (foldI p0).1.b].toArray, Value.bool (foldI p0).2]) := by
  rw [← fold_eq]; exact fold_Fold_S p0 hn
theorem foldR_S (p0 : Ins) (hn : p0.args.l.length ≤ 1000000) : Spec Try.prog 7 [.agg [.int .i64 p0.op, .int .i64 p0.reg, .int .i64 p0.t, .int .i64 p0.n, .int .i64 p0.f, .slice p0.args.a p0.args.l.length p0.args.cap, .slice p0.to.a p0.to.l.length p0.to.cap].toArray] (fun w => Dat.ok p0 w)
    (fun v _ => v = Value.tuple #[Value.agg [.int .i64 (foldI p0).1.k, .int .i64 (foldI p0).1.n, .int .u64 (foldI p0).1.b].toArray, Value.bool (foldI p0).2]) := by
  rw [← fold_ref]; exact latheref15_Fold_S p0 hn


def d_lathelaw15_value (p0 : Opd) : Vl :=
  bif (p0.k == 2) then
   (⟨1, p0.b, 0, 0⟩ : Vl)
  else bif (p0.k == 4) then
    (⟨2, 0, (-1), 0⟩ : Vl)
   else bif (p0.k == 5) then
     (⟨2, 0, p0.n, 0⟩ : Vl)
    else (⟨0, 0, 0, 0⟩ : Vl)
theorem lathelaw15_value_V (p0 : Opd)  : SpecV Try.prog 8 [.agg [.int .i64 p0.k, .int .i64 p0.n, .int .u64 p0.b].toArray] (Value.agg [.int .i64 ((d_lathelaw15_value p0).k), .int .u64 ((d_lathelaw15_value p0).b), .int .i64 ((d_lathelaw15_value p0).bl), .int .i64 ((d_lathelaw15_value p0).off)].toArray) := by
  refine SpecV.enter Try.func8 rfl (n := 19) Try.ntmps8 (Nat.le_of_ble_eq_true rfl) (l := [(0, _, _)]) rfl ?_
  intro w
  refine SC.seq (fun K1 hK1 => SC.region ?_)
  refine SL.box (cs := [_, _, _]) rfl rfl rfl rfl rfl (fun b1 => ?_)
  refine SL.alloc (cs := [_, _, _, _]) Try.zeroValue35 rfl rfl rfl (fun b2 => ?_)
  refine SL.keep (l' := [(2, _, _), (1, _, _)]) ⟨rfl, rfl, trivial⟩ ?_
  refine SL.nil (SE.thenK hK1 (SC.seq (fun K2 hK2 => SC.seq (fun K3 hK3 => SC.region ?_))))
  refine SL.step (PS.fieldAddr rfl tt Try.fieldAt_29_0 rfl rfl) ?_
  refine SL.step (PS.load_own (k := 1) rfl tt rfl rfl rfl Try.isAgg3 rfl rfl) ?_
  refine SL.keep (l' := [(4, _, _), (2, _, _), (1, _, _)]) ⟨rfl, rfl, rfl, trivial⟩ ?_
  refine SL.nil (SE.thenK hK3 (SC.block (SC.seq (fun K4 hK4 => SC.region ?_))))
  refine SL.step (PS.eql rfl tt rfl tt rfl rfl) ?_
  refine SL.step (PS.assign rfl tt rfl rfl) ?_
  refine SL.keep (l' := [(5, _, _), (4, _, _), (2, _, _), (1, _, _)]) ⟨rfl, rfl, rfl, rfl, trivial⟩ ?_
  refine SL.nil (SE.thenK hK4 ?_)
  refine SC.cond rfl (fun c5 => ?_) (fun c5 => ?_)
  ·
   refine SC.seq (fun K5 hK5 => SC.region ?_)
   refine SL.step (PS.fieldAddr rfl tt Try.fieldAt_29_2 rfl rfl) ?_
   refine SL.step (PS.load_own (k := 1) rfl tt rfl rfl rfl Try.isAgg27 rfl rfl) ?_
   refine SL.step (PS.build (us := [(0, _), (1, _)]) (vs := [_, _, _, _]) ⟨rfl, ⟨_, rfl, tt⟩, ⟨rfl, ⟨_, rfl, tt⟩, trivial⟩⟩ Try.underlying35 Try.zeroValue35 (Try.places_35 Try.underlying35) rfl rfl rfl) ?_
   refine SL.store_own (k := 0) (own' := [_, _]) (cs' := [_, _, _, _]) rfl rfl rfl rfl rfl rfl rfl Try.sizeOf35 rfl (Nat.le_of_ble_eq_true rfl) rfl rfl rfl rfl ?_
   refine SL.keep (l' := [(2, _, _)]) ⟨rfl, trivial⟩ ?_
   refine SL.nil (SE.thenK hK5 (SC.ret (SE.block_ret (SE.then_ret ?_))))
   exact finVc (k := 0) rfl Try.isAgg35 Try.sizeOf35 rfl rfl rfl rfl (fun _ _ => congrArg (fun z : Vl => Value.agg [.int .i64 z.k, .int .u64 z.b, .int .i64 z.bl, .int .i64 z.off].toArray) (show (d_lathelaw15_value p0) = ((⟨1, p0.b, 0, 0⟩ : Vl) : Vl) from (bifT c5)).symm)
  ·
   refine SC.seq (fun K6 hK6 => SC.region ?_)
   refine SL.step (PS.eql rfl tt rfl tt rfl rfl) ?_
   refine SL.step (PS.assign rfl tt rfl rfl) ?_
   refine SL.keep (l' := [(10, _, _), (4, _, _), (2, _, _), (1, _, _)]) ⟨rfl, rfl, rfl, rfl, trivial⟩ ?_
   refine SL.nil (SE.thenK hK6 ?_)
   refine SC.cond rfl (fun c10 => ?_) (fun c10 => ?_)
   ·
    refine SC.seq (fun K7 hK7 => SC.region ?_)
    refine SL.step (PS.build (us := [(0, _), (2, _)]) (vs := [_, _, _, _]) ⟨rfl, ⟨_, rfl, tt⟩, ⟨rfl, ⟨_, rfl, tt⟩, trivial⟩⟩ Try.underlying35 Try.zeroValue35 (Try.places_35 Try.underlying35) rfl rfl rfl) ?_
    refine SL.store_own (k := 0) (own' := [_, _]) (cs' := [_, _, _, _]) rfl rfl rfl rfl rfl rfl rfl Try.sizeOf35 rfl (Nat.le_of_ble_eq_true rfl) rfl rfl rfl rfl ?_
    refine SL.keep (l' := [(2, _, _)]) ⟨rfl, trivial⟩ ?_
    refine SL.nil (SE.thenK hK7 (SC.ret (SE.block_ret (SE.then_ret ?_))))
    exact finVc (k := 0) rfl Try.isAgg35 Try.sizeOf35 rfl rfl rfl rfl (fun _ _ => congrArg (fun z : Vl => Value.agg [.int .i64 z.k, .int .u64 z.b, .int .i64 z.bl, .int .i64 z.off].toArray) (show (d_lathelaw15_value p0) = ((⟨2, 0, (-1), 0⟩ : Vl) : Vl) from ((bifF c5).trans (bifT c10))).symm)
   ·
    refine SC.seq (fun K8 hK8 => SC.region ?_)
    refine SL.step (PS.eql rfl tt rfl tt rfl rfl) ?_
    refine SL.step (PS.assign rfl tt rfl rfl) ?_
    refine SL.keep (l' := [(13, _, _), (2, _, _), (1, _, _)]) ⟨rfl, rfl, rfl, trivial⟩ ?_
    refine SL.nil (SE.thenK hK8 ?_)
    refine SC.cond rfl (fun c13 => ?_) (fun c13 => ?_)
    ·
     refine SC.seq (fun K9 hK9 => SC.region ?_)
     refine SL.step (PS.fieldAddr rfl tt Try.fieldAt_29_1 rfl rfl) ?_
     refine SL.step (PS.load_own (k := 1) rfl tt rfl rfl rfl Try.isAgg3 rfl rfl) ?_
     refine SL.step (PS.build (us := [(0, _), (2, _)]) (vs := [_, _, _, _]) ⟨rfl, ⟨_, rfl, tt⟩, ⟨rfl, ⟨_, rfl, tt⟩, trivial⟩⟩ Try.underlying35 Try.zeroValue35 (Try.places_35 Try.underlying35) rfl rfl rfl) ?_
     refine SL.store_own (k := 0) (own' := [_, _]) (cs' := [_, _, _, _]) rfl rfl rfl rfl rfl rfl rfl Try.sizeOf35 rfl (Nat.le_of_ble_eq_true rfl) rfl rfl rfl rfl ?_
     refine SL.keep (l' := [(2, _, _)]) ⟨rfl, trivial⟩ ?_
     refine SL.nil (SE.thenK hK9 (SC.ret (SE.block_ret (SE.then_ret ?_))))
     exact finVc (k := 0) rfl Try.isAgg35 Try.sizeOf35 rfl rfl rfl rfl (fun _ _ => congrArg (fun z : Vl => Value.agg [.int .i64 z.k, .int .u64 z.b, .int .i64 z.bl, .int .i64 z.off].toArray) (show (d_lathelaw15_value p0) = ((⟨2, 0, p0.n, 0⟩ : Vl) : Vl) from ((bifF c5).trans ((bifF c10).trans (bifT c13)))).symm)
    ·
     refine SC.skip (SE.block_normal (SE.thenK hK2 (SC.seq (fun K10 hK10 => SC.region ?_))))
     refine SL.step (PS.build (us := []) (vs := [_, _, _, _]) trivial Try.underlying35 Try.zeroValue35 (Try.places_35 Try.underlying35) rfl rfl rfl) ?_
     refine SL.store_own (k := 0) (own' := [_, _]) (cs' := [_, _, _, _]) rfl rfl rfl rfl rfl rfl rfl Try.sizeOf35 rfl (Nat.le_of_ble_eq_true rfl) rfl rfl rfl rfl ?_
     refine SL.keep (l' := [(2, _, _)]) ⟨rfl, trivial⟩ ?_
     refine SL.nil (SE.thenK hK10 (SC.ret ?_))
     exact finVc (k := 0) rfl Try.isAgg35 Try.sizeOf35 rfl rfl rfl rfl (fun _ _ => congrArg (fun z : Vl => Value.agg [.int .i64 z.k, .int .u64 z.b, .int .i64 z.bl, .int .i64 z.off].toArray) (show (d_lathelaw15_value p0) = ((⟨0, 0, 0, 0⟩ : Vl) : Vl) from ((bifF c5).trans ((bifF c10).trans (bifF c13)))).symm)
def d_lathelaw15_lives  : Bool :=
  (((foldI (⟨1, 0, 8, 0, 0, (⟨none, 0, [(⟨2, 0, 200⟩ : Opd), (⟨2, 0, 100⟩ : Opd)]⟩ : SlD Opd), SlD.nil⟩ : Ins)).2 && (decide (((foldI (⟨1, 0, 8, 0, 0, (⟨none, 0, [(⟨2, 0, 200⟩ : Opd), (⟨2, 0, 100⟩ : Opd)]⟩ : SlD Opd), SlD.nil⟩ : Ins)).1) = (⟨2, 0, 44⟩ : Opd)))) && (!((foldI (⟨4, 0, 8, 0, 0, (⟨none, 0, [(⟨2, 0, 1⟩ : Opd), (⟨2, 0, 0⟩ : Opd)]⟩ : SlD Opd), SlD.nil⟩ : Ins)).2)))
theorem lathelaw15_lives_V   : SpecV Try.prog 5 [] (Value.bool d_lathelaw15_lives) := by
  refine SpecV.enter Try.func5 rfl (n := 31) Try.ntmps5 (Nat.le_of_ble_eq_true rfl) (l := []) rfl ?_
  intro w
  refine SC.seq (fun K1 hK1 => SC.region ?_)
  refine SL.step (PS.assign rfl tt rfl rfl) ?_
  refine SL.keep (l' := []) trivial ?_
  refine SL.nil (SE.thenK hK1 (SC.seq (fun K2 hK2 => SC.region ?_)))
  refine SL.step (PS.build (us := [(0, _), (2, _)]) (vs := [_, _, _]) ⟨rfl, ⟨_, rfl, tt⟩, ⟨rfl, ⟨_, rfl, tt⟩, trivial⟩⟩ Try.underlying29 Try.zeroValue29 (Try.places_29 Try.underlying29) rfl rfl rfl) ?_
  refine SL.step (PS.build (us := [(0, _), (2, _)]) (vs := [_, _, _]) ⟨rfl, ⟨_, rfl, tt⟩, ⟨rfl, ⟨_, rfl, tt⟩, trivial⟩⟩ Try.underlying29 Try.zeroValue29 (Try.places_29 Try.underlying29) rfl rfl rfl) ?_
  refine SL.buildSlice (us := [(0, _), (1, _)]) (cs := [_, _, _, _, _, _]) ⟨rfl, ⟨_, rfl, tt⟩, ⟨rfl, ⟨_, rfl, tt⟩, trivial⟩⟩ Try.underlying22 Try.sizeOf29 Try.zeroValue29 ⟨rfl, rfl, _, rfl, ⟨rfl, rfl, _, rfl, trivial⟩⟩ rfl (by decide) rfl rfl (fun b8 => ?_)
  refine SL.step (PS.build (us := [(0, _), (2, _), (5, _)]) (vs := [_, _, _, _, _, _, _]) ⟨rfl, ⟨_, rfl, tt⟩, ⟨rfl, ⟨_, rfl, tt⟩, ⟨rfl, ⟨_, rfl, tt⟩, trivial⟩⟩⟩ Try.underlying25 Try.zeroValue25 (Try.places_25 Try.underlying25) rfl rfl rfl) ?_
  refine SL.callR (vs := [_]) Try.call6 ⟨⟨_, rfl, tt⟩, trivial⟩ (fun hg => foldI_S (⟨1, 0, 8, 0, 0, (⟨some ⟨b8, 0, none⟩, 2, [(⟨2, 0, 200⟩ : Opd), (⟨2, 0, 100⟩ : Opd)]⟩ : SlD Opd), SlD.nil⟩ : Ins) (by first | omega | exact Nat.le_of_ble_eq_true rfl)) (fun w h hok hg => ⟨(⟨Sl.of_blk (xs := [(⟨2, 0, 200⟩ : Opd), (⟨2, 0, 100⟩ : Opd)]) Dat.len rfl (hok _ (mem_nth (k := 0) rfl)), (all_cons ⟨(by first | decide | omega | assumption | (dsimp only; omega) | simp)⟩ (all_cons ⟨(by first | decide | omega | assumption | (dsimp only; omega) | simp)⟩ (fun _ h => nomatch h))), Nat.le_of_ble_eq_true rfl⟩ : SlD.rd _ _), (SlD.nil_rd _), (by first | decide | omega | assumption | (dsimp only; omega) | simp)⟩) rfl rfl ?_
  refine SL.step (PS.move rfl tt rfl rfl) ?_
  refine SL.step (PS.extract rfl tt rfl rfl rfl) ?_
  refine SL.step (PS.extract rfl tt rfl rfl rfl) ?_
  refine SL.alloc (cs := [_, _, _]) Try.zeroValue29 rfl rfl rfl (fun b1 => ?_)
  refine SL.store_own (k := 0) (own' := [_, _]) (cs' := [_, _, _]) rfl rfl rfl rfl rfl rfl rfl Try.sizeOf29 rfl (Nat.le_of_ble_eq_true rfl) rfl rfl rfl rfl ?_
  refine SL.step (PS.assign rfl tt rfl rfl) ?_
  refine SL.keep (l' := [(2, _, _), (1, _, _)]) ⟨rfl, rfl, trivial⟩ ?_
  refine SL.nil (SE.thenK hK2 (SC.seq (fun K3 hK3 => SC.region ?_)))
  refine SL.step (PS.build (us := [(0, _), (2, _)]) (vs := [_, _, _]) ⟨rfl, ⟨_, rfl, tt⟩, ⟨rfl, ⟨_, rfl, tt⟩, trivial⟩⟩ Try.underlying29 Try.zeroValue29 (Try.places_29 Try.underlying29) rfl rfl rfl) ?_
  refine SL.step (PS.build (us := [(0, _)]) (vs := [_, _, _]) ⟨rfl, ⟨_, rfl, tt⟩, trivial⟩ Try.underlying29 Try.zeroValue29 (Try.places_29 Try.underlying29) rfl rfl rfl) ?_
  refine SL.buildSlice (us := [(0, _), (1, _)]) (cs := [_, _, _, _, _, _]) ⟨rfl, ⟨_, rfl, tt⟩, ⟨rfl, ⟨_, rfl, tt⟩, trivial⟩⟩ Try.underlying22 Try.sizeOf29 Try.zeroValue29 ⟨rfl, rfl, _, rfl, ⟨rfl, rfl, _, rfl, trivial⟩⟩ rfl (by decide) rfl rfl (fun b16 => ?_)
  refine SL.step (PS.build (us := [(0, _), (2, _), (5, _)]) (vs := [_, _, _, _, _, _, _]) ⟨rfl, ⟨_, rfl, tt⟩, ⟨rfl, ⟨_, rfl, tt⟩, ⟨rfl, ⟨_, rfl, tt⟩, trivial⟩⟩⟩ Try.underlying25 Try.zeroValue25 (Try.places_25 Try.underlying25) rfl rfl rfl) ?_
  refine SL.callR (vs := [_]) Try.call6 ⟨⟨_, rfl, tt⟩, trivial⟩ (fun hg => foldI_S (⟨4, 0, 8, 0, 0, (⟨some ⟨b16, 0, none⟩, 2, [(⟨2, 0, 1⟩ : Opd), (⟨2, 0, 0⟩ : Opd)]⟩ : SlD Opd), SlD.nil⟩ : Ins) (by first | omega | exact Nat.le_of_ble_eq_true rfl)) (fun w h hok hg => ⟨(⟨Sl.of_blk (xs := [(⟨2, 0, 1⟩ : Opd), (⟨2, 0, 0⟩ : Opd)]) Dat.len rfl (hok _ (mem_nth (k := 0) rfl)), (all_cons ⟨(by first | decide | omega | assumption | (dsimp only; omega) | simp)⟩ (all_cons ⟨(by first | decide | omega | assumption | (dsimp only; omega) | simp)⟩ (fun _ h => nomatch h))), Nat.le_of_ble_eq_true rfl⟩ : SlD.rd _ _), (SlD.nil_rd _), (by first | decide | omega | assumption | (dsimp only; omega) | simp)⟩) rfl rfl ?_
  refine SL.step (PS.move rfl tt rfl rfl) ?_
  refine SL.step (PS.extract rfl tt rfl rfl rfl) ?_
  refine SL.step (PS.extract rfl tt rfl rfl rfl) ?_
  refine SL.alloc (cs := [_, _, _]) Try.zeroValue29 rfl rfl rfl (fun b3 => ?_)
  refine SL.store_own (k := 0) (own' := [_, _, _, _]) (cs' := [_, _, _]) rfl rfl rfl rfl rfl rfl rfl Try.sizeOf29 rfl (Nat.le_of_ble_eq_true rfl) rfl rfl rfl rfl ?_
  refine SL.step (PS.assign rfl tt rfl rfl) ?_
  refine SL.keep (l' := [(4, _, _), (2, _, _), (1, _, _)]) ⟨rfl, rfl, rfl, trivial⟩ ?_
  refine SL.nil (SE.thenK hK3 (SC.seq (fun K4 hK4 => SC.region ?_)))
  refine SL.step (PS.move rfl tt rfl rfl) ?_
  refine SL.step (PS.move rfl tt rfl rfl) ?_
  refine SL.step (PS.load_own_agg (k := 2) (vs := [_, _, _]) rfl tt rfl rfl rfl rfl Try.isAgg29 Try.sizeOf29 rfl rfl) ?_
  refine SL.step (PS.build (us := [(0, _), (2, _)]) (vs := [_, _, _]) ⟨rfl, ⟨_, rfl, tt⟩, ⟨rfl, ⟨_, rfl, tt⟩, trivial⟩⟩ Try.underlying29 Try.zeroValue29 (Try.places_29 Try.underlying29) rfl rfl rfl) ?_
  refine SL.step (PS.eqlA (u := .agg [.int .i64 (((foldI (⟨1, 0, 8, 0, 0, (⟨some ⟨b8, 0, none⟩, 2, [(⟨2, 0, 200⟩ : Opd), (⟨2, 0, 100⟩ : Opd)]⟩ : SlD Opd), SlD.nil⟩ : Ins)).1).k), .int .i64 (((foldI (⟨1, 0, 8, 0, 0, (⟨some ⟨b8, 0, none⟩, 2, [(⟨2, 0, 200⟩ : Opd), (⟨2, 0, 100⟩ : Opd)]⟩ : SlD Opd), SlD.nil⟩ : Ins)).1).n), .int .u64 (((foldI (⟨1, 0, 8, 0, 0, (⟨some ⟨b8, 0, none⟩, 2, [(⟨2, 0, 200⟩ : Opd), (⟨2, 0, 100⟩ : Opd)]⟩ : SlD Opd), SlD.nil⟩ : Ins)).1).b)].toArray) (v := .agg [.int .i64 2, .int .i64 0, .int .u64 44].toArray) rfl (fun h => h) rfl (fun h => h) (fun x y w => Opd_eql x y ((foldI (⟨1, 0, 8, 0, 0, (⟨some ⟨b8, 0, none⟩, 2, [(⟨2, 0, 200⟩ : Opd), (⟨2, 0, 100⟩ : Opd)]⟩ : SlD Opd), SlD.nil⟩ : Ins)).1) (⟨2, 0, 44⟩ : Opd) w) rfl rfl) ?_
  refine SL.step (PS.pick_and rfl tt rfl (fun h h2 => pk_and h h2) rfl rfl) ?_
  refine SL.step (PS.move rfl tt rfl rfl) ?_
  refine SL.step (PS.move rfl tt rfl rfl) ?_
  refine SL.step (PS.not rfl (fun h => h) rfl rfl) ?_
  refine SL.step (PS.pick_and rfl tt rfl (fun h h2 => pk_and h h2) rfl rfl) ?_
  refine SL.step (PS.assign rfl tt rfl rfl) ?_
  refine SL.keep (l' := [(0, _, _)]) ⟨rfl, trivial⟩ ?_
  refine SL.nil (SE.thenK hK4 (SC.ret ?_))
  exact finV1 rfl rfl (fun _ _ => congrArg (fun z : Bool => Value.bool z) (show d_lathelaw15_lives = ((((foldI (⟨1, 0, 8, 0, 0, (⟨some ⟨b8, 0, none⟩, 2, [(⟨2, 0, 200⟩ : Opd), (⟨2, 0, 100⟩ : Opd)]⟩ : SlD Opd), SlD.nil⟩ : Ins)).2 && (decide (((foldI (⟨1, 0, 8, 0, 0, (⟨some ⟨b8, 0, none⟩, 2, [(⟨2, 0, 200⟩ : Opd), (⟨2, 0, 100⟩ : Opd)]⟩ : SlD Opd), SlD.nil⟩ : Ins)).1) = (⟨2, 0, 44⟩ : Opd)))) && (!((foldI (⟨4, 0, 8, 0, 0, (⟨some ⟨b16, 0, none⟩, 2, [(⟨2, 0, 1⟩ : Opd), (⟨2, 0, 0⟩ : Opd)]⟩ : SlD Opd), SlD.nil⟩ : Ins)).2))) : Bool) from rfl).symm)
theorem lives15 : d_lathelaw15_lives = true := by decide +kernel
end Go.Proofs.Ytffimfmicapaaaa
