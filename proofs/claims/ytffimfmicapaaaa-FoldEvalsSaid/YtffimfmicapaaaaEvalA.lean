/- Contracts of kinds, divisor, chosen, anyone, number. -/
import Derived.Test.YtffimfmicapaaaaMem3
import Derived.Test.YtffimfmicapaaaaVal
import Derived.Test.YtffimfmicapaaaaPlE
namespace Go.Proofs.Ytffimfmicapaaaa
open Go.RowKit
set_option linter.unusedVariables false
set_option linter.unusedSimpArgs false
open Pl (Vl)

/-- An instruction. -/
structure In where
  op : Int
  reg : Int
  t : Int
  n : Int
  f : Int
  args : Option Addr × Nat × Nat
  to : Option Addr × Nat × Nat
def In.val (i : In) : Value := .agg [.int .i64 i.op, .int .i64 i.reg, .int .i64 i.t, .int .i64 i.n, .int .i64 i.f, .slice i.args.1 i.args.2.1 i.args.2.2, .slice i.to.1 i.to.2.1 i.to.2.2].toArray
def wants (o : Option (List Int)) (v : Value) (w : World) : Prop :=
  match o with
  | none => v = .slice none 0 0
  | some ts => ∃ b, v = .slice (some ⟨b, 0, none⟩) ts.length ts.length ∧ (Res.blk b (ts.map fun t => .int .i64 t)).ok w
theorem wants_none {o : Option (List Int)} {w : World} (h : o = none) : wants o (.slice none 0 0) w := by subst h; rfl
theorem wants_some {o : Option (List Int)} {w : World} (ts : List Int) {b n : Nat} {cs : List Value} (h : o = some ts) (hn : ts.length = n) (hc : (ts.map fun t => Value.int .i64 t) = cs) (hb : (Res.blk b cs).ok w) : wants o (.slice (some ⟨b, 0, none⟩) n n) w := by
  subst h hn hc; exact ⟨b, rfl, hb⟩
theorem kinds_S (i : In) : Spec Try.prog 17 [i.val] (fun _ => True) (wants (Pl.kinds i.op i.t i.n i.f)) := by
  refine Spec.enter Try.func17 rfl (n := 90) Try.ntmps17 (Nat.le_of_ble_eq_true rfl) (l := [(0, _, _)]) rfl ?_
  intro S w
  refine SC.seq (fun K1 hK1 => SC.region ?_)
  refine SL.box (cs := [_, _, _, _, _, _, _]) rfl rfl rfl rfl rfl (fun b1 => ?_)
  refine SL.step (PS.assign rfl tt rfl rfl) ?_
  refine SL.keep (l' := [(1, _, _)]) ⟨rfl, trivial⟩ ?_
  refine SL.nil (SE.thenK hK1 (SC.seq (fun K2 hK2 => SC.region ?_)))
  refine SL.step (PS.fieldAddr rfl tt Try.fieldAt_25_2 rfl rfl) ?_
  refine SL.step (PS.load_own (k := 0) rfl tt rfl rfl rfl Try.isAgg3 rfl rfl) ?_
  refine SL.step (PS.assign rfl tt rfl rfl) ?_
  refine SL.keep (l' := [(3, _, _), (1, _, _)]) ⟨rfl, rfl, trivial⟩ ?_
  refine SL.nil (SE.thenK hK2 (SC.seq (fun K3 hK3 => SC.region ?_)))
  refine SL.step (PS.move rfl tt rfl rfl) ?_
  refine SL.step (PS.geq rfl tt rfl tt rfl rfl) ?_
  refine SL.step (PS.move rfl tt rfl rfl) ?_
  refine SL.step (PS.move rfl tt rfl rfl) ?_
  refine SL.step (PS.leq rfl (fun h => h) rfl tt rfl rfl) ?_
  refine SL.step (PS.pick_and rfl tt rfl (fun h h2 => pk_and h h2) rfl rfl) ?_
  refine SL.step (PS.assign rfl tt rfl rfl) ?_
  refine SL.keep (l' := [(4, _, _), (3, _, _), (1, _, _)]) ⟨rfl, rfl, rfl, trivial⟩ ?_
  refine SL.nil (SE.thenK hK3 (SC.seq (fun K4 hK4 => SC.region ?_)))
  refine SL.step (PS.move rfl tt rfl rfl) ?_
  refine SL.step (PS.move rfl tt rfl rfl) ?_
  refine SL.step (PS.move rfl tt rfl rfl) ?_
  refine SL.step (PS.eql rfl (fun h => h) rfl tt rfl rfl) ?_
  refine SL.step (PS.pick_or rfl tt rfl (fun h h2 => pk_or h h2) rfl rfl) ?_
  refine SL.step (PS.assign rfl tt rfl rfl) ?_
  refine SL.keep (l' := [(5, _, _), (4, _, _), (3, _, _), (1, _, _)]) ⟨rfl, rfl, rfl, rfl, trivial⟩ ?_
  refine SL.nil (SE.thenK hK4 (SC.seq (fun K5 hK5 => SC.seq (fun K6 hK6 => ?_))))
  refine SC.draw (S := SP _ _ _) 7 (by kernel_rfl) (by kernel_rfl) (fun _ h => h) ?_
  refine SD.take 0 rfl rfl (by kernel_rfl) (PS.fieldAddr rfl tt Try.fieldAt_25_4 rfl rfl) ?_
  refine SD.take 1 rfl rfl (by kernel_rfl) (PS.load_own (k := 0) rfl tt rfl rfl rfl Try.isAgg3 rfl rfl) ?_
  refine SD.take 2 rfl rfl (by kernel_rfl) (PS.fieldAddr rfl tt Try.fieldAt_25_0 rfl rfl) ?_
  refine SD.take 3 rfl rfl (by kernel_rfl) (PS.load_own (k := 0) rfl tt rfl rfl rfl Try.isAgg3 rfl rfl) ?_
  refine SD.one 4 rfl (by kernel_rfl) (fun inv4 => ?_)
  refine SL.callV (vs := [_]) Try.call35 ⟨⟨_, rfl, tt⟩, trivial⟩ (fun hg => flags_V _) rfl rfl ?_
  refine SL.nil ?_
  refine SE.next (fun _ h => h.drop (List.Sublist.refl _) (fun _ h => h)) inv4 ?_
  refine SD.take 5 rfl rfl (by kernel_rfl) (PS.andNot rfl tt rfl tt rfl rfl) ?_
  refine SD.take 6 rfl rfl (by kernel_rfl) (PS.neq rfl tt rfl tt rfl rfl) ?_
  clear inv4
  refine SD.tail (by kernel_rfl) (os := []) rfl ?_
  refine SL.keep (l' := [(28, _, _), (5, _, _), (4, _, _), (3, _, _), (1, _, _)]) ⟨rfl, rfl, rfl, rfl, rfl, trivial⟩ ?_
  refine SL.nil (SE.calm (SE.thenK hK6 ?_))
  refine SC.cond rfl (fun c28 => ?_) (fun c28 => ?_)
  ·
   refine SC.seq (fun K7 hK7 => SC.region ?_)
   refine SL.step (PS.assign rfl tt rfl rfl) ?_
   refine SL.keep (l' := [(2, _, _)]) ⟨rfl, trivial⟩ ?_
   refine SL.nil (SE.thenK hK7 (SC.ret (SE.then_ret ?_)))
   exact fin1 rfl rfl rfl (fun _ _ => wants_none (by simp only [Pl.kinds, c28, cond_true, cond_false]))
  ·
   refine SC.skip (SE.thenK hK5 (SC.seq (fun K8 hK8 => SC.seq (fun K9 hK9 => SC.region ?_))))
   refine SL.step (PS.fieldAddr rfl tt Try.fieldAt_25_0 rfl rfl) ?_
   refine SL.step (PS.load_own (k := 0) rfl tt rfl rfl rfl Try.isAgg3 rfl rfl) ?_
   refine SL.step (PS.assign rfl tt rfl rfl) ?_
   refine SL.keep (l' := [(6, _, _), (5, _, _), (4, _, _), (3, _, _), (1, _, _)]) ⟨rfl, rfl, rfl, rfl, rfl, trivial⟩ ?_
   refine SL.nil (SE.thenK hK9 (SC.block (SC.seq (fun K10 hK10 => SC.region ?_))))
   refine SL.step (PS.move rfl tt rfl rfl) ?_
   refine SL.step (PS.lss rfl tt rfl tt rfl rfl) ?_
   refine SL.step (PS.move rfl tt rfl rfl) ?_
   refine SL.step (PS.move rfl tt rfl rfl) ?_
   refine SL.step (PS.gtr rfl (fun h => h) rfl tt rfl rfl) ?_
   refine SL.step (PS.pick_or rfl tt rfl (fun h h2 => pk_or h h2) rfl rfl) ?_
   refine SL.step (PS.assign rfl tt rfl rfl) ?_
   refine SL.keep (l' := [(31, _, _), (6, _, _), (5, _, _), (4, _, _), (3, _, _), (1, _, _)]) ⟨rfl, rfl, rfl, rfl, rfl, rfl, trivial⟩ ?_
   refine SL.nil (SE.thenK hK10 ?_)
   refine SC.cond rfl (fun c31 => ?_) (fun c31 => ?_)
   ·
    refine SC.seq (fun K11 hK11 => SC.region ?_)
    refine SL.step (PS.assign rfl tt rfl rfl) ?_
    refine SL.keep (l' := [(2, _, _)]) ⟨rfl, trivial⟩ ?_
    refine SL.nil (SE.thenK hK11 (SC.ret (SE.block_ret (SE.then_ret ?_))))
    exact fin1 rfl rfl rfl (fun _ _ => wants_none (by simp only [Pl.kinds, c28, c31, cond_true, cond_false]))
   ·
    refine SC.seq (fun K12 hK12 => SC.region ?_)
    refine SL.step (PS.move rfl tt rfl rfl) ?_
    refine SL.step (PS.eql rfl tt rfl tt rfl rfl) ?_
    refine SL.step (PS.move rfl tt rfl rfl) ?_
    refine SL.step (PS.move rfl tt rfl rfl) ?_
    refine SL.step (PS.eql rfl (fun h => h) rfl tt rfl rfl) ?_
    refine SL.step (PS.pick_or rfl tt rfl (fun h h2 => pk_or h h2) rfl rfl) ?_
    refine SL.step (PS.assign rfl tt rfl rfl) ?_
    refine SL.keep (l' := [(38, _, _), (6, _, _), (5, _, _), (4, _, _), (3, _, _), (1, _, _)]) ⟨rfl, rfl, rfl, rfl, rfl, rfl, trivial⟩ ?_
    refine SL.nil (SE.thenK hK12 ?_)
    refine SC.cond rfl (fun c38 => ?_) (fun c38 => ?_)
    ·
     refine SC.seq (fun K13 hK13 => SC.region ?_)
     refine SL.step (PS.move rfl tt rfl rfl) ?_
     refine SL.keep (l' := [(45, _, _), (3, _, _)]) ⟨rfl, rfl, trivial⟩ ?_
     refine SL.nil (SE.thenK hK13 ?_)
     refine SC.cond rfl (fun c45 => ?_) (fun c45 => ?_)
     ·
      refine SC.seq (fun K14 hK14 => SC.region ?_)
      refine SL.step (PS.move rfl tt rfl rfl) ?_
      refine SL.step (PS.move rfl tt rfl rfl) ?_
      refine SL.buildSlice (us := [(0, _), (1, _)]) (cs := [_, _]) ⟨rfl, ⟨_, rfl, tt⟩, ⟨rfl, ⟨_, rfl, tt⟩, trivial⟩⟩ Try.underlying23 Try.sizeOf3 Try.zeroValue3 ⟨rfl, rfl, _, rfl, ⟨rfl, rfl, _, rfl, trivial⟩⟩ rfl (by decide) rfl rfl (fun b48 => ?_)
      refine SL.step (PS.assign rfl tt rfl rfl) ?_
      refine SL.keep (l' := [(2, _, _)]) ⟨rfl, trivial⟩ ?_
      refine SL.nil (SE.thenK hK14 (SC.ret (SE.block_ret (SE.then_ret ?_))))
      refine SE.give ?_
      exact fin1 rfl rfl rfl (fun _ h => wants_some [i.t, i.t] (by simp only [Pl.kinds, c28, c31, c38, c45, cond_true, cond_false]) rfl rfl h.2)
     ·
      refine SC.skip (SE.block_normal (SE.thenK hK8 (SC.seq (fun K15 hK15 => SC.region ?_))))
      refine SL.step (PS.assign rfl tt rfl rfl) ?_
      refine SL.keep (l' := [(2, _, _)]) ⟨rfl, trivial⟩ ?_
      refine SL.nil (SE.thenK hK15 (SC.ret ?_))
      exact fin1 rfl rfl rfl (fun _ _ => wants_none (by simp only [Pl.kinds, *, cond_true, cond_false]))
    ·
     refine SC.seq (fun K16 hK16 => SC.region ?_)
     refine SL.step (PS.move rfl tt rfl rfl) ?_
     refine SL.step (PS.leq rfl tt rfl tt rfl rfl) ?_
     refine SL.step (PS.assign rfl tt rfl rfl) ?_
     refine SL.keep (l' := [(49, _, _), (6, _, _), (5, _, _), (4, _, _), (3, _, _), (1, _, _)]) ⟨rfl, rfl, rfl, rfl, rfl, rfl, trivial⟩ ?_
     refine SL.nil (SE.thenK hK16 ?_)
     refine SC.cond rfl (fun c49 => ?_) (fun c49 => ?_)
     ·
      refine SC.seq (fun K17 hK17 => SC.region ?_)
      refine SL.step (PS.move rfl tt rfl rfl) ?_
      refine SL.keep (l' := [(52, _, _), (3, _, _)]) ⟨rfl, rfl, trivial⟩ ?_
      refine SL.nil (SE.thenK hK17 ?_)
      refine SC.cond rfl (fun c52 => ?_) (fun c52 => ?_)
      ·
       refine SC.seq (fun K18 hK18 => SC.region ?_)
       refine SL.step (PS.move rfl tt rfl rfl) ?_
       refine SL.step (PS.move rfl tt rfl rfl) ?_
       refine SL.buildSlice (us := [(0, _), (1, _)]) (cs := [_, _]) ⟨rfl, ⟨_, rfl, tt⟩, ⟨rfl, ⟨_, rfl, tt⟩, trivial⟩⟩ Try.underlying23 Try.sizeOf3 Try.zeroValue3 ⟨rfl, rfl, _, rfl, ⟨rfl, rfl, _, rfl, trivial⟩⟩ rfl (by decide) rfl rfl (fun b55 => ?_)
       refine SL.step (PS.assign rfl tt rfl rfl) ?_
       refine SL.keep (l' := [(2, _, _)]) ⟨rfl, trivial⟩ ?_
       refine SL.nil (SE.thenK hK18 (SC.ret (SE.block_ret (SE.then_ret ?_))))
       refine SE.give ?_
       exact fin1 rfl rfl rfl (fun _ h => wants_some [i.t, i.t] (by simp only [Pl.kinds, c28, c31, c38, c49, c52, cond_true, cond_false]) rfl rfl h.2)
      ·
       refine SC.skip (SE.block_normal (SE.thenK hK8 (SC.seq (fun K19 hK19 => SC.region ?_))))
       refine SL.step (PS.assign rfl tt rfl rfl) ?_
       refine SL.keep (l' := [(2, _, _)]) ⟨rfl, trivial⟩ ?_
       refine SL.nil (SE.thenK hK19 (SC.ret ?_))
       exact fin1 rfl rfl rfl (fun _ _ => wants_none (by simp only [Pl.kinds, *, cond_true, cond_false]))
     ·
      refine SC.seq (fun K20 hK20 => SC.region ?_)
      refine SL.step (PS.move rfl tt rfl rfl) ?_
      refine SL.step (PS.leq rfl tt rfl tt rfl rfl) ?_
      refine SL.step (PS.assign rfl tt rfl rfl) ?_
      refine SL.keep (l' := [(56, _, _), (6, _, _), (5, _, _), (3, _, _), (1, _, _)]) ⟨rfl, rfl, rfl, rfl, rfl, trivial⟩ ?_
      refine SL.nil (SE.thenK hK20 ?_)
      refine SC.cond rfl (fun c56 => ?_) (fun c56 => ?_)
      ·
       refine SC.seq (fun K21 hK21 => SC.region ?_)
       refine SL.step (PS.move rfl tt rfl rfl) ?_
       refine SL.step (PS.fieldAddr rfl tt Try.fieldAt_25_3 rfl rfl) ?_
       refine SL.step (PS.load_own (k := 0) rfl tt rfl rfl rfl Try.isAgg3 rfl rfl) ?_
       refine SL.step (PS.move rfl tt rfl rfl) ?_
       refine SL.callV (vs := [_, _, _, _]) Try.call36 ⟨⟨_, rfl, tt⟩, ⟨_, rfl, tt⟩, ⟨_, rfl, tt⟩, ⟨_, rfl, tt⟩, trivial⟩ (fun hg => convert_V _ _ _ _ (by omega) (by omega)) rfl rfl ?_
       refine SL.step (PS.move rfl tt rfl rfl) ?_
       refine SL.step (PS.extract rfl tt rfl rfl rfl) ?_
       refine SL.step (PS.extract rfl tt rfl rfl rfl) ?_
       refine SL.step (PS.assign rfl tt rfl rfl) ?_
       refine SL.step (PS.assign rfl tt rfl rfl) ?_
       refine SL.keep (l' := [(8, _, _), (1, _, _)]) ⟨rfl, rfl, trivial⟩ ?_
       refine SL.nil (SE.thenK hK21 (SC.seq (fun K22 hK22 => SC.region ?_)))
       refine SL.step (PS.move rfl tt rfl rfl) ?_
       refine SL.keep (l' := [(67, _, _), (1, _, _)]) ⟨rfl, rfl, trivial⟩ ?_
       refine SL.nil (SE.thenK hK22 ?_)
       refine SC.cond rfl (fun c67 => ?_) (fun c67 => ?_)
       ·
        refine SC.seq (fun K23 hK23 => SC.region ?_)
        refine SL.step (PS.fieldAddr rfl tt Try.fieldAt_25_3 rfl rfl) ?_
        refine SL.step (PS.load_own (k := 0) rfl tt rfl rfl rfl Try.isAgg3 rfl rfl) ?_
        refine SL.buildSlice (us := [(0, _)]) (cs := [_]) ⟨rfl, ⟨_, rfl, tt⟩, trivial⟩ Try.underlying23 Try.sizeOf3 Try.zeroValue3 ⟨rfl, rfl, _, rfl, trivial⟩ rfl (by decide) rfl rfl (fun b70 => ?_)
        refine SL.step (PS.assign rfl tt rfl rfl) ?_
        refine SL.keep (l' := [(2, _, _)]) ⟨rfl, trivial⟩ ?_
        refine SL.nil (SE.thenK hK23 (SC.ret (SE.block_ret (SE.then_ret ?_))))
        refine SE.give ?_
        exact fin1 rfl rfl rfl (fun _ h => wants_some [i.n] (by simp only [Pl.kinds, c28, c31, c38, c49, c56, c67, cond_true, cond_false]) rfl rfl h.2)
       ·
        refine SC.skip (SE.block_normal (SE.thenK hK8 (SC.seq (fun K24 hK24 => SC.region ?_))))
        refine SL.step (PS.assign rfl tt rfl rfl) ?_
        refine SL.keep (l' := [(2, _, _)]) ⟨rfl, trivial⟩ ?_
        refine SL.nil (SE.thenK hK24 (SC.ret ?_))
        exact fin1 rfl rfl rfl (fun _ _ => wants_none (by simp only [Pl.kinds, *, cond_true, cond_false]))
      ·
       refine SC.seq (fun K25 hK25 => SC.region ?_)
       refine SL.step (PS.move rfl tt rfl rfl) ?_
       refine SL.step (PS.eql rfl tt rfl tt rfl rfl) ?_
       refine SL.step (PS.assign rfl tt rfl rfl) ?_
       refine SL.keep (l' := [(71, _, _), (6, _, _), (5, _, _), (3, _, _)]) ⟨rfl, rfl, rfl, rfl, trivial⟩ ?_
       refine SL.nil (SE.thenK hK25 ?_)
       refine SC.cond rfl (fun c71 => ?_) (fun c71 => ?_)
       ·
        refine SC.seq (fun K26 hK26 => SC.region ?_)
        refine SL.step (PS.move rfl tt rfl rfl) ?_
        refine SL.keep (l' := [(74, _, _), (3, _, _)]) ⟨rfl, rfl, trivial⟩ ?_
        refine SL.nil (SE.thenK hK26 ?_)
        refine SC.cond rfl (fun c74 => ?_) (fun c74 => ?_)
        ·
         refine SC.seq (fun K27 hK27 => SC.region ?_)
         refine SL.step (PS.move rfl tt rfl rfl) ?_
         refine SL.step (PS.move rfl tt rfl rfl) ?_
         refine SL.buildSlice (us := [(0, _), (1, _), (2, _)]) (cs := [_, _, _]) ⟨rfl, ⟨_, rfl, tt⟩, ⟨rfl, ⟨_, rfl, tt⟩, ⟨rfl, ⟨_, rfl, tt⟩, trivial⟩⟩⟩ Try.underlying23 Try.sizeOf3 Try.zeroValue3 ⟨rfl, rfl, _, rfl, ⟨rfl, rfl, _, rfl, ⟨rfl, rfl, _, rfl, trivial⟩⟩⟩ rfl (by decide) rfl rfl (fun b77 => ?_)
         refine SL.step (PS.assign rfl tt rfl rfl) ?_
         refine SL.keep (l' := [(2, _, _)]) ⟨rfl, trivial⟩ ?_
         refine SL.nil (SE.thenK hK27 (SC.ret (SE.block_ret (SE.then_ret ?_))))
         refine SE.give ?_
         exact fin1 rfl rfl rfl (fun _ h => wants_some [1, i.t, i.t] (by simp only [Pl.kinds, c28, c31, c38, c49, c56, c71, c74, cond_true, cond_false]) rfl rfl h.2)
        ·
         refine SC.skip (SE.block_normal (SE.thenK hK8 (SC.seq (fun K28 hK28 => SC.region ?_))))
         refine SL.step (PS.assign rfl tt rfl rfl) ?_
         refine SL.keep (l' := [(2, _, _)]) ⟨rfl, trivial⟩ ?_
         refine SL.nil (SE.thenK hK28 (SC.ret ?_))
         exact fin1 rfl rfl rfl (fun _ _ => wants_none (by simp only [Pl.kinds, *, cond_true, cond_false]))
       ·
        refine SC.seq (fun K29 hK29 => SC.region ?_)
        refine SL.step (PS.move rfl tt rfl rfl) ?_
        refine SL.step (PS.eql rfl tt rfl tt rfl rfl) ?_
        refine SL.step (PS.assign rfl tt rfl rfl) ?_
        refine SL.keep (l' := [(78, _, _), (6, _, _), (5, _, _), (3, _, _)]) ⟨rfl, rfl, rfl, rfl, trivial⟩ ?_
        refine SL.nil (SE.thenK hK29 ?_)
        refine SC.cond rfl (fun c78 => ?_) (fun c78 => ?_)
        ·
         refine SC.seq (fun K30 hK30 => SC.region ?_)
         refine SL.step (PS.move rfl tt rfl rfl) ?_
         refine SL.keep (l' := [(81, _, _), (3, _, _)]) ⟨rfl, rfl, trivial⟩ ?_
         refine SL.nil (SE.thenK hK30 ?_)
         refine SC.cond rfl (fun c81 => ?_) (fun c81 => ?_)
         ·
          refine SC.seq (fun K31 hK31 => SC.region ?_)
          refine SL.step (PS.move rfl tt rfl rfl) ?_
          refine SL.buildSlice (us := [(0, _)]) (cs := [_]) ⟨rfl, ⟨_, rfl, tt⟩, trivial⟩ Try.underlying23 Try.sizeOf3 Try.zeroValue3 ⟨rfl, rfl, _, rfl, trivial⟩ rfl (by decide) rfl rfl (fun b83 => ?_)
          refine SL.step (PS.assign rfl tt rfl rfl) ?_
          refine SL.keep (l' := [(2, _, _)]) ⟨rfl, trivial⟩ ?_
          refine SL.nil (SE.thenK hK31 (SC.ret (SE.block_ret (SE.then_ret ?_))))
          refine SE.give ?_
          exact fin1 rfl rfl rfl (fun _ h => wants_some [i.t] (by simp only [Pl.kinds, c28, c31, c38, c49, c56, c71, c78, c81, cond_true, cond_false]) rfl rfl h.2)
         ·
          refine SC.skip (SE.block_normal (SE.thenK hK8 (SC.seq (fun K32 hK32 => SC.region ?_))))
          refine SL.step (PS.assign rfl tt rfl rfl) ?_
          refine SL.keep (l' := [(2, _, _)]) ⟨rfl, trivial⟩ ?_
          refine SL.nil (SE.thenK hK32 (SC.ret ?_))
          exact fin1 rfl rfl rfl (fun _ _ => wants_none (by simp only [Pl.kinds, *, cond_true, cond_false]))
        ·
         refine SC.seq (fun K33 hK33 => SC.region ?_)
         refine SL.step (PS.move rfl tt rfl rfl) ?_
         refine SL.step (PS.eql rfl tt rfl tt rfl rfl) ?_
         refine SL.step (PS.assign rfl tt rfl rfl) ?_
         refine SL.keep (l' := [(84, _, _), (3, _, _)]) ⟨rfl, rfl, trivial⟩ ?_
         refine SL.nil (SE.thenK hK33 ?_)
         refine SC.cond rfl (fun c84 => ?_) (fun c84 => ?_)
         ·
          refine SC.seq (fun K34 hK34 => SC.region ?_)
          refine SL.step (PS.move rfl tt rfl rfl) ?_
          refine SL.step (PS.eql rfl tt rfl tt rfl rfl) ?_
          refine SL.keep (l' := [(88, _, _)]) ⟨rfl, trivial⟩ ?_
          refine SL.nil (SE.thenK hK34 ?_)
          refine SC.cond rfl (fun c88 => ?_) (fun c88 => ?_)
          ·
           refine SC.seq (fun K35 hK35 => SC.region ?_)
           refine SL.buildSlice (us := [(0, _), (1, _)]) (cs := [_, _]) ⟨rfl, ⟨_, rfl, tt⟩, ⟨rfl, ⟨_, rfl, tt⟩, trivial⟩⟩ Try.underlying23 Try.sizeOf3 Try.zeroValue3 ⟨rfl, rfl, _, rfl, ⟨rfl, rfl, _, rfl, trivial⟩⟩ rfl (by decide) rfl rfl (fun b89 => ?_)
           refine SL.step (PS.assign rfl tt rfl rfl) ?_
           refine SL.keep (l' := [(2, _, _)]) ⟨rfl, trivial⟩ ?_
           refine SL.nil (SE.thenK hK35 (SC.ret (SE.block_ret (SE.then_ret ?_))))
           refine SE.give ?_
           exact fin1 rfl rfl rfl (fun _ h => wants_some [65, 64] (by simp only [Pl.kinds, c28, c31, c38, c49, c56, c71, c78, c84, c88, cond_true, cond_false]) rfl rfl h.2)
          ·
           refine SC.skip (SE.block_normal (SE.thenK hK8 (SC.seq (fun K36 hK36 => SC.region ?_))))
           refine SL.step (PS.assign rfl tt rfl rfl) ?_
           refine SL.keep (l' := [(2, _, _)]) ⟨rfl, trivial⟩ ?_
           refine SL.nil (SE.thenK hK36 (SC.ret ?_))
           exact fin1 rfl rfl rfl (fun _ _ => wants_none (by simp only [Pl.kinds, *, cond_true, cond_false]))
         ·
          refine SC.skip (SE.block_normal (SE.thenK hK8 (SC.seq (fun K37 hK37 => SC.region ?_))))
          refine SL.step (PS.assign rfl tt rfl rfl) ?_
          refine SL.keep (l' := [(2, _, _)]) ⟨rfl, trivial⟩ ?_
          refine SL.nil (SE.thenK hK37 (SC.ret ?_))
          exact fin1 rfl rfl rfl (fun _ _ => wants_none (by simp only [Pl.kinds, *, cond_true, cond_false]))
theorem anyone_V : SpecV Try.prog 20 [] Pl.any.val := by
  refine SpecV.enter Try.func20 rfl (n := 2) Try.ntmps20 (Nat.le_of_ble_eq_true rfl) (l := []) rfl ?_
  intro w
  refine SC.seq (fun K1 hK1 => SC.region ?_)
  refine SL.alloc (cs := [_, _, _, _]) Try.zeroValue35 rfl rfl rfl (fun b0 => ?_)
  refine SL.nil (SE.thenK hK1 (SC.seq (fun K2 hK2 => SC.region ?_)))
  refine SL.step (PS.build (us := [(0, _)]) (vs := [_, _, _, _]) ⟨rfl, ⟨_, rfl, tt⟩, trivial⟩ Try.underlying35 Try.zeroValue35 (Try.places_35 Try.underlying35) rfl rfl rfl) ?_
  refine SL.store_own (k := 0) (own' := [_]) (cs' := [_, _, _, _]) rfl rfl rfl rfl rfl rfl rfl Try.sizeOf35 rfl (Nat.le_of_ble_eq_true rfl) rfl rfl rfl rfl ?_
  refine SL.keep (l' := [(0, _, _)]) ⟨rfl, trivial⟩ ?_
  refine SL.nil (SE.thenK hK2 (SC.ret ?_))
  exact finVc (k := 0) rfl Try.isAgg35 Try.sizeOf35 rfl rfl rfl rfl (fun _ _ => rfl)
theorem number_V (z : Int) : SpecV Try.prog 39 [.int .u64 z] (Vl.mk 1 z 0 0).val := by
  refine SpecV.enter Try.func39 rfl (n := 5) Try.ntmps39 (Nat.le_of_ble_eq_true rfl) (l := [(0, _, _)]) rfl ?_
  intro w
  refine SC.seq (fun K1 hK1 => SC.region ?_)
  refine SL.alloc (cs := [_, _, _, _]) Try.zeroValue35 rfl rfl rfl (fun b2 => ?_)
  refine SL.nil (SE.thenK hK1 (SC.seq (fun K2 hK2 => SC.region ?_)))
  refine SL.step (PS.move rfl tt rfl rfl) ?_
  refine SL.step (PS.build (us := [(0, _), (1, _)]) (vs := [_, _, _, _]) ⟨rfl, ⟨_, rfl, tt⟩, ⟨rfl, ⟨_, rfl, tt⟩, trivial⟩⟩ Try.underlying35 Try.zeroValue35 (Try.places_35 Try.underlying35) rfl rfl rfl) ?_
  refine SL.store_own (k := 0) (own' := [_]) (cs' := [_, _, _, _]) rfl rfl rfl rfl rfl rfl rfl Try.sizeOf35 rfl (Nat.le_of_ble_eq_true rfl) rfl rfl rfl rfl ?_
  refine SL.keep (l' := [(2, _, _)]) ⟨rfl, trivial⟩ ?_
  refine SL.nil (SE.thenK hK2 (SC.ret ?_))
  exact finVc (k := 0) rfl Try.isAgg35 Try.sizeOf35 rfl rfl rfl rfl (fun _ _ => rfl)

theorem divisor_S (i : In) (ad : Addr) (n c : Nat) (xs : List Vl) (a b : Vl) (hx0 : xs[0]? = some a) (hx1 : xs[1]? = some b) (hn : 2 ≤ n) :
    Spec Try.prog 19 [i.val, .slice (some ad) n c] (Sl 4 Vl.cells (some ad) xs) (fun v _ => v = .int .i64 (Pl.divisor i.op i.t a b)) := by
  refine Spec.enter Try.func19 rfl (n := 70) Try.ntmps19 (Nat.le_of_ble_eq_true rfl) (l := [(0, _, _), (1, _, _)]) rfl ?_
  intro S w
  refine SC.seq (fun K1 hK1 => SC.region ?_)
  refine SL.box (cs := [_, _, _, _, _, _, _]) rfl rfl rfl rfl rfl (fun b2 => ?_)
  refine SL.step (PS.assign rfl tt rfl rfl) ?_
  refine SL.keep (l' := [(2, _, _), (1, _, _)]) ⟨rfl, rfl, trivial⟩ ?_
  refine SL.nil (SE.thenK hK1 (SC.seq (fun K2 hK2 => ?_)))
  refine SC.draw (S := SP _ _ _) 10 (by kernel_rfl) (by kernel_rfl) (fun _ h => h) ?_
  refine SD.take 0 rfl rfl (by kernel_rfl) (PS.move rfl tt rfl rfl) ?_
  refine SD.take 1 rfl rfl (by kernel_rfl) (PS.indexAddr rfl tt rfl tt Try.underlying33 Try.sizeOf35 (fun _ _ _ => by omega) rfl rfl) ?_
  refine SD.take 2 rfl rfl (by kernel_rfl) (PS.load_F_agg (vs := [_, _, _, _]) rfl tt rfl Try.isAgg35 Try.sizeOf35 (fun w h _ => h.cell (i := 0) hx0 rfl) rfl rfl) ?_
  refine SD.take 3 rfl rfl (by kernel_rfl) (PS.move rfl tt rfl rfl) ?_
  refine SD.take 4 rfl rfl (by kernel_rfl) (PS.indexAddr rfl tt rfl tt Try.underlying33 Try.sizeOf35 (fun _ _ _ => by omega) rfl rfl) ?_
  refine SD.take 5 rfl rfl (by kernel_rfl) (PS.load_F_agg (vs := [_, _, _, _]) rfl tt rfl Try.isAgg35 Try.sizeOf35 (fun w h _ => h.cell (i := 1) hx1 rfl) rfl rfl) ?_
  refine SD.alloc2 6 7 (cs := [_, _, _, _]) (cs' := [_, _, _, _]) rfl rfl Try.zeroValue35 rfl Try.zeroValue35 rfl (by kernel_rfl) rfl rfl rfl rfl (fun _ _ hs h => h.drop (List.Sublist.trans (List.Sublist.refl _) hs) (fun _ h => h)) (fun b5 b6 => ?_)
  refine SD.one 8 rfl (by kernel_rfl) (fun inv8 => ?_)
  first | refine SL.store_own (k := 0) (own' := [_, _, _]) (cs' := [_, _, _, _]) rfl rfl rfl rfl rfl rfl rfl Try.sizeOf35 rfl (Nat.le_of_ble_eq_true rfl) rfl rfl rfl rfl ?_ | refine SL.store_own (k := 1) (own' := [_, _, _]) (cs' := [_, _, _, _]) rfl rfl rfl rfl rfl rfl rfl Try.sizeOf35 rfl (Nat.le_of_ble_eq_true rfl) rfl rfl rfl rfl ?_ | refine SL.store_own (k := 2) (own' := [_, _, _]) (cs' := [_, _, _, _, _, _, _]) rfl rfl rfl rfl rfl rfl rfl Try.sizeOf35 rfl (Nat.le_of_ble_eq_true rfl) rfl rfl rfl rfl ?_
  refine SL.nil ?_
  refine SE.next (fun _ h => h.drop (List.Sublist.cons _ (List.Sublist.cons _ (List.Sublist.refl _))) (fun _ h => h)) inv8 ?_
  refine SD.one 9 rfl (by kernel_rfl) (fun inv9 => ?_)
  first | refine SL.store_own (k := 0) (own' := [_, _, _]) (cs' := [_, _, _, _]) rfl rfl rfl rfl rfl rfl rfl Try.sizeOf35 rfl (Nat.le_of_ble_eq_true rfl) rfl rfl rfl rfl ?_ | refine SL.store_own (k := 1) (own' := [_, _, _]) (cs' := [_, _, _, _]) rfl rfl rfl rfl rfl rfl rfl Try.sizeOf35 rfl (Nat.le_of_ble_eq_true rfl) rfl rfl rfl rfl ?_ | refine SL.store_own (k := 2) (own' := [_, _, _]) (cs' := [_, _, _, _, _, _, _]) rfl rfl rfl rfl rfl rfl rfl Try.sizeOf35 rfl (Nat.le_of_ble_eq_true rfl) rfl rfl rfl rfl ?_
  refine SL.nil ?_
  refine SE.next (fun _ h => h.drop (List.Sublist.cons _ (List.Sublist.cons _ (List.Sublist.refl _))) (fun _ h => h)) inv9 ?_
  clear inv8 inv9
  refine SD.tail (by kernel_rfl) (os := []) rfl ?_
  refine SL.keep (l' := [(6, _, _), (5, _, _), (2, _, _)]) ⟨rfl, rfl, rfl, trivial⟩ ?_
  refine SL.nil (SE.calm (SE.thenK hK2 (SC.seq (fun K3 hK3 => ?_))))
  refine SC.draw (S := SP _ _ _) 17 (by kernel_rfl) (by kernel_rfl) (fun _ h => h) ?_
  refine SD.take 0 rfl rfl (by kernel_rfl) (PS.fieldAddr rfl tt Try.fieldAt_25_0 rfl rfl) ?_
  first | refine SD.take 1 rfl rfl (by kernel_rfl) (PS.load_own (k := 0) rfl tt rfl rfl rfl Try.isAgg3 rfl rfl) ?_ | refine SD.take 1 rfl rfl (by kernel_rfl) (PS.load_own (k := 1) rfl tt rfl rfl rfl Try.isAgg3 rfl rfl) ?_ | refine SD.take 1 rfl rfl (by kernel_rfl) (PS.load_own (k := 2) rfl tt rfl rfl rfl Try.isAgg3 rfl rfl) ?_
  refine SD.take 2 rfl rfl (by kernel_rfl) (PS.eql rfl tt rfl tt rfl rfl) ?_
  refine SD.take 3 rfl rfl (by kernel_rfl) (PS.move rfl tt rfl rfl) ?_
  refine SD.take 4 rfl rfl (by kernel_rfl) (PS.fieldAddr rfl tt Try.fieldAt_25_0 rfl rfl) ?_
  first | refine SD.take 5 rfl rfl (by kernel_rfl) (PS.load_own (k := 0) rfl (fun h => h) rfl rfl rfl Try.isAgg3 rfl rfl) ?_ | refine SD.take 5 rfl rfl (by kernel_rfl) (PS.load_own (k := 1) rfl (fun h => h) rfl rfl rfl Try.isAgg3 rfl rfl) ?_ | refine SD.take 5 rfl rfl (by kernel_rfl) (PS.load_own (k := 2) rfl (fun h => h) rfl rfl rfl Try.isAgg3 rfl rfl) ?_
  refine SD.take 6 rfl rfl (by kernel_rfl) (PS.eql rfl (fun h => h) rfl tt rfl rfl) ?_
  refine SD.take 7 rfl rfl (by kernel_rfl) (PS.pick_or rfl tt rfl (fun h h2 => pk_or h h2) rfl rfl) ?_
  refine SD.take 8 rfl rfl (by kernel_rfl) (PS.move rfl tt rfl rfl) ?_
  refine SD.take 9 rfl rfl (by kernel_rfl) (PS.fieldAddr rfl tt Try.fieldAt_35_1 rfl rfl) ?_
  first | refine SD.take 10 rfl rfl (by kernel_rfl) (PS.load_own (k := 0) rfl (fun h => h) rfl rfl rfl Try.isAgg27 rfl rfl) ?_ | refine SD.take 10 rfl rfl (by kernel_rfl) (PS.load_own (k := 1) rfl (fun h => h) rfl rfl rfl Try.isAgg27 rfl rfl) ?_ | refine SD.take 10 rfl rfl (by kernel_rfl) (PS.load_own (k := 2) rfl (fun h => h) rfl rfl rfl Try.isAgg27 rfl rfl) ?_
  refine SD.take 11 rfl rfl (by kernel_rfl) (PS.fieldAddr rfl tt Try.fieldAt_25_2 rfl rfl) ?_
  first | refine SD.take 12 rfl rfl (by kernel_rfl) (PS.load_own (k := 0) rfl (fun h => h) rfl rfl rfl Try.isAgg3 rfl rfl) ?_ | refine SD.take 12 rfl rfl (by kernel_rfl) (PS.load_own (k := 1) rfl (fun h => h) rfl rfl rfl Try.isAgg3 rfl rfl) ?_ | refine SD.take 12 rfl rfl (by kernel_rfl) (PS.load_own (k := 2) rfl (fun h => h) rfl rfl rfl Try.isAgg3 rfl rfl) ?_
  refine SD.one 13 rfl (by kernel_rfl) (fun inv13 => ?_)
  refine SL.callV (vs := [_]) Try.call37 ⟨⟨_, rfl, (fun h => h)⟩, trivial⟩ (fun hg => mask_V _) rfl rfl ?_
  refine SL.nil ?_
  refine SE.next (fun _ h => h.drop (List.Sublist.refl _) (fun _ h => h)) inv13 ?_
  refine SD.take 14 rfl rfl (by kernel_rfl) (PS.eql rfl (fun h => h) rfl (fun h => h) rfl rfl) ?_
  refine SD.take 15 rfl rfl (by kernel_rfl) (PS.pick_and rfl tt rfl (fun h h2 => pk_and h h2) rfl rfl) ?_
  refine SD.take 16 rfl rfl (by kernel_rfl) (PS.assign rfl tt rfl rfl) ?_
  clear inv13
  refine SD.tail (by kernel_rfl) (os := []) rfl ?_
  refine SL.keep (l' := [(7, _, _), (6, _, _), (5, _, _)]) ⟨rfl, rfl, rfl, trivial⟩ ?_
  refine SL.nil (SE.calm (SE.thenK hK3 (SC.seq (fun K4 hK4 => SC.block (SC.seq (fun K5 hK5 => SC.seq (fun K6 hK6 => SC.region ?_)))))))
  refine SL.step (PS.fieldAddr rfl tt Try.fieldAt_35_0 rfl rfl) ?_
  first | refine SL.step (PS.load_own (k := 0) rfl tt rfl rfl rfl Try.isAgg3 rfl rfl) ?_ | refine SL.step (PS.load_own (k := 1) rfl tt rfl rfl rfl Try.isAgg3 rfl rfl) ?_ | refine SL.step (PS.load_own (k := 2) rfl tt rfl rfl rfl Try.isAgg3 rfl rfl) ?_
  refine SL.step (PS.eql rfl tt rfl tt rfl rfl) ?_
  refine SL.step (PS.move rfl tt rfl rfl) ?_
  refine SL.step (PS.fieldAddr rfl tt Try.fieldAt_35_0 rfl rfl) ?_
  first | refine SL.step (PS.load_own (k := 0) rfl (fun h => h) rfl rfl rfl Try.isAgg3 rfl rfl) ?_ | refine SL.step (PS.load_own (k := 1) rfl (fun h => h) rfl rfl rfl Try.isAgg3 rfl rfl) ?_ | refine SL.step (PS.load_own (k := 2) rfl (fun h => h) rfl rfl rfl Try.isAgg3 rfl rfl) ?_
  refine SL.step (PS.eql rfl (fun h => h) rfl tt rfl rfl) ?_
  refine SL.step (PS.move rfl (fun h => h) rfl rfl) ?_
  refine SL.step (PS.fieldAddr rfl tt Try.fieldAt_35_1 rfl rfl) ?_
  first | refine SL.step (PS.load_own (k := 0) rfl (fun h => h) rfl rfl rfl Try.isAgg27 rfl rfl) ?_ | refine SL.step (PS.load_own (k := 1) rfl (fun h => h) rfl rfl rfl Try.isAgg27 rfl rfl) ?_ | refine SL.step (PS.load_own (k := 2) rfl (fun h => h) rfl rfl rfl Try.isAgg27 rfl rfl) ?_
  refine SL.step (PS.eql rfl (fun h => h) rfl tt rfl rfl) ?_
  refine SL.step (PS.pick_and rfl (fun h => h) rfl (fun h h2 => pk_and h h2) rfl rfl) ?_
  refine SL.step (PS.pick_or rfl tt rfl (fun h h2 => pk_or h h2) rfl rfl) ?_
  refine SL.step (PS.assign rfl tt rfl rfl) ?_
  refine SL.keep (l' := [(30, _, _), (7, _, _), (6, _, _), (5, _, _)]) ⟨rfl, rfl, rfl, rfl, trivial⟩ ?_
  refine SL.nil (SE.thenK hK6 ?_)
  refine SC.cond rfl (fun c30 => ?_) (fun c30 => ?_)
  ·
   refine SC.skip (SE.thenK hK5 (SC.cond_t rfl c30 (SC.seq (fun K7 hK7 => SC.region ?_))))
   refine SL.step (PS.assign rfl tt rfl rfl) ?_
   refine SL.keep (l' := [(4, _, _)]) ⟨rfl, trivial⟩ ?_
   refine SL.nil (SE.thenK hK7 (SC.ret (SE.block_ret (SE.then_ret ?_))))
   exact fin1 rfl rfl rfl (fun _ _ => by simp only [Pl.divisor, *, cond_true, cond_false])
  ·
   refine SC.region ?_
   refine SL.step (PS.move rfl tt rfl rfl) ?_
   refine SL.step (PS.move rfl tt rfl rfl) ?_
   refine SL.step (PS.fieldAddr rfl tt Try.fieldAt_35_0 rfl rfl) ?_
   first | refine SL.step (PS.load_own (k := 0) rfl (fun h => h) rfl rfl rfl Try.isAgg3 rfl rfl) ?_ | refine SL.step (PS.load_own (k := 1) rfl (fun h => h) rfl rfl rfl Try.isAgg3 rfl rfl) ?_ | refine SL.step (PS.load_own (k := 2) rfl (fun h => h) rfl rfl rfl Try.isAgg3 rfl rfl) ?_
   refine SL.step (PS.eql rfl (fun h => h) rfl tt rfl rfl) ?_
   refine SL.step (PS.pick_and rfl tt rfl (fun h h2 => pk_and h h2) rfl rfl) ?_
   refine SL.step (PS.move rfl tt rfl rfl) ?_
   refine SL.step (PS.fieldAddr rfl tt Try.fieldAt_35_0 rfl rfl) ?_
   first | refine SL.step (PS.load_own (k := 0) rfl (fun h => h) rfl rfl rfl Try.isAgg3 rfl rfl) ?_ | refine SL.step (PS.load_own (k := 1) rfl (fun h => h) rfl rfl rfl Try.isAgg3 rfl rfl) ?_ | refine SL.step (PS.load_own (k := 2) rfl (fun h => h) rfl rfl rfl Try.isAgg3 rfl rfl) ?_
   refine SL.step (PS.eql rfl (fun h => h) rfl tt rfl rfl) ?_
   refine SL.step (PS.pick_and rfl tt rfl (fun h h2 => pk_and h h2) rfl rfl) ?_
   refine SL.step (PS.assign rfl tt rfl rfl) ?_
   refine SL.keep (l' := [(30, _, _), (7, _, _), (6, _, _), (5, _, _)]) ⟨rfl, rfl, rfl, rfl, trivial⟩ ?_
   refine SL.nil (SE.thenK hK5 ?_)
   refine SC.cond rfl (fun c30b => ?_) (fun c30b => ?_)
   ·
    refine SC.seq (fun K8 hK8 => SC.region ?_)
    refine SL.step (PS.assign rfl tt rfl rfl) ?_
    refine SL.keep (l' := [(4, _, _)]) ⟨rfl, trivial⟩ ?_
    refine SL.nil (SE.thenK hK8 (SC.ret (SE.block_ret (SE.then_ret ?_))))
    exact fin1 rfl rfl rfl (fun _ _ => by simp only [Pl.divisor, *, cond_true, cond_false])
   ·
    refine SC.seq (fun K9 hK9 => SC.seq (fun K10 hK10 => SC.region ?_))
    refine SL.step (PS.fieldAddr rfl tt Try.fieldAt_35_0 rfl rfl) ?_
    first | refine SL.step (PS.load_own (k := 0) rfl tt rfl rfl rfl Try.isAgg3 rfl rfl) ?_ | refine SL.step (PS.load_own (k := 1) rfl tt rfl rfl rfl Try.isAgg3 rfl rfl) ?_ | refine SL.step (PS.load_own (k := 2) rfl tt rfl rfl rfl Try.isAgg3 rfl rfl) ?_
    refine SL.step (PS.eql rfl tt rfl tt rfl rfl) ?_
    refine SL.step (PS.assign rfl tt rfl rfl) ?_
    refine SL.keep (l' := [(55, _, _), (7, _, _), (6, _, _), (5, _, _)]) ⟨rfl, rfl, rfl, rfl, trivial⟩ ?_
    refine SL.nil (SE.thenK hK10 ?_)
    refine SC.cond rfl (fun c55 => ?_) (fun c55 => ?_)
    ·
     refine SC.skip (SE.thenK hK9 (SC.cond_t rfl c55 (SC.seq (fun K11 hK11 => SC.region ?_))))
     refine SL.step (PS.assign rfl tt rfl rfl) ?_
     refine SL.keep (l' := [(4, _, _)]) ⟨rfl, trivial⟩ ?_
     refine SL.nil (SE.thenK hK11 (SC.ret (SE.block_ret (SE.then_ret ?_))))
     exact fin1 rfl rfl rfl (fun _ _ => by simp only [Pl.divisor, *, cond_true, cond_false])
    ·
     refine SC.region ?_
     refine SL.step (PS.move rfl tt rfl rfl) ?_
     refine SL.step (PS.move rfl tt rfl rfl) ?_
     refine SL.step (PS.fieldAddr rfl tt Try.fieldAt_35_0 rfl rfl) ?_
     first | refine SL.step (PS.load_own (k := 0) rfl (fun h => h) rfl rfl rfl Try.isAgg3 rfl rfl) ?_ | refine SL.step (PS.load_own (k := 1) rfl (fun h => h) rfl rfl rfl Try.isAgg3 rfl rfl) ?_ | refine SL.step (PS.load_own (k := 2) rfl (fun h => h) rfl rfl rfl Try.isAgg3 rfl rfl) ?_
     refine SL.step (PS.eql rfl (fun h => h) rfl tt rfl rfl) ?_
     refine SL.step (PS.pick_and rfl tt rfl (fun h h2 => pk_and h h2) rfl rfl) ?_
     refine SL.step (PS.move rfl tt rfl rfl) ?_
     refine SL.step (PS.fieldAddr rfl tt Try.fieldAt_35_0 rfl rfl) ?_
     first | refine SL.step (PS.load_own (k := 0) rfl (fun h => h) rfl rfl rfl Try.isAgg3 rfl rfl) ?_ | refine SL.step (PS.load_own (k := 1) rfl (fun h => h) rfl rfl rfl Try.isAgg3 rfl rfl) ?_ | refine SL.step (PS.load_own (k := 2) rfl (fun h => h) rfl rfl rfl Try.isAgg3 rfl rfl) ?_
     refine SL.step (PS.eql rfl (fun h => h) rfl tt rfl rfl) ?_
     refine SL.step (PS.pick_and rfl tt rfl (fun h h2 => pk_and h h2) rfl rfl) ?_
     refine SL.step (PS.assign rfl tt rfl rfl) ?_
     refine SL.keep (l' := [(55, _, _)]) ⟨rfl, trivial⟩ ?_
     refine SL.nil (SE.thenK hK9 ?_)
     refine SC.cond rfl (fun c55b => ?_) (fun c55b => ?_)
     ·
      refine SC.seq (fun K12 hK12 => SC.region ?_)
      refine SL.step (PS.assign rfl tt rfl rfl) ?_
      refine SL.keep (l' := [(4, _, _)]) ⟨rfl, trivial⟩ ?_
      refine SL.nil (SE.thenK hK12 (SC.ret (SE.block_ret (SE.then_ret ?_))))
      exact fin1 rfl rfl rfl (fun _ _ => by simp only [Pl.divisor, *, cond_true, cond_false])
     ·
      refine SC.skip (SE.block_normal (SE.thenK hK4 (SC.seq (fun K13 hK13 => SC.region ?_))))
      refine SL.step (PS.assign rfl tt rfl rfl) ?_
      refine SL.keep (l' := [(4, _, _)]) ⟨rfl, trivial⟩ ?_
      refine SL.nil (SE.thenK hK13 (SC.ret ?_))
      exact fin1 rfl rfl rfl (fun _ _ => by simp only [Pl.divisor, *, cond_true, cond_false])
theorem chosen_V (ad : Addr) (n c : Nat) (xs : List Vl) (x y z : Vl) (hx0 : xs[0]? = some x) (hx1 : xs[1]? = some y) (hx2 : xs[2]? = some z) (hn : 3 ≤ n) :
    Spec Try.prog 21 [.slice (some ad) n c] (Sl 4 Vl.cells (some ad) xs) (fun v _ => v = (Pl.chosen x y z).val) := by
  refine Spec.enter Try.func21 rfl (n := 61) Try.ntmps21 (Nat.le_of_ble_eq_true rfl) (l := [(0, _, _)]) rfl ?_
  intro S w
  refine SC.seq (fun K1 hK1 => SC.region ?_)
  refine SL.alloc (cs := [_, _, _, _]) Try.zeroValue35 rfl rfl rfl (fun b2 => ?_)
  refine SL.nil (SE.thenK hK1 (SC.seq (fun K2 hK2 => SC.block (SC.seq (fun K3 hK3 => SC.region ?_)))))
  refine SL.step (PS.move rfl tt rfl rfl) ?_
  refine SL.step (PS.indexAddr rfl tt rfl tt Try.underlying33 Try.sizeOf35 (fun _ _ _ => by omega) rfl rfl) ?_
  refine SL.step (PS.fieldAddr rfl tt Try.fieldAt_35_0 rfl rfl) ?_
  refine SL.step (PS.load_F rfl tt Try.isAgg3 (fun w h _ => (h).at_ (i := 0) (j := 0) hx0 rfl rfl) rfl rfl) ?_
  refine SL.step (PS.eql rfl tt rfl tt rfl rfl) ?_
  refine SL.step (PS.assign rfl tt rfl rfl) ?_
  refine SL.keep (l' := [(3, _, _), (2, _, _), (0, _, _)]) ⟨rfl, rfl, rfl, trivial⟩ ?_
  refine SL.nil (SE.thenK hK3 ?_)
  refine SC.cond rfl (fun c3 => ?_) (fun c3 => ?_)
  ·
   refine SC.seq (fun K4 hK4 => SC.region ?_)
   refine SL.step (PS.build (us := []) (vs := [_, _, _, _]) trivial Try.underlying35 Try.zeroValue35 (Try.places_35 Try.underlying35) rfl rfl rfl) ?_
   refine SL.store_own (k := 0) (own' := [_]) (cs' := [_, _, _, _]) rfl rfl rfl rfl rfl rfl rfl Try.sizeOf35 rfl (Nat.le_of_ble_eq_true rfl) rfl rfl rfl rfl ?_
   refine SL.keep (l' := [(2, _, _)]) ⟨rfl, trivial⟩ ?_
   refine SL.nil (SE.thenK hK4 (SC.ret (SE.block_ret (SE.then_ret ?_))))
   exact finc (k := 0) rfl Try.isAgg35 Try.sizeOf35 rfl rfl rfl rfl rfl (fun _ _ => by simp only [Pl.chosen, *, cond_true, cond_false]; rfl)
  ·
   refine SC.seq (fun K5 hK5 => SC.region ?_)
   refine SL.step (PS.move rfl tt rfl rfl) ?_
   refine SL.step (PS.indexAddr rfl tt rfl tt Try.underlying33 Try.sizeOf35 (fun _ _ _ => by omega) rfl rfl) ?_
   refine SL.step (PS.fieldAddr rfl tt Try.fieldAt_35_0 rfl rfl) ?_
   refine SL.step (PS.load_F rfl tt Try.isAgg3 (fun w h _ => (h).at_ (i := 0) (j := 0) hx0 rfl rfl) rfl rfl) ?_
   refine SL.step (PS.eql rfl tt rfl tt rfl rfl) ?_
   refine SL.step (PS.move rfl tt rfl rfl) ?_
   refine SL.step (PS.move rfl tt rfl rfl) ?_
   refine SL.step (PS.indexAddr rfl (fun h => h) rfl tt Try.underlying33 Try.sizeOf35 (fun _ _ _ => by omega) rfl rfl) ?_
   refine SL.step (PS.fieldAddr rfl (fun h => h) Try.fieldAt_35_1 rfl rfl) ?_
   refine SL.step (PS.load_F rfl (fun h => h) Try.isAgg27 (fun w h _ => (h).at_ (i := 0) (j := 1) hx0 rfl rfl) rfl rfl) ?_
   refine SL.step (PS.eql rfl (fun h => h) rfl tt rfl rfl) ?_
   refine SL.step (PS.pick_and rfl tt rfl (fun h h2 => pk_and h h2) rfl rfl) ?_
   refine SL.step (PS.assign rfl tt rfl rfl) ?_
   refine SL.keep (l' := [(10, _, _), (2, _, _), (0, _, _)]) ⟨rfl, rfl, rfl, trivial⟩ ?_
   refine SL.nil (SE.thenK hK5 ?_)
   refine SC.cond rfl (fun c10 => ?_) (fun c10 => ?_)
   ·
    refine SC.seq (fun K6 hK6 => SC.region ?_)
    refine SL.step (PS.move rfl tt rfl rfl) ?_
    refine SL.step (PS.indexAddr rfl tt rfl tt Try.underlying33 Try.sizeOf35 (fun _ _ _ => by omega) rfl rfl) ?_
    refine SL.step (PS.load_F_agg (vs := [_, _, _, _]) rfl tt rfl Try.isAgg35 Try.sizeOf35 (fun w h _ => (h).cell (i := 1) hx1 rfl) rfl rfl) ?_
    refine SL.store_own (k := 0) (own' := [_]) (cs' := [_, _, _, _]) rfl rfl rfl rfl rfl rfl rfl Try.sizeOf35 rfl (Nat.le_of_ble_eq_true rfl) rfl rfl rfl rfl ?_
    refine SL.keep (l' := [(2, _, _)]) ⟨rfl, trivial⟩ ?_
    refine SL.nil (SE.thenK hK6 (SC.ret (SE.block_ret (SE.then_ret ?_))))
    exact finc (k := 0) rfl Try.isAgg35 Try.sizeOf35 rfl rfl rfl rfl rfl (fun _ _ => by simp only [Pl.chosen, *, cond_true, cond_false]; rfl)
   ·
    refine SC.seq (fun K7 hK7 => SC.region ?_)
    refine SL.step (PS.move rfl tt rfl rfl) ?_
    refine SL.step (PS.indexAddr rfl tt rfl tt Try.underlying33 Try.sizeOf35 (fun _ _ _ => by omega) rfl rfl) ?_
    refine SL.step (PS.fieldAddr rfl tt Try.fieldAt_35_0 rfl rfl) ?_
    refine SL.step (PS.load_F rfl tt Try.isAgg3 (fun w h _ => (h).at_ (i := 0) (j := 0) hx0 rfl rfl) rfl rfl) ?_
    refine SL.step (PS.eql rfl tt rfl tt rfl rfl) ?_
    refine SL.step (PS.assign rfl tt rfl rfl) ?_
    refine SL.keep (l' := [(26, _, _), (2, _, _), (0, _, _)]) ⟨rfl, rfl, rfl, trivial⟩ ?_
    refine SL.nil (SE.thenK hK7 ?_)
    refine SC.cond rfl (fun c26 => ?_) (fun c26 => ?_)
    ·
     refine SC.seq (fun K8 hK8 => SC.region ?_)
     refine SL.step (PS.move rfl tt rfl rfl) ?_
     refine SL.step (PS.indexAddr rfl tt rfl tt Try.underlying33 Try.sizeOf35 (fun _ _ _ => by omega) rfl rfl) ?_
     refine SL.step (PS.load_F_agg (vs := [_, _, _, _]) rfl tt rfl Try.isAgg35 Try.sizeOf35 (fun w h _ => (h).cell (i := 2) hx2 rfl) rfl rfl) ?_
     refine SL.store_own (k := 0) (own' := [_]) (cs' := [_, _, _, _]) rfl rfl rfl rfl rfl rfl rfl Try.sizeOf35 rfl (Nat.le_of_ble_eq_true rfl) rfl rfl rfl rfl ?_
     refine SL.keep (l' := [(2, _, _)]) ⟨rfl, trivial⟩ ?_
     refine SL.nil (SE.thenK hK8 (SC.ret (SE.block_ret (SE.then_ret ?_))))
     exact finc (k := 0) rfl Try.isAgg35 Try.sizeOf35 rfl rfl rfl rfl rfl (fun _ _ => by rw [Pl.chosen, c3, c10, c26]; rfl)
    ·
     refine SC.seq (fun K9 hK9 => ?_)
     refine SC.draw (S := SP _ _ _) 8 (by kernel_rfl) (by kernel_rfl) (fun _ h => h) ?_
     refine SD.take 0 rfl rfl (by kernel_rfl) (PS.move rfl tt rfl rfl) ?_
     refine SD.take 1 rfl rfl (by kernel_rfl) (PS.indexAddr rfl tt rfl tt Try.underlying33 Try.sizeOf35 (fun _ _ _ => by omega) rfl rfl) ?_
     refine SD.take 2 rfl rfl (by kernel_rfl) (PS.load_F_agg (vs := [_, _, _, _]) rfl tt rfl Try.isAgg35 Try.sizeOf35 (fun w h _ => (h).cell (i := 1) hx1 rfl) rfl rfl) ?_
     refine SD.take 3 rfl rfl (by kernel_rfl) (PS.move rfl tt rfl rfl) ?_
     refine SD.take 4 rfl rfl (by kernel_rfl) (PS.indexAddr rfl tt rfl tt Try.underlying33 Try.sizeOf35 (fun _ _ _ => by omega) rfl rfl) ?_
     refine SD.take 5 rfl rfl (by kernel_rfl) (PS.load_F_agg (vs := [_, _, _, _]) rfl tt rfl Try.isAgg35 Try.sizeOf35 (fun w h _ => (h).cell (i := 2) hx2 rfl) rfl rfl) ?_
     refine SD.take 6 rfl rfl (by kernel_rfl) (PS.eqlA rfl tt rfl tt (by intro x y w; first | exact val_eql x y _ _ w | exact val_eql x y ⟨_, _, _, _⟩ _ w | exact val_eql x y _ ⟨_, _, _, _⟩ w | exact val_eql x y ⟨_, _, _, _⟩ ⟨_, _, _, _⟩ w) rfl rfl) ?_
     refine SD.take 7 rfl rfl (by kernel_rfl) (PS.assign rfl tt rfl rfl) ?_
     refine SD.tail (by kernel_rfl) (os := []) rfl ?_
     refine SL.keep (l' := [(35, _, _), (2, _, _), (0, _, _)]) ⟨rfl, rfl, rfl, trivial⟩ ?_
     refine SL.nil (SE.calm (SE.thenK hK9 ?_))
     refine SC.cond rfl (fun c35 => ?_) (fun c35 => ?_)
     ·
      refine SC.seq (fun K10 hK10 => SC.region ?_)
      refine SL.step (PS.move rfl tt rfl rfl) ?_
      refine SL.step (PS.indexAddr rfl tt rfl tt Try.underlying33 Try.sizeOf35 (fun _ _ _ => by omega) rfl rfl) ?_
      refine SL.step (PS.load_F_agg (vs := [_, _, _, _]) rfl tt rfl Try.isAgg35 Try.sizeOf35 (fun w h _ => (h).cell (i := 1) hx1 rfl) rfl rfl) ?_
      refine SL.store_own (k := 0) (own' := [_]) (cs' := [_, _, _, _]) rfl rfl rfl rfl rfl rfl rfl Try.sizeOf35 rfl (Nat.le_of_ble_eq_true rfl) rfl rfl rfl rfl ?_
      refine SL.keep (l' := [(2, _, _)]) ⟨rfl, trivial⟩ ?_
      refine SL.nil (SE.thenK hK10 (SC.ret (SE.block_ret (SE.then_ret ?_))))
      exact finc (k := 0) rfl Try.isAgg35 Try.sizeOf35 rfl rfl rfl rfl rfl (fun _ _ => by simp only [Pl.chosen, *, cond_true, cond_false]; rfl)
     ·
      refine SC.seq (fun K11 hK11 => SC.region ?_)
      refine SL.step (PS.move rfl tt rfl rfl) ?_
      refine SL.step (PS.indexAddr rfl tt rfl tt Try.underlying33 Try.sizeOf35 (fun _ _ _ => by omega) rfl rfl) ?_
      refine SL.step (PS.fieldAddr rfl tt Try.fieldAt_35_0 rfl rfl) ?_
      refine SL.step (PS.load_F rfl tt Try.isAgg3 (fun w h _ => (h).at_ (i := 1) (j := 0) hx1 rfl rfl) rfl rfl) ?_
      refine SL.step (PS.eql rfl tt rfl tt rfl rfl) ?_
      refine SL.step (PS.move rfl tt rfl rfl) ?_
      refine SL.step (PS.move rfl tt rfl rfl) ?_
      refine SL.step (PS.indexAddr rfl (fun h => h) rfl tt Try.underlying33 Try.sizeOf35 (fun _ _ _ => by omega) rfl rfl) ?_
      refine SL.step (PS.fieldAddr rfl (fun h => h) Try.fieldAt_35_0 rfl rfl) ?_
      refine SL.step (PS.load_F rfl (fun h => h) Try.isAgg3 (fun w h _ => (h).at_ (i := 2) (j := 0) hx2 rfl rfl) rfl rfl) ?_
      refine SL.step (PS.eql rfl (fun h => h) rfl tt rfl rfl) ?_
      refine SL.step (PS.pick_or rfl tt rfl (fun h h2 => pk_or h h2) rfl rfl) ?_
      refine SL.step (PS.assign rfl tt rfl rfl) ?_
      refine SL.keep (l' := [(46, _, _), (2, _, _)]) ⟨rfl, rfl, trivial⟩ ?_
      refine SL.nil (SE.thenK hK11 ?_)
      refine SC.cond rfl (fun c46 => ?_) (fun c46 => ?_)
      ·
       refine SC.seq (fun K12 hK12 => SC.region ?_)
       refine SL.step (PS.build (us := []) (vs := [_, _, _, _]) trivial Try.underlying35 Try.zeroValue35 (Try.places_35 Try.underlying35) rfl rfl rfl) ?_
       refine SL.store_own (k := 0) (own' := [_]) (cs' := [_, _, _, _]) rfl rfl rfl rfl rfl rfl rfl Try.sizeOf35 rfl (Nat.le_of_ble_eq_true rfl) rfl rfl rfl rfl ?_
       refine SL.keep (l' := [(2, _, _)]) ⟨rfl, trivial⟩ ?_
       refine SL.nil (SE.thenK hK12 (SC.ret (SE.block_ret (SE.then_ret ?_))))
       exact finc (k := 0) rfl Try.isAgg35 Try.sizeOf35 rfl rfl rfl rfl rfl (fun _ _ => by simp only [Pl.chosen, *, cond_true, cond_false]; rfl)
      ·
       refine SC.skip (SE.block_normal (SE.thenK hK2 (SC.seq (fun K13 hK13 => SC.region ?_))))
       refine SL.callV (vs := []) Try.call20 trivial (fun hg => anyone_V) rfl rfl ?_
       refine SL.store_own (k := 0) (own' := [_]) (cs' := [_, _, _, _]) rfl rfl rfl rfl rfl rfl rfl Try.sizeOf35 rfl (Nat.le_of_ble_eq_true rfl) rfl rfl rfl rfl ?_
       refine SL.keep (l' := [(2, _, _)]) ⟨rfl, trivial⟩ ?_
       refine SL.nil (SE.thenK hK13 (SC.ret ?_))
       exact finc (k := 0) rfl Try.isAgg35 Try.sizeOf35 rfl rfl rfl rfl rfl (fun _ _ => by simp only [Pl.chosen, *, cond_true, cond_false]; rfl)
theorem loosely_V (i : In) (ad : Addr) (n c : Nat) (xs : List Vl) (b : Vl) (hx1 : (decide (11 ≤ i.op) && decide (i.op ≤ 13)) = true → xs[1]? = some b ∧ 2 ≤ n) :
    Spec Try.prog 22 [i.val, .slice (some ad) n c] (Sl 4 Vl.cells (some ad) xs) (fun v _ => v = (Pl.loosely i.op i.t i.f b).val) := by
  refine Spec.enter Try.func22 rfl (n := 37) Try.ntmps22 (Nat.le_of_ble_eq_true rfl) (l := [(0, _, _), (1, _, _)]) rfl ?_
  intro S w
  refine SC.seq (fun K1 hK1 => SC.region ?_)
  refine SL.box (cs := [_, _, _, _, _, _, _]) rfl rfl rfl rfl rfl (fun b2 => ?_)
  refine SL.alloc (cs := [_, _, _, _]) Try.zeroValue35 rfl rfl rfl (fun b4 => ?_)
  refine SL.keep (l' := [(4, _, _), (2, _, _), (1, _, _)]) ⟨rfl, rfl, rfl, trivial⟩ ?_
  refine SL.nil (SE.thenK hK1 (SC.seq (fun K2 hK2 => SC.seq (fun K3 hK3 => ?_))))
  refine SC.draw (S := SP _ _ _) 30 (by kernel_rfl) (by kernel_rfl) (fun _ h => h) ?_
  refine SD.take 0 rfl rfl (by kernel_rfl) (PS.fieldAddr rfl tt Try.fieldAt_25_0 rfl rfl) ?_
  first | refine SD.take 1 rfl rfl (by kernel_rfl) (PS.load_own (k := 0) rfl tt rfl rfl rfl Try.isAgg3 rfl rfl) ?_ | refine SD.take 1 rfl rfl (by kernel_rfl) (PS.load_own (k := 1) rfl tt rfl rfl rfl Try.isAgg3 rfl rfl) ?_
  refine SD.take 2 rfl rfl (by kernel_rfl) (PS.geq rfl tt rfl tt rfl rfl) ?_
  refine SD.take 3 rfl rfl (by kernel_rfl) (PS.move rfl tt rfl rfl) ?_
  refine SD.take 4 rfl rfl (by kernel_rfl) (PS.fieldAddr rfl tt Try.fieldAt_25_0 rfl rfl) ?_
  first | refine SD.take 5 rfl rfl (by kernel_rfl) (PS.load_own (k := 0) rfl (fun h => h) rfl rfl rfl Try.isAgg3 rfl rfl) ?_ | refine SD.take 5 rfl rfl (by kernel_rfl) (PS.load_own (k := 1) rfl (fun h => h) rfl rfl rfl Try.isAgg3 rfl rfl) ?_
  refine SD.take 6 rfl rfl (by kernel_rfl) (PS.leq rfl (fun h => h) rfl tt rfl rfl) ?_
  refine SD.take 7 rfl rfl (by kernel_rfl) (PS.pick_and rfl tt rfl (fun h h2 => pk_and h h2) rfl rfl) ?_
  refine SD.take 8 rfl rfl (by kernel_rfl) (PS.move rfl tt rfl rfl) ?_
  refine SD.take 9 rfl rfl (by kernel_rfl) (PS.move rfl tt rfl rfl) ?_
  refine SD.take 10 rfl rfl (by kernel_rfl) (PS.indexAddr rfl (fun h => h) rfl tt Try.underlying33 Try.sizeOf35 (fun _ _ hg => by have := (hx1 hg).2; omega) rfl rfl) ?_
  refine SD.take 11 rfl rfl (by kernel_rfl) (PS.fieldAddr rfl (fun h => h) Try.fieldAt_35_0 rfl rfl) ?_
  refine SD.take 12 rfl rfl (by kernel_rfl) (PS.load_F rfl (fun h => h) Try.isAgg3 (fun _ h hg => h.at_ (i := 1) (j := 0) (hx1 hg).1 rfl rfl) rfl rfl) ?_
  refine SD.take 13 rfl rfl (by kernel_rfl) (PS.eql rfl (fun h => h) rfl tt rfl rfl) ?_
  refine SD.take 14 rfl rfl (by kernel_rfl) (PS.move rfl (fun h => h) rfl rfl) ?_
  refine SD.take 15 rfl rfl (by kernel_rfl) (PS.move rfl tt rfl rfl) ?_
  refine SD.take 16 rfl rfl (by kernel_rfl) (PS.indexAddr rfl (fun h => h) rfl tt Try.underlying33 Try.sizeOf35 (fun _ _ hg => by have := (hx1 (and_l hg)).2; omega) rfl rfl) ?_
  refine SD.take 17 rfl rfl (by kernel_rfl) (PS.fieldAddr rfl (fun h => h) Try.fieldAt_35_1 rfl rfl) ?_
  refine SD.take 18 rfl rfl (by kernel_rfl) (PS.load_F rfl (fun h => h) Try.isAgg27 (fun _ h hg => h.at_ (i := 1) (j := 1) (hx1 (and_l hg)).1 rfl rfl) rfl rfl) ?_
  refine SD.take 19 rfl rfl (by kernel_rfl) (PS.fieldAddr rfl tt Try.fieldAt_25_2 rfl rfl) ?_
  first | refine SD.take 20 rfl rfl (by kernel_rfl) (PS.load_own (k := 0) rfl (fun h => h) rfl rfl rfl Try.isAgg3 rfl rfl) ?_ | refine SD.take 20 rfl rfl (by kernel_rfl) (PS.load_own (k := 1) rfl (fun h => h) rfl rfl rfl Try.isAgg3 rfl rfl) ?_
  refine SD.take 21 rfl rfl (by kernel_rfl) (PS.conv rfl (fun h => h) Try.underlying3 Try.underlying27 rfl rfl) ?_
  refine SD.take 22 rfl rfl (by kernel_rfl) (PS.geq rfl (fun h => h) rfl (fun h => h) rfl rfl) ?_
  refine SD.take 23 rfl rfl (by kernel_rfl) (PS.pick_or rfl (fun h => h) rfl (fun h h2 => pk_or h h2) rfl rfl) ?_
  refine SD.take 24 rfl rfl (by kernel_rfl) (PS.pick_and rfl tt rfl (fun h h2 => pk_and h h2) rfl rfl) ?_
  refine SD.take 25 rfl rfl (by kernel_rfl) (PS.move rfl tt rfl rfl) ?_
  refine SD.take 26 rfl rfl (by kernel_rfl) (PS.fieldAddr rfl tt Try.fieldAt_25_4 rfl rfl) ?_
  first | refine SD.take 27 rfl rfl (by kernel_rfl) (PS.load_own (k := 0) rfl (fun h => h) rfl rfl rfl Try.isAgg3 rfl rfl) ?_ | refine SD.take 27 rfl rfl (by kernel_rfl) (PS.load_own (k := 1) rfl (fun h => h) rfl rfl rfl Try.isAgg3 rfl rfl) ?_
  refine SD.take 28 rfl rfl (by kernel_rfl) (PS.neq rfl (fun h => h) rfl tt rfl rfl) ?_
  refine SD.take 29 rfl rfl (by kernel_rfl) (PS.pick_or rfl tt rfl (fun h h2 => pk_or h h2) rfl rfl) ?_
  refine SD.tail (by kernel_rfl) (os := []) rfl ?_
  refine SL.keep (l' := [(34, _, _), (4, _, _)]) ⟨rfl, rfl, trivial⟩ ?_
  refine SL.nil (SE.calm (SE.thenK hK3 ?_))
  refine SC.cond rfl (fun c34 => ?_) (fun c34 => ?_)
  ·
   refine SC.seq (fun K4 hK4 => SC.region ?_)
   refine SL.step (PS.build (us := []) (vs := [_, _, _, _]) trivial Try.underlying35 Try.zeroValue35 (Try.places_35 Try.underlying35) rfl rfl rfl) ?_
   first | refine SL.store_own (k := 0) (own' := [_, _]) (cs' := [_, _, _, _]) rfl rfl rfl rfl rfl rfl rfl Try.sizeOf35 rfl (Nat.le_of_ble_eq_true rfl) rfl rfl rfl rfl ?_ | refine SL.store_own (k := 1) (own' := [_, _]) (cs' := [_, _, _, _, _, _, _]) rfl rfl rfl rfl rfl rfl rfl Try.sizeOf35 rfl (Nat.le_of_ble_eq_true rfl) rfl rfl rfl rfl ?_
   refine SL.keep (l' := [(4, _, _)]) ⟨rfl, trivial⟩ ?_
   refine SL.nil (SE.thenK hK4 (SC.ret (SE.then_ret ?_)))
   exact finc (k := 0) rfl Try.isAgg35 Try.sizeOf35 rfl rfl rfl rfl rfl (fun _ _ => by simp only [Pl.loosely, *, cond_true, cond_false]; rfl)
  ·
   refine SC.skip (SE.thenK hK2 (SC.seq (fun K5 hK5 => SC.region ?_)))
   refine SL.callV (vs := []) Try.call20 trivial (fun hg => anyone_V) rfl rfl ?_
   first | refine SL.store_own (k := 0) (own' := [_, _]) (cs' := [_, _, _, _]) rfl rfl rfl rfl rfl rfl rfl Try.sizeOf35 rfl (Nat.le_of_ble_eq_true rfl) rfl rfl rfl rfl ?_ | refine SL.store_own (k := 1) (own' := [_, _]) (cs' := [_, _, _, _, _, _, _]) rfl rfl rfl rfl rfl rfl rfl Try.sizeOf35 rfl (Nat.le_of_ble_eq_true rfl) rfl rfl rfl rfl ?_
   refine SL.keep (l' := [(4, _, _)]) ⟨rfl, trivial⟩ ?_
   refine SL.nil (SE.thenK hK5 (SC.ret ?_))
   exact finc (k := 0) rfl Try.isAgg35 Try.sizeOf35 rfl rfl rfl rfl rfl (fun _ _ => by simp only [Pl.loosely, *, cond_true, cond_false]; rfl)
end Go.Proofs.Ytffimfmicapaaaa
