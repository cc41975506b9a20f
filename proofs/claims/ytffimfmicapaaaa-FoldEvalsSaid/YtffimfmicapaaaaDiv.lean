/- Contract of divide. -/
import Derived.Test.YtffimfmicapaaaaRing
import Derived.Test.YtffimfmicapaaaaDraw
namespace Go.Proofs.Ytffimfmicapaaaa
open Go.RowKit
set_option linter.unusedVariables false

theorem divide_0 (op : Int) (n : Nat) (f a : Int) : SpecV Try.prog 51 [.int .i64 op, .int .i64 n, .int .i64 f, .int .u64 a, .int .u64 0] (pairV (Pl.div op n f a 0)) := by
  refine SpecV.enter Try.func51 rfl (n := 68) Try.ntmps51 (Nat.le_of_ble_eq_true rfl) (l := [(0, _, _), (1, _, _), (2, _, _), (3, _, _), (4, _, _)]) rfl ?_
  intro w
  refine SC.seq (fun K1 hK1 => SC.region ?_)
  refine SL.step (PS.assign rfl tt rfl rfl) ?_
  refine SL.step (PS.assign rfl tt rfl rfl) ?_
  refine SL.keep (l' := [(0, _, _), (1, _, _), (2, _, _), (3, _, _), (4, _, _)]) ⟨rfl, rfl, rfl, rfl, rfl, trivial⟩ ?_
  refine SL.nil (SE.thenK hK1 (SC.seq (fun K2 hK2 => SC.seq (fun K3 hK3 => SC.region ?_))))
  refine SL.step (PS.move rfl tt rfl rfl) ?_
  refine SL.step (PS.eql rfl tt rfl tt rfl rfl) ?_
  refine SL.keep (l' := [(17, _, _), (0, _, _), (1, _, _), (2, _, _), (3, _, _), (4, _, _)]) ⟨rfl, rfl, rfl, rfl, rfl, rfl, trivial⟩ ?_
  refine SL.nil (SE.thenK hK3 ?_)
  refine SC.cond_t rfl (rfl) ?_
  refine SC.seq (fun K4 hK4 => SC.region ?_)
  refine SL.step (PS.assign rfl tt rfl rfl) ?_
  refine SL.step (PS.assign rfl tt rfl rfl) ?_
  refine SL.keep (l' := [(11, _, _), (10, _, _)]) ⟨rfl, rfl, trivial⟩ ?_
  refine SL.nil (SE.thenK hK4 (SC.ret (SE.then_ret ?_)))
  exact finV2 rfl rfl rfl (fun _ _ => pairV_eq (Pl.div_zero ..))

theorem divide_u (op : Int) (n : Nat) (f a b : Int) (ho : op = 4 ∨ op = 6) (hn : 1 ≤ n) (hn' : n ≤ 64) (ha : 0 ≤ a) (ha' : a < 18446744073709551616) (hb : 0 < b) (hb' : b < 18446744073709551616) (hf : f = 0 ∨ f = 4) :
    SpecV Try.prog 51 [.int .i64 op, .int .i64 n, .int .i64 f, .int .u64 a, .int .u64 b] (pairV (Pl.div op n f a b)) := by
  have e1 : a.tmod b = a % b := Int.tmod_eq_emod_of_nonneg ha
  have e2 : a.tdiv b = a / b := Int.tdiv_eq_ediv_of_nonneg ha
  have h1 := Int.emod_nonneg a (show b ≠ 0 by omega)
  have h2 := Int.emod_lt_of_pos a hb
  refine SpecV.enter Try.func51 rfl (n := 68) Try.ntmps51 (Nat.le_of_ble_eq_true rfl) (l := [(0, _, _), (1, _, _), (2, _, _), (3, _, _), (4, _, _)]) rfl ?_
  intro w
  refine SC.seq (fun K1 hK1 => SC.region ?_)
  refine SL.step (PS.assign rfl tt rfl rfl) ?_
  refine SL.step (PS.assign rfl tt rfl rfl) ?_
  refine SL.keep (l' := [(0, _, _), (1, _, _), (2, _, _), (3, _, _), (4, _, _)]) ⟨rfl, rfl, rfl, rfl, rfl, trivial⟩ ?_
  refine SL.nil (SE.thenK hK1 (SC.seq (fun K2 hK2 => SC.seq (fun K3 hK3 => SC.region ?_))))
  refine SL.step (PS.move rfl tt rfl rfl) ?_
  refine SL.step (PS.eql rfl tt rfl tt rfl rfl) ?_
  refine SL.keep (l' := [(17, _, _), (0, _, _), (1, _, _), (2, _, _), (3, _, _), (4, _, _)]) ⟨rfl, rfl, rfl, rfl, rfl, rfl, trivial⟩ ?_
  refine SL.nil (SE.thenK hK3 ?_)
  refine SC.cond_f rfl (by simp; omega) ?_
  refine SC.skip (SE.thenK hK2 (SC.seq (fun K4 hK4 => SC.region ?_)))
  refine SL.step (PS.assign rfl tt rfl rfl) ?_
  refine SL.step (PS.assign rfl tt rfl rfl) ?_
  refine SL.keep (l' := [(0, _, _), (1, _, _), (2, _, _), (3, _, _), (4, _, _)]) ⟨rfl, rfl, rfl, rfl, rfl, trivial⟩ ?_
  refine SL.nil (SE.thenK hK4 (SC.seq (fun K5 hK5 => SC.seq (fun K6 hK6 => SC.region ?_))))
  refine SL.step (PS.move rfl tt rfl rfl) ?_
  refine SL.step (PS.eql rfl tt rfl tt rfl rfl) ?_
  refine SL.step (PS.move rfl tt rfl rfl) ?_
  refine SL.step (PS.move rfl tt rfl rfl) ?_
  refine SL.step (PS.eql rfl (fun h => h) rfl tt rfl rfl) ?_
  refine SL.step (PS.pick_or rfl tt rfl (fun h h2 => pk_or h h2) rfl rfl) ?_
  refine SL.keep (l' := [(23, _, _), (0, _, _), (1, _, _), (2, _, _), (3, _, _), (4, _, _)]) ⟨rfl, rfl, rfl, rfl, rfl, rfl, trivial⟩ ?_
  refine SL.nil (SE.thenK hK6 ?_)
  refine SC.cond_t rfl (by simpa using ho) ?_
  refine SC.draw (S := SP _ [] _) 8 (by kernel_rfl) (by kernel_rfl) (fun _ h => h.drop (List.nil_sublist _) (fun _ h => h)) ?_
  refine SD.take 0 rfl rfl (by kernel_rfl) (PS.move rfl tt rfl rfl) ?_
  refine SD.take 1 rfl rfl (by kernel_rfl) (PS.move rfl tt rfl rfl) ?_
  refine SD.take 2 rfl rfl (by kernel_rfl) (PS.quo rfl tt rfl tt (fun _ => by omega) rfl rfl) ?_
  refine SD.take 3 rfl rfl (by kernel_rfl) (PS.move rfl tt rfl rfl) ?_
  refine SD.take 4 rfl rfl (by kernel_rfl) (PS.move rfl tt rfl rfl) ?_
  refine SD.take 5 rfl rfl (by kernel_rfl) (PS.rem rfl tt rfl tt (fun _ => by omega) rfl rfl) ?_
  refine SD.take 6 rfl rfl (by kernel_rfl) (PS.assign rfl tt rfl rfl) ?_
  refine SD.take 7 rfl rfl (by kernel_rfl) (PS.assign rfl tt rfl rfl) ?_
  refine SD.tail (by kernel_rfl) (os := []) rfl ?_
  refine SL.keep (l' := [(13, _, _), (12, _, _), (0, _, _), (2, _, _)]) ⟨rfl, rfl, rfl, rfl, trivial⟩ ?_
  refine SL.nil (SE.calm (SE.thenK hK5 (SC.seq (fun K7 hK7 => SC.seq (fun K8 hK8 => SC.region ?_)))))
  refine SL.step (PS.move rfl tt rfl rfl) ?_
  refine SL.step (PS.eql rfl tt rfl tt rfl rfl) ?_
  refine SL.step (PS.move rfl tt rfl rfl) ?_
  refine SL.step (PS.move rfl tt rfl rfl) ?_
  refine SL.step (PS.eql rfl (fun h => h) rfl tt rfl rfl) ?_
  refine SL.step (PS.pick_or rfl tt rfl (fun h h2 => pk_or h h2) rfl rfl) ?_
  refine SL.keep (l' := [(58, _, _), (13, _, _), (12, _, _), (2, _, _)]) ⟨rfl, rfl, rfl, rfl, trivial⟩ ?_
  refine SL.nil (SE.thenK hK8 ?_)
  refine SC.cond rfl (fun c58 => ?_) (fun c58 => ?_)
  ·
   refine SC.seq (fun K9 hK9 => SC.region ?_)
   refine SL.step (PS.move rfl tt rfl rfl) ?_
   refine SL.step (PS.assign rfl tt rfl rfl) ?_
   refine SL.step (PS.assign rfl tt rfl rfl) ?_
   refine SL.keep (l' := [(11, _, _), (10, _, _)]) ⟨rfl, rfl, trivial⟩ ?_
   refine SL.nil (SE.thenK hK9 (SC.ret (SE.then_ret ?_)))
   first | exact finV2 rfl rfl rfl (fun _ _ => pairV_eq (by rw [Pl.div_u ho hb, e1, Pl.divR_r c58, Pl.mod_small h1 (by omega)])) | exact finV2 rfl rfl rfl (fun _ _ => pairV_eq (by rw [e1] at c66; rw [Pl.div_u ho hb, Pl.divR_1 c58 c66])) | exact finV2 rfl rfl rfl (fun _ _ => pairV_eq (by rw [e1] at c66; rw [Pl.div_u ho hb, Pl.divR_q c58 c66, e2, IntKind.wrap_u64]))
  ·
   refine SC.skip (SE.thenK hK7 (SC.seq (fun K10 hK10 => SC.seq (fun K11 hK11 => SC.region ?_))))
   refine SL.step (PS.move rfl tt rfl rfl) ?_
   refine SL.step (PS.and rfl tt rfl tt rfl rfl) ?_
   refine SL.step (PS.neq rfl tt rfl tt rfl rfl) ?_
   refine SL.step (PS.move rfl tt rfl rfl) ?_
   refine SL.step (PS.move rfl tt rfl rfl) ?_
   refine SL.step (PS.neq rfl (fun h => h) rfl tt rfl rfl) ?_
   refine SL.step (PS.pick_and rfl tt rfl (fun h h2 => pk_and h h2) rfl rfl) ?_
   refine SL.keep (l' := [(66, _, _), (12, _, _)]) ⟨rfl, rfl, trivial⟩ ?_
   refine SL.nil (SE.thenK hK11 ?_)
   refine SC.cond rfl (fun c66 => ?_) (fun c66 => ?_)
   ·
    refine SC.seq (fun K12 hK12 => ?_)
    rw [Pl.exact_eq hf] at c66
    refine SC.region ?_
    refine SL.step (PS.assign rfl tt rfl rfl) ?_
    refine SL.step (PS.assign rfl tt rfl rfl) ?_
    refine SL.keep (l' := [(11, _, _), (10, _, _)]) ⟨rfl, rfl, trivial⟩ ?_
    refine SL.nil (SE.thenK hK12 (SC.ret (SE.then_ret ?_)))
    first | exact finV2 rfl rfl rfl (fun _ _ => pairV_eq (by rw [Pl.div_u ho hb, e1, Pl.divR_r c58, Pl.mod_small h1 (by omega)])) | exact finV2 rfl rfl rfl (fun _ _ => pairV_eq (by rw [e1] at c66; rw [Pl.div_u ho hb, Pl.divR_1 c58 c66])) | exact finV2 rfl rfl rfl (fun _ _ => pairV_eq (by rw [e1] at c66; rw [Pl.div_u ho hb, Pl.divR_q c58 c66, e2, IntKind.wrap_u64]))
   ·
    refine SC.skip (SE.thenK hK10 (SC.seq (fun K13 hK13 => ?_)))
    rw [Pl.exact_eq hf] at c66
    refine SC.region ?_
    refine SL.step (PS.move rfl tt rfl rfl) ?_
    refine SL.step (PS.assign rfl tt rfl rfl) ?_
    refine SL.step (PS.assign rfl tt rfl rfl) ?_
    refine SL.keep (l' := [(11, _, _), (10, _, _)]) ⟨rfl, rfl, trivial⟩ ?_
    refine SL.nil (SE.thenK hK13 (SC.ret ?_))
    first | exact finV2 rfl rfl rfl (fun _ _ => pairV_eq (by rw [Pl.div_u ho hb, e1, Pl.divR_r c58, Pl.mod_small h1 (by omega)])) | exact finV2 rfl rfl rfl (fun _ _ => pairV_eq (by rw [e1] at c66; rw [Pl.div_u ho hb, Pl.divR_1 c58 c66])) | exact finV2 rfl rfl rfl (fun _ _ => pairV_eq (by rw [e1] at c66; rw [Pl.div_u ho hb, Pl.divR_q c58 c66, e2, IntKind.wrap_u64]))

theorem divide_s (op : Int) (n : Nat) (f a b : Int) (ho : op = 5 ∨ op = 7) (hn : 1 ≤ n) (hn' : n ≤ 64) (ha : 0 ≤ a) (ha' : a < 2 ^ n) (hb : 0 < b) (hb' : b < 2 ^ n) (hf : f = 0 ∨ f = 4) :
    SpecV Try.prog 51 [.int .i64 op, .int .i64 n, .int .i64 f, .int .u64 a, .int .u64 b] (pairV (Pl.div op n f a b)) := by
  have r1 := Pl.sgn_i64 hn hn' a
  have hy : Pl.signed n b ≠ 0 := by
    obtain ⟨M, h1, _, _, h2, hM, hle, _, _⟩ := Pl.dbl hn hn'
    rw [Pl.signed_in hn hn']
    by_cases c : b < M
    · rw [Pl.sgn_mid h1 hM (by omega) c]; omega
    · rw [Pl.sgn_up h1 hM (by omega) (by omega)]; omega
  refine SpecV.enter Try.func51 rfl (n := 68) Try.ntmps51 (Nat.le_of_ble_eq_true rfl) (l := [(0, _, _), (1, _, _), (2, _, _), (3, _, _), (4, _, _)]) rfl ?_
  intro w
  refine SC.seq (fun K1 hK1 => SC.region ?_)
  refine SL.step (PS.assign rfl tt rfl rfl) ?_
  refine SL.step (PS.assign rfl tt rfl rfl) ?_
  refine SL.keep (l' := [(0, _, _), (1, _, _), (2, _, _), (3, _, _), (4, _, _)]) ⟨rfl, rfl, rfl, rfl, rfl, trivial⟩ ?_
  refine SL.nil (SE.thenK hK1 (SC.seq (fun K2 hK2 => SC.seq (fun K3 hK3 => SC.region ?_))))
  refine SL.step (PS.move rfl tt rfl rfl) ?_
  refine SL.step (PS.eql rfl tt rfl tt rfl rfl) ?_
  refine SL.keep (l' := [(17, _, _), (0, _, _), (1, _, _), (2, _, _), (3, _, _), (4, _, _)]) ⟨rfl, rfl, rfl, rfl, rfl, rfl, trivial⟩ ?_
  refine SL.nil (SE.thenK hK3 ?_)
  refine SC.cond_f rfl (by simp; omega) ?_
  refine SC.skip (SE.thenK hK2 (SC.seq (fun K4 hK4 => SC.region ?_)))
  refine SL.step (PS.assign rfl tt rfl rfl) ?_
  refine SL.step (PS.assign rfl tt rfl rfl) ?_
  refine SL.keep (l' := [(0, _, _), (1, _, _), (2, _, _), (3, _, _), (4, _, _)]) ⟨rfl, rfl, rfl, rfl, rfl, trivial⟩ ?_
  refine SL.nil (SE.thenK hK4 (SC.seq (fun K5 hK5 => SC.seq (fun K6 hK6 => SC.region ?_))))
  refine SL.step (PS.move rfl tt rfl rfl) ?_
  refine SL.step (PS.eql rfl tt rfl tt rfl rfl) ?_
  refine SL.step (PS.move rfl tt rfl rfl) ?_
  refine SL.step (PS.move rfl tt rfl rfl) ?_
  refine SL.step (PS.eql rfl (fun h => h) rfl tt rfl rfl) ?_
  refine SL.step (PS.pick_or rfl tt rfl (fun h h2 => pk_or h h2) rfl rfl) ?_
  refine SL.keep (l' := [(23, _, _), (0, _, _), (1, _, _), (2, _, _), (3, _, _), (4, _, _)]) ⟨rfl, rfl, rfl, rfl, rfl, rfl, trivial⟩ ?_
  refine SL.nil (SE.thenK hK6 ?_)
  refine SC.cond_f rfl (by simp; omega) ?_
  refine SC.seq (fun K7 hK7 => SC.region ?_)
  refine SL.step (PS.move rfl tt rfl rfl) ?_
  refine SL.step (PS.move rfl tt rfl rfl) ?_
  refine SL.callV (vs := [_, _]) Try.call49 ⟨⟨_, rfl, tt⟩, ⟨_, rfl, tt⟩, trivial⟩ (fun hg => signed_V _ _) rfl rfl ?_
  refine SL.step (PS.move rfl tt rfl rfl) ?_
  refine SL.step (PS.move rfl tt rfl rfl) ?_
  refine SL.callV (vs := [_, _]) Try.call49 ⟨⟨_, rfl, tt⟩, ⟨_, rfl, tt⟩, trivial⟩ (fun hg => signed_V _ _) rfl rfl ?_
  refine SL.step (PS.assign rfl tt rfl rfl) ?_
  refine SL.step (PS.assign rfl tt rfl rfl) ?_
  refine SL.keep (l' := [(15, _, _), (14, _, _), (0, _, _), (1, _, _), (2, _, _), (3, _, _)]) ⟨rfl, rfl, rfl, rfl, rfl, rfl, trivial⟩ ?_
  refine SL.nil (SE.thenK hK7 (SC.seq (fun K8 hK8 => SC.seq (fun K9 hK9 => SC.region ?_))))
  refine SL.step (PS.move rfl tt rfl rfl) ?_
  refine SL.step (PS.eql rfl tt rfl tt rfl rfl) ?_
  refine SL.step (PS.move rfl tt rfl rfl) ?_
  refine SL.step (PS.move rfl tt rfl rfl) ?_
  refine SL.step (PS.move rfl tt rfl rfl) ?_
  first | refine SL.step (PS.sub_in rfl (fun h => h) rfl tt (fun _ => wr_i64 (by omega)) rfl rfl) ?_ | refine SL.step (PS.sub rfl (fun h => h) rfl tt rfl rfl) ?_
  refine SL.step (PS.shl rfl tt rfl (fun h => h) (by first | omega | (simp only [IntKind.wrap_i64, IntKind.wrap_u64]; omega)) rfl rfl) ?_
  refine SL.step (PS.eql rfl (fun h => h) rfl (fun h => h) rfl rfl) ?_
  refine SL.step (PS.pick_and rfl tt rfl (fun h h2 => pk_and h h2) rfl rfl) ?_
  refine SL.keep (l' := [(44, _, _), (15, _, _), (14, _, _), (0, _, _), (2, _, _)]) ⟨rfl, rfl, rfl, rfl, rfl, trivial⟩ ?_
  refine SL.nil (SE.thenK hK9 ?_)
  refine SC.cond rfl (fun c44 => ?_) (fun c44 => ?_)
  ·
   refine SC.seq (fun K10 hK10 => ?_)
   rw [Pl.signed_in hn hn', Pl.half_wrap hn hn'] at c44
   refine SC.region ?_
   refine SL.step (PS.assign rfl tt rfl rfl) ?_
   refine SL.step (PS.assign rfl tt rfl rfl) ?_
   refine SL.keep (l' := [(11, _, _), (10, _, _)]) ⟨rfl, rfl, trivial⟩ ?_
   refine SL.nil (SE.thenK hK10 (SC.ret (SE.then_ret (SE.then_ret ?_))))
   first | exact finV2 rfl rfl rfl (fun _ _ => pairV_eq (Pl.div_least ho hb c44)) | exact finV2 rfl rfl rfl (fun _ _ => pairV_eq (by rw [Pl.div_s ho hb c44, Pl.divR_r c58, Pl.signed_in hn hn', Pl.signed_in hn hn', IntKind.wrap_u64])) | exact finV2 rfl rfl rfl (fun _ _ => pairV_eq (by rw [Pl.div_s ho hb c44, Pl.divR_1 c58 c66])) | exact finV2 rfl rfl rfl (fun _ _ => pairV_eq (by rw [Pl.div_s ho hb c44, Pl.divR_q c58 c66, Pl.signed_in hn hn', Pl.signed_in hn hn', Pl.wrapQ]))
  ·
   refine SC.skip (SE.thenK hK8 ?_)
   rw [Pl.signed_in hn hn', Pl.half_wrap hn hn'] at c44
   refine SC.draw (S := SP _ [] _) 10 (by kernel_rfl) (by kernel_rfl) (fun _ h => h.drop (List.nil_sublist _) (fun _ h => h)) ?_
   refine SD.take 0 rfl rfl (by kernel_rfl) (PS.move rfl tt rfl rfl) ?_
   refine SD.take 1 rfl rfl (by kernel_rfl) (PS.move rfl tt rfl rfl) ?_
   refine SD.take 2 rfl rfl (by kernel_rfl) (PS.quo rfl tt rfl tt (fun _ => by assumption) rfl rfl) ?_
   refine SD.take 3 rfl rfl (by kernel_rfl) (PS.conv rfl tt Try.underlying2 Try.underlying27 rfl rfl) ?_
   refine SD.take 4 rfl rfl (by kernel_rfl) (PS.move rfl tt rfl rfl) ?_
   refine SD.take 5 rfl rfl (by kernel_rfl) (PS.move rfl tt rfl rfl) ?_
   refine SD.take 6 rfl rfl (by kernel_rfl) (PS.rem rfl tt rfl tt (fun _ => by assumption) rfl rfl) ?_
   refine SD.take 7 rfl rfl (by kernel_rfl) (PS.conv rfl tt Try.underlying2 Try.underlying27 rfl rfl) ?_
   refine SD.take 8 rfl rfl (by kernel_rfl) (PS.assign rfl tt rfl rfl) ?_
   refine SD.take 9 rfl rfl (by kernel_rfl) (PS.assign rfl tt rfl rfl) ?_
   refine SD.tail (by kernel_rfl) (os := []) rfl ?_
   refine SL.keep (l' := [(13, _, _), (12, _, _), (0, _, _), (2, _, _)]) ⟨rfl, rfl, rfl, rfl, trivial⟩ ?_
   refine SL.nil (SE.calm (SE.thenK hK5 (SC.seq (fun K11 hK11 => SC.seq (fun K12 hK12 => SC.region ?_)))))
   refine SL.step (PS.move rfl tt rfl rfl) ?_
   refine SL.step (PS.eql rfl tt rfl tt rfl rfl) ?_
   refine SL.step (PS.move rfl tt rfl rfl) ?_
   refine SL.step (PS.move rfl tt rfl rfl) ?_
   refine SL.step (PS.eql rfl (fun h => h) rfl tt rfl rfl) ?_
   refine SL.step (PS.pick_or rfl tt rfl (fun h h2 => pk_or h h2) rfl rfl) ?_
   refine SL.keep (l' := [(58, _, _), (13, _, _), (12, _, _), (2, _, _)]) ⟨rfl, rfl, rfl, rfl, trivial⟩ ?_
   refine SL.nil (SE.thenK hK12 ?_)
   refine SC.cond rfl (fun c58 => ?_) (fun c58 => ?_)
   ·
    refine SC.seq (fun K13 hK13 => SC.region ?_)
    refine SL.step (PS.move rfl tt rfl rfl) ?_
    refine SL.step (PS.assign rfl tt rfl rfl) ?_
    refine SL.step (PS.assign rfl tt rfl rfl) ?_
    refine SL.keep (l' := [(11, _, _), (10, _, _)]) ⟨rfl, rfl, trivial⟩ ?_
    refine SL.nil (SE.thenK hK13 (SC.ret (SE.then_ret ?_)))
    first | exact finV2 rfl rfl rfl (fun _ _ => pairV_eq (Pl.div_least ho hb c44)) | exact finV2 rfl rfl rfl (fun _ _ => pairV_eq (by rw [Pl.div_s ho hb c44, Pl.divR_r c58, Pl.signed_in hn hn', Pl.signed_in hn hn', IntKind.wrap_u64])) | exact finV2 rfl rfl rfl (fun _ _ => pairV_eq (by rw [Pl.div_s ho hb c44, Pl.divR_1 c58 c66])) | exact finV2 rfl rfl rfl (fun _ _ => pairV_eq (by rw [Pl.div_s ho hb c44, Pl.divR_q c58 c66, Pl.signed_in hn hn', Pl.signed_in hn hn', Pl.wrapQ]))
   ·
    refine SC.skip (SE.thenK hK11 (SC.seq (fun K14 hK14 => SC.seq (fun K15 hK15 => SC.region ?_))))
    refine SL.step (PS.move rfl tt rfl rfl) ?_
    refine SL.step (PS.and rfl tt rfl tt rfl rfl) ?_
    refine SL.step (PS.neq rfl tt rfl tt rfl rfl) ?_
    refine SL.step (PS.move rfl tt rfl rfl) ?_
    refine SL.step (PS.move rfl tt rfl rfl) ?_
    refine SL.step (PS.neq rfl (fun h => h) rfl tt rfl rfl) ?_
    refine SL.step (PS.pick_and rfl tt rfl (fun h h2 => pk_and h h2) rfl rfl) ?_
    refine SL.keep (l' := [(66, _, _), (12, _, _)]) ⟨rfl, rfl, trivial⟩ ?_
    refine SL.nil (SE.thenK hK15 ?_)
    refine SC.cond rfl (fun c66 => ?_) (fun c66 => ?_)
    ·
     refine SC.seq (fun K16 hK16 => ?_)
     rw [Pl.exact_eq hf, Pl.signed_in hn hn', Pl.signed_in hn hn', Pl.tmod_small r1.1 r1.2] at c66
     refine SC.region ?_
     refine SL.step (PS.assign rfl tt rfl rfl) ?_
     refine SL.step (PS.assign rfl tt rfl rfl) ?_
     refine SL.keep (l' := [(11, _, _), (10, _, _)]) ⟨rfl, rfl, trivial⟩ ?_
     refine SL.nil (SE.thenK hK16 (SC.ret (SE.then_ret ?_)))
     first | exact finV2 rfl rfl rfl (fun _ _ => pairV_eq (Pl.div_least ho hb c44)) | exact finV2 rfl rfl rfl (fun _ _ => pairV_eq (by rw [Pl.div_s ho hb c44, Pl.divR_r c58, Pl.signed_in hn hn', Pl.signed_in hn hn', IntKind.wrap_u64])) | exact finV2 rfl rfl rfl (fun _ _ => pairV_eq (by rw [Pl.div_s ho hb c44, Pl.divR_1 c58 c66])) | exact finV2 rfl rfl rfl (fun _ _ => pairV_eq (by rw [Pl.div_s ho hb c44, Pl.divR_q c58 c66, Pl.signed_in hn hn', Pl.signed_in hn hn', Pl.wrapQ]))
    ·
     refine SC.skip (SE.thenK hK14 (SC.seq (fun K17 hK17 => ?_)))
     rw [Pl.exact_eq hf, Pl.signed_in hn hn', Pl.signed_in hn hn', Pl.tmod_small r1.1 r1.2] at c66
     refine SC.region ?_
     refine SL.step (PS.move rfl tt rfl rfl) ?_
     refine SL.step (PS.assign rfl tt rfl rfl) ?_
     refine SL.step (PS.assign rfl tt rfl rfl) ?_
     refine SL.keep (l' := [(11, _, _), (10, _, _)]) ⟨rfl, rfl, trivial⟩ ?_
     refine SL.nil (SE.thenK hK17 (SC.ret ?_))
     first | exact finV2 rfl rfl rfl (fun _ _ => pairV_eq (Pl.div_least ho hb c44)) | exact finV2 rfl rfl rfl (fun _ _ => pairV_eq (by rw [Pl.div_s ho hb c44, Pl.divR_r c58, Pl.signed_in hn hn', Pl.signed_in hn hn', IntKind.wrap_u64])) | exact finV2 rfl rfl rfl (fun _ _ => pairV_eq (by rw [Pl.div_s ho hb c44, Pl.divR_1 c58 c66])) | exact finV2 rfl rfl rfl (fun _ _ => pairV_eq (by rw [Pl.div_s ho hb c44, Pl.divR_q c58 c66, Pl.signed_in hn hn', Pl.signed_in hn hn', Pl.wrapQ]))

theorem divide_V (op : Int) (n : Nat) (f a b : Int) (ho : op = 4 ∨ op = 5 ∨ op = 6 ∨ op = 7) (hn : 1 ≤ n) (hn' : n ≤ 64) (ha : 0 ≤ a) (ha' : a < 2 ^ n) (hb : 0 ≤ b) (hb' : b < 2 ^ n) (hf : f = 0 ∨ f = 4 ∧ op ≤ 5) :
    SpecV Try.prog 51 [.int .i64 op, .int .i64 n, .int .i64 f, .int .u64 a, .int .u64 b] (pairV (Pl.div op n f a b)) := by
  obtain ⟨M, _, _, _, h2, hM, hle, _, _⟩ := Pl.dbl hn hn'
  by_cases h0 : b = 0
  · subst h0; exact divide_0 op n f a
  · by_cases hu : op = 4 ∨ op = 6
    · exact divide_u op n f a b hu hn hn' ha (by omega) (by omega) (by omega) (by omega)
    · exact divide_s op n f a b (by omega) hn hn' ha ha' (by omega) hb' (by omega)
end Go.Proofs.Ytffimfmicapaaaa
