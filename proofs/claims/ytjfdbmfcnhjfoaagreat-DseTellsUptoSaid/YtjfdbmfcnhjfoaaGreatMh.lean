/- The engine and the contracts of the functions that the statement reaches, part 8. -/
import Derived.Test.YtjfdbmfcnhjfoaaGreatMg
set_option linter.unusedVariables false
set_option linter.unusedSimpArgs false
set_option maxRecDepth 100000
set_option maxHeartbeats 8000000
namespace Go.Proofs.YtjfdbmfcnhjfoaaGreat
open Go.RowKit
theorem dseAll_N (c d : Nat) (hcd : c ≠ d) (f : FnE) (hs : OkF f) (ha : OkA f) : ASpec Tryz.prog 9 [eS f] (.agg [.s f.name,.orow c 1 0 f.params.length,.i .i64 f.ret,.orow d 1 0 (dseAll f).blocks.length]) [(c,oL f.params),(d,oT (dseAll f).blocks)] :=
 (dseAll_S f hs ha).gives (o' := []) (.agg (.cons (.keep rfl rfl) (.cons (.give rfl rfl rfl (fun _ _=>rfl) rfl) (.cons (.keep rfl rfl) (.cons (.giveT rfl rfl rfl (fun _ _=>teqs_refl _) rfl) .nil (nodupB_ok rfl)) (nodupB_ok rfl)) (nd2 hcd)) (nd2 hcd))) (Clo.fn hcd) (nd2 hcd)
theorem DseTells_S (m : ModE) (p : Plc) (hm : siz m <= 1048576) (hr : Rng.rng m) : ASpec Tryz.prog 3 [eS m,eS p] (.b true) [] := by
 have h2 : siz m < 4294967296 := by omega
 have hfl := funcs_le m
 obtain ⟨R,hR⟩ : ∃ R : FnE -> List Bool,∀ f,isRG f (-1) (R f) := ⟨fun f=>Classical.choose (isRG_ex f (-1)),fun f=>Classical.choose_spec (isRG_ex f (-1))⟩
 obtain ⟨T,hT⟩ : ∃ T : FnE -> List (List Bool),∀ f,isTab f (T f) := ⟨fun f=>Classical.choose (isTab_ex f),fun f=>Classical.choose_spec (isTab_ex f)⟩
 have hf : ∀ k,Rng.rng (m.funcs.getD k Enc.d) := fun k=>rng_at hr.2.2 rngD_fn k
 have hRt := Right_S m R T hR hT h2 (fun b i=>C1_rng (hf b) i)
 refine ASpec.enter TYok mixed Tryz.func3 rfl Tryz.call3 Tryz.ntmps3 rfl (rs := [.tmp 4]) rfl (nodupB_ok rfl) (Clo.one rfl) (keep := [0,1,2,3,4,6,7,8,9,10,17,18,19]) ?_; conv=>whnf
 repeat' first|(refine iF (fun hb=>?_) (fun hb=>?_) <;> (try simp only [yv] at hb) <;> (have hc := hb; try simp only [sB,Int.reduceToNat] at hc; try simp only [addZ0] at hc) <;> first|(exfalso; omega)|conv=>whnf)|((first|refine ya ?_|refine yb ?_|refine yc ?_|refine yd ?_|refine yf ?_|refine yh ?_|refine yj ?_|refine dD ?_|refine dF ?_|refine d0 ?_|refine d1 ?_|refine dL ?_|refine dP ?_|refine yl ?_|refine ym ?_|refine yn ?_|refine ⟨_,fun _=>(IntKind.wrap_u64 _).symm,?_⟩); conv=>whnf)|((first|refine cK (fun _=>lives23_S) ?_|((try (refine CallW.lent ?_; (conv=>whnf); repeat (refine yb ?_; (conv=>whnf)))); refine cL (fun _=>lives23_S) ?_)); conv=>whnf)|((first|refine cK (fun _=>hRt) ?_|((try (refine CallW.lent ?_; (conv=>whnf); repeat (refine yb ?_; (conv=>whnf)))); refine cL (fun _=>hRt) ?_)); conv=>whnf)|(refine yt ?_; conv=>whnf)|exact ⟨_,.keep rfl rfl⟩|fail
 ·cases hb
 have hright : ∀ k,k < m.funcs.length -> RightF m (m.funcs.getD k Enc.d) := fun k hk=>chk_right (chkN_zero hc k hk)
 refine lp [19] (fun k : Nat=>[.i .i64 k]) (fun k=>[(2,bx m),(3,bx p)]) (fun k=>k <= m.funcs.length) (fun k=>m.funcs.length - k) 0 (Nat.zero_le _) ?_ fun k hk=>?_
 ·refine eP [] [] ?_ ?_ <;> repeat' first|exact eN|refine And.intro ?_ ?_
 conv=>whnf
 rcases (Nat.lt_or_ge k m.funcs.length).symm with hge|hlt
 ·obtain rfl : k = m.funcs.length := by omega
  repeat' first|(refine iF (fun hb=>?_) (fun hb=>?_) <;> (try simp only [yv] at hb) <;> (have hc := hb; try simp only [sB,Int.reduceToNat] at hc; try simp only [addZ0] at hc) <;> first|(exfalso; omega)|conv=>whnf)|((first|refine ya ?_|refine yb ?_|refine yc ?_|refine yd ?_|refine yf ?_|refine yh ?_|refine yj ?_|refine dD ?_|refine dF ?_|refine d0 ?_|refine d1 ?_|refine dL ?_|refine dP ?_|refine yl ?_|refine ym ?_|refine yn ?_|refine ⟨_,fun _=>(IntKind.wrap_u64 _).symm,?_⟩); conv=>whnf)|(refine yt ?_; conv=>whnf)|exact ⟨_,.keep rfl rfl⟩|fail
 have hrf := hright k hlt
 have hrg := hf k
 have hsz : siz (m.funcs.getD k Enc.d) <= 1048576 := Nat.le_trans (fn_le m k) hm
 have hsz2 : siz (m.funcs.getD k Enc.d) < 4294967296 := by omega
 have hs : OkF (m.funcs.getD k Enc.d) := OkF_of (by omega) hrg
 have ha : OkA (m.funcs.getD k Enc.d) := hrf.okA
 obtain ⟨hcut,hno⟩ := dseAll_cut hs ha
 have hnm := hcut.nm
 have hgz := hcut.okF.sz
 have hC := CopyFunc2_S (m.funcs.getD k Enc.d) hsz2
 have hA1 := dseAll_N 1011 1012 (by decide) (m.funcs.getD k Enc.d) hs ha
 have hA2 := dseAll_N 1021 1022 (by decide) (m.funcs.getD k Enc.d) hs ha
 have hW := All23_F (m.funcs.getD k Enc.d) hs ha hrf.endF hrf.code
 have hD1 := Dead_S (m.funcs.getD k Enc.d) p hs ha
 have hD2 := Dead23_S (m.funcs.getD k Enc.d) p hs ha hrf.code
 have hF : ASpec Tryz.prog 13 [.agg [.s (m.funcs.getD k Enc.d).name,eL (m.funcs.getD k Enc.d).params,.i .i64 (m.funcs.getD k Enc.d).ret,eL (dseAll (m.funcs.getD k Enc.d)).blocks],eS (dseAll (m.funcs.getD k Enc.d))] (.b true) [] := by
  have := Funcs_S (dseAll (m.funcs.getD k Enc.d)) (dseAll (m.funcs.getD k Enc.d)) hgz
  rw [decide_eq_true rfl] at this
  rw [<- hnm.1,<- hnm.2.1,<- hnm.2.2]
  exact this
 have hF2 : ASpec Tryz.prog 13 [.agg [.s (m.funcs.getD k Enc.d).name,eL (m.funcs.getD k Enc.d).params,.i .i64 (m.funcs.getD k Enc.d).ret,eL (m.funcs.getD k Enc.d).blocks],eS (m.funcs.getD k Enc.d)] (.b true) [] := by
  have := Funcs_S (m.funcs.getD k Enc.d) (m.funcs.getD k Enc.d) hsz2
  rwa [decide_eq_true rfl] at this
 have hpl := params_le (m.funcs.getD k Enc.d)
 have hbl := blocks_le (m.funcs.getD k Enc.d)
 have hbl2 := blocks_le (dseAll (m.funcs.getD k Enc.d))
 have hS1 := Spoil_N 1011 1012 (m.funcs.getD k Enc.d).name (m.funcs.getD k Enc.d).params (m.funcs.getD k Enc.d).ret (dseAll (m.funcs.getD k Enc.d)).blocks (by omega) (by omega) (Bd_of hgz) rfl rfl
 have hS2 := Spoil_S (m.funcs.getD k Enc.d).name (m.funcs.getD k Enc.d).params (m.funcs.getD k Enc.d).ret (m.funcs.getD k Enc.d).blocks (by omega) (by omega) (Bd_of hsz2)
 repeat' first|(refine iF (fun hb=>?_) (fun hb=>?_) <;> (try simp only [yv] at hb) <;> (have hc := hb; try simp only [sB,Int.reduceToNat] at hc; try simp only [addZ0] at hc) <;> first|(exfalso; omega)|conv=>whnf)|((first|refine ya ?_|refine yb ?_|refine And.intro ⟨rfl,fun _ _=>rfl⟩ ?_|refine And.intro (⟨⟨rfl,rfl⟩,by omega⟩ : (_ = _ /\ _ = _) /\ _) ?_|refine And.intro (⟨rfl,by omega⟩ : _ = _ /\ _) ?_|refine yc ?_|refine ye ?_|refine yf ?_|refine yi ?_|refine yk ?_|refine dE ?_|refine dD ?_|refine dF ?_|refine d0 ?_|refine d1 ?_|refine dL ?_|refine dP ?_|refine yl ?_|refine ym ?_|refine yn ?_|refine ⟨_,fun _=>(IntKind.wrap_u64 _).symm,?_⟩); conv=>whnf)|((first|refine cK (fun _=>long23_S (m.funcs.getD k Enc.d) (by omega)) ?_|((try (refine CallW.lent ?_; (conv=>whnf); repeat (refine yb ?_; (conv=>whnf)))); refine cL (fun _=>long23_S (m.funcs.getD k Enc.d) (by omega)) ?_)); conv=>whnf)|(refine yt ?_; conv=>whnf)|exact ⟨_,.keep rfl rfl⟩|fail
 ·refine .mk (k + 1) (by omega) (by omega) ?_
  refine eP [] [] ?_ ?_ <;> repeat' first|exact eN|refine And.intro ?_ ?_
 repeat' first|(refine iF (fun hb=>?_) (fun hb=>?_) <;> (try simp only [yv] at hb) <;> (have hc := hb; try simp only [sB,Int.reduceToNat] at hc; try simp only [addZ0] at hc) <;> first|(exfalso; omega)|conv=>whnf)|((first|refine ya ?_|refine yb ?_|refine And.intro ⟨rfl,fun _ _=>rfl⟩ ?_|refine And.intro (⟨⟨rfl,rfl⟩,by omega⟩ : (_ = _ /\ _ = _) /\ _) ?_|refine And.intro (⟨rfl,by omega⟩ : _ = _ /\ _) ?_|refine yc ?_|refine ye ?_|refine yf ?_|refine yi ?_|refine yk ?_|refine dE ?_|refine dD ?_|refine dF ?_|refine d0 ?_|refine d1 ?_|refine dL ?_|refine dP ?_|refine yl ?_|refine ym ?_|refine yn ?_|refine ⟨_,fun _=>(IntKind.wrap_u64 _).symm,?_⟩); conv=>whnf)|((first|refine cK (fun _=>hC) ?_|((try (refine CallW.lent ?_; (conv=>whnf); repeat (refine yb ?_; (conv=>whnf)))); refine cL (fun _=>hC) ?_)); conv=>whnf)|(refine yt ?_; conv=>whnf)|exact ⟨_,.keep rfl rfl⟩|fail
 refine .mk _ _ (fun _=>hA1) rfl (flat_cp _ _) ?_
 conv=>whnf
 repeat' first|(refine iF (fun hb=>?_) (fun hb=>?_) <;> (try simp only [yv] at hb) <;> (have hc := hb; try simp only [sB,Int.reduceToNat] at hc; try simp only [addZ0] at hc) <;> first|(exfalso; omega)|conv=>whnf)|((first|refine ya ?_|refine yb ?_|refine And.intro ⟨rfl,fun _ _=>rfl⟩ ?_|refine And.intro (⟨⟨rfl,rfl⟩,by omega⟩ : (_ = _ /\ _ = _) /\ _) ?_|refine And.intro (⟨rfl,by omega⟩ : _ = _ /\ _) ?_|refine yc ?_|refine ye ?_|refine yf ?_|refine yi ?_|refine yk ?_|refine dE ?_|refine dD ?_|refine dF ?_|refine d0 ?_|refine d1 ?_|refine dL ?_|refine dP ?_|refine yl ?_|refine ym ?_|refine yn ?_|refine ⟨_,fun _=>(IntKind.wrap_u64 _).symm,?_⟩); conv=>whnf)|(refine yt ?_; conv=>whnf)|exact ⟨_,.keep rfl rfl⟩|fail
 refine .mk _ _ (fun _=>hA2) rfl (flat_cp _ _) ?_
 conv=>whnf
 repeat' first|(refine iF (fun hb=>?_) (fun hb=>?_) <;> (try simp only [yv] at hb) <;> (have hc := hb; try simp only [sB,Int.reduceToNat] at hc; try simp only [addZ0] at hc) <;> first|(exfalso; omega)|conv=>whnf)|((first|refine ya ?_|refine yb ?_|refine And.intro ⟨rfl,fun _ _=>rfl⟩ ?_|refine And.intro (⟨⟨rfl,rfl⟩,by omega⟩ : (_ = _ /\ _ = _) /\ _) ?_|refine And.intro (⟨rfl,by omega⟩ : _ = _ /\ _) ?_|refine yc ?_|refine ye ?_|refine yf ?_|refine yi ?_|refine yk ?_|refine dE ?_|refine dD ?_|refine dF ?_|refine d0 ?_|refine d1 ?_|refine dL ?_|refine dP ?_|refine yl ?_|refine ym ?_|refine yn ?_|refine ⟨_,fun _=>(IntKind.wrap_u64 _).symm,?_⟩); conv=>whnf)|((first|refine cK (fun _=>hW) ?_|((try (refine CallW.lent ?_; (conv=>whnf); repeat (refine yb ?_; (conv=>whnf)))); refine cL (fun _=>hW) ?_)); conv=>whnf)|((first|refine cK (fun _=>hD1) ?_|((try (refine CallW.lent ?_; (conv=>whnf); repeat (refine yb ?_; (conv=>whnf)))); refine cL (fun _=>hD1) ?_)); conv=>whnf)|((first|refine cK (fun _=>hD2) ?_|((try (refine CallW.lent ?_; (conv=>whnf); repeat (refine yb ?_; (conv=>whnf)))); refine cL (fun _=>hD2) ?_)); conv=>whnf)|((first|refine cK (fun _=>hF) ?_|((try (refine CallW.lent ?_; (conv=>whnf); repeat (refine yb ?_; (conv=>whnf)))); refine cL (fun _=>hF) ?_)); conv=>whnf)|((first|refine cK (fun _=>hF2) ?_|((try (refine CallW.lent ?_; (conv=>whnf); repeat (refine yb ?_; (conv=>whnf)))); refine cL (fun _=>hF2) ?_)); conv=>whnf)|(refine CallW.own ?_; (conv=>whnf); refine cM (hS1) ?_; conv=>whnf)|(refine CallW.own ?_; (conv=>whnf); refine cM (hS2) ?_; conv=>whnf)|(refine yt ?_; conv=>whnf)|exact ⟨_,.keep rfl rfl⟩|fail
 ·exfalso
  revert hb
  simp
 ·exfalso
  revert hb
  simp
 ·refine .mk (k + 1) (by omega) (by omega) ?_
  refine eP [] [] ?_ ?_ <;> repeat' first|exact eN|refine And.intro ?_ ?_
end Go.Proofs.YtjfdbmfcnhjfoaaGreat
