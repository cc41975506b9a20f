/- The engine and the contracts of the functions that the statement reaches, part 5. -/
import Derived.Test.YtjfdbmfcnhjfoaaGreatMd
set_option linter.unusedVariables false
set_option linter.unusedSimpArgs false
set_option maxRecDepth 100000
set_option maxHeartbeats 8000000
namespace Go.Proofs.YtjfdbmfcnhjfoaaGreat
open Go.RowKit
theorem Count_rng (t : Int) : 0 <= Count t /\ Count t <= 8 := by unfold Count; split <;> (try split) <;> omega
theorem Count_mod (t : Int) : Count t % 18446744073709551616 = Count t := by have := Count_rng t; omega
theorem bytes_S (t : Int) : ASpec Tryz.prog 155 [.i .i64 t] (.i .u64 (Count t)) [] := by
 refine ASpec.enter TYok mixed Tryz.func155 rfl Tryz.call155 Tryz.ntmps155 rfl (rs := [.tmp 2]) rfl (nodupB_ok rfl) (Clo.one rfl) (keep := [0,2]) ?_; conv=>whnf
 repeat' first|(refine iF (fun hb=>?_) (fun hb=>?_) <;> (try simp only [yv] at hb) <;> (have hc := hb; try simp only [sB,Int.reduceToNat] at hc; try simp only [addZ0] at hc) <;> first|(exfalso; omega)|conv=>whnf)|((first|refine ya ?_|refine yb ?_|refine yc ?_|refine yd ?_|refine yf ?_|refine yh ?_|refine yj ?_|refine dD ?_|refine dF ?_|refine d0 ?_|refine d1 ?_|refine dL ?_|refine dP ?_|refine yl ?_|refine ym ?_|refine yn ?_|refine ⟨_,fun _=>(IntKind.wrap_u64 _).symm,?_⟩); conv=>whnf)|(refine yt ?_; conv=>whnf)|exact ⟨_,.keep rfl rfl⟩|fail
 ·exact ⟨_,.keep (congrArg (AV.i _) (by rw [Count,if_pos hc])) rfl⟩
 ·have e : (t + 7).tdiv 8 = (t + 7) / 8 := Int.tdiv_eq_ediv_of_nonneg (by omega)
  have e2 : (t + 7) % 18446744073709551616 = t + 7 := by omega
  exact ⟨_,.keep (congrArg (AV.i _) (by simp only [e2,e]; rw [Count,if_neg (by omega),if_neg (by omega)]; omega)) rfl⟩
 ·exact ⟨_,.keep (congrArg (AV.i _) (by rw [Count,if_neg (by omega),if_pos (by omega)])) rfl⟩
theorem root_in {f : FnE} (hs : OkF f) : ∀ (k : Nat) (s : RS),inI s.v.n -> inI (rootN f k s).v.n
 | 0,s,h=>h
 | k + 1,s,h=>by
  unfold rootN
  split
  ·exact h
  ·split
   ·exact h
   ·exact root_in hs k _ (hs.maker s.v 0)
theorem Root_in {f : FnE} (hs : OkF f) {v : Opd} (hv : inI v.n) : inI (RootE f v).v.n := root_in hs _ _ hv
def rootC (f : FnE) (v : Opd) : List AV := [.i .i64 (RootE f v).v.k,.i .i64 (RootE f v).v.n,.i .u64 (RootE f v).v.b,.i .i64 (xoff (RootE f v)),.b (RootE f v).kn,.b (allocaE f (RootE f v).v),.b (stableE f (RootE f v).v)]
theorem al_eq (f : FnE) (v : Opd) : ((makerP f v).2.2 && decide ((makerP f v).1.op = 26)) = allocaE f v := by
 unfold allocaE
 rw [<- makerP_fst]
 unfold makerP
 split
 ·rfl
 ·rfl
theorem st_eq (f : FnE) (v : Opd) : (decide (v.k = 5) || (decide (v.k = 1) && ((decide (0 <= v.n) && decide (v.n < f.params.length)) || ((makerP f v).2.2 && decide ((makerP f v).2.1 = 0))))) = stableE f v := by
 unfold stableE makerP Maker
 split
 ·simp
 ·simp
theorem of_S (f : FnE) (v : Opd) (hs : OkF f) (hv : inI v.n) : ASpec Tryz.prog 152 [eS f,eS v] (.agg (rootC f v)) [] := by
 have h1 := params_le f
 have h2 := hs.sz
 refine ASpec.enter TYok mixed Tryz.func152 rfl Tryz.call152 Tryz.ntmps152 rfl (rs := [.cell 4 174]) rfl (nodupB_ok rfl) (Clo.one rfl) (keep := [0,1,2,3,4,5,6,7,8,9,10]) ?_; conv=>whnf
 repeat' first|(refine iF (fun hb=>?_) (fun hb=>?_) <;> (try simp only [yv] at hb) <;> (have hc := hb; try simp only [sB,Int.reduceToNat] at hc; try simp only [addZ0] at hc) <;> first|(exfalso; omega)|conv=>whnf)|((first|refine ya ?_|refine yb ?_|refine yc ?_|refine yd ?_|refine yf ?_|refine yh ?_|refine yj ?_|refine dD ?_|refine dF ?_|refine d0 ?_|refine d1 ?_|refine dL ?_|refine dP ?_|refine yl ?_|refine ym ?_|refine yn ?_|refine ⟨_,fun _=>(IntKind.wrap_u64 _).symm,?_⟩); conv=>whnf)|((first|refine cK (fun _=>pRoot_S f _ hs hv) ?_|((try (refine CallW.lent ?_; (conv=>whnf); repeat (refine yb ?_; (conv=>whnf)))); refine cL (fun _=>pRoot_S f _ hs hv) ?_)); conv=>whnf)|((first|refine cK (fun _=>maker_S f _ h2) ?_|((try (refine CallW.lent ?_; (conv=>whnf); repeat (refine yb ?_; (conv=>whnf)))); refine cL (fun _=>maker_S f _ h2) ?_)); conv=>whnf)|(refine yt ?_; conv=>whnf)|exact ⟨_,.keep rfl rfl⟩|fail
 exact ⟨_,.keep (congrArg AV.agg (by unfold rootC; rw [<- al_eq,<- st_eq]; simp only [pickB_and,pickB_or]; rfl)) rfl⟩
theorem null_S (f : FnE) (v : Opd) : ASpec Tryz.prog 153 [.agg (rootC f v)] (.b (decide ((RootE f v).v.k = 4) || decide ((RootE f v).v.k = 3))) [] := by
 refine ASpec.enter TYok mixed Tryz.func153 rfl Tryz.call153 Tryz.ntmps153 rfl (rs := [.tmp 2]) rfl (nodupB_ok rfl) (Clo.one rfl) (keep := [0,1,2]) ?_; conv=>whnf
 repeat' first|(refine iF (fun hb=>?_) (fun hb=>?_) <;> (try simp only [yv] at hb) <;> (have hc := hb; try simp only [sB,Int.reduceToNat] at hc; try simp only [addZ0] at hc) <;> first|(exfalso; omega)|conv=>whnf)|((first|refine ya ?_|refine yb ?_|refine yc ?_|refine yd ?_|refine yf ?_|refine yh ?_|refine yj ?_|refine dD ?_|refine dF ?_|refine d0 ?_|refine d1 ?_|refine dL ?_|refine dP ?_|refine yl ?_|refine ym ?_|refine yn ?_|refine ⟨_,fun _=>(IntKind.wrap_u64 _).symm,?_⟩); conv=>whnf)|(refine yt ?_; conv=>whnf)|exact ⟨_,.keep rfl rfl⟩|fail
 all_goals skip
theorem object_S (f : FnE) (v : Opd) : ASpec Tryz.prog 154 [.agg (rootC f v)] (.b (decide ((RootE f v).v.k = 5) || allocaE f (RootE f v).v)) [] := by
 refine ASpec.enter TYok mixed Tryz.func154 rfl Tryz.call154 Tryz.ntmps154 rfl (rs := [.tmp 2]) rfl (nodupB_ok rfl) (Clo.one rfl) (keep := [0,1,2]) ?_; conv=>whnf
 repeat' first|(refine iF (fun hb=>?_) (fun hb=>?_) <;> (try simp only [yv] at hb) <;> (have hc := hb; try simp only [sB,Int.reduceToNat] at hc; try simp only [addZ0] at hc) <;> first|(exfalso; omega)|conv=>whnf)|((first|refine ya ?_|refine yb ?_|refine yc ?_|refine yd ?_|refine yf ?_|refine yh ?_|refine yj ?_|refine dD ?_|refine dF ?_|refine d0 ?_|refine d1 ?_|refine dL ?_|refine dP ?_|refine yl ?_|refine ym ?_|refine yn ?_|refine ⟨_,fun _=>(IntKind.wrap_u64 _).symm,?_⟩); conv=>whnf)|(refine yt ?_; conv=>whnf)|exact ⟨_,.keep rfl rfl⟩|fail
 all_goals skip
theorem dd_eq (a b : RS) : IntKind.i64.wrap (xoff b - xoff a) % 18446744073709551616 = ddE a b := by
 unfold ddE; rw [IntKind.wrap_i64]; omega
theorem pAsked_S (f : FnE) (p : Opd) (t : Int) (q : Opd) (u : Int) (hs : OkF f) (hp : inI p.n) (hq : inI q.n) : ASpec Tryz.prog 145 [eS f, eS p, .i .i64 t, eS q, .i .i64 u] (.i .i64 (AskedE f p t q u)) [] := by
  have h2 := hs.sz
  have rp := Root_in hs hp
  have rq := Root_in hs hq
  refine ASpec.enter TYok mixed Tryz.func145 rfl Tryz.call145 Tryz.ntmps145 rfl (rs := [.tmp 10]) rfl (nodupB_ok rfl) (Clo.one rfl) (keep := [0, 1, 2, 3, 4, 5, 6, 8, 10, 11, 12, 13, 14, 15, 16, 17]) ?_; conv => whnf
  repeat' first | (refine iF (fun hb => ?_) (fun hb => ?_) <;> (try simp only [yv] at hb) <;> (have hc := hb; try simp only [sB, Int.reduceToNat] at hc; try simp only [addZ0] at hc) <;> first | (exfalso; omega) | conv => whnf) | ((first | refine ya ?_ | refine yb ?_ | refine yc ?_ | refine yd ?_ | refine yf ?_ | refine yh ?_ | refine yj ?_ | refine dD ?_ | refine dF ?_ | refine d0 ?_ | refine d1 ?_ | refine dL ?_ | refine dP ?_ | refine yl ?_ | refine ym ?_ | refine yn ?_ | refine ⟨_, fun _ => (IntKind.wrap_u64 _).symm, ?_⟩); conv => whnf) | ((first | refine cK (fun _ => of_S f _ hs hp) ?_ | ((try (refine CallW.lent ?_; (conv => whnf); repeat (refine yb ?_; (conv => whnf)))); refine cL (fun _ => of_S f _ hs hp) ?_)); conv => whnf) | ((first | refine cK (fun _ => of_S f _ hs hq) ?_ | ((try (refine CallW.lent ?_; (conv => whnf); repeat (refine yb ?_; (conv => whnf)))); refine cL (fun _ => of_S f _ hs hq) ?_)); conv => whnf) | ((first | refine cK (fun _ => null_S f _) ?_ | ((try (refine CallW.lent ?_; (conv => whnf); repeat (refine yb ?_; (conv => whnf)))); refine cL (fun _ => null_S f _) ?_)); conv => whnf) | ((first | refine cK (fun _ => object_S f _) ?_ | ((try (refine CallW.lent ?_; (conv => whnf); repeat (refine yb ?_; (conv => whnf)))); refine cL (fun _ => object_S f _) ?_)); conv => whnf) | ((first | refine cK (fun _ => bytes_S _) ?_ | ((try (refine CallW.lent ?_; (conv => whnf); repeat (refine yb ?_; (conv => whnf)))); refine cL (fun _ => bytes_S _) ?_)); conv => whnf) | ((first | refine cK (fun _ => pEscapes_S f _ hs rp) ?_ | ((try (refine CallW.lent ?_; (conv => whnf); repeat (refine yb ?_; (conv => whnf)))); refine cL (fun _ => pEscapes_S f _ hs rp) ?_)); conv => whnf) | ((first | refine cK (fun _ => pEscapes_S f _ hs rq) ?_ | ((try (refine CallW.lent ?_; (conv => whnf); repeat (refine yb ?_; (conv => whnf)))); refine cL (fun _ => pEscapes_S f _ hs rq) ?_)); conv => whnf) | (refine yt ?_; conv => whnf) | exact ⟨_, .keep rfl rfl⟩ | fail
  · exact ⟨_, .keep (congrArg (AV.i _) (by rw [AskedE, if_pos (by omega)])) rfl⟩
  · have z0 : ¬((((RootE f p).v.k = 3 ∨ (RootE f p).v.k = 4) ∨ (RootE f q).v.k = 3) ∨ (RootE f q).v.k = 4) := by omega
    have z1 : (RootE f p).v = (RootE f q).v := opd_eq (by assumption)
    exact ⟨_, .keep (congrArg (AV.i _) (by rw [AskedE, if_neg z0, if_pos z1, if_pos hc])) rfl⟩
  · have z0 : ¬((((RootE f p).v.k = 3 ∨ (RootE f p).v.k = 4) ∨ (RootE f q).v.k = 3) ∨ (RootE f q).v.k = 4) := by omega
    have z1 : (RootE f p).v = (RootE f q).v := opd_eq (by assumption)
    have zs : (stableE f (RootE f p).v = true ∧ (RootE f p).kn = true) ∧ (RootE f q).kn = true := by assumption
    have z2 : ¬((stableE f (RootE f p).v = false ∨ (RootE f p).kn = false) ∨ (RootE f q).kn = false) := by rw [zs.1.1, zs.1.2, zs.2]; simp
    have zd := dd_eq (RootE f p) (RootE f q)
    have zt := Count_rng t
    have zu := Count_rng u
    have zr : 0 ≤ ddE (RootE f p) (RootE f q) ∧ ddE (RootE f p) (RootE f q) < 18446744073709551616 := by unfold ddE; omega
    refine ⟨_, fun _ => rfl, ?_⟩
    conv => whnf
    refine ⟨ddE (RootE f p) (RootE f q), fun _ => by rw [IntKind.wrap_u64, zd], ?_⟩
    conv => whnf
    repeat' first | (refine iF (fun hb => ?_) (fun hb => ?_) <;> (try simp only [yv] at hb) <;> (have hc := hb; try simp only [sB, Int.reduceToNat] at hc; try simp only [addZ0] at hc) <;> first | (exfalso; omega) | conv => whnf) | ((first | refine ya ?_ | refine yb ?_ | refine yc ?_ | refine yd ?_ | refine yf ?_ | refine yh ?_ | refine yj ?_ | refine dD ?_ | refine dF ?_ | refine d0 ?_ | refine d1 ?_ | refine dL ?_ | refine dP ?_ | refine yl ?_ | refine ym ?_ | refine yn ?_ | refine ⟨_, fun _ => (IntKind.wrap_u64 _).symm, ?_⟩); conv => whnf) | ((first | refine cK (fun _ => bytes_S _) ?_ | ((try (refine CallW.lent ?_; (conv => whnf); repeat (refine yb ?_; (conv => whnf)))); refine cL (fun _ => bytes_S _) ?_)); conv => whnf) | (refine yt ?_; conv => whnf) | exact ⟨_, .keep rfl rfl⟩ | fail
    · exact ⟨_, .keep (congrArg (AV.i _) (by rw [AskedE, if_neg z0, if_pos z1, if_neg z2, Count_mod, Count_mod, if_pos hc.1, if_pos hc.2])) rfl⟩
    · exact ⟨_, .keep (congrArg (AV.i _) (by rw [AskedE, if_neg z0, if_pos z1, if_neg z2, Count_mod, Count_mod, if_neg hc.1.1, if_pos ⟨hc.1.2, hc.2⟩])) rfl⟩
    · by_cases z3 : ddE (RootE f p) (RootE f q) = 0
      · have z4 : ¬Count t = Count u := by
          have zz : ¬ddE (RootE f p) (RootE f q) = 0 ∨ ¬Count t = Count u := by assumption
          exact zz.elim (fun h => absurd z3 h) id
        exact ⟨_, .keep (congrArg (AV.i _) (by rw [AskedE, if_neg z0, if_pos z1, if_neg z2, Count_mod, Count_mod, if_pos z3, if_neg z4])) rfl⟩
      · exact ⟨_, .keep (congrArg (AV.i _) (by rw [AskedE, if_neg z0, if_pos z1, if_neg z2, Count_mod, Count_mod, if_neg z3, if_neg (fun h => by omega)])) rfl⟩
  all_goals
    have z0 : ¬((((RootE f p).v.k = 3 ∨ (RootE f p).v.k = 4) ∨ (RootE f q).v.k = 3) ∨ (RootE f q).v.k = 4) := by omega
    have z1 : ¬(RootE f p).v = (RootE f q).v := opd_ne (by assumption)
  all_goals first
    | exact absurd (hb.symm.trans (show _ = true by assumption)) Bool.false_ne_true
    | (have zo : ((RootE f p).v.k = 5 ∨ allocaE f (RootE f p).v = true) ∧ ((RootE f q).v.k = 5 ∨ allocaE f (RootE f q).v = true) := by assumption
       exact ⟨_, .keep (congrArg (AV.i _) (by rw [AskedE, if_neg z0, if_neg z1, if_pos zo])) rfl⟩)
    | (have zo : ¬(RootE f p).v.k = 5 ∧ allocaE f (RootE f p).v = false ∨ ¬(RootE f q).v.k = 5 ∧ allocaE f (RootE f q).v = false := by assumption
       have z2 : ¬(((RootE f p).v.k = 5 ∨ allocaE f (RootE f p).v = true) ∧ ((RootE f q).v.k = 5 ∨ allocaE f (RootE f q).v = true)) := fun h => zo.elim (fun x => h.1.elim x.1 fun y => by rw [x.2] at y; cases y) fun x => h.2.elim x.1 fun y => by rw [x.2] at y; cases y
       first
         | (have za : allocaE f (RootE f p).v = true ∧ EscE f (RootE f p).v.n = false := by assumption
            have zl : aloneE f (RootE f p).v = true := by unfold aloneE; rw [za.1, za.2]; rfl
            exact ⟨_, .keep (congrArg (AV.i _) (by rw [AskedE, if_neg z0, if_neg z1, if_neg z2, if_pos (Or.inl zl)])) rfl⟩)
         | (have za : allocaE f (RootE f q).v = true ∧ EscE f (RootE f q).v.n = false := by assumption
            have zl : aloneE f (RootE f q).v = true := by unfold aloneE; rw [za.1, za.2]; rfl
            exact ⟨_, .keep (congrArg (AV.i _) (by rw [AskedE, if_neg z0, if_neg z1, if_neg z2, if_pos (Or.inr zl)])) rfl⟩)
         | (have za : allocaE f (RootE f p).v = false ∨ EscE f (RootE f p).v.n = true := by assumption
            have zb : allocaE f (RootE f q).v = false ∨ EscE f (RootE f q).v.n = true := by assumption
            have y1 : aloneE f (RootE f p).v = false := by unfold aloneE; rcases za with h | h <;> rw [h] <;> simp
            have y2 : aloneE f (RootE f q).v = false := by unfold aloneE; rcases zb with h | h <;> rw [h] <;> simp
            exact ⟨_, .keep (congrArg (AV.i _) (by rw [AskedE, if_neg z0, if_neg z1, if_neg z2, if_neg (fun h => h.elim (fun x => by rw [y1] at x; cases x) (fun x => by rw [y2] at x; cases x))])) rfl⟩))
def idxC (l : List Int) (x : Int) (i : Nat) : Int := if x = l.getD i Enc.d then 1 else 0
def Index (l : List Int) (x : Int) : Int := match firstC (idxC l x) l.length with
 | some i=>i
 | none=>-1
theorem Index_S (l : List Int) (x : Int) (hl : l.length < 4294967296) : ASpec Tryz.prog 144 [eL l,.i .i64 x] (.i .i64 (Index l x)) [] := by
 refine ASpec.enter TYok mixed Tryz.func144 rfl Tryz.call144 Tryz.ntmps144 rfl (rs := [.tmp 4]) rfl (nodupB_ok rfl) (Clo.one rfl) (keep := [0,1,4,5,7,8]) ?_; conv=>whnf
 repeat' first|(refine iF (fun hb=>?_) (fun hb=>?_) <;> (try simp only [yv] at hb) <;> (have hc := hb; try simp only [sB,Int.reduceToNat] at hc; try simp only [addZ0] at hc) <;> first|(exfalso; omega)|conv=>whnf)|((first|refine ya ?_|refine yb ?_|refine yc ?_|refine yd ?_|refine yf ?_|refine yh ?_|refine yj ?_|refine dD ?_|refine dF ?_|refine d0 ?_|refine d1 ?_|refine dL ?_|refine dP ?_|refine yl ?_|refine ym ?_|refine yn ?_|refine ⟨_,fun _=>(IntKind.wrap_u64 _).symm,?_⟩); conv=>whnf)|(refine yt ?_; conv=>whnf)|exact ⟨_,.keep rfl rfl⟩|fail
 refine lp [8] (fun q : Nat=>[.i .i64 q]) (fun q=>[]) (fun q=>q <= l.length /\ ∀ i,i < q -> idxC l x i = 0) (fun q=>l.length - q) 0 ⟨by omega,fun i h=>by omega⟩ ?_ fun q hq=>?_
 ·refine eP [] [] ?_ ?_ <;> repeat' first|exact eN|refine And.intro ?_ ?_
 conv=>whnf
 obtain ⟨hq,hv⟩ := hq
 repeat' first|(refine iF (fun hb=>?_) (fun hb=>?_) <;> (try simp only [yv] at hb) <;> (have hc := hb; try simp only [sB,Int.reduceToNat] at hc; try simp only [addZ0] at hc) <;> first|(exfalso; omega)|conv=>whnf)|((first|refine ya ?_|refine yb ?_|refine yc ?_|refine yd ?_|refine yf ?_|refine yh ?_|refine yj ?_|refine dD ?_|refine dF ?_|refine d0 ?_|refine d1 ?_|refine dL ?_|refine dP ?_|refine yl ?_|refine ym ?_|refine yn ?_|refine ⟨_,fun _=>(IntKind.wrap_u64 _).symm,?_⟩); conv=>whnf)|(refine yt ?_; conv=>whnf)|exact ⟨_,.keep rfl rfl⟩|fail
 ·exact ⟨_,.keep (by rw [Index,firstC_at (by omega) hv (by unfold idxC; rw [if_pos hc]; decide)]) rfl⟩
 ·refine .mk (q + 1) ⟨by omega,all_step hv (by unfold idxC; rw [if_neg hc])⟩ (by omega) ?_
  refine eP [] [] ?_ ?_ <;> repeat' first|exact eN|refine And.intro ?_ ?_
 ·exact ⟨_,.keep (by rw [Index,firstC_no fun i hi=>hv i (by omega)]) rfl⟩
theorem Index_has (l : List Int) (x : Int) : decide (0 <= Index l x) = l.contains x := by
 unfold Index
 cases hq : firstC (idxC l x) l.length with
 | some i =>
  have h1 := List.mem_of_find?_eq_some hq
  have h2 := List.find?_some hq
  simp only [List.mem_range] at h1
  have h3 : x = l.getD i Enc.d := by
   unfold idxC at h2; split at h2
   ·assumption
   ·simp at h2
  have h4 : l.contains x = true := by
   rw [List.contains_iff_mem,h3,List.getD_eq_getElem?_getD,List.getElem?_eq_getElem h1]; exact List.getElem_mem h1
  rw [h4]; simp
 | none =>
  have h1 : l.contains x = false := by
   rw [<- Bool.not_eq_true,List.contains_iff_mem]
   intro hm
   obtain ⟨i,hi,rfl⟩ := List.getElem_of_mem hm
   have := List.find?_eq_none.1 hq i (List.mem_range.2 hi)
   unfold idxC at this
   rw [List.getD_eq_getElem?_getD,List.getElem?_eq_getElem hi] at this
   simp at this
  rw [h1]; simp
theorem Contains_S (l : List Int) (x : Int) (hl : l.length < 4294967296) : ASpec Tryz.prog 125 [eL l,.i .i64 x] (.b (l.contains x)) [] := by
 rw [<- Index_has]
 refine ASpec.enter TYok mixed Tryz.func125 rfl Tryz.call125 Tryz.ntmps125 rfl (rs := [.tmp 4]) rfl (nodupB_ok rfl) (Clo.one rfl) (keep := [0,1,4]) ?_; conv=>whnf
 repeat' first|(refine iF (fun hb=>?_) (fun hb=>?_) <;> (try simp only [yv] at hb) <;> (have hc := hb; try simp only [sB,Int.reduceToNat] at hc; try simp only [addZ0] at hc) <;> first|(exfalso; omega)|conv=>whnf)|((first|refine ya ?_|refine yb ?_|refine yc ?_|refine yd ?_|refine yf ?_|refine yh ?_|refine yj ?_|refine dD ?_|refine dF ?_|refine d0 ?_|refine d1 ?_|refine dL ?_|refine dP ?_|refine yl ?_|refine ym ?_|refine yn ?_|refine ⟨_,fun _=>(IntKind.wrap_u64 _).symm,?_⟩); conv=>whnf)|((first|refine cK (fun _=>Index_S _ _ hl) ?_|((try (refine CallW.lent ?_; (conv=>whnf); repeat (refine yb ?_; (conv=>whnf)))); refine cL (fun _=>Index_S _ _ hl) ?_)); conv=>whnf)|(refine yt ?_; conv=>whnf)|exact ⟨_,.keep rfl rfl⟩|fail
theorem has_S (l : List Int) (x : Int) (hl : l.length < 9223372036854775807) : ASpec Tryz.prog 119 [eL l,.i .i64 x] (.b (l.contains x)) [] := by
 refine ASpec.enter TYok mixed Tryz.func119 rfl Tryz.call119 Tryz.ntmps119 rfl (rs := [.tmp 4]) rfl (nodupB_ok rfl) (Clo.one rfl) (keep := [0,1,4,5]) ?_; conv=>whnf
 refine lp [5] (fun q : Nat=>[.i .i64 q]) (fun q=>[]) (fun q=>q <= l.length /\ l.contains x = (l.drop q).contains x) (fun q=>l.length - q) 0 ⟨by omega,rfl⟩ ?_ fun q hq=>?_
 ·exact Ent.lp [] [] rfl rfl rfl (And.intro rfl trivial) trivial
 conv=>whnf
 obtain ⟨hq,hv⟩ := hq
 repeat' first|(refine iF (fun hb=>?_) (fun hb=>?_) <;> (try simp only [yv] at hb) <;> (have hc := hb; try simp only [sB,Int.reduceToNat] at hc; try simp only [addZ0] at hc) <;> first|(exfalso; omega)|conv=>whnf)|((first|refine ya ?_|refine yb ?_|refine yc ?_|refine yd ?_|refine yf ?_|refine yh ?_|refine yj ?_|refine dD ?_|refine dF ?_|refine d0 ?_|refine d1 ?_|refine dL ?_|refine dP ?_|refine yl ?_|refine ym ?_|refine yn ?_|refine ⟨_,fun _=>(IntKind.wrap_u64 _).symm,?_⟩); conv=>whnf)|(refine yt ?_; conv=>whnf)|exact ⟨_,.keep rfl rfl⟩|fail
 ·exact ⟨_,.keep (congrArg AV.b (by rw [hv,contains_drop x (by omega)]; simp at hc; simp [hc])) rfl⟩
 ·refine .mk (q + 1) ⟨by omega,?_⟩ (by omega) (Ent.lp [] [] rfl rfl rfl (And.intro rfl trivial) trivial)
  rw [hv,contains_drop x (by omega)]; simp at hc; simp [hc]
 ·exact ⟨_,.keep (congrArg AV.b (by rw [hv,List.drop_eq_nil_of_le (by omega)]; rfl)) rfl⟩
def sucStep (n : Int) (l : List Int) (t : Int) : List Int := bif decide (0 <= t) && decide (t < n) && !l.contains t then l ++ [t] else l
def Succs (f : FnE) (b : Int) : List Int :=
 if b < 0 \/ (f.blocks.length : Int) <= b then [] else
 let c := (f.blocks.getD b.toNat Enc.d).code
 if c.length = 0 then [] else
 let x := c.getD ((c.length : Int) - 1).toNat Enc.d
 if x.op ≠ 31 /\ x.op ≠ 32 then [] else x.to.foldl (sucStep f.blocks.length) []
theorem sucStep_len (n : Int) : ∀ (l a : List Int),(l.foldl (sucStep n) a).length <= a.length + l.length
 | [],a=>Nat.le_refl _
 | t :: l,a=>by
  have h := sucStep_len n l (sucStep n a t)
  have : (sucStep n a t).length <= a.length + 1 := by
   unfold sucStep; cases decide (0 <= t) && decide (t < n) && !a.contains t
   ·exact Nat.le_succ _
   ·rw [cond_true,List.length_append]; exact Nat.le_refl _
  rw [List.foldl_cons,List.length_cons]; omega
theorem Succs_S (d : Nat) (f : FnE) (b : Int) (hs : siz f < 4294967296) : ASpec Tryz.prog 79 [eS f,.i .i64 b] (.orow d 1 0 (Succs f b).length) [(d,oL (Succs f b))] := by
 have h1 := blocks_le f
 have h2 := code_le f b.toNat
 refine ASpec.enter TYok mixed Tryz.func79 rfl Tryz.call79 Tryz.ntmps79 rfl (rs := [.tmp 4]) rfl (nd1 _) (Clo.row) (keep := [0,1,2,4,5,6,7,8,9]) ?_; conv=>whnf
 repeat' first|(refine iF (fun hb=>?_) (fun hb=>?_) <;> (try simp only [yv] at hb) <;> (have hc := hb; try simp only [sB,Int.reduceToNat] at hc; try simp only [addZ0] at hc) <;> first|(exfalso; omega)|conv=>whnf)|((first|refine ya ?_|refine yb ?_|refine yc ?_|refine yd ?_|refine yf ?_|refine yh ?_|refine yj ?_|refine dD ?_|refine dF ?_|refine d0 ?_|refine d1 ?_|refine dL ?_|refine dP ?_|refine yl ?_|refine ym ?_|refine yn ?_|refine ⟨_,fun _=>(IntKind.wrap_u64 _).symm,?_⟩); conv=>whnf)|(refine yt ?_; conv=>whnf)|exact ⟨_,.keep rfl rfl⟩|fail
 ·exact ⟨_,.nil (by simp [Succs,hc])⟩
 ·exact ⟨_,.nil (by rw [Succs,if_neg (by omega),if_pos (by omega)]; rfl)⟩
 ·exact ⟨_,.nil (by rw [Succs,if_neg (by omega),if_neg (by omega),if_pos (by omega)]; rfl)⟩
 generalize hx : (f.blocks.getD b.toNat Enc.d).code.getD (((f.blocks.getD b.toNat Enc.d).code.length : Int) - 1).toNat Enc.d = x at *
 have h3 : siz x <= siz f := hx ▸ ins_le f _ _
 have h4 := to_le x
 let acc (q : Nat) := (x.to.take q).foldl (sucStep f.blocks.length) []
 have h5 : ∀ q,q <= x.to.length -> (acc q).length <= q := fun q hq=>by have := sucStep_len f.blocks.length (x.to.take q) []; rw [List.length_take,Nat.min_eq_left hq] at this; simpa using this
 refine lp [8,5] (fun q : Nat=>[.i .i64 q,.orow 5 1 0 (acc q).length]) (fun q=>[(5,oL (acc q)),(2,bx f),(7,bx x)]) (fun q=>q <= x.to.length) (fun q=>x.to.length - q) 0 (by omega) ?_ fun q hq=>?_
 ·refine eP [] [5] ?_ ?_ <;> repeat' first|exact eN|refine And.intro ?_ ?_
 conv=>whnf
 have h6 := h5 q hq
 repeat' first|(refine iF (fun hb=>?_) (fun hb=>?_) <;> (try simp only [yv] at hb) <;> (have hc := hb; try simp only [sB,Int.reduceToNat] at hc; try simp only [addZ0] at hc) <;> first|(exfalso; omega)|conv=>whnf)|((first|refine ya ?_|refine yb ?_|refine yc ?_|refine yd ?_|refine yf ?_|refine yh ?_|refine yj ?_|refine dD ?_|refine dF ?_|refine d0 ?_|refine d1 ?_|refine dL ?_|refine dP ?_|refine yl ?_|refine ym ?_|refine yn ?_|refine ⟨_,fun _=>(IntKind.wrap_u64 _).symm,?_⟩); conv=>whnf)|(refine yt ?_; conv=>whnf)|exact ⟨_,.keep rfl rfl⟩|fail
 ·(try (first|refine yt ?_|refine CallW.lent ?_); (conv=>whnf)); (repeat (refine yb ?_; (conv=>whnf))); (first|refine cK (fun _=>has_S (acc q) _ (by omega)) ?_|refine cL (fun _=>has_S (acc q) _ (by omega)) ?_); conv=>whnf
  repeat' first|(refine iF (fun hb=>?_) (fun hb=>?_) <;> (try simp only [yv] at hb) <;> (have hc := hb; try simp only [sB,Int.reduceToNat] at hc; try simp only [addZ0] at hc) <;> first|(exfalso; omega)|conv=>whnf)|((first|refine ya ?_|refine yb ?_|refine yc ?_|refine yd ?_|refine yf ?_|refine yh ?_|refine yj ?_|refine dD ?_|refine dF ?_|refine d0 ?_|refine d1 ?_|refine dL ?_|refine dP ?_|refine yl ?_|refine ym ?_|refine yn ?_|refine ⟨_,fun _=>(IntKind.wrap_u64 _).symm,?_⟩); conv=>whnf)|(refine yt ?_; conv=>whnf)|exact ⟨_,.keep rfl rfl⟩|fail
  ·have e : acc (q + 1) = acc q ++ [x.to.getD q Enc.d] := (foldl_take (d := Enc.d) (by omega)).trans (congrArg (fun c=>bif c then _ else _) hb)
   refine .mk (q + 1) (by omega) (by omega) ?_
   refine eP [(5,87)] [] ?_ ?_ <;> repeat' first|exact eN|refine And.intro ?_ ?_|exact snoc_len e|exact snoc_get e rfl|rw [e]
  ·have e : acc (q + 1) = acc q := (foldl_take (d := Enc.d) (by omega)).trans (congrArg (fun c=>bif c then _ else _) hb)
   refine .mk (q + 1) (by omega) (by omega) ?_
   rw [<- e]
   refine eP [] [] ?_ ?_ <;> repeat' first|exact eN|refine And.intro ?_ ?_
 ·have e : acc q = Succs f b := by rw [Succs,if_neg (by omega),if_neg (by omega),hx,if_neg (by omega)]; simp only [acc]; rw [List.take_of_length_le (by omega)]
  exact ⟨_,.give rfl rfl (by rw [e]) (by rw [e]; exact fun _ _=>rfl) rfl⟩
theorem gSuccs_S (d : Nat) (f : FnE) (b : Int) (hs : siz f < 4294967296) : ASpec Tryz.prog 86 [eS f,.i .i64 b] (.orow d 1 0 (Succs f b).length) [(d,oL (Succs f b))] := by
 have h1 := blocks_le f
 have h2 := code_le f b.toNat
 refine ASpec.enter TYok mixed Tryz.func86 rfl Tryz.call86 Tryz.ntmps86 rfl (rs := [.tmp 4]) rfl (nd1 _) (Clo.row) (keep := [0,1,2,4,5,6,7,9,51,52,53]) ?_; conv=>whnf
 repeat' first|(refine iF (fun hb=>?_) (fun hb=>?_) <;> (try simp only [yv] at hb) <;> (have hc := hb; try simp only [sB,Int.reduceToNat] at hc; try simp only [addZ0] at hc) <;> first|(exfalso; omega)|conv=>whnf)|((first|refine ya ?_|refine yb ?_|refine yc ?_|refine yd ?_|refine yf ?_|refine yh ?_|refine yj ?_|refine dD ?_|refine dF ?_|refine d0 ?_|refine d1 ?_|refine dL ?_|refine dP ?_|refine yl ?_|refine ym ?_|refine yn ?_|refine ⟨_,fun _=>(IntKind.wrap_u64 _).symm,?_⟩); conv=>whnf)|((first|refine cK (fun _=>irEnds_S _) ?_|((try (refine CallW.lent ?_; (conv=>whnf); repeat (refine yb ?_; (conv=>whnf)))); refine cL (fun _=>irEnds_S _) ?_)); conv=>whnf)|(refine yt ?_; conv=>whnf)|exact ⟨_,.keep rfl rfl⟩|fail
 ·exact ⟨_,.nil (by
   rw [Succs]
   by_cases ha : b < 0 \/ (f.blocks.length : Int) <= b
   ·rw [if_pos ha]; rfl
   ·rw [if_neg ha,if_pos (by omega)]; rfl)⟩
 ·refine ⟨_,.nil ?_⟩
  rw [Succs,if_neg (by omega),if_neg (by omega),if_pos]; rfl
  refine ⟨fun h=>?_,fun h=>?_⟩ <;> · rw [h] at hc; simp [Ends] at hc
 generalize hx : (f.blocks.getD b.toNat Enc.d).code.getD (((f.blocks.getD b.toNat Enc.d).code.length : Int) - 1).toNat Enc.d = x at *
 have hop : ¬ (x.op ≠ 31 /\ x.op ≠ 32) := by
  rintro ⟨ha,hb⟩
  simp [Ends] at hc
  omega
 have h3 : siz x <= siz f := hx ▸ ins_le f _ _
 have h4 := to_le x
 let acc (q : Nat) := (x.to.take q).foldl (sucStep f.blocks.length) []
 have h5 : ∀ q,q <= x.to.length -> (acc q).length <= q := fun q hq=>by have := sucStep_len f.blocks.length (x.to.take q) []; rw [List.length_take,Nat.min_eq_left hq] at this; simpa using this
 refine lp [53,7] (fun q : Nat=>[.i .i64 q,.orow 7 1 0 (acc q).length]) (fun q=>[(7,oL (acc q)),(2,bx f),(6,bx x)]) (fun q=>q <= x.to.length) (fun q=>x.to.length - q) 0 (by omega) ?_ fun q hq=>?_
 ·refine eP [] [7] ?_ ?_ <;> repeat' first|exact eN|refine And.intro ?_ ?_
 conv=>whnf
 have h6 := h5 q hq
 repeat' first|(refine iF (fun hb=>?_) (fun hb=>?_) <;> (try simp only [yv] at hb) <;> (have hc := hb; try simp only [sB,Int.reduceToNat] at hc; try simp only [addZ0] at hc) <;> first|(exfalso; omega)|conv=>whnf)|((first|refine ya ?_|refine yb ?_|refine yc ?_|refine yd ?_|refine yf ?_|refine yh ?_|refine yj ?_|refine dD ?_|refine dF ?_|refine d0 ?_|refine d1 ?_|refine dL ?_|refine dP ?_|refine yl ?_|refine ym ?_|refine yn ?_|refine ⟨_,fun _=>(IntKind.wrap_u64 _).symm,?_⟩); conv=>whnf)|((first|refine cK (fun _=>Contains_S (acc q) _ (by omega)) ?_|((try (refine CallW.lent ?_; (conv=>whnf); repeat (refine yb ?_; (conv=>whnf)))); refine cL (fun _=>Contains_S (acc q) _ (by omega)) ?_)); conv=>whnf)|(refine yt ?_; conv=>whnf)|exact ⟨_,.keep rfl rfl⟩|fail
 ·have e : acc (q + 1) = acc q ++ [x.to.getD q Enc.d] := (foldl_take (d := Enc.d) (by omega)).trans (congrArg (fun c=>bif c then _ else _) hb)
  refine .mk (q + 1) (by omega) (by omega) ?_
  refine eP [(7,75)] [] ?_ ?_ <;> repeat' first|exact eN|refine And.intro ?_ ?_|exact snoc_len e|exact snoc_get e rfl|rw [e]
 ·have e : acc (q + 1) = acc q := (foldl_take (d := Enc.d) (by omega)).trans (congrArg (fun c=>bif c then _ else _) hb)
  refine .mk (q + 1) (by omega) (by omega) ?_
  rw [<- e]
  refine eP [] [] ?_ ?_ <;> repeat' first|exact eN|refine And.intro ?_ ?_
 ·have e : acc q = Succs f b := by rw [Succs,if_neg (by omega),if_neg (by omega),hx,if_neg hop]; simp only [acc]; rw [List.take_of_length_le (by omega)]
  exact ⟨_,.give rfl rfl (by rw [e]) (by rw [e]; exact fun _ _=>rfl) rfl⟩
theorem sucStep_mem {n : Int} : ∀ {l a : List Int},(∀ x ∈ a,0 <= x /\ x < n) -> ∀ x ∈ l.foldl (sucStep n) a,0 <= x /\ x < n
 | [],a,h,x,hx=>h x hx
 | t :: l,a,h,x,hx=>by
  rw [List.foldl_cons] at hx
  refine sucStep_mem (l := l) (fun y hy=>?_) x hx
  unfold sucStep at hy
  by_cases hc : (decide (0 <= t) && decide (t < n) && !a.contains t) = true
  ·rw [hc,cond_true,List.mem_append] at hy
   rcases hy with hy|hy
   ·exact h y hy
   ·rw [List.mem_singleton] at hy; subst hy
    simp only [Bool.and_eq_true,decide_eq_true_eq] at hc
    exact ⟨hc.1.1,hc.1.2⟩
  ·rw [Bool.not_eq_true] at hc
   rw [hc,cond_false] at hy; exact h y hy
theorem sucStep_nd {n : Int} : ∀ {l a : List Int},a.Nodup -> (l.foldl (sucStep n) a).Nodup
 | [],a,h=>h
 | t :: l,a,h=>by
  rw [List.foldl_cons]
  refine sucStep_nd (l := l) ?_
  unfold sucStep
  by_cases hc : (decide (0 <= t) && decide (t < n) && !a.contains t) = true
  ·rw [hc,cond_true]
   simp only [Bool.and_eq_true,Bool.not_eq_true',List.contains_eq_mem,decide_eq_false_iff_not] at hc
   exact List.nodup_append.2 ⟨h,by simp,fun x hx y hy e=>by rw [List.mem_singleton] at hy; subst hy; subst e; exact hc.2 hx⟩
  ·rw [Bool.not_eq_true] at hc
   rw [hc,cond_false]; exact h
theorem Succs_mem {f : FnE} {b x : Int} (h : x ∈ Succs f b) : 0 <= x /\ x < f.blocks.length := by
 unfold Succs at h
 dsimp only at h
 split at h
 ·cases h
 ·split at h
  ·cases h
  ·split at h
   ·cases h
   ·exact sucStep_mem (fun y hy=>by cases hy) x h
theorem Succs_nd (f : FnE) (b : Int) : (Succs f b).Nodup := by
 unfold Succs
 dsimp only
 split
 ·exact List.nodup_nil
 ·split
  ·exact List.nodup_nil
  ·split
   ·exact List.nodup_nil
   ·exact sucStep_nd List.nodup_nil
def cnt (f : FnE) (t : Int) (k : Nat) : List Int := (List.range k).flatMap fun c : Nat=>List.replicate ((Succs f (c : Int)).count t) (c : Int)
def prow (f : FnE) (b i : Nat) (t : Int) : List Int := cnt f t b ++ List.replicate (((Succs f b).take i).count t) (b : Int)
theorem cnt_len (f : FnE) (t : Int) : ∀ k,(cnt f t k).length <= k
 | 0=>Nat.le_refl _
 | k + 1=>by
  have h := cnt_len f t k
  have h2 : (Succs f k).count t <= 1 := List.nodup_iff_count.1 (Succs_nd f k) t
  unfold cnt at h ⊢
  rw [List.range_succ,List.flatMap_append,List.length_append]
  simp only [List.flatMap_cons,List.flatMap_nil,List.append_nil,List.length_replicate]
  omega
theorem prow_len (f : FnE) (b i : Nat) (t : Int) : (prow f b i t).length <= b + 1 := by
 have h := cnt_len f t b
 have h2 : (Succs f b).count t <= 1 := List.nodup_iff_count.1 (Succs_nd f b) t
 have h3 : ((Succs f b).take i).count t <= (Succs f b).count t := (List.take_sublist i _).count_le t
 unfold prow
 rw [List.length_append,List.length_replicate]
 omega
theorem prow_zero (f : FnE) (b : Nat) (t : Int) : prow f b 0 t = cnt f t b := by
 unfold prow; simp
theorem prow_all (f : FnE) (b i : Nat) (t : Int) (h : (Succs f b).length <= i) : prow f b i t = cnt f t (b + 1) := by
 unfold prow cnt
 rw [List.take_of_length_le h,List.range_succ,List.flatMap_append]
 simp
theorem prow_succ (f : FnE) (b i : Nat) (t : Int) (h : i < (Succs f b).length) : prow f b (i + 1) t = if t = (Succs f b)[i] then prow f b i t ++ [(b : Int)] else prow f b i t := by
 unfold prow
 rw [List.take_add_one,List.getElem?_eq_getElem h,List.count_append]
 simp only [Option.toList_some,List.count_singleton,beq_iff_eq]
 by_cases hc : t = (Succs f b)[i]
 ·subst hc; simp [List.replicate_succ',List.append_assoc]
 ·have : ¬ (Succs f b)[i] = t := fun e=>hc e.symm
  simp [hc,this]
theorem Succs_len (f : FnE) (b : Int) : (Succs f b).length <= siz f := by
 unfold Succs
 dsimp only
 split
 ·exact Nat.zero_le _
 ·split
  ·exact Nat.zero_le _
  ·split
   ·exact Nat.zero_le _
   ·refine Nat.le_trans (sucStep_len _ _ _) ?_
    rw [List.length_nil,Nat.zero_add]
    exact Nat.le_trans (to_le _) (ins_le f _ _)
theorem Preds_S (f : FnE) (hs : siz f < 4294967296) : ASpec Tryz.prog 77 [eS f] (.orow 12 1 0 f.blocks.length) [(12,.tree 1 f.blocks.length fun t=>[eL (cnt f t f.blocks.length)])] := by
 have h1 := blocks_le f
 refine ASpec.enter TYok mixed Tryz.func77 rfl Tryz.call77 Tryz.ntmps77 rfl (rs := [.tmp 2]) rfl (nd1 _) (Clo.tree) (keep := [0,1,2,3,4,5,6,7]) ?_; conv=>whnf
 repeat' first|(refine iF (fun hb=>?_) (fun hb=>?_) <;> (try simp only [yv] at hb) <;> (have hc := hb; try simp only [sB,Int.reduceToNat] at hc; try simp only [addZ0] at hc) <;> first|(exfalso; omega)|conv=>whnf)|((first|refine ya ?_|refine yb ?_|refine yc ?_|refine yd ?_|refine yf ?_|refine yh ?_|refine yj ?_|refine dD ?_|refine dF ?_|refine d0 ?_|refine d1 ?_|refine dL ?_|refine dP ?_|refine yl ?_|refine ym ?_|refine yn ?_|refine ⟨_,fun _=>(IntKind.wrap_u64 _).symm,?_⟩); conv=>whnf)|(refine yt ?_; conv=>whnf)|exact ⟨_,.keep rfl rfl⟩|fail
 refine lp [5] (fun b : Nat=>[.i .i64 b]) (fun b=>[(12,.tree 1 f.blocks.length fun t=>[eL (cnt f t b)]),(1,bx f)]) (fun b=>b <= f.blocks.length) (fun b=>f.blocks.length - b) 0 (by omega) ?_ fun b hb=>?_
 ·refine eP [] [] ?_ ?_ <;> repeat' first|exact eN|refine And.intro ?_ ?_
  exact fun i hi=>And.intro rfl rfl
 conv=>whnf
 repeat' first|(refine iF (fun hb=>?_) (fun hb=>?_) <;> (try simp only [yv] at hb) <;> (have hc := hb; try simp only [sB,Int.reduceToNat] at hc; try simp only [addZ0] at hc) <;> first|(exfalso; omega)|conv=>whnf)|((first|refine ya ?_|refine yb ?_|refine yc ?_|refine yd ?_|refine yf ?_|refine yh ?_|refine yj ?_|refine dD ?_|refine dF ?_|refine d0 ?_|refine d1 ?_|refine dL ?_|refine dP ?_|refine yl ?_|refine ym ?_|refine yn ?_|refine ⟨_,fun _=>(IntKind.wrap_u64 _).symm,?_⟩); conv=>whnf)|(refine yt ?_; conv=>whnf)|exact ⟨_,.keep rfl rfl⟩|fail
 (try (first|refine yt ?_|refine CallW.lent ?_); (conv=>whnf)); (repeat (refine yb ?_; (conv=>whnf))); (first|refine cK (fun _=>Succs_S 20 f _ hs) ?_|refine cL (fun _=>Succs_S 20 f _ hs) ?_); conv=>whnf
 repeat' first|(refine iF (fun hb=>?_) (fun hb=>?_) <;> (try simp only [yv] at hb) <;> (have hc := hb; try simp only [sB,Int.reduceToNat] at hc; try simp only [addZ0] at hc) <;> first|(exfalso; omega)|conv=>whnf)|((first|refine ya ?_|refine yb ?_|refine yc ?_|refine yd ?_|refine yf ?_|refine yh ?_|refine yj ?_|refine dD ?_|refine dF ?_|refine d0 ?_|refine d1 ?_|refine dL ?_|refine dP ?_|refine yl ?_|refine ym ?_|refine yn ?_|refine ⟨_,fun _=>(IntKind.wrap_u64 _).symm,?_⟩); conv=>whnf)|(refine yt ?_; conv=>whnf)|exact ⟨_,.keep rfl rfl⟩|fail
 ·refine lp [7] (fun i : Nat=>[.i .i64 i]) (fun i=>[(20,oL (Succs f b)),(12,.tree 1 f.blocks.length fun t=>[eL (prow f b i t)]),(1,bx f)]) (fun i=>i <= (Succs f b).length) (fun i=>(Succs f b).length - i) 0 (by omega) ?_ fun i hi=>?_
  ·refine eP [] [] ?_ ?_ <;> repeat' first|exact eN|refine And.intro ?_ ?_
   exact fun i hi=>teqs_of (congrArg (fun l=>[eL l]) (prow_zero f b i).symm)
  conv=>whnf
  have hlen := Succs_len f b
  repeat' first|(refine iF (fun hb=>?_) (fun hb=>?_) <;> (try simp only [yv] at hb) <;> (have hc := hb; try simp only [sB,Int.reduceToNat] at hc; try simp only [addZ0] at hc) <;> first|(exfalso; omega)|conv=>whnf)|((first|refine ya ?_|refine yb ?_|refine yc ?_|refine yd ?_|refine yf ?_|refine yh ?_|refine yj ?_|refine dD ?_|refine dF ?_|refine d0 ?_|refine d1 ?_|refine dL ?_|refine dP ?_|refine yl ?_|refine ym ?_|refine yn ?_|refine ⟨_,fun _=>(IntKind.wrap_u64 _).symm,?_⟩); conv=>whnf)|(refine yt ?_; conv=>whnf)|exact ⟨_,.keep rfl rfl⟩|fail
  ·have hi' : i < (Succs f b).length := by omega
   have hx : (Succs f b).getD (addZ 0 (i : Int).toNat) Enc.d = (Succs f b)[i] := by rw [addZ_eq]; simp [List.getD_eq_getElem?_getD,hi']
   have hm := Succs_mem (List.getElem_mem hi')
   have hm2 : addZ 0 ((Succs f b).getD (addZ 0 (i : Int).toNat) Enc.d).toNat < f.blocks.length := by rw [hx,addZ_eq]; omega
   have hm3 : ((addZ 0 ((Succs f b).getD (addZ 0 (i : Int).toNat) Enc.d).toNat : Nat) : Int) = (Succs f b)[i] := by rw [hx,addZ_eq]; omega
   have hp1 := prow_len f b i (addZ 0 ((Succs f b).getD (addZ 0 (i : Int).toNat) Enc.d).toNat : Nat)
   refine And.intro ⟨by rw [hx]; omega,by rw [hx]; omega,hm2⟩ ?_
   conv=>whnf
   repeat' first|(refine iF (fun hb=>?_) (fun hb=>?_) <;> (try simp only [yv] at hb) <;> (have hc := hb; try simp only [sB,Int.reduceToNat] at hc; try simp only [addZ0] at hc) <;> first|(exfalso; omega)|conv=>whnf)|((first|refine ya ?_|refine yb ?_|refine yc ?_|refine yd ?_|refine yf ?_|refine yh ?_|refine yj ?_|refine dD ?_|refine dF ?_|refine d0 ?_|refine d1 ?_|refine dL ?_|refine dP ?_|refine yl ?_|refine ym ?_|refine yn ?_|refine ⟨_,fun _=>(IntKind.wrap_u64 _).symm,?_⟩); conv=>whnf)|(refine yt ?_; conv=>whnf)|exact ⟨_,.keep rfl rfl⟩|fail
   refine And.intro ⟨rfl,fun _ _=>rfl⟩ ?_
   conv=>whnf
   repeat' first|(refine iF (fun hb=>?_) (fun hb=>?_) <;> (try simp only [yv] at hb) <;> (have hc := hb; try simp only [sB,Int.reduceToNat] at hc; try simp only [addZ0] at hc) <;> first|(exfalso; omega)|conv=>whnf)|((first|refine ya ?_|refine yb ?_|refine yc ?_|refine yd ?_|refine yf ?_|refine yh ?_|refine yj ?_|refine dD ?_|refine dF ?_|refine d0 ?_|refine d1 ?_|refine dL ?_|refine dP ?_|refine yl ?_|refine ym ?_|refine yn ?_|refine ⟨_,fun _=>(IntKind.wrap_u64 _).symm,?_⟩); conv=>whnf)|(refine yt ?_; conv=>whnf)|exact ⟨_,.keep rfl rfl⟩|fail
   refine And.intro ⟨⟨rfl,fun _ _=>leafs_cat (fun _=>rfl) (leafs_lit1 rfl) _⟩,hm2⟩ ?_
   conv=>whnf
   repeat' first|(refine iF (fun hb=>?_) (fun hb=>?_) <;> (try simp only [yv] at hb) <;> (have hc := hb; try simp only [sB,Int.reduceToNat] at hc; try simp only [addZ0] at hc) <;> first|(exfalso; omega)|conv=>whnf)|((first|refine ya ?_|refine yb ?_|refine yc ?_|refine yd ?_|refine yf ?_|refine yh ?_|refine yj ?_|refine dD ?_|refine dF ?_|refine d0 ?_|refine d1 ?_|refine dL ?_|refine dP ?_|refine yl ?_|refine ym ?_|refine yn ?_|refine ⟨_,fun _=>(IntKind.wrap_u64 _).symm,?_⟩); conv=>whnf)|(refine yt ?_; conv=>whnf)|exact ⟨_,.keep rfl rfl⟩|fail
   refine .mk (i + 1) (by omega) (by omega) ?_
   refine eP [] [] ?_ ?_ <;> repeat' first|exact eN|refine And.intro ?_ ?_
   intro t ht
   refine tree_snoc (x := (b : Int)) (g' := fun t : Nat=>[eL (prow f b (i + 1) t)]) (l' := prow f b (i + 1) t) (fun e=>?_) rfl (fun _=>⟨_,rfl⟩) (fun _=>rfl) fun e=>?_
   ·rw [prow_succ f b i t hi',if_pos (by rw [<- hm3,e]),e]
   ·exact congrArg (fun l=>[eL l]) ((prow_succ f b i t hi').trans (if_neg fun h=>e (by omega)))
  ·refine .mk (b + 1) (by omega) (by omega) ?_
   refine eP [] [] ?_ ?_ <;> repeat' first|exact eN|refine And.intro ?_ ?_
   exact fun t ht=>teqs_of (congrArg (fun l=>[eL l]) (prow_all f b i t (by omega)))
 ·exact ⟨_,.giveT rfl rfl (by omega) (fun t _=>by rw [show b = f.blocks.length by omega]; exact teqs_refl _) rfl⟩
def PredsL (f : FnE) : List (List Int) := (List.range f.blocks.length).map fun t : Nat=>cnt f t f.blocks.length
theorem Preds_F (f : FnE) (hs : siz f < 4294967296) : ASpec Tryz.prog 77 [eS f] (eL (PredsL f)) [] :=
 (Preds_S f hs).gives (.freezeT rfl rfl (by simp [PredsL]) (fun i hi=>teqs_of (by
  have hi' : i < f.blocks.length := by simpa [PredsL] using hi
  show [eL (cnt f i f.blocks.length)] = [eL ((PredsL f).getD i [])]
  rw [PredsL,List.getD_eq_getElem?_getD,List.getElem?_map,List.getElem?_range hi']; rfl)) rfl) (Clo.row0 fun id=>rfl) (by simp)
theorem gSuccs_F (f : FnE) (b : Int) (hs : siz f < 4294967296) : ASpec Tryz.prog 86 [eS f,.i .i64 b] (eL (Succs f b)) [] :=
 oL_frz (fun id=>rfl) (gSuccs_S 0 f b hs)
theorem gPreds_S (f : FnE) (hs : siz f < 4294967296) : ASpec Tryz.prog 91 [eS f] (.orow 10 1 0 f.blocks.length) [(10,.tree 1 f.blocks.length fun t=>[eL (cnt f t f.blocks.length)])] := by
 have h1 := blocks_le f
 refine ASpec.enter TYok mixed Tryz.func91 rfl Tryz.call91 Tryz.ntmps91 rfl (rs := [.tmp 2]) rfl (nd1 _) (Clo.tree) (keep := [0,1,2,3,4,6,13,14,19,20,21]) ?_; conv=>whnf
 repeat' first|(refine iF (fun hb=>?_) (fun hb=>?_) <;> (try simp only [yv] at hb) <;> (have hc := hb; try simp only [sB,Int.reduceToNat] at hc; try simp only [addZ0] at hc) <;> first|(exfalso; omega)|conv=>whnf)|((first|refine ya ?_|refine yb ?_|refine yc ?_|refine yd ?_|refine yf ?_|refine yh ?_|refine yj ?_|refine dD ?_|refine dF ?_|refine d0 ?_|refine d1 ?_|refine dL ?_|refine dP ?_|refine yl ?_|refine ym ?_|refine yn ?_|refine ⟨_,fun _=>(IntKind.wrap_u64 _).symm,?_⟩); conv=>whnf)|(refine yt ?_; conv=>whnf)|exact ⟨_,.keep rfl rfl⟩|fail
 refine lp [14] (fun b : Nat=>[.i .i64 b]) (fun b=>[(10,.tree 1 f.blocks.length fun t=>[eL (cnt f t b)]),(1,bx f)]) (fun b=>b <= f.blocks.length) (fun b=>f.blocks.length - b) 0 (by omega) ?_ fun b hb=>?_
 ·refine eP [] [] ?_ ?_ <;> repeat' first|exact eN|refine And.intro ?_ ?_
  exact fun i hi=>And.intro rfl rfl
 conv=>whnf
 have hlen := Succs_len f b
 repeat' first|(refine iF (fun hb=>?_) (fun hb=>?_) <;> (try simp only [yv] at hb) <;> (have hc := hb; try simp only [sB,Int.reduceToNat] at hc; try simp only [addZ0] at hc) <;> first|(exfalso; omega)|conv=>whnf)|((first|refine ya ?_|refine yb ?_|refine yc ?_|refine yd ?_|refine yf ?_|refine yh ?_|refine yj ?_|refine dD ?_|refine dF ?_|refine d0 ?_|refine d1 ?_|refine dL ?_|refine dP ?_|refine yl ?_|refine ym ?_|refine yn ?_|refine ⟨_,fun _=>(IntKind.wrap_u64 _).symm,?_⟩); conv=>whnf)|((first|refine cK (fun _=>gSuccs_F f _ hs) ?_|((try (refine CallW.lent ?_; (conv=>whnf); repeat (refine yb ?_; (conv=>whnf)))); refine cL (fun _=>gSuccs_F f _ hs) ?_)); conv=>whnf)|(refine yt ?_; conv=>whnf)|exact ⟨_,.keep rfl rfl⟩|fail
 ·refine lp [21] (fun i : Nat=>[.i .i64 i]) (fun i=>[(10,.tree 1 f.blocks.length fun t=>[eL (prow f b i t)]),(1,bx f)]) (fun i=>i <= (Succs f b).length) (fun i=>(Succs f b).length - i) 0 (by omega) ?_ fun i hi=>?_
  ·refine eP [] [] ?_ ?_ <;> repeat' first|exact eN|refine And.intro ?_ ?_
   exact fun i hi=>teqs_of (congrArg (fun l=>[eL l]) (prow_zero f b i).symm)
  conv=>whnf
  repeat' first|(refine iF (fun hb=>?_) (fun hb=>?_) <;> (try simp only [yv] at hb) <;> (have hc := hb; try simp only [sB,Int.reduceToNat] at hc; try simp only [addZ0] at hc) <;> first|(exfalso; omega)|conv=>whnf)|((first|refine ya ?_|refine yb ?_|refine yc ?_|refine yd ?_|refine yf ?_|refine yh ?_|refine yj ?_|refine dD ?_|refine dF ?_|refine d0 ?_|refine d1 ?_|refine dL ?_|refine dP ?_|refine yl ?_|refine ym ?_|refine yn ?_|refine ⟨_,fun _=>(IntKind.wrap_u64 _).symm,?_⟩); conv=>whnf)|(refine yt ?_; conv=>whnf)|exact ⟨_,.keep rfl rfl⟩|fail
  ·have hi' : i < (Succs f b).length := by omega
   have hx : (Succs f b).getD (i : Int).toNat Enc.d = (Succs f b)[i] := by simp [List.getD_eq_getElem?_getD,hi']
   have hm := Succs_mem (List.getElem_mem hi')
   have hm2 : addZ 0 ((Succs f b).getD (i : Int).toNat Enc.d).toNat < f.blocks.length := by rw [hx,addZ_eq]; omega
   have hm3 : ((addZ 0 ((Succs f b).getD (i : Int).toNat Enc.d).toNat : Nat) : Int) = (Succs f b)[i] := by rw [hx,addZ_eq]; omega
   have hp1 := prow_len f b i (addZ 0 ((Succs f b).getD (i : Int).toNat Enc.d).toNat : Nat)
   refine And.intro ⟨by rw [hx]; omega,by rw [hx]; omega,hm2⟩ ?_
   conv=>whnf
   repeat' first|(refine iF (fun hb=>?_) (fun hb=>?_) <;> (try simp only [yv] at hb) <;> (have hc := hb; try simp only [sB,Int.reduceToNat] at hc; try simp only [addZ0] at hc) <;> first|(exfalso; omega)|conv=>whnf)|((first|refine ya ?_|refine yb ?_|refine yc ?_|refine yd ?_|refine yf ?_|refine yh ?_|refine yj ?_|refine dD ?_|refine dF ?_|refine d0 ?_|refine d1 ?_|refine dL ?_|refine dP ?_|refine yl ?_|refine ym ?_|refine yn ?_|refine ⟨_,fun _=>(IntKind.wrap_u64 _).symm,?_⟩); conv=>whnf)|(refine yt ?_; conv=>whnf)|exact ⟨_,.keep rfl rfl⟩|fail
   refine And.intro ⟨rfl,fun _ _=>rfl⟩ ?_
   conv=>whnf
   repeat' first|(refine iF (fun hb=>?_) (fun hb=>?_) <;> (try simp only [yv] at hb) <;> (have hc := hb; try simp only [sB,Int.reduceToNat] at hc; try simp only [addZ0] at hc) <;> first|(exfalso; omega)|conv=>whnf)|((first|refine ya ?_|refine yb ?_|refine yc ?_|refine yd ?_|refine yf ?_|refine yh ?_|refine yj ?_|refine dD ?_|refine dF ?_|refine d0 ?_|refine d1 ?_|refine dL ?_|refine dP ?_|refine yl ?_|refine ym ?_|refine yn ?_|refine ⟨_,fun _=>(IntKind.wrap_u64 _).symm,?_⟩); conv=>whnf)|(refine yt ?_; conv=>whnf)|exact ⟨_,.keep rfl rfl⟩|fail
   refine And.intro ⟨⟨rfl,fun _ _=>leafs_cat (fun _=>rfl) (leafs_lit1 rfl) _⟩,hm2⟩ ?_
   conv=>whnf
   repeat' first|(refine iF (fun hb=>?_) (fun hb=>?_) <;> (try simp only [yv] at hb) <;> (have hc := hb; try simp only [sB,Int.reduceToNat] at hc; try simp only [addZ0] at hc) <;> first|(exfalso; omega)|conv=>whnf)|((first|refine ya ?_|refine yb ?_|refine yc ?_|refine yd ?_|refine yf ?_|refine yh ?_|refine yj ?_|refine dD ?_|refine dF ?_|refine d0 ?_|refine d1 ?_|refine dL ?_|refine dP ?_|refine yl ?_|refine ym ?_|refine yn ?_|refine ⟨_,fun _=>(IntKind.wrap_u64 _).symm,?_⟩); conv=>whnf)|(refine yt ?_; conv=>whnf)|exact ⟨_,.keep rfl rfl⟩|fail
   refine .mk (i + 1) (by omega) (by omega) ?_
   refine eP [] [] ?_ ?_ <;> repeat' first|exact eN|refine And.intro ?_ ?_
   intro t ht
   refine tree_snoc (x := (b : Int)) (g' := fun t : Nat=>[eL (prow f b (i + 1) t)]) (l' := prow f b (i + 1) t) (fun e=>?_) rfl (fun _=>⟨_,rfl⟩) (fun _=>rfl) fun e=>?_
   ·rw [prow_succ f b i t hi',if_pos (by rw [<- hm3,e]),e]
   ·exact congrArg (fun l=>[eL l]) ((prow_succ f b i t hi').trans (if_neg fun h=>e (by omega)))
  ·refine .mk (b + 1) (by omega) (by omega) ?_
   refine eP [] [] ?_ ?_ <;> repeat' first|exact eN|refine And.intro ?_ ?_
   exact fun t ht=>teqs_of (congrArg (fun l=>[eL l]) (prow_all f b i t (by omega)))
 ·exact ⟨_,.giveT rfl rfl (by omega) (fun t _=>by rw [show b = f.blocks.length by omega]; exact teqs_refl _) rfl⟩
theorem gPreds_F (f : FnE) (hs : siz f < 4294967296) : ASpec Tryz.prog 91 [eS f] (eL (PredsL f)) [] :=
 (gPreds_S f hs).gives (.freezeT rfl rfl (by simp [PredsL]) (fun i hi=>teqs_of (by
  have hi' : i < f.blocks.length := by simpa [PredsL] using hi
  show [eL (cnt f i f.blocks.length)] = [eL ((PredsL f).getD i [])]
  rw [PredsL,List.getD_eq_getElem?_getD,List.getElem?_map,List.getElem?_range hi']; rfl)) rfl) (Clo.row0 fun id=>rfl) (by simp)
end Go.Proofs.YtjfdbmfcnhjfoaaGreat
