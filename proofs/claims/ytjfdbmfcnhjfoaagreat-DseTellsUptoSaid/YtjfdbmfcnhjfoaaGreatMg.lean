/- The engine and the contracts of the functions that the statement reaches, part 7. -/
import Derived.Test.YtjfdbmfcnhjfoaaGreatMf
import Derived.Shelf.RegionOpenPlain
import Derived.Deep.LoopGhost
import Derived.Deep.RegionLaw
import Derived.Deep.MidRow
import Derived.Lib.Walk
import Derived.Lib.SliceRun
import Derived.Lib.SlicesDelete
import Derived.WalkKit
import Derived.Below
import Derived.Laws.Bits64b
import Derived.Laws.BitsAllLaws
import Derived.Laws.Externs
set_option linter.unusedVariables false
set_option linter.unusedSimpArgs false
set_option maxRecDepth 100000
set_option maxHeartbeats 8000000
namespace Go.Proofs.YtjfdbmfcnhjfoaaGreat
open Go.RowKit
def idxP (l : List Plc) (x : Plc) (i : Nat) : Int := if x = l.getD i Enc.d then 1 else 0
def IndexP (l : List Plc) (x : Plc) : Int := match firstC (idxP l x) l.length with
 | some i=>i
 | none=>-1
theorem Plc_ext {x y : Plc} : x = y ↔ (x.f = y.f /\ x.b = y.b /\ x.i = y.i) := by
 cases x; cases y; simp
theorem IndexP_S (l : List Plc) (x : Plc) (hl : l.length < 4294967296) : ASpec Tryz.prog 94 [eL l,eS x] (.i .i64 (IndexP l x)) [] := by
 refine ASpec.enter TYok mixed Tryz.func94 rfl Tryz.call94 Tryz.ntmps94 rfl (rs := [.tmp 4]) rfl (nodupB_ok rfl) (Clo.one rfl) (keep := [0,1,3,4,5,7,8]) ?_; conv=>whnf
 repeat' first|(refine iF (fun hb=>?_) (fun hb=>?_) <;> (try simp only [yv] at hb) <;> (have hc := hb; try simp only [sB,Int.reduceToNat] at hc; try simp only [addZ0] at hc) <;> first|(exfalso; omega)|conv=>whnf)|((first|refine ya ?_|refine yb ?_|refine yc ?_|refine yd ?_|refine yf ?_|refine yh ?_|refine yj ?_|refine dD ?_|refine dF ?_|refine d0 ?_|refine d1 ?_|refine dL ?_|refine dP ?_|refine yl ?_|refine ym ?_|refine yn ?_|refine ⟨_,fun _=>(IntKind.wrap_u64 _).symm,?_⟩); conv=>whnf)|(refine yt ?_; conv=>whnf)|exact ⟨_,.keep rfl rfl⟩|fail
 refine lp [8] (fun q : Nat=>[.i .i64 q]) (fun q=>[(3,bx x)]) (fun q=>q <= l.length /\ ∀ i,i < q -> idxP l x i = 0) (fun q=>l.length - q) 0 ⟨by omega,fun i h=>by omega⟩ ?_ fun q hq=>?_
 ·refine eP [] [] ?_ ?_ <;> repeat' first|exact eN|refine And.intro ?_ ?_
 conv=>whnf
 obtain ⟨hq,hv⟩ := hq
 repeat' first|(refine iF (fun hb=>?_) (fun hb=>?_) <;> (try simp only [yv] at hb) <;> (have hc := hb; try simp only [sB,Int.reduceToNat] at hc; try simp only [addZ0] at hc) <;> first|(exfalso; omega)|conv=>whnf)|((first|refine ya ?_|refine yb ?_|refine yc ?_|refine yd ?_|refine yf ?_|refine yh ?_|refine yj ?_|refine dD ?_|refine dF ?_|refine d0 ?_|refine d1 ?_|refine dL ?_|refine dP ?_|refine yl ?_|refine ym ?_|refine yn ?_|refine ⟨_,fun _=>(IntKind.wrap_u64 _).symm,?_⟩); conv=>whnf)|(refine yt ?_; conv=>whnf)|exact ⟨_,.keep rfl rfl⟩|fail
 ·exact ⟨_,.keep (by rw [IndexP,firstC_at (by omega) hv (by unfold idxP; rw [if_pos (Plc_ext.2 hc)]; decide)]) rfl⟩
 ·refine .mk (q + 1) ⟨by omega,all_step hv (by unfold idxP; rw [if_neg fun h=>(by have := Plc_ext.1 h; omega)])⟩ (by omega) ?_
  refine eP [] [] ?_ ?_ <;> repeat' first|exact eN|refine And.intro ?_ ?_
 ·exact ⟨_,.keep (by rw [IndexP,firstC_no fun i hi=>hv i (by omega)]) rfl⟩
theorem IndexP_has (l : List Plc) (x : Plc) : decide (0 <= IndexP l x) = decide (x ∈ l) := by
 unfold IndexP
 cases hq : firstC (idxP l x) l.length with
 | some i =>
  have h1 := List.mem_of_find?_eq_some hq
  have h2 := List.find?_some hq
  simp only [List.mem_range] at h1
  have h3 : x = l.getD i Enc.d := by
   unfold idxP at h2; split at h2
   ·assumption
   ·simp at h2
  have h4 : x ∈ l := by
   rw [h3,List.getD_eq_getElem?_getD,List.getElem?_eq_getElem h1]; exact List.getElem_mem h1
  simp [h4]
 | none =>
  have h1 : x ∉ l := by
   intro hm
   obtain ⟨i,hi,rfl⟩ := List.getElem_of_mem hm
   have := List.find?_eq_none.1 hq i (List.mem_range.2 hi)
   unfold idxP at this
   rw [List.getD_eq_getElem?_getD,List.getElem?_eq_getElem hi] at this
   simp at this
  simp [h1]
theorem ContP_S (l : List Plc) (x : Plc) (hl : l.length < 4294967296) : ASpec Tryz.prog 56 [eL l,eS x] (.b (decide (x ∈ l))) [] := by
 rw [<- IndexP_has]
 refine ASpec.enter TYok mixed Tryz.func56 rfl Tryz.call56 Tryz.ntmps56 rfl (rs := [.tmp 4]) rfl (nodupB_ok rfl) (Clo.one rfl) (keep := [0,1,3,4]) ?_; conv=>whnf
 repeat' first|(refine iF (fun hb=>?_) (fun hb=>?_) <;> (try simp only [yv] at hb) <;> (have hc := hb; try simp only [sB,Int.reduceToNat] at hc; try simp only [addZ0] at hc) <;> first|(exfalso; omega)|conv=>whnf)|((first|refine ya ?_|refine yb ?_|refine yc ?_|refine yd ?_|refine yf ?_|refine yh ?_|refine yj ?_|refine dD ?_|refine dF ?_|refine d0 ?_|refine d1 ?_|refine dL ?_|refine dP ?_|refine yl ?_|refine ym ?_|refine yn ?_|refine ⟨_,fun _=>(IntKind.wrap_u64 _).symm,?_⟩); conv=>whnf)|((first|refine cK (fun _=>IndexP_S _ _ hl) ?_|((try (refine CallW.lent ?_; (conv=>whnf); repeat (refine yb ?_; (conv=>whnf)))); refine cL (fun _=>IndexP_S _ _ hl) ?_)); conv=>whnf)|(refine yt ?_; conv=>whnf)|exact ⟨_,.keep rfl rfl⟩|fail
def useAt (f : FnE) (b i b' i' : Nat) : Prop := isLoad f ⟨0,(b' : Int),(i' : Int)⟩ /\ (⟨0,(b : Int),(i : Int)⟩ : Plc) ∈ srcL f (insE f b' i') b' i'
def usdP (f : FnE) (b i : Nat) : Prop := ∃ b' i',b' < f.blocks.length /\ i' < lenE f b' /\ useAt f b i b' i'
noncomputable def usdB (f : FnE) (b i : Nat) : Bool := @decide (usdP f b i) (Classical.propDecidable _)
theorem srcL_len {f : FnE} (hs : OkF f) (y : InsE) (b i : Nat) : (srcL f y b i).length < 4294967296 := by
 unfold srcL
 rw [List.length_map]
 exact Nat.lt_of_le_of_lt (Nat.le_trans (List.length_filter_le _ _) (Code_siz f)) hs.sz
theorem usd_t {f : FnE} {b i : Nat} (h : usdP f b i) : usdB f b i = true := @decide_eq_true _ (Classical.propDecidable _) h
theorem usd_f {f : FnE} {b i : Nat} (h : ¬usdP f b i) : usdB f b i = false := @decide_eq_false _ (Classical.propDecidable _) h
theorem all_lt {P : Nat -> Prop} {k : Nat} (h : ∀ i,i < k -> ¬P i) (hk : ¬P k) : ∀ i,i < k + 1 -> ¬P i := fun i hi=>by
 rcases Nat.lt_or_ge i k with h1|h1
 ·exact h i h1
 ·rw [show i = k by omega]; exact hk
theorem all_lt2 {P : Nat -> Nat -> Prop} {n : Nat -> Nat} {k : Nat} (h : ∀ b,b < k -> ∀ i,i < n b -> ¬P b i) (hk : ∀ i,i < n k -> ¬P k i) : ∀ b,b < k + 1 -> ∀ i,i < n b -> ¬P b i := fun b hb=>by
 rcases Nat.lt_or_ge b k with h1|h1
 ·exact h b h1
 ·rw [show b = k by omega]; exact hk
theorem alone_no {f : FnE} {v : Opd} (h : ¬v.k = 1) : aloneE f v = false := by
 unfold aloneE allocaE Maker
 rw [if_neg (fun h'=>h h'.1)]; rfl
theorem alone_reg {f : FnE} {v : Opd} (h1 : v.k = 1) : aloneE f v = (((Def f v.n).2 && decide (((f.blocks.getD (Def f v.n).1.b.toNat Enc.d).code.getD (Def f v.n).1.i.toNat Enc.d).op = 26)) && !EscE f v.n) := by
 unfold aloneE allocaE Maker
 cases hd : (Def f v.n).2 with
 | true=>rw [if_pos ⟨h1,rfl⟩,Bool.true_and]
 | false=>rw [if_neg (fun h=>by cases h.2)]; rfl
theorem unread_S (f : FnE) (pf : Int) (pb pi : Nat) (hs : OkF f) (ha : OkA f) (h1 : pb < f.blocks.length) (h2 : pi < lenE f pb) (h3 : (insE f pb pi).op = 28) :
  ASpec Tryz.prog 31 [eS f,eS (⟨pf,(pb : Int),(pi : Int)⟩ : Plc)] (.b (aloneE f (RootE f ((insE f pb pi).args.getD 1 Enc.d)).v && !usdB f pb pi)) [] := by
 have hz := hs.sz
 have hbl := blocks_le f
 have hcl := code_le f pb
 have h2' : pi < (f.blocks.getD pb Enc.d).code.length := h2
 have hst : 2 <= ((f.blocks.getD pb Enc.d).code.getD pi Enc.d).args.length := ha.st pb pi h2 h3
 have hal : ((f.blocks.getD pb Enc.d).code.getD pi Enc.d).args.length < 4294967296 := Nat.lt_of_le_of_lt (Nat.le_trans (args_le _) (ins_le f pb pi)) hz
 have hrn : inI ((insE f pb pi).args.getD 1 Enc.d).n := hs.arg pb pi 1
 have hro := Root_in hs hrn
 obtain ⟨r,hr⟩ : ∃ r,r = (RootE f ((insE f pb pi).args.getD 1 Enc.d)).v := ⟨_,rfl⟩
 have hDef : (Def f r.n).2 = true -> (∃ b i : Nat,(Def f r.n).1 = ⟨0,b,i⟩ /\ b < f.blocks.length /\ i < (f.blocks.getD b Enc.d).code.length) := fun h=>by
  obtain ⟨b,i,h1,h2,h3⟩ := Def_mem h; exact ⟨b,i,h3,h1,h2⟩
 have hRt := pRoot_S f ((insE f pb pi).args.getD 1 Enc.d) hs hrn
 rw [<- hr] at hRt hro ⊢
 have hEs := pEscapes_S f r.n hs hro
 have hD := irDef_S f r.n hz
 refine ASpec.enter TYok mixed Tryz.func31 rfl Tryz.call31 Tryz.ntmps31 rfl (rs := [.tmp 4]) rfl (nodupB_ok rfl) (Clo.one rfl) (keep := [0,1,2,3,4,5,8,9,10,11,12,13,14,70,71,72,78,79,80]) ?_; conv=>whnf
 repeat' first|(refine iF (fun hb=>?_) (fun hb=>?_) <;> (try simp only [yv] at hb) <;> (have hc := hb; try simp only [sB,Int.reduceToNat] at hc; try simp only [addZ0] at hc) <;> first|(exfalso; omega)|conv=>whnf)|((first|refine ya ?_|refine yb ?_|refine yc ?_|refine yd ?_|refine yf ?_|refine yh ?_|refine yj ?_|refine dD ?_|refine dF ?_|refine d0 ?_|refine d1 ?_|refine dL ?_|refine dP ?_|refine yl ?_|refine ym ?_|refine yn ?_|refine ⟨_,fun _=>(IntKind.wrap_u64 _).symm,?_⟩); conv=>whnf)|((first|refine cK (fun _=>hRt) ?_|((try (refine CallW.lent ?_; (conv=>whnf); repeat (refine yb ?_; (conv=>whnf)))); refine cL (fun _=>hRt) ?_)); conv=>whnf)|(refine yt ?_; conv=>whnf)|exact ⟨_,.keep rfl rfl⟩|fail
 ·exact ⟨_,.keep (by rw [alone_no hc]; rfl) rfl⟩
 have hk := hc
 have hal := alone_reg (f := f) hk
 cases hd : (Def f r.n).2 with
 | false =>
  rw [hd] at hD hal
  rw [show aloneE f r = false from hal.trans (by simp)]
  repeat' first|(refine iF (fun hb=>?_) (fun hb=>?_) <;> (try simp only [yv] at hb) <;> (have hc := hb; try simp only [sB,Int.reduceToNat] at hc; try simp only [addZ0] at hc) <;> first|(exfalso; omega)|conv=>whnf)|((first|refine ya ?_|refine yb ?_|refine yc ?_|refine yd ?_|refine yf ?_|refine yh ?_|refine yj ?_|refine dD ?_|refine dF ?_|refine d0 ?_|refine d1 ?_|refine dL ?_|refine dP ?_|refine yl ?_|refine ym ?_|refine yn ?_|refine ⟨_,fun _=>(IntKind.wrap_u64 _).symm,?_⟩); conv=>whnf)|((first|refine cK (fun _=>hD) ?_|((try (refine CallW.lent ?_; (conv=>whnf); repeat (refine yb ?_; (conv=>whnf)))); refine cL (fun _=>hD) ?_)); conv=>whnf)|((first|refine cK (fun _=>hEs) ?_|((try (refine CallW.lent ?_; (conv=>whnf); repeat (refine yb ?_; (conv=>whnf)))); refine cL (fun _=>hEs) ?_)); conv=>whnf)|(refine yt ?_; conv=>whnf)|exact ⟨_,.keep rfl rfl⟩|fail
  refine And.intro (fun h=>absurd h (by decide)) ?_
  conv=>whnf
  repeat' first|(refine iF (fun hb=>?_) (fun hb=>?_) <;> (try simp only [yv] at hb) <;> (have hc := hb; try simp only [sB,Int.reduceToNat] at hc; try simp only [addZ0] at hc) <;> first|(exfalso; omega)|conv=>whnf)|((first|refine ya ?_|refine yb ?_|refine yc ?_|refine yd ?_|refine yf ?_|refine yh ?_|refine yj ?_|refine dD ?_|refine dF ?_|refine d0 ?_|refine d1 ?_|refine dL ?_|refine dP ?_|refine yl ?_|refine ym ?_|refine yn ?_|refine ⟨_,fun _=>(IntKind.wrap_u64 _).symm,?_⟩); conv=>whnf)|((first|refine cK (fun _=>hD) ?_|((try (refine CallW.lent ?_; (conv=>whnf); repeat (refine yb ?_; (conv=>whnf)))); refine cL (fun _=>hD) ?_)); conv=>whnf)|((first|refine cK (fun _=>hEs) ?_|((try (refine CallW.lent ?_; (conv=>whnf); repeat (refine yb ?_; (conv=>whnf)))); refine cL (fun _=>hEs) ?_)); conv=>whnf)|(refine yt ?_; conv=>whnf)|exact ⟨_,.keep rfl rfl⟩|fail
  refine And.intro (fun h=>absurd h (by decide)) ?_
  conv=>whnf
  repeat' first|(refine iF (fun hb=>?_) (fun hb=>?_) <;> (try simp only [yv] at hb) <;> (have hc := hb; try simp only [sB,Int.reduceToNat] at hc; try simp only [addZ0] at hc) <;> first|(exfalso; omega)|conv=>whnf)|((first|refine ya ?_|refine yb ?_|refine yc ?_|refine yd ?_|refine yf ?_|refine yh ?_|refine yj ?_|refine dD ?_|refine dF ?_|refine d0 ?_|refine d1 ?_|refine dL ?_|refine dP ?_|refine yl ?_|refine ym ?_|refine yn ?_|refine ⟨_,fun _=>(IntKind.wrap_u64 _).symm,?_⟩); conv=>whnf)|((first|refine cK (fun _=>hD) ?_|((try (refine CallW.lent ?_; (conv=>whnf); repeat (refine yb ?_; (conv=>whnf)))); refine cL (fun _=>hD) ?_)); conv=>whnf)|((first|refine cK (fun _=>hEs) ?_|((try (refine CallW.lent ?_; (conv=>whnf); repeat (refine yb ?_; (conv=>whnf)))); refine cL (fun _=>hEs) ?_)); conv=>whnf)|(refine yt ?_; conv=>whnf)|exact ⟨_,.keep rfl rfl⟩|fail
  exact absurd hc.1.1 (by decide)
 | true =>
  obtain ⟨db,di,e1,e2,e3⟩ := hDef hd
  rw [hd,e1] at hD hal
  simp only [Bool.true_and,Int.toNat_natCast] at hal
  repeat' first|(refine iF (fun hb=>?_) (fun hb=>?_) <;> (try simp only [yv] at hb) <;> (have hc := hb; try simp only [sB,Int.reduceToNat] at hc; try simp only [addZ0] at hc) <;> first|(exfalso; omega)|conv=>whnf)|((first|refine ya ?_|refine yb ?_|refine yc ?_|refine yd ?_|refine yf ?_|refine yh ?_|refine yj ?_|refine dD ?_|refine dF ?_|refine d0 ?_|refine d1 ?_|refine dL ?_|refine dP ?_|refine yl ?_|refine ym ?_|refine yn ?_|refine ⟨_,fun _=>(IntKind.wrap_u64 _).symm,?_⟩); conv=>whnf)|((first|refine cK (fun _=>hD) ?_|((try (refine CallW.lent ?_; (conv=>whnf); repeat (refine yb ?_; (conv=>whnf)))); refine cL (fun _=>hD) ?_)); conv=>whnf)|((first|refine cK (fun _=>hEs) ?_|((try (refine CallW.lent ?_; (conv=>whnf); repeat (refine yb ?_; (conv=>whnf)))); refine cL (fun _=>hEs) ?_)); conv=>whnf)|(refine yt ?_; conv=>whnf)|exact ⟨_,.keep rfl rfl⟩|fail
  ·refine ⟨_,.keep (congrArg AV.b ?_) rfl⟩
   rw [hal]
   rcases hc with (hc|hc)|hc
   ·cases hc
   ·rw [decide_eq_false hc]; rfl
   ·rw [hc]; simp
  obtain ⟨⟨_,hop⟩,hesc⟩ := hc
  rw [hal,decide_eq_true hop,hesc]
  refine lp [72] (fun q : Nat=>[.i .i64 q]) (fun q=>[(8,bx (⟨0,(db : Int),(di : Int)⟩ : Plc)),(5,bx r),(3,bx (⟨pf,(pb : Int),(pi : Int)⟩ : Plc)),(2,bx f)]) (fun q=>q <= f.blocks.length /\ ∀ b',b' < q -> ∀ i',i' < lenE f b' -> ¬useAt f pb pi b' i') (fun q=>f.blocks.length - q) 0 ⟨Nat.zero_le _,fun b' h=>by omega⟩ ?_ fun q hq=>?_
  ·refine eP [] [] ?_ ?_ <;> repeat' first|exact eN|refine And.intro ?_ ?_
  conv=>whnf
  obtain ⟨hq,hv⟩ := hq
  have hcq := code_le f q
  repeat' first|(refine iF (fun hb=>?_) (fun hb=>?_) <;> (try simp only [yv] at hb) <;> (have hc := hb; try simp only [sB,Int.reduceToNat] at hc; try simp only [addZ0] at hc) <;> first|(exfalso; omega)|conv=>whnf)|((first|refine ya ?_|refine yb ?_|refine yc ?_|refine yd ?_|refine yf ?_|refine yh ?_|refine yj ?_|refine dD ?_|refine dF ?_|refine d0 ?_|refine d1 ?_|refine dL ?_|refine dP ?_|refine yl ?_|refine ym ?_|refine yn ?_|refine ⟨_,fun _=>(IntKind.wrap_u64 _).symm,?_⟩); conv=>whnf)|(refine yt ?_; conv=>whnf)|exact ⟨_,.keep rfl rfl⟩|fail
  ·refine lp [80] (fun k : Nat=>[.i .i64 k]) (fun k=>[(11,bx (f.blocks.getD q Enc.d)),(8,bx (⟨0,(db : Int),(di : Int)⟩ : Plc)),(5,bx r),(3,bx (⟨pf,(pb : Int),(pi : Int)⟩ : Plc)),(2,bx f)]) (fun k=>k <= lenE f q /\ ∀ i',i' < k -> ¬useAt f pb pi q i') (fun k=>lenE f q - k) 0 ⟨Nat.zero_le _,fun b' h=>by omega⟩ ?_ fun k hk=>?_
   ·refine eP [] [] ?_ ?_ <;> repeat' first|exact eN|refine And.intro ?_ ?_
   conv=>whnf
   obtain ⟨hk,hw⟩ := hk
   have hk' : k <= (f.blocks.getD q Enc.d).code.length := hk
   have hle : lenE f q = (f.blocks.getD q Enc.d).code.length := rfl
   repeat' first|(refine iF (fun hb=>?_) (fun hb=>?_) <;> (try simp only [yv] at hb) <;> (have hc := hb; try simp only [sB,Int.reduceToNat] at hc; try simp only [addZ0] at hc) <;> first|(exfalso; omega)|conv=>whnf)|((first|refine ya ?_|refine yb ?_|refine yc ?_|refine yd ?_|refine yf ?_|refine yh ?_|refine yj ?_|refine dD ?_|refine dF ?_|refine d0 ?_|refine d1 ?_|refine dL ?_|refine dP ?_|refine yl ?_|refine ym ?_|refine yn ?_|refine ⟨_,fun _=>(IntKind.wrap_u64 _).symm,?_⟩); conv=>whnf)|(refine yt ?_; conv=>whnf)|exact ⟨_,.keep rfl rfl⟩|fail
   ·refine .mk (k + 1) ⟨by omega,all_lt hw fun h=>hc h.1.2.2.1⟩ (by omega) ?_
    refine eP [] [] ?_ ?_ <;> repeat' first|exact eN|refine And.intro ?_ ?_
   ·by_cases hld : isLoad f ⟨0,(q : Int),(k : Int)⟩
    ·have hS := Sources_T f 0 q k hs ha hld
     have hC := ContP_S (srcL f (insE f q k) q k) ⟨0,(pb : Int),(pi : Int)⟩ (srcL_len hs _ _ _)
     repeat' first|(refine iF (fun hb=>?_) (fun hb=>?_) <;> (try simp only [yv] at hb) <;> (have hc := hb; try simp only [sB,Int.reduceToNat] at hc; try simp only [addZ0] at hc) <;> first|(exfalso; omega)|conv=>whnf)|((first|refine ya ?_|refine yb ?_|refine yc ?_|refine yd ?_|refine yf ?_|refine yh ?_|refine yj ?_|refine dD ?_|refine dF ?_|refine d0 ?_|refine d1 ?_|refine dL ?_|refine dP ?_|refine yl ?_|refine ym ?_|refine yn ?_|refine ⟨_,fun _=>(IntKind.wrap_u64 _).symm,?_⟩); conv=>whnf)|((first|refine cK (fun _=>hS) ?_|((try (refine CallW.lent ?_; (conv=>whnf); repeat (refine yb ?_; (conv=>whnf)))); refine cL (fun _=>hS) ?_)); conv=>whnf)|((first|refine cK (fun _=>hC) ?_|((try (refine CallW.lent ?_; (conv=>whnf); repeat (refine yb ?_; (conv=>whnf)))); refine cL (fun _=>hC) ?_)); conv=>whnf)|(refine yt ?_; conv=>whnf)|exact ⟨_,.keep rfl rfl⟩|fail
     ·exact ⟨_,.keep (by rw [usd_t ⟨q,k,by omega,by omega,hld,hc⟩]; rfl) rfl⟩
     ·refine .mk (k + 1) ⟨by omega,all_lt hw fun h=>hc h.2⟩ (by omega) ?_
      refine eP [] [] ?_ ?_ <;> repeat' first|exact eN|refine And.intro ?_ ?_
    ·have hS := Sources_N f _ hs hld
     have hC : ASpec Tryz.prog 56 [.nil,eS (⟨0,(pb : Int),(pi : Int)⟩ : Plc)] (.b (decide ((⟨0,(pb : Int),(pi : Int)⟩ : Plc) ∈ ([] : List Plc)))) [] := (ContP_S [] ⟨0,(pb : Int),(pi : Int)⟩ (by decide)).weak (by repeat' first|exact trivial|exact rfl|refine And.intro ?_ ?_)
     repeat' first|(refine iF (fun hb=>?_) (fun hb=>?_) <;> (try simp only [yv] at hb) <;> (have hc := hb; try simp only [sB,Int.reduceToNat] at hc; try simp only [addZ0] at hc) <;> first|(exfalso; omega)|conv=>whnf)|((first|refine ya ?_|refine yb ?_|refine yc ?_|refine yd ?_|refine yf ?_|refine yh ?_|refine yj ?_|refine dD ?_|refine dF ?_|refine d0 ?_|refine d1 ?_|refine dL ?_|refine dP ?_|refine yl ?_|refine ym ?_|refine yn ?_|refine ⟨_,fun _=>(IntKind.wrap_u64 _).symm,?_⟩); conv=>whnf)|((first|refine cK (fun _=>hS) ?_|((try (refine CallW.lent ?_; (conv=>whnf); repeat (refine yb ?_; (conv=>whnf)))); refine cL (fun _=>hS) ?_)); conv=>whnf)|((first|refine cK (fun _=>hC) ?_|((try (refine CallW.lent ?_; (conv=>whnf); repeat (refine yb ?_; (conv=>whnf)))); refine cL (fun _=>hC) ?_)); conv=>whnf)|(refine yt ?_; conv=>whnf)|exact ⟨_,.keep rfl rfl⟩|fail
     ·cases hc
     ·refine .mk (k + 1) ⟨by omega,all_lt hw fun h=>hld h.1⟩ (by omega) ?_
      refine eP [] [] ?_ ?_ <;> repeat' first|exact eN|refine And.intro ?_ ?_
   ·refine .mk (q + 1) ⟨by omega,all_lt2 hv fun i' hi'=>hw i' (by omega)⟩ (by omega) ?_
    refine eP [] [] ?_ ?_ <;> repeat' first|exact eN|refine And.intro ?_ ?_
  ·refine ⟨_,.keep (congrArg AV.b ?_) rfl⟩
   rw [usd_f fun h=>(by obtain ⟨b',i',h1,h2,h3⟩ := h; exact hv b' (by omega) i' h2 h3)]; rfl
noncomputable def goesB (f : FnE) (b i : Nat) : Bool := overB (f.blocks.getD b Enc.d).code i || (aloneE f (RootE f ((insE f b i).args.getD 1 Enc.d)).v && !usdB f b i)
def deadP (f : FnE) (p : Plc) : Prop := (0 <= p.b /\ p.b < f.blocks.length) /\ (0 <= p.i /\ p.i < lenE f p.b.toNat) /\ RG f (-1) p.b.toNat /\ (insE f p.b.toNat p.i.toNat).op = 28 /\ goesB f p.b.toNat p.i.toNat = true
noncomputable def deadB (f : FnE) (p : Plc) : Bool := @decide (deadP f p) (Classical.propDecidable _)
theorem dead_t {f : FnE} {p : Plc} (h : deadP f p) : deadB f p = true := @decide_eq_true _ (Classical.propDecidable _) h
theorem dead_f {f : FnE} {p : Plc} (h : ¬deadP f p) : deadB f p = false := @decide_eq_false _ (Classical.propDecidable _) h
theorem Dead_S (f : FnE) (p : Plc) (hs : OkF f) (ha : OkA f) : ASpec Tryz.prog 11 [eS f,eS p] (.b (deadB f p)) [] := by
 have h1 := blocks_le f
 have hz := hs.sz
 have h3 := code_le f p.b.toNat
 obtain ⟨R,hR⟩ := isRG_ex f (-1)
 have hRl := hR.1
 have hpre : (0 <= p.b /\ p.b < f.blocks.length) -> (0 <= p.i /\ p.i < ((f.blocks.getD p.b.toNat Enc.d).code.length : Int)) -> ((f.blocks.getD p.b.toNat Enc.d).code.getD p.i.toNat Enc.d).op = 28 ->
   ASpec Tryz.prog 30 [eL (f.blocks.getD p.b.toNat Enc.d).code,.i .i64 p.i] (.b (overB (f.blocks.getD p.b.toNat Enc.d).code p.i.toNat)) [] /\
   ASpec Tryz.prog 31 [eS f,eS p] (.b (aloneE f (RootE f ((insE f p.b.toNat p.i.toNat).args.getD 1 Enc.d)).v && !usdB f p.b.toNat p.i.toNat)) [] := fun hb hi ho=>by
  obtain ⟨pf,pb,pi⟩ := p
  obtain ⟨b,rfl⟩ : ∃ b : Nat,pb = b := ⟨pb.toNat,by simp only at hb; omega⟩
  obtain ⟨i,rfl⟩ : ∃ i : Nat,pi = i := ⟨pi.toNat,by simp only at hi; omega⟩
  simp only [Int.toNat_natCast] at *
  refine ⟨over_S _ i (by omega) (by omega) (fun k hk=>?_) (fun k=>?_) ho,unread_S f pf b i hs ha (by omega) (show i < (f.blocks.getD b Enc.d).code.length by omega) ho⟩
  ·rcases Nat.lt_or_ge k (f.blocks.getD b Enc.d).code.length with hkl|hkl
   ·exact ha.st b k hkl hk
   ·rw [List.getD_eq_getElem?_getD,List.getElem?_eq_none hkl] at hk; exact absurd hk (by decide)
  ·exact Nat.lt_of_le_of_lt (Nat.le_trans (args_le _) (ins_le f b k)) hz
 refine ASpec.enter TYok mixed Tryz.func11 rfl Tryz.call11 Tryz.ntmps11 rfl (rs := [.tmp 4]) rfl (nodupB_ok rfl) (Clo.one rfl) (keep := [0,1,2,3,4,5]) ?_; conv=>whnf
 repeat' first|(refine iF (fun hb=>?_) (fun hb=>?_) <;> (try simp only [yv] at hb) <;> (have hc := hb; try simp only [sB,Int.reduceToNat] at hc; try simp only [addZ0] at hc) <;> first|(exfalso; omega)|conv=>whnf)|((first|refine ya ?_|refine yb ?_|refine yc ?_|refine yd ?_|refine yf ?_|refine yh ?_|refine yj ?_|refine dD ?_|refine dF ?_|refine d0 ?_|refine d1 ?_|refine dL ?_|refine dP ?_|refine yl ?_|refine ym ?_|refine yn ?_|refine ⟨_,fun _=>(IntKind.wrap_u64 _).symm,?_⟩); conv=>whnf)|((first|refine cK (fun _=>gReach_F f R hR hz) ?_|((try (refine CallW.lent ?_; (conv=>whnf); repeat (refine yb ?_; (conv=>whnf)))); refine cL (fun _=>gReach_F f R hR hz) ?_)); conv=>whnf)|(refine yt ?_; conv=>whnf)|exact ⟨_,.keep rfl rfl⟩|fail
 ·refine ⟨_,.keep (congrArg AV.b (dead_f fun h=>?_).symm) rfl⟩
  obtain ⟨q1,q2,q3,_⟩ := h
  have q2' : 0 <= p.i /\ p.i < ((f.blocks.getD p.b.toNat Enc.d).code.length : Int) := q2
  have := (hR.2 p.b.toNat (by omega)).2 q3
  rw [show R.getD p.b.toNat Enc.d = true from this] at hc
  rcases hc with hc|hc
  ·omega
  ·cases hc
 have hb1 : 0 <= p.b /\ p.b < f.blocks.length := by omega
 have hi1 : 0 <= p.i /\ p.i < ((f.blocks.getD p.b.toNat Enc.d).code.length : Int) := by omega
 have hrg := (hR.2 p.b.toNat (by omega)).1 hc.2
 repeat' first|(refine iF (fun hb=>?_) (fun hb=>?_) <;> (try simp only [yv] at hb) <;> (have hc := hb; try simp only [sB,Int.reduceToNat] at hc; try simp only [addZ0] at hc) <;> first|(exfalso; omega)|conv=>whnf)|((first|refine ya ?_|refine yb ?_|refine yc ?_|refine yd ?_|refine yf ?_|refine yh ?_|refine yj ?_|refine dD ?_|refine dF ?_|refine d0 ?_|refine d1 ?_|refine dL ?_|refine dP ?_|refine yl ?_|refine ym ?_|refine yn ?_|refine ⟨_,fun _=>(IntKind.wrap_u64 _).symm,?_⟩); conv=>whnf)|((first|refine cK (fun _=>(hpre hb1 hi1 (by rename_i ht; simp only [tg_ite,tg_nil,cn,Nat.reduceMul,Nat.reduceAdd,Nat.reduceEqDiff,↓reduceIte,Bool.and_eq_true,decide_eq_true_eq] at ht; first|exact ht|exact ht.1|exact ht.2)).1) ?_|((try (refine CallW.lent ?_; (conv=>whnf); repeat (refine yb ?_; (conv=>whnf)))); refine cL (fun _=>(hpre hb1 hi1 (by rename_i ht; simp only [tg_ite,tg_nil,cn,Nat.reduceMul,Nat.reduceAdd,Nat.reduceEqDiff,↓reduceIte,Bool.and_eq_true,decide_eq_true_eq] at ht; first|exact ht|exact ht.1|exact ht.2)).1) ?_)); conv=>whnf)|((first|refine cK (fun _=>(hpre hb1 hi1 (by rename_i ht; simp only [tg_ite,tg_nil,cn,Nat.reduceMul,Nat.reduceAdd,Nat.reduceEqDiff,↓reduceIte,Bool.and_eq_true,decide_eq_true_eq] at ht; first|exact ht|exact ht.1|exact ht.2)).2) ?_|((try (refine CallW.lent ?_; (conv=>whnf); repeat (refine yb ?_; (conv=>whnf)))); refine cL (fun _=>(hpre hb1 hi1 (by rename_i ht; simp only [tg_ite,tg_nil,cn,Nat.reduceMul,Nat.reduceAdd,Nat.reduceEqDiff,↓reduceIte,Bool.and_eq_true,decide_eq_true_eq] at ht; first|exact ht|exact ht.1|exact ht.2)).2) ?_)); conv=>whnf)|(refine yt ?_; conv=>whnf)|exact ⟨_,.keep rfl rfl⟩|fail
 refine ⟨_,.keep (congrArg AV.b ?_) rfl⟩
 simp only [pickB_and,pickB_or]
 rw [Bool.eq_iff_iff]
 unfold deadB
 rw [@decide_eq_true_iff _ (Classical.propDecidable _),Bool.and_eq_true,decide_eq_true_eq]
 exact ⟨fun h=>⟨hb1,hi1,hrg,h.1,h.2⟩,fun h=>⟨h.2.2.2.1,h.2.2.2.2⟩⟩
theorem ASpec.nz {P : Program} {f : FuncId} {e n : Nat} {g : Nat -> List AV} {r : AV} {no : Os} (h0 : n = 0 -> ASpec P f [.row (some false) e n g] r no) (h1 : ASpec P f [.row (some true) e n g] r no) : ASpec P f [.row none e n g] r no := by
 refine ⟨h1.1,h1.2.1,fun S w us hr hv=>?_⟩
 obtain ⟨u,us',rfl,h2,h3⟩ := hr
 have h4 := h2
 unfold rel at h4
 obtain ⟨a,cap,vs,rfl,_,h5,h6⟩ := h4
 cases a with
 | none =>
  have hn : n = 0 := by
   rcases Nat.eq_zero_or_pos n with h|h
   ·exact h
   ·obtain ⟨⟨ad,e,_⟩,_⟩ := h6 0 h; cases e
  exact (h0 hn).2.2 S w _ ⟨_,us',rfl,⟨none,cap,vs,rfl,(fun z hz=>by cases hz; rfl),h5,h6⟩,h3⟩ hv
 | some ad=>exact h1.2.2 S w _ ⟨_,us',rfl,⟨some ad,cap,vs,rfl,(fun z hz=>by cases hz; rfl),h5,h6⟩,h3⟩ hv
theorem CloneI_S (d : Nat) (l : List Int) (hl : l.length < 4294967296) : ASpec Tryz.prog 45 [eL l] (.orow d 1 0 l.length) [(d,oL l)] := by
 refine .nz (fun hn=>?_) ?_
 ·refine ASpec.enter TYok mixed Tryz.func45 rfl Tryz.call45 Tryz.ntmps45 rfl (rs := [.tmp 2]) rfl (nd1 _) (Clo.row) (keep := [0,2]) ?_; conv=>whnf
  repeat' first|(refine iF (fun hb=>?_) (fun hb=>?_) <;> (try simp only [yv] at hb) <;> (have hc := hb; try simp only [sB,Int.reduceToNat] at hc; try simp only [addZ0] at hc) <;> first|(exfalso; omega)|conv=>whnf)|((first|refine ya ?_|refine yb ?_|refine yc ?_|refine yd ?_|refine yf ?_|refine yh ?_|refine yj ?_|refine dD ?_|refine dF ?_|refine d0 ?_|refine d1 ?_|refine dL ?_|refine dP ?_|refine yl ?_|refine ym ?_|refine yn ?_|refine ⟨_,fun _=>(IntKind.wrap_u64 _).symm,?_⟩); conv=>whnf)|(refine yt ?_; conv=>whnf)|exact ⟨_,.keep rfl rfl⟩|fail
  all_goals first|exact absurd hb (by decide)|exact ⟨_,Gives.nil hn⟩
 ·refine ASpec.enter TYok mixed Tryz.func45 rfl Tryz.call45 Tryz.ntmps45 rfl (rs := [.tmp 2]) rfl (nd1 _) (Clo.row) (keep := [0,2]) ?_; conv=>whnf
  refine And.intro (fun hb=>absurd hb (by decide)) fun _=>?_
  conv=>whnf
  refine LitW.own ?_
  conv=>whnf
  repeat' first|(refine iF (fun hb=>?_) (fun hb=>?_) <;> (try simp only [yv] at hb) <;> (have hc := hb; try simp only [sB,Int.reduceToNat] at hc; try simp only [addZ0] at hc) <;> first|(exfalso; omega)|conv=>whnf)|((first|refine ya ?_|refine yb ?_|refine yc ?_|refine yd ?_|refine yf ?_|refine yh ?_|refine yj ?_|refine dD ?_|refine dF ?_|refine d0 ?_|refine d1 ?_|refine dL ?_|refine dP ?_|refine yl ?_|refine ym ?_|refine yn ?_|refine ⟨_,fun _=>(IntKind.wrap_u64 _).symm,?_⟩); conv=>whnf)|(refine yt ?_; conv=>whnf)|exact ⟨_,.keep rfl rfl⟩|fail
  exact ⟨_,.give rfl rfl (by omega) (fun i _=>by simp [catF]) rfl⟩
theorem CloneV_S (d : Nat) (l : List Opd) (hl : l.length < 4294967296) : ASpec Tryz.prog 46 [eL l] (.orow d 3 0 l.length) [(d,oL l)] := by
 refine .nz (fun hn=>?_) ?_
 ·refine ASpec.enter TYok mixed Tryz.func46 rfl Tryz.call46 Tryz.ntmps46 rfl (rs := [.tmp 2]) rfl (nd1 _) (Clo.row) (keep := [0,2]) ?_; conv=>whnf
  repeat' first|(refine iF (fun hb=>?_) (fun hb=>?_) <;> (try simp only [yv] at hb) <;> (have hc := hb; try simp only [sB,Int.reduceToNat] at hc; try simp only [addZ0] at hc) <;> first|(exfalso; omega)|conv=>whnf)|((first|refine ya ?_|refine yb ?_|refine yc ?_|refine yd ?_|refine yf ?_|refine yh ?_|refine yj ?_|refine dD ?_|refine dF ?_|refine d0 ?_|refine d1 ?_|refine dL ?_|refine dP ?_|refine yl ?_|refine ym ?_|refine yn ?_|refine ⟨_,fun _=>(IntKind.wrap_u64 _).symm,?_⟩); conv=>whnf)|(refine yt ?_; conv=>whnf)|exact ⟨_,.keep rfl rfl⟩|fail
  all_goals first|exact absurd hb (by decide)|exact ⟨_,Gives.nil hn⟩
 ·refine ASpec.enter TYok mixed Tryz.func46 rfl Tryz.call46 Tryz.ntmps46 rfl (rs := [.tmp 2]) rfl (nd1 _) (Clo.row) (keep := [0,2]) ?_; conv=>whnf
  refine And.intro (fun hb=>absurd hb (by decide)) fun _=>?_
  conv=>whnf
  refine LitW.own ?_
  conv=>whnf
  repeat' first|(refine iF (fun hb=>?_) (fun hb=>?_) <;> (try simp only [yv] at hb) <;> (have hc := hb; try simp only [sB,Int.reduceToNat] at hc; try simp only [addZ0] at hc) <;> first|(exfalso; omega)|conv=>whnf)|((first|refine ya ?_|refine yb ?_|refine yc ?_|refine yd ?_|refine yf ?_|refine yh ?_|refine yj ?_|refine dD ?_|refine dF ?_|refine d0 ?_|refine d1 ?_|refine dL ?_|refine dP ?_|refine yl ?_|refine ym ?_|refine yn ?_|refine ⟨_,fun _=>(IntKind.wrap_u64 _).symm,?_⟩); conv=>whnf)|(refine yt ?_; conv=>whnf)|exact ⟨_,.keep rfl rfl⟩|fail
  exact ⟨_,.give rfl rfl (by omega) (fun i _=>by simp [catF]) rfl⟩
abbrev oT {α : Type} [Enc α] (l : List α) : Obj := .tree (Enc.sz α) l.length fun i=>Enc.enc (l.getD i Enc.d)
theorem Clo.fn {a : ByteArray} {r : Int} {c d n m N : Nat} {e e' : Nat} {g g2 : Nat -> List AV} {q : Option Nat} (h : c ≠ d) : Clo (.agg [.s a,.orow c 1 0 n,.i .i64 r,.orow d 1 0 m]) [(c,.row q e N g),(d,.tree e' m g2)] := by
 refine ⟨fun id hm=>?_,fun i ob h id hm=>?_⟩
 ·simp only [men,mens,Bool.or_eq_true,Bool.or_false,Bool.false_or] at hm
  rcases hm with hm|hm
  ·have := Nat.eq_of_beq_eq_true hm; subst this; rw [lk_cons,if_pos rfl]; rfl
  ·have := Nat.eq_of_beq_eq_true hm; subst this; rw [lk_cons,if_neg h,lk_cons,if_pos rfl]; rfl
 ·rw [lk_cons] at h
  split at h
  ·cases h; cases hm
  ·rw [lk_cons] at h
   split at h
   ·cases h; cases hm
   ·simp [lk] at h
theorem cat_snoc {α : Type} [Enc α] {l : List α} {k : Nat} {hs : List AV} (h : teqs hs (Enc.enc (l.getD k Enc.d))) (i : Nat) (hi : i < k + 1) : teqs (catG k (fun i=>Enc.enc (l.getD i Enc.d)) (fun _=>hs) i) (Enc.enc (l.getD i Enc.d)) := by
 unfold catG
 split
 ·exact teqs_refl _
 ·obtain rfl : i = k := by omega
  exact h
def cgO (f : FnE) (b : Nat) : Os := [(1,bx f),(2,bx (Enc.d : FnE)),(3,.box none none [.s f.name,.orow 12 1 0 f.params.length,.i .i64 f.ret,.orow 1002 1 0 b]),(12,oL f.params),(1002,.tree 1 b fun i=>Enc.enc (f.blocks.getD i Enc.d))]
theorem CopyFuncT_S (f : FnE) (hs : siz f < 4294967296) : ASpec Tryz.prog 22 [eS f] (.agg [.s f.name,.orow 1001 1 0 f.params.length,.i .i64 f.ret,.orow 1002 1 0 f.blocks.length]) [(1001,oL f.params),(1002,oT f.blocks)] := by
 have h1 := blocks_le f
 have h2 := params_le f
 refine ASpec.enter TYok mixed Tryz.func22 rfl Tryz.call22 Tryz.ntmps22 rfl (rs := [.cell 2 34]) rfl (nd2 (show (1001 : Nat) ≠ 1002 from by decide)) (Clo.fn (c := 1001) (d := 1002) (by decide)) (keep := [0,1,2,3,5,6,8,16,17,18,23,24,25]) ?_; conv=>whnf
 repeat' first|(refine iF (fun hb=>?_) (fun hb=>?_) <;> (try simp only [yv] at hb) <;> (have hc := hb; try simp only [sB,Int.reduceToNat] at hc; try simp only [addZ0] at hc) <;> first|(exfalso; omega)|conv=>whnf)|((first|refine ya ?_|refine yb ?_|refine yc ?_|refine yd ?_|refine yf ?_|refine yh ?_|refine yj ?_|refine dD ?_|refine dF ?_|refine d0 ?_|refine d1 ?_|refine dL ?_|refine dP ?_|refine yl ?_|refine ym ?_|refine yn ?_|refine ⟨_,fun _=>(IntKind.wrap_u64 _).symm,?_⟩); conv=>whnf)|((first|refine cK (fun _=>CloneI_S 12 _ (by omega)) ?_|((try (refine CallW.lent ?_; (conv=>whnf); repeat (refine yb ?_; (conv=>whnf)))); refine cL (fun _=>CloneI_S 12 _ (by omega)) ?_)); conv=>whnf)|(refine yt ?_; conv=>whnf)|exact ⟨_,.keep rfl rfl⟩|fail
 refine lp [18] (fun b : Nat=>[.i .i64 b]) (cgO f) (fun b=>b <= f.blocks.length) (fun b=>f.blocks.length - b) 0 (by omega) ?_ fun b hb0=>?_
 ·refine eP [] [1002] ?_ ?_ <;> repeat' first|exact eN|refine And.intro ?_ ?_
 conv=>whnf
 have h3 := code_le f b
 repeat' first|(refine iF (fun hb=>?_) (fun hb=>?_) <;> (try simp only [yv] at hb) <;> (have hc := hb; try simp only [sB,Int.reduceToNat] at hc; try simp only [addZ0] at hc) <;> first|(exfalso; omega)|conv=>whnf)|((first|refine ya ?_|refine yb ?_|refine And.intro ⟨rfl,fun _ _=>rfl⟩ ?_|refine And.intro (⟨⟨rfl,rfl⟩,by omega⟩ : (_ = _ /\ _ = _) /\ _) ?_|refine And.intro (⟨rfl,by omega⟩ : _ = _ /\ _) ?_|refine yc ?_|refine ye ?_|refine yf ?_|refine yi ?_|refine yk ?_|refine dD ?_|refine dF ?_|refine d0 ?_|refine d1 ?_|refine dL ?_|refine dP ?_|refine yl ?_|refine ym ?_|refine yn ?_|refine ⟨_,fun _=>(IntKind.wrap_u64 _).symm,?_⟩); conv=>whnf)|(refine yt ?_; conv=>whnf)|exact ⟨_,.keep rfl rfl⟩|fail
 ·refine lp [25] (fun k : Nat=>[.i .i64 k]) (fun k=>(6,.box none none [.orow 1003 7 0 k]) :: (1003,.tree 7 k fun i=>Enc.enc ((f.blocks.getD b Enc.d).code.getD i Enc.d)) :: cgO f b) (fun k=>k <= (f.blocks.getD b Enc.d).code.length) (fun k=>(f.blocks.getD b Enc.d).code.length - k) 0 (by omega) ?_ fun k hk=>?_
  ·refine eP [] [1003] ?_ ?_ <;> repeat' first|exact eN|refine And.intro ?_ ?_
   exact fun i _=>teqs_refl _
  conv=>whnf
  have h4 := ins_le f b k
  have h5 := args_le ((f.blocks.getD b Enc.d).code.getD k Enc.d)
  have h6 := to_le ((f.blocks.getD b Enc.d).code.getD k Enc.d)
  repeat' first|(refine iF (fun hb=>?_) (fun hb=>?_) <;> (try simp only [yv] at hb) <;> (have hc := hb; try simp only [sB,Int.reduceToNat] at hc; try simp only [addZ0] at hc) <;> first|(exfalso; omega)|conv=>whnf)|((first|refine ya ?_|refine yb ?_|refine And.intro ⟨rfl,fun _ _=>rfl⟩ ?_|refine And.intro (⟨⟨rfl,rfl⟩,by omega⟩ : (_ = _ /\ _ = _) /\ _) ?_|refine And.intro (⟨rfl,by omega⟩ : _ = _ /\ _) ?_|refine yc ?_|refine ye ?_|refine yf ?_|refine yi ?_|refine yk ?_|refine dD ?_|refine dF ?_|refine d0 ?_|refine d1 ?_|refine dL ?_|refine dP ?_|refine yl ?_|refine ym ?_|refine yn ?_|refine ⟨_,fun _=>(IntKind.wrap_u64 _).symm,?_⟩); conv=>whnf)|((first|refine cK (fun _=>CloneV_S 31 _ (Nat.lt_of_le_of_lt (Nat.le_trans h5 h4) hs)) ?_|((try (refine CallW.lent ?_; (conv=>whnf); repeat (refine yb ?_; (conv=>whnf)))); refine cL (fun _=>CloneV_S 31 _ (Nat.lt_of_le_of_lt (Nat.le_trans h5 h4) hs)) ?_)); conv=>whnf)|((first|refine cK (fun _=>CloneI_S 34 _ (Nat.lt_of_le_of_lt (Nat.le_trans h6 h4) hs)) ?_|((try (refine CallW.lent ?_; (conv=>whnf); repeat (refine yb ?_; (conv=>whnf)))); refine cL (fun _=>CloneI_S 34 _ (Nat.lt_of_le_of_lt (Nat.le_trans h6 h4) hs)) ?_)); conv=>whnf)|(refine yt ?_; conv=>whnf)|exact ⟨_,.keep rfl rfl⟩|fail
  ·refine .mk (k + 1) (by omega) (by omega) ?_
   refine eP [(1003,41)] [] ?_ ?_ <;> repeat' first|exact eN|refine And.intro ?_ ?_
   all_goals first|exact fun i hi=>cat_snoc (teqs_refl _) i hi|exact fun i _=>teqs_refl _
  ·obtain rfl : k = (f.blocks.getD b Enc.d).code.length := by omega
   refine .mk (b + 1) (by omega) (by omega) ?_
   refine eP [(1002,48)] [] ?_ ?_ <;> repeat' first|exact eN|refine And.intro ?_ ?_
   exact fun i hi=>cat_snoc (teqs_refl _) i hi
 ·obtain rfl : b = f.blocks.length := by omega
  exact ⟨_,.agg (.cons (.keep rfl rfl) (.cons (.give rfl rfl rfl (fun _ _=>rfl) rfl) (.cons (.keep rfl rfl) (.cons (.giveT rfl rfl rfl (fun _ _=>teqs_refl _) rfl) .nil (nodupB_ok rfl)) (nodupB_ok rfl)) (nodupB_ok rfl)) (nodupB_ok rfl))⟩
theorem clear_one (w : World) (t e ty : TypeId) (z : Value) (ht : Tryz.prog.underlying t = some (.slice e)) (hv : ∀ w,(zeroValue e).run Tryz.prog w = .ok z w) (h1 : ∀ u ∈ z.cells.toList,u.oneCell' = true) (b o c : Nat)
  (hc : ∀ j,j < z.cells.size -> (w.cell? ⟨b,o + j,none⟩).isSome = true) (hf : ∀ j,j < z.cells.size -> w.frozen? ⟨b,o + j,none⟩ = false) :
  (Builtin.clear_ #[t] ty #[.slice (some ⟨b,o,none⟩) 1 c]).run Tryz.prog w = .ok (.tuple #[]) (w.setCells b o z.cells.toList) := by
 have hzc : (Builtin.zeroCells z.cells 1).toList = z.cells.toList := by
  simp only [Builtin.zeroCells,Nat.one_mul,Array.toList_map,Array.toList_range]
  apply List.ext_getElem
  ·simp
  ·intro i h1 h2
   have h2 : i < z.cells.size := by simpa using h2
   simp [Nat.mod_eq_of_lt h2,getElem!_pos,h2]
 have hst := run_storeCells_cells (P := Tryz.prog) b o z.cells.toList 0 w (by simpa using hc) (by simpa using hf) (by intro v hv'; exact h1 v hv')
 simp only [Nat.add_zero] at hst
 simp [Builtin.clear_,run_underlying ht,hv,hzc,hst]
theorem del_run (b off n cap i j : Nat) (news : List Value) (w : World) (hj : j = i + 1) (hi : i < n) (hn : n <= cap) (hl : news.length = (n - j) * 7) (h1 : ∀ u ∈ news,u.oneCell' = true)
  (hc : ∀ t u,news[t]? = some u -> w.cell? ⟨b,off + j * 7 + t,none⟩ = some u) (hs : ∀ t,t < n * 7 -> (w.cell? ⟨b,off + t,none⟩).isSome = true /\ w.frozen? ⟨b,off + t,none⟩ = false) :
  Calls Tryz.prog 23 #[.slice (some ⟨b,off,none⟩) n cap,.int .i64 i,.int .i64 j] w fun e w'=>e = .returned (.slice (some ⟨b,off,none⟩) (n - 1) cap) /\
   w' = (w.drew.setCells b (off + i * 7) news).setCells b (off + (n - 1) * 7) [.int .i64 0,.int .i64 0,.int .i64 0,.int .i64 0,.int .i64 0,.slice none 0 0,.slice none 0 0] := by
 have mixed := mixed
 have hjn : j <= n := by omega
 have hne : ¬(i = j) := by omega
 obtain ⟨i0,hi0,hz1⟩ := Option.map_eq_some_iff.1 (show (Tryz.prog.info? 45).map (·.size) = some 7 by kernel_rfl)
 obtain ⟨A,hA,hsrc⟩ : ∃ A : Addr,(if cap = j then (some (⟨b,off,none⟩ : Addr)) else some ⟨b,off + j * 7,none⟩) = some A /\ Hid (∀ t u,news[t]? = some u -> w.drew.cell? (A.add t) = some u) := by
  by_cases h : cap = j
  ·refine ⟨⟨b,off,none⟩,by simp [h],fun t u hu=>?_⟩
   have h0 : news.length = 0 := by rw [hl]; omega
   rw [List.length_eq_zero_iff.1 h0] at hu
   simp at hu
  ·refine ⟨⟨b,off + j * 7,none⟩,by simp [h],fun t u hu=>?_⟩
   rw [Addr.add_lit]
   exact hc t u hu
 have s1 : Hid (news.length = (n - j) * 7) := hl
 have s2 : Hid (∀ u ∈ news,u.oneCell' = true) := h1
 have s3 : Hid (∀ t,t < news.length -> (w.drew.cell? ⟨b,off + i * 7 + t,none⟩).isSome = true /\ w.drew.frozen? ⟨b,off + i * 7 + t,none⟩ = false) := by
  intro t ht
  rw [hl] at ht
  have := hs (i * 7 + t) (by omega)
  rw [<- Nat.add_assoc] at this
  exact this
 obtain ⟨W1,hW1⟩ : ∃ W1,W1 = w.drew.setCells b (off + i * 7) news := ⟨_,rfl⟩
 have hW : Hid (W1 = w.drew.setCells b (off + i * 7) news) := hW1
 have hic : i <= cap := by omega
 have hjc : j <= cap := by omega
 have hcl : ∀ ty,(Builtin.clear_ #[49] ty #[.slice (some ⟨b,off + (i + (n - j)) * 7,none⟩) (n - (i + (n - j))) (cap - (i + (n - j)))]).run Tryz.prog W1 = .ok (.tuple #[]) (W1.setCells b (off + (n - 1) * 7) [.int .i64 0,.int .i64 0,.int .i64 0,.int .i64 0,.int .i64 0,.slice none 0 0,.slice none 0 0]) := fun ty=>by
  have e1 : i + (n - j) = n - 1 := by omega
  have e2 : n - (i + (n - j)) = 1 := by omega
  rw [e2,e1]
  refine clear_one W1 _ _ ty (.agg #[.int .i64 0,.int .i64 0,.int .i64 0,.int .i64 0,.int .i64 0,.slice none 0 0,.slice none 0 0]) Tryz.underlying49 (fun w=>?_) (by simp [Value.oneCell',Value.cells]) b _ _ (fun t ht=>?_) (fun t ht=>?_)
  ·exact Tryz.zeroValue45 w
  ·rw [hW1]
   have := hs ((n - 1) * 7 + t) (by have : t < 7 := ht; omega)
   rw [<- Nat.add_assoc] at this
   exact World.isSome_setCells b _ _ _ _ this.1
  ·rw [hW1,World.frozen?_setCells]
   have := hs ((n - 1) * 7 + t) (by have : t < 7 := ht; omega)
   rw [<- Nat.add_assoc] at this
   exact this.2
 have hj' : Hid (j = i + 1) := hj
 have hlt : i < j := by omega
 clear hW1 hs hc hj
 go_enter Tryz.func23,Tryz.ntmps23
 go_wp2_with fail
 go_region_law_o (refine step_append_room rfl (.tmp 22) (.tmp 25) 49 rfl 45 i0 7 Tryz.underlying49 hi0 hz1 b off i cap (by simp [Act.eval,Act.put]) A (n - j) (cap - j) news (by simp [Act.eval,Act.put]; skip) s1.out hsrc.out s2.out (by omega) s3.out ?_; rw [<- hW.out])
 go_wp2
 go_ret
 exact ⟨by rw [show n - 1 = i + (n - j) by have := hj'.out; omega]; rfl,by rw [hW.out]⟩
theorem setCells_blk {b t : Nat} : ∀ (vs : List Value) (o : Nat) (cs : List Value) (w : World),w.heap[b]? = some (.cells cs.toArray t (0,0)) -> (w.setCells b o vs).heap[b]? = some (.cells (splice cs o vs).toArray t (0,0)) /\ (w.setCells b o vs).heap.size = w.heap.size /\ (∀ k,k ≠ b -> (w.setCells b o vs).heap[k]? = w.heap[k]?) /\ (w.setCells b o vs).os = w.os /\ (w.setCells b o vs).tape = w.tape /\ (w.setCells b o vs).output = w.output
 | [],o,cs,w,h=>by rw [splice_nil]; exact ⟨h,rfl,fun _ _=>rfl,rfl,rfl,rfl⟩
 | v :: vs,o,cs,w,h=>by
  obtain ⟨h1,h2,h3,h4,h5,h6⟩ := setCells_blk vs (o + 1) (cs.set o v) (w.setCell ⟨b,o,none⟩ v) (setCell_blk v h)
  rw [splice_cons]
  exact ⟨h1,h2.trans (by simp [World.setCell]),fun k hk=>(h3 k hk).trans (Below.heap_setCell _ _ _ _ hk),h4,h5,h6⟩
theorem erase_flat : ∀ (L : List (List Nat)) (i : Nat),(L.eraseIdx i).flatten.Sublist L.flatten
 | [],i=>by simp
 | x :: L,0=>by simp
 | x :: L,i + 1=>by
  rw [List.eraseIdx_cons_succ,List.flatten_cons,List.flatten_cons]
  exact (List.Sublist.refl x).append (erase_flat L i)
def skp {α : Type} (i : Nat) (f : Nat -> α) (k : Nat) : α := if k < i then f k else f (k + 1)
theorem skp_map {α : Type} (i n : Nat) (f : Nat -> α) (hi : i < n) : (List.range (n - 1)).map (skp i f) = ((List.range n).map f).eraseIdx i := by
 refine List.ext_getElem (by simp [List.length_eraseIdx]; omega) fun k h1 h2=>?_
 rw [List.getElem_map,List.getElem_range,List.getElem_eraseIdx]
 unfold skp
 split <;> simp
theorem skp_get {α : Type} [Enc α] (l : List α) (i k : Nat) : (l.eraseIdx i).getD k Enc.d = skp i (fun k=>l.getD k Enc.d) k := by
 unfold skp
 simp only [List.getD_eq_getElem?_getD,List.getElem?_eraseIdx]
 split <;> rfl
def zI : List Value := [.int .i64 0,.int .i64 0,.int .i64 0,.int .i64 0,.int .i64 0,.slice none 0 0,.slice none 0 0]
theorem Delete_S (d : Nat) (l : List InsE) (i : Nat) (hi : i < l.length) : ASpecM Tryz.prog 23 [.orow d 7 0 l.length,.i .i64 i,.i .i64 ((i : Int) + 1)] [(d,oT l)] (.orow d 7 0 (l.length - 1)) [(d,oT (l.eraseIdx i))] := by
 have hlen : (l.eraseIdx i).length = l.length - 1 := by rw [List.length_eraseIdx]; simp [hi]
 refine ⟨Tryz.call23,Clo.tree,fun S β w us hob hap hus hvr=>?_⟩
 obtain ⟨u0,us0,rfl,r0,u1,us1,rfl,r1,u2,us2,rfl,r2,r3⟩ := hus
 unfold rels at r3
 unfold rel at r0 r1 r2
 subst r3 r1 r2
 obtain ⟨hok0,rfl⟩ := r0
 have hfe : feet [(d,oT l)] β = (β d).foot := by simp [feet]
 have hlk : lk [(d,oT l)] d = some (oT l) := by rw [lk_cons,if_pos rfl]
 obtain ⟨hok,ht⟩ := hob.objs d _ hlk
 have hnd := hob.nodup
 rw [hfe] at hnd hap
 unfold treeD at ht
 obtain ⟨_,_,⟨hn,hm⟩,hnode⟩ := ht
 have hr0 : rsub (β d) [] = ((β d).a,(β d).cap) := rfl
 rw [hr0] at hn hnode
 rcases hnode with ⟨z1,z2,z3⟩|⟨b,off,cells,ty,uf,FS,z1,z2,z3,z4,z5⟩
 ·simp only at z2; omega
 simp only at z1 z4 hn
 have hsz : Enc.sz InsE = 7 := rfl
 rw [hsz] at z4 z5
 have hul : ∀ k,k < l.length -> (uf k).length = 7 := fun k hk=>(z5 k hk).1.1.1
 have hat : ∀ k,k < l.length -> ∀ j u,(uf k)[j]? = some u -> cells[off + k * 7 + j]? = some u := fun k hk=>(z5 k hk).1.2
 have hbX : b ∈ (β d).foot := by rw [z2]; simp
 obtain ⟨news,hnews⟩ : ∃ news,news = flatN (fun k=>uf (i + 1 + k)) (l.length - (i + 1)) := ⟨_,rfl⟩
 have hnl : news.length = (l.length - (i + 1)) * 7 := by rw [hnews]; exact flatN_len fun k hk=>hul _ (by omega)
 have hcell : ∀ k,w.cell? ⟨b,k,none⟩ = cells[k]? := fun k=>by rw [cell_blk z3]
 have hrun := del_run b off l.length (β d).cap i (i + 1) news w rfl hi hn hnl ?_ ?_ ?_
 ·refine (by rw [z1,Nat.zero_mul,Nat.sub_zero]; exact hrun : Calls _ _ _ _ _).mono ?_
  clear hrun
  rintro e w' ⟨rfl,rfl⟩
  obtain ⟨a1,a2,a3,a4,a5,a6⟩ := setCells_blk news (off + i * 7) cells w.drew z3
  obtain ⟨b1,b2,b3,b4,b5,b6⟩ := setCells_blk zI (off + (l.length - 1) * 7) _ _ a1
  rw [show [Value.int IntKind.i64 0,Value.int IntKind.i64 0,Value.int IntKind.i64 0,Value.int IntKind.i64 0,Value.int IntKind.i64 0,Value.slice none 0 0,Value.slice none 0 0] = zI from rfl]
  generalize hw' : (w.drew.setCells b (off + i * 7) news).setCells b (off + (l.length - 1) * 7) zI = w' at b1 b2 b3 b4 b5 b6 ⊢
  have c2 : w'.heap.size = w.heap.size := b2.trans a2
  have c3 : ∀ k,k ≠ b -> w'.heap[k]? = w.heap[k]? := fun k hk=>(b3 k hk).trans (a3 k hk)
  obtain ⟨W,hW⟩ : ∃ W : Wt,W = ⟨some ⟨b,off,none⟩,(β d).cap,b :: (List.range (l.length - 1)).flatMap (skp i FS),true,fun p=>match p with
   | []=>(none,0)
   | (k,c) :: r=>rsub (β d) ((if k < i then k else k + 1,c) :: r)⟩ := ⟨_,rfl⟩
  have hWf : W.foot.Sublist (β d).foot := by
   rw [hW,z2]
   refine List.Sublist.cons_cons _ ?_
   rw [List.flatMap_def,List.flatMap_def,skp_map i _ FS hi]
   exact erase_flat _ _
  have hfe' : feet [(d,oT (l.eraseIdx i))] (setB β d W) = W.foot := by simp [feet,setB_self]
  have hc : Comp S w (fun k=>(S k \/ w.heap.size <= k \/ k ∈ (β d).foot) /\ k ∉ W.foot) w' := ⟨by rw [c2]; exact Nat.le_refl _,fun k hk hs=>⟨⟨.inl hs,fun hq=>hap k hs (hWf.subset hq)⟩,c3 k fun e=>hap k hs (e ▸ hbX)⟩⟩
  have hnd2 := hnd
  rw [z2,List.nodup_cons] at hnd2
  have hFb : ∀ x,x < l.length -> ∀ q ∈ FS x,q ≠ b := fun x hx q hq e=>hnd2.1 (e ▸ List.mem_flatMap.2 ⟨x,List.mem_range.2 hx,hq⟩)
  have htr : ∀ x k,x < l.length -> (if k < i then k else k + 1) = x -> treeDs (fun k=>(S k \/ w.heap.size <= k \/ k ∈ (β d).foot) /\ k ∉ W.foot) w' (rsub W) (Enc.enc (l.getD x Enc.d)) [] k 0 (uf x) (FS x) := fun x k hx hk=>by
   refine treeDs_shift (sb := rsub (β d)) _ [] [] x k 0 _ _ (fun c r=>?_) (treeDs_mono hc _ _ _ _ _ _ (fun q hq=>c3 q (hFb x hx q hq)) (fun _ _ _=>rfl) (z5 x hx).2)
   rw [hW,<- hk]; rfl
  have hs1 : off + i * 7 + news.length <= cells.length := by
   rw [hnl]
   have : l.length * 7 <= (β d).cap * 7 := Nat.mul_le_mul_right 7 hn
   omega
  have hs2 : off + (l.length - 1) * 7 + zI.length <= (splice cells (off + i * 7) news).length := by
   rw [splice_length]
   have : l.length * 7 <= (β d).cap * 7 := Nat.mul_le_mul_right 7 hn
   have : zI.length = 7 := rfl
   omega
  have hrow : ∀ k,k < l.length - 1 -> rowAt (splice (splice cells (off + i * 7) news) (off + (l.length - 1) * 7) zI) off 7 (skp i uf) k := fun k hk=>by
   have hx : (skp i uf k).length = 7 /\ (skp i uf k).all (·.oneCell') = true := by
    unfold skp; split
    ·exact (z5 k (by omega)).1.1
    ·exact (z5 (k + 1) (by omega)).1.1
   refine ⟨hx,fun j u hu=>?_⟩
   have hj : j < 7 := by rw [<- hx.1]; exact (List.getElem?_eq_some_iff.1 hu).1
   rw [splice_get _ _ _ _ hs2,if_neg (by omega),splice_get _ _ _ _ hs1]
   unfold skp at hu
   split at hu
   ·rw [if_neg (by omega)]
    exact hat k (by omega) j u hu
   ·rename_i hki
    rw [if_pos (by rw [hnl]; omega),hnews]
    have := flatN_at (us := fun k=>uf (i + 1 + k)) (e := 7) (m := l.length - (i + 1)) (fun k hk=>hul _ (by omega)) (i := k - i) (r := j) (u := u) (by omega) (by rw [show i + 1 + (k - i) = k + 1 by omega]; exact hu)
    rw [<- this]
    congr 1
    omega
  refine ⟨_,setB β d W,rfl,⟨b4.trans a4,b5.trans a5,b6.trans a6,by rw [c2]; exact Nat.le_refl _,fun k hk hkX=>c3 k fun e=>hkX (by rw [hfe]; exact e ▸ hbX)⟩,fun id ob hl=>?_,fun k hk=>?_,?_,?_,fun id ob hl hbx=>?_,?_⟩
  ·rw [lk_cons] at hl
   split at hl
   ·rename_i e
    subst e; cases hl
    rw [hfe,hfe',setB_self]
    refine ⟨by rw [hW],?_⟩
    unfold treeD
    rw [hlen]
    refine ⟨rfl,(fun z hz=>by cases hz),⟨by rw [hW]; exact Nat.le_trans (Nat.sub_le _ _) hn,Nat.le_trans (Nat.sub_le _ _) hm⟩,.inr ⟨b,off,_,ty,skp i uf,skp i FS,by rw [hW]; rfl,by rw [hW],b1,by rw [hW,splice_length,splice_length]; exact z4,fun k hk=>⟨hrow k hk,?_⟩⟩⟩
    show treeDs _ _ _ (Enc.enc ((l.eraseIdx i).getD k Enc.d)) _ _ _ _ _
    rw [skp_get]
    unfold skp
    split
    ·rename_i hki; exact htr k k (by omega) (if_pos hki)
    ·rename_i hki; exact htr (k + 1) k (by omega) (if_neg hki)
   ·simp [lk] at hl
  ·rw [hfe'] at hk
   rw [hfe,c2]
   exact ⟨.inr (hWf.subset hk),hob.lt k (by rw [hfe]; exact hWf.subset hk)⟩
  ·rw [hfe']; exact hnd.sublist hWf
  ·simp
  ·rw [lk_cons] at hl
   split at hl
   ·cases hl; cases hbx
   ·simp [lk] at hl
  ·unfold rel
   rw [setB_self]
   refine ⟨by rw [hW],?_⟩
   rw [hW,Nat.zero_mul,Nat.sub_zero]; rfl
 ·rw [hnews]
  exact fun u hu=>List.all_eq_true.1 (flatN_one fun k hk=>(z5 _ (by omega)).1.1.2) u hu
 ·intro t u hu
  rw [hnews] at hu
  obtain ⟨k,r,h1,rfl,h3⟩ := flatN_get (e := 7) (fun k hk=>hul _ (by omega)) hu
  rw [hcell]
  have := hat _ (by omega : i + 1 + k < l.length) r u h3
  rw [<- this]
  congr 1
  omega
 ·intro t ht
  have h7 : l.length * 7 <= (β d).cap * 7 := Nat.mul_le_mul_right 7 hn
  refine ⟨by rw [hcell,List.getElem?_eq_getElem (by omega)]; rfl,by simp [World.frozen?,z3]⟩
def cut (f : FnE) (b i : Nat) : FnE := { f with blocks := f.blocks.set b ⟨(f.blocks.getD b Enc.d).code.eraseIdx i⟩ }
def fstD (g : FnE) (b i : Nat) : Prop := (b < g.blocks.length /\ i < lenE g b) /\ deadB g ⟨0,(b : Int),(i : Int)⟩ = true /\ ∀ b' i',(b' < b \/ b' = b /\ i' < i) -> i' < lenE g b' -> deadB g ⟨0,(b' : Int),(i' : Int)⟩ = false
def noD (g : FnE) : Prop := ∀ b i,i < lenE g b -> deadB g ⟨0,(b : Int),(i : Int)⟩ = false
theorem fstD_uniq {g : FnE} {b i b' i' : Nat} (h : fstD g b i) (h' : fstD g b' i') : b = b' /\ i = i' := by
 obtain ⟨⟨a1,a2⟩,a3,a4⟩ := h
 obtain ⟨⟨c1,c2⟩,c3,c4⟩ := h'
 apply Classical.byContradiction
 intro hn
 have : (b < b' \/ b = b' /\ i < i') \/ (b' < b \/ b' = b /\ i' < i) := by omega
 rcases this with h|h
 ·rw [c4 b i h a2] at a3; cases a3
 ·rw [a4 b' i' h c2] at c3; cases c3
noncomputable def stepD (g : FnE) : Option (Nat × Nat) := @dite _ (∃ p : Nat × Nat,fstD g p.1 p.2) (Classical.propDecidable _) (fun h=>some (Classical.choose h)) (fun _=>none)
theorem stepD_some {g : FnE} {b i : Nat} (h : fstD g b i) : stepD g = some (b,i) := by
 have hex : ∃ p : Nat × Nat,fstD g p.1 p.2 := ⟨(b,i),h⟩
 unfold stepD
 rw [@dif_pos _ (Classical.propDecidable _) hex]
 have := fstD_uniq (Classical.choose_spec hex) h
 exact congrArg some (Prod.ext this.1 this.2)
theorem stepD_none {g : FnE} (h : noD g) : stepD g = none := by
 unfold stepD
 rw [@dif_neg _ (Classical.propDecidable _) fun ⟨p,hp⟩=>(by have := h p.1 p.2 hp.1.2; rw [hp.2.1] at this; cases this)]
noncomputable def dseN : Nat -> FnE -> FnE
 | 0,g=>g
 | n + 1,g=>match stepD g with
  | some (b,i)=>dseN n (cut g b i)
  | none=>g
def totI (f : FnE) : Nat := (f.blocks.map fun b=>b.code.length).sum
noncomputable def dseAll (f : FnE) : FnE := dseN (totI f) f
theorem sum_set : ∀ (l : List Nat) (b x : Nat),b < l.length -> (l.set b x).sum + l.getD b 0 = l.sum + x
 | [],b,x,h=>by simp at h
 | y :: l,0,x,h=>by simp; omega
 | y :: l,b + 1,x,h=>by
  have := sum_set l b x (by simpa using h)
  simp only [List.set_cons_succ,List.sum_cons,List.getD_cons_succ]; omega
theorem tot_cut {f : FnE} {b i : Nat} (hb : b < f.blocks.length) (hi : i < lenE f b) : totI (cut f b i) + 1 = totI f := by
 have h := sum_set (f.blocks.map fun b=>b.code.length) b ((f.blocks.getD b Enc.d).code.eraseIdx i).length (by simpa using hb)
 have e1 : (f.blocks.map fun b=>b.code.length).getD b 0 = lenE f b := by
  simp [List.getD_eq_getElem?_getD,hb,lenE]
 have e2 : ((f.blocks.getD b Enc.d).code.eraseIdx i).length = lenE f b - 1 := by
  rw [List.length_eraseIdx]; exact if_pos hi
 have e3 : totI (cut f b i) = ((f.blocks.map fun b=>b.code.length).set b ((f.blocks.getD b Enc.d).code.eraseIdx i).length).sum := by
  unfold totI cut
  rw [List.map_set]
 have e4 : totI f = (f.blocks.map fun b=>b.code.length).sum := rfl
 omega
theorem blk_cut {f : FnE} {b i b' : Nat} (hb : b < f.blocks.length) : (cut f b i).blocks.getD b' Enc.d = if b' = b then ⟨(f.blocks.getD b Enc.d).code.eraseIdx i⟩ else f.blocks.getD b' Enc.d := by
 unfold cut
 simp only [List.getD_eq_getElem?_getD,List.getElem?_set]
 split
 ·rename_i h; subst h; simp [hb]
 ·rename_i h; rw [if_neg fun e=>h e.symm]
theorem siz_erase {α : Type} [Enc α] [Siz α] : ∀ (l : List α) (i : Nat),siz (l.eraseIdx i) <= siz l
 | [],i=>by simp
 | x :: l,0=>by
  have e : siz (x :: l) = l.length + 1 + (siz x + (l.map siz).sum) := rfl
  have e2 : siz l = l.length + (l.map siz).sum := rfl
  rw [List.eraseIdx_cons_zero]; omega
 | x :: l,i + 1=>by
  have h := siz_erase l i
  have e : siz (x :: l) = l.length + 1 + (siz x + (l.map siz).sum) := rfl
  have e2 : siz l = l.length + (l.map siz).sum := rfl
  have e3 : siz (x :: l.eraseIdx i) = (l.eraseIdx i).length + 1 + (siz x + ((l.eraseIdx i).map siz).sum) := rfl
  have e4 : siz (l.eraseIdx i) = (l.eraseIdx i).length + ((l.eraseIdx i).map siz).sum := rfl
  rw [List.eraseIdx_cons_succ]; omega
theorem siz_set {α : Type} [Enc α] [Siz α] : ∀ (l : List α) (b : Nat) (y : α),siz y <= siz (l.getD b Enc.d) -> siz (l.set b y) <= siz l
 | [],b,y,h=>by simp
 | x :: l,0,y,h=>by
  have e : siz (x :: l) = l.length + 1 + (siz x + (l.map siz).sum) := rfl
  have e2 : siz (y :: l) = l.length + 1 + (siz y + (l.map siz).sum) := rfl
  have h : siz y <= siz x := h
  rw [List.set_cons_zero]; omega
 | x :: l,b + 1,y,h=>by
  have h := siz_set l b y h
  have e : siz (x :: l) = l.length + 1 + (siz x + (l.map siz).sum) := rfl
  have e2 : siz l = l.length + (l.map siz).sum := rfl
  have e3 : siz (x :: l.set b y) = (l.set b y).length + 1 + (siz x + ((l.set b y).map siz).sum) := rfl
  have e4 : siz (l.set b y) = (l.set b y).length + ((l.set b y).map siz).sum := rfl
  rw [List.set_cons_succ]; omega
theorem siz_cut (f : FnE) (b i : Nat) : siz (cut f b i) <= siz f := by
 have h : siz (f.blocks.set b ⟨(f.blocks.getD b Enc.d).code.eraseIdx i⟩) <= siz f.blocks := siz_set _ _ _ (siz_erase _ _)
 have e : siz (cut f b i) = siz f.name + siz f.params + siz (f.blocks.set b ⟨(f.blocks.getD b Enc.d).code.eraseIdx i⟩) := rfl
 have e2 : siz f = siz f.name + siz f.params + siz f.blocks := rfl
 omega
theorem len_blk {g : FnE} {b i : Nat} (h : i < lenE g b) : b < g.blocks.length := by
 apply Classical.byContradiction
 intro hb
 unfold lenE at h
 rw [List.getD_eq_getElem?_getD,List.getElem?_eq_none (by omega)] at h
 exact absurd h (Nat.not_lt_zero _)
theorem cut_len (f : FnE) (b i : Nat) : (cut f b i).blocks.length = f.blocks.length := by unfold cut; simp
theorem ins_cut {f : FnE} {b i : Nat} (hb : b < f.blocks.length) (b' k : Nat) : ∃ k',insE (cut f b i) b' k = insE f b' k' /\ (k < lenE (cut f b i) b' -> k' < lenE f b') := by
 unfold insE lenE
 rw [blk_cut hb]
 split
 ·rename_i h; subst h
  refine ⟨if k < i then k else k + 1,?_,fun h=>?_⟩
  ·show ((f.blocks.getD b' Enc.d).code.eraseIdx i).getD k Enc.d = _
   rw [skp_get]; unfold skp; split <;> rfl
  ·have h : k < ((f.blocks.getD b' Enc.d).code.eraseIdx i).length := h
   rw [List.length_eraseIdx] at h
   split at h <;> split <;> omega
 ·exact ⟨k,rfl,id⟩
theorem OkF.cut {f : FnE} {b i : Nat} (h : OkF f) (hb : b < f.blocks.length) : OkF (cut f b i) where
 sz := Nat.lt_of_le_of_lt (siz_cut f b i) h.sz
 n := fun b' k=>by
  obtain ⟨k',e,_⟩ := ins_cut (i := i) hb b' k
  have e : ((Go.Proofs.YtjfdbmfcnhjfoaaGreat.cut f b i).blocks.getD b' Enc.d).code.getD k Enc.d = insE f b' k' := e
  rw [e]; exact h.n b' k'
 reg := fun b' k=>by
  obtain ⟨k',e,_⟩ := ins_cut (i := i) hb b' k
  have e : ((Go.Proofs.YtjfdbmfcnhjfoaaGreat.cut f b i).blocks.getD b' Enc.d).code.getD k Enc.d = insE f b' k' := e
  rw [e]; exact h.reg b' k'
 arg := fun b' k j=>by
  obtain ⟨k',e,_⟩ := ins_cut (i := i) hb b' k
  have e : ((Go.Proofs.YtjfdbmfcnhjfoaaGreat.cut f b i).blocks.getD b' Enc.d).code.getD k Enc.d = insE f b' k' := e
  rw [e]; exact h.arg b' k' j
theorem OkA.cut {f : FnE} {b i : Nat} (h : OkA f) (hb : b < f.blocks.length) : OkA (cut f b i) where
 st := fun b' k hk ho=>by
  obtain ⟨k',e,e2⟩ := ins_cut (i := i) hb b' k
  rw [e] at ho ⊢; exact h.st b' k' (e2 hk) ho
 ld := fun b' k hk ho=>by
  obtain ⟨k',e,e2⟩ := ins_cut (i := i) hb b' k
  rw [e] at ho ⊢; exact h.ld b' k' (e2 hk) ho
 nb := by rw [cut_len]; exact h.nb
theorem tree_upd {g g' : Nat -> List AV} {k t : Nat} {x : AV} (hg : t = k -> ∃ y,g k = [y]) (h1 : t = k -> teqs [x] (g' t)) (h2 : t ≠ k -> teqs (g t) (g' t)) : teqs (setG (updG [] g k 0 [.any]) k 0 [x] t) (g' t) := by
 by_cases e : t = k
 ·subst e
  obtain ⟨y,hy⟩ := hg rfl
  have e1 : setG (updG [] g t 0 [.any]) t 0 [x] t = [x] := by
   simp only [setG,updG,if_true,hy]; rfl
  rw [e1]; exact h1 rfl
 ·have e1 : setG (updG [] g k 0 [.any]) k 0 [x] t = g t := by
   simp only [setG,updG,if_neg e]
  rw [e1]; exact h2 e
structure DS where
 b : Nat
 g : FnE
structure DI (f : FnE) (p : DS) : Prop where
 hb : p.b <= p.g.blocks.length
 nm : p.g.name = f.name /\ p.g.params = f.params /\ p.g.ret = f.ret
 red : ∃ n,totI p.g <= n /\ dseN n p.g = dseAll f
 no : ∀ b' i',b' < p.b -> i' < lenE p.g b' -> deadB p.g ⟨0,(b' : Int),(i' : Int)⟩ = false
 okF : OkF p.g
 okA : OkA p.g
def dsO (f g : FnE) : Os := [(1,.box none none [.s f.name,.orow 1001 1 0 f.params.length,.i .i64 f.ret,.orow 1002 1 0 g.blocks.length]),(2,bx (Enc.d : FnE)),(1001,oL f.params),(1002,oT g.blocks)]
theorem dseAll_S (f : FnE) (hs : OkF f) (ha : OkA f) : ASpec Tryz.prog 9 [eS f] (.agg [.s f.name,.orow 1001 1 0 f.params.length,.i .i64 f.ret,.orow 1002 1 0 (dseAll f).blocks.length]) [(1001,oL f.params),(1002,oT (dseAll f).blocks)] := by
 have hz := hs.sz
 have h1 := blocks_le f
 have h2 := params_le f
 refine ASpec.enter TYok mixed Tryz.func9 rfl Tryz.call9 Tryz.ntmps9 rfl (rs := [.cell 2 34]) rfl (nd2 (show (1001 : Nat) ≠ 1002 from by decide)) (Clo.fn (c := 1001) (d := 1002) (by decide)) (keep := [0,1,2,3,4,20,21]) ?_; conv=>whnf
 repeat' first|(refine iF (fun hb=>?_) (fun hb=>?_) <;> (try simp only [yv] at hb) <;> (have hc := hb; try simp only [sB,Int.reduceToNat] at hc; try simp only [addZ0] at hc) <;> first|(exfalso; omega)|conv=>whnf)|((first|refine ya ?_|refine yb ?_|refine And.intro ⟨rfl,fun _ _=>rfl⟩ ?_|refine And.intro (⟨⟨rfl,rfl⟩,by omega⟩ : (_ = _ /\ _ = _) /\ _) ?_|refine And.intro (⟨rfl,by omega⟩ : _ = _ /\ _) ?_|refine yc ?_|refine ye ?_|refine yf ?_|refine yi ?_|refine yk ?_|refine dD ?_|refine dF ?_|refine d0 ?_|refine d1 ?_|refine dL ?_|refine dP ?_|refine yl ?_|refine ym ?_|refine yn ?_|refine ⟨_,fun _=>(IntKind.wrap_u64 _).symm,?_⟩); conv=>whnf)|((first|refine cK (fun _=>CopyFuncT_S f hz) ?_|((try (refine CallW.lent ?_; (conv=>whnf); repeat (refine yb ?_; (conv=>whnf)))); refine cL (fun _=>CopyFuncT_S f hz) ?_)); conv=>whnf)|(refine yt ?_; conv=>whnf)|exact ⟨_,.keep rfl rfl⟩|fail
 refine lp [3] (fun p : DS=>[.i .i64 p.b]) (fun p=>dsO f p.g) (fun p=>DI f p) (fun p=>totI p.g * (p.g.blocks.length + 1) + (p.g.blocks.length - p.b)) ⟨0,f⟩ ⟨Nat.zero_le _,⟨rfl,rfl,rfl⟩,⟨_,Nat.le_refl _,rfl⟩,fun b' i' h=>absurd h (Nat.not_lt_zero _),hs,ha⟩ ?_ fun p hp=>?_
 ·refine eP [] [] ?_ ?_ <;> repeat' first|exact eN|refine And.intro ?_ ?_
  exact fun i _=>teqs_refl _
 conv=>whnf
 obtain ⟨hpb,hpn,⟨n,hn1,hn2⟩,hno,hF,hA⟩ := hp
 have hbl := blocks_le p.g
 have hgz := hF.sz
 have hcl := code_le p.g p.b
 have hdead : ∀ k : Nat,ASpec Tryz.prog 11 [.agg [.s f.name,eL f.params,.i .i64 f.ret,eL p.g.blocks],eS (⟨0,(p.b : Int),(k : Int)⟩ : Plc)] (.b (deadB p.g ⟨0,(p.b : Int),(k : Int)⟩)) [] := fun k=>by
  have := Dead_S p.g ⟨0,(p.b : Int),(k : Int)⟩ hF hA
  rw [<- hpn.1,<- hpn.2.1,<- hpn.2.2]
  exact this
 repeat' first|(refine iF (fun hb=>?_) (fun hb=>?_) <;> (try simp only [yv] at hb) <;> (have hc := hb; try simp only [sB,Int.reduceToNat] at hc; try simp only [addZ0] at hc) <;> first|(exfalso; omega)|conv=>whnf)|((first|refine ya ?_|refine yb ?_|refine And.intro ⟨rfl,fun _ _=>rfl⟩ ?_|refine And.intro (⟨⟨rfl,rfl⟩,by omega⟩ : (_ = _ /\ _ = _) /\ _) ?_|refine And.intro (⟨rfl,by omega⟩ : _ = _ /\ _) ?_|refine yc ?_|refine ye ?_|refine yf ?_|refine yi ?_|refine yk ?_|refine dD ?_|refine dF ?_|refine d0 ?_|refine d1 ?_|refine dL ?_|refine dP ?_|refine yl ?_|refine ym ?_|refine yn ?_|refine ⟨_,fun _=>(IntKind.wrap_u64 _).symm,?_⟩); conv=>whnf)|(refine yt ?_; conv=>whnf)|exact ⟨_,.keep rfl rfl⟩|fail
 ·refine lp [21] (fun k : Nat=>[.i .i64 k]) (fun k=>dsO f p.g) (fun k=>k <= lenE p.g p.b /\ ∀ i',i' < k -> deadB p.g ⟨0,(p.b : Int),(i' : Int)⟩ = false) (fun k=>lenE p.g p.b - k) 0 ⟨Nat.zero_le _,fun i' h=>absurd h (Nat.not_lt_zero _)⟩ ?_ fun k hk=>?_
  ·refine eP [] [] ?_ ?_ <;> repeat' first|exact eN|refine And.intro ?_ ?_
   exact fun i _=>teqs_refl _
  conv=>whnf
  obtain ⟨hk,hw⟩ := hk
  have hk' : k <= (p.g.blocks.getD p.b Enc.d).code.length := hk
  have hle : lenE p.g p.b = (p.g.blocks.getD p.b Enc.d).code.length := rfl
  have hlt : ∀ h : ((k : Nat) : Int) < ((p.g.blocks.getD p.b Enc.d).code.length : Int),k < (p.g.blocks.getD p.b Enc.d).code.length := fun h=>by omega
  repeat' first|(refine iF (fun hb=>?_) (fun hb=>?_) <;> (try simp only [yv] at hb) <;> (have hc := hb; try simp only [sB,Int.reduceToNat] at hc; try simp only [addZ0] at hc) <;> first|(exfalso; omega)|conv=>whnf)|((first|refine ya ?_|refine yb ?_|refine And.intro ⟨rfl,fun _ _=>rfl⟩ ?_|refine And.intro (⟨⟨rfl,rfl⟩,by omega⟩ : (_ = _ /\ _ = _) /\ _) ?_|refine And.intro (⟨rfl,by omega⟩ : _ = _ /\ _) ?_|refine yc ?_|refine ye ?_|refine yf ?_|refine yi ?_|refine yk ?_|refine dE ?_|refine dD ?_|refine dF ?_|refine d0 ?_|refine d1 ?_|refine dL ?_|refine dP ?_|refine yl ?_|refine ym ?_|refine yn ?_|refine ⟨_,fun _=>(IntKind.wrap_u64 _).symm,?_⟩); conv=>whnf)|((first|refine cK (fun _=>hdead k) ?_|((try (refine CallW.lent ?_; (conv=>whnf); repeat (refine yb ?_; (conv=>whnf)))); refine cL (fun _=>hdead k) ?_)); conv=>whnf)|(refine CallW.own ?_; (conv=>whnf); refine cM (Delete_S 100037 (p.g.blocks.getD p.b Enc.d).code k (hlt (by assumption))) ?_; conv=>whnf)|(refine yt ?_; conv=>whnf)|exact ⟨_,.keep rfl rfl⟩|fail
  ·have hb2 : p.b < p.g.blocks.length := by omega
   have hk2 : k < lenE p.g p.b := by omega
   have hst : stepD p.g = some (p.b,k) := stepD_some ⟨⟨hb2,hk2⟩,hb,fun b' i' h1 h2=>by
    rcases h1 with h1|⟨rfl,h1⟩
    ·exact hno b' i' h1 h2
    ·exact hw i' h1⟩
   have htc := tot_cut hb2 hk2
   have hmu : totI p.g * (p.g.blocks.length + 1) = totI (cut p.g p.b k) * (p.g.blocks.length + 1) + (p.g.blocks.length + 1) := by rw [<- htc,Nat.succ_mul]
   have hcl2 := cut_len p.g p.b k
   refine ⟨⟨by rw [List.length_eraseIdx]; exact if_pos (by omega),hb2⟩,?_⟩
   conv=>whnf
   repeat' first|(refine iF (fun hb=>?_) (fun hb=>?_) <;> (try simp only [yv] at hb) <;> (have hc := hb; try simp only [sB,Int.reduceToNat] at hc; try simp only [addZ0] at hc) <;> first|(exfalso; omega)|conv=>whnf)|((first|refine ya ?_|refine yb ?_|refine And.intro ⟨rfl,fun _ _=>rfl⟩ ?_|refine And.intro (⟨⟨rfl,rfl⟩,by omega⟩ : (_ = _ /\ _ = _) /\ _) ?_|refine And.intro (⟨rfl,by omega⟩ : _ = _ /\ _) ?_|refine yc ?_|refine ye ?_|refine yf ?_|refine yi ?_|refine yk ?_|refine dE ?_|refine dD ?_|refine dF ?_|refine d0 ?_|refine d1 ?_|refine dL ?_|refine dP ?_|refine yl ?_|refine ym ?_|refine yn ?_|refine ⟨_,fun _=>(IntKind.wrap_u64 _).symm,?_⟩); conv=>whnf)|(refine yt ?_; conv=>whnf)|exact ⟨_,.keep rfl rfl⟩|fail
   refine .mk ⟨0,cut p.g p.b k⟩ ⟨Nat.zero_le _,hpn,?_,fun b' i' h=>absurd h (Nat.not_lt_zero _),hF.cut hb2,hA.cut hb2⟩ (by show totI (cut p.g p.b k) * ((cut p.g p.b k).blocks.length + 1) + ((cut p.g p.b k).blocks.length - 0) < totI p.g * (p.g.blocks.length + 1) + (p.g.blocks.length - p.b); rw [hcl2]; omega) ?_
   ·cases n with
    | zero=>omega
    | succ n=>exact ⟨n,by show totI (cut p.g p.b k) <= n; omega,by rw [<- hn2,dseN,hst]⟩
   refine eP [] [] ?_ ?_ <;> repeat' first|exact eN|refine And.intro ?_ ?_
   ·exact hcl2.symm
   ·exact hcl2.symm
   ·intro t ht
    refine tree_upd (g := fun i=>Enc.enc (p.g.blocks.getD i Enc.d)) (g' := fun i=>Enc.enc ((cut p.g p.b k).blocks.getD i Enc.d)) (k := p.b) (t := t) (x := AV.row none 7 ((p.g.blocks.getD p.b Enc.d).code.length - 1) fun i=>Enc.enc (((p.g.blocks.getD p.b Enc.d).code.eraseIdx k).getD i Enc.d)) (fun e=>⟨eL (p.g.blocks.getD p.b Enc.d).code,rfl⟩) (fun e=>?_) (fun e=>?_)
    ·subst e
     show teqs _ (Enc.enc ((cut p.g p.b k).blocks.getD p.b Enc.d))
     rw [blk_cut hb2,if_pos rfl]
     unfold teqs
     refine ⟨?_,by unfold teqs; rfl⟩
     unfold teq
     exact ⟨rfl,by rw [List.length_eraseIdx]; exact (if_pos (by omega)).symm,fun i _=>teqs_refl _⟩
    ·show teqs _ (Enc.enc ((cut p.g p.b k).blocks.getD t Enc.d))
     rw [blk_cut hb2,if_neg e]
     exact teqs_refl _
  ·refine .mk (k + 1) ⟨by omega,fun i' h=>?_⟩ (by omega) ?_
   ·rcases Nat.lt_or_ge i' k with h'|h'
    ·exact hw i' h'
    ·obtain rfl : i' = k := by omega
     exact hb
   refine eP [] [] ?_ ?_ <;> repeat' first|exact eN|refine And.intro ?_ ?_
   exact fun i _=>teqs_refl _
  ·refine .mk ⟨p.b + 1,p.g⟩ ⟨(by show p.b + 1 <= p.g.blocks.length; omega),hpn,⟨n,hn1,hn2⟩,fun b' i' h1 h2=>?_,hF,hA⟩ (by show totI p.g * (p.g.blocks.length + 1) + (p.g.blocks.length - (p.b + 1)) < totI p.g * (p.g.blocks.length + 1) + (p.g.blocks.length - p.b); omega) ?_
   ·rcases Nat.lt_or_ge b' p.b with h'|h'
    ·exact hno b' i' h' h2
    ·obtain rfl : b' = p.b := by have h1 : b' < p.b + 1 := h1; omega
     have h2 : i' < lenE p.g p.b := h2
     exact hw i' (by omega)
   refine eP [] [] ?_ ?_ <;> repeat' first|exact eN|refine And.intro ?_ ?_
   exact fun i _=>teqs_refl _
 ·have hnd : noD p.g := fun b i hi=>hno b i (by
   have := len_blk hi
   omega) hi
  have e : dseAll f = p.g := by
   rw [<- hn2]
   cases n with
   | zero=>rfl
   | succ n=>rw [dseN,stepD_none hnd]
  rw [e]
  exact ⟨_,.agg (.cons (.keep rfl rfl) (.cons (.give rfl rfl rfl (fun _ _=>rfl) rfl) (.cons (.keep rfl rfl) (.cons (.giveT rfl rfl rfl (fun _ _=>teqs_refl _) rfl) .nil (nodupB_ok rfl)) (nodupB_ok rfl)) (nodupB_ok rfl)) (nodupB_ok rfl))⟩
theorem least {P : Nat -> Prop} : ∀ n,P n -> ∃ m,P m /\ ∀ k,k < m -> ¬P k := by
 intro n
 induction n using Nat.strongRecOn with
 | _ n ih =>
  intro hn
  rcases Classical.em (∃ k,k < n /\ P k) with ⟨k,h1,h2⟩|h
  ·exact ih k h1 h2
  ·exact ⟨n,hn,fun k hk hp=>h ⟨k,hk,hp⟩⟩
theorem fstD_ex {g : FnE} (h : ¬noD g) : ∃ b i,fstD g b i := by
 have h1 : ∃ b,∃ i,i < lenE g b /\ deadB g ⟨0,(b : Int),(i : Int)⟩ = true := by
  apply Classical.byContradiction
  intro hn
  refine h fun b i hi=>?_
  cases hd : deadB g ⟨0,(b : Int),(i : Int)⟩ with
  | false=>rfl
  | true=>exact absurd ⟨b,i,hi,hd⟩ hn
 obtain ⟨b0,hb0⟩ := h1
 obtain ⟨b,⟨i0,hi0⟩,hb⟩ := least (P := fun b=>∃ i,i < lenE g b /\ deadB g ⟨0,(b : Int),(i : Int)⟩ = true) b0 hb0
 obtain ⟨i,⟨h1,h2⟩,h3⟩ := least (P := fun i=>i < lenE g b /\ deadB g ⟨0,(b : Int),(i : Int)⟩ = true) i0 hi0
 refine ⟨b,i,⟨len_blk h1,h1⟩,h2,fun b' i' hlt hl=>?_⟩
 cases hd : deadB g ⟨0,(b' : Int),(i' : Int)⟩ with
 | false=>rfl
 | true =>
  rcases hlt with hlt|⟨rfl,hlt⟩
  ·exact absurd ⟨i',hl,hd⟩ (hb b' hlt)
  ·exact absurd ⟨hl,hd⟩ (h3 i' hlt)
theorem stepD_cases (g : FnE) : (noD g /\ stepD g = none) \/ ∃ b i,fstD g b i /\ stepD g = some (b,i) := by
 rcases Classical.em (noD g) with h|h
 ·exact .inl ⟨h,stepD_none h⟩
 ·obtain ⟨b,i,h⟩ := fstD_ex h
  exact .inr ⟨b,i,h,stepD_some h⟩
theorem len_tot {g : FnE} {b : Nat} : lenE g b <= totI g := by
 unfold lenE totI
 rcases Nat.lt_or_ge b g.blocks.length with h|h
 ·have : (g.blocks.getD b Enc.d).code.length ∈ g.blocks.map fun b=>b.code.length := by
   rw [List.getD_eq_getElem?_getD,List.getElem?_eq_getElem h]
   exact List.mem_map.2 ⟨_,List.getElem_mem h,rfl⟩
  generalize (g.blocks.map fun b=>b.code.length) = l at this ⊢
  induction l with
  | nil=>cases this
  | cons x l ih =>
   rw [List.sum_cons]
   cases this with
   | head=>omega
   | tail _ h=>have := ih h; omega
 ·rw [List.getD_eq_getElem?_getD,List.getElem?_eq_none h]; exact Nat.zero_le _
inductive SubS : List InsE -> List InsE -> Prop
 | nil : SubS [] []
 | keep {x l m} : SubS l m -> SubS (x :: l) (x :: m)
 | drop {x l m} : x.op = 28 -> SubS l m -> SubS (x :: l) m
theorem SubS.refl : ∀ l : List InsE,SubS l l
 | []=>.nil
 | x :: l=>.keep (SubS.refl l)
theorem SubS.erase : ∀ {l m : List InsE} {i : Nat},SubS l m -> i < m.length -> (m.getD i Enc.d).op = 28 -> SubS l (m.eraseIdx i)
 | _,_,i,.nil,hi,_=>absurd hi (Nat.not_lt_zero _)
 | _,_,0,.keep h,hi,ho=>.drop ho h
 | _,_,i + 1,.keep h,hi,ho=>.keep (h.erase (Nat.lt_of_succ_lt_succ hi) ho)
 | _,_,i,.drop hx h,hi,ho=>.drop hx (h.erase hi ho)
theorem SubS.tl {x : InsE} {m : List InsE} : ∀ {l : List InsE},x.op = 28 -> SubS l (x :: m) -> SubS l m
 | _,hx,.keep h=>.drop hx h
 | _,hx,.drop hy h=>.drop hy (h.tl hx)
theorem SubS.eq {x : InsE} {l m : List InsE} (h : SubS (x :: l) (x :: m)) : SubS l m := by
 cases h with
 | keep h=>exact h
 | drop hx h=>exact h.tl hx
structure CutOf (f g : FnE) : Prop where
 nm : g.name = f.name /\ g.params = f.params /\ g.ret = f.ret
 len : g.blocks.length = f.blocks.length
 sub : ∀ b,SubS (f.blocks.getD b Enc.d).code (g.blocks.getD b Enc.d).code
 sz : siz g <= siz f
 okF : OkF g
 okA : OkA g
theorem CutOf.refl {f : FnE} (hs : OkF f) (ha : OkA f) : CutOf f f := ⟨⟨rfl,rfl,rfl⟩,rfl,fun b=>.refl _,Nat.le_refl _,hs,ha⟩
theorem dead_op {g : FnE} {b i : Nat} (h : deadB g ⟨0,(b : Int),(i : Int)⟩ = true) : (insE g b i).op = 28 := by
 have := (@decide_eq_true_iff _ (Classical.propDecidable _)).1 h
 exact this.2.2.2.1
theorem CutOf.cut {f g : FnE} {b i : Nat} (h : CutOf f g) (hd : fstD g b i) : CutOf f (cut g b i) where
 nm := h.nm
 len := by rw [cut_len]; exact h.len
 sub := fun b'=>by
  rw [blk_cut hd.1.1]
  split
  ·rename_i e; subst e
   exact (h.sub b').erase hd.1.2 (dead_op hd.2.1)
  ·exact h.sub b'
 sz := Nat.le_trans (siz_cut g b i) h.sz
 okF := h.okF.cut hd.1.1
 okA := h.okA.cut hd.1.1
theorem dseN_all : ∀ {n : Nat} {f g : FnE},CutOf f g -> totI g <= n -> CutOf f (dseN n g) /\ noD (dseN n g)
 | 0,f,g,h,ht=>⟨h,fun b i hi=>by have := len_tot (g := g) (b := b); exact absurd (show i < lenE g b from hi) (by omega)⟩
 | n + 1,f,g,h,ht=>by
  rcases stepD_cases g with ⟨h1,h2⟩|⟨b,i,h1,h2⟩
  ·rw [dseN,h2]; exact ⟨h,h1⟩
  ·rw [dseN,h2]
   have := tot_cut h1.1.1 h1.1.2
   exact dseN_all (h.cut h1) (by omega)
theorem dseAll_cut {f : FnE} (hs : OkF f) (ha : OkA f) : CutOf f (dseAll f) /\ noD (dseAll f) := dseN_all (.refl hs ha) (Nat.le_refl _)
theorem Clo.fnR {a : ByteArray} {r : Int} {c d n m N : Nat} {e e' : Nat} {g g2 : Nat -> List AV} {q q2 : Option Nat} (h : c ≠ d) : Clo (.agg [.s a,.orow c 1 0 n,.i .i64 r,.orow d 1 0 m]) [(c,.row q e N g),(d,.row q2 e' m g2)] := by
 refine ⟨fun id hm=>?_,fun i ob h id hm=>?_⟩
 ·simp only [men,mens,Bool.or_eq_true,Bool.or_false,Bool.false_or] at hm
  rcases hm with hm|hm
  ·have := Nat.eq_of_beq_eq_true hm; subst this; rw [lk_cons,if_pos rfl]; rfl
  ·have := Nat.eq_of_beq_eq_true hm; subst this; rw [lk_cons,if_neg h,lk_cons,if_pos rfl]; rfl
 ·rw [lk_cons] at h
  split at h
  ·cases h; cases hm
  ·rw [lk_cons] at h
   split at h
   ·cases h; cases hm
   ·simp [lk] at h
theorem CopyFunc1_S (f : FnE) (hs : siz f < 4294967296) : ASpec Tryz.prog 8 [eS f] (.agg [.s f.name,.orow 1001 1 0 f.params.length,.i .i64 f.ret,.orow 1002 1 0 f.blocks.length]) [(1001,oL f.params),(1002,oL f.blocks)] := by
 have h1 := blocks_le f
 have h2 := params_le f
 refine ASpec.enter TYok mixed Tryz.func8 rfl Tryz.call8 Tryz.ntmps8 rfl (rs := [.cell 2 34]) rfl (nd2 (show (1001 : Nat) ≠ 1002 from by decide)) (Clo.fnR (c := 1001) (d := 1002) (by decide)) (keep := [0,1,2,3,4,5,6,7,8,9]) ?_; conv=>whnf
 repeat' first|(refine iF (fun hb=>?_) (fun hb=>?_) <;> (try simp only [yv] at hb) <;> (have hc := hb; try simp only [sB,Int.reduceToNat] at hc; try simp only [addZ0] at hc) <;> first|(exfalso; omega)|conv=>whnf)|((first|refine ya ?_|refine yb ?_|refine yc ?_|refine yd ?_|refine yf ?_|refine yh ?_|refine yj ?_|refine dD ?_|refine dF ?_|refine d0 ?_|refine d1 ?_|refine dL ?_|refine dP ?_|refine yl ?_|refine ym ?_|refine yn ?_|refine ⟨_,fun _=>(IntKind.wrap_u64 _).symm,?_⟩); conv=>whnf)|(refine yt ?_; conv=>whnf)|exact ⟨_,.keep rfl rfl⟩|fail
 refine lp [4] (fun b : Nat=>[.i .i64 b]) (cfO f) (fun b=>b <= f.blocks.length) (fun b=>f.blocks.length - b) 0 (by omega) ?_ fun b hb0=>?_
 ·refine eP [] [73] ?_ ?_ <;> repeat' first|exact eN|refine And.intro ?_ ?_
 conv=>whnf
 have h3 := code_le f b
 repeat' first|(refine iF (fun hb=>?_) (fun hb=>?_) <;> (try simp only [yv] at hb) <;> (have hc := hb; try simp only [sB,Int.reduceToNat] at hc; try simp only [addZ0] at hc) <;> first|(exfalso; omega)|conv=>whnf)|((first|refine ya ?_|refine yb ?_|refine yc ?_|refine yd ?_|refine yf ?_|refine yh ?_|refine yj ?_|refine dD ?_|refine dF ?_|refine d0 ?_|refine d1 ?_|refine dL ?_|refine dP ?_|refine yl ?_|refine ym ?_|refine yn ?_|refine ⟨_,fun _=>(IntKind.wrap_u64 _).symm,?_⟩); conv=>whnf)|(refine yt ?_; conv=>whnf)|exact ⟨_,.keep rfl rfl⟩|fail
 ·refine lp [6,5] (fun k : Nat=>[.i .i64 k,.orow 5 7 0 k]) (fun k=>(5,.row none 7 k fun i=>Enc.enc ((f.blocks.getD b Enc.d).code.getD i Enc.d)) :: cfO f b) (fun k=>k <= (f.blocks.getD b Enc.d).code.length) (fun k=>(f.blocks.getD b Enc.d).code.length - k) 0 (by omega) ?_ fun k hk=>?_
  ·refine eP [] [5] ?_ ?_ <;> repeat' first|exact eN|refine And.intro ?_ ?_
  conv=>whnf
  have h4 := ins_le f b k
  have h5 := args_le ((f.blocks.getD b Enc.d).code.getD k Enc.d)
  have h6 := to_le ((f.blocks.getD b Enc.d).code.getD k Enc.d)
  repeat' first|(refine iF (fun hb=>?_) (fun hb=>?_) <;> (try simp only [yv] at hb) <;> (have hc := hb; try simp only [sB,Int.reduceToNat] at hc; try simp only [addZ0] at hc) <;> first|(exfalso; omega)|conv=>whnf)|((first|refine ya ?_|refine yb ?_|refine yc ?_|refine yd ?_|refine yf ?_|refine yh ?_|refine yj ?_|refine dD ?_|refine dF ?_|refine d0 ?_|refine d1 ?_|refine dL ?_|refine dP ?_|refine yl ?_|refine ym ?_|refine yn ?_|refine ⟨_,fun _=>(IntKind.wrap_u64 _).symm,?_⟩); conv=>whnf)|(refine yt ?_; conv=>whnf)|exact ⟨_,.keep rfl rfl⟩|fail
  ·refine .mk (k + 1) (by omega) (by omega) ?_
   refine eP [(5,63)] [] ?_ ?_ <;> repeat' first|exact eN|refine And.intro ?_ ?_
   exact snoc_fun rfl
  ·obtain rfl : k = (f.blocks.getD b Enc.d).code.length := by omega
   refine .mk (b + 1) (by omega) (by omega) ?_
   refine eP [(73,69)] [] ?_ ?_ <;> repeat' first|exact eN|refine And.intro ?_ ?_
   exact snoc_fun rfl
 ·have e : b = f.blocks.length := by omega
  subst e
  exact ⟨_,.agg (.cons (.keep rfl rfl) (.cons (.give rfl rfl rfl (fun _ _=>rfl) rfl) (.cons (.keep rfl rfl) (.cons (.give rfl rfl rfl (fun _ _=>rfl) rfl) .nil (nodupB_ok rfl)) (nodupB_ok rfl)) (nodupB_ok rfl)) (nodupB_ok rfl))⟩
def acE (c : List InsE) (i q : Nat) : List InsE := (c.take q).eraseIdx i
theorem acE_succ {c : List InsE} {i q : Nat} (hq : q < c.length) : acE c i (q + 1) = if q = i then acE c i q else acE c i q ++ [c.getD q Enc.d] := by
 unfold acE
 have hl : (c.take q).length = q := by rw [List.length_take]; omega
 rw [List.take_add_one,List.getElem?_eq_getElem hq,Option.toList_some]
 split
 ·rename_i e
  subst e
  rw [List.eraseIdx_append_of_length_le (by omega),hl,Nat.sub_self,List.eraseIdx_cons_zero,List.append_nil,List.eraseIdx_of_length_le (by omega)]
 ·rename_i e
  rw [List.getD_eq_getElem?_getD,List.getElem?_eq_getElem hq]
  rcases Nat.lt_or_ge i q with h|h
  ·rw [List.eraseIdx_append_of_lt_length (by omega)]; rfl
  ·rw [List.eraseIdx_of_length_le (by rw [List.length_append,List.length_singleton]; omega),List.eraseIdx_of_length_le (by omega)]; rfl
theorem acE_len (c : List InsE) (i q : Nat) : (acE c i q).length <= c.length := by
 unfold acE
 refine Nat.le_trans (List.length_eraseIdx_le _ _) ?_
 rw [List.length_take]; omega
theorem acE_all {c : List InsE} {i q : Nat} (h : c.length <= q) : acE c i q = c.eraseIdx i := by unfold acE; rw [List.take_of_length_le h]
theorem Without15_F (f : FnE) (b i : Nat) (hs : siz f < 4294967296) (hb0 : b < f.blocks.length) (hi0 : i < lenE f b) : ASpec Tryz.prog 28 [eS f,eS (⟨0,b,i⟩ : Plc)] (eS (cut f b i)) [] := by
 have h1 := blocks_le f
 have h2 := code_le f b
 have hi : i < (f.blocks.getD b Enc.d).code.length := hi0
 refine ASpec.enter TYok mixed Tryz.func28 rfl Tryz.call28 Tryz.ntmps28 rfl (rs := [.cell 4 34]) rfl (nodupB_ok rfl) (Clo.one rfl) (keep := [0,1,2,3,4,5,6,7]) ?_; conv=>whnf
 repeat' first|(refine iF (fun hb=>?_) (fun hb=>?_) <;> (try simp only [yv] at hb) <;> (have hc := hb; try simp only [sB,Int.reduceToNat] at hc; try simp only [addZ0] at hc) <;> first|(exfalso; omega)|conv=>whnf)|((first|refine ya ?_|refine yb ?_|refine yc ?_|refine yd ?_|refine yf ?_|refine yh ?_|refine yj ?_|refine dD ?_|refine dF ?_|refine d0 ?_|refine d1 ?_|refine dL ?_|refine dP ?_|refine yl ?_|refine ym ?_|refine yn ?_|refine ⟨_,fun _=>(IntKind.wrap_u64 _).symm,?_⟩); conv=>whnf)|((first|refine cK (fun _=>CopyFunc1_S f hs) ?_|((try (refine CallW.lent ?_; (conv=>whnf); repeat (refine yb ?_; (conv=>whnf)))); refine cL (fun _=>CopyFunc1_S f hs) ?_)); conv=>whnf)|(refine yt ?_; conv=>whnf)|exact ⟨_,.keep rfl rfl⟩|fail
 refine lp [7,6] (fun q : Nat=>[.i .i64 q,.orow 6 7 0 (acE (f.blocks.getD b Enc.d).code i q).length]) (fun q=>[(6,oL (acE (f.blocks.getD b Enc.d).code i q)),(5,.box none none [.s f.name,.orow 1001 1 0 f.params.length,.i .i64 f.ret,.orow 1002 1 0 f.blocks.length]),(3,bx (⟨0,b,i⟩ : Plc)),(4,bx (Enc.d : FnE)),(2,bx f),(1001,oL f.params),(1002,oL f.blocks)]) (fun q=>q <= (f.blocks.getD b Enc.d).code.length) (fun q=>(f.blocks.getD b Enc.d).code.length - q) 0 (Nat.zero_le _) ?_ fun q hq=>?_
 ·refine eP [] [6] ?_ ?_ <;> repeat' first|exact eN|refine And.intro ?_ ?_
 conv=>whnf
 have h3 := acE_len (f.blocks.getD b Enc.d).code i q
 rcases Nat.lt_or_ge q (f.blocks.getD b Enc.d).code.length with hlt|hge
 ·have e := acE_succ (i := i) hlt
  repeat' first|(refine iF (fun hb=>?_) (fun hb=>?_) <;> (try simp only [yv] at hb) <;> (have hc := hb; try simp only [sB,Int.reduceToNat] at hc; try simp only [addZ0] at hc) <;> first|(exfalso; omega)|conv=>whnf)|((first|refine ya ?_|refine yb ?_|refine yc ?_|refine yd ?_|refine yf ?_|refine yh ?_|refine yj ?_|refine dD ?_|refine dF ?_|refine d0 ?_|refine d1 ?_|refine dL ?_|refine dP ?_|refine yl ?_|refine ym ?_|refine yn ?_|refine ⟨_,fun _=>(IntKind.wrap_u64 _).symm,?_⟩); conv=>whnf)|(refine yt ?_; conv=>whnf)|exact ⟨_,.keep rfl rfl⟩|fail
  ·have e2 : acE (f.blocks.getD b Enc.d).code i (q + 1) = acE (f.blocks.getD b Enc.d).code i q ++ [(f.blocks.getD b Enc.d).code.getD q Enc.d] := e.trans (if_neg (by omega))
   refine .mk (q + 1) (by omega) (by omega) ?_
   refine eP [(6,38)] [] ?_ ?_ <;> repeat' first|exact eN|refine And.intro ?_ ?_|exact snoc_len e2|exact snoc_get e2 rfl|rw [e2]
  ·have e2 : acE (f.blocks.getD b Enc.d).code i (q + 1) = acE (f.blocks.getD b Enc.d).code i q := e.trans (if_pos (by omega))
   refine .mk (q + 1) (by omega) (by omega) ?_
   rw [e2]
   refine eP [] [] ?_ ?_ <;> repeat' first|exact eN|refine And.intro ?_ ?_
 ·repeat' first|(refine iF (fun hb=>?_) (fun hb=>?_) <;> (try simp only [yv] at hb) <;> (have hc := hb; try simp only [sB,Int.reduceToNat] at hc; try simp only [addZ0] at hc) <;> first|(exfalso; omega)|conv=>whnf)|((first|refine ya ?_|refine yb ?_|refine yc ?_|refine yd ?_|refine yf ?_|refine yh ?_|refine yj ?_|refine dD ?_|refine dF ?_|refine d0 ?_|refine d1 ?_|refine dL ?_|refine dP ?_|refine yl ?_|refine ym ?_|refine yn ?_|refine ⟨_,fun _=>(IntKind.wrap_u64 _).symm,?_⟩); conv=>whnf)|(refine yt ?_; conv=>whnf)|exact ⟨_,.keep rfl rfl⟩|fail
  refine ⟨_,.agg (.cons (.keep rfl rfl) (.cons (.freeze rfl (by omega) rfl (fun _ _=>rfl) rfl) (.cons (.keep rfl rfl) (.cons (.freeze (N := f.blocks.length) rfl (by omega) (cut_len f b i).symm (fun k hk=>?_) rfl) .nil (nodupB_ok rfl)) (nodupB_ok rfl)) (nodupB_ok rfl)) (nodupB_ok rfl))⟩
  rw [offF_eq,Nat.zero_add,blk_cut hb0]
  unfold setF
  split
  ·rename_i h
   have h : k = b := by rw [addZ_eq] at h; simpa using h
   rw [if_pos h]
   show _ = [eL ((f.blocks.getD b Enc.d).code.eraseIdx i)]
   rw [<- acE_all hge]; rfl
  ·rename_i h
   have h : ¬k = b := fun e=>h (by rw [addZ_eq]; simpa using e)
   rw [if_neg h]
def c2O (f : FnE) (b : Nat) : Os := [(1,bx f),(2,bx (Enc.d : FnE)),(3,.box none none [.s f.name,.orow 19 1 0 f.params.length,.i .i64 f.ret,.orow 1002 1 0 b]),(19,oL f.params),(1002,.tree 1 b fun i=>Enc.enc (f.blocks.getD i Enc.d))]
theorem CopyFunc2_S (f : FnE) (hs : siz f < 4294967296) : ASpec Tryz.prog 8 [eS f] (.agg [.s f.name,.orow 1001 1 0 f.params.length,.i .i64 f.ret,.orow 1002 1 0 f.blocks.length]) [(1001,oL f.params),(1002,oT f.blocks)] := by
 have h1 := blocks_le f
 have h2 := params_le f
 refine ASpec.enter TYok mixed Tryz.func8 rfl Tryz.call8 Tryz.ntmps8 rfl (rs := [.cell 2 34]) rfl (nd2 (show (1001 : Nat) ≠ 1002 from by decide)) (Clo.fn (c := 1001) (d := 1002) (by decide)) (keep := [0,1,2,3,4,5,6,7,8,9]) ?_; conv=>whnf
 repeat' first|(refine iF (fun hb=>?_) (fun hb=>?_) <;> (try simp only [yv] at hb) <;> (have hc := hb; try simp only [sB,Int.reduceToNat] at hc; try simp only [addZ0] at hc) <;> first|(exfalso; omega)|conv=>whnf)|((first|refine ya ?_|refine yb ?_|refine yc ?_|refine yd ?_|refine yf ?_|refine yh ?_|refine yj ?_|refine dD ?_|refine dF ?_|refine d0 ?_|refine d1 ?_|refine dL ?_|refine dP ?_|refine yl ?_|refine ym ?_|refine yn ?_|refine ⟨_,fun _=>(IntKind.wrap_u64 _).symm,?_⟩); conv=>whnf)|(refine yt ?_; conv=>whnf)|exact ⟨_,.keep rfl rfl⟩|fail
 refine lp [4] (fun b : Nat=>[.i .i64 b]) (c2O f) (fun b=>b <= f.blocks.length) (fun b=>f.blocks.length - b) 0 (by omega) ?_ fun b hb0=>?_
 ·refine eP [] [1002] ?_ ?_ <;> repeat' first|exact eN|refine And.intro ?_ ?_
 conv=>whnf
 have h3 := code_le f b
 repeat' first|(refine iF (fun hb=>?_) (fun hb=>?_) <;> (try simp only [yv] at hb) <;> (have hc := hb; try simp only [sB,Int.reduceToNat] at hc; try simp only [addZ0] at hc) <;> first|(exfalso; omega)|conv=>whnf)|((first|refine ya ?_|refine yb ?_|refine yc ?_|refine yd ?_|refine yf ?_|refine yh ?_|refine yj ?_|refine dD ?_|refine dF ?_|refine d0 ?_|refine d1 ?_|refine dL ?_|refine dP ?_|refine yl ?_|refine ym ?_|refine yn ?_|refine ⟨_,fun _=>(IntKind.wrap_u64 _).symm,?_⟩); conv=>whnf)|(refine yt ?_; conv=>whnf)|exact ⟨_,.keep rfl rfl⟩|fail
 ·refine lp [6,5] (fun k : Nat=>[.i .i64 k,.orow 1003 7 0 k]) (fun k=>(1003,.tree 7 k fun i=>Enc.enc ((f.blocks.getD b Enc.d).code.getD i Enc.d)) :: c2O f b) (fun k=>k <= (f.blocks.getD b Enc.d).code.length) (fun k=>(f.blocks.getD b Enc.d).code.length - k) 0 (by omega) ?_ fun k hk=>?_
  ·refine eP [] [1003] ?_ ?_ <;> repeat' first|exact eN|refine And.intro ?_ ?_
   exact fun i _=>teqs_refl _
  conv=>whnf
  have h4 := ins_le f b k
  have h5 := args_le ((f.blocks.getD b Enc.d).code.getD k Enc.d)
  have h6 := to_le ((f.blocks.getD b Enc.d).code.getD k Enc.d)
  repeat' first|(refine iF (fun hb=>?_) (fun hb=>?_) <;> (try simp only [yv] at hb) <;> (have hc := hb; try simp only [sB,Int.reduceToNat] at hc; try simp only [addZ0] at hc) <;> first|(exfalso; omega)|conv=>whnf)|((first|refine ya ?_|refine yb ?_|refine And.intro ⟨rfl,fun _ _=>rfl⟩ ?_|refine And.intro (⟨⟨rfl,rfl⟩,by omega⟩ : (_ = _ /\ _ = _) /\ _) ?_|refine And.intro (⟨rfl,by omega⟩ : _ = _ /\ _) ?_|refine yc ?_|refine ye ?_|refine yf ?_|refine yi ?_|refine yk ?_|refine dD ?_|refine dF ?_|refine d0 ?_|refine d1 ?_|refine dL ?_|refine dP ?_|refine yl ?_|refine ym ?_|refine yn ?_|refine ⟨_,fun _=>(IntKind.wrap_u64 _).symm,?_⟩); conv=>whnf)|(refine yt ?_; conv=>whnf)|exact ⟨_,.keep rfl rfl⟩|fail
  ·refine .mk (k + 1) (by omega) (by omega) ?_
   refine eP [(1003,63)] [] ?_ ?_ <;> repeat' first|exact eN|refine And.intro ?_ ?_
   all_goals first|exact fun i hi=>cat_snoc (teqs_refl _) i hi|exact fun i _=>teqs_refl _
  ·obtain rfl : k = (f.blocks.getD b Enc.d).code.length := by omega
   refine .mk (b + 1) (by omega) (by omega) ?_
   refine eP [(1002,69)] [] ?_ ?_ <;> repeat' first|exact eN|refine And.intro ?_ ?_
   exact fun i hi=>cat_snoc (teqs_refl _) i hi
 ·obtain rfl : b = f.blocks.length := by omega
  exact ⟨_,.agg (.cons (.keep rfl rfl) (.cons (.give rfl rfl rfl (fun _ _=>rfl) rfl) (.cons (.keep rfl rfl) (.cons (.giveT rfl rfl rfl (fun _ _=>teqs_refl _) rfl) .nil (nodupB_ok rfl)) (nodupB_ok rfl)) (nodupB_ok rfl)) (nodupB_ok rfl))⟩
def EndF (g : FnE) : Prop := ∀ b,b < g.blocks.length -> ∃ k,lenE g b = k + 1 /\ (insE g b k).op ≠ 28
theorem RightF.code {m : ModE} {f : FnE} (h : RightF m f) : (Code f).length <= 400 := by
 obtain ⟨n,h⟩ := h.blk
 unfold blocksF at h
 split at h
 ·simp at h
 ·omega
theorem RightF.endF {m : ModE} {f : FnE} (h : RightF m f) : EndF f := fun b hb=>by
 obtain ⟨n,h⟩ := h.blk
 unfold blocksF at h
 split at h
 ·simp at h
 have hz : (blkF f n b).code = 0 := firstF_zero (c := fun b=>blkF f n b) h b hb
 unfold blkF at hz
 split at hz
 ·simp at hz
 ·rename_i h1
  split at hz
  ·simp at hz
  ·rename_i h2
   have h1' : ¬(f.blocks.getD b Enc.d).code.length = 0 := h1
   refine ⟨(f.blocks.getD b Enc.d).code.length - 1,by unfold lenE; omega,fun h3=>h2 ?_⟩
   have e : lastB f b = insE f b ((f.blocks.getD b Enc.d).code.length - 1) := by
    unfold lastB codeB insE
    rw [show (((f.blocks.getD b Enc.d).code.length : Int) - 1).toNat = (f.blocks.getD b Enc.d).code.length - 1 by omega]
   rw [e,h3]; decide
theorem erase_get {l : List InsE} {i k : Nat} (h : i <= k) : (l.eraseIdx i).getD k Enc.d = l.getD (k + 1) Enc.d := by
 rw [List.getD_eq_getElem?_getD,List.getD_eq_getElem?_getD,List.getElem?_eraseIdx,if_neg (by omega)]
theorem cut_last {g : FnE} {b i : Nat} (h : EndF g) (hb : b < g.blocks.length) (hi : i < lenE g b) (ho : (insE g b i).op = 28) (b' : Nat) (hb' : b' < g.blocks.length) :
  (((cut g b i).blocks.getD b' Enc.d).code.length = 0 ↔ (g.blocks.getD b' Enc.d).code.length = 0) /\ ((cut g b i).blocks.getD b' Enc.d).code.getD ((((cut g b i).blocks.getD b' Enc.d).code.length : Int) - 1).toNat Enc.d = (g.blocks.getD b' Enc.d).code.getD (((g.blocks.getD b' Enc.d).code.length : Int) - 1).toNat Enc.d := by
 rw [blk_cut hb]
 by_cases e : b' = b
 ·subst e
  rw [if_pos rfl]
  obtain ⟨k,h1,h2⟩ := h b' hb
  have h1' : (g.blocks.getD b' Enc.d).code.length = k + 1 := h1
  have hik : i < k := by
   have : i ≠ k := fun e=>h2 (e ▸ ho)
   omega
  have hl : ((g.blocks.getD b' Enc.d).code.eraseIdx i).length = k := by rw [List.length_eraseIdx,if_pos (by omega),h1']; rfl
  show (((g.blocks.getD b' Enc.d).code.eraseIdx i).length = 0 ↔ _) /\ ((g.blocks.getD b' Enc.d).code.eraseIdx i).getD ((((g.blocks.getD b' Enc.d).code.eraseIdx i).length : Int) - 1).toNat Enc.d = _
  rw [hl,h1',show ((k : Int) - 1).toNat = k - 1 by omega,show (((k + 1 : Nat) : Int) - 1).toNat = k by omega,erase_get (by omega),show k - 1 + 1 = k by omega]
  exact ⟨⟨fun h=>by omega,fun h=>by omega⟩,rfl⟩
 ·rw [if_neg e]; exact ⟨Iff.rfl,rfl⟩
theorem Succs_cut {g : FnE} {b i : Nat} (h : EndF g) (hb : b < g.blocks.length) (hi : i < lenE g b) (ho : (insE g b i).op = 28) (c : Int) : Succs (cut g b i) c = Succs g c := by
 unfold Succs
 rw [cut_len]
 by_cases hc : c < 0 \/ (g.blocks.length : Int) <= c
 ·rw [if_pos hc,if_pos hc]
 ·rw [if_neg hc,if_neg hc]
  obtain ⟨k1,k2⟩ := cut_last h hb hi ho c.toNat (by omega)
  dsimp only
  rw [k2]
  by_cases h0 : (g.blocks.getD c.toNat Enc.d).code.length = 0
  ·rw [if_pos (k1.2 h0),if_pos h0]
  ·rw [if_neg (fun q=>h0 (k1.1 q)),if_neg h0]
theorem RG_cut {g : FnE} {b i : Nat} (h : EndF g) (hb : b < g.blocks.length) (hi : i < lenE g b) (ho : (insE g b i).op = 28) (x : Nat) : RG (cut g b i) (-1) x ↔ RG g (-1) x := by
 constructor
 ·intro hr
  induction hr with
  | zero h1 h2=>exact .zero (by rw [cut_len] at h1; exact h1) h2
  | step _ h2 h3 ih=>rw [Succs_cut h hb hi ho] at h2; exact .step ih h2 h3
 ·intro hr
  induction hr with
  | zero h1 h2=>exact .zero (by rw [cut_len]; exact h1) h2
  | step _ h2 h3 ih=>rw [<- Succs_cut h hb hi ho] at h2; exact .step ih h2 h3
theorem EndF.cut {g : FnE} {b i : Nat} (h : EndF g) (hb : b < g.blocks.length) (hi : i < lenE g b) (ho : (insE g b i).op = 28) : EndF (cut g b i) := fun b' hb'=>by
 rw [cut_len] at hb'
 obtain ⟨k1,k2⟩ := cut_last h hb hi ho b' hb'
 obtain ⟨k,h1,h2⟩ := h b' hb'
 have h1' : (g.blocks.getD b' Enc.d).code.length = k + 1 := h1
 have h3 : ¬((Go.Proofs.YtjfdbmfcnhjfoaaGreat.cut g b i).blocks.getD b' Enc.d).code.length = 0 := fun e=>by have := k1.1 e; omega
 refine ⟨((Go.Proofs.YtjfdbmfcnhjfoaaGreat.cut g b i).blocks.getD b' Enc.d).code.length - 1,by show ((Go.Proofs.YtjfdbmfcnhjfoaaGreat.cut g b i).blocks.getD b' Enc.d).code.length = _; omega,?_⟩
 have e2 : insE (Go.Proofs.YtjfdbmfcnhjfoaaGreat.cut g b i) b' (((Go.Proofs.YtjfdbmfcnhjfoaaGreat.cut g b i).blocks.getD b' Enc.d).code.length - 1) = insE g b' k := by
  unfold insE
  rw [show ((Go.Proofs.YtjfdbmfcnhjfoaaGreat.cut g b i).blocks.getD b' Enc.d).code.length - 1 = ((((Go.Proofs.YtjfdbmfcnhjfoaaGreat.cut g b i).blocks.getD b' Enc.d).code.length : Int) - 1).toNat by omega,k2,h1',show (((k + 1 : Nat) : Int) - 1).toNat = k by omega]
 rw [e2]; exact h2
theorem isRG_cut {g : FnE} {b i : Nat} {R : List Bool} (h : EndF g) (hb : b < g.blocks.length) (hi : i < lenE g b) (ho : (insE g b i).op = 28) (hR : isRG g (-1) R) : isRG (cut g b i) (-1) R := by
 refine ⟨by rw [cut_len]; exact hR.1,fun x hx=>?_⟩
 rw [cut_len] at hx
 exact (hR.2 x hx).trans (RG_cut h hb hi ho x).symm
theorem srcL_in {f : FnE} {y : InsE} {pb pi : Nat} : ∀ q ∈ srcL f y pb pi,∃ b i : Nat,q = ⟨0,(b : Int),(i : Int)⟩ /\ b < f.blocks.length /\ i < lenE f b := fun q h=>by
 unfold srcL at h
 obtain ⟨c,h1,h2⟩ := List.mem_map.1 h
 obtain ⟨b,k,h3,h4,h5⟩ := Code_mem (List.mem_filter.1 h1).1
 exact ⟨b,k,by rw [<- h2,h5],h3,h4⟩
def opnR (m : Nat -> Int) (i k : Nat) : Prop := ∀ j,i <= j -> j < k -> m j ≠ 2
theorem opnR_0 {m : Nat -> Int} {k : Nat} : opnR m 0 k ↔ opnM m k := ⟨fun h j hj=>h j (Nat.zero_le _) hj,fun h j _ hj=>h j hj⟩
inductive FR (f : FnE) (y : InsE) (b0 i0 : Nat) : Nat -> Prop
 | start {t : Nat} : opnR (mE f y b0) i0 (lenE f b0) -> (t : Int) ∈ Succs f b0 -> FR f y b0 i0 t
 | step {b t : Nat} : FR f y b0 i0 b -> opnM (mE f y b) (lenE f b) -> (t : Int) ∈ Succs f b -> FR f y b0 i0 t
def LeadsTo (f : FnE) (y : InsE) (pb pi b0 i0 : Nat) : Prop := (b0 = pb /\ i0 <= pi /\ opnR (mE f y b0) i0 pi) \/ (FR f y b0 i0 pb /\ opnM (mE f y pb) pi)
noncomputable def leadB (f : FnE) (y : InsE) (pb pi b0 i0 : Nat) : Bool := @decide (LeadsTo f y pb pi b0 i0) (Classical.propDecidable _)
theorem FR_RG {f : FnE} {y : InsE} {b0 i0 t : Nat} (h0 : RG f (-1) b0) (h : FR f y b0 i0 t) : RG f (-1) t := by
 have key : ∀ {b t : Nat},RG f (-1) b -> (t : Int) ∈ Succs f b -> RG f (-1) t := fun {b t} hb ht=>by
  have := RG.step (g := -1) hb ht (by omega)
  simpa using this
 induction h with
 | start _ h=>exact key h0 h
 | step _ _ h ih=>exact key ih h
theorem BK_FR {f : FnE} {y : InsE} {pb pi b0 i0 q : Nat} (h : BK f y pb pi q) : (∀ t : Nat,(t : Int) ∈ Succs f q -> FR f y b0 i0 t) -> FR f y b0 i0 pb /\ opnM (mE f y pb) pi := by
 induction h with
 | base h1 h2 _=>exact fun h=>⟨h _ h2,h1⟩
 | step _ h2 h3 _ ih=>exact fun h=>ih fun t ht=>.step (h _ h3) h2 ht
theorem FR_BK {f : FnE} {y : InsE} {pb pi b0 i0 t : Nat} (h0 : RG f (-1) b0) (h : FR f y b0 i0 t) : ((t = pb /\ opnM (mE f y pb) pi) \/ (BK f y pb pi t /\ opnM (mE f y t) (lenE f t))) -> BK f y pb pi b0 /\ opnR (mE f y b0) i0 (lenE f b0) := by
 have mk : ∀ {b t : Nat},RG f (-1) b -> (t : Int) ∈ Succs f b -> ((t = pb /\ opnM (mE f y pb) pi) \/ (BK f y pb pi t /\ opnM (mE f y t) (lenE f t))) -> BK f y pb pi b := fun {b t} hr ht hc=>by
  rcases hc with ⟨rfl,h⟩|⟨h1,h2⟩
  ·exact .base h ht hr
  ·exact .step h1 h2 ht hr
 induction h with
 | start h1 h2=>exact fun hc=>⟨mk h0 h2 hc,h1⟩
 | step h1 h2 h3 ih=>exact fun hc=>ih (.inr ⟨mk (FR_RG h0 h1) h3 hc,h2⟩)
theorem Fnd_iff {f : FnE} {y : InsE} {pb pi b i : Nat} (hp : RG f (-1) pb) (hi : i < lenE f b) : Fnd f y pb pi b i ↔ 0 < mE f y b i /\ RG f (-1) b /\ LeadsTo f y pb pi b (i + 1) := by
 constructor
 ·rintro (⟨rfl,h1,h2,h3⟩|⟨h,h1,h2,h3⟩)
  ·exact ⟨h2,hp,.inl ⟨rfl,by omega,fun j h4 h5=>h3 j (by omega) h5⟩⟩
  ·have hr : RG f (-1) b := by cases h with
    | base _ _ h=>exact h
    | step _ _ _ h=>exact h
   refine ⟨h2,hr,.inr (BK_FR h fun t ht=>.start (fun j h4 h5=>h3 j (by omega) h5) ht)⟩
 ·rintro ⟨h1,h2,⟨rfl,h3,h4⟩|⟨h3,h4⟩⟩
  ·exact .inl ⟨rfl,by omega,h1,fun j h5 h6=>h4 j (by omega) h6⟩
  ·obtain ⟨h5,h6⟩ := FR_BK h2 h3 (.inl ⟨rfl,h4⟩)
   exact .inr ⟨h5,hi,h1,fun j h7 h8=>h6 j (by omega) h8⟩
theorem beg_iff {f : FnE} {y : InsE} {pb pi : Nat} (h0 : 0 < f.blocks.length) : begE f y pb pi ↔ LeadsTo f y pb pi 0 0 := by
 constructor
 ·rintro (⟨rfl,h⟩|⟨h,h2⟩)
  ·exact .inl ⟨rfl,Nat.zero_le _,opnR_0.2 h⟩
  ·exact .inr (BK_FR h fun t ht=>.start (opnR_0.2 h2) ht)
 ·rintro (⟨rfl,_,h⟩|⟨h,h2⟩)
  ·exact .inl ⟨rfl,opnR_0.1 h⟩
  ·obtain ⟨h5,h6⟩ := FR_BK (.zero h0 (by decide)) h (.inl ⟨rfl,h2⟩)
   exact .inr ⟨h5,opnR_0.1 h6⟩
structure LC (f : FnE) (y : InsE) (pb pi b0 i0 : Nat) (A : List Bool) (W : List Int) : Prop where
 sl : A.length = f.blocks.length
 wr : ∀ t ∈ W,(0 <= t /\ t < f.blocks.length) /\ A.getD t.toNat false = true
 nd : W.Nodup
 fr : ∀ t : Nat,A.getD t false = true -> FR f y b0 i0 t
 start : ¬(b0 = pb /\ i0 <= pi /\ opnR (mE f y b0) i0 pi) /\ (opnR (mE f y b0) i0 (lenE f b0) -> ∀ t : Nat,(t : Int) ∈ Succs f b0 -> A.getD t false = true)
 step : ∀ t : Nat,A.getD t false = true -> (t : Int) ∉ W -> ¬(t = pb /\ opnM (mE f y pb) pi) /\ (opnM (mE f y t) (lenE f t) -> ∀ u : Nat,(u : Int) ∈ Succs f t -> A.getD u false = true)
theorem LC.done {f : FnE} {y : InsE} {pb pi b0 i0 : Nat} {A : List Bool} (h : LC f y pb pi b0 i0 A []) : leadB f y pb pi b0 i0 = false := by
 refine @decide_eq_false _ (Classical.propDecidable _) ?_
 have hA : ∀ t,FR f y b0 i0 t -> A.getD t false = true := fun t ht=>by
  induction ht with
  | start h1 h2=>exact h.start.2 h1 _ h2
  | step _ h2 h3 ih=>exact (h.step _ ih (by simp)).2 h2 _ h3
 rintro (h1|⟨h1,h2⟩)
 ·exact h.start.1 h1
 ·exact (h.step _ (hA _ h1) (by simp)).1 ⟨rfl,h2⟩
abbrev onT (f : FnE) (A : List Bool) (W : List Int) (l : List Int) : List Bool × List Int := l.foldl (onStep (List.replicate f.blocks.length true)) (A,W)
theorem getD_replt {n b : Nat} (h : b < n) : (List.replicate n true).getD b false = true := by
 rw [List.getD_eq_getElem?_getD,List.getElem?_replicate,if_pos h]; rfl
theorem Succs_rng {f : FnE} {b : Int} : ∀ q ∈ Succs f b,0 <= q /\ q < f.blocks.length := fun q h=>Succs_mem h
theorem LC.begin {f : FnE} {y : InsE} {pb pi b0 i0 : Nat} (hno : ¬(b0 = pb /\ i0 <= pi /\ opnR (mE f y b0) i0 pi)) : ∀ (o : Bool),(o = true ↔ opnR (mE f y b0) i0 (lenE f b0)) -> ∀ s,(bif o then onT f (List.replicate f.blocks.length false) [] (Succs f b0) else (List.replicate f.blocks.length false,[])) = s -> LC f y pb pi b0 i0 s.1 s.2 /\ stB f s.1 s.2 <= stB f (List.replicate f.blocks.length false) [] := by
 rintro o ho s rfl
 cases o with
 | false =>
  rw [cond_false]
  exact ⟨⟨by simp,fun t ht=>by simp at ht,List.nodup_nil,fun t ht=>(by rw [getD_repl] at ht; cases ht),⟨hno,fun h=>absurd (ho.2 h) (by simp)⟩,fun t ht=>(by rw [getD_repl] at ht; cases ht)⟩,Nat.le_refl _⟩
 | true =>
  rw [cond_true]
  have hop := ho.1 rfl
  obtain ⟨i1,i2,i3,i4⟩ := on_spec (R := List.replicate f.blocks.length true) (n := f.blocks.length) (l := Succs f b0) (S := List.replicate f.blocks.length false) (W := []) (by simp) Succs_rng (fun x hx=>by simp at hx) List.nodup_nil (fun x hx=>by simp at hx)
  have hlen := (onStep_len (R := List.replicate f.blocks.length true) (l := Succs f b0) (s := (List.replicate f.blocks.length false,[]))).1
  unfold onT
  generalize (Succs f b0).foldl (onStep (List.replicate f.blocks.length true)) (List.replicate f.blocks.length false,[]) = s at *
  have hS : ∀ b : Nat,s.1.getD b false = true ↔ (b : Int) ∈ Succs f b0 := fun b=>by
   rw [i1,getD_repl]
   refine ⟨fun h=>h.elim (fun h=>by cases h) (·.1),fun h=>.inr ⟨h,getD_replt (by have := Succs_rng _ h; omega)⟩⟩
  have hW : ∀ x : Int,x ∈ s.2 ↔ x ∈ Succs f b0 := fun x=>by
   rw [i2,getD_repl]
   refine ⟨fun h=>h.elim (fun h=>by simp at h) (·.1),fun h=>.inr ⟨h,getD_replt (by have := Succs_rng _ h; omega),by simp⟩⟩
  refine ⟨⟨by rw [hlen]; simp,fun t ht=>?_,i3,fun t ht=>.start hop ((hS t).1 ht),⟨hno,fun _ t ht=>(hS t).2 ht⟩,fun t ht hnw=>absurd ((hW t).2 ((hS t).1 ht)) hnw⟩,i4⟩
  have h1 := Succs_rng _ ((hW t).1 ht)
  exact ⟨h1,(hS _).2 (by rw [show ((t.toNat : Nat) : Int) = t by omega]; exact (hW t).1 ht)⟩
theorem LC.next {f : FnE} {y : InsE} {pb pi b0 i0 b : Nat} {A : List Bool} {W : List Int} (h : LC f y pb pi b0 i0 A ((b : Int) :: W)) (hno : ¬(b = pb /\ opnM (mE f y pb) pi)) : ∀ (o : Bool),(o = true ↔ opnM (mE f y b) (lenE f b)) -> ∀ s,(bif o then onT f A W (Succs f b) else (A,W)) = s -> LC f y pb pi b0 i0 s.1 s.2 /\ stB f s.1 s.2 <= stB f A W := by
 rintro o ho s rfl
 have hbA : A.getD b false = true := by have := (h.wr b List.mem_cons_self).2; simpa using this
 have hnd := List.nodup_cons.1 h.nd
 cases o with
 | false =>
  rw [cond_false]
  refine ⟨⟨h.sl,fun t ht=>h.wr t (List.mem_cons_of_mem _ ht),hnd.2,h.fr,h.start,fun t ht hw=>?_⟩,Nat.le_refl _⟩
  by_cases e : t = b
  ·subst e; exact ⟨hno,fun hh=>absurd (ho.2 hh) (by simp)⟩
  ·exact h.step t ht fun hm=>by
    rcases List.mem_cons.1 hm with q|q
    ·omega
    ·exact hw q
 | true =>
  rw [cond_true]
  have hop := ho.1 rfl
  obtain ⟨i1,i2,i3,i4⟩ := on_spec (R := List.replicate f.blocks.length true) (n := f.blocks.length) (l := Succs f b) (S := A) (W := W) h.sl Succs_rng (fun x hx=>(h.wr x (List.mem_cons_of_mem _ hx)).2) hnd.2 (fun x hx=>(h.wr x (List.mem_cons_of_mem _ hx)).1.1)
  have hlen := (onStep_len (R := List.replicate f.blocks.length true) (l := Succs f b) (s := (A,W))).1
  unfold onT
  generalize (Succs f b).foldl (onStep (List.replicate f.blocks.length true)) (A,W) = s at *
  have hS : ∀ t : Nat,s.1.getD t false = true ↔ A.getD t false = true \/ (t : Int) ∈ Succs f b := fun t=>by
   rw [i1]
   refine ⟨fun h=>h.imp id (·.1),fun h=>h.imp id fun h=>⟨h,getD_replt (by have := Succs_rng _ h; omega)⟩⟩
  have hW : ∀ x : Int,x ∈ s.2 ↔ x ∈ W \/ (x ∈ Succs f b /\ ¬A.getD x.toNat false = true) := fun x=>by
   rw [i2]
   refine ⟨fun h=>h.imp id fun h=>⟨h.1,h.2.2⟩,fun h=>h.imp id fun h=>⟨h.1,getD_replt (by have := Succs_rng _ h.1; omega),h.2⟩⟩
  refine ⟨⟨by rw [hlen]; exact h.sl,fun t ht=>?_,i3,fun t ht=>?_,⟨h.start.1,fun hh t ht=>(hS t).2 (.inl (h.start.2 hh t ht))⟩,fun t ht hw=>?_⟩,i4⟩
  ·rcases (hW t).1 ht with q|⟨q,_⟩
   ·have := h.wr t (List.mem_cons_of_mem _ q)
    exact ⟨this.1,(hS _).2 (.inl this.2)⟩
   ·have h1 := Succs_rng _ q
    exact ⟨h1,(hS _).2 (.inr (by rw [show ((t.toNat : Nat) : Int) = t by omega]; exact q))⟩
  ·rcases (hS t).1 ht with q|q
   ·exact h.fr t q
   ·exact .step (h.fr b hbA) hop q
  ·have hA : A.getD t false = true := by
    cases hA : A.getD t false with
    | true=>rfl
    | false =>
     exfalso
     have ht' := (hS t).1 ht
     rw [hA] at ht'
     have : (t : Int) ∈ Succs f b := ht'.elim (fun h=>by cases h) id
     exact hw ((hW t).2 (.inr ⟨this,by simp only [Int.toNat_natCast]; rw [hA]; simp⟩))
   by_cases e : t = b
   ·subst e; exact ⟨hno,fun _ u hu=>(hS u).2 (.inr hu)⟩
   ·have := h.step t hA fun hm=>by
     rcases List.mem_cons.1 hm with q|q
     ·omega
     ·exact hw ((hW t).2 (.inl q))
    exact ⟨this.1,fun hh u hu=>(hS u).2 (.inl (this.2 hh u hu))⟩
structure LdS where
 A : List Bool
 W : List Int
 b : Nat
 i : Nat
 st : Bool
def LI (f : FnE) (y : InsE) (pb pi b0 i0 : Nat) (p : LdS) : Prop :=
 (p.b < f.blocks.length /\ p.i <= lenE f p.b) /\ p.W.length <= 2 * f.blocks.length /\ stB f p.A p.W <= 2 * f.blocks.length /\ p.A.length = f.blocks.length /\
 ((p.st = false /\ p.A = List.replicate f.blocks.length false /\ p.W = [] /\ p.b = b0 /\ p.i = i0) \/ (p.st = true /\ LC f y pb pi b0 i0 p.A ((p.b : Int) :: p.W) /\ p.i = 0))
theorem LI.here {f : FnE} {y : InsE} {pb pi b0 i0 : Nat} {p : LdS} (h : LI f y pb pi b0 i0 p) (hb : p.b = pb) (hi : p.i <= pi) (ho : opnR (mE f y p.b) p.i pi) : leadB f y pb pi b0 i0 = true := by
 refine @decide_eq_true _ (Classical.propDecidable _) ?_
 rcases h.2.2.2.2 with ⟨_,_,_,e1,e2⟩|⟨_,hl,e2⟩
 ·rw [e1,e2] at ho
  exact .inl ⟨by rw [<- e1]; exact hb,by omega,ho⟩
 ·refine .inr ⟨?_,?_⟩
  ·have := (hl.wr p.b List.mem_cons_self).2
   simp only [Int.toNat_natCast] at this
   rw [<- hb]; exact hl.fr _ this
  ·rw [e2,hb] at ho; exact opnR_0.1 ho
theorem LI.on {f : FnE} {y : InsE} {pb pi b0 i0 : Nat} {p : LdS} (h : LI f y pb pi b0 i0 p) (hno : ¬(p.b = pb /\ p.i <= pi /\ opnR (mE f y p.b) p.i pi)) : ∀ (o : Bool),(o = true ↔ opnR (mE f y p.b) p.i (lenE f p.b)) -> ∀ s,(bif o then onT f p.A p.W (Succs f p.b) else (p.A,p.W)) = s -> LC f y pb pi b0 i0 s.1 s.2 /\ stB f s.1 s.2 <= stB f p.A p.W := by
 intro o ho s hs
 rcases h.2.2.2.2 with ⟨_,e0,e3,e1,e2⟩|⟨_,hl,e2⟩
 ·rw [e0,e3] at hs ⊢
  rw [e1] at hs hno ho
  rw [e2] at hno ho
  exact LC.begin hno o ho s hs
 ·rw [e2] at ho hno
  exact LC.next hl (fun hh=>hno ⟨hh.1,Nat.zero_le _,opnR_0.2 (by rw [hh.1]; exact hh.2)⟩) o (ho.trans opnR_0) s hs
theorem LI.pop {f : FnE} {y : InsE} {pb pi b0 i0 : Nat} {A : List Bool} {t : Int} {W : List Int} (h : LC f y pb pi b0 i0 A (t :: W)) (hs : stB f A (t :: W) <= 2 * f.blocks.length) : LI f y pb pi b0 i0 ⟨A,W,t.toNat,0,true⟩ := by
 have h1 := (h.wr t List.mem_cons_self).1
 have h2 : stB f A W <= stB f A (t :: W) := by unfold stB; rw [List.length_cons]; omega
 refine ⟨⟨by show t.toNat < _; omega,Nat.zero_le _⟩,?_,Nat.le_trans h2 hs,h.sl,.inr ⟨rfl,?_,rfl⟩⟩
 ·unfold stB at hs; rw [List.length_cons] at hs; show W.length <= _; omega
 ·show LC f y pb pi b0 i0 A (((t.toNat : Nat) : Int) :: W)
  rw [show ((t.toNat : Nat) : Int) = t by omega]; exact h
theorem leads_S (f : FnE) (y : InsE) (T : List (List Bool)) (qf pf : Int) (b0 i0 pb pi : Nat) (hz : siz f < 4294967296) (hnb : f.blocks.length <= 1048576) (hT : T.length = f.blocks.length) (hT2 : ∀ b : Nat,b < f.blocks.length -> (T.getD b []).length = lenE f b /\ ∀ i : Nat,i < lenE f b -> ((T.getD b []).getD i false = true ↔ mE f y b i = 2)) (h0 : b0 < f.blocks.length /\ i0 <= lenE f b0) (hpi : pi < lenE f pb) :
  ASpec Tryz.prog 82 [eS f,eL T,eS (⟨qf,b0,i0⟩ : Plc),eS (⟨pf,pb,pi⟩ : Plc)] (.b (leadB f y pb pi b0 i0)) [] := by
 have h1 := blocks_le f
 have hlen : ∀ b,lenE f b <= siz f := fun b=>code_le f b
 refine ASpec.enter TYok mixed Tryz.func82 rfl Tryz.call82 Tryz.ntmps82 rfl (rs := [.tmp 8]) rfl (nodupB_ok rfl) (Clo.one rfl) (keep := [0,1,2,3,4,6,7,8,9,10,11,12,13,14,15]) ?_; conv=>whnf
 repeat' first|(refine iF (fun hb=>?_) (fun hb=>?_) <;> (try simp only [yv] at hb) <;> (have hc := hb; try simp only [sB,Int.reduceToNat] at hc; try simp only [addZ0] at hc) <;> first|(exfalso; omega)|conv=>whnf)|((first|refine ya ?_|refine yb ?_|refine yc ?_|refine yd ?_|refine yf ?_|refine yh ?_|refine yj ?_|refine dD ?_|refine dF ?_|refine d0 ?_|refine d1 ?_|refine dL ?_|refine dP ?_|refine yl ?_|refine ym ?_|refine yn ?_|refine ⟨_,fun _=>(IntKind.wrap_u64 _).symm,?_⟩); conv=>whnf)|(refine yt ?_; conv=>whnf)|exact ⟨_,.keep rfl rfl⟩|fail
 refine lp [11,12,13] (fun p : LdS=>[.i .i64 p.b,.i .i64 p.i,.orow 1001 1 0 p.W.length]) (fun p=>[(1001,oL p.W),(20,oL p.A),(7,bx (⟨pf,pb,pi⟩ : Plc)),(6,bx (⟨qf,b0,i0⟩ : Plc)),(4,bx f)]) (fun p=>LI f y pb pi b0 i0 p) (fun p=>stB f p.A p.W) ⟨List.replicate f.blocks.length false,[],b0,i0,false⟩ ?_ ?_ fun p hp=>?_
 ·refine ⟨h0,Nat.zero_le _,?_,by simp,.inl ⟨rfl,rfl,rfl,rfl,rfl⟩⟩
  unfold stB; show 2 * (_ - _) + 0 <= _; omega
 ·refine eP [] [1001] ?_ ?_ <;> repeat' first|exact eN|refine And.intro ?_ ?_
  all_goals first|(show f.blocks.length = (List.replicate f.blocks.length false).length; simp; done)|(intro i hi; show [AV.b false] = [AV.b ((List.replicate f.blocks.length false).getD i false)]; rw [getD_repl]; done)|skip
 obtain ⟨⟨hb,hi⟩,hW,hst,hA,_⟩ := id hp
 have hbl := hlen p.b
 have hlE : lenE f p.b = (f.blocks.getD p.b Enc.d).code.length := rfl
 conv=>whnf
 refine lp [12] (fun j : Nat=>[.i .i64 j]) (fun j=>[(1001,oL p.W),(20,oL p.A),(7,bx (⟨pf,pb,pi⟩ : Plc)),(6,bx (⟨qf,b0,i0⟩ : Plc)),(4,bx f)]) (fun j=>(p.i <= j /\ j <= lenE f p.b) /\ opnR (mE f y p.b) p.i j /\ ¬(p.b = pb /\ p.i <= pi /\ pi < j)) (fun j=>lenE f p.b - j) p.i ⟨⟨Nat.le_refl _,hi⟩,fun j h1 h2=>by omega,fun h=>by omega⟩ ?_ fun j hj=>?_
 ·refine eP [] [] ?_ ?_ <;> repeat' first|exact eN|refine And.intro ?_ ?_
 obtain ⟨⟨hj1,hj2⟩,hj3,hj4⟩ := hj
 obtain ⟨hT3,hT4⟩ := hT2 p.b hb
 have hT5 : (T.getD (p.b : Int).toNat Enc.d).length = lenE f p.b := hT3
 conv=>whnf
 have hsl : (Succs f p.b).length <= siz f := Succs_len f p.b
 have hSF : ASpec Tryz.prog 79 [eS f,.i .i64 p.b] (eL (Succs f p.b)) [] := oL_frz (fun id=>rfl) (Succs_S 0 f p.b hz)
 have hshut : ∀ (h1 : (j : Int) < ((f.blocks.getD p.b Enc.d).code.length : Int)) (h2 : ¬(p.b : Int) = pb \/ ¬(j : Int) = pi) (h3 : (T.getD p.b Enc.d).getD j Enc.d = true),LC f y pb pi b0 i0 p.A p.W := fun h1 h2 h3=>by
  have hjl : j < lenE f p.b := by omega
  have hm2 : mE f y p.b j = 2 := (hT4 j hjl).1 h3
  have hno : ¬(p.b = pb /\ p.i <= pi /\ opnR (mE f y p.b) p.i pi) := fun ⟨e1,e2,e3⟩=>by
   rcases Nat.lt_or_ge pi j with q|q
   ·exact hj4 ⟨e1,e2,q⟩
   ·exact e3 j hj1 (by omega) hm2
  exact (hp.on hno false ⟨fun h=>(by cases h),fun h=>absurd hm2 (h j hj1 hjl)⟩ _ rfl).1
 have htail : ∀ {A : List Bool} {W : List Int},W ≠ [] -> ∃ t W2,W = t :: W2 := fun {A W} h=>by
  cases W with
  | nil=>exact absurd rfl h
  | cons t W2=>exact ⟨t,W2,rfl⟩
 repeat' first|(refine iF (fun hb=>?_) (fun hb=>?_) <;> (try simp only [yv] at hb) <;> (have hc := hb; try simp only [sB,Int.reduceToNat] at hc; try simp only [addZ0] at hc) <;> first|(exfalso; omega)|conv=>whnf)|((first|refine ya ?_|refine yb ?_|refine yc ?_|refine yd ?_|refine yf ?_|refine yh ?_|refine yj ?_|refine dD ?_|refine dF ?_|refine d0 ?_|refine d1 ?_|refine dL ?_|refine dP ?_|refine yl ?_|refine ym ?_|refine yn ?_|refine ⟨_,fun _=>(IntKind.wrap_u64 _).symm,?_⟩); conv=>whnf)|((first|refine cK (fun _=>hSF) ?_|((try (refine CallW.lent ?_; (conv=>whnf); repeat (refine yb ?_; (conv=>whnf)))); refine cL (fun _=>hSF) ?_)); conv=>whnf)|(refine yt ?_; conv=>whnf)|exact ⟨_,.keep rfl rfl⟩|fail
 ·obtain rfl : j = pi := by omega
  exact ⟨_,.keep (congrArg AV.b (hp.here (by omega) hj1 hj3).symm) rfl⟩
 ·have hLC := hshut ‹_› ‹_› ‹_›
  rw [List.length_eq_zero_iff.1 (show p.W.length = 0 by omega)] at hLC
  exact ⟨_,.keep (congrArg AV.b hLC.done.symm) rfl⟩
 ·have hLC := hshut ‹_› ‹_› ‹_›
  obtain ⟨t,W2,hW2⟩ := htail (A := p.A) (W := p.W) (fun e=>by have h0 : p.W.length = 0 := (by rw [e]; rfl); omega)
  have hst' := hst
  rw [hW2] at hLC hst' ⊢
  refine .mk ⟨p.A,W2,t.toNat,0,true⟩ (LI.pop hLC hst') ?_ ?_
  ·show stB f p.A W2 < stB f p.A (t :: W2)
   have : stB f p.A (t :: W2) = stB f p.A W2 + 1 := by unfold stB; rw [List.length_cons]; omega
   omega
  ·have ht0 := (hLC.wr t List.mem_cons_self).1
   refine eP [(1001,99)] [] ?_ ?_ <;> repeat' first|exact eN|refine And.intro ?_ ?_
   all_goals first|(show (t : Int) = ((t.toNat : Nat) : Int); omega)|(show (((t :: W2).length : Int) - 1).toNat = W2.length; rw [List.length_cons]; omega)|(intro i hi; rw [offF_eq]; show Enc.enc ((t :: W2).getD (1 + i) Enc.d) = Enc.enc (W2.getD i Enc.d); rw [Nat.add_comm]; rfl)|skip
 ·have hm2 : mE f y p.b j ≠ 2 := fun h=>by have h9 := (hT4 j (by omega)).2 h; exact absurd (h9.symm.trans hc) (by simp)
  have hnj : ¬(p.b = pb /\ j = pi) := by omega
  refine .mk (j + 1) ⟨⟨by omega,by omega⟩,fun q h1 h2=>?_,fun h=>?_⟩ (by omega) ?_
  ·rcases Nat.lt_or_eq_of_le (Nat.le_of_lt_succ h2) with h3|h3
   ·exact hj3 q h1 h3
   ·rw [h3]; exact hm2
  ·rcases Nat.lt_or_eq_of_le (Nat.le_of_lt_succ h.2.2) with h3|h3
   ·exact hj4 ⟨h.1,h.2.1,h3⟩
   ·exact hnj ⟨h.1,h3.symm⟩
  ·refine eP [] [] ?_ ?_ <;> repeat' first|exact eN|refine And.intro ?_ ?_
 ·have hjl : j = lenE f p.b := by omega
  subst hjl
  have hno : ¬(p.b = pb /\ p.i <= pi /\ opnR (mE f y p.b) p.i pi) := fun ⟨e1,e2,e3⟩=>hj4 ⟨e1,e2,by rw [e1]; exact hpi⟩
  have hon := hp.on hno true ⟨fun _=>hj3,fun _=>rfl⟩ _ rfl
  rw [cond_true] at hon
  let acc (q : Nat) := ((Succs f p.b).take q).foldl (onStep (List.replicate f.blocks.length true)) (p.A,p.W)
  have hacc : ∀ q,q <= (Succs f p.b).length -> (acc q).1.length = f.blocks.length /\ (acc q).2.length <= p.W.length + q := fun q hq=>by
   have h := onStep_len (R := List.replicate f.blocks.length true) (l := (Succs f p.b).take q) (s := (p.A,p.W))
   rw [List.length_take,Nat.min_eq_left hq] at h
   exact ⟨h.1.trans hA,h.2⟩
  refine lp [15,13] (fun k : Nat=>[.i .i64 k,.orow 1001 1 0 (acc k).2.length]) (fun k=>[(1001,oL (acc k).2),(20,oL (acc k).1),(7,bx (⟨pf,pb,pi⟩ : Plc)),(6,bx (⟨qf,b0,i0⟩ : Plc)),(4,bx f)]) (fun k=>k <= (Succs f p.b).length) (fun k=>(Succs f p.b).length - k) 0 (Nat.zero_le _) ?_ fun k hk=>?_
  ·refine eP [] [] ?_ ?_ <;> repeat' first|exact eN|refine And.intro ?_ ?_
  obtain ⟨ha1,ha2⟩ := hacc k hk
  conv=>whnf
  rcases Nat.lt_or_ge k (Succs f p.b).length with hlt|hge
  ·have hr := Succs_rng _ (List.getElem_mem hlt)
   have hx : (Succs f p.b).getD (k : Int).toNat Enc.d = (Succs f p.b)[k] := by simp [List.getD_eq_getElem?_getD,hlt]
   have e : acc (k + 1) = onStep (List.replicate f.blocks.length true) (acc k) ((Succs f p.b).getD (k : Int).toNat Enc.d) := foldl_take (d := (Enc.d : Int)) hlt
   rw [<- hx] at hr
   have b3 : addZ 0 ((Succs f p.b).getD (k : Int).toNat Enc.d).toNat < (acc k).1.length := by rw [addZ_eq]; omega
   have hRx : (List.replicate f.blocks.length true).getD ((Succs f p.b).getD (k : Int).toNat Enc.d).toNat false = true := getD_replt (by omega)
   repeat' first|(refine iF (fun hb=>?_) (fun hb=>?_) <;> (try simp only [yv] at hb) <;> (have hc := hb; try simp only [sB,Int.reduceToNat] at hc; try simp only [addZ0] at hc) <;> first|(exfalso; omega)|conv=>whnf)|((first|refine ya ?_|refine yb ?_|refine yc ?_|refine yd ?_|refine yf ?_|refine yh ?_|refine yj ?_|refine dD ?_|refine dF ?_|refine d0 ?_|refine d1 ?_|refine dL ?_|refine dP ?_|refine yl ?_|refine ym ?_|refine yn ?_|refine ⟨_,fun _=>(IntKind.wrap_u64 _).symm,?_⟩); conv=>whnf)|(refine yt ?_; conv=>whnf)|exact ⟨_,.keep rfl rfl⟩|fail
   ·have hc' : (acc k).1.getD ((Succs f p.b).getD (k : Int).toNat Enc.d).toNat false = false := hc
    have e2 : acc (k + 1) = ((acc k).1.set ((Succs f p.b).getD (k : Int).toNat Enc.d).toNat true,(acc k).2 ++ [(Succs f p.b).getD (k : Int).toNat Enc.d]) := by
     rw [e]; unfold onStep
     rw [show ((List.replicate f.blocks.length true).getD ((Succs f p.b).getD (k : Int).toNat Enc.d).toNat false && !(acc k).1.getD ((Succs f p.b).getD (k : Int).toNat Enc.d).toNat false) = true by rw [hRx,Bool.true_and,Bool.not_eq_true']; exact hc']; rfl
    have e3 : (acc (k + 1)).2 = (acc k).2 ++ [(Succs f p.b).getD (k : Int).toNat Enc.d] := by rw [e2]
    have e4 : (acc (k + 1)).1 = (acc k).1.set ((Succs f p.b).getD (k : Int).toNat Enc.d).toNat true := by rw [e2]
    refine .mk (k + 1) (by omega) (by omega) ?_
    refine eP [(1001,91)] [] ?_ ?_ <;> repeat' first|exact eN|refine And.intro ?_ ?_|exact snoc_len e3|exact snoc_get e3 rfl|rw [e3]
    all_goals first|(show _ = (acc (k + 1)).1.length; rw [e4,List.length_set]; done)|skip
    intro i hi
    have hi' : i < (acc k).1.length := by
     have : i < (acc (k + 1)).1.length := hi
     rw [e4,List.length_set] at this; exact this
    refine (set_fun (l := (acc k).1) (x := true) rfl i hi').trans ?_
    rw [addZ_eq,Nat.zero_add]
    exact congrArg (fun l=>Enc.enc (List.getD l i (Enc.d : Bool))) e4.symm
   ·have e2 : acc (k + 1) = acc k := by
     rw [e]; unfold onStep
     rw [show ((List.replicate f.blocks.length true).getD ((Succs f p.b).getD (k : Int).toNat Enc.d).toNat false && !(acc k).1.getD ((Succs f p.b).getD (k : Int).toNat Enc.d).toNat false) = false by rw [hRx,Bool.true_and,Bool.not_eq_false']; exact hc]; rfl
    refine .mk (k + 1) (by omega) (by omega) ?_
    rw [<- e2]
    refine eP [] [] ?_ ?_ <;> repeat' first|exact eN|refine And.intro ?_ ?_
  ·obtain rfl : k = (Succs f p.b).length := by omega
   have e : acc (Succs f p.b).length = onT f p.A p.W (Succs f p.b) := by simp only [acc]; rw [List.take_length]
   rw [<- e] at hon
   obtain ⟨hLC,hme⟩ := hon
   generalize acc (Succs f p.b).length = s at *
   obtain ⟨A',W'⟩ := s
   simp only at hLC hme ha1 ha2
   have hWl : W'.length <= 2 * f.blocks.length := by have := hme; unfold stB at this hst; omega
   repeat' first|(refine iF (fun hb=>?_) (fun hb=>?_) <;> (try simp only [yv] at hb) <;> (have hc := hb; try simp only [sB,Int.reduceToNat] at hc; try simp only [addZ0] at hc) <;> first|(exfalso; omega)|conv=>whnf)|((first|refine ya ?_|refine yb ?_|refine yc ?_|refine yd ?_|refine yf ?_|refine yh ?_|refine yj ?_|refine dD ?_|refine dF ?_|refine d0 ?_|refine d1 ?_|refine dL ?_|refine dP ?_|refine yl ?_|refine ym ?_|refine yn ?_|refine ⟨_,fun _=>(IntKind.wrap_u64 _).symm,?_⟩); conv=>whnf)|(refine yt ?_; conv=>whnf)|exact ⟨_,.keep rfl rfl⟩|fail
   ·rw [List.length_eq_zero_iff.1 (show W'.length = 0 by omega)] at hLC
    exact ⟨_,.keep (congrArg AV.b hLC.done.symm) rfl⟩
   ·obtain ⟨t,W2,hW2⟩ := htail (A := A') (W := W') (fun e=>by have h0 : W'.length = 0 := (by rw [e]; rfl); omega)
    rw [hW2] at hLC hme ⊢
    have hme2 : stB f A' (t :: W2) = stB f A' W2 + 1 := by unfold stB; rw [List.length_cons]; omega
    refine .mk ⟨A',W2,t.toNat,0,true⟩ (LI.pop hLC (Nat.le_trans hme hst)) (by show stB f A' W2 < stB f p.A p.W; omega) ?_
    have ht0 := (hLC.wr t List.mem_cons_self).1
    refine eP [(1001,99)] [] ?_ ?_ <;> repeat' first|exact eN|refine And.intro ?_ ?_
    all_goals first|(show (t : Int) = ((t.toNat : Nat) : Int); omega)|(show (((t :: W2).length : Int) - 1).toNat = W2.length; rw [List.length_cons]; omega)|(intro i hi; rw [offF_eq]; show Enc.enc ((t :: W2).getD (1 + i) Enc.d) = Enc.enc (W2.getD i Enc.d); rw [Nat.add_comm]; rfl)|skip
noncomputable def isLoadB (f : FnE) (p : Plc) : Bool := @decide (isLoad f p) (Classical.propDecidable _)
theorem Load20_S (f : FnE) (p : Plc) (hz : siz f < 4294967296) : ASpec Tryz.prog 80 [eS f,eS p] (.b (isLoadB f p)) [] := by
 have h1 := blocks_le f
 have h3 := code_le f p.b.toNat
 obtain ⟨R,hR⟩ := isRG_ex f (-1)
 have hRl := hR.1
 refine ASpec.enter TYok mixed Tryz.func80 rfl Tryz.call80 Tryz.ntmps80 rfl (rs := [.tmp 4]) rfl (nodupB_ok rfl) (Clo.one rfl) (keep := [0,1,2,3,4,5]) ?_; conv=>whnf
 repeat' first|(refine iF (fun hb=>?_) (fun hb=>?_) <;> (try simp only [yv] at hb) <;> (have hc := hb; try simp only [sB,Int.reduceToNat] at hc; try simp only [addZ0] at hc) <;> first|(exfalso; omega)|conv=>whnf)|((first|refine ya ?_|refine yb ?_|refine yc ?_|refine yd ?_|refine yf ?_|refine yh ?_|refine yj ?_|refine dD ?_|refine dF ?_|refine d0 ?_|refine d1 ?_|refine dL ?_|refine dP ?_|refine yl ?_|refine ym ?_|refine yn ?_|refine ⟨_,fun _=>(IntKind.wrap_u64 _).symm,?_⟩); conv=>whnf)|((first|refine cK (fun _=>Reach_F f R hR hz) ?_|((try (refine CallW.lent ?_; (conv=>whnf); repeat (refine yb ?_; (conv=>whnf)))); refine cL (fun _=>Reach_F f R hR hz) ?_)); conv=>whnf)|(refine yt ?_; conv=>whnf)|exact ⟨_,.keep rfl rfl⟩|fail
 ·refine ⟨_,.keep (congrArg AV.b (@decide_eq_false _ (Classical.propDecidable _) fun h=>?_).symm) rfl⟩
  obtain ⟨p1,p2,_,_⟩ := h
  have p2' : 0 <= p.i /\ p.i < ((f.blocks.getD p.b.toNat Enc.d).code.length : Int) := p2
  omega
 ·refine ⟨_,.keep (congrArg AV.b ?_) rfl⟩
  have hb : p.b.toNat < f.blocks.length := by omega
  have hr := hR.2 _ hb
  simp only [pickB_and]
  rw [Bool.eq_iff_iff,Bool.and_eq_true,decide_eq_true_eq]
  unfold isLoadB
  rw [@decide_eq_true_iff _ (Classical.propDecidable _)]
  constructor
  ·rintro ⟨h5,h6⟩
   exact ⟨by omega,by show 0 <= p.i /\ p.i < ((f.blocks.getD p.b.toNat Enc.d).code.length : Int); omega,h6,hr.1 h5⟩
  ·rintro ⟨_,_,h6,h5⟩
   exact ⟨hr.2 h5,h6⟩
def rowU {α : Type} (f : FnE) (g : Nat -> Nat -> α) (b i t : Nat) : List α := (List.range (if t < b then lenE f t else if t = b then i else 0)).map (g t)
theorem rowU_0 {α : Type} (f : FnE) (g : Nat -> Nat -> α) (t : Nat) : rowU f g 0 0 t = [] := by
 unfold rowU; simp
theorem rowU_snoc {α : Type} (f : FnE) (g : Nat -> Nat -> α) (b i : Nat) : rowU f g b (i + 1) b = rowU f g b i b ++ [g b i] := by
 unfold rowU
 simp [List.range_succ]
theorem rowU_ne {α : Type} (f : FnE) (g : Nat -> Nat -> α) {b i t : Nat} (h : t ≠ b) : rowU f g b (i + 1) t = rowU f g b i t := by
 unfold rowU
 simp [h]
theorem rowU_next {α : Type} (f : FnE) (g : Nat -> Nat -> α) (b t : Nat) : rowU f g (b + 1) 0 t = rowU f g b (lenE f b) t := by
 unfold rowU
 rcases Nat.lt_trichotomy t b with h|h|h
 ·rw [if_pos (show t < b + 1 by omega),if_pos h]
 ·subst h; simp
 ·simp [show ¬t < b + 1 by omega,show ¬t < b by omega,show ¬t = b by omega]
theorem rowU_len {α : Type} (f : FnE) (g : Nat -> Nat -> α) (b i : Nat) : (rowU f g b i b).length = i := by
 unfold rowU; rw [if_neg (Nat.lt_irrefl _),if_pos rfl]; simp
theorem rowU_all {α : Type} (f : FnE) (g : Nat -> Nat -> α) {n t : Nat} (h : t < n) : rowU f g n 0 t = (List.range (lenE f t)).map (g t) := by
 unfold rowU; rw [if_pos h]
def accP (f : FnE) (P : Nat -> Nat -> Bool) (b i : Nat) : List Plc := ((codeTo f b i).filter fun c=>P c.2.b.toNat c.2.i.toNat).map (·.2)
theorem accP_len {f : FnE} {P : Nat -> Nat -> Bool} {b i : Nat} (hb : b < f.blocks.length) (hi : i <= lenE f b) : (accP f P b i).length <= (Code f).length := by
 unfold accP
 rw [List.length_map]
 exact Nat.le_trans (List.length_filter_le _ _) (codeTo_le hb hi)
theorem accP_snoc (f : FnE) (P : Nat -> Nat -> Bool) (b i : Nat) : accP f P b (i + 1) = if P b i = true then accP f P b i ++ [⟨0,b,i⟩] else accP f P b i := by
 unfold accP
 rw [codeTo_snoc,List.filter_append,List.map_append,List.filter_cons]
 by_cases h : P b i = true
 ·rw [if_pos h,if_pos (show P ((b : Int)).toNat ((i : Int)).toNat = true from h)]; rfl
 ·rw [if_neg h,if_neg (show ¬P ((b : Int)).toNat ((i : Int)).toNat = true from h)]; simp
theorem accP_next (f : FnE) (P : Nat -> Nat -> Bool) (b : Nat) : accP f P (b + 1) 0 = accP f P b (lenE f b) := by
 unfold accP; rw [codeTo_next]; rfl
noncomputable def srcP (f : FnE) (y : InsE) (pb pi b i : Nat) : Bool := @decide (Fnd f y pb pi b i) (Classical.propDecidable _)
def mS (f : FnE) (y : InsE) (b i : Nat) : Bool := decide (mE f y b i = 2)
def tabS (f : FnE) (y : InsE) : List (List Bool) := (List.range f.blocks.length).map fun b=>(List.range (lenE f b)).map fun i=>decide (mE f y b i = 2)
theorem tabS_at {f : FnE} {y : InsE} {b : Nat} (h : b < f.blocks.length) : (tabS f y).getD b [] = (List.range (lenE f b)).map fun i=>decide (mE f y b i = 2) := by
 unfold tabS; rw [List.getD_eq_getElem?_getD,List.getElem?_map,List.getElem?_range h]; rfl
theorem map_range_at {α : Type} {g : Nat -> α} {n i : Nat} {x : α} (h : i < n) : ((List.range n).map g).getD i x = g i := by
 rw [List.getD_eq_getElem?_getD,List.getElem?_map,List.getElem?_range h]; rfl
theorem Src20_T (f : FnE) (pf : Int) (pb pi : Nat) (hs : OkF f) (ha : OkA f) (h : isLoad f ⟨pf,pb,pi⟩) : ASpec Tryz.prog 48 [eS f,eS (⟨pf,pb,pi⟩ : Plc)] (.tup [eL (srcL f (insE f pb pi) pb pi),.b (srcB f (insE f pb pi) pb pi)]) [] := by
 have h1 := blocks_le f
 have h2 := hs.sz
 have hnb := ha.nb
 obtain ⟨R,hR⟩ := isRG_ex f (-1)
 have hRl := hR.1
 have hLd := Load20_S f ⟨0,pb,pi⟩ h2
 rw [show isLoadB f ⟨0,pb,pi⟩ = true from @decide_eq_true _ (Classical.propDecidable _) h] at hLd
 obtain ⟨p1,p2,p3,p4⟩ := h
 have q1 : pb < f.blocks.length := by have := p1.2; simp only at this; omega
 have q2 : pi < lenE f pb := by have := p2.2; simp only [Int.toNat_natCast] at this; omega
 have q3 : pi < (f.blocks.getD pb Enc.d).code.length := q2
 have hy : 1 <= (insE f pb pi).args.length := ha.ld pb pi q2 p3
 have hyl : (insE f pb pi).args.length < 4294967296 := by have := args_le (insE f pb pi); have := ins_le f pb pi; unfold insE at *; omega
 have hlen : ∀ b,lenE f b <= siz f := fun b=>code_le f b
 have hms : ∀ b i,i < lenE f b -> ASpec Tryz.prog 81 [eS f,eS (insE f b i),eS (insE f pb pi)] (.i .i64 (mE f (insE f pb pi) b i)) [] := fun b i hi=>Meets_S f (insE f b i) _ h2 (ha.st b i hi) hy (by have := args_le (insE f b i); have := ins_le f b i; unfold insE at *; omega) hyl
 have hP : ∀ b i,i < lenE f b -> (srcP f (insE f pb pi) pb pi b i = true ↔ 0 < mE f (insE f pb pi) b i /\ R.getD b false = true /\ leadB f (insE f pb pi) pb pi b (i + 1) = true) := fun b i hi=>by
  have hb : b < f.blocks.length := by
   apply Classical.byContradiction; intro hb
   have hi' : i < (f.blocks.getD b Enc.d).code.length := hi
   rw [List.getD_eq_getElem?_getD,List.getElem?_eq_none (by omega)] at hi'
   exact absurd hi' (Nat.not_lt_zero _)
  unfold srcP leadB
  rw [@decide_eq_true_iff _ (Classical.propDecidable _),@decide_eq_true_iff _ (Classical.propDecidable _),hR.2 b hb]
  exact Fnd_iff p4 hi
 have hB : srcB f (insE f pb pi) pb pi = leadB f (insE f pb pi) pb pi 0 0 := by
  unfold srcB leadB
  by_cases h : begE f (insE f pb pi) pb pi
  ·rw [@decide_eq_true _ (Classical.propDecidable _) h,@decide_eq_true _ (Classical.propDecidable _) ((beg_iff (by omega)).1 h)]
  ·rw [@decide_eq_false _ (Classical.propDecidable _) h,@decide_eq_false _ (Classical.propDecidable _) fun h'=>h ((beg_iff (by omega)).2 h')]
 have hld : ∀ b i,b < f.blocks.length -> i <= lenE f b -> ASpec Tryz.prog 82 [eS f,eL (tabS f (insE f pb pi)),eS (⟨0,(b : Int),(i : Int)⟩ : Plc),eS (⟨0,(pb : Int),(pi : Int)⟩ : Plc)] (.b (leadB f (insE f pb pi) pb pi b i)) [] := fun b i hb hi=>leads_S f (insE f pb pi) (tabS f (insE f pb pi)) 0 0 b i pb pi h2 hnb (by simp [tabS]) (fun c hc=>by
  rw [tabS_at hc]
  exact ⟨by simp,fun i hi=>by rw [map_range_at hi]; exact decide_eq_true_iff⟩) ⟨hb,hi⟩ q2
 have hS : srcL f (insE f pb pi) pb pi = accP f (srcP f (insE f pb pi) pb pi) f.blocks.length 0 := rfl
 rw [hB,hS]
 have hyi : insE f pb pi = (f.blocks.getD ((pb : Int)).toNat Enc.d).code.getD ((pi : Int)).toNat Enc.d := rfl
 generalize hyg : insE f pb pi = y at *
 generalize srcP f y pb pi = P at *
 have hwn : f.blocks.length = (tabS f y).length := by simp [tabS]
 have hwk : ∀ t,t < (tabS f y).length -> wks ((offF 0 fun t=>[eL (rowU f (mS f y) f.blocks.length 0 t)]) t) (Enc.enc ((tabS f y).getD t Enc.d)) := fun t ht=>by
  rw [<- hwn] at ht
  rw [offF_eq,Nat.zero_add,rowU_all f _ ht]
  show wks _ [eL ((tabS f y).getD t [])]
  rw [tabS_at ht]
  exact ⟨wkL (α := Bool) (fun x=>⟨rfl,trivial⟩) _,trivial⟩
 have hcs := Code_siz f
 refine ASpec.enter TYok mixed Tryz.func48 rfl Tryz.call48 Tryz.ntmps48 rfl (rs := [.tmp 4,.tmp 5]) rfl (nodupB_ok rfl) (Clo.one rfl) (keep := [0,1,2,3,4,5,6,7,8,9,10,11,12,13,14,15,16,17,18]) ?_; conv=>whnf
 repeat' first|(refine iF (fun hb=>?_) (fun hb=>?_) <;> (try simp only [yv] at hb) <;> (have hc := hb; try simp only [sB,Int.reduceToNat] at hc; try simp only [addZ0] at hc) <;> first|(exfalso; omega)|conv=>whnf)|((first|refine ya ?_|refine yb ?_|refine yc ?_|refine yd ?_|refine yf ?_|refine yh ?_|refine yj ?_|refine dD ?_|refine dF ?_|refine d0 ?_|refine d1 ?_|refine dL ?_|refine dP ?_|refine yl ?_|refine ym ?_|refine yn ?_|refine ⟨_,fun _=>(IntKind.wrap_u64 _).symm,?_⟩); conv=>whnf)|((first|refine cK (fun _=>hLd) ?_|((try (refine CallW.lent ?_; (conv=>whnf); repeat (refine yb ?_; (conv=>whnf)))); refine cL (fun _=>hLd) ?_)); conv=>whnf)|((first|refine cK (fun _=>Reach_F f R hR h2) ?_|((try (refine CallW.lent ?_; (conv=>whnf); repeat (refine yb ?_; (conv=>whnf)))); refine cL (fun _=>Reach_F f R hR h2) ?_)); conv=>whnf)|(refine yt ?_; conv=>whnf)|exact ⟨_,.keep rfl rfl⟩|fail
 ·cases hc
 refine lp [12] (fun b : Nat=>[.i .i64 b]) (fun b=>[(46,.tree 1 f.blocks.length fun t=>[eL (rowU f (mE f y) b 0 t)]),(42,.tree 1 f.blocks.length fun t=>[eL (rowU f (mS f y) b 0 t)]),(8,bx y),(3,bx (⟨0,pb,pi⟩ : Plc)),(2,bx f)]) (fun b=>b <= f.blocks.length) (fun b=>f.blocks.length - b) 0 (Nat.zero_le _) ?_ fun b hb=>?_
 ·rw [<- hyg]
  refine eP [] [] ?_ ?_ <;> repeat' first|exact eN|refine And.intro ?_ ?_
  all_goals first|(intro i hi; show teqs _ [eL (rowU f _ 0 0 i)]; rw [rowU_0]; exact And.intro rfl rfl)|skip
 conv=>whnf
 rcases (Nat.lt_or_ge b f.blocks.length).symm with hge|hlt
 ·obtain rfl : b = f.blocks.length := by omega
  repeat' first|(refine iF (fun hb=>?_) (fun hb=>?_) <;> (try simp only [yv] at hb) <;> (have hc := hb; try simp only [sB,Int.reduceToNat] at hc; try simp only [addZ0] at hc) <;> first|(exfalso; omega)|conv=>whnf)|((first|refine ya ?_|refine yb ?_|refine yc ?_|refine yd ?_|refine yf ?_|refine yh ?_|refine yj ?_|refine dD ?_|refine dF ?_|refine d0 ?_|refine d1 ?_|refine dL ?_|refine dP ?_|refine yl ?_|refine ym ?_|refine yn ?_|refine ⟨_,fun _=>(IntKind.wrap_u64 _).symm,?_⟩); conv=>whnf)|(refine yt ?_; conv=>whnf)|exact ⟨_,.keep rfl rfl⟩|fail
  refine lp [15,6] (fun b : Nat=>[.i .i64 b,.orow 6 3 0 (accP f P b 0).length]) (fun b=>[(6,oL (accP f P b 0)),(46,.tree 1 f.blocks.length fun t=>[eL (rowU f (mE f y) f.blocks.length 0 t)]),(42,.tree 1 f.blocks.length fun t=>[eL (rowU f (mS f y) f.blocks.length 0 t)]),(8,bx y),(3,bx (⟨0,pb,pi⟩ : Plc)),(2,bx f)]) (fun b=>b <= f.blocks.length) (fun b=>f.blocks.length - b) 0 (Nat.zero_le _) ?_ fun b hb=>?_
  ·refine eP [] [6] ?_ ?_ <;> repeat' first|exact eN|refine And.intro ?_ ?_
   all_goals first|exact fun _ _=>teqs_refl _|skip
  conv=>whnf
  rcases (Nat.lt_or_ge b f.blocks.length).symm with hge|hlt
  ·obtain rfl : b = f.blocks.length := by omega
   repeat' first|(refine iF (fun hb=>?_) (fun hb=>?_) <;> (try simp only [yv] at hb) <;> (have hc := hb; try simp only [sB,Int.reduceToNat] at hc; try simp only [addZ0] at hc) <;> first|(exfalso; omega)|conv=>whnf)|((first|refine ya ?_|refine yb ?_|refine yc ?_|refine yd ?_|refine yf ?_|refine yh ?_|refine yj ?_|refine dD ?_|refine dF ?_|refine d0 ?_|refine d1 ?_|refine dL ?_|refine dP ?_|refine yl ?_|refine ym ?_|refine yn ?_|refine ⟨_,fun _=>(IntKind.wrap_u64 _).symm,?_⟩); conv=>whnf)|((first|refine cK (fun _=>(hld 0 0 (by omega) (Nat.zero_le _)).weak (by repeat' first|exact trivial|exact rfl|refine And.intro ?_ ?_|exact fun i _=>wkInt _|exact fun i _=>wkBlk _|exact hwk|exact hwn)) ?_|((try (refine CallW.lent ?_; (conv=>whnf); repeat (refine yb ?_; (conv=>whnf)))); refine cL (fun _=>(hld 0 0 (by omega) (Nat.zero_le _)).weak (by repeat' first|exact trivial|exact rfl|refine And.intro ?_ ?_|exact fun i _=>wkInt _|exact fun i _=>wkBlk _|exact hwk|exact hwn)) ?_)); conv=>whnf)|(refine yt ?_; conv=>whnf)|exact ⟨_,.keep rfl rfl⟩|fail
   exact ⟨_,.tup (.cons (.freeze rfl (by omega) rfl (fun _ _=>rfl) rfl) (.cons (.keep rfl rfl) .nil (nodupB_ok rfl)) (nodupB_ok rfl))⟩
  have hbl := hlen b
  have hlE : lenE f b = (f.blocks.getD b Enc.d).code.length := rfl
  repeat' first|(refine iF (fun hb=>?_) (fun hb=>?_) <;> (try simp only [yv] at hb) <;> (have hc := hb; try simp only [sB,Int.reduceToNat] at hc; try simp only [addZ0] at hc) <;> first|(exfalso; omega)|conv=>whnf)|((first|refine ya ?_|refine yb ?_|refine yc ?_|refine yd ?_|refine yf ?_|refine yh ?_|refine yj ?_|refine dD ?_|refine dF ?_|refine d0 ?_|refine d1 ?_|refine dL ?_|refine dP ?_|refine yl ?_|refine ym ?_|refine yn ?_|refine ⟨_,fun _=>(IntKind.wrap_u64 _).symm,?_⟩); conv=>whnf)|(refine yt ?_; conv=>whnf)|exact ⟨_,.keep rfl rfl⟩|fail
  refine lp [16,6] (fun i : Nat=>[.i .i64 i,.orow 6 3 0 (accP f P b i).length]) (fun i=>[(6,oL (accP f P b i)),(46,.tree 1 f.blocks.length fun t=>[eL (rowU f (mE f y) f.blocks.length 0 t)]),(42,.tree 1 f.blocks.length fun t=>[eL (rowU f (mS f y) f.blocks.length 0 t)]),(8,bx y),(3,bx (⟨0,pb,pi⟩ : Plc)),(2,bx f)]) (fun i=>i <= lenE f b) (fun i=>lenE f b - i) 0 (Nat.zero_le _) ?_ fun i hi=>?_
  ·refine eP [] [] ?_ ?_ <;> repeat' first|exact eN|refine And.intro ?_ ?_
   all_goals first|exact fun _ _=>teqs_refl _|skip
  have hal := accP_len (P := P) hlt hi
  conv=>whnf
  rcases (Nat.lt_or_ge i (lenE f b)).symm with hig|hil
  ·obtain rfl : i = lenE f b := by omega
   repeat' first|(refine iF (fun hb=>?_) (fun hb=>?_) <;> (try simp only [yv] at hb) <;> (have hc := hb; try simp only [sB,Int.reduceToNat] at hc; try simp only [addZ0] at hc) <;> first|(exfalso; omega)|conv=>whnf)|((first|refine ya ?_|refine yb ?_|refine yc ?_|refine yd ?_|refine yf ?_|refine yh ?_|refine yj ?_|refine dD ?_|refine dF ?_|refine d0 ?_|refine d1 ?_|refine dL ?_|refine dP ?_|refine yl ?_|refine ym ?_|refine yn ?_|refine ⟨_,fun _=>(IntKind.wrap_u64 _).symm,?_⟩); conv=>whnf)|(refine yt ?_; conv=>whnf)|exact ⟨_,.keep rfl rfl⟩|fail
   refine .mk (b + 1) (by omega) (by omega) ?_
   rw [<- accP_next]
   refine eP [] [] ?_ ?_ <;> repeat' first|exact eN|refine And.intro ?_ ?_
   all_goals first|exact fun _ _=>teqs_refl _|skip
  have hPi := hP b i hil
  have hz2 : addZ 0 ((b : Int)).toNat = b := by rw [addZ_eq]; omega
  have hz3 : addZ 0 ((i : Int)).toNat = i := by rw [addZ_eq]; omega
  have hz : addZ 0 ((b : Int)).toNat < f.blocks.length := by rw [hz2]; exact hlt
  have hr5 : (rowU f (mE f y) f.blocks.length 0 (addZ 0 ((b : Int)).toNat)).length = lenE f b := by rw [hz2,rowU_all f _ hlt]; simp
  have hr6 : addZ 0 ((i : Int)).toNat < (rowU f (mE f y) f.blocks.length 0 (addZ 0 ((b : Int)).toNat)).length := by rw [hr5,hz3]; exact hil
  have hr7 : (rowU f (mE f y) f.blocks.length 0 b).getD i Enc.d = mE f y b i := by rw [rowU_all f _ hlt,map_range_at hil]
  repeat' first|(refine iF (fun hb=>?_) (fun hb=>?_) <;> (try simp only [yv] at hb) <;> (have hc := hb; try simp only [sB,Int.reduceToNat] at hc; try simp only [addZ0] at hc) <;> first|(exfalso; omega)|conv=>whnf)|((first|refine ya ?_|refine yb ?_|refine yc ?_|refine yd ?_|refine yf ?_|refine yh ?_|refine yj ?_|refine dD ?_|refine dF ?_|refine d0 ?_|refine d1 ?_|refine dL ?_|refine dP ?_|refine yl ?_|refine ym ?_|refine yn ?_|refine ⟨_,fun _=>(IntKind.wrap_u64 _).symm,?_⟩); conv=>whnf)|((first|refine cK (fun _=>(hld b (i + 1) hlt (by omega)).weak (by repeat' first|exact trivial|exact rfl|refine And.intro ?_ ?_|exact fun i _=>wkInt _|exact fun i _=>wkBlk _|exact hwk|exact hwn)) ?_|((try (refine CallW.lent ?_; (conv=>whnf); repeat (refine yb ?_; (conv=>whnf)))); refine cL (fun _=>(hld b (i + 1) hlt (by omega)).weak (by repeat' first|exact trivial|exact rfl|refine And.intro ?_ ?_|exact fun i _=>wkInt _|exact fun i _=>wkBlk _|exact hwk|exact hwn)) ?_)); conv=>whnf)|(refine yt ?_; conv=>whnf)|exact ⟨_,.keep rfl rfl⟩|fail
  ·have hP0 : ¬P b i = true := fun h=>by
    have h9 := hPi.1 h
    rw [hr7] at hc
    rcases hc with h0|h0
    ·omega
    ·exact absurd (h0.symm.trans h9.2.1) (by simp)
   have e : accP f P b (i + 1) = accP f P b i := (accP_snoc f P b i).trans (if_neg hP0)
   refine .mk (i + 1) (by omega) (by omega) ?_
   rw [<- e]
   refine eP [] [] ?_ ?_ <;> repeat' first|exact eN|refine And.intro ?_ ?_
   all_goals first|exact fun _ _=>teqs_refl _|skip
  ·have hP1 : P b i = true := by
    have h8 : ¬(rowU f (mE f y) f.blocks.length 0 b).getD i Enc.d = 0 /\ R.getD b Enc.d = true := ‹_›
    rw [hr7] at h8
    have h9 : 0 <= mE f y b i := (meetsE_rng f (insE f b i) y).1
    exact hPi.2 ⟨by omega,h8.2,hc⟩
   have e : accP f P b (i + 1) = accP f P b i ++ [⟨0,b,i⟩] := (accP_snoc f P b i).trans (if_pos hP1)
   refine .mk (i + 1) (by omega) (by omega) ?_
   refine eP [(6,145)] [] ?_ ?_ <;> repeat' first|exact eN|refine And.intro ?_ ?_|exact snoc_len e|exact snoc_get e rfl|rw [e]
   all_goals first|exact fun _ _=>teqs_refl _|skip
  ·have hP0 : ¬P b i = true := fun h=>by
    have h9 := (hPi.1 h).2.2
    rw [hc] at h9; cases h9
   have e : accP f P b (i + 1) = accP f P b i := (accP_snoc f P b i).trans (if_neg hP0)
   refine .mk (i + 1) (by omega) (by omega) ?_
   rw [<- e]
   refine eP [] [] ?_ ?_ <;> repeat' first|exact eN|refine And.intro ?_ ?_
   all_goals first|exact fun _ _=>teqs_refl _|skip
 have hbl := hlen b
 have hlE : lenE f b = (f.blocks.getD b Enc.d).code.length := rfl
 repeat' first|(refine iF (fun hb=>?_) (fun hb=>?_) <;> (try simp only [yv] at hb) <;> (have hc := hb; try simp only [sB,Int.reduceToNat] at hc; try simp only [addZ0] at hc) <;> first|(exfalso; omega)|conv=>whnf)|((first|refine ya ?_|refine yb ?_|refine yc ?_|refine yd ?_|refine yf ?_|refine yh ?_|refine yj ?_|refine dD ?_|refine dF ?_|refine d0 ?_|refine d1 ?_|refine dL ?_|refine dP ?_|refine yl ?_|refine ym ?_|refine yn ?_|refine ⟨_,fun _=>(IntKind.wrap_u64 _).symm,?_⟩); conv=>whnf)|(refine yt ?_; conv=>whnf)|exact ⟨_,.keep rfl rfl⟩|fail
 refine lp [13] (fun i : Nat=>[.i .i64 i]) (fun i=>[(46,.tree 1 f.blocks.length fun t=>[eL (rowU f (mE f y) b i t)]),(42,.tree 1 f.blocks.length fun t=>[eL (rowU f (mS f y) b i t)]),(8,bx y),(3,bx (⟨0,pb,pi⟩ : Plc)),(2,bx f)]) (fun i=>i <= lenE f b) (fun i=>lenE f b - i) 0 (Nat.zero_le _) ?_ fun i hi=>?_
 ·refine eP [] [] ?_ ?_ <;> repeat' first|exact eN|refine And.intro ?_ ?_
  all_goals first|exact fun _ _=>teqs_refl _|skip
 conv=>whnf
 rcases (Nat.lt_or_ge i (lenE f b)).symm with hig|hil
 ·obtain rfl : i = lenE f b := by omega
  repeat' first|(refine iF (fun hb=>?_) (fun hb=>?_) <;> (try simp only [yv] at hb) <;> (have hc := hb; try simp only [sB,Int.reduceToNat] at hc; try simp only [addZ0] at hc) <;> first|(exfalso; omega)|conv=>whnf)|((first|refine ya ?_|refine yb ?_|refine yc ?_|refine yd ?_|refine yf ?_|refine yh ?_|refine yj ?_|refine dD ?_|refine dF ?_|refine d0 ?_|refine d1 ?_|refine dL ?_|refine dP ?_|refine yl ?_|refine ym ?_|refine yn ?_|refine ⟨_,fun _=>(IntKind.wrap_u64 _).symm,?_⟩); conv=>whnf)|(refine yt ?_; conv=>whnf)|exact ⟨_,.keep rfl rfl⟩|fail
  refine .mk (b + 1) (by omega) (by omega) ?_
  refine eP [] [] ?_ ?_ <;> repeat' first|exact eN|refine And.intro ?_ ?_
  all_goals first|exact fun t ht=>teqs_of (congrArg (fun l=>[eL l]) (rowU_next f _ b t).symm)|skip
 have hmt := hms b i hil
 have hr1 := rowU_len f (mE f y) b i
 have hr2 := rowU_len f (mS f y) b i
 have hz : addZ 0 ((b : Int)).toNat < f.blocks.length := by rw [addZ_eq]; omega
 have hz2 : addZ 0 ((b : Int)).toNat = b := by rw [addZ_eq]; omega
 have hr3 : (rowU f (mE f y) b i (addZ 0 ((b : Int)).toNat)).length = i := by rw [hz2]; exact hr1
 have hr4 : (rowU f (mS f y) b i (addZ 0 ((b : Int)).toNat)).length = i := by rw [hz2]; exact hr2
 repeat' first|(refine iF (fun hb=>?_) (fun hb=>?_) <;> (try simp only [yv] at hb) <;> (have hc := hb; try simp only [sB,Int.reduceToNat] at hc; try simp only [addZ0] at hc) <;> first|(exfalso; omega)|conv=>whnf)|((first|refine ya ?_|refine yb ?_|refine yc ?_|refine yd ?_|refine yf ?_|refine yh ?_|refine yj ?_|refine dD ?_|refine dF ?_|refine d0 ?_|refine d1 ?_|refine dL ?_|refine dP ?_|refine yl ?_|refine ym ?_|refine yn ?_|refine ⟨_,fun _=>(IntKind.wrap_u64 _).symm,?_⟩); conv=>whnf)|((first|refine cK (fun _=>hmt) ?_|((try (refine CallW.lent ?_; (conv=>whnf); repeat (refine yb ?_; (conv=>whnf)))); refine cL (fun _=>hmt) ?_)); conv=>whnf)|(refine yt ?_; conv=>whnf)|exact ⟨_,.keep rfl rfl⟩|fail
 refine And.intro ⟨rfl,fun _ _=>rfl⟩ ?_
 conv=>whnf
 repeat' first|(refine iF (fun hb=>?_) (fun hb=>?_) <;> (try simp only [yv] at hb) <;> (have hc := hb; try simp only [sB,Int.reduceToNat] at hc; try simp only [addZ0] at hc) <;> first|(exfalso; omega)|conv=>whnf)|((first|refine ya ?_|refine yb ?_|refine yc ?_|refine yd ?_|refine yf ?_|refine yh ?_|refine yj ?_|refine dD ?_|refine dF ?_|refine d0 ?_|refine d1 ?_|refine dL ?_|refine dP ?_|refine yl ?_|refine ym ?_|refine yn ?_|refine ⟨_,fun _=>(IntKind.wrap_u64 _).symm,?_⟩); conv=>whnf)|(refine yt ?_; conv=>whnf)|exact ⟨_,.keep rfl rfl⟩|fail
 refine And.intro ⟨⟨rfl,fun _ _=>leafs_cat (fun _=>rfl) (leafs_lit1 rfl) _⟩,hz⟩ ?_
 conv=>whnf
 repeat' first|(refine iF (fun hb=>?_) (fun hb=>?_) <;> (try simp only [yv] at hb) <;> (have hc := hb; try simp only [sB,Int.reduceToNat] at hc; try simp only [addZ0] at hc) <;> first|(exfalso; omega)|conv=>whnf)|((first|refine ya ?_|refine yb ?_|refine yc ?_|refine yd ?_|refine yf ?_|refine yh ?_|refine yj ?_|refine dD ?_|refine dF ?_|refine d0 ?_|refine d1 ?_|refine dL ?_|refine dP ?_|refine yl ?_|refine ym ?_|refine yn ?_|refine ⟨_,fun _=>(IntKind.wrap_u64 _).symm,?_⟩); conv=>whnf)|(refine yt ?_; conv=>whnf)|exact ⟨_,.keep rfl rfl⟩|fail
 refine And.intro ⟨rfl,fun _ _=>rfl⟩ ?_
 conv=>whnf
 repeat' first|(refine iF (fun hb=>?_) (fun hb=>?_) <;> (try simp only [yv] at hb) <;> (have hc := hb; try simp only [sB,Int.reduceToNat] at hc; try simp only [addZ0] at hc) <;> first|(exfalso; omega)|conv=>whnf)|((first|refine ya ?_|refine yb ?_|refine yc ?_|refine yd ?_|refine yf ?_|refine yh ?_|refine yj ?_|refine dD ?_|refine dF ?_|refine d0 ?_|refine d1 ?_|refine dL ?_|refine dP ?_|refine yl ?_|refine ym ?_|refine yn ?_|refine ⟨_,fun _=>(IntKind.wrap_u64 _).symm,?_⟩); conv=>whnf)|(refine yt ?_; conv=>whnf)|exact ⟨_,.keep rfl rfl⟩|fail
 refine And.intro ⟨⟨rfl,fun _ _=>leafs_cat (fun _=>rfl) (leafs_lit1 rfl) _⟩,hz⟩ ?_
 conv=>whnf
 repeat' first|(refine iF (fun hb=>?_) (fun hb=>?_) <;> (try simp only [yv] at hb) <;> (have hc := hb; try simp only [sB,Int.reduceToNat] at hc; try simp only [addZ0] at hc) <;> first|(exfalso; omega)|conv=>whnf)|((first|refine ya ?_|refine yb ?_|refine yc ?_|refine yd ?_|refine yf ?_|refine yh ?_|refine yj ?_|refine dD ?_|refine dF ?_|refine d0 ?_|refine d1 ?_|refine dL ?_|refine dP ?_|refine yl ?_|refine ym ?_|refine yn ?_|refine ⟨_,fun _=>(IntKind.wrap_u64 _).symm,?_⟩); conv=>whnf)|(refine yt ?_; conv=>whnf)|exact ⟨_,.keep rfl rfl⟩|fail
 refine .mk (i + 1) (by omega) (by omega) ?_
 refine eP [] [] ?_ ?_ <;> repeat' first|exact eN|refine And.intro ?_ ?_
 ·intro t ht
  refine tree_snoc (x := (mE f y b i : Int)) (g' := fun t : Nat=>[eL (rowU f (mE f y) b (i + 1) t)]) (l' := rowU f (mE f y) b (i + 1) t) (fun e=>?_) rfl (fun _=>⟨_,rfl⟩) (fun _=>rfl) fun e=>?_
  ·rw [e,hz2]; exact rowU_snoc f _ b i
  ·exact congrArg (fun l=>[eL l]) (rowU_ne f _ (by rw [hz2] at e; exact e))
 ·intro t ht
  refine tree_snoc (x := (mS f y b i : Bool)) (g' := fun t : Nat=>[eL (rowU f (mS f y) b (i + 1) t)]) (l' := rowU f (mS f y) b (i + 1) t) (fun e=>?_) rfl (fun _=>⟨_,rfl⟩) (fun _=>rfl) fun e=>?_
  ·rw [e,hz2]; exact rowU_snoc f _ b i
  ·exact congrArg (fun l=>[eL l]) (rowU_ne f _ (by rw [hz2] at e; exact e))
theorem Src20_N (f : FnE) (p : Plc) (hs : OkF f) (h : ¬isLoad f p) : ASpec Tryz.prog 48 [eS f,eS p] (.tup [.nil,.b false]) [] := by
 have h1 := blocks_le f
 have hLd := Load20_S f ⟨0,p.b,p.i⟩ hs.sz
 rw [show isLoadB f ⟨0,p.b,p.i⟩ = false from @decide_eq_false _ (Classical.propDecidable _) h] at hLd
 refine ASpec.enter TYok mixed Tryz.func48 rfl Tryz.call48 Tryz.ntmps48 rfl (rs := [.tmp 4,.tmp 5]) rfl (nodupB_ok rfl) (Clo.one rfl) (keep := [0,1,2,3,4,5,6,7,8,9,10,11,12,13,14,15,16,17,18]) ?_; conv=>whnf
 repeat' first|(refine iF (fun hb=>?_) (fun hb=>?_) <;> (try simp only [yv] at hb) <;> (have hc := hb; try simp only [sB,Int.reduceToNat] at hc; try simp only [addZ0] at hc) <;> first|(exfalso; omega)|conv=>whnf)|((first|refine ya ?_|refine yb ?_|refine yc ?_|refine yd ?_|refine yf ?_|refine yh ?_|refine yj ?_|refine dD ?_|refine dF ?_|refine d0 ?_|refine d1 ?_|refine dL ?_|refine dP ?_|refine yl ?_|refine ym ?_|refine yn ?_|refine ⟨_,fun _=>(IntKind.wrap_u64 _).symm,?_⟩); conv=>whnf)|((first|refine cK (fun _=>hLd) ?_|((try (refine CallW.lent ?_; (conv=>whnf); repeat (refine yb ?_; (conv=>whnf)))); refine cL (fun _=>hLd) ?_)); conv=>whnf)|(refine yt ?_; conv=>whnf)|exact ⟨_,.keep rfl rfl⟩|fail
 ·cases hb
theorem over23_S (c : List InsE) (a : Nat) (ha : a < c.length) (hl : c.length < 4294967296) (hs : ∀ i,(c.getD i Enc.d).op = 28 -> 2 <= (c.getD i Enc.d).args.length) (h2 : ∀ i,(c.getD i Enc.d).args.length < 4294967296) (h3 : (c.getD a Enc.d).op = 28) : ASpec Tryz.prog 49 [eL c,.i .i64 a] (.b (overB c a)) [] := by
 have hsa := hs a h3
 have h2a := h2 a
 refine ASpec.enter TYok mixed Tryz.func49 rfl Tryz.call49 Tryz.ntmps49 rfl (rs := [.tmp 4]) rfl (nodupB_ok rfl) (Clo.one rfl) (keep := [0,1,4,5]) ?_; conv=>whnf
 repeat' first|(refine iF (fun hb=>?_) (fun hb=>?_) <;> (try simp only [yv] at hb) <;> (have hc := hb; try simp only [sB,Int.reduceToNat] at hc; try simp only [addZ0] at hc) <;> first|(exfalso; omega)|conv=>whnf)|((first|refine ya ?_|refine yb ?_|refine yc ?_|refine yd ?_|refine yf ?_|refine yh ?_|refine yj ?_|refine dD ?_|refine dF ?_|refine d0 ?_|refine d1 ?_|refine dL ?_|refine dP ?_|refine yl ?_|refine ym ?_|refine yn ?_|refine ⟨_,fun _=>(IntKind.wrap_u64 _).symm,?_⟩); conv=>whnf)|(refine yt ?_; conv=>whnf)|exact ⟨_,.keep rfl rfl⟩|fail
 refine lp [5] (fun q : Nat=>[.i .i64 ((a : Int) + 1 + q)]) (fun q=>[]) (fun q=>q <= c.length - (a + 1) /\ ∀ i,i < q -> ovC c a i = 0) (fun q=>c.length - (a + 1) - q) 0 ⟨by omega,fun i h=>by omega⟩ ?_ fun q hq=>?_
 ·refine eP [] [] ?_ ?_ <;> repeat' first|exact eN|refine And.intro ?_ ?_
 conv=>whnf
 obtain ⟨hq,hv⟩ := hq
 have hidx : ((a : Int) + 1 + q).toNat = a + 1 + q := by omega
 have hsq := hs (((a : Int) + 1 + q).toNat)
 have h2q := h2 (((a : Int) + 1 + q).toNat)
 repeat' first|(refine iF (fun hb=>?_) (fun hb=>?_) <;> (try simp only [yv] at hb) <;> (have hc := hb; try simp only [sB,Int.reduceToNat] at hc; try simp only [addZ0] at hc) <;> first|(exfalso; omega)|conv=>whnf)|((first|refine ya ?_|refine yb ?_|refine yc ?_|refine yd ?_|refine yf ?_|refine yh ?_|refine yj ?_|refine dD ?_|refine dF ?_|refine d0 ?_|refine d1 ?_|refine dL ?_|refine dP ?_|refine yl ?_|refine ym ?_|refine yn ?_|refine ⟨_,fun _=>(IntKind.wrap_u64 _).symm,?_⟩); conv=>whnf)|(refine yt ?_; conv=>whnf)|exact ⟨_,.keep rfl rfl⟩|fail
 ·refine ⟨_,.keep (congrArg AV.b ?_) rfl⟩
  rw [hidx] at hc
  have e := ov1 hc
  rw [over_at (by omega) hv (by rw [e]; decide),e]; rfl
 ·rename_i hc0
  refine ⟨_,.keep (congrArg AV.b ?_) rfl⟩
  rw [hidx] at hc hc0
  have e := ov2 (fun h=>by omega) ⟨hc.1.1,hc.1.2,Opd_ext hc.2⟩
  rw [over_at (by omega) hv (by rw [e]; decide),e]; rfl
 ·rename_i hc0
  rw [hidx] at hc hc0
  refine .mk (q + 1) ⟨by omega,all_step hv (ov0 (fun h=>by omega) fun h=>?_)⟩ (by omega) ?_
  ·rw [h.1,h.2.1,h.2.2] at hc; simp at hc
  ·refine eP [] [] ?_ ?_ <;> repeat' first|exact eN|refine And.intro ?_ ?_
 ·refine ⟨_,.keep (congrArg AV.b ?_) rfl⟩
  unfold overB
  rw [firstC_no fun i hi=>hv i (by omega)]
theorem lonely23_S (f : FnE) (v : Opd) (hs : siz f < 4294967296) : ASpec Tryz.prog 50 [eS f,eS v] (.b (aloneE f (RootE f v).v)) [] := by
 refine ASpec.enter TYok mixed Tryz.func50 rfl Tryz.call50 Tryz.ntmps50 rfl (rs := [.tmp 4]) rfl (nodupB_ok rfl) (Clo.one rfl) (keep := [0,1,2,3,4,5,8,10]) ?_; conv=>whnf
 repeat' first|(refine iF (fun hb=>?_) (fun hb=>?_) <;> (try simp only [yv] at hb) <;> (have hc := hb; try simp only [sB,Int.reduceToNat] at hc; try simp only [addZ0] at hc) <;> first|(exfalso; omega)|conv=>whnf)|((first|refine ya ?_|refine yb ?_|refine yc ?_|refine yd ?_|refine yf ?_|refine yh ?_|refine yj ?_|refine dD ?_|refine dF ?_|refine d0 ?_|refine d1 ?_|refine dL ?_|refine dP ?_|refine yl ?_|refine ym ?_|refine yn ?_|refine ⟨_,fun _=>(IntKind.wrap_u64 _).symm,?_⟩); conv=>whnf)|((first|refine cK (fun _=>Root_S f v hs) ?_|((try (refine CallW.lent ?_; (conv=>whnf); repeat (refine yb ?_; (conv=>whnf)))); refine cL (fun _=>Root_S f v hs) ?_)); conv=>whnf)|((first|refine cK (fun _=>Maker_S f _ hs) ?_|((try (refine CallW.lent ?_; (conv=>whnf); repeat (refine yb ?_; (conv=>whnf)))); refine cL (fun _=>Maker_S f _ hs) ?_)); conv=>whnf)|((first|refine cK (fun _=>Escapes_S f _ hs) ?_|((try (refine CallW.lent ?_; (conv=>whnf); repeat (refine yb ?_; (conv=>whnf)))); refine cL (fun _=>Escapes_S f _ hs) ?_)); conv=>whnf)|(refine yt ?_; conv=>whnf)|exact ⟨_,.keep rfl rfl⟩|fail
 ·exact ⟨_,.keep (congrArg AV.b (by unfold aloneE allocaE; rw [decide_eq_false hc]; rfl)) rfl⟩
 ·exact ⟨_,.keep (congrArg AV.b (by unfold aloneE allocaE; rw [decide_eq_true hc]; rfl)) rfl⟩
theorem catF_app {α : Type} [Enc α] (l m : List α) (i : Nat) : catF l.length (fun i=>Enc.enc (l.getD i Enc.d)) (fun i=>Enc.enc (m.getD i Enc.d)) i = Enc.enc ((l ++ m).getD i Enc.d) := by
 unfold catF
 split
 ·rename_i h
  rw [List.getD_eq_getElem?_getD (l := l ++ m),List.getElem?_append_left h,<- List.getD_eq_getElem?_getD]
 ·rename_i h
  rw [List.getD_eq_getElem?_getD (l := l ++ m),List.getElem?_append_right (by omega),<- List.getD_eq_getElem?_getD]
noncomputable def srcAt (f : FnE) (j : Nat) : List Plc := bif decide (((C1 f).getD j Enc.d).op = 27) && isLoadB f ((C2 f).getD j Enc.d) then srcL f ((C1 f).getD j Enc.d) ((C2 f).getD j Enc.d).b.toNat ((C2 f).getD j Enc.d).i.toNat else []
noncomputable def srcTo (f : FnE) (q : Nat) : List Plc := (List.range q).flatMap (srcAt f)
theorem srcTo_succ (f : FnE) (q : Nat) : srcTo f (q + 1) = srcTo f q ++ srcAt f q := by
 unfold srcTo; rw [List.range_succ,List.flatMap_append,List.flatMap_singleton]
theorem srcAt_len (f : FnE) (j : Nat) : (srcAt f j).length <= (Code f).length := by
 unfold srcAt
 cases decide (((C1 f).getD j Enc.d).op = 27) && isLoadB f ((C2 f).getD j Enc.d) with
 | false=>exact Nat.zero_le _
 | true =>
  rw [cond_true]; unfold srcL
  rw [List.length_map]; exact List.length_filter_le _ _
theorem srcTo_len (f : FnE) (q : Nat) (hL : (Code f).length <= 400) : (srcTo f q).length <= q * 400 := by
 induction q with
 | zero=>exact Nat.le_refl _
 | succ q ih =>
  have := srcAt_len f q
  rw [srcTo_succ,List.length_append]; omega
theorem Sourced_S (f : FnE) (hs : OkF f) (ha : OkA f) (hL : (Code f).length <= 400) : ASpec Tryz.prog 25 [eS f] (eL (srcTo f (Code f).length)) [] := by
 have hz := hs.sz
 have h1 := C1_len f
 have h2 : (C2 f).length = (Code f).length := List.length_map _
 refine ASpec.enter TYok mixed Tryz.func25 rfl Tryz.call25 Tryz.ntmps25 rfl (rs := [.tmp 2]) rfl (nodupB_ok rfl) (Clo.one rfl) (keep := [0,1,2,3,4,5,6,7]) ?_; conv=>whnf
 repeat' first|(refine iF (fun hb=>?_) (fun hb=>?_) <;> (try simp only [yv] at hb) <;> (have hc := hb; try simp only [sB,Int.reduceToNat] at hc; try simp only [addZ0] at hc) <;> first|(exfalso; omega)|conv=>whnf)|((first|refine ya ?_|refine yb ?_|refine yc ?_|refine yd ?_|refine yf ?_|refine yh ?_|refine yj ?_|refine dD ?_|refine dF ?_|refine d0 ?_|refine d1 ?_|refine dL ?_|refine dP ?_|refine yl ?_|refine ym ?_|refine yn ?_|refine ⟨_,fun _=>(IntKind.wrap_u64 _).symm,?_⟩); conv=>whnf)|((first|refine cK (fun _=>Code_C 140 141 (by decide) f hz) ?_|((try (refine CallW.lent ?_; (conv=>whnf); repeat (refine yb ?_; (conv=>whnf)))); refine cL (fun _=>Code_C 140 141 (by decide) f hz) ?_)); conv=>whnf)|(refine yt ?_; conv=>whnf)|exact ⟨_,.keep rfl rfl⟩|fail
 refine lp [6,3] (fun q : Nat=>[.i .i64 q,.orow 3 3 0 (srcTo f q).length]) (fun q=>[(3,oL (srcTo f q)),(1,bx f),(140,oL (C1 f)),(141,oL (C2 f))]) (fun q=>q <= (Code f).length) (fun q=>(Code f).length - q) 0 (Nat.zero_le _) ?_ fun q hq=>?_
 ·refine eP [] [3] ?_ ?_ <;> repeat' first|exact eN|refine And.intro ?_ ?_
 conv=>whnf
 have hsl := srcTo_len f q hL
 have hal := srcAt_len f q
 rcases Nat.lt_or_ge q (Code f).length with hlt|hge
 ·obtain ⟨b,k,g1,g2,g3,g4⟩ := Code_get hlt
  have hS := srcTo_succ f q
  by_cases hl : isLoad f ((C2 f).getD q Enc.d)
  ·have hSr := Src20_T f 0 b k hs ha (by rw [<- g4]; exact hl)
   rw [show insE f b k = (C1 f).getD q Enc.d from g3.symm] at hSr
   have hat : srcAt f q = srcL f ((C1 f).getD q Enc.d) b k := by
    have e1 : ((C1 f).getD q Enc.d).op = 27 := by
     have := hl.2.2.1
     rw [g4] at this
     rw [g3]; exact this
    have e2 : isLoadB f ((C2 f).getD q Enc.d) = true := @decide_eq_true _ (Classical.propDecidable _) hl
    unfold srcAt
    rw [e1,e2,g4]; rfl
   rw [<- hat,show (⟨0,(b : Int),(k : Int)⟩ : Plc) = (C2 f).getD q Enc.d from g4.symm] at hSr
   repeat' first|(refine iF (fun hb=>?_) (fun hb=>?_) <;> (try simp only [yv] at hb) <;> (have hc := hb; try simp only [sB,Int.reduceToNat] at hc; try simp only [addZ0] at hc) <;> first|(exfalso; omega)|conv=>whnf)|((first|refine ya ?_|refine yb ?_|refine yc ?_|refine yd ?_|refine yf ?_|refine yh ?_|refine yj ?_|refine dD ?_|refine dF ?_|refine d0 ?_|refine d1 ?_|refine dL ?_|refine dP ?_|refine yl ?_|refine ym ?_|refine yn ?_|refine ⟨_,fun _=>(IntKind.wrap_u64 _).symm,?_⟩); conv=>whnf)|((first|refine cK (fun _=>hSr) ?_|((try (refine CallW.lent ?_; (conv=>whnf); repeat (refine yb ?_; (conv=>whnf)))); refine cL (fun _=>hSr) ?_)); conv=>whnf)|(refine yt ?_; conv=>whnf)|exact ⟨_,.keep rfl rfl⟩|fail
   ·have e3 : (srcTo f (q + 1)).length = (srcTo f q).length + (srcAt f q).length := by rw [hS,List.length_append]
    refine .mk (q + 1) (by omega) (by omega) ?_
    refine eP [(3,37)] [] ?_ ?_ <;> repeat' first|exact eN|refine And.intro ?_ ?_
    all_goals first|exact e3.symm|skip
    intro i hi
    rw [hS]
    exact catF_app _ _ i
   ·exfalso
    have e1 : ((C1 f).getD q Enc.d).op = 27 := by
     have := hl.2.2.1
     rw [g4] at this
     rw [g3]; exact this
    exact hc e1
  ·have hSr := Src20_N f ((C2 f).getD q Enc.d) hs hl
   have hat : srcAt f q = [] := by
    have e2 : isLoadB f ((C2 f).getD q Enc.d) = false := @decide_eq_false _ (Classical.propDecidable _) hl
    unfold srcAt
    rw [e2,Bool.and_false,cond_false]
   rw [hat,List.append_nil] at hS
   repeat' first|(refine iF (fun hb=>?_) (fun hb=>?_) <;> (try simp only [yv] at hb) <;> (have hc := hb; try simp only [sB,Int.reduceToNat] at hc; try simp only [addZ0] at hc) <;> first|(exfalso; omega)|conv=>whnf)|((first|refine ya ?_|refine yb ?_|refine yc ?_|refine yd ?_|refine yf ?_|refine yh ?_|refine yj ?_|refine dD ?_|refine dF ?_|refine d0 ?_|refine d1 ?_|refine dL ?_|refine dP ?_|refine yl ?_|refine ym ?_|refine yn ?_|refine ⟨_,fun _=>(IntKind.wrap_u64 _).symm,?_⟩); conv=>whnf)|((first|refine cK (fun _=>hSr) ?_|((try (refine CallW.lent ?_; (conv=>whnf); repeat (refine yb ?_; (conv=>whnf)))); refine cL (fun _=>hSr) ?_)); conv=>whnf)|(refine yt ?_; conv=>whnf)|exact ⟨_,.keep rfl rfl⟩|fail
   ·refine .mk (q + 1) (by omega) (by omega) ?_
    refine eP [(3,37)] [] ?_ ?_ <;> repeat' first|exact eN|refine And.intro ?_ ?_
    all_goals first|exact congrArg List.length hS.symm|skip
    intro i hi
    rw [hS] at hi ⊢
    unfold catF
    rw [if_pos (by first|exact hi|omega)]; rfl
   ·refine .mk (q + 1) (by omega) (by omega) ?_
    rw [hS]
    refine eP [] [] ?_ ?_ <;> repeat' first|exact eN|refine And.intro ?_ ?_
 ·repeat' first|(refine iF (fun hb=>?_) (fun hb=>?_) <;> (try simp only [yv] at hb) <;> (have hc := hb; try simp only [sB,Int.reduceToNat] at hc; try simp only [addZ0] at hc) <;> first|(exfalso; omega)|conv=>whnf)|((first|refine ya ?_|refine yb ?_|refine yc ?_|refine yd ?_|refine yf ?_|refine yh ?_|refine yj ?_|refine dD ?_|refine dF ?_|refine d0 ?_|refine d1 ?_|refine dL ?_|refine dP ?_|refine yl ?_|refine ym ?_|refine yn ?_|refine ⟨_,fun _=>(IntKind.wrap_u64 _).symm,?_⟩); conv=>whnf)|(refine yt ?_; conv=>whnf)|exact ⟨_,.keep rfl rfl⟩|fail
  obtain rfl : q = (Code f).length := by omega
  exact ⟨_,.freeze rfl (by omega) rfl (fun _ _=>rfl) rfl⟩
theorem mem_src {f : FnE} {b i : Nat} : (⟨0,(b : Int),(i : Int)⟩ : Plc) ∈ srcTo f (Code f).length ↔ usdP f b i := by
 unfold srcTo
 rw [List.mem_flatMap]
 constructor
 ·rintro ⟨j,h1,h2⟩
  have hj := List.mem_range.1 h1
  obtain ⟨b',k',g1,g2,g3,g4⟩ := Code_get hj
  unfold srcAt at h2
  cases hb : decide (((C1 f).getD j Enc.d).op = 27) && isLoadB f ((C2 f).getD j Enc.d) with
  | false=>rw [hb] at h2; cases h2
  | true =>
   rw [hb,cond_true] at h2
   simp only [Bool.and_eq_true] at hb
   have h3 : isLoad f ((C2 f).getD j Enc.d) := @of_decide_eq_true _ (Classical.propDecidable _) hb.2
   rw [g4] at h2 h3
   rw [g3] at h2
   exact ⟨b',k',g1,g2,h3,h2⟩
 ·rintro ⟨b',i',h1,h2,h3,h4⟩
  obtain ⟨rest,e⟩ := Code_split h1 h2
  have hlt : (codeTo f b' i').length < (Code f).length := by rw [e]; simp
  have hg : (Code f)[(codeTo f b' i').length]? = some (insE f b' i',⟨0,b',i'⟩) := by
   rw [e,List.getElem?_append_right (Nat.le_refl _),Nat.sub_self]; rfl
  have e1 : (C1 f).getD (codeTo f b' i').length Enc.d = insE f b' i' := by
   unfold C1; rw [List.getD_eq_getElem?_getD,List.getElem?_map,hg]; rfl
  have e2 : (C2 f).getD (codeTo f b' i').length Enc.d = ⟨0,b',i'⟩ := by
   unfold C2; rw [List.getD_eq_getElem?_getD,List.getElem?_map,hg]; rfl
  refine ⟨_,List.mem_range.2 hlt,?_⟩
  have e3 : isLoadB f ⟨0,(b' : Int),(i' : Int)⟩ = true := @decide_eq_true _ (Classical.propDecidable _) h3
  have e4 : (insE f b' i').op = 27 := h3.2.2.1
  unfold srcAt
  rw [e1,e2,e3,decide_eq_true e4]
  exact h4
theorem src_at {f : FnE} {j : Nat} (hj : j < (srcTo f (Code f).length).length) : ∃ b i : Nat,(srcTo f (Code f).length).getD j Enc.d = ⟨0,(b : Int),(i : Int)⟩ := by
 have hm : (srcTo f (Code f).length)[j] ∈ srcTo f (Code f).length := List.getElem_mem hj
 rw [List.getD_eq_getElem?_getD,List.getElem?_eq_getElem hj]
 unfold srcTo at hm
 obtain ⟨k,h1,h2⟩ := List.mem_flatMap.1 hm
 unfold srcAt at h2
 cases hb : decide (((C1 f).getD k Enc.d).op = 27) && isLoadB f ((C2 f).getD k Enc.d) with
 | false=>rw [hb] at h2; cases h2
 | true =>
  rw [hb,cond_true] at h2
  obtain ⟨b,i,e,_⟩ := srcL_in _ h2
  exact ⟨b,i,e⟩
theorem dead23_S (f : FnE) (pf : Int) (b i : Nat) (hs : OkF f) (ha : OkA f) (hL : (Code f).length <= 400) (hb0 : b < f.blocks.length) (hi0 : i < lenE f b) (ho : (insE f b i).op = 28) :
  ASpec Tryz.prog 27 [eS f,eL (srcTo f (Code f).length),eS (⟨pf,(b : Int),(i : Int)⟩ : Plc)] (.b (goesB f b i)) [] := by
 have hz := hs.sz
 have h1 := blocks_le f
 have h3 := code_le f b
 have hi : i < (f.blocks.getD b Enc.d).code.length := hi0
 have hst : 2 <= ((f.blocks.getD b Enc.d).code.getD i Enc.d).args.length := ha.st b i hi0 ho
 have hal : ((f.blocks.getD b Enc.d).code.getD i Enc.d).args.length < 4294967296 := Nat.lt_of_le_of_lt (Nat.le_trans (args_le _) (ins_le f b i)) hz
 have hO := over23_S (f.blocks.getD b Enc.d).code i hi (by omega) (fun k hk=>by
  rcases Nat.lt_or_ge k (f.blocks.getD b Enc.d).code.length with hkl|hkl
  ·exact ha.st b k hkl hk
  ·rw [List.getD_eq_getElem?_getD,List.getElem?_eq_none hkl] at hk; exact absurd hk (by decide)) (fun k=>Nat.lt_of_le_of_lt (Nat.le_trans (args_le _) (ins_le f b k)) hz) ho
 have hLo := lonely23_S f (((f.blocks.getD b Enc.d).code.getD i Enc.d).args.getD 1 Enc.d) hz
 obtain ⟨A,hA⟩ : ∃ A,A = aloneE f (RootE f (((f.blocks.getD b Enc.d).code.getD i Enc.d).args.getD 1 Enc.d)).v := ⟨_,rfl⟩
 obtain ⟨O,hOv⟩ : ∃ O,O = overB (f.blocks.getD b Enc.d).code i := ⟨_,rfl⟩
 rw [<- hA] at hLo
 rw [<- hOv] at hO
 have hg : goesB f b i = (O || (A && !usdB f b i)) := by rw [hOv,hA]; rfl
 rw [hg]
 have hsl := srcTo_len f (Code f).length hL
 have hsl2 := Nat.mul_le_mul_right 400 hL
 refine ASpec.enter TYok mixed Tryz.func27 rfl Tryz.call27 Tryz.ntmps27 rfl (rs := [.tmp 6]) rfl (nodupB_ok rfl) (Clo.one rfl) (keep := [0,1,2,3,5,6,7,8,9,10]) ?_; conv=>whnf
 repeat' first|(refine iF (fun hb=>?_) (fun hb=>?_) <;> (try simp only [yv] at hb) <;> (have hc := hb; try simp only [sB,Int.reduceToNat] at hc; try simp only [addZ0] at hc) <;> first|(exfalso; omega)|conv=>whnf)|((first|refine ya ?_|refine yb ?_|refine yc ?_|refine yd ?_|refine yf ?_|refine yh ?_|refine yj ?_|refine dD ?_|refine dF ?_|refine d0 ?_|refine d1 ?_|refine dL ?_|refine dP ?_|refine yl ?_|refine ym ?_|refine yn ?_|refine ⟨_,fun _=>(IntKind.wrap_u64 _).symm,?_⟩); conv=>whnf)|((first|refine cK (fun _=>hO) ?_|((try (refine CallW.lent ?_; (conv=>whnf); repeat (refine yb ?_; (conv=>whnf)))); refine cL (fun _=>hO) ?_)); conv=>whnf)|((first|refine cK (fun _=>hLo) ?_|((try (refine CallW.lent ?_; (conv=>whnf); repeat (refine yb ?_; (conv=>whnf)))); refine cL (fun _=>hLo) ?_)); conv=>whnf)|(refine yt ?_; conv=>whnf)|exact ⟨_,.keep rfl rfl⟩|fail
 ·subst hb
  exact ⟨_,.keep rfl rfl⟩
 ·simp only [Bool.not_eq_true'] at hb
  rename_i ho2 _
  exact ⟨_,.keep (congrArg AV.b (by rw [hb]; cases O <;> first|rfl|(simp_all; done))) rfl⟩
 have hA1 : A = true := by simpa using hb
 refine lp [10] (fun q : Nat=>[.i .i64 q]) (fun q=>[(5,bx (⟨pf,(b : Int),(i : Int)⟩ : Plc)),(3,bx f)]) (fun q=>q <= (srcTo f (Code f).length).length /\ ∀ j,j < q -> ¬(srcTo f (Code f).length).getD j Enc.d = ⟨0,(b : Int),(i : Int)⟩) (fun q=>(srcTo f (Code f).length).length - q) 0 ⟨Nat.zero_le _,fun j h=>absurd h (Nat.not_lt_zero _)⟩ ?_ fun q hq=>?_
 ·refine eP [] [] ?_ ?_ <;> repeat' first|exact eN|refine And.intro ?_ ?_
 conv=>whnf
 obtain ⟨hq,hv⟩ := hq
 have hO1 : O = false := by assumption
 repeat' first|(refine iF (fun hb=>?_) (fun hb=>?_) <;> (try simp only [yv] at hb) <;> (have hc := hb; try simp only [sB,Int.reduceToNat] at hc; try simp only [addZ0] at hc) <;> first|(exfalso; omega)|conv=>whnf)|((first|refine ya ?_|refine yb ?_|refine yc ?_|refine yd ?_|refine yf ?_|refine yh ?_|refine yj ?_|refine dD ?_|refine dF ?_|refine d0 ?_|refine d1 ?_|refine dL ?_|refine dP ?_|refine yl ?_|refine ym ?_|refine yn ?_|refine ⟨_,fun _=>(IntKind.wrap_u64 _).symm,?_⟩); conv=>whnf)|(refine yt ?_; conv=>whnf)|exact ⟨_,.keep rfl rfl⟩|fail
 ·refine ⟨_,.keep (congrArg AV.b ?_) rfl⟩
  have hlt : q < (srcTo f (Code f).length).length := by omega
  obtain ⟨b',i',e⟩ := src_at hlt
  try simp only [Int.toNat_natCast] at hc
  have hc1 := hc
  rw [e] at hc1
  simp only at hc1
  have hm : (⟨0,(b : Int),(i : Int)⟩ : Plc) ∈ srcTo f (Code f).length := by
   rw [<- hc1.1,<- hc1.2,<- e,List.getD_eq_getElem?_getD,List.getElem?_eq_getElem hlt]
   exact List.getElem_mem hlt
  rw [hO1,usd_t (mem_src.1 hm)]; simp
 ·refine .mk (q + 1) ⟨by omega,all_lt hv fun h=>?_⟩ (by omega) ?_
  ·try simp only [Int.toNat_natCast] at hc
   rw [h] at hc
   simp at hc
  ·refine eP [] [] ?_ ?_ <;> repeat' first|exact eN|refine And.intro ?_ ?_
 ·refine ⟨_,.keep (congrArg AV.b ?_) rfl⟩
  have hno : usdB f b i = false := usd_f fun h=>by
   obtain ⟨j,hj,e⟩ := List.getElem_of_mem (mem_src.2 h)
   refine hv j (by omega) ?_
   rw [List.getD_eq_getElem?_getD,List.getElem?_eq_getElem hj,e]; rfl
  rw [hO1,hA1,hno]; rfl
theorem Dead23_S (f : FnE) (p : Plc) (hs : OkF f) (ha : OkA f) (hL : (Code f).length <= 400) : ASpec Tryz.prog 12 [eS f,eS p] (.b (deadB f p)) [] := by
 have h1 := blocks_le f
 have hz := hs.sz
 have h3 := code_le f p.b.toNat
 obtain ⟨R,hR⟩ := isRG_ex f (-1)
 have hRl := hR.1
 have hSo := Sourced_S f hs ha hL
 have hpre : (0 <= p.b /\ p.b < f.blocks.length) -> (0 <= p.i /\ p.i < ((f.blocks.getD p.b.toNat Enc.d).code.length : Int)) -> ((f.blocks.getD p.b.toNat Enc.d).code.getD p.i.toNat Enc.d).op = 28 ->
   ASpec Tryz.prog 27 [eS f,eL (srcTo f (Code f).length),eS p] (.b (goesB f p.b.toNat p.i.toNat)) [] := fun hb hi ho=>by
  obtain ⟨pf,pb,pi⟩ := p
  obtain ⟨b,rfl⟩ : ∃ b : Nat,pb = b := ⟨pb.toNat,by simp only at hb; omega⟩
  obtain ⟨i,rfl⟩ : ∃ i : Nat,pi = i := ⟨pi.toNat,by simp only at hi; omega⟩
  simp only [Int.toNat_natCast] at *
  exact dead23_S f pf b i hs ha hL (by omega) (show i < (f.blocks.getD b Enc.d).code.length by omega) ho
 refine ASpec.enter TYok mixed Tryz.func12 rfl Tryz.call12 Tryz.ntmps12 rfl (rs := [.tmp 4]) rfl (nodupB_ok rfl) (Clo.one rfl) (keep := [0,1,2,3,4,5]) ?_; conv=>whnf
 repeat' first|(refine iF (fun hb=>?_) (fun hb=>?_) <;> (try simp only [yv] at hb) <;> (have hc := hb; try simp only [sB,Int.reduceToNat] at hc; try simp only [addZ0] at hc) <;> first|(exfalso; omega)|conv=>whnf)|((first|refine ya ?_|refine yb ?_|refine yc ?_|refine yd ?_|refine yf ?_|refine yh ?_|refine yj ?_|refine dD ?_|refine dF ?_|refine d0 ?_|refine d1 ?_|refine dL ?_|refine dP ?_|refine yl ?_|refine ym ?_|refine yn ?_|refine ⟨_,fun _=>(IntKind.wrap_u64 _).symm,?_⟩); conv=>whnf)|((first|refine cK (fun _=>Reach_F f R hR hz) ?_|((try (refine CallW.lent ?_; (conv=>whnf); repeat (refine yb ?_; (conv=>whnf)))); refine cL (fun _=>Reach_F f R hR hz) ?_)); conv=>whnf)|((first|refine cK (fun _=>hSo) ?_|((try (refine CallW.lent ?_; (conv=>whnf); repeat (refine yb ?_; (conv=>whnf)))); refine cL (fun _=>hSo) ?_)); conv=>whnf)|(refine yt ?_; conv=>whnf)|exact ⟨_,.keep rfl rfl⟩|fail
 ·refine ⟨_,.keep (congrArg AV.b (dead_f fun h=>?_).symm) rfl⟩
  obtain ⟨q1,q2,_⟩ := h
  have q2' : 0 <= p.i /\ p.i < ((f.blocks.getD p.b.toNat Enc.d).code.length : Int) := q2
  omega
 ·rename_i hc0
  have hb1 : 0 <= p.b /\ p.b < f.blocks.length := by omega
  refine ⟨_,.keep (congrArg AV.b (dead_f fun h=>?_).symm) rfl⟩
  obtain ⟨_,_,q3,q4,_⟩ := h
  have := (hR.2 p.b.toNat (by omega)).2 q3
  rw [show R.getD p.b.toNat Enc.d = true from this] at hc
  rcases hc with hc|hc
  ·cases hc
  ·exact hc q4
 ·rename_i hc0
  have hb1 : 0 <= p.b /\ p.b < f.blocks.length := by omega
  have hi1 : 0 <= p.i /\ p.i < ((f.blocks.getD p.b.toNat Enc.d).code.length : Int) := by omega
  have hrg := (hR.2 p.b.toNat (by omega)).1 (hc.1)
  have hP := hpre hb1 hi1 hc.2
  have hD : deadB f p = goesB f p.b.toNat p.i.toNat := by
   cases hg : goesB f p.b.toNat p.i.toNat with
   | true=>exact dead_t ⟨hb1,hi1,hrg,hc.2,hg⟩
   | false=>exact dead_f fun h=>by have := h.2.2.2.2; rw [hg] at this; cases this
  rw [hD]
  repeat' first|(refine iF (fun hb=>?_) (fun hb=>?_) <;> (try simp only [yv] at hb) <;> (have hc := hb; try simp only [sB,Int.reduceToNat] at hc; try simp only [addZ0] at hc) <;> first|(exfalso; omega)|conv=>whnf)|((first|refine ya ?_|refine yb ?_|refine yc ?_|refine yd ?_|refine yf ?_|refine yh ?_|refine yj ?_|refine dD ?_|refine dF ?_|refine d0 ?_|refine d1 ?_|refine dL ?_|refine dP ?_|refine yl ?_|refine ym ?_|refine yn ?_|refine ⟨_,fun _=>(IntKind.wrap_u64 _).symm,?_⟩); conv=>whnf)|((first|refine cK (fun _=>hP) ?_|((try (refine CallW.lent ?_; (conv=>whnf); repeat (refine yb ?_; (conv=>whnf)))); refine cL (fun _=>hP) ?_)); conv=>whnf)|(refine yt ?_; conv=>whnf)|exact ⟨_,.keep rfl rfl⟩|fail
theorem cdl (f : FnE) (b k : Nat) : (codeTo f b k).length = (codeTo f b 0).length + k := by
 rw [codeTo_len,codeTo_len]; rfl
theorem cdp (f : FnE) (b i : Nat) : ∀ k,codeTo f b i <+: codeTo f b (i + k)
 | 0=>List.prefix_refl _
 | k + 1=>by rw [<- Nat.add_assoc,codeTo_snoc]; exact (cdp f b i k).trans (List.prefix_append _ _)
theorem cdb (f : FnE) (b : Nat) : ∀ k,codeTo f b 0 <+: codeTo f (b + k) 0
 | 0=>List.prefix_refl _
 | k + 1=>by
  rw [<- Nat.add_assoc,codeTo_next]
  have h := cdp f (b + k) 0 (f.blocks.getD (b + k) Enc.d).code.length
  rw [Nat.zero_add] at h
  exact (cdb f b k).trans h
theorem cd_at {f : FnE} {b i : Nat} (hb : b < f.blocks.length) (hi : i < lenE f b) : (Code f)[(codeTo f b i).length]? = some (insE f b i,⟨0,b,i⟩) := by
 have h1 : codeTo f b (i + 1) <+: codeTo f b (f.blocks.getD b Enc.d).code.length := by
  have hi : i < (f.blocks.getD b Enc.d).code.length := hi
  have := cdp f b (i + 1) ((f.blocks.getD b Enc.d).code.length - (i + 1))
  rwa [show i + 1 + ((f.blocks.getD b Enc.d).code.length - (i + 1)) = (f.blocks.getD b Enc.d).code.length by omega] at this
 rw [<- codeTo_next] at h1
 have h2 := cdb f (b + 1) (f.blocks.length - (b + 1))
 rw [show b + 1 + (f.blocks.length - (b + 1)) = f.blocks.length by omega] at h2
 obtain ⟨rest,hr⟩ := h1.trans h2
 unfold Code
 rw [<- hr,codeTo_snoc,List.append_assoc,List.getElem?_append_right (Nat.le_refl _),Nat.sub_self]
 rfl
theorem cd_idx {f : FnE} : ∀ {B q : Nat},B <= f.blocks.length -> q < (codeTo f B 0).length -> ∃ b k,b < B /\ k < lenE f b /\ q = (codeTo f b k).length
 | 0,q,_,hq=>by simp [codeTo,pairs] at hq
 | B + 1,q,hB,hq=>by
  rcases Nat.lt_or_ge q (codeTo f B 0).length with h|h
  ·obtain ⟨b,k,h1,h2,h3⟩ := cd_idx (by omega) h
   exact ⟨b,k,by omega,h2,h3⟩
  ·rw [codeTo_next,cdl] at hq
   refine ⟨B,q - (codeTo f B 0).length,by omega,?_,?_⟩
   ·unfold lenE; omega
   ·rw [cdl]; omega
theorem cd_lt {f : FnE} {b i b' i' : Nat} (h : b' < b \/ b' = b /\ i' < i) (hi : i' < lenE f b') : (codeTo f b' i').length < (codeTo f b i).length := by
 rcases h with h|⟨rfl,h⟩
 ·have h2 := (cdb f (b' + 1) (b - (b' + 1))).length_le
  rw [show b' + 1 + (b - (b' + 1)) = b by omega,codeTo_next,cdl] at h2
  rw [cdl,cdl f b i]
  unfold lenE at hi
  omega
 ·rw [cdl,cdl f b' i]; omega
theorem cdD_fst {g : FnE} {q : Nat} {x : InsE} {p : Plc} (hq : (Code g)[q]? = some (x,p)) (hf : deadB g p = true) (hw : ∀ (j : Nat) (y : InsE) (r : Plc),j < q -> (Code g)[j]? = some (y,r) -> deadB g r = false) : ∃ b i : Nat,fstD g b i /\ x = insE g b i /\ p = ⟨0,b,i⟩ := by
 have hlt := (List.getElem?_eq_some_iff.1 hq).1
 obtain ⟨b,k,h1,h2,h3⟩ := cd_idx (f := g) (B := g.blocks.length) (q := q) (Nat.le_refl _) hlt
 have h4 := cd_at h1 h2
 rw [<- h3,hq] at h4
 cases h4
 refine ⟨b,k,⟨⟨h1,h2⟩,hf,fun b' i' hl hi=>?_⟩,rfl,rfl⟩
 have hb' : b' < g.blocks.length := len_blk hi
 exact hw _ _ _ (by rw [h3]; exact cd_lt hl hi) (cd_at hb' hi)
theorem cdD_none {g : FnE} (hw : ∀ (j : Nat) (y : InsE) (r : Plc),(Code g)[j]? = some (y,r) -> deadB g r = false) : noD g := fun b i hi=>hw _ _ _ (cd_at (len_blk hi) hi)
theorem Code_len (f : FnE) : (Code f).length = totI f := by
 unfold Code totI
 rw [codeTo_len,range_take (fun x : BlkE=>x.code.length) Enc.d f.blocks _ (Nat.le_refl _),List.take_length,Nat.add_zero]
structure A1S where
 g : FnE
 m : Bool
structure GDx (f g : FnE) (R : List Bool) : Prop where
 nm : g.name = f.name /\ g.params = f.params /\ g.ret = f.ret
 okF : OkF g
 okA : OkA g
 fin : EndF g
 len : (Code g).length <= 400
 rch : isRG g (-1) R
theorem GDx.cut {f g : FnE} {R : List Bool} {b i : Nat} (h : GDx f g R) (hd : fstD g b i) : GDx f (cut g b i) R where
 nm := h.nm
 okF := h.okF.cut hd.1.1
 okA := h.okA.cut hd.1.1
 fin := h.fin.cut hd.1.1 hd.1.2 (dead_op hd.2.1)
 len := by
  have := tot_cut hd.1.1 hd.1.2
  have h1 := h.len
  rw [Code_len] at h1 ⊢; omega
 rch := isRG_cut h.fin hd.1.1 hd.1.2 (dead_op hd.2.1) h.rch
structure A1I (f : FnE) (R : List Bool) (p : A1S) : Prop where
 red : ∃ n,totI p.g <= n /\ dseN n p.g = dseAll f
 no : p.m = false -> noD p.g
 gi : GDx f p.g R
structure A2S where
 i : Nat
 g : FnE
 m : Bool
def a1O (f g : FnE) : Os := [(3,bx g),(1,bx f),(2,bx (Enc.d : FnE))]
def a2O (f g h : FnE) : Os := [(3,bx h),(1,bx f),(2,bx (Enc.d : FnE)),(140,oL (C1 g)),(141,oL (C2 g))]
theorem All23_F (f : FnE) (hs : OkF f) (ha : OkA f) (he : EndF f) (hL : (Code f).length <= 400) : ASpec Tryz.prog 10 [eS f] (eS (dseAll f)) [] := by
 obtain ⟨R,hR⟩ := isRG_ex f (-1)
 have hRl := hR.1
 refine ASpec.enter TYok mixed Tryz.func10 rfl Tryz.call10 Tryz.ntmps10 rfl (rs := [.cell 2 34]) rfl (nodupB_ok rfl) (Clo.one rfl) (keep := [0,1,2,3,4,5,6,7,8,9,10]) ?_; conv=>whnf
 repeat' first|(refine iF (fun hb=>?_) (fun hb=>?_) <;> (try simp only [yv] at hb) <;> (have hc := hb; try simp only [sB,Int.reduceToNat] at hc; try simp only [addZ0] at hc) <;> first|(exfalso; omega)|conv=>whnf)|((first|refine ya ?_|refine yb ?_|refine yc ?_|refine yd ?_|refine yf ?_|refine yh ?_|refine yj ?_|refine dD ?_|refine dF ?_|refine d0 ?_|refine d1 ?_|refine dL ?_|refine dP ?_|refine yl ?_|refine ym ?_|refine yn ?_|refine ⟨_,fun _=>(IntKind.wrap_u64 _).symm,?_⟩); conv=>whnf)|((first|refine cK (fun _=>CopyFunc_S f hs.sz) ?_|((try (refine CallW.lent ?_; (conv=>whnf); repeat (refine yb ?_; (conv=>whnf)))); refine cL (fun _=>CopyFunc_S f hs.sz) ?_)); conv=>whnf)|((first|refine cK (fun _=>Reach_F f R hR hs.sz) ?_|((try (refine CallW.lent ?_; (conv=>whnf); repeat (refine yb ?_; (conv=>whnf)))); refine cL (fun _=>Reach_F f R hR hs.sz) ?_)); conv=>whnf)|(refine yt ?_; conv=>whnf)|exact ⟨_,.keep rfl rfl⟩|fail
 refine lp [5] (fun p : A1S=>[.b p.m]) (fun p=>a1O f p.g) (fun p=>A1I f R p) (fun p=>2 * totI p.g + p.m.toNat) ⟨f,true⟩ ⟨⟨_,Nat.le_refl _,rfl⟩,fun h=>(by cases h),⟨⟨rfl,rfl,rfl⟩,hs,ha,he,hL,hR⟩⟩ ?_ fun p hp=>?_
 ·refine eP [] [] ?_ ?_ <;> repeat' first|exact eN|refine And.intro ?_ ?_
 conv=>whnf
 obtain ⟨g,m⟩ := p
 obtain ⟨⟨n,hn1,hn2⟩,hno,hG⟩ := hp
 simp only at hn1 hn2 hno hG
 have hgz := hG.okF.sz
 have hcl := Code_siz g
 have hC1 := C1_len g
 have hC2 : (C2 g).length = (Code g).length := List.length_map _
 have hSo := Sourced_S g hG.okF hG.okA hG.len
 repeat' first|(refine iF (fun hb=>?_) (fun hb=>?_) <;> (try simp only [yv] at hb) <;> (have hc := hb; try simp only [sB,Int.reduceToNat] at hc; try simp only [addZ0] at hc) <;> first|(exfalso; omega)|conv=>whnf)|((first|refine ya ?_|refine yb ?_|refine yc ?_|refine yd ?_|refine yf ?_|refine yh ?_|refine yj ?_|refine dD ?_|refine dF ?_|refine d0 ?_|refine d1 ?_|refine dL ?_|refine dP ?_|refine yl ?_|refine ym ?_|refine yn ?_|refine ⟨_,fun _=>(IntKind.wrap_u64 _).symm,?_⟩); conv=>whnf)|((first|refine cK (fun _=>Code_C 140 141 (by decide) g hgz) ?_|((try (refine CallW.lent ?_; (conv=>whnf); repeat (refine yb ?_; (conv=>whnf)))); refine cL (fun _=>Code_C 140 141 (by decide) g hgz) ?_)); conv=>whnf)|((first|refine cK (fun _=>hSo) ?_|((try (refine CallW.lent ?_; (conv=>whnf); repeat (refine yb ?_; (conv=>whnf)))); refine cL (fun _=>hSo) ?_)); conv=>whnf)|(refine yt ?_; conv=>whnf)|exact ⟨_,.keep rfl rfl⟩|fail
 ·subst hb
  refine lp [9,5] (fun q : A2S=>[.i .i64 q.i,.b q.m]) (fun q=>a2O f g q.g) (fun q=>q.i <= (Code g).length /\ ((q.m = false /\ q.g = g /\ ∀ (j : Nat) (y : InsE) (r : Plc),j < q.i -> (Code g)[j]? = some (y,r) -> deadB g r = false) \/ (q.m = true /\ ∃ b k,fstD g b k /\ q.g = cut g b k))) (fun q=>(Code g).length - q.i) ⟨0,g,false⟩ ⟨Nat.zero_le _,.inl ⟨rfl,rfl,fun j y r h=>absurd h (Nat.not_lt_zero _)⟩⟩ ?_ fun q hq=>?_
  ·refine eP [] [] ?_ ?_ <;> repeat' first|exact eN|refine And.intro ?_ ?_
  conv=>whnf
  obtain ⟨i,g',m'⟩ := q
  obtain ⟨hi,hq⟩ := hq
  simp only at hi hq
  rcases hq with ⟨rfl,rfl,hw⟩|⟨rfl,b,k,hf,rfl⟩
  ·rcases Nat.lt_or_ge i (Code g').length with hlt|hge
   ·obtain ⟨b,k,h1,h2,h3,h4⟩ := Code_get hlt
    have hg : (Code g')[i]? = some ((C1 g').getD i Enc.d,(C2 g').getD i Enc.d) := by
     rw [List.getElem?_eq_getElem hlt]
     unfold C1 C2
     rw [List.getD_eq_getElem?_getD,List.getD_eq_getElem?_getD,List.getElem?_map,List.getElem?_map,List.getElem?_eq_getElem hlt]; rfl
    have hnext : ∀ hd : deadB g' ((C2 g').getD i Enc.d) = false,∀ (j : Nat) (y : InsE) (r : Plc),j < i + 1 -> (Code g')[j]? = some (y,r) -> deadB g' r = false := fun hd j y r hj hq=>by
     rcases Nat.lt_or_ge j i with h|h
     ·exact hw j y r h hq
     ·obtain rfl : j = i := by omega
      rw [hg] at hq
      cases hq; exact hd
    have hWi := Without15_F g' b k hgz h1 h2
    rw [<- h4] at hWi
    have hb4 : ((C2 g').getD i Enc.d).b = b := by rw [h4]
    have hRl2 := hG.rch.1
    have hbl := blocks_le g'
    have hbn : ((C2 g').getD i Enc.d).b.toNat = b := by rw [hb4]; rfl
    have hin : ((C2 g').getD i Enc.d).i.toNat = k := by rw [h4]; rfl
    have hdead : deadB g' ((C2 g').getD i Enc.d) = true -> ((C1 g').getD i Enc.d).op = 28 /\ R.getD b Enc.d = true := fun h=>by
     have h := (@decide_eq_true_iff _ (Classical.propDecidable _)).1 h
     obtain ⟨_,_,q3,q4,_⟩ := h
     rw [hbn] at q3 q4
     rw [hin] at q4
     exact ⟨by rw [h3]; exact q4,(hG.rch.2 b h1).2 q3⟩
    repeat' first|(refine iF (fun hb=>?_) (fun hb=>?_) <;> (try simp only [yv] at hb) <;> (have hc := hb; try simp only [sB,Int.reduceToNat] at hc; try simp only [addZ0] at hc) <;> first|(exfalso; omega)|conv=>whnf)|((first|refine ya ?_|refine yb ?_|refine yc ?_|refine yd ?_|refine yf ?_|refine yh ?_|refine yj ?_|refine dD ?_|refine dF ?_|refine d0 ?_|refine d1 ?_|refine dL ?_|refine dP ?_|refine yl ?_|refine ym ?_|refine yn ?_|refine ⟨_,fun _=>(IntKind.wrap_u64 _).symm,?_⟩); conv=>whnf)|(refine yt ?_; conv=>whnf)|exact ⟨_,.keep rfl rfl⟩|fail
    ·have hd : deadB g' ((C2 g').getD i Enc.d) = false := by
      rw [<- Bool.not_eq_true]
      intro hd
      obtain ⟨q1,q2⟩ := hdead hd
      rcases hc with hc|hc
      ·exact hc q1
      ·rw [hbn,q2] at hc; cases hc
     refine .mk ⟨i + 1,g',false⟩ ⟨hlt,.inl ⟨rfl,rfl,hnext hd⟩⟩ (by show (Code g').length - (i + 1) < (Code g').length - i; omega) ?_
     refine eP [] [] ?_ ?_ <;> repeat' first|exact eN|refine And.intro ?_ ?_
    ·have hop : ((C1 g').getD i Enc.d).op = 28 := hc.1
     have hRt : R.getD b Enc.d = true := by have := hc.2; rw [hbn] at this; exact this
     have hop2 : (insE g' b k).op = 28 := by rw [h3] at hop; exact hop
     have hDd := dead23_S g' 0 b k hG.okF hG.okA hG.len h1 h2 hop2
     have hde : deadB g' ((C2 g').getD i Enc.d) = goesB g' b k := by
      rw [h4]
      cases hg0 : goesB g' b k with
      | true=>exact dead_t ⟨⟨Int.natCast_nonneg b,Int.ofNat_lt.2 h1⟩,⟨Int.natCast_nonneg k,Int.ofNat_lt.2 h2⟩,(hG.rch.2 b h1).1 hRt,hop2,hg0⟩
      | false=>exact dead_f fun h=>Bool.noConfusion (hg0.symm.trans h.2.2.2.2)
     rw [<- h4,<- hde] at hDd
     repeat' first|(refine iF (fun hb=>?_) (fun hb=>?_) <;> (try simp only [yv] at hb) <;> (have hc := hb; try simp only [sB,Int.reduceToNat] at hc; try simp only [addZ0] at hc) <;> first|(exfalso; omega)|conv=>whnf)|((first|refine ya ?_|refine yb ?_|refine yc ?_|refine yd ?_|refine yf ?_|refine yh ?_|refine yj ?_|refine dD ?_|refine dF ?_|refine d0 ?_|refine d1 ?_|refine dL ?_|refine dP ?_|refine yl ?_|refine ym ?_|refine yn ?_|refine ⟨_,fun _=>(IntKind.wrap_u64 _).symm,?_⟩); conv=>whnf)|((first|refine cK (fun _=>hDd) ?_|((try (refine CallW.lent ?_; (conv=>whnf); repeat (refine yb ?_; (conv=>whnf)))); refine cL (fun _=>hDd) ?_)); conv=>whnf)|((first|refine cK (fun _=>hWi) ?_|((try (refine CallW.lent ?_; (conv=>whnf); repeat (refine yb ?_; (conv=>whnf)))); refine cL (fun _=>hWi) ?_)); conv=>whnf)|(refine yt ?_; conv=>whnf)|exact ⟨_,.keep rfl rfl⟩|fail
     ·have hfst : fstD g' b k := by
       obtain ⟨b',k',q1,q2,q3⟩ := cdD_fst hg (by simpa using hb) hw
       rw [h4] at q3
       have e1 : b = b' := Int.ofNat.inj (congrArg Plc.b q3)
       have e2 : k = k' := Int.ofNat.inj (congrArg Plc.i q3)
       subst e1 e2
       exact q1
      refine .mk ⟨i + 1,cut g' b k,true⟩ ⟨hlt,.inr ⟨rfl,b,k,hfst,rfl⟩⟩ (by show (Code g').length - (i + 1) < (Code g').length - i; omega) ?_
      refine eP [] [] ?_ ?_ <;> repeat' first|exact eN|refine And.intro ?_ ?_
     ·have hd : deadB g' ((C2 g').getD i Enc.d) = false := by simpa using hb
      refine .mk ⟨i + 1,g',false⟩ ⟨hlt,.inl ⟨rfl,rfl,hnext hd⟩⟩ (by show (Code g').length - (i + 1) < (Code g').length - i; omega) ?_
      refine eP [] [] ?_ ?_ <;> repeat' first|exact eN|refine And.intro ?_ ?_
    ·exfalso
     simp [hC1] at hb
     omega
   ·repeat' first|(refine iF (fun hb=>?_) (fun hb=>?_) <;> (try simp only [yv] at hb) <;> (have hc := hb; try simp only [sB,Int.reduceToNat] at hc; try simp only [addZ0] at hc) <;> first|(exfalso; omega)|conv=>whnf)|((first|refine ya ?_|refine yb ?_|refine yc ?_|refine yd ?_|refine yf ?_|refine yh ?_|refine yj ?_|refine dD ?_|refine dF ?_|refine d0 ?_|refine d1 ?_|refine dL ?_|refine dP ?_|refine yl ?_|refine ym ?_|refine yn ?_|refine ⟨_,fun _=>(IntKind.wrap_u64 _).symm,?_⟩); conv=>whnf)|(refine yt ?_; conv=>whnf)|exact ⟨_,.keep rfl rfl⟩|fail
    ·refine .mk ⟨g',false⟩ ⟨⟨n,hn1,hn2⟩,fun _=>cdD_none fun j y r hq=>hw j y r (Nat.lt_of_lt_of_le (List.getElem?_eq_some_iff.1 hq).1 hge) hq,hG⟩ (by show 2 * totI g' + 0 < 2 * totI g' + 1; omega) ?_
     refine eP [] [] ?_ ?_ <;> repeat' first|exact eN|refine And.intro ?_ ?_
  ·have ht := tot_cut hf.1.1 hf.1.2
   repeat' first|(refine iF (fun hb=>?_) (fun hb=>?_) <;> (try simp only [yv] at hb) <;> (have hc := hb; try simp only [sB,Int.reduceToNat] at hc; try simp only [addZ0] at hc) <;> first|(exfalso; omega)|conv=>whnf)|((first|refine ya ?_|refine yb ?_|refine yc ?_|refine yd ?_|refine yf ?_|refine yh ?_|refine yj ?_|refine dD ?_|refine dF ?_|refine d0 ?_|refine d1 ?_|refine dL ?_|refine dP ?_|refine yl ?_|refine ym ?_|refine yn ?_|refine ⟨_,fun _=>(IntKind.wrap_u64 _).symm,?_⟩); conv=>whnf)|(refine yt ?_; conv=>whnf)|exact ⟨_,.keep rfl rfl⟩|fail
   ·exfalso
    simp at hb
   ·obtain ⟨n',rfl⟩ : ∃ n',n = n' + 1 := ⟨n - 1,by omega⟩
    refine .mk ⟨cut g b k,true⟩ ⟨⟨n',by show totI (cut g b k) <= n'; omega,?_⟩,fun h=>(by cases h),hG.cut hf⟩ (by show 2 * totI (cut g b k) + 1 < 2 * totI g + 1; omega) ?_
    ·rw [<- hn2,dseN,stepD_some hf]
    ·refine eP [] [] ?_ ?_ <;> repeat' first|exact eN|refine And.intro ?_ ?_
 ·subst hb
  have hnd := hno rfl
  have e : dseAll f = g := by
   rw [<- hn2]
   cases n with
   | zero=>rfl
   | succ n=>rw [dseN,stepD_none hnd]
  rw [e]
  exact ⟨_,.keep rfl rfl⟩
end Go.Proofs.YtjfdbmfcnhjfoaaGreat
namespace Go.Proofs.YtjfdbmfcnhjfoaaGreat.Pl
open Go.RowKit
set_option linter.unusedVariables false
def flags (op : Int) : Int := if op = 1 \/ op = 2 \/ op = 3 \/ op = 11 then 3 else if op = 4 \/ op = 5 \/ op = 12 \/ op = 13 then 4 else 0
def sgn (n : Nat) (v : Int) : Int := Int.bmod v (2 ^ n)
def mask (t : Int) : Int := if 1 <= t /\ t <= 64 then ((2 ^ t.toNat - 1 : Nat) : Int) else 0
def signed (t v : Int) : Int := if 1 <= t /\ t <= 64 then sgn t.toNat v else 0
def fitsU (n : Nat) (z : Int) : Bool := decide (0 <= z /\ z < 2 ^ n)
def fitsS (n : Nat) (z : Int) : Bool := decide (-2 ^ (n - 1) <= z /\ z < 2 ^ (n - 1))
theorem pow_pos (n : Nat) : 0 < 2 ^ n := Nat.pow_pos (by omega)
def nsw (f : Int) : Bool := f == 1 || f == 3
def nuw (f : Int) : Bool := f == 2 || f == 3
def over (n : Nat) (f E S : Int) : Bool := nuw f && !fitsU n E || nsw f && !fitsS n S
def opI (op x y : Int) : Int := if op = 1 then x + y else if op = 2 then x - y else x * y
def ring (op : Int) (n : Nat) (f a b : Int) : Int × Int :=
 bif over n f (opI op a b) (opI op (sgn n a) (sgn n b)) then (0,1) else (opI op a b % 18446744073709551616,0)
def divR (op f q r : Int) : Int × Int := if op = 6 \/ op = 7 then (r % 18446744073709551616,0) else if f = 4 /\ r ≠ 0 then (0,1) else (q % 18446744073709551616,0)
def div (op : Int) (n : Nat) (f a b : Int) : Int × Int :=
 if b = 0 then (0,2) else if op = 4 \/ op = 6 then divR op f (a / b) (a % b)
 else if sgn n b = -1 /\ a = 2 ^ (n - 1) then (0,2) else divR op f ((sgn n a).tdiv (sgn n b)) ((sgn n a).tmod (sgn n b))
def shift (op : Int) (n : Nat) (f a b : Int) : Int × Int :=
 if (n : Int) <= b then (0,1)
 else if op = 11 then (bif over n f (a * 2 ^ b.toNat) (sgn n a * 2 ^ b.toNat) then (0,1) else (a * 2 ^ b.toNat % 2 ^ n,0))
 else bif f == 4 && a % 2 ^ b.toNat != 0 then (0,1)
 else if op = 12 then (a / 2 ^ b.toNat,0) else (sgn n a / 2 ^ b.toNat % 18446744073709551616,0)
def okF (op f : Int) : Bool := bits .andNot .i64 f (flags op) == 0
def bitw (op a b : Int) : Int := if op = 8 then bits .and .u64 a b else if op = 9 then bits .or .u64 a b else bits .xor .u64 a b
def cmp (op : Int) (n : Nat) (a b : Int) : Bool :=
 if op = 14 then a == b else if op = 15 then a != b else if op = 16 then decide (a < b) else if op = 17 then decide (a <= b) else if op = 18 then decide (sgn n a < sgn n b) else decide (sgn n a <= sgn n b)
def core (op : Int) (n : Nat) (f a b : Int) : Int × Int :=
 if op <= 3 then ring op n f a b else if op <= 7 then div op n f a b else if op <= 10 then (bitw op a b,0) else if op <= 13 then shift op n f a b else (bif cmp op n a b then 1 else 0,0)
def cutR (n : Nat) (p : Int × Int) : Int × Int := bif p.2 != 0 then (0,p.2) else (p.1 % 2 ^ n,0)
def badA (op w f : Int) : Bool := mask w == 0 || decide (op < 1) || decide (19 < op) || bits .andNot .i64 f (flags op) != 0
def apply (op w f a b : Int) : Int × Int :=
 bif badA op w f then (0,3) else cutR w.toNat (core op w.toNat f (a % 2 ^ w.toNat) (b % 2 ^ w.toNat))
def conv (op p q v : Int) : Int × Bool :=
 if mask p = 0 \/ mask q = 0 then (0,false)
 else if op = 20 /\ p < q then (v % 2 ^ p.toNat,true) else if op = 21 /\ p < q then (sgn p.toNat v % 2 ^ q.toNat,true) else if op = 22 /\ q < p then (v % 2 ^ q.toNat,true) else (0,false)
structure Vl where
 k : Int
 b : Int
 bl : Int
 off : Int
 deriving DecidableEq
def Vl.cells (v : Vl) : List Value := [.int .i64 v.k,.int .u64 v.b,.int .i64 v.bl,.int .i64 v.off]
def Vl.val (v : Vl) : Value := .agg v.cells.toArray
def Vl.zero : Vl := ⟨0,0,0,0⟩
def count (t : Int) : Int := if t = 65 then 8 else if 1 <= t /\ t <= 64 then (t + 7) / 8 else 0
def norm (t : Int) (v : Vl) : Vl :=
 if v.k = 1 /\ ¬ mask t = 0 then ⟨1,v.b % 2 ^ t.toNat,0,0⟩ else if v.k = 2 /\ t = 65 then ⟨2,0,v.bl,v.off⟩ else if v.k = 3 /\ 0 < count t then ⟨3,0,0,0⟩ else Vl.zero
theorem nz {z : Int} (h : (z == 0) = false) : ¬ z = 0 := by simpa using h
theorem nz' {k : Int} {z : Int} (h : (k == 1 && z != 0) = true) : ¬ z = 0 := by simp at h; exact h.2
def kinds (op t n f : Int) : Option (List Int) :=
 bif bits .andNot .i64 f (flags op) != 0 then none
 else bif decide (op < 1) || decide (29 < op) then none
 else bif op == 14 || op == 15 then (bif decide (1 <= t) && decide (t <= 64) || t == 65 then some [t,t] else none)
 else bif decide (op <= 19) then (bif decide (1 <= t) && decide (t <= 64) then some [t,t] else none)
 else bif decide (op <= 22) then (bif (conv op n t 0).2 then some [n] else none)
 else bif op == 23 then (bif decide (1 <= t) && decide (t <= 64) || t == 65 then some [1,t,t] else none)
 else bif op == 24 then (bif decide (1 <= t) && decide (t <= 64) || t == 65 then some [t] else none)
 else bif op == 29 then (bif t == 65 then some [65,64] else none)
 else none
def divisor (op t : Int) (a b : Vl) : Int :=
 bif b.k == 0 || b.k == 1 && b.b == 0 then 2
 else bif (op == 5 || op == 7) && b.b == mask t && b.k == 1 && a.k == 0 then 2
 else bif b.k == 3 then 4
 else bif (op == 5 || op == 7) && b.b == mask t && b.k == 1 && a.k == 3 then 4
 else 0
def any : Vl := ⟨3,0,0,0⟩
def chosen (a b c : Vl) : Vl :=
 bif a.k == 0 then Vl.zero else bif a.k == 1 && a.b == 1 then b else bif a.k == 1 then c else bif decide (b = c) then b else bif b.k == 0 || c.k == 0 then Vl.zero else any
end Go.Proofs.YtjfdbmfcnhjfoaaGreat.Pl

namespace Go.Proofs.YtjfdbmfcnhjfoaaGreat
open Go.RowKit



end Go.Proofs.YtjfdbmfcnhjfoaaGreat
namespace Go.Proofs.YtjfdbmfcnhjfoaaGreat.Pl
def number (z : Int) : Vl := ⟨1,z,0,0⟩
def loosely (op t f : Int) (b : Vl) : Vl :=
 bif (decide (11 <= op) && decide (op <= 13) && (b.k == 3 || decide (IntKind.u64.wrap t <= b.b))) || f != 0 then Vl.zero else any
def clear (op t n f : Int) (a b : Vl) : Vl × Int :=
 bif op == 29 then (⟨a.k,a.b,a.bl,IntKind.i64.wrap (a.off + IntKind.i64.wrap b.b)⟩,0)
 else bif decide (20 <= op) then (number (conv op n t a.b).1,0)
 else bif t == 65 then (number (bif decide (a = b) == (op == 14) then 1 else 0),0)
 else bif (apply op t f a.b b.b).2 == 0 then (number (apply op t f a.b b.b).1,0)
 else bif (apply op t f a.b b.b).2 == 1 then (Vl.zero,0) else (Vl.zero,(apply op t f a.b b.b).2)
def row (ws : List Int) (xs : List Vl) : List Vl := List.zipWith norm ws xs
def at_ (l : List Vl) (i : Nat) : Vl := l.getD i Vl.zero
def isDiv (op : Int) : Bool := decide (4 <= op) && decide (op <= 7)
def made (op t n f : Int) (l : List Vl) : Vl × Int :=
 bif isDiv op && divisor op t (at_ l 0) (at_ l 1) != 0 then (Vl.zero,divisor op t (at_ l 0) (at_ l 1))
 else bif op == 24 then (bif l.any (·.k == 0) then (any,0) else (at_ l 0,0))
 else bif op == 23 then (chosen (at_ l 0) (at_ l 1) (at_ l 2),0)
 else bif l.any (·.k == 0) then (Vl.zero,0)
 else bif l.any (·.k == 3) then (loosely op t f (at_ l 1),0)
 else clear op t n f (at_ l 0) (at_ l 1)
def eval (op t n f : Int) (xs : List Vl) : Vl × Int :=
 match kinds op t n f with
 | none=>(Vl.zero,3)
 | some ws=>bif ws.length != xs.length then (Vl.zero,3) else made op t n f (row ws xs)
end Go.Proofs.YtjfdbmfcnhjfoaaGreat.Pl
namespace Go.Proofs.YtjfdbmfcnhjfoaaGreat.Pl
def fill (ws : List Int) (xs : List Vl) (j : Nat) : List Vl := (row ws xs).take j ++ List.replicate (xs.length - j) Vl.zero
end Go.Proofs.YtjfdbmfcnhjfoaaGreat.Pl
namespace Go.Proofs.YtjfdbmfcnhjfoaaGreat.Pl
end Go.Proofs.YtjfdbmfcnhjfoaaGreat.Pl

namespace Go.Proofs.YtjfdbmfcnhjfoaaGreat
open Go.RowKit
open Pl (Vl)
instance : Enc Vl := ⟨fun x=>[.i .i64 x.k,.i .u64 x.b,.i .i64 x.bl,.i .i64 x.off],4,Vl.zero⟩
mutual
def renA (σ : Nat -> Nat) : AV -> AV
 | .op id off=>.op (σ id) off
 | .orow id e off n=>.orow (σ id) e off n
 | .rp id e i j=>.rp (σ id) e i j
 | .omap id=>.omap (σ id)
 | .pth id p e off n=>.pth (σ id) p e off n
 | .pp id p e i j=>.pp (σ id) p e i j
 | .agg cs=>.agg (renAs σ cs)
 | .tup cs=>.tup (renAs σ cs)
 | .clo f cs=>.clo f (renAs σ cs)
 | .ifc t x=>.ifc t (renA σ x)
 | x=>x
def renAs (σ : Nat -> Nat) : List AV -> List AV
 | []=>[]
 | x :: xs=>renA σ x :: renAs σ xs
end
def renOb (σ : Nat -> Nat) : Obj -> Obj
 | .box p q cs=>.box p q (renAs σ cs)
 | x=>x
def renO (σ : Nat -> Nat) : Os -> Os
 | []=>[]
 | (i,ob) :: o=>(σ i,renOb σ ob) :: renO σ o
mutual
theorem rel_ren {σ : Nat -> Nat} {S : Nat -> Prop} {β : Nat -> Wt} {w : World} : ∀ (x : AV) (u : Value),rel S β w (renA σ x) u ↔ rel S (fun i=>β (σ i)) w x u
 | .i k z,u=>Iff.rfl
 | .b t,u=>Iff.rfl
 | .s x,u=>Iff.rfl
 | .v x,u=>Iff.rfl
 | .nil,u=>Iff.rfl
 | .row nz e n get,u=>Iff.rfl
 | .cp cs,u=>Iff.rfl
 | .op id off,u=>Iff.rfl
 | .orow id e off n,u=>Iff.rfl
 | .rp id e i j,u=>Iff.rfl
 | .omap id,u=>Iff.rfl
 | .any,u=>Iff.rfl
 | .pth _ _ _ _ _,u=>Iff.rfl
 | .pp _ _ _ _ _,u=>Iff.rfl
 | .agg cs,u=>⟨fun ⟨us,h1,h2⟩=>⟨us,h1,(rels_ren cs us).1 h2⟩,fun ⟨us,h1,h2⟩=>⟨us,h1,(rels_ren cs us).2 h2⟩⟩
 | .tup cs,u=>⟨fun ⟨us,h1,h2⟩=>⟨us,h1,(rels_ren cs us).1 h2⟩,fun ⟨us,h1,h2⟩=>⟨us,h1,(rels_ren cs us).2 h2⟩⟩
 | .clo f cs,u=>⟨fun ⟨us,h1,h2⟩=>⟨us,h1,(rels_ren cs us).1 h2⟩,fun ⟨us,h1,h2⟩=>⟨us,h1,(rels_ren cs us).2 h2⟩⟩
 | .ifc t x,u=>⟨fun ⟨u',h1,h2⟩=>⟨u',h1,(rel_ren x u').1 h2⟩,fun ⟨u',h1,h2⟩=>⟨u',h1,(rel_ren x u').2 h2⟩⟩
theorem rels_ren {σ : Nat -> Nat} {S : Nat -> Prop} {β : Nat -> Wt} {w : World} : ∀ (x : List AV) (u : List Value),rels S β w (renAs σ x) u ↔ rels S (fun i=>β (σ i)) w x u
 | [],u=>Iff.rfl
 | x :: xs,u=>⟨fun ⟨q,us,h1,h2,h3⟩=>⟨q,us,h1,(rel_ren x q).1 h2,(rels_ren xs us).1 h3⟩,fun ⟨q,us,h1,h2,h3⟩=>⟨q,us,h1,(rel_ren x q).2 h2,(rels_ren xs us).2 h3⟩⟩
end
mutual
theorem men_ren {σ : Nat -> Nat} {d : Nat} : ∀ (x : AV),men d (renA σ x) = true -> ∃ i,d = σ i /\ men i x = true
 | .i k z,h=>nomatch h
 | .b t,h=>nomatch h
 | .s x,h=>nomatch h
 | .v x,h=>nomatch h
 | .nil,h=>nomatch h
 | .row nz e n get,h=>nomatch h
 | .cp cs,h=>nomatch h
 | .any,h=>nomatch h
 | .op id off,h=>⟨id,(Nat.eq_of_beq_eq_true h).symm,by simp [men]⟩
 | .orow id e off n,h=>⟨id,(Nat.eq_of_beq_eq_true h).symm,by simp [men]⟩
 | .rp id e i j,h=>⟨id,(Nat.eq_of_beq_eq_true h).symm,by simp [men]⟩
 | .omap id,h=>⟨id,(Nat.eq_of_beq_eq_true h).symm,by simp [men]⟩
 | .pth id _ _ _ _,h=>⟨id,(Nat.eq_of_beq_eq_true h).symm,by simp [men]⟩
 | .pp id _ _ _ _,h=>⟨id,(Nat.eq_of_beq_eq_true h).symm,by simp [men]⟩
 | .agg cs,h=>mens_ren cs h
 | .tup cs,h=>mens_ren cs h
 | .clo f cs,h=>mens_ren cs h
 | .ifc t x,h=>men_ren x h
theorem mens_ren {σ : Nat -> Nat} {d : Nat} : ∀ (x : List AV),mens d (renAs σ x) = true -> ∃ i,d = σ i /\ mens i x = true
 | [],h=>nomatch h
 | x :: xs,h=>by
  simp only [renAs,mens,Bool.or_eq_true] at h
  rcases h with h|h
  ·obtain ⟨i,h1,h2⟩ := men_ren x h
   exact ⟨i,h1,by simp [mens,h2]⟩
  ·obtain ⟨i,h1,h2⟩ := mens_ren xs h
   exact ⟨i,h1,by simp [mens,h2]⟩
end
theorem orel_ren {σ : Nat -> Nat} {S : Nat -> Prop} {β : Nat -> Wt} {w : World} {W : Wt} : ∀ {ob : Obj},orel S β w W (renOb σ ob) ↔ orel S (fun i=>β (σ i)) w W ob
 | .box p q cs=>⟨fun ⟨b,us,ty,h1,h2,h3,h4,h5⟩=>⟨b,us,ty,h1,h2,h3,(rels_ren cs us).1 h4,h5⟩,fun ⟨b,us,ty,h1,h2,h3,h4,h5⟩=>⟨b,us,ty,h1,h2,h3,(rels_ren cs us).2 h4,h5⟩⟩
 | .row q e n g=>Iff.rfl
 | .tree e n g=>Iff.rfl
 | .mp e n g F=>Iff.rfl
theorem omen_ren {σ : Nat -> Nat} {d : Nat} : ∀ {ob : Obj},omen d (renOb σ ob) = true -> ∃ i,d = σ i /\ omen i ob = true
 | .box p q cs,h=>mens_ren cs h
 | .row q e n g,h=>nomatch h
 | .tree e n g,h=>nomatch h
 | .mp e n g F,h=>nomatch h
theorem keys_ren {σ : Nat -> Nat} : ∀ {o : Os},(renO σ o).map (·.1) = (o.map (·.1)).map σ
 | []=>rfl
 | (i,ob) :: o=>by simp only [renO,List.map_cons,keys_ren]
theorem feet_ren {σ : Nat -> Nat} {β : Nat -> Wt} : ∀ {o : Os},feet (renO σ o) β = feet o (fun i=>β (σ i))
 | []=>rfl
 | (i,ob) :: o=>by rw [renO,feet_cons,feet_cons,feet_ren]
theorem lk_ren {σ : Nat -> Nat} {i : Nat} (hσ : ∀ i j,σ i = σ j -> i = j) : ∀ {o : Os},lk (renO σ o) (σ i) = (lk o i).map (renOb σ)
 | []=>rfl
 | (j,ob) :: o=>by
  rw [renO,lk_cons,lk_cons]
  by_cases e : j = i
  ·subst e; rw [if_pos rfl,if_pos rfl]; rfl
  ·rw [if_neg fun h=>e (hσ _ _ h),if_neg e,lk_ren hσ]
theorem lk_ren' {σ : Nat -> Nat} {j : Nat} {ob' : Obj} (hσ : ∀ i j,σ i = σ j -> i = j) : ∀ {o : Os},lk (renO σ o) j = some ob' -> ∃ i ob,j = σ i /\ lk o i = some ob /\ ob' = renOb σ ob
 | [],h=>by simp [renO,lk] at h
 | (k,ob) :: o,h=>by
  rw [renO,lk_cons] at h
  split at h
  ·rename_i e; cases h; exact ⟨k,ob,e.symm,by rw [lk_cons,if_pos rfl],rfl⟩
  ·obtain ⟨i,ob2,h1,h2,h3⟩ := lk_ren' hσ h
   rename_i e
   exact ⟨i,ob2,h1,by rw [lk_cons,if_neg fun h=>e (by rw [h,h1])]; exact h2,h3⟩
theorem isBox_ren {σ : Nat -> Nat} : ∀ {ob : Obj},isBox (renOb σ ob) = isBox ob
 | .box p q cs=>rfl
 | .row q e n g=>rfl
 | .tree e n g=>rfl
 | .mp e n g F=>rfl
theorem nodup_inj {σ : Nat -> Nat} (hσ : ∀ i j,σ i = σ j -> i = j) : ∀ {l : List Nat},l.Nodup -> (l.map σ).Nodup
 | [],_=>List.nodup_nil
 | x :: l,h=>by
  rw [List.nodup_cons] at h
  rw [List.map_cons,List.nodup_cons]
  refine ⟨fun hm=>?_,nodup_inj hσ h.2⟩
  obtain ⟨y,hy,e⟩ := List.mem_map.1 hm
  exact h.1 (hσ _ _ e ▸ hy)
theorem nodup_of_map {σ : Nat -> Nat} : ∀ {l : List Nat},(l.map σ).Nodup -> l.Nodup
 | [],_=>List.nodup_nil
 | x :: l,h=>by
  rw [List.map_cons,List.nodup_cons] at h
  rw [List.nodup_cons]
  exact ⟨fun hm=>h.1 (List.mem_map.2 ⟨x,hm,rfl⟩),nodup_of_map h.2⟩
theorem ASpecF.ren {fx : Bool} {P : Program} {f : FuncId} {args : List AV} {os : Os} {r : AV} {no : Os} (σ τ : Nat -> Nat) (hτ : ∀ i,τ (σ i) = i) (h : ASpecF fx P f args os r no) : ASpecF fx P f (renAs σ args) (renO σ os) (renA σ r) (renO σ no) := by
 obtain ⟨h1,⟨h2,h3⟩,h4⟩ := h
 have hσ : ∀ i j,σ i = σ j -> i = j := fun i j e=>by rw [<- hτ i,<- hτ j,e]
 refine ⟨h1,⟨fun id hm=>?_,fun i ob hl id hm=>?_⟩,fun S β w us hob hap hus hvr=>?_⟩
 ·obtain ⟨i,rfl,hi⟩ := men_ren r hm
  rw [lk_ren hσ,Option.isSome_map]; exact h2 i hi
 ·obtain ⟨j,ob2,rfl,hj,rfl⟩ := lk_ren' hσ hl
  obtain ⟨k,rfl,hk⟩ := omen_ren hm
  rw [lk_ren hσ,Option.isSome_map]; exact h3 j ob2 hj k hk
 ·rw [feet_ren] at hap ⊢
  have hob' : OB S (fun i=>β (σ i)) w os := ⟨fun id ob hl=>orel_ren.1 (hob.objs (σ id) (renOb σ ob) (by rw [lk_ren hσ,hl]; rfl)),by rw [<- feet_ren]; exact hob.nodup,nodup_of_map (σ := σ) (by rw [<- keys_ren]; exact hob.keys),fun k hk=>hob.lt k (by rw [feet_ren]; exact hk)⟩
  refine (h4 S _ w us hob' hap ((rels_ren args us).1 hus) hvr).mono ?_
  rintro e w' ⟨v,β',rfl,g1,g2,g3,g4,g5,g6,g7⟩
  have hβ : (fun i=>(fun j=>β' (τ j)) (σ i)) = β' := by funext i; show β' (τ (σ i)) = _; rw [hτ]
  have hfe : feet (renO σ no) (fun j=>β' (τ j)) = feet no β' := by rw [feet_ren,hβ]
  refine ⟨v,fun j=>β' (τ j),rfl,g1,fun id ob hl=>?_,by rw [hfe]; exact g3,by rw [hfe]; exact g4,by rw [keys_ren]; exact nodup_inj hσ g5,fun id ob hl hb hs=>?_,?_⟩
  ·obtain ⟨i,ob2,rfl,hi,rfl⟩ := lk_ren' hσ hl
   rw [orel_ren,hβ,hfe]
   show orel _ _ _ (β' (τ (σ i))) _
   rw [hτ]
   exact g2 i ob2 hi
  ·obtain ⟨i,ob2,rfl,hi,rfl⟩ := lk_ren' hσ hl
   rw [isBox_ren] at hb
   rw [lk_ren hσ,Option.isSome_map] at hs
   show β' (τ (σ i)) = β (σ i)
   rw [hτ]
   exact g6 i ob2 hi hb hs
  ·rw [rel_ren,hβ,hfe]; exact g7
def swp (a b i : Nat) : Nat := bif Nat.beq i a then b else bif Nat.beq i b then a else i
theorem beqNe {a b : Nat} (h : ¬a = b) : Nat.beq a b = false := by rw [<- Bool.not_eq_true]; simpa using h
theorem swp_swp (a b i : Nat) : swp a b (swp a b i) = i := by
 unfold swp
 by_cases h1 : i = a
 ·subst h1
  rw [Nat.beq_refl,cond_true]
  by_cases h2 : b = i
  ·subst h2; rw [Nat.beq_refl,cond_true]
  ·rw [beqNe h2,cond_false,Nat.beq_refl,cond_true]
 ·rw [beqNe h1,cond_false]
  by_cases h2 : i = b
  ·subst h2; rw [Nat.beq_refl,cond_true,Nat.beq_refl,cond_true]
  ·rw [beqNe h2,cond_false,beqNe h1,cond_false,beqNe h2,cond_false]
open Pl (Vl)
open Pl (Vl)
open Pl (Vl)
def lit (v : Opd) : Vl × Bool := bif v.k == 2 then (⟨1,v.b,0,0⟩,true) else bif v.k == 3 then (⟨0,0,0,0⟩,true) else bif v.k == 4 then (⟨2,0,-1,0⟩,true) else bif v.k == 5 then (⟨2,0,v.n,0⟩,true) else (⟨0,0,0,0⟩,false)
def upto {α : Type} (g : α -> α) (j : Nat) (l : List α) : List α := (l.take j).map g ++ l.drop j
def updT (bs : List BlkE) (b i : Nat) (y : InsE) : List BlkE := bs.set b ⟨(bs.getD b Enc.d).code.set i y⟩
theorem updT_len (bs : List BlkE) (b i : Nat) (y : InsE) : (updT bs b i y).length = bs.length := List.length_set
theorem updT_code {bs : List BlkE} {b i : Nat} {y : InsE} (hb : b < bs.length) : ((updT bs b i y).getD b Enc.d).code = (bs.getD b Enc.d).code.set i y := by
 unfold updT; rw [List.getD_eq_getElem?_getD,List.getElem?_set_self hb]; rfl
theorem updT_at {bs : List BlkE} {b i : Nat} {y : InsE} (hb : b < bs.length) (hi : i < (bs.getD b Enc.d).code.length) : ((updT bs b i y).getD b Enc.d).code.getD i Enc.d = y := by
 rw [updT_code hb,List.getD_eq_getElem?_getD,List.getElem?_set_self hi]; rfl
theorem updT_get {bs : List BlkE} {b i t : Nat} {y : InsE} (h : t ≠ b) : (updT bs b i y).getD t Enc.d = bs.getD t Enc.d := by
 unfold updT; rw [List.getD_eq_getElem?_getD,List.getElem?_set_ne (fun e=>h e.symm),<- List.getD_eq_getElem?_getD]
def setA (x : InsE) (j : Nat) (a : Opd) : InsE := ⟨x.op,x.reg,x.t,x.n,x.f,x.args.set j a,x.to⟩
theorem set_at {α : Type} [Enc α] {l : List α} {k : Nat} {y : α} (h : k < l.length) : (l.set k y).getD k Enc.d = y := by rw [List.getD_eq_getElem?_getD,List.getElem?_set_self h]; rfl
theorem set_ne {α : Type} [Enc α] {l : List α} {i k : Nat} {y : α} (h : k ≠ i) : (l.set i y).getD k Enc.d = l.getD k Enc.d := by rw [List.getD_eq_getElem?_getD,List.getElem?_set_ne (fun e=>h e.symm),<- List.getD_eq_getElem?_getD]
theorem tree_upd2 {l : List BlkE} {b i j t : Nat} {a : Opd} (hb : b < l.length) (hi : i < (l.getD b Enc.d).code.length) (hj : j < ((l.getD b Enc.d).code.getD i Enc.d).args.length) :
  teqs (updG ([(b,0)] ++ [(i,5)]) (fun t=>Enc.enc (l.getD t Enc.d)) j 0 (Enc.enc a) t) (Enc.enc ((updT l b i (setA ((l.getD b Enc.d).code.getD i Enc.d) j a)).getD t Enc.d)) := by
 by_cases q : t = b
 ·subst q
  have e1 : updG ([(t,0)] ++ [(i,5)]) (fun t=>Enc.enc (l.getD t Enc.d)) j 0 (Enc.enc a) t = [.row none 7 (l.getD t Enc.d).code.length (updG [(i,5)] (fun k=>Enc.enc ((l.getD t Enc.d).code.getD k Enc.d)) j 0 (Enc.enc a))] := by
   show setC _ t 0 _ t = _
   unfold setC; rw [if_pos rfl]; rfl
  have e2 : ∀ B : BlkE,Enc.enc B = [.row none 7 B.code.length fun k=>Enc.enc (B.code.getD k Enc.d)] := fun _=>rfl
  rw [e1,e2,updT_code hb]
  unfold teqs
  refine ⟨?_,by unfold teqs; rfl⟩
  unfold teq
  refine ⟨rfl,(List.length_set).symm,fun k hk=>?_⟩
  by_cases q : k = i
  ·subst q
   have e3 : updG [(k,5)] (fun k=>Enc.enc ((l.getD t Enc.d).code.getD k Enc.d)) j 0 (Enc.enc a) k = [.i .i64 ((l.getD t Enc.d).code.getD k Enc.d).op,.i .i64 ((l.getD t Enc.d).code.getD k Enc.d).reg,.i .i64 ((l.getD t Enc.d).code.getD k Enc.d).t,.i .i64 ((l.getD t Enc.d).code.getD k Enc.d).n,.i .i64 ((l.getD t Enc.d).code.getD k Enc.d).f,.row none 3 ((l.getD t Enc.d).code.getD k Enc.d).args.length (setG (fun i=>Enc.enc (((l.getD t Enc.d).code.getD k Enc.d).args.getD i Enc.d)) j 0 (Enc.enc a)),eL ((l.getD t Enc.d).code.getD k Enc.d).to] := by
    show setC _ k 5 _ k = _
    unfold setC; rw [if_pos rfl]; rfl
   rw [e3]
   show teqs _ (Enc.enc (((l.getD t Enc.d).code.set k (setA ((l.getD t Enc.d).code.getD k Enc.d) j a)).getD k Enc.d))
   rw [set_at hi]
   generalize (l.getD t Enc.d).code.getD k Enc.d = x at *
   show teqs _ [.i .i64 x.op,.i .i64 x.reg,.i .i64 x.t,.i .i64 x.n,.i .i64 x.f,eL (x.args.set j a),eL x.to]
   unfold teqs
   refine ⟨teq_refl _,?_⟩
   unfold teqs
   refine ⟨teq_refl _,?_⟩
   unfold teqs
   refine ⟨teq_refl _,?_⟩
   unfold teqs
   refine ⟨teq_refl _,?_⟩
   unfold teqs
   refine ⟨teq_refl _,?_⟩
   unfold teqs
   refine ⟨?_,teqs_refl _⟩
   unfold eL teq
   refine ⟨rfl,(List.length_set).symm,fun m hm=>teqs_of ?_⟩
   unfold setG
   by_cases q : m = j
   ·subst q
    rw [if_pos rfl]
    show _ = Enc.enc ((x.args.set m a).getD m Enc.d)
    rw [set_at hj]; rfl
   ·rw [if_neg q]
    show _ = Enc.enc ((x.args.set j a).getD m Enc.d)
    rw [set_ne q]
  ·have e3 : updG [(i,5)] (fun k=>Enc.enc ((l.getD t Enc.d).code.getD k Enc.d)) j 0 (Enc.enc a) k = Enc.enc ((l.getD t Enc.d).code.getD k Enc.d) := by
    show setC _ i 5 _ k = _
    unfold setC; rw [if_neg q]
   rw [e3]
   show teqs _ (Enc.enc (((l.getD t Enc.d).code.set i (setA ((l.getD t Enc.d).code.getD i Enc.d) j a)).getD k Enc.d))
   rw [set_ne q]
   exact teqs_refl _
 ·have e1 : updG ([(b,0)] ++ [(i,5)]) (fun t=>Enc.enc (l.getD t Enc.d)) j 0 (Enc.enc a) t = Enc.enc (l.getD t Enc.d) := by
   show setC _ b 0 _ t = _
   unfold setC; rw [if_neg q]
  rw [e1,updT_get q]
  exact teqs_refl _
open Pl (Vl)
def setT (x : InsE) (j : Nat) (z : Int) : InsE := ⟨x.op,x.reg,x.t,x.n,x.f,x.args,x.to.set j z⟩
theorem tree_upd3 {l : List BlkE} {b i j t : Nat} {z : Int} (hb : b < l.length) (hi : i < (l.getD b Enc.d).code.length) (hj : j < ((l.getD b Enc.d).code.getD i Enc.d).to.length) :
  teqs (updG ([(b,0)] ++ [(i,6)]) (fun t=>Enc.enc (l.getD t Enc.d)) j 0 [.i .i64 z] t) (Enc.enc ((updT l b i (setT ((l.getD b Enc.d).code.getD i Enc.d) j z)).getD t Enc.d)) := by
 by_cases q : t = b
 ·subst q
  have e1 : updG ([(t,0)] ++ [(i,6)]) (fun t=>Enc.enc (l.getD t Enc.d)) j 0 [.i .i64 z] t = [.row none 7 (l.getD t Enc.d).code.length (updG [(i,6)] (fun k=>Enc.enc ((l.getD t Enc.d).code.getD k Enc.d)) j 0 [.i .i64 z])] := by
   show setC _ t 0 _ t = _
   unfold setC; rw [if_pos rfl]; rfl
  have e2 : ∀ B : BlkE,Enc.enc B = [.row none 7 B.code.length fun k=>Enc.enc (B.code.getD k Enc.d)] := fun _=>rfl
  rw [e1,e2,updT_code hb]
  unfold teqs
  refine ⟨?_,by unfold teqs; rfl⟩
  unfold teq
  refine ⟨rfl,(List.length_set).symm,fun k hk=>?_⟩
  by_cases q : k = i
  ·subst q
   have e3 : updG [(k,6)] (fun k=>Enc.enc ((l.getD t Enc.d).code.getD k Enc.d)) j 0 [.i .i64 z] k = [.i .i64 ((l.getD t Enc.d).code.getD k Enc.d).op,.i .i64 ((l.getD t Enc.d).code.getD k Enc.d).reg,.i .i64 ((l.getD t Enc.d).code.getD k Enc.d).t,.i .i64 ((l.getD t Enc.d).code.getD k Enc.d).n,.i .i64 ((l.getD t Enc.d).code.getD k Enc.d).f,eL ((l.getD t Enc.d).code.getD k Enc.d).args,.row none 1 ((l.getD t Enc.d).code.getD k Enc.d).to.length (setG (fun i=>Enc.enc (((l.getD t Enc.d).code.getD k Enc.d).to.getD i Enc.d)) j 0 [.i .i64 z])] := by
    show setC _ k 6 _ k = _
    unfold setC; rw [if_pos rfl]; rfl
   rw [e3]
   show teqs _ (Enc.enc (((l.getD t Enc.d).code.set k (setT ((l.getD t Enc.d).code.getD k Enc.d) j z)).getD k Enc.d))
   rw [set_at hi]
   generalize (l.getD t Enc.d).code.getD k Enc.d = x at *
   show teqs _ [.i .i64 x.op,.i .i64 x.reg,.i .i64 x.t,.i .i64 x.n,.i .i64 x.f,eL x.args,eL (x.to.set j z)]
   unfold teqs
   refine ⟨teq_refl _,?_⟩
   unfold teqs
   refine ⟨teq_refl _,?_⟩
   unfold teqs
   refine ⟨teq_refl _,?_⟩
   unfold teqs
   refine ⟨teq_refl _,?_⟩
   unfold teqs
   refine ⟨teq_refl _,?_⟩
   unfold teqs
   refine ⟨teq_refl _,?_⟩
   unfold teqs
   refine ⟨?_,by unfold teqs; rfl⟩
   unfold eL teq
   refine ⟨rfl,(List.length_set).symm,fun m hm=>teqs_of ?_⟩
   unfold setG
   by_cases q : m = j
   ·subst q
    rw [if_pos rfl]
    show _ = Enc.enc ((x.to.set m z).getD m Enc.d)
    rw [set_at hj]; rfl
   ·rw [if_neg q]
    show _ = Enc.enc ((x.to.set j z).getD m Enc.d)
    rw [set_ne q]
  ·have e3 : updG [(i,6)] (fun k=>Enc.enc ((l.getD t Enc.d).code.getD k Enc.d)) j 0 [.i .i64 z] k = Enc.enc ((l.getD t Enc.d).code.getD k Enc.d) := by
    show setC _ i 6 _ k = _
    unfold setC; rw [if_neg q]
   rw [e3]
   show teqs _ (Enc.enc (((l.getD t Enc.d).code.set i (setT ((l.getD t Enc.d).code.getD i Enc.d) j z)).getD k Enc.d))
   rw [set_ne q]
   exact teqs_refl _
 ·have e1 : updG ([(b,0)] ++ [(i,6)]) (fun t=>Enc.enc (l.getD t Enc.d)) j 0 [.i .i64 z] t = Enc.enc (l.getD t Enc.d) := by
   show setC _ b 0 _ t = _
   unfold setC; rw [if_neg q]
  rw [e1,updT_get q]
  exact teqs_refl _
def spI : InsE := ⟨-7,0,0,0,0,[],[]⟩
def spC : List AV := [.i .i64 (-7),.i .i64 0,.i .i64 0,.i .i64 0,.i .i64 0,.nil,.nil]
theorem spC_teqs : teqs spC (Enc.enc spI) := by
 show teqs [.i .i64 (-7),.i .i64 0,.i .i64 0,.i .i64 0,.i .i64 0,.nil,.nil] [.i .i64 (-7),.i .i64 0,.i .i64 0,.i .i64 0,.i .i64 0,eL ([] : List Opd),eL ([] : List Int)]
 unfold teqs
 refine ⟨teq_refl _,?_⟩
 unfold teqs
 refine ⟨teq_refl _,?_⟩
 unfold teqs
 refine ⟨teq_refl _,?_⟩
 unfold teqs
 refine ⟨teq_refl _,?_⟩
 unfold teqs
 refine ⟨teq_refl _,?_⟩
 unfold teqs
 refine ⟨by unfold eL teq; rfl,?_⟩
 unfold teqs
 refine ⟨by unfold eL teq; rfl,?_⟩
 unfold teqs; rfl
theorem tree_upd1 {l : List BlkE} {b i t : Nat} (hb : b < l.length) (hi : i < (l.getD b Enc.d).code.length) :
  teqs (updG [(b,0)] (fun t=>Enc.enc (l.getD t Enc.d)) i 0 spC t) (Enc.enc ((updT l b i spI).getD t Enc.d)) := by
 by_cases q : t = b
 ·subst q
  have e1 : updG [(t,0)] (fun t=>Enc.enc (l.getD t Enc.d)) i 0 spC t = [.row none 7 (l.getD t Enc.d).code.length (updG [] (fun k=>Enc.enc ((l.getD t Enc.d).code.getD k Enc.d)) i 0 spC)] := by
   show setC _ t 0 _ t = _
   unfold setC; rw [if_pos rfl]; rfl
  have e2 : ∀ B : BlkE,Enc.enc B = [.row none 7 B.code.length fun k=>Enc.enc (B.code.getD k Enc.d)] := fun _=>rfl
  rw [e1,e2,updT_code hb]
  unfold teqs
  refine ⟨?_,by unfold teqs; rfl⟩
  unfold teq
  refine ⟨rfl,(List.length_set).symm,fun k hk=>?_⟩
  by_cases q : k = i
  ·subst q
   have e3 : updG [] (fun k=>Enc.enc ((l.getD t Enc.d).code.getD k Enc.d)) k 0 spC k = spC := by
    show setG _ k 0 _ k = _
    unfold setG; rw [if_pos rfl]; rfl
   rw [e3]
   show teqs _ (Enc.enc (((l.getD t Enc.d).code.set k spI).getD k Enc.d))
   rw [set_at hi]
   exact spC_teqs
  ·have e3 : updG [] (fun k=>Enc.enc ((l.getD t Enc.d).code.getD k Enc.d)) i 0 spC k = Enc.enc ((l.getD t Enc.d).code.getD k Enc.d) := by
    show setG _ i 0 _ k = _
    unfold setG; rw [if_neg q]
   rw [e3]
   show teqs _ (Enc.enc (((l.getD t Enc.d).code.set i spI).getD k Enc.d))
   rw [set_ne q]
   exact teqs_refl _
 ·have e1 : updG [(b,0)] (fun t=>Enc.enc (l.getD t Enc.d)) i 0 spC t = Enc.enc (l.getD t Enc.d) := by
   show setC _ b 0 _ t = _
   unfold setC; rw [if_neg q]
  rw [e1,updT_get q]
  exact teqs_refl _
theorem tree_upd0 {l : List BlkE} {b t : Nat} (hb : b < l.length) : teqs (setG (fun t=>Enc.enc (l.getD t Enc.d)) b 0 [.nil] t) (Enc.enc ((l.set b ⟨[]⟩).getD t Enc.d)) := by
 unfold setG
 by_cases q : t = b
 ·subst q
  rw [if_pos rfl,set_at hb]
  show teqs [.nil] [eL ([] : List InsE)]
  unfold teqs
  exact ⟨by unfold eL teq; rfl,by unfold teqs; rfl⟩
 ·rw [if_neg q,set_ne q]
  exact teqs_refl _
def Bd (l : List BlkE) : Prop := ∀ t,(l.getD t Enc.d).code.length < 4294967296 /\ ∀ k,((l.getD t Enc.d).code.getD k Enc.d).args.length < 4294967296 /\ ((l.getD t Enc.d).code.getD k Enc.d).to.length < 4294967296
theorem Bd.upd {l : List BlkE} (h : Bd l) {b i : Nat} {y : InsE} (hb : b < l.length) (hi : i < (l.getD b Enc.d).code.length) (h1 : y.args.length < 4294967296) (h2 : y.to.length < 4294967296) : Bd (updT l b i y) := fun t=>by
 by_cases q : t = b
 ·subst q
  rw [updT_code hb]
  refine ⟨by rw [List.length_set]; exact (h t).1,fun k=>?_⟩
  by_cases q : k = i
  ·subst q; rw [set_at hi]; exact ⟨h1,h2⟩
  ·rw [set_ne q]; exact (h t).2 k
 ·rw [updT_get q]; exact h t
theorem Bd.set {l : List BlkE} (h : Bd l) (b : Nat) (hb : b < l.length) : Bd (l.set b ⟨[]⟩) := fun t=>by
 by_cases q : t = b
 ·subst q
  rw [set_at hb]
  exact ⟨by decide,fun k=>(show (([] : List InsE).getD k Enc.d).args.length < 4294967296 /\ (([] : List InsE).getD k Enc.d).to.length < 4294967296 from by rw [List.getD_eq_getElem?_getD,List.getElem?_nil]; decide)⟩
 ·rw [set_ne q]; exact h t
def spO (nm : ByteArray) (ret : Int) (n m : Nat) (g : Nat -> AV) (bs : List BlkE) : Os := [(1,.box none none [.s nm,.orow 1001 1 0 n,.i .i64 ret,.orow 1002 1 0 m]),(1001,.row none 1 n fun t=>[g t]),(1002,oT bs)]
structure SpS where
 i : Nat
 g : Nat -> AV
structure SpT where
 i : Nat
 l : List BlkE
def spX (x : InsE) (i k : Nat) : Nat × Obj := (5,.box none none [.i .i64 x.op,.i .i64 x.reg,.i .i64 x.t,.i .i64 x.n,.i .i64 x.f,.pth 1002 [(i,0),(k,5)] 3 0 x.args.length,.pth 1002 [(i,0),(k,6)] 1 0 x.to.length])
theorem Spoil_S (nm : ByteArray) (ps : List Int) (ret : Int) (bs : List BlkE) (h1 : ps.length < 4294967296) (h2 : bs.length < 4294967296) (hB : Bd bs) :
  ASpecM Tryz.prog 14 [.agg [.s nm,.orow 1001 1 0 ps.length,.i .i64 ret,.orow 1002 1 0 bs.length]] [(1001,oL ps),(1002,oT bs)] (.tup []) [] := by
 refine ASpecM.enter TYok mixed Tryz.func14 rfl Tryz.call14 Tryz.ntmps14 rfl (rs := []) rfl (Clo.one rfl) rfl (keep := [0,1,2,3,4,5,6,7,10,11,21,22,31,32,46,47,59,60]) fun pin=>?_; conv=>whnf
 repeat' first|(refine iF (fun hb=>?_) (fun hb=>?_) <;> (try simp only [yv] at hb) <;> (have hc := hb; try simp only [sB,Int.reduceToNat] at hc; try simp only [addZ0] at hc) <;> first|(exfalso; omega)|conv=>whnf)|((first|refine ya ?_|refine yb ?_|refine And.intro ⟨rfl,fun _ _=>rfl⟩ ?_|refine And.intro (⟨⟨rfl,rfl⟩,by omega⟩ : (_ = _ /\ _ = _) /\ _) ?_|refine And.intro (⟨rfl,by omega⟩ : _ = _ /\ _) ?_|refine yc ?_|refine ye ?_|refine yg ?_|refine yi ?_|refine yk ?_|refine dE ?_|refine dD ?_|refine dF ?_|refine d0 ?_|refine d1 ?_|refine dL ?_|refine dP ?_|refine yl ?_|refine ym ?_|refine yn ?_|refine ⟨_,fun _=>(IntKind.wrap_u64 _).symm,?_⟩); conv=>whnf)|(refine yt ?_; conv=>whnf)|exact ⟨_,.keep rfl rfl⟩|fail
 refine lp [11] (fun q : SpS=>[.i .i64 q.i]) (fun q=>spO nm ret ps.length bs.length q.g bs) (fun q=>q.i <= ps.length) (fun q=>ps.length - q.i) ⟨0,fun i=>.i .i64 (ps.getD i Enc.d)⟩ (Nat.zero_le _) ?_ fun q hq=>?_
 ·refine eP [] [] ?_ ?_ <;> repeat' first|exact eN|refine And.intro ?_ ?_
  all_goals exact fun i _=>teqs_refl _
 conv=>whnf
 obtain ⟨i,g⟩ := q
 simp only at hq
 rcases Nat.lt_or_ge i ps.length with hlt|hge
 ·repeat' first|(refine iF (fun hb=>?_) (fun hb=>?_) <;> (try simp only [yv] at hb) <;> (have hc := hb; try simp only [sB,Int.reduceToNat] at hc; try simp only [addZ0] at hc) <;> first|(exfalso; omega)|conv=>whnf)|((first|refine ya ?_|refine yb ?_|refine And.intro ⟨rfl,fun _ _=>rfl⟩ ?_|refine And.intro (⟨⟨rfl,rfl⟩,by omega⟩ : (_ = _ /\ _ = _) /\ _) ?_|refine And.intro (⟨rfl,by omega⟩ : _ = _ /\ _) ?_|refine yc ?_|refine ye ?_|refine yg ?_|refine yi ?_|refine yk ?_|refine dE ?_|refine dD ?_|refine dF ?_|refine d0 ?_|refine d1 ?_|refine dL ?_|refine dP ?_|refine yl ?_|refine ym ?_|refine yn ?_|refine ⟨_,fun _=>(IntKind.wrap_u64 _).symm,?_⟩); conv=>whnf)|(refine yt ?_; conv=>whnf)|exact ⟨_,.keep rfl rfl⟩|fail
  refine .mk ⟨i + 1,fun t=>if t = i then .i .i64 (-9) else g t⟩ (by show i + 1 <= ps.length; omega) (by show ps.length - (i + 1) < ps.length - i; omega) ?_
  refine eP [] [] ?_ ?_ <;> repeat' first|exact eN|refine And.intro ?_ ?_
  all_goals first|exact fun i _=>teqs_refl _|skip
  intro t ht
  unfold setF
  rw [addZ_eq,Nat.zero_add,Int.toNat_natCast]
  by_cases q : t = i
  ·subst q; rw [if_pos rfl]; simp only [if_pos]; rfl
  ·rw [if_neg q]; simp only [if_neg q]
 ·repeat' first|(refine iF (fun hb=>?_) (fun hb=>?_) <;> (try simp only [yv] at hb) <;> (have hc := hb; try simp only [sB,Int.reduceToNat] at hc; try simp only [addZ0] at hc) <;> first|(exfalso; omega)|conv=>whnf)|((first|refine ya ?_|refine yb ?_|refine And.intro ⟨rfl,fun _ _=>rfl⟩ ?_|refine And.intro (⟨⟨rfl,rfl⟩,by omega⟩ : (_ = _ /\ _ = _) /\ _) ?_|refine And.intro (⟨rfl,by omega⟩ : _ = _ /\ _) ?_|refine yc ?_|refine ye ?_|refine yg ?_|refine yi ?_|refine yk ?_|refine dE ?_|refine dD ?_|refine dF ?_|refine d0 ?_|refine d1 ?_|refine dL ?_|refine dP ?_|refine yl ?_|refine ym ?_|refine yn ?_|refine ⟨_,fun _=>(IntKind.wrap_u64 _).symm,?_⟩); conv=>whnf)|(refine yt ?_; conv=>whnf)|exact ⟨_,.keep rfl rfl⟩|fail
  refine lp [22] (fun q : SpT=>[.i .i64 q.i]) (fun q=>spO nm ret ps.length bs.length g q.l) (fun q=>(q.i <= bs.length /\ q.l.length = bs.length) /\ Bd q.l) (fun q=>bs.length - q.i) ⟨0,bs⟩ ⟨⟨Nat.zero_le _,rfl⟩,hB⟩ ?_ fun q hq=>?_
  ·refine eP [] [] ?_ ?_ <;> repeat' first|exact eN|refine And.intro ?_ ?_
   all_goals exact fun i _=>teqs_refl _
  conv=>whnf
  obtain ⟨b,l⟩ := q
  obtain ⟨⟨hb1,hbl⟩,hD⟩ := hq
  simp only at hb1 hbl hD
  rcases Nat.lt_or_ge b bs.length with hlt|hge2
  ·have hDb := (hD b).1
   repeat' first|(refine iF (fun hb=>?_) (fun hb=>?_) <;> (try simp only [yv] at hb) <;> (have hc := hb; try simp only [sB,Int.reduceToNat] at hc; try simp only [addZ0] at hc) <;> first|(exfalso; omega)|conv=>whnf)|((first|refine ya ?_|refine yb ?_|refine And.intro ⟨rfl,fun _ _=>rfl⟩ ?_|refine And.intro (⟨⟨rfl,rfl⟩,by omega⟩ : (_ = _ /\ _ = _) /\ _) ?_|refine And.intro (⟨rfl,by omega⟩ : _ = _ /\ _) ?_|refine yc ?_|refine ye ?_|refine yg ?_|refine yi ?_|refine yk ?_|refine dE ?_|refine dD ?_|refine dF ?_|refine d0 ?_|refine d1 ?_|refine dL ?_|refine dP ?_|refine yl ?_|refine ym ?_|refine yn ?_|refine ⟨_,fun _=>(IntKind.wrap_u64 _).symm,?_⟩); conv=>whnf)|(refine yt ?_; conv=>whnf)|exact ⟨_,.keep rfl rfl⟩|fail
   refine lp [32] (fun q : SpT=>[.i .i64 q.i]) (fun q=>spO nm ret ps.length bs.length g q.l) (fun q=>(q.i <= (l.getD b Enc.d).code.length /\ q.l.length = bs.length /\ (q.l.getD b Enc.d).code.length = (l.getD b Enc.d).code.length) /\ Bd q.l) (fun q=>(l.getD b Enc.d).code.length - q.i) ⟨0,l⟩ ⟨⟨Nat.zero_le _,hbl,rfl⟩,hD⟩ ?_ fun q hq=>?_
   ·refine eP [] [] ?_ ?_ <;> repeat' first|exact eN|refine And.intro ?_ ?_
    all_goals exact fun i _=>teqs_refl _
   conv=>whnf
   obtain ⟨k,l2⟩ := q
   obtain ⟨⟨hk1,hkl,hkc⟩,hD2⟩ := hq
   simp only at hk1 hkl hkc hD2
   rcases Nat.lt_or_ge k (l.getD b Enc.d).code.length with hkt|hkg
   ·have hDx := (hD2 b).2 k
    obtain ⟨x0,hx0⟩ : ∃ x0,x0 = (l2.getD b Enc.d).code.getD k Enc.d := ⟨_,rfl⟩
    have hbl2 : b < l2.length := by omega
    have hkl2 : k < (l2.getD b Enc.d).code.length := by omega
    repeat' first|(refine iF (fun hb=>?_) (fun hb=>?_) <;> (try simp only [yv] at hb) <;> (have hc := hb; try simp only [sB,Int.reduceToNat] at hc; try simp only [addZ0] at hc) <;> first|(exfalso; omega)|conv=>whnf)|((first|refine ya ?_|refine yb ?_|refine And.intro ⟨rfl,fun _ _=>rfl⟩ ?_|refine And.intro (⟨⟨rfl,rfl⟩,by omega⟩ : (_ = _ /\ _ = _) /\ _) ?_|refine And.intro (⟨rfl,by omega⟩ : _ = _ /\ _) ?_|refine yc ?_|refine ye ?_|refine yg ?_|refine yi ?_|refine yk ?_|refine dE ?_|refine dD ?_|refine dF ?_|refine d0 ?_|refine d1 ?_|refine dL ?_|refine dP ?_|refine yl ?_|refine ym ?_|refine yn ?_|refine ⟨_,fun _=>(IntKind.wrap_u64 _).symm,?_⟩); conv=>whnf)|(refine yt ?_; conv=>whnf)|exact ⟨_,.keep rfl rfl⟩|fail
    refine lp [47] (fun q : SpT=>[.i .i64 q.i]) (fun q=>spX x0 b k :: spO nm ret ps.length bs.length g q.l) (fun q=>(q.i <= x0.args.length /\ q.l.length = bs.length /\ (q.l.getD b Enc.d).code.length = (l.getD b Enc.d).code.length /\ ((q.l.getD b Enc.d).code.getD k Enc.d).args.length = x0.args.length /\ ((q.l.getD b Enc.d).code.getD k Enc.d).to.length = x0.to.length) /\ Bd q.l) (fun q=>x0.args.length - q.i) ⟨0,l2⟩ ⟨⟨Nat.zero_le _,hkl,hkc,by rw [hx0],by rw [hx0]⟩,hD2⟩ ?_ fun q hq=>?_
    ·rw [hx0]
     refine eP [] [] ?_ ?_ <;> repeat' first|exact eN|refine And.intro ?_ ?_
     all_goals first|exact fun i _=>teqs_refl _|skip
    conv=>whnf
    obtain ⟨j,l3⟩ := q
    obtain ⟨⟨hj1,hjl,hjc,hja,hjt⟩,hD3⟩ := hq
    simp only at hj1 hjl hjc hja hjt hD3
    have hb3 : b < l3.length := by omega
    have hk3 : k < (l3.getD b Enc.d).code.length := by omega
    have hx3 := hD2 b
    have hx4 := hx3.2 k
    rw [<- hx0] at hx4
    have he1 : ((l2.getD (addZ 0 (b : Int).toNat) Enc.d).code.getD (addZ 0 (k : Int).toNat) Enc.d).args.length = x0.args.length := by rw [addZ_eq,addZ_eq,Nat.zero_add,Nat.zero_add,hx0]; rfl
    have ha3 : addZ 0 (j : Int).toNat = j := by rw [addZ_eq]; omega
    have he0 : ((l2.getD b Enc.d).code.getD k Enc.d).args.length = x0.args.length := by rw [hx0]
    have he9 : ((l2.getD b Enc.d).code.getD k Enc.d).to.length = x0.to.length := by rw [hx0]
    rcases Nat.lt_or_ge j x0.args.length with hjl2|hjg
    ·repeat' first|(refine iF (fun hb=>?_) (fun hb=>?_) <;> (try simp only [yv] at hb) <;> (have hc := hb; try simp only [sB,Int.reduceToNat] at hc; try simp only [addZ0] at hc) <;> first|(exfalso; omega)|conv=>whnf)|((first|refine ya ?_|refine yb ?_|refine And.intro ⟨rfl,fun _ _=>rfl⟩ ?_|refine And.intro (⟨⟨rfl,rfl⟩,by omega⟩ : (_ = _ /\ _ = _) /\ _) ?_|refine And.intro (⟨rfl,by omega⟩ : _ = _ /\ _) ?_|refine yc ?_|refine ye ?_|refine yg ?_|refine yi ?_|refine yk ?_|refine dE ?_|refine dD ?_|refine dF ?_|refine d0 ?_|refine d1 ?_|refine dL ?_|refine dP ?_|refine yl ?_|refine ym ?_|refine yn ?_|refine ⟨_,fun _=>(IntKind.wrap_u64 _).symm,?_⟩); conv=>whnf)|(refine yt ?_; conv=>whnf)|exact ⟨_,.keep rfl rfl⟩|fail
     refine .mk ⟨j + 1,updT l3 b k (setA ((l3.getD b Enc.d).code.getD k Enc.d) j ⟨77,j,0⟩)⟩ ⟨⟨hjl2,by rw [updT_len]; exact hjl,by rw [updT_code hb3,List.length_set]; exact hjc,?_,?_⟩,hD3.upd hb3 hk3 ?_ ?_⟩ (by show x0.args.length - (j + 1) < x0.args.length - j; omega) ?_
     ·rw [updT_at hb3 hk3]; show (List.set _ _ _).length = _; rw [List.length_set]; exact hja
     ·rw [updT_at hb3 hk3]; exact hjt
     ·show (List.set _ _ _).length < _; rw [List.length_set]; omega
     ·show ((l3.getD b Enc.d).code.getD k Enc.d).to.length < _; omega
     ·refine eP [] [] ?_ ?_ <;> repeat' first|exact eN|refine And.intro ?_ ?_
      all_goals first|exact fun i _=>teqs_refl _|exact (updT_len _ _ _ _).symm|skip
      intro t ht
      rw [ha3]
      exact tree_upd2 (l := l3) (a := ⟨77,j,0⟩) hb3 hk3 (by omega)
    ·repeat' first|(refine iF (fun hb=>?_) (fun hb=>?_) <;> (try simp only [yv] at hb) <;> (have hc := hb; try simp only [sB,Int.reduceToNat] at hc; try simp only [addZ0] at hc) <;> first|(exfalso; omega)|conv=>whnf)|((first|refine ya ?_|refine yb ?_|refine And.intro ⟨rfl,fun _ _=>rfl⟩ ?_|refine And.intro (⟨⟨rfl,rfl⟩,by omega⟩ : (_ = _ /\ _ = _) /\ _) ?_|refine And.intro (⟨rfl,by omega⟩ : _ = _ /\ _) ?_|refine yc ?_|refine ye ?_|refine yg ?_|refine yi ?_|refine yk ?_|refine dE ?_|refine dD ?_|refine dF ?_|refine d0 ?_|refine d1 ?_|refine dL ?_|refine dP ?_|refine yl ?_|refine ym ?_|refine yn ?_|refine ⟨_,fun _=>(IntKind.wrap_u64 _).symm,?_⟩); conv=>whnf)|(refine yt ?_; conv=>whnf)|exact ⟨_,.keep rfl rfl⟩|fail
     have he2 : ((l2.getD (addZ 0 (b : Int).toNat) Enc.d).code.getD (addZ 0 (k : Int).toNat) Enc.d).to.length = x0.to.length := by rw [addZ_eq,addZ_eq,Nat.zero_add,Nat.zero_add,hx0]; rfl
     refine lp [60] (fun q : SpT=>[.i .i64 q.i]) (fun q=>spX x0 b k :: spO nm ret ps.length bs.length g q.l) (fun q=>(q.i <= x0.to.length /\ q.l.length = bs.length /\ (q.l.getD b Enc.d).code.length = (l.getD b Enc.d).code.length /\ ((q.l.getD b Enc.d).code.getD k Enc.d).args.length = x0.args.length /\ ((q.l.getD b Enc.d).code.getD k Enc.d).to.length = x0.to.length) /\ Bd q.l) (fun q=>x0.to.length - q.i) ⟨0,l3⟩ ⟨⟨Nat.zero_le _,hjl,hjc,hja,hjt⟩,hD3⟩ ?_ fun q hq=>?_
     ·refine eP [] [] ?_ ?_ <;> repeat' first|exact eN|refine And.intro ?_ ?_
      all_goals first|exact fun i _=>teqs_refl _|skip
     conv=>whnf
     obtain ⟨j2,l4⟩ := q
     obtain ⟨⟨gj1,gjl,gjc,gja,gjt⟩,hD4⟩ := hq
     simp only at gj1 gjl gjc gja gjt hD4
     have hb4 : b < l4.length := by omega
     have hk4 : k < (l4.getD b Enc.d).code.length := by omega
     have ha4 : addZ 0 (j2 : Int).toNat = j2 := by rw [addZ_eq]; omega
     rcases Nat.lt_or_ge j2 x0.to.length with hjl3|hjg3
     ·repeat' first|(refine iF (fun hb=>?_) (fun hb=>?_) <;> (try simp only [yv] at hb) <;> (have hc := hb; try simp only [sB,Int.reduceToNat] at hc; try simp only [addZ0] at hc) <;> first|(exfalso; omega)|conv=>whnf)|((first|refine ya ?_|refine yb ?_|refine And.intro ⟨rfl,fun _ _=>rfl⟩ ?_|refine And.intro (⟨⟨rfl,rfl⟩,by omega⟩ : (_ = _ /\ _ = _) /\ _) ?_|refine And.intro (⟨rfl,by omega⟩ : _ = _ /\ _) ?_|refine yc ?_|refine ye ?_|refine yg ?_|refine yi ?_|refine yk ?_|refine dE ?_|refine dD ?_|refine dF ?_|refine d0 ?_|refine d1 ?_|refine dL ?_|refine dP ?_|refine yl ?_|refine ym ?_|refine yn ?_|refine ⟨_,fun _=>(IntKind.wrap_u64 _).symm,?_⟩); conv=>whnf)|(refine yt ?_; conv=>whnf)|exact ⟨_,.keep rfl rfl⟩|fail
      refine .mk ⟨j2 + 1,updT l4 b k (setT ((l4.getD b Enc.d).code.getD k Enc.d) j2 (-77))⟩ ⟨⟨hjl3,by rw [updT_len]; exact gjl,by rw [updT_code hb4,List.length_set]; exact gjc,?_,?_⟩,hD4.upd hb4 hk4 ?_ ?_⟩ (by show x0.to.length - (j2 + 1) < x0.to.length - j2; omega) ?_
      ·rw [updT_at hb4 hk4]; exact gja
      ·rw [updT_at hb4 hk4]; show (List.set _ _ _).length = _; rw [List.length_set]; exact gjt
      ·show ((l4.getD b Enc.d).code.getD k Enc.d).args.length < _; omega
      ·show (List.set _ _ _).length < _; rw [List.length_set]; omega
      ·refine eP [] [] ?_ ?_ <;> repeat' first|exact eN|refine And.intro ?_ ?_
       all_goals first|exact fun i _=>teqs_refl _|exact (updT_len _ _ _ _).symm|skip
       intro t ht
       rw [ha4]
       exact tree_upd3 (l := l4) (z := -77) hb4 hk4 (by omega)
     ·repeat' first|(refine iF (fun hb=>?_) (fun hb=>?_) <;> (try simp only [yv] at hb) <;> (have hc := hb; try simp only [sB,Int.reduceToNat] at hc; try simp only [addZ0] at hc) <;> first|(exfalso; omega)|conv=>whnf)|((first|refine ya ?_|refine yb ?_|refine And.intro ⟨rfl,fun _ _=>rfl⟩ ?_|refine And.intro (⟨⟨rfl,rfl⟩,by omega⟩ : (_ = _ /\ _ = _) /\ _) ?_|refine And.intro (⟨rfl,by omega⟩ : _ = _ /\ _) ?_|refine yc ?_|refine ye ?_|refine yg ?_|refine yi ?_|refine yk ?_|refine dE ?_|refine dD ?_|refine dF ?_|refine d0 ?_|refine d1 ?_|refine dL ?_|refine dP ?_|refine yl ?_|refine ym ?_|refine yn ?_|refine ⟨_,fun _=>(IntKind.wrap_u64 _).symm,?_⟩); conv=>whnf)|(refine yt ?_; conv=>whnf)|exact ⟨_,.keep rfl rfl⟩|fail
      refine .mk ⟨k + 1,updT l4 b k spI⟩ ⟨⟨hkt,by rw [updT_len]; exact gjl,by rw [updT_code hb4,List.length_set]; exact gjc⟩,hD4.upd hb4 hk4 (by decide) (by decide)⟩ (by show (l.getD b Enc.d).code.length - (k + 1) < (l.getD b Enc.d).code.length - k; omega) ?_
      refine eP [] [] ?_ ?_ <;> repeat' first|exact eN|refine And.intro ?_ ?_
      all_goals first|exact fun i _=>teqs_refl _|exact (updT_len _ _ _ _).symm|skip
      intro t ht
      show teqs (updG [(addZ 0 b,0)] _ (addZ 0 k) 0 _ t) _
      rw [show addZ 0 b = b by simp [addZ_eq],show addZ 0 k = k by simp [addZ_eq]]
      exact tree_upd1 (l := l4) hb4 hk4
   ·repeat' first|(refine iF (fun hb=>?_) (fun hb=>?_) <;> (try simp only [yv] at hb) <;> (have hc := hb; try simp only [sB,Int.reduceToNat] at hc; try simp only [addZ0] at hc) <;> first|(exfalso; omega)|conv=>whnf)|((first|refine ya ?_|refine yb ?_|refine And.intro ⟨rfl,fun _ _=>rfl⟩ ?_|refine And.intro (⟨⟨rfl,rfl⟩,by omega⟩ : (_ = _ /\ _ = _) /\ _) ?_|refine And.intro (⟨rfl,by omega⟩ : _ = _ /\ _) ?_|refine yc ?_|refine ye ?_|refine yg ?_|refine yi ?_|refine yk ?_|refine dE ?_|refine dD ?_|refine dF ?_|refine d0 ?_|refine d1 ?_|refine dL ?_|refine dP ?_|refine yl ?_|refine ym ?_|refine yn ?_|refine ⟨_,fun _=>(IntKind.wrap_u64 _).symm,?_⟩); conv=>whnf)|(refine yt ?_; conv=>whnf)|exact ⟨_,.keep rfl rfl⟩|fail
    refine .mk ⟨b + 1,l2.set b ⟨[]⟩⟩ ⟨⟨hlt,by rw [List.length_set]; exact hkl⟩,hD2.set b (by omega)⟩ (by show bs.length - (b + 1) < bs.length - b; omega) ?_
    refine eP [] [] ?_ ?_ <;> repeat' first|exact eN|refine And.intro ?_ ?_
    all_goals first|exact fun i _=>teqs_refl _|exact List.length_set.symm|skip
    intro t ht
    rw [addZ_eq,Nat.zero_add,Int.toNat_natCast]
    exact tree_upd0 (l := l2) (b := b) (by omega)
  ·repeat' first|(refine iF (fun hb=>?_) (fun hb=>?_) <;> (try simp only [yv] at hb) <;> (have hc := hb; try simp only [sB,Int.reduceToNat] at hc; try simp only [addZ0] at hc) <;> first|(exfalso; omega)|conv=>whnf)|((first|refine ya ?_|refine yb ?_|refine And.intro ⟨rfl,fun _ _=>rfl⟩ ?_|refine And.intro (⟨⟨rfl,rfl⟩,by omega⟩ : (_ = _ /\ _ = _) /\ _) ?_|refine And.intro (⟨rfl,by omega⟩ : _ = _ /\ _) ?_|refine yc ?_|refine ye ?_|refine yg ?_|refine yi ?_|refine yk ?_|refine dE ?_|refine dD ?_|refine dF ?_|refine d0 ?_|refine d1 ?_|refine dL ?_|refine dP ?_|refine yl ?_|refine ym ?_|refine yn ?_|refine ⟨_,fun _=>(IntKind.wrap_u64 _).symm,?_⟩); conv=>whnf)|(refine yt ?_; conv=>whnf)|exact ⟨_,.keep rfl rfl⟩|fail
   refine ⟨[],[],?_,?_,rfl⟩ <;> repeat' first|exact eN|refine And.intro ?_ ?_
   all_goals exact fun i _=>teqs_refl _
theorem Spoil_N (c d : Nat) (nm : ByteArray) (ps : List Int) (ret : Int) (bs : List BlkE) (h1 : ps.length < 4294967296) (h2 : bs.length < 4294967296) (hB : Bd bs) (hc : swp 1002 d (swp 1001 c 1001) = c) (hd : swp 1002 d (swp 1001 c 1002) = d) :
  ASpecM Tryz.prog 14 [.agg [.s nm,.orow c 1 0 ps.length,.i .i64 ret,.orow d 1 0 bs.length]] [(c,oL ps),(d,oT bs)] (.tup []) [] := by
 have h := ((Spoil_S nm ps ret bs h1 h2 hB).ren (swp 1001 c) (swp 1001 c) (swp_swp _ _)).ren (swp 1002 d) (swp 1002 d) (swp_swp _ _)
 have e1 : renAs (swp 1002 d) (renAs (swp 1001 c) [.agg [.s nm,.orow 1001 1 0 ps.length,.i .i64 ret,.orow 1002 1 0 bs.length]]) = [.agg [.s nm,.orow (swp 1002 d (swp 1001 c 1001)) 1 0 ps.length,.i .i64 ret,.orow (swp 1002 d (swp 1001 c 1002)) 1 0 bs.length]] := rfl
 have e2 : renO (swp 1002 d) (renO (swp 1001 c) [(1001,oL ps),(1002,oT bs)]) = [(swp 1002 d (swp 1001 c 1001),oL ps),(swp 1002 d (swp 1001 c 1002),oT bs)] := rfl
 rw [e1,e2,hc,hd] at h
 exact h
theorem flat_cp {c d : Nat} (ps : List Int) (bs : List BlkE) : ∀ i ob,lk [(c,(oL ps : Obj)),(d,oT bs)] i = some ob -> flatO ob := fun i ob h=>by
 rw [lk_cons] at h
 split at h
 ·cases h
  exact fun i _=>rfl
 ·rw [lk_cons] at h
  split at h
  ·cases h
   exact fun i _=>⟨fun k _=>⟨rfl,rfl,rfl,rfl,rfl,(fun j _=>⟨rfl,rfl,rfl,trivial⟩),(fun j _=>⟨rfl,trivial⟩),trivial⟩,trivial⟩
  ·simp [lk] at h
theorem Bd_of {f : FnE} (h : siz f < 4294967296) : Bd f.blocks := fun t=>⟨Nat.lt_of_le_of_lt (code_le f t) h,fun k=>⟨Nat.lt_of_le_of_lt (Nat.le_trans (args_le _) (ins_le f t k)) h,Nat.lt_of_le_of_lt (Nat.le_trans (to_le _) (ins_le f t k)) h⟩⟩
def sumQ (f : FnE) (q : Nat) : Nat := ((f.blocks.take q).map fun b=>b.code.length).sum
theorem sumQ_succ {f : FnE} {q : Nat} (h : q < f.blocks.length) : sumQ f (q + 1) = sumQ f q + (f.blocks.getD q Enc.d).code.length := by
 unfold sumQ
 rw [List.take_add_one,List.getElem?_eq_getElem h,List.map_append,List.sum_append,List.getD_eq_getElem?_getD,List.getElem?_eq_getElem h]
 simp
theorem sumQ_all {f : FnE} {q : Nat} (h : f.blocks.length <= q) : sumQ f q = totI f := by
 unfold sumQ totI; rw [List.take_of_length_le h]
theorem sumC_take : ∀ (l : List BlkE) (q : Nat),((l.take q).map fun b=>b.code.length).sum <= (l.map siz).sum
 | [],q=>by simp
 | x :: l,0=>by simp
 | x :: l,q + 1=>by
  have h := sumC_take l q
  have h2 : x.code.length <= siz x := len_siz x.code
  simp only [List.take_succ_cons,List.map_cons,List.sum_cons]; omega
theorem sumQ_le (f : FnE) (q : Nat) : sumQ f q <= siz f := by
 have h := sumC_take f.blocks q
 have e : siz f = siz f.name + siz f.params + siz f.blocks := rfl
 have e2 : siz f.blocks = f.blocks.length + (f.blocks.map siz).sum := rfl
 have e3 : sumQ f q = ((f.blocks.take q).map fun b=>b.code.length).sum := rfl
 omega
theorem Size_S (f : FnE) (hs : siz f < 4294967296) : ASpec Tryz.prog 20 [eS f] (.i .i64 (totI f : Nat)) [] := by
 have h1 := blocks_le f
 refine ASpec.enter TYok mixed Tryz.func20 rfl Tryz.call20 Tryz.ntmps20 rfl (rs := [.tmp 2]) rfl (nodupB_ok rfl) (Clo.one rfl) (keep := [0,1,2,3,5,7,8,9]) ?_; conv=>whnf
 repeat' first|(refine iF (fun hb=>?_) (fun hb=>?_) <;> (try simp only [yv] at hb) <;> (have hc := hb; try simp only [sB,Int.reduceToNat] at hc; try simp only [addZ0] at hc) <;> first|(exfalso; omega)|conv=>whnf)|((first|refine ya ?_|refine yb ?_|refine yc ?_|refine yd ?_|refine yf ?_|refine yh ?_|refine yj ?_|refine dD ?_|refine dF ?_|refine d0 ?_|refine d1 ?_|refine dL ?_|refine dP ?_|refine yl ?_|refine ym ?_|refine yn ?_|refine ⟨_,fun _=>(IntKind.wrap_u64 _).symm,?_⟩); conv=>whnf)|(refine yt ?_; conv=>whnf)|exact ⟨_,.keep rfl rfl⟩|fail
 refine lp [9,3] (fun q : Nat=>[.i .i64 q,.i .i64 (sumQ f q : Nat)]) (fun q=>[(1,bx f)]) (fun q=>q <= f.blocks.length) (fun q=>f.blocks.length - q) 0 (Nat.zero_le _) ?_ fun q hq=>?_
 ·refine eP [] [] ?_ ?_ <;> repeat' first|exact eN|refine And.intro ?_ ?_
 conv=>whnf
 have h2 := sumQ_le f q
 have h3 := code_le f q
 repeat' first|(refine iF (fun hb=>?_) (fun hb=>?_) <;> (try simp only [yv] at hb) <;> (have hc := hb; try simp only [sB,Int.reduceToNat] at hc; try simp only [addZ0] at hc) <;> first|(exfalso; omega)|conv=>whnf)|((first|refine ya ?_|refine yb ?_|refine yc ?_|refine yd ?_|refine yf ?_|refine yh ?_|refine yj ?_|refine dD ?_|refine dF ?_|refine d0 ?_|refine d1 ?_|refine dL ?_|refine dP ?_|refine yl ?_|refine ym ?_|refine yn ?_|refine ⟨_,fun _=>(IntKind.wrap_u64 _).symm,?_⟩); conv=>whnf)|(refine yt ?_; conv=>whnf)|exact ⟨_,.keep rfl rfl⟩|fail
 ·have e := sumQ_succ (f := f) (q := q) (by omega)
  refine .mk (q + 1) (by omega) (by omega) ?_
  refine eP [] [] ?_ ?_ <;> repeat' first|exact eN|refine And.intro ?_ ?_
 ·obtain rfl : q = f.blocks.length := by omega
  exact ⟨_,.keep (by rw [sumQ_all (Nat.le_refl _)]) rfl⟩

theorem long23_S (f : FnE) (hs : siz f < 1000000000) : ASpec Tryz.prog 7 [eS f] (.b (!decide ((modQ ⟨[],[],[f]⟩ : Int) <= 300) || decide (30 < (f.blocks.length : Int)))) [] := by
 have h := Few_S ⟨[],[],[f]⟩ 300 (by show (0 + 0 + (0 + 1 + (siz f + 0))) < _; omega)
 have h1 := blocks_le f
 refine ASpec.enter TYok mixed Tryz.func7 rfl Tryz.call7 Tryz.ntmps7 rfl (rs := [.tmp 2]) rfl (nodupB_ok rfl) (Clo.one rfl) (keep := [0,1,2]) ?_; conv=>whnf
 repeat' first|(refine iF (fun hb=>?_) (fun hb=>?_) <;> (try simp only [yv] at hb) <;> (have hc := hb; try simp only [sB,Int.reduceToNat] at hc; try simp only [addZ0] at hc) <;> first|(exfalso; omega)|conv=>whnf)|((first|refine ya ?_|refine yb ?_|refine yc ?_|refine yd ?_|refine yf ?_|refine yh ?_|refine yj ?_|refine dD ?_|refine dF ?_|refine d0 ?_|refine d1 ?_|refine dL ?_|refine dP ?_|refine yl ?_|refine ym ?_|refine yn ?_|refine ⟨_,fun _=>(IntKind.wrap_u64 _).symm,?_⟩); conv=>whnf)|((first|refine cK (fun _=>h.weak (by repeat' first|exact trivial|exact rfl|refine And.intro ?_ ?_|refine wkrow1 ?_|exact fun i _=>wkInt _|exact fun i _=>wkBlk _)) ?_|((try (refine CallW.lent ?_; (conv=>whnf); repeat (refine yb ?_; (conv=>whnf)))); refine cL (fun _=>h.weak (by repeat' first|exact trivial|exact rfl|refine And.intro ?_ ?_|refine wkrow1 ?_|exact fun i _=>wkInt _|exact fun i _=>wkBlk _)) ?_)); conv=>whnf)|(refine yt ?_; conv=>whnf)|exact ⟨_,.keep rfl rfl⟩|fail
 all_goals exact ⟨_,.keep (by simp only [pickB_or]) rfl⟩
theorem dseAll_F (f : FnE) (hs : OkF f) (ha : OkA f) : ASpec Tryz.prog 9 [eS f] (eS (dseAll f)) [] := by
 have h := (dseAll_cut hs ha).1.nm
 refine (dseAll_S f hs ha).gives (o' := []) ?_ (Clo.one rfl) (by simp)
 have e : eS (dseAll f) = .agg [.s f.name,eL f.params,.i .i64 f.ret,eL (dseAll f).blocks] := by
  rw [<- h.1,<- h.2.1,<- h.2.2]; rfl
 rw [e]
 exact .agg (.cons (.keep rfl rfl) (.cons (.freeze rfl (by omega) rfl (fun _ _=>rfl) rfl) (.cons (.keep rfl rfl) (.cons (.freezeT rfl rfl rfl (fun _ _=>teqs_refl _) rfl) .nil (nodupB_ok rfl)) (nodupB_ok rfl)) (nodupB_ok rfl)) (nodupB_ok rfl))
def st23 (n : Int) : InsE := ⟨28,-1,8,0,0,[⟨2,0,n⟩,⟨5,0,0⟩],[]⟩
theorem st23_S (n : Int) : ASpec Tryz.prog 19 [.i .u64 n] (eS (st23 n)) [] := by
 refine ASpec.enter TYok mixed Tryz.func19 rfl Tryz.call19 Tryz.ntmps19 rfl (rs := [.cell 2 45]) rfl (nodupB_ok rfl) (Clo.one rfl) (keep := [0,2]) ?_; conv=>whnf
 repeat' first|(refine iF (fun hb=>?_) (fun hb=>?_) <;> (try simp only [yv] at hb) <;> (have hc := hb; try simp only [sB,Int.reduceToNat] at hc; try simp only [addZ0] at hc) <;> first|(exfalso; omega)|conv=>whnf)|((first|refine ya ?_|refine yb ?_|refine yc ?_|refine yd ?_|refine yf ?_|refine yh ?_|refine yj ?_|refine dD ?_|refine dF ?_|refine d0 ?_|refine d1 ?_|refine dL ?_|refine dP ?_|refine yl ?_|refine ym ?_|refine yn ?_|refine ⟨_,fun _=>(IntKind.wrap_u64 _).symm,?_⟩); conv=>whnf)|(refine yt ?_; conv=>whnf)|exact ⟨_,.keep rfl rfl⟩|fail
 exact ⟨_,.wk (by repeat' first|exact trivial|exact rfl|refine And.intro ?_ ?_|refine wkrow1 ?_|refine wkrow2 ?_|refine wkrow3 ?_|exact fun i _=>wkInt _|exact fun i _=>wkBlk _|exact fun i _=>wkOpd _|exact fun i _=>wkIns _) rfl⟩
def rt23 : InsE := ⟨33,-1,0,0,0,[],[]⟩
def lvD : FnE := ⟨(⟨#[102]⟩ : ByteArray),[],0,[⟨[st23 1,st23 2,rt23]⟩]⟩
def lvG : FnE := ⟨(⟨#[102]⟩ : ByteArray),[],0,[⟨[st23 2,rt23]⟩]⟩
theorem st23_rng (n : Int) (h : n = 1 \/ n = 2) : Rng.rng (st23 n) := by
 refine ⟨show rngI 28 by decide,show rngI (-1) by decide,show rngI 8 by decide,show rngI 0 by decide,show rngI 0 by decide,fun x hx=>?_,fun x hx=>(by cases hx)⟩
 have hx : x ∈ [(⟨2,0,n⟩ : Opd),⟨5,0,0⟩] := hx
 simp only [List.mem_cons,List.not_mem_nil,or_false] at hx
 rcases hx with rfl|rfl
 ·rcases h with rfl|rfl <;> exact ⟨by decide,by decide,by decide⟩
 ·exact ⟨by decide,by decide,by decide⟩
theorem rt23_rng : Rng.rng rt23 := ⟨by decide,by decide,by decide,by decide,by decide,fun x hx=>(by cases hx),fun x hx=>(by cases hx)⟩
theorem lvD_rng : Rng.rng lvD := by
 refine ⟨trivial,fun x hx=>(by cases hx),by decide,fun x hx=>?_⟩
 obtain rfl := List.mem_singleton.1 hx
 show ∀ x ∈ _,Rng.rng x
 intro x hx
 simp only [List.mem_cons,List.not_mem_nil,or_false] at hx
 rcases hx with rfl|rfl|rfl
 ·exact st23_rng 1 (.inl rfl)
 ·exact st23_rng 2 (.inr rfl)
 ·exact rt23_rng
theorem lvD_len (b : Nat) : lenE lvD b = if b = 0 then 3 else 0 := by cases b <;> rfl
theorem lvG_len (b : Nat) : lenE lvG b = if b = 0 then 2 else 0 := by cases b <;> rfl
theorem lvD_okF : OkF lvD := OkF_of (by decide +kernel) lvD_rng
theorem lvD_okA : OkA lvD where
 st := fun b i hi ho=>by
  rw [lvD_len] at hi
  split at hi
  ·rename_i hb; subst hb
   match i,hi with
   | 0,_=>decide
   | 1,_=>decide
   | 2,_=>exact absurd ho (by decide)
  ·exact absurd hi (Nat.not_lt_zero _)
 ld := fun b i hi ho=>by
  rw [lvD_len] at hi
  split at hi
  ·rename_i hb; subst hb
   match i,hi with
   | 0,_=>exact absurd ho (by decide)
   | 1,_=>exact absurd ho (by decide)
   | 2,_=>exact absurd ho (by decide)
  ·exact absurd hi (Nat.not_lt_zero _)
 nb := by decide
theorem lvD_0 : deadB lvD ⟨0,(0 : Nat),(0 : Nat)⟩ = true := dead_t ⟨⟨by decide,by decide⟩,⟨by decide,by decide⟩,.zero (by decide) (by decide),by decide,by
 unfold goesB
 show (overB (lvD.blocks.getD 0 Enc.d).code 0 || _) = true
 rw [show overB (lvD.blocks.getD 0 Enc.d).code 0 = true from by decide +kernel]; rfl⟩
theorem goes_no {f : FnE} {b i : Nat} (h1 : overB (f.blocks.getD b Enc.d).code i = false) (h2 : aloneE f (RootE f ((insE f b i).args.getD 1 Enc.d)).v = false) : ¬goesB f b i = true := by
 unfold goesB; rw [h1,h2]; simp
theorem lvD_1 : deadB lvD ⟨0,(0 : Nat),(1 : Nat)⟩ = false := dead_f fun h=>goes_no (f := lvD) (b := 0) (i := 1) (by decide +kernel) (by decide +kernel) h.2.2.2.2
theorem lvG_no : noD lvG := fun b i hi=>by
 rw [lvG_len] at hi
 split at hi
 ·rename_i hb; subst hb
  match i,hi with
  | 0,_=>exact dead_f fun h=>goes_no (f := lvG) (b := 0) (i := 0) (by decide +kernel) (by decide +kernel) h.2.2.2.2
  | 1,_=>exact dead_f fun h=>absurd h.2.2.2.1 (by decide)
 ·exact absurd hi (Nat.not_lt_zero _)
theorem lvD_all : dseAll lvD = lvG := by
 have h : fstD lvD 0 0 := ⟨⟨by decide,by decide⟩,lvD_0,fun b' i' hb _=>by omega⟩
 have e : dseAll lvD = dseN 2 (cut lvD 0 0) := by
  unfold dseAll
  rw [show totI lvD = 2 + 1 from rfl,dseN,stepD_some h]
 rw [e,show cut lvD 0 0 = lvG from rfl,dseN,stepD_none lvG_no]
theorem lives23_S : ASpec Tryz.prog 5 [] (.b true) [] := by
 have hA := dseAll_F lvD lvD_okF lvD_okA
 rw [lvD_all] at hA
 have h0 := Dead_S lvD ⟨0,(0 : Nat),(0 : Nat)⟩ lvD_okF lvD_okA
 rw [lvD_0] at h0
 have h1 := Dead_S lvD ⟨0,(0 : Nat),(1 : Nat)⟩ lvD_okF lvD_okA
 rw [lvD_1] at h1
 have d0 : ∀ X,wk X (eS lvD) -> ASpec Tryz.prog 11 [X,.agg [.i .i64 0,.i .i64 0,.i .i64 0]] (.b true) [] := fun X h=>h0.weak ⟨h,⟨⟨rfl,rfl⟩,⟨rfl,rfl⟩,⟨rfl,rfl⟩,trivial⟩,trivial⟩
 have d1 : ∀ X,wk X (eS lvD) -> ASpec Tryz.prog 11 [X,.agg [.i .i64 0,.i .i64 0,.i .i64 1]] (.b false) [] := fun X h=>h1.weak ⟨h,⟨⟨rfl,rfl⟩,⟨rfl,rfl⟩,⟨rfl,rfl⟩,trivial⟩,trivial⟩
 have hz : ASpec Tryz.prog 20 [eS lvG] (.i .i64 2) [] := Size_S lvG (by decide +kernel)
 refine ASpec.enter TYok mixed Tryz.func5 rfl Tryz.call5 Tryz.ntmps5 rfl (rs := [.tmp 0]) rfl (nodupB_ok rfl) (Clo.one rfl) (keep := [0,1,2,3]) ?_; conv=>whnf
 repeat' first|(refine iF (fun hb=>?_) (fun hb=>?_) <;> (try simp only [yv] at hb) <;> (have hc := hb; try simp only [sB,Int.reduceToNat] at hc; try simp only [addZ0] at hc) <;> first|(exfalso; omega)|conv=>whnf)|((first|refine ya ?_|refine yb ?_|refine yc ?_|refine yd ?_|refine yf ?_|refine yh ?_|refine yj ?_|refine dD ?_|refine dF ?_|refine d0 ?_|refine d1 ?_|refine dL ?_|refine dP ?_|refine yl ?_|refine ym ?_|refine yn ?_|refine ⟨_,fun _=>(IntKind.wrap_u64 _).symm,?_⟩); conv=>whnf)|((first|refine cK (fun _=>st23_S _) ?_|((try (refine CallW.lent ?_; (conv=>whnf); repeat (refine yb ?_; (conv=>whnf)))); refine cL (fun _=>st23_S _) ?_)); conv=>whnf)|((first|refine cK (fun _=>hA.weak (by repeat' first|exact trivial|exact rfl|refine And.intro ?_ ?_|refine wkrow1 ?_|refine wkrow2 ?_|refine wkrow3 ?_|exact fun i _=>wkInt _|exact fun i _=>wkBlk _|exact fun i _=>wkOpd _|exact fun i _=>wkIns _)) ?_|((try (refine CallW.lent ?_; (conv=>whnf); repeat (refine yb ?_; (conv=>whnf)))); refine cL (fun _=>hA.weak (by repeat' first|exact trivial|exact rfl|refine And.intro ?_ ?_|refine wkrow1 ?_|refine wkrow2 ?_|refine wkrow3 ?_|exact fun i _=>wkInt _|exact fun i _=>wkBlk _|exact fun i _=>wkOpd _|exact fun i _=>wkIns _)) ?_)); conv=>whnf)|((first|refine cK (fun _=>d0 _ (by repeat' first|exact trivial|exact rfl|refine And.intro ?_ ?_|refine wkrow1 ?_|refine wkrow2 ?_|refine wkrow3 ?_|exact fun i _=>wkInt _|exact fun i _=>wkBlk _|exact fun i _=>wkOpd _|exact fun i _=>wkIns _)) ?_|((try (refine CallW.lent ?_; (conv=>whnf); repeat (refine yb ?_; (conv=>whnf)))); refine cL (fun _=>d0 _ (by repeat' first|exact trivial|exact rfl|refine And.intro ?_ ?_|refine wkrow1 ?_|refine wkrow2 ?_|refine wkrow3 ?_|exact fun i _=>wkInt _|exact fun i _=>wkBlk _|exact fun i _=>wkOpd _|exact fun i _=>wkIns _)) ?_)); conv=>whnf)|((first|refine cK (fun _=>d1 _ (by repeat' first|exact trivial|exact rfl|refine And.intro ?_ ?_|refine wkrow1 ?_|refine wkrow2 ?_|refine wkrow3 ?_|exact fun i _=>wkInt _|exact fun i _=>wkBlk _|exact fun i _=>wkOpd _|exact fun i _=>wkIns _)) ?_|((try (refine CallW.lent ?_; (conv=>whnf); repeat (refine yb ?_; (conv=>whnf)))); refine cL (fun _=>d1 _ (by repeat' first|exact trivial|exact rfl|refine And.intro ?_ ?_|refine wkrow1 ?_|refine wkrow2 ?_|refine wkrow3 ?_|exact fun i _=>wkInt _|exact fun i _=>wkBlk _|exact fun i _=>wkOpd _|exact fun i _=>wkIns _)) ?_)); conv=>whnf)|((first|refine cK (fun _=>hz) ?_|((try (refine CallW.lent ?_; (conv=>whnf); repeat (refine yb ?_; (conv=>whnf)))); refine cL (fun _=>hz) ?_)); conv=>whnf)|(refine yt ?_; conv=>whnf)|exact ⟨_,.keep rfl rfl⟩|fail
 all_goals skip
end Go.Proofs.YtjfdbmfcnhjfoaaGreat
