/- The engine and the contracts of the functions that the statement reaches, part 7. -/
import Derived.Test.YtjfdbmfcnhjfoaaGreatMf
set_option linter.unusedVariables false
set_option linter.unusedSimpArgs false
set_option maxRecDepth 100000
set_option maxHeartbeats 8000000
namespace Go.Proofs.YtjfdbmfcnhjfoaaGreat
open Go.RowKit
theorem tree_wk {g g' : Nat -> List AV} {k t : Nat} {x : AV} (hg : t = k -> ∃ y,g k = [y]) (h1 : t = k -> wks [x] (g' t)) (h2 : t ≠ k -> wks (g t) (g' t)) : wks (setG (updG [] g k 0 [.any]) k 0 [x] t) (g' t) := by
 by_cases e : t = k
 ·subst e
  obtain ⟨y,hy⟩ := hg rfl
  have e1 : setG (updG [] g t 0 [.any]) t 0 [x] t = [x] := by
   simp only [setG,updG,if_true,hy]; rfl
  rw [e1]; exact h1 rfl
 ·have e1 : setG (updG [] g k 0 [.any]) k 0 [x] t = g t := by
   simp only [setG,updG,if_neg e]
  rw [e1]; exact h2 e
theorem wkC (l : List InsE) : wk (eL l) (eL l) := ⟨rfl,rfl,fun i _=>wkX _⟩
theorem wkCut {g : FnE} {b k : Nat} (hb : b < g.blocks.length) (hk : k < lenE g b) (t : Nat) : wks (setG (updG [] (fun i=>Enc.enc (g.blocks.getD i Enc.d)) b 0 [.any]) b 0 [.row none 7 ((g.blocks.getD b Enc.d).code.length - 1) fun i=>Enc.enc (((g.blocks.getD b Enc.d).code.eraseIdx k).getD i Enc.d)] t) (Enc.enc ((cut g b k).blocks.getD t Enc.d)) := by
 refine tree_wk (g' := fun t=>Enc.enc ((cut g b k).blocks.getD t Enc.d)) (fun e=>⟨_,rfl⟩) (fun e=>?_) (fun e=>?_)
 ·subst e
  show wks _ (Enc.enc ((cut g t k).blocks.getD t Enc.d))
  rw [blk_cut hb,if_pos rfl]
  have hk : k < (g.blocks.getD t Enc.d).code.length := hk
  exact ⟨⟨rfl,by rw [List.length_eraseIdx,if_pos hk],fun i _=>wkX _⟩,trivial⟩
 ·show wks _ (Enc.enc ((cut g b k).blocks.getD t Enc.d))
  rw [blk_cut hb,if_neg e]
  exact ⟨wkC _,trivial⟩
theorem flat_rep {ps : List Int} {bs : List BlkE} : ∀ i ob,lk [(1011,(oL ps : Obj)),(1012,oT bs)] i = some ob -> flatO ob := fun i ob h=>by
 rw [lk_cons] at h
 split at h
 ·cases h
  exact fun i _=>rfl
 ·rw [lk_cons] at h
  split at h
  ·cases h
   exact fun i _=>⟨fun k _=>⟨rfl,rfl,rfl,rfl,rfl,(fun j _=>⟨rfl,rfl,rfl,trivial⟩),(fun j _=>⟨rfl,trivial⟩),trivial⟩,trivial⟩
  ·simp [lk] at h
structure LS where
 b : Nat
 g : FnE
structure LI (f : FnE) (p : LS) : Prop where
 hb : p.b <= p.g.blocks.length
 nm : p.g.name = f.name /\ p.g.params = f.params /\ p.g.ret = f.ret
 red : ∃ n,totI p.g <= n /\ foldN n p.g = foldAll f
 no : ∀ b' i',b' < p.b -> i' < lenE p.g b' -> (foldF (insE p.g b' i')).2 = false
 ok : OkR p.g
def lsO (f g : FnE) : Os := [(1,.box none none [.s f.name,.orow 1001 1 0 f.params.length,.i .i64 f.ret,.orow 1002 1 0 g.blocks.length]),(2,bx (Enc.d : FnE)),(1001,oL f.params),(1002,oT g.blocks)]
theorem foldAll_S (f : FnE) (hs : OkR f) : ASpec Tryz.prog 17 [eS f] (.agg [.s f.name,.orow 1001 1 0 f.params.length,.i .i64 f.ret,.orow 1002 1 0 (foldAll f).blocks.length]) [(1001,oL f.params),(1002,oT (foldAll f).blocks)] := by
 have hz := hs.sz
 have h1 := blocks_le f
 have h2 := params_le f
 refine ASpec.enter TYok mixed Tryz.func17 rfl Tryz.call17 Tryz.ntmps17 rfl (rs := [.cell 2 34]) rfl (nd2 (show (1001 : Nat) ≠ 1002 from by decide)) (Clo.fn (c := 1001) (d := 1002) (by decide)) (keep := [0,1,2,3,4,5,6,7,22,23,24]) ?_; conv=>whnf
 repeat' first|(refine iF (fun hb=>?_) (fun hb=>?_) <;> (try simp only [yv] at hb) <;> (have hc := hb; try simp only [sB,Int.reduceToNat] at hc; try simp only [addZ0] at hc) <;> first|(exfalso; omega)|conv=>whnf)|((first|refine ya ?_|refine yb ?_|refine And.intro ⟨rfl,fun _ _=>rfl⟩ ?_|refine And.intro (⟨⟨rfl,rfl⟩,by omega⟩ : (_ = _ /\ _ = _) /\ _) ?_|refine And.intro (⟨rfl,by omega⟩ : _ = _ /\ _) ?_|refine yc ?_|refine ye ?_|refine yf ?_|refine yi ?_|refine yk ?_|refine dD ?_|refine dF ?_|refine d0 ?_|refine d1 ?_|refine dL ?_|refine dP ?_|refine yl ?_|refine ym ?_|refine yn ?_|refine ⟨_,fun _=>(IntKind.wrap_u64 _).symm,?_⟩); conv=>whnf)|((first|refine cK (fun _=>CopyFuncT_S f hz) ?_|((try (refine CallW.lent ?_; (conv=>whnf); repeat (refine yb ?_; (conv=>whnf)))); refine cL (fun _=>CopyFuncT_S f hz) ?_)); conv=>whnf)|(refine yt ?_; conv=>whnf)|exact ⟨_,.keep rfl rfl⟩|fail
 refine lp [3] (fun p : LS=>[.i .i64 p.b]) (fun p=>lsO f p.g) (fun p=>LI f p) (fun p=>totI p.g * (p.g.blocks.length + 1) + (p.g.blocks.length - p.b)) ⟨0,f⟩ ⟨Nat.zero_le _,⟨rfl,rfl,rfl⟩,⟨_,Nat.le_refl _,rfl⟩,fun b' i' h=>absurd h (Nat.not_lt_zero _),hs⟩ ?_ fun p hp=>?_
 ·refine eP [] [] ?_ ?_ <;> repeat' first|exact eN|refine And.intro ?_ ?_
  exact fun i _=>teqs_refl _
 conv=>whnf
 obtain ⟨hpb,hpn,⟨n,hn1,hn2⟩,hno,hF⟩ := hp
 have hbl := blocks_le p.g
 have hgz := hF.sz
 have hcl := code_le p.g p.b
 repeat' first|(refine iF (fun hb=>?_) (fun hb=>?_) <;> (try simp only [yv] at hb) <;> (have hc := hb; try simp only [sB,Int.reduceToNat] at hc; try simp only [addZ0] at hc) <;> first|(exfalso; omega)|conv=>whnf)|((first|refine ya ?_|refine yb ?_|refine And.intro ⟨rfl,fun _ _=>rfl⟩ ?_|refine And.intro (⟨⟨rfl,rfl⟩,by omega⟩ : (_ = _ /\ _ = _) /\ _) ?_|refine And.intro (⟨rfl,by omega⟩ : _ = _ /\ _) ?_|refine yc ?_|refine ye ?_|refine yf ?_|refine yi ?_|refine yk ?_|refine dD ?_|refine dF ?_|refine d0 ?_|refine d1 ?_|refine dL ?_|refine dP ?_|refine yl ?_|refine ym ?_|refine yn ?_|refine ⟨_,fun _=>(IntKind.wrap_u64 _).symm,?_⟩); conv=>whnf)|(refine yt ?_; conv=>whnf)|exact ⟨_,.keep rfl rfl⟩|fail
 ·refine lp [24] (fun k : Nat=>[.i .i64 k]) (fun k=>lsO f p.g) (fun k=>k <= lenE p.g p.b /\ ∀ i',i' < k -> (foldF (insE p.g p.b i')).2 = false) (fun k=>lenE p.g p.b - k) 0 ⟨Nat.zero_le _,fun i' h=>absurd h (Nat.not_lt_zero _)⟩ ?_ fun k hk=>?_
  ·refine eP [] [] ?_ ?_ <;> repeat' first|exact eN|refine And.intro ?_ ?_
   exact fun i _=>teqs_refl _
  conv=>whnf
  obtain ⟨hk,hw⟩ := hk
  have hk' : k <= (p.g.blocks.getD p.b Enc.d).code.length := hk
  have hle : lenE p.g p.b = (p.g.blocks.getD p.b Enc.d).code.length := rfl
  have hlt : ∀ h : ((k : Nat) : Int) < ((p.g.blocks.getD p.b Enc.d).code.length : Int),k < (p.g.blocks.getD p.b Enc.d).code.length := fun h=>by omega
  have hil := ins_le p.g p.b k
  have hal := args_le ((p.g.blocks.getD p.b Enc.d).code.getD k Enc.d)
  have hfold : ASpec Tryz.prog 34 [eS ((p.g.blocks.getD p.b Enc.d).code.getD k Enc.d)] (.tup [eS (foldF ((p.g.blocks.getD p.b Enc.d).code.getD k Enc.d)).1,.b (foldF ((p.g.blocks.getD p.b Enc.d).code.getD k Enc.d)).2]) [] := Fold_P _ (by omega) (hF.b p.b k) (hF.f p.b k)
  have hcz : siz (cut p.g p.b k) < 4294967296 := Nat.lt_of_le_of_lt (siz_cut _ _ _) hgz
  have hRep : ASpec Tryz.prog 35 [.agg [.s f.name,eL f.params,.i .i64 f.ret,eL (cut p.g p.b k).blocks],.i .i64 ((p.g.blocks.getD p.b Enc.d).code.getD k Enc.d).reg,eS (foldF ((p.g.blocks.getD p.b Enc.d).code.getD k Enc.d)).1] (.agg [.s f.name,.orow 1011 1 0 f.params.length,.i .i64 f.ret,.orow 1012 1 0 (nextL p.g p.b k).blocks.length]) [(1011,oL f.params),(1012,oT (nextL p.g p.b k).blocks)] := by
   have := Replace_P (cut p.g p.b k) ((p.g.blocks.getD p.b Enc.d).code.getD k Enc.d).reg (foldF ((p.g.blocks.getD p.b Enc.d).code.getD k Enc.d)).1 hcz
   rw [<- hpn.1,<- hpn.2.1,<- hpn.2.2]
   exact this
  repeat' first|(refine iF (fun hb=>?_) (fun hb=>?_) <;> (try simp only [yv] at hb) <;> (have hc := hb; try simp only [sB,Int.reduceToNat] at hc; try simp only [addZ0] at hc) <;> first|(exfalso; omega)|conv=>whnf)|((first|refine ya ?_|refine yb ?_|refine And.intro ⟨rfl,fun _ _=>rfl⟩ ?_|refine And.intro (⟨⟨rfl,rfl⟩,by omega⟩ : (_ = _ /\ _ = _) /\ _) ?_|refine And.intro (⟨rfl,by omega⟩ : _ = _ /\ _) ?_|refine yc ?_|refine ye ?_|refine yf ?_|refine yi ?_|refine yk ?_|refine dE ?_|refine dD ?_|refine dF ?_|refine d0 ?_|refine d1 ?_|refine dL ?_|refine dP ?_|refine yl ?_|refine ym ?_|refine yn ?_|refine ⟨_,fun _=>(IntKind.wrap_u64 _).symm,?_⟩); conv=>whnf)|((first|refine cK (fun _=>hfold) ?_|((try (refine CallW.lent ?_; (conv=>whnf); repeat (refine yb ?_; (conv=>whnf)))); refine cL (fun _=>hfold) ?_)); conv=>whnf)|(refine CallW.own ?_; (conv=>whnf); refine cM (Delete_S 100044 (p.g.blocks.getD p.b Enc.d).code k (hlt (by assumption))) ?_; conv=>whnf)|(refine yt ?_; conv=>whnf)|exact ⟨_,.keep rfl rfl⟩|fail
  ·have hb2 : (foldF ((p.g.blocks.getD p.b Enc.d).code.getD k Enc.d)).2 = false := by simpa using hb
   refine .mk (k + 1) ⟨by omega,fun i' h=>?_⟩ (by omega) ?_
   ·rcases Nat.lt_or_ge i' k with h'|h'
    ·exact hw i' h'
    ·obtain rfl : i' = k := by omega
     exact hb2
   refine eP [] [] ?_ ?_ <;> repeat' first|exact eN|refine And.intro ?_ ?_
   exact fun i _=>teqs_refl _
  ·have hb2 : p.b < p.g.blocks.length := by omega
   have hk2 : k < lenE p.g p.b := by omega
   have hbt : (foldF ((p.g.blocks.getD p.b Enc.d).code.getD k Enc.d)).2 = true := by simpa using hb
   have hst : stepL p.g = some (p.b,k) := stepL_some ⟨⟨hb2,hk2⟩,hbt,fun b' i' h1 h2=>by
    rcases h1 with h1|⟨rfl,h1⟩
    ·exact hno b' i' h1 h2
    ·exact hw i' h1⟩
   have htc := tot_next hb2 hk2
   have hmu : totI p.g * (p.g.blocks.length + 1) = totI (nextL p.g p.b k) * (p.g.blocks.length + 1) + (p.g.blocks.length + 1) := by rw [<- htc,Nat.succ_mul]
   have hcl2 := next_len p.g p.b k
   refine ⟨⟨by rw [List.length_eraseIdx]; exact if_pos (by omega),hb2⟩,?_⟩
   conv=>whnf
   have wkR := wkCut hb2 hk2
   repeat' first|(refine iF (fun hb=>?_) (fun hb=>?_) <;> (try simp only [yv] at hb) <;> (have hc := hb; try simp only [sB,Int.reduceToNat] at hc; try simp only [addZ0] at hc) <;> first|(exfalso; omega)|conv=>whnf)|((first|refine ya ?_|refine yb ?_|refine And.intro ⟨rfl,fun _ _=>rfl⟩ ?_|refine And.intro (⟨⟨rfl,rfl⟩,by omega⟩ : (_ = _ /\ _ = _) /\ _) ?_|refine And.intro (⟨rfl,by omega⟩ : _ = _ /\ _) ?_|refine yc ?_|refine ye ?_|refine yf ?_|refine yi ?_|refine yk ?_|refine dE ?_|refine dD ?_|refine dF ?_|refine d0 ?_|refine d1 ?_|refine dL ?_|refine dP ?_|refine yl ?_|refine ym ?_|refine yn ?_|refine ⟨_,fun _=>(IntKind.wrap_u64 _).symm,?_⟩); conv=>whnf)|(refine yt ?_; conv=>whnf)|exact ⟨_,.keep rfl rfl⟩|fail
   refine CallW.lent ?_
   conv=>whnf
   refine yb ?_
   conv=>whnf
   refine yb ?_
   conv=>whnf
   refine CallL.mk _ _ (fun _=>hRep.weak ⟨⟨rfl,⟨rfl,rfl,fun i _=>⟨⟨rfl,rfl⟩,trivial⟩⟩,⟨rfl,rfl⟩,⟨rfl,(cut_len _ _ _).symm,fun i _=>wkR i⟩,trivial⟩,⟨rfl,rfl⟩,⟨⟨rfl,rfl⟩,⟨rfl,rfl⟩,⟨rfl,rfl⟩,trivial⟩,trivial⟩) rfl flat_rep ?_
   conv=>whnf
   repeat' first|(refine iF (fun hb=>?_) (fun hb=>?_) <;> (try simp only [yv] at hb) <;> (have hc := hb; try simp only [sB,Int.reduceToNat] at hc; try simp only [addZ0] at hc) <;> first|(exfalso; omega)|conv=>whnf)|((first|refine ya ?_|refine yb ?_|refine And.intro ⟨rfl,fun _ _=>rfl⟩ ?_|refine And.intro (⟨⟨rfl,rfl⟩,by omega⟩ : (_ = _ /\ _ = _) /\ _) ?_|refine And.intro (⟨rfl,by omega⟩ : _ = _ /\ _) ?_|refine yc ?_|refine ye ?_|refine yf ?_|refine yi ?_|refine yk ?_|refine dE ?_|refine dD ?_|refine dF ?_|refine d0 ?_|refine d1 ?_|refine dL ?_|refine dP ?_|refine yl ?_|refine ym ?_|refine yn ?_|refine ⟨_,fun _=>(IntKind.wrap_u64 _).symm,?_⟩); conv=>whnf)|(refine yt ?_; conv=>whnf)|exact ⟨_,.keep rfl rfl⟩|fail
   refine .mk ⟨0,nextL p.g p.b k⟩ ⟨Nat.zero_le _,hpn,?_,fun b' i' h=>absurd h (Nat.not_lt_zero _),hF.next hb2⟩ (by show totI (nextL p.g p.b k) * ((nextL p.g p.b k).blocks.length + 1) + ((nextL p.g p.b k).blocks.length - 0) < totI p.g * (p.g.blocks.length + 1) + (p.g.blocks.length - p.b); rw [hcl2]; omega) ?_
   ·cases n with
    | zero=>omega
    | succ n=>exact ⟨n,by show totI (nextL p.g p.b k) <= n; omega,by rw [<- hn2,foldN,hst]⟩
   refine eP [(1001,1011),(1002,1012)] [] ?_ ?_ <;> repeat' first|exact eN|refine And.intro ?_ ?_
   exact fun i _=>teqs_refl _
  ·refine .mk ⟨p.b + 1,p.g⟩ ⟨(by show p.b + 1 <= p.g.blocks.length; omega),hpn,⟨n,hn1,hn2⟩,fun b' i' h1 h2=>?_,hF⟩ (by show totI p.g * (p.g.blocks.length + 1) + (p.g.blocks.length - (p.b + 1)) < totI p.g * (p.g.blocks.length + 1) + (p.g.blocks.length - p.b); omega) ?_
   ·rcases Nat.lt_or_ge b' p.b with h'|h'
    ·exact hno b' i' h' h2
    ·obtain rfl : b' = p.b := by have h1 : b' < p.b + 1 := h1; omega
     have h2 : i' < lenE p.g p.b := h2
     exact hw i' (by omega)
   refine eP [] [] ?_ ?_ <;> repeat' first|exact eN|refine And.intro ?_ ?_
   exact fun i _=>teqs_refl _
 ·have hnd : noL p.g := fun b i hi=>hno b i (by
   have := len_blk hi
   omega) hi
  have e : foldAll f = p.g := by
   rw [<- hn2]
   cases n with
   | zero=>rfl
   | succ n=>rw [foldN,stepL_none hnd]
  rw [e]
  exact ⟨_,.agg (.cons (.keep rfl rfl) (.cons (.give rfl rfl rfl (fun _ _=>rfl) rfl) (.cons (.keep rfl rfl) (.cons (.giveT rfl rfl rfl (fun _ _=>teqs_refl _) rfl) .nil (nodupB_ok rfl)) (nodupB_ok rfl)) (nodupB_ok rfl)) (nodupB_ok rfl))⟩

def preN (g : Nat -> Nat) : Nat -> Nat
 | 0=>0
 | q + 1=>preN g q + g q
theorem preN_mono {g : Nat -> Nat} {q : Nat} : ∀ {k : Nat},q <= k -> preN g q <= preN g k
 | 0,h=>by rw [show q = 0 by omega]; exact Nat.le_refl _
 | k + 1,h=>by
  rcases Nat.lt_or_ge q (k + 1) with h2|h2
  ·have := preN_mono (g := g) (q := q) (k := k) (by omega); rw [preN]; omega
  ·rw [show q = k + 1 by omega]; exact Nat.le_refl _
theorem preN_in {g : Nat -> Nat} {q k : Nat} (h : q < k) : preN g q + g q <= preN g k := preN_mono (g := g) (q := q + 1) h
theorem preN_shift (g : Nat -> Nat) : ∀ q,preN g (q + 1) = g 0 + preN (fun i=>g (i + 1)) q
 | 0=>by simp [preN]
 | q + 1=>by rw [preN,preN_shift g q,preN]; omega
theorem preN_siz {α : Type} [Enc α] [Siz α] (g : α -> Nat) (hg : ∀ x,g x <= siz x) : ∀ l : List α,l.length + preN (fun i=>g (l.getD i Enc.d)) l.length <= siz l
 | []=>Nat.le_refl _
 | x :: l=>by
  have h1 := preN_siz g hg l
  have e : siz (x :: l) = l.length + 1 + (siz x + (l.map siz).sum) := rfl
  have e2 : siz l = l.length + (l.map siz).sum := rfl
  have h2 := hg x
  rw [List.length_cons,preN_shift]
  show l.length + 1 + (g x + preN (fun i=>g (l.getD i Enc.d)) l.length) <= _
  omega
def insQ (x : InsE) : Nat := x.args.length + x.to.length
def blkQ (y : BlkE) : Nat := y.code.length + preN (fun k=>insQ (y.code.getD k Enc.d)) y.code.length
def fnQ (f : FnE) : Nat := f.params.length + f.blocks.length + preN (fun b=>blkQ (f.blocks.getD b Enc.d)) f.blocks.length
def extQ (x : ExtE) : Nat := x.params.length
def modQ (m : ModE) : Nat := m.vars.length + m.exts.length + m.funcs.length + preN (fun i=>extQ (m.exts.getD i Enc.d)) m.exts.length + preN (fun i=>fnQ (m.funcs.getD i Enc.d)) m.funcs.length
theorem insQ_le (x : InsE) : insQ x <= siz x := by
 have h1 := len_siz x.args; have h2 := len_siz x.to
 have e : siz x = siz x.args + siz x.to := rfl
 unfold insQ; omega
theorem blkQ_le (y : BlkE) : blkQ y <= siz y := preN_siz insQ insQ_le y.code
theorem fnQ_le (f : FnE) : fnQ f <= siz f := by
 have h1 := len_siz f.params
 have h2 := preN_siz blkQ blkQ_le f.blocks
 have e : siz f = siz f.name + siz f.params + siz f.blocks := rfl
 unfold fnQ; omega
theorem extQ_le (x : ExtE) : extQ x <= siz x := by
 have h1 := len_siz x.params
 have e : siz x = siz x.name + siz x.params := rfl
 unfold extQ; omega
theorem modQ_le (m : ModE) : modQ m <= siz m := by
 have h1 := len_siz m.vars
 have h2 := preN_siz extQ extQ_le m.exts
 have h3 := preN_siz fnQ fnQ_le m.funcs
 have e : siz m = siz m.vars + siz m.exts + siz m.funcs := rfl
 unfold modQ; omega
theorem Few_S (m : ModE) (most : Int) (hm : siz m < 4294967296) : ASpec Tryz.prog 16 [eS m,.i .i64 most] (.b (decide ((modQ m : Int) <= most))) [] := by
 have h0 := modQ_le m
 have e0 : modQ m = m.vars.length + m.exts.length + m.funcs.length + preN (fun i=>extQ (m.exts.getD i Enc.d)) m.exts.length + preN (fun i=>fnQ (m.funcs.getD i Enc.d)) m.funcs.length := rfl
 refine ASpec.enter TYok mixed Tryz.func16 rfl Tryz.call16 Tryz.ntmps16 rfl (rs := [.tmp 4]) rfl (nodupB_ok rfl) (Clo.one rfl) (keep := [0,1,2,4,5,7,9,11,13,26,27,28,39,40,41,55,56,57,67,68,69]) ?_; conv=>whnf
 repeat' first|(refine iF (fun hb=>?_) (fun hb=>?_) <;> (try simp only [yv] at hb) <;> (have hc := hb; try simp only [sB,Int.reduceToNat] at hc; try simp only [addZ0] at hc) <;> first|(exfalso; omega)|conv=>whnf)|((first|refine ya ?_|refine yb ?_|refine yc ?_|refine yd ?_|refine yf ?_|refine yh ?_|refine yj ?_|refine dD ?_|refine dF ?_|refine d0 ?_|refine d1 ?_|refine dL ?_|refine dP ?_|refine yl ?_|refine ym ?_|refine yn ?_|refine ⟨_,fun _=>(IntKind.wrap_u64 _).symm,?_⟩); conv=>whnf)|(refine yt ?_; conv=>whnf)|exact ⟨_,.keep rfl rfl⟩|fail
 let N0 := m.vars.length + m.exts.length + m.funcs.length
 refine lp [28,5] (fun q : Nat=>[.i .i64 q,.i .i64 (N0 + preN (fun i=>extQ (m.exts.getD i Enc.d)) q : Nat)]) (fun q=>[(2,bx m)]) (fun q=>q <= m.exts.length) (fun q=>m.exts.length - q) 0 (by omega) ?_ fun q hq=>?_
 ·refine eP [] [] ?_ ?_ <;> repeat' first|exact eN|refine And.intro ?_ ?_
 conv=>whnf
 rcases Nat.lt_or_ge q m.exts.length with hlt|hge
 ·have p1 : preN (fun i=>extQ (m.exts.getD i Enc.d)) q + extQ (m.exts.getD q Enc.d) <= preN (fun i=>extQ (m.exts.getD i Enc.d)) m.exts.length := preN_in hlt
  have p2 : extQ (m.exts.getD q Enc.d) = (m.exts.getD q Enc.d).params.length := rfl
  repeat' first|(refine iF (fun hb=>?_) (fun hb=>?_) <;> (try simp only [yv] at hb) <;> (have hc := hb; try simp only [sB,Int.reduceToNat] at hc; try simp only [addZ0] at hc) <;> first|(exfalso; omega)|conv=>whnf)|((first|refine ya ?_|refine yb ?_|refine yc ?_|refine yd ?_|refine yf ?_|refine yh ?_|refine yj ?_|refine dD ?_|refine dF ?_|refine d0 ?_|refine d1 ?_|refine dL ?_|refine dP ?_|refine yl ?_|refine ym ?_|refine yn ?_|refine ⟨_,fun _=>(IntKind.wrap_u64 _).symm,?_⟩); conv=>whnf)|(refine yt ?_; conv=>whnf)|exact ⟨_,.keep rfl rfl⟩|fail
  refine .mk (q + 1) (by omega) (by omega) ?_
  have e : preN (fun i=>extQ (m.exts.getD i Enc.d)) (q + 1) = preN (fun i=>extQ (m.exts.getD i Enc.d)) q + extQ (m.exts.getD q Enc.d) := rfl
  refine eP [] [] ?_ ?_ <;> repeat' first|exact eN|refine And.intro ?_ ?_
 obtain rfl : q = m.exts.length := by omega
 repeat' first|(refine iF (fun hb=>?_) (fun hb=>?_) <;> (try simp only [yv] at hb) <;> (have hc := hb; try simp only [sB,Int.reduceToNat] at hc; try simp only [addZ0] at hc) <;> first|(exfalso; omega)|conv=>whnf)|((first|refine ya ?_|refine yb ?_|refine yc ?_|refine yd ?_|refine yf ?_|refine yh ?_|refine yj ?_|refine dD ?_|refine dF ?_|refine d0 ?_|refine d1 ?_|refine dL ?_|refine dP ?_|refine yl ?_|refine ym ?_|refine yn ?_|refine ⟨_,fun _=>(IntKind.wrap_u64 _).symm,?_⟩); conv=>whnf)|(refine yt ?_; conv=>whnf)|exact ⟨_,.keep rfl rfl⟩|fail
 let N1 := N0 + preN (fun i=>extQ (m.exts.getD i Enc.d)) m.exts.length
 refine lp [41,5] (fun q : Nat=>[.i .i64 q,.i .i64 (N1 + preN (fun i=>fnQ (m.funcs.getD i Enc.d)) q : Nat)]) (fun q=>[(2,bx m)]) (fun q=>q <= m.funcs.length) (fun q=>m.funcs.length - q) 0 (by omega) ?_ fun j hj=>?_
 ·refine eP [] [] ?_ ?_ <;> repeat' first|exact eN|refine And.intro ?_ ?_
 conv=>whnf
 rcases Nat.lt_or_ge j m.funcs.length with hlt|hge
 ·have p1 : preN (fun i=>fnQ (m.funcs.getD i Enc.d)) j + fnQ (m.funcs.getD j Enc.d) <= preN (fun i=>fnQ (m.funcs.getD i Enc.d)) m.funcs.length := preN_in hlt
  have p2 : fnQ (m.funcs.getD j Enc.d) = (m.funcs.getD j Enc.d).params.length + (m.funcs.getD j Enc.d).blocks.length + preN (fun b=>blkQ ((m.funcs.getD j Enc.d).blocks.getD b Enc.d)) (m.funcs.getD j Enc.d).blocks.length := rfl
  let N2 := N1 + preN (fun i=>fnQ (m.funcs.getD i Enc.d)) j + ((m.funcs.getD j Enc.d).params.length + (m.funcs.getD j Enc.d).blocks.length)
  repeat' first|(refine iF (fun hb=>?_) (fun hb=>?_) <;> (try simp only [yv] at hb) <;> (have hc := hb; try simp only [sB,Int.reduceToNat] at hc; try simp only [addZ0] at hc) <;> first|(exfalso; omega)|conv=>whnf)|((first|refine ya ?_|refine yb ?_|refine yc ?_|refine yd ?_|refine yf ?_|refine yh ?_|refine yj ?_|refine dD ?_|refine dF ?_|refine d0 ?_|refine d1 ?_|refine dL ?_|refine dP ?_|refine yl ?_|refine ym ?_|refine yn ?_|refine ⟨_,fun _=>(IntKind.wrap_u64 _).symm,?_⟩); conv=>whnf)|(refine yt ?_; conv=>whnf)|exact ⟨_,.keep rfl rfl⟩|fail
  refine lp [57,5] (fun q : Nat=>[.i .i64 q,.i .i64 (N2 + preN (fun b=>blkQ ((m.funcs.getD j Enc.d).blocks.getD b Enc.d)) q : Nat)]) (fun q=>[(2,bx m),(9,bx (m.funcs.getD j Enc.d))]) (fun q=>q <= (m.funcs.getD j Enc.d).blocks.length) (fun q=>(m.funcs.getD j Enc.d).blocks.length - q) 0 (by omega) ?_ fun b hb0=>?_
  ·refine eP [] [] ?_ ?_ <;> repeat' first|exact eN|refine And.intro ?_ ?_
  conv=>whnf
  rcases Nat.lt_or_ge b (m.funcs.getD j Enc.d).blocks.length with hlb|hgb
  ·have q1 : preN (fun b=>blkQ ((m.funcs.getD j Enc.d).blocks.getD b Enc.d)) b + blkQ ((m.funcs.getD j Enc.d).blocks.getD b Enc.d) <= preN (fun b=>blkQ ((m.funcs.getD j Enc.d).blocks.getD b Enc.d)) (m.funcs.getD j Enc.d).blocks.length := preN_in hlb
   have q2 : blkQ ((m.funcs.getD j Enc.d).blocks.getD b Enc.d) = ((m.funcs.getD j Enc.d).blocks.getD b Enc.d).code.length + preN (fun k=>insQ (((m.funcs.getD j Enc.d).blocks.getD b Enc.d).code.getD k Enc.d)) ((m.funcs.getD j Enc.d).blocks.getD b Enc.d).code.length := rfl
   let N3 := N2 + preN (fun b=>blkQ ((m.funcs.getD j Enc.d).blocks.getD b Enc.d)) b + ((m.funcs.getD j Enc.d).blocks.getD b Enc.d).code.length
   repeat' first|(refine iF (fun hb=>?_) (fun hb=>?_) <;> (try simp only [yv] at hb) <;> (have hc := hb; try simp only [sB,Int.reduceToNat] at hc; try simp only [addZ0] at hc) <;> first|(exfalso; omega)|conv=>whnf)|((first|refine ya ?_|refine yb ?_|refine yc ?_|refine yd ?_|refine yf ?_|refine yh ?_|refine yj ?_|refine dD ?_|refine dF ?_|refine d0 ?_|refine d1 ?_|refine dL ?_|refine dP ?_|refine yl ?_|refine ym ?_|refine yn ?_|refine ⟨_,fun _=>(IntKind.wrap_u64 _).symm,?_⟩); conv=>whnf)|(refine yt ?_; conv=>whnf)|exact ⟨_,.keep rfl rfl⟩|fail
   refine lp [69,5] (fun q : Nat=>[.i .i64 q,.i .i64 (N3 + preN (fun k=>insQ (((m.funcs.getD j Enc.d).blocks.getD b Enc.d).code.getD k Enc.d)) q : Nat)]) (fun q=>[(2,bx m),(9,bx (m.funcs.getD j Enc.d)),(11,bx ((m.funcs.getD j Enc.d).blocks.getD b Enc.d))]) (fun q=>q <= ((m.funcs.getD j Enc.d).blocks.getD b Enc.d).code.length) (fun q=>((m.funcs.getD j Enc.d).blocks.getD b Enc.d).code.length - q) 0 (by omega) ?_ fun n hn2=>?_
   ·refine eP [] [] ?_ ?_ <;> repeat' first|exact eN|refine And.intro ?_ ?_
   conv=>whnf
   rcases Nat.lt_or_ge n ((m.funcs.getD j Enc.d).blocks.getD b Enc.d).code.length with hln|hgn
   ·have r1 : preN (fun k=>insQ (((m.funcs.getD j Enc.d).blocks.getD b Enc.d).code.getD k Enc.d)) n + insQ (((m.funcs.getD j Enc.d).blocks.getD b Enc.d).code.getD n Enc.d) <= preN (fun k=>insQ (((m.funcs.getD j Enc.d).blocks.getD b Enc.d).code.getD k Enc.d)) ((m.funcs.getD j Enc.d).blocks.getD b Enc.d).code.length := preN_in hln
    have r2 : insQ (((m.funcs.getD j Enc.d).blocks.getD b Enc.d).code.getD n Enc.d) = (((m.funcs.getD j Enc.d).blocks.getD b Enc.d).code.getD n Enc.d).args.length + (((m.funcs.getD j Enc.d).blocks.getD b Enc.d).code.getD n Enc.d).to.length := rfl
    repeat' first|(refine iF (fun hb=>?_) (fun hb=>?_) <;> (try simp only [yv] at hb) <;> (have hc := hb; try simp only [sB,Int.reduceToNat] at hc; try simp only [addZ0] at hc) <;> first|(exfalso; omega)|conv=>whnf)|((first|refine ya ?_|refine yb ?_|refine yc ?_|refine yd ?_|refine yf ?_|refine yh ?_|refine yj ?_|refine dD ?_|refine dF ?_|refine d0 ?_|refine d1 ?_|refine dL ?_|refine dP ?_|refine yl ?_|refine ym ?_|refine yn ?_|refine ⟨_,fun _=>(IntKind.wrap_u64 _).symm,?_⟩); conv=>whnf)|(refine yt ?_; conv=>whnf)|exact ⟨_,.keep rfl rfl⟩|fail
    ·exact ⟨_,.keep (by rw [decide_eq_false]; omega) rfl⟩
    ·refine .mk (n + 1) (by omega) (by omega) ?_
     have e : preN (fun k=>insQ (((m.funcs.getD j Enc.d).blocks.getD b Enc.d).code.getD k Enc.d)) (n + 1) = preN (fun k=>insQ (((m.funcs.getD j Enc.d).blocks.getD b Enc.d).code.getD k Enc.d)) n + insQ (((m.funcs.getD j Enc.d).blocks.getD b Enc.d).code.getD n Enc.d) := rfl
     refine eP [] [] ?_ ?_ <;> repeat' first|exact eN|refine And.intro ?_ ?_
   ·obtain rfl : n = ((m.funcs.getD j Enc.d).blocks.getD b Enc.d).code.length := by omega
    repeat' first|(refine iF (fun hb=>?_) (fun hb=>?_) <;> (try simp only [yv] at hb) <;> (have hc := hb; try simp only [sB,Int.reduceToNat] at hc; try simp only [addZ0] at hc) <;> first|(exfalso; omega)|conv=>whnf)|((first|refine ya ?_|refine yb ?_|refine yc ?_|refine yd ?_|refine yf ?_|refine yh ?_|refine yj ?_|refine dD ?_|refine dF ?_|refine d0 ?_|refine d1 ?_|refine dL ?_|refine dP ?_|refine yl ?_|refine ym ?_|refine yn ?_|refine ⟨_,fun _=>(IntKind.wrap_u64 _).symm,?_⟩); conv=>whnf)|(refine yt ?_; conv=>whnf)|exact ⟨_,.keep rfl rfl⟩|fail
    refine .mk (b + 1) (by omega) (by omega) ?_
    have e : preN (fun b=>blkQ ((m.funcs.getD j Enc.d).blocks.getD b Enc.d)) (b + 1) = preN (fun b=>blkQ ((m.funcs.getD j Enc.d).blocks.getD b Enc.d)) b + blkQ ((m.funcs.getD j Enc.d).blocks.getD b Enc.d) := rfl
    refine eP [] [] ?_ ?_ <;> repeat' first|exact eN|refine And.intro ?_ ?_
  ·obtain rfl : b = (m.funcs.getD j Enc.d).blocks.length := by omega
   repeat' first|(refine iF (fun hb=>?_) (fun hb=>?_) <;> (try simp only [yv] at hb) <;> (have hc := hb; try simp only [sB,Int.reduceToNat] at hc; try simp only [addZ0] at hc) <;> first|(exfalso; omega)|conv=>whnf)|((first|refine ya ?_|refine yb ?_|refine yc ?_|refine yd ?_|refine yf ?_|refine yh ?_|refine yj ?_|refine dD ?_|refine dF ?_|refine d0 ?_|refine d1 ?_|refine dL ?_|refine dP ?_|refine yl ?_|refine ym ?_|refine yn ?_|refine ⟨_,fun _=>(IntKind.wrap_u64 _).symm,?_⟩); conv=>whnf)|(refine yt ?_; conv=>whnf)|exact ⟨_,.keep rfl rfl⟩|fail
   refine .mk (j + 1) (by omega) (by omega) ?_
   have e : preN (fun i=>fnQ (m.funcs.getD i Enc.d)) (j + 1) = preN (fun i=>fnQ (m.funcs.getD i Enc.d)) j + fnQ (m.funcs.getD j Enc.d) := rfl
   refine eP [] [] ?_ ?_ <;> repeat' first|exact eN|refine And.intro ?_ ?_
 ·obtain rfl : j = m.funcs.length := by omega
  repeat' first|(refine iF (fun hb=>?_) (fun hb=>?_) <;> (try simp only [yv] at hb) <;> (have hc := hb; try simp only [sB,Int.reduceToNat] at hc; try simp only [addZ0] at hc) <;> first|(exfalso; omega)|conv=>whnf)|((first|refine ya ?_|refine yb ?_|refine yc ?_|refine yd ?_|refine yf ?_|refine yh ?_|refine yj ?_|refine dD ?_|refine dF ?_|refine d0 ?_|refine d1 ?_|refine dL ?_|refine dP ?_|refine yl ?_|refine ym ?_|refine yn ?_|refine ⟨_,fun _=>(IntKind.wrap_u64 _).symm,?_⟩); conv=>whnf)|(refine yt ?_; conv=>whnf)|exact ⟨_,.keep rfl rfl⟩|fail
theorem ExtE.ext3 : ∀ {x y : ExtE},x.name = y.name -> x.params = y.params -> x.ret = y.ret -> x = y
 | ⟨_,_,_⟩,⟨_,_,_⟩,rfl,rfl,rfl=>rfl
theorem ModE.ext3 : ∀ {x y : ModE},x.vars = y.vars -> x.exts = y.exts -> x.funcs = y.funcs -> x = y
 | ⟨_,_,_⟩,⟨_,_,_⟩,rfl,rfl,rfl=>rfl
theorem has_S (l : List Int) (x : Int) (hl : l.length < 9223372036854775807) : ASpec Tryz.prog 119 [eL l,.i .i64 x] (.b (l.contains x)) [] := by
 refine ASpec.enter TYok mixed Tryz.func119 rfl Tryz.call119 Tryz.ntmps119 rfl (rs := [.tmp 4]) rfl (nodupB_ok rfl) (Clo.one rfl) (keep := [0,1,4,5]) ?_; conv=>whnf
 refine lp [5] (fun q : Nat=>[.i .i64 q]) (fun q=>[]) (fun q=>q <= l.length /\ l.contains x = (l.drop q).contains x) (fun q=>l.length - q) 0 ⟨by omega,rfl⟩ ?_ fun q hq=>?_
 ·exact Ent.lp [] [] rfl rfl rfl (And.intro rfl trivial) trivial
 conv=>whnf
 obtain ⟨hq,hv⟩ := hq
 repeat' first|(refine iF (fun hb=>?_) (fun hb=>?_) <;> (try simp only [yv] at hb) <;> (have hc := hb; try simp only [sB,Int.reduceToNat] at hc; try simp only [addZ0] at hc) <;> first|(exfalso; omega)|conv=>whnf)|((first|refine ya ?_|refine yb ?_|refine yc ?_|refine yd ?_|refine yf ?_|refine yh ?_|refine yj ?_|refine dD ?_|refine dF ?_|refine d0 ?_|refine d1 ?_|refine dL ?_|refine dP ?_|refine yl ?_|refine ym ?_|refine yn ?_|refine ⟨_,fun _=>(IntKind.wrap_u64 _).symm,?_⟩); conv=>whnf)|(refine yt ?_; conv=>whnf)|exact ⟨_,.keep rfl rfl⟩|fail
 ·exact ⟨_,.keep (congrArg AV.b (by rw [hv,contains_drop x (by omega)]; simp at hc; simp [hc])) rfl⟩
 ·refine .mk (q + 1) ⟨by omega,?_⟩ (by omega) (Ent.lp [] [] rfl rfl rfl (And.intro rfl trivial) trivial)
  rw [hv,contains_drop x (by omega)]; simp at hc; simp [hc]
 ·exact ⟨_,.keep (congrArg AV.b (by rw [hv,List.drop_eq_nil_of_le (by omega)]; rfl)) rfl⟩
def sucStep (n : Int) (l : List Int) (t : Int) : List Int := bif decide (0 <= t) && decide (t < n) && !l.contains t then l ++ [t] else l
def Succs (f : FnE) (b : Int) : List Int :=
 if b < 0 \/ (f.blocks.length : Int) <= b then [] else
 let c := (f.blocks.getD b.toNat Enc.d).code
 if c.length = 0 then [] else
 let x := c.getD ((c.length : Int) - 1).toNat Enc.d
 if x.op ≠ 31 /\ x.op ≠ 32 then [] else x.to.foldl (sucStep f.blocks.length) []
theorem sucStep_len (n : Int) : ∀ (l a : List Int),(l.foldl (sucStep n) a).length <= a.length + l.length
 | [],a=>Nat.le_refl _
 | t :: l,a=>by
  have h := sucStep_len n l (sucStep n a t)
  have : (sucStep n a t).length <= a.length + 1 := by
   unfold sucStep; cases decide (0 <= t) && decide (t < n) && !a.contains t
   ·exact Nat.le_succ _
   ·rw [cond_true,List.length_append]; exact Nat.le_refl _
  rw [List.foldl_cons,List.length_cons]; omega
theorem Succs_S (d : Nat) (f : FnE) (b : Int) (hs : siz f < 4294967296) : ASpec Tryz.prog 79 [eS f,.i .i64 b] (.orow d 1 0 (Succs f b).length) [(d,oL (Succs f b))] := by
 have h1 := blocks_le f
 have h2 := code_le f b.toNat
 refine ASpec.enter TYok mixed Tryz.func79 rfl Tryz.call79 Tryz.ntmps79 rfl (rs := [.tmp 4]) rfl (nd1 _) (Clo.row) (keep := [0,1,2,4,5,6,7,8,9]) ?_; conv=>whnf
 repeat' first|(refine iF (fun hb=>?_) (fun hb=>?_) <;> (try simp only [yv] at hb) <;> (have hc := hb; try simp only [sB,Int.reduceToNat] at hc; try simp only [addZ0] at hc) <;> first|(exfalso; omega)|conv=>whnf)|((first|refine ya ?_|refine yb ?_|refine yc ?_|refine yd ?_|refine yf ?_|refine yh ?_|refine yj ?_|refine dD ?_|refine dF ?_|refine d0 ?_|refine d1 ?_|refine dL ?_|refine dP ?_|refine yl ?_|refine ym ?_|refine yn ?_|refine ⟨_,fun _=>(IntKind.wrap_u64 _).symm,?_⟩); conv=>whnf)|(refine yt ?_; conv=>whnf)|exact ⟨_,.keep rfl rfl⟩|fail
 ·exact ⟨_,.nil (by simp [Succs,hc])⟩
 ·exact ⟨_,.nil (by rw [Succs,if_neg (by omega),if_pos (by omega)]; rfl)⟩
 ·exact ⟨_,.nil (by rw [Succs,if_neg (by omega),if_neg (by omega),if_pos (by omega)]; rfl)⟩
 generalize hx : (f.blocks.getD b.toNat Enc.d).code.getD (((f.blocks.getD b.toNat Enc.d).code.length : Int) - 1).toNat Enc.d = x at *
 have h3 : siz x <= siz f := hx ▸ ins_le f _ _
 have h4 := to_le x
 let acc (q : Nat) := (x.to.take q).foldl (sucStep f.blocks.length) []
 have h5 : ∀ q,q <= x.to.length -> (acc q).length <= q := fun q hq=>by have := sucStep_len f.blocks.length (x.to.take q) []; rw [List.length_take,Nat.min_eq_left hq] at this; simpa using this
 refine lp [8,5] (fun q : Nat=>[.i .i64 q,.orow 5 1 0 (acc q).length]) (fun q=>[(5,oL (acc q)),(2,bx f),(7,bx x)]) (fun q=>q <= x.to.length) (fun q=>x.to.length - q) 0 (by omega) ?_ fun q hq=>?_
 ·refine eP [] [5] ?_ ?_ <;> repeat' first|exact eN|refine And.intro ?_ ?_
 conv=>whnf
 have h6 := h5 q hq
 repeat' first|(refine iF (fun hb=>?_) (fun hb=>?_) <;> (try simp only [yv] at hb) <;> (have hc := hb; try simp only [sB,Int.reduceToNat] at hc; try simp only [addZ0] at hc) <;> first|(exfalso; omega)|conv=>whnf)|((first|refine ya ?_|refine yb ?_|refine yc ?_|refine yd ?_|refine yf ?_|refine yh ?_|refine yj ?_|refine dD ?_|refine dF ?_|refine d0 ?_|refine d1 ?_|refine dL ?_|refine dP ?_|refine yl ?_|refine ym ?_|refine yn ?_|refine ⟨_,fun _=>(IntKind.wrap_u64 _).symm,?_⟩); conv=>whnf)|(refine yt ?_; conv=>whnf)|exact ⟨_,.keep rfl rfl⟩|fail
 ·(try (first|refine yt ?_|refine CallW.lent ?_); (conv=>whnf)); (repeat (refine yb ?_; (conv=>whnf))); (first|refine cK (fun _=>has_S (acc q) _ (by omega)) ?_|refine cL (fun _=>has_S (acc q) _ (by omega)) ?_); conv=>whnf
  repeat' first|(refine iF (fun hb=>?_) (fun hb=>?_) <;> (try simp only [yv] at hb) <;> (have hc := hb; try simp only [sB,Int.reduceToNat] at hc; try simp only [addZ0] at hc) <;> first|(exfalso; omega)|conv=>whnf)|((first|refine ya ?_|refine yb ?_|refine yc ?_|refine yd ?_|refine yf ?_|refine yh ?_|refine yj ?_|refine dD ?_|refine dF ?_|refine d0 ?_|refine d1 ?_|refine dL ?_|refine dP ?_|refine yl ?_|refine ym ?_|refine yn ?_|refine ⟨_,fun _=>(IntKind.wrap_u64 _).symm,?_⟩); conv=>whnf)|(refine yt ?_; conv=>whnf)|exact ⟨_,.keep rfl rfl⟩|fail
  ·have e : acc (q + 1) = acc q ++ [x.to.getD q Enc.d] := (foldl_take (d := Enc.d) (by omega)).trans (congrArg (fun c=>bif c then _ else _) hb)
   refine .mk (q + 1) (by omega) (by omega) ?_
   refine eP [(5,87)] [] ?_ ?_ <;> repeat' first|exact eN|refine And.intro ?_ ?_|exact snoc_len e|exact snoc_get e rfl|rw [e]
  ·have e : acc (q + 1) = acc q := (foldl_take (d := Enc.d) (by omega)).trans (congrArg (fun c=>bif c then _ else _) hb)
   refine .mk (q + 1) (by omega) (by omega) ?_
   rw [<- e]
   refine eP [] [] ?_ ?_ <;> repeat' first|exact eN|refine And.intro ?_ ?_
 ·have e : acc q = Succs f b := by rw [Succs,if_neg (by omega),if_neg (by omega),hx,if_neg (by omega)]; simp only [acc]; rw [List.take_of_length_le (by omega)]
  exact ⟨_,.give rfl rfl (by rw [e]) (by rw [e]; exact fun _ _=>rfl) rfl⟩
theorem sucStep_mem {n : Int} : ∀ {l a : List Int},(∀ x ∈ a,0 <= x /\ x < n) -> ∀ x ∈ l.foldl (sucStep n) a,0 <= x /\ x < n
 | [],a,h,x,hx=>h x hx
 | t :: l,a,h,x,hx=>by
  rw [List.foldl_cons] at hx
  refine sucStep_mem (l := l) (fun y hy=>?_) x hx
  unfold sucStep at hy
  by_cases hc : (decide (0 <= t) && decide (t < n) && !a.contains t) = true
  ·rw [hc,cond_true,List.mem_append] at hy
   rcases hy with hy|hy
   ·exact h y hy
   ·rw [List.mem_singleton] at hy; subst hy
    simp only [Bool.and_eq_true,decide_eq_true_eq] at hc
    exact ⟨hc.1.1,hc.1.2⟩
  ·rw [Bool.not_eq_true] at hc
   rw [hc,cond_false] at hy; exact h y hy
theorem sucStep_nd {n : Int} : ∀ {l a : List Int},a.Nodup -> (l.foldl (sucStep n) a).Nodup
 | [],a,h=>h
 | t :: l,a,h=>by
  rw [List.foldl_cons]
  refine sucStep_nd (l := l) ?_
  unfold sucStep
  by_cases hc : (decide (0 <= t) && decide (t < n) && !a.contains t) = true
  ·rw [hc,cond_true]
   simp only [Bool.and_eq_true,Bool.not_eq_true',List.contains_eq_mem,decide_eq_false_iff_not] at hc
   exact List.nodup_append.2 ⟨h,by simp,fun x hx y hy e=>by rw [List.mem_singleton] at hy; subst hy; subst e; exact hc.2 hx⟩
  ·rw [Bool.not_eq_true] at hc
   rw [hc,cond_false]; exact h
theorem Succs_mem {f : FnE} {b x : Int} (h : x ∈ Succs f b) : 0 <= x /\ x < f.blocks.length := by
 unfold Succs at h
 dsimp only at h
 split at h
 ·cases h
 ·split at h
  ·cases h
  ·split at h
   ·cases h
   ·exact sucStep_mem (fun y hy=>by cases hy) x h
theorem Succs_nd (f : FnE) (b : Int) : (Succs f b).Nodup := by
 unfold Succs
 dsimp only
 split
 ·exact List.nodup_nil
 ·split
  ·exact List.nodup_nil
  ·split
   ·exact List.nodup_nil
   ·exact sucStep_nd List.nodup_nil
def cnt (f : FnE) (t : Int) (k : Nat) : List Int := (List.range k).flatMap fun c : Nat=>List.replicate ((Succs f (c : Int)).count t) (c : Int)
def prow (f : FnE) (b i : Nat) (t : Int) : List Int := cnt f t b ++ List.replicate (((Succs f b).take i).count t) (b : Int)
theorem cnt_len (f : FnE) (t : Int) : ∀ k,(cnt f t k).length <= k
 | 0=>Nat.le_refl _
 | k + 1=>by
  have h := cnt_len f t k
  have h2 : (Succs f k).count t <= 1 := List.nodup_iff_count.1 (Succs_nd f k) t
  unfold cnt at h ⊢
  rw [List.range_succ,List.flatMap_append,List.length_append]
  simp only [List.flatMap_cons,List.flatMap_nil,List.append_nil,List.length_replicate]
  omega
theorem prow_len (f : FnE) (b i : Nat) (t : Int) : (prow f b i t).length <= b + 1 := by
 have h := cnt_len f t b
 have h2 : (Succs f b).count t <= 1 := List.nodup_iff_count.1 (Succs_nd f b) t
 have h3 : ((Succs f b).take i).count t <= (Succs f b).count t := (List.take_sublist i _).count_le t
 unfold prow
 rw [List.length_append,List.length_replicate]
 omega
theorem prow_zero (f : FnE) (b : Nat) (t : Int) : prow f b 0 t = cnt f t b := by
 unfold prow; simp
theorem prow_all (f : FnE) (b i : Nat) (t : Int) (h : (Succs f b).length <= i) : prow f b i t = cnt f t (b + 1) := by
 unfold prow cnt
 rw [List.take_of_length_le h,List.range_succ,List.flatMap_append]
 simp
theorem prow_succ (f : FnE) (b i : Nat) (t : Int) (h : i < (Succs f b).length) : prow f b (i + 1) t = if t = (Succs f b)[i] then prow f b i t ++ [(b : Int)] else prow f b i t := by
 unfold prow
 rw [List.take_add_one,List.getElem?_eq_getElem h,List.count_append]
 simp only [Option.toList_some,List.count_singleton,beq_iff_eq]
 by_cases hc : t = (Succs f b)[i]
 ·subst hc; simp [List.replicate_succ',List.append_assoc]
 ·have : ¬ (Succs f b)[i] = t := fun e=>hc e.symm
  simp [hc,this]
theorem Succs_len (f : FnE) (b : Int) : (Succs f b).length <= siz f := by
 unfold Succs
 dsimp only
 split
 ·exact Nat.zero_le _
 ·split
  ·exact Nat.zero_le _
  ·split
   ·exact Nat.zero_le _
   ·refine Nat.le_trans (sucStep_len _ _ _) ?_
    rw [List.length_nil,Nat.zero_add]
    exact Nat.le_trans (to_le _) (ins_le f _ _)
theorem Preds_S (f : FnE) (hs : siz f < 4294967296) : ASpec Tryz.prog 77 [eS f] (.orow 12 1 0 f.blocks.length) [(12,.tree 1 f.blocks.length fun t=>[eL (cnt f t f.blocks.length)])] := by
 have h1 := blocks_le f
 refine ASpec.enter TYok mixed Tryz.func77 rfl Tryz.call77 Tryz.ntmps77 rfl (rs := [.tmp 2]) rfl (nd1 _) (Clo.tree) (keep := [0,1,2,3,4,5,6,7]) ?_; conv=>whnf
 repeat' first|(refine iF (fun hb=>?_) (fun hb=>?_) <;> (try simp only [yv] at hb) <;> (have hc := hb; try simp only [sB,Int.reduceToNat] at hc; try simp only [addZ0] at hc) <;> first|(exfalso; omega)|conv=>whnf)|((first|refine ya ?_|refine yb ?_|refine yc ?_|refine yd ?_|refine yf ?_|refine yh ?_|refine yj ?_|refine dD ?_|refine dF ?_|refine d0 ?_|refine d1 ?_|refine dL ?_|refine dP ?_|refine yl ?_|refine ym ?_|refine yn ?_|refine ⟨_,fun _=>(IntKind.wrap_u64 _).symm,?_⟩); conv=>whnf)|(refine yt ?_; conv=>whnf)|exact ⟨_,.keep rfl rfl⟩|fail
 refine lp [5] (fun b : Nat=>[.i .i64 b]) (fun b=>[(12,.tree 1 f.blocks.length fun t=>[eL (cnt f t b)]),(1,bx f)]) (fun b=>b <= f.blocks.length) (fun b=>f.blocks.length - b) 0 (by omega) ?_ fun b hb=>?_
 ·refine eP [] [] ?_ ?_ <;> repeat' first|exact eN|refine And.intro ?_ ?_
  exact fun i hi=>And.intro rfl rfl
 conv=>whnf
 repeat' first|(refine iF (fun hb=>?_) (fun hb=>?_) <;> (try simp only [yv] at hb) <;> (have hc := hb; try simp only [sB,Int.reduceToNat] at hc; try simp only [addZ0] at hc) <;> first|(exfalso; omega)|conv=>whnf)|((first|refine ya ?_|refine yb ?_|refine yc ?_|refine yd ?_|refine yf ?_|refine yh ?_|refine yj ?_|refine dD ?_|refine dF ?_|refine d0 ?_|refine d1 ?_|refine dL ?_|refine dP ?_|refine yl ?_|refine ym ?_|refine yn ?_|refine ⟨_,fun _=>(IntKind.wrap_u64 _).symm,?_⟩); conv=>whnf)|(refine yt ?_; conv=>whnf)|exact ⟨_,.keep rfl rfl⟩|fail
 (try (first|refine yt ?_|refine CallW.lent ?_); (conv=>whnf)); (repeat (refine yb ?_; (conv=>whnf))); (first|refine cK (fun _=>Succs_S 20 f _ hs) ?_|refine cL (fun _=>Succs_S 20 f _ hs) ?_); conv=>whnf
 repeat' first|(refine iF (fun hb=>?_) (fun hb=>?_) <;> (try simp only [yv] at hb) <;> (have hc := hb; try simp only [sB,Int.reduceToNat] at hc; try simp only [addZ0] at hc) <;> first|(exfalso; omega)|conv=>whnf)|((first|refine ya ?_|refine yb ?_|refine yc ?_|refine yd ?_|refine yf ?_|refine yh ?_|refine yj ?_|refine dD ?_|refine dF ?_|refine d0 ?_|refine d1 ?_|refine dL ?_|refine dP ?_|refine yl ?_|refine ym ?_|refine yn ?_|refine ⟨_,fun _=>(IntKind.wrap_u64 _).symm,?_⟩); conv=>whnf)|(refine yt ?_; conv=>whnf)|exact ⟨_,.keep rfl rfl⟩|fail
 ·refine lp [7] (fun i : Nat=>[.i .i64 i]) (fun i=>[(20,oL (Succs f b)),(12,.tree 1 f.blocks.length fun t=>[eL (prow f b i t)]),(1,bx f)]) (fun i=>i <= (Succs f b).length) (fun i=>(Succs f b).length - i) 0 (by omega) ?_ fun i hi=>?_
  ·refine eP [] [] ?_ ?_ <;> repeat' first|exact eN|refine And.intro ?_ ?_
   exact fun i hi=>teqs_of (congrArg (fun l=>[eL l]) (prow_zero f b i).symm)
  conv=>whnf
  have hlen := Succs_len f b
  repeat' first|(refine iF (fun hb=>?_) (fun hb=>?_) <;> (try simp only [yv] at hb) <;> (have hc := hb; try simp only [sB,Int.reduceToNat] at hc; try simp only [addZ0] at hc) <;> first|(exfalso; omega)|conv=>whnf)|((first|refine ya ?_|refine yb ?_|refine yc ?_|refine yd ?_|refine yf ?_|refine yh ?_|refine yj ?_|refine dD ?_|refine dF ?_|refine d0 ?_|refine d1 ?_|refine dL ?_|refine dP ?_|refine yl ?_|refine ym ?_|refine yn ?_|refine ⟨_,fun _=>(IntKind.wrap_u64 _).symm,?_⟩); conv=>whnf)|(refine yt ?_; conv=>whnf)|exact ⟨_,.keep rfl rfl⟩|fail
  ·have hi' : i < (Succs f b).length := by omega
   have hx : (Succs f b).getD (addZ 0 (i : Int).toNat) Enc.d = (Succs f b)[i] := by rw [addZ_eq]; simp [List.getD_eq_getElem?_getD,hi']
   have hm := Succs_mem (List.getElem_mem hi')
   have hm2 : addZ 0 ((Succs f b).getD (addZ 0 (i : Int).toNat) Enc.d).toNat < f.blocks.length := by rw [hx,addZ_eq]; omega
   have hm3 : ((addZ 0 ((Succs f b).getD (addZ 0 (i : Int).toNat) Enc.d).toNat : Nat) : Int) = (Succs f b)[i] := by rw [hx,addZ_eq]; omega
   have hp1 := prow_len f b i (addZ 0 ((Succs f b).getD (addZ 0 (i : Int).toNat) Enc.d).toNat : Nat)
   refine And.intro ⟨by rw [hx]; omega,by rw [hx]; omega,hm2⟩ ?_
   conv=>whnf
   repeat' first|(refine iF (fun hb=>?_) (fun hb=>?_) <;> (try simp only [yv] at hb) <;> (have hc := hb; try simp only [sB,Int.reduceToNat] at hc; try simp only [addZ0] at hc) <;> first|(exfalso; omega)|conv=>whnf)|((first|refine ya ?_|refine yb ?_|refine yc ?_|refine yd ?_|refine yf ?_|refine yh ?_|refine yj ?_|refine dD ?_|refine dF ?_|refine d0 ?_|refine d1 ?_|refine dL ?_|refine dP ?_|refine yl ?_|refine ym ?_|refine yn ?_|refine ⟨_,fun _=>(IntKind.wrap_u64 _).symm,?_⟩); conv=>whnf)|(refine yt ?_; conv=>whnf)|exact ⟨_,.keep rfl rfl⟩|fail
   refine And.intro ⟨rfl,fun _ _=>rfl⟩ ?_
   conv=>whnf
   repeat' first|(refine iF (fun hb=>?_) (fun hb=>?_) <;> (try simp only [yv] at hb) <;> (have hc := hb; try simp only [sB,Int.reduceToNat] at hc; try simp only [addZ0] at hc) <;> first|(exfalso; omega)|conv=>whnf)|((first|refine ya ?_|refine yb ?_|refine yc ?_|refine yd ?_|refine yf ?_|refine yh ?_|refine yj ?_|refine dD ?_|refine dF ?_|refine d0 ?_|refine d1 ?_|refine dL ?_|refine dP ?_|refine yl ?_|refine ym ?_|refine yn ?_|refine ⟨_,fun _=>(IntKind.wrap_u64 _).symm,?_⟩); conv=>whnf)|(refine yt ?_; conv=>whnf)|exact ⟨_,.keep rfl rfl⟩|fail
   refine And.intro ⟨⟨rfl,fun _ _=>leafs_cat (fun _=>rfl) (leafs_lit1 rfl) _⟩,hm2⟩ ?_
   conv=>whnf
   repeat' first|(refine iF (fun hb=>?_) (fun hb=>?_) <;> (try simp only [yv] at hb) <;> (have hc := hb; try simp only [sB,Int.reduceToNat] at hc; try simp only [addZ0] at hc) <;> first|(exfalso; omega)|conv=>whnf)|((first|refine ya ?_|refine yb ?_|refine yc ?_|refine yd ?_|refine yf ?_|refine yh ?_|refine yj ?_|refine dD ?_|refine dF ?_|refine d0 ?_|refine d1 ?_|refine dL ?_|refine dP ?_|refine yl ?_|refine ym ?_|refine yn ?_|refine ⟨_,fun _=>(IntKind.wrap_u64 _).symm,?_⟩); conv=>whnf)|(refine yt ?_; conv=>whnf)|exact ⟨_,.keep rfl rfl⟩|fail
   refine .mk (i + 1) (by omega) (by omega) ?_
   refine eP [] [] ?_ ?_ <;> repeat' first|exact eN|refine And.intro ?_ ?_
   intro t ht
   refine tree_snoc (x := (b : Int)) (g' := fun t : Nat=>[eL (prow f b (i + 1) t)]) (l' := prow f b (i + 1) t) (fun e=>?_) rfl (fun _=>⟨_,rfl⟩) (fun _=>rfl) fun e=>?_
   ·rw [prow_succ f b i t hi',if_pos (by rw [<- hm3,e]),e]
   ·exact congrArg (fun l=>[eL l]) ((prow_succ f b i t hi').trans (if_neg fun h=>e (by omega)))
  ·refine .mk (b + 1) (by omega) (by omega) ?_
   refine eP [] [] ?_ ?_ <;> repeat' first|exact eN|refine And.intro ?_ ?_
   exact fun t ht=>teqs_of (congrArg (fun l=>[eL l]) (prow_all f b i t (by omega)))
 ·exact ⟨_,.giveT rfl rfl (by omega) (fun t _=>by rw [show b = f.blocks.length by omega]; exact teqs_refl _) rfl⟩
def PredsL (f : FnE) : List (List Int) := (List.range f.blocks.length).map fun t : Nat=>cnt f t f.blocks.length
theorem Preds_F (f : FnE) (hs : siz f < 4294967296) : ASpec Tryz.prog 77 [eS f] (eL (PredsL f)) [] :=
 (Preds_S f hs).gives (.freezeT rfl rfl (by simp [PredsL]) (fun i hi=>teqs_of (by
  have hi' : i < f.blocks.length := by simpa [PredsL] using hi
  show [eL (cnt f i f.blocks.length)] = [eL ((PredsL f).getD i [])]
  rw [PredsL,List.getD_eq_getElem?_getD,List.getElem?_map,List.getElem?_range hi']; rfl)) rfl) (Clo.row0 fun id=>rfl) (by simp)
def phiOk (f : FnE) (i k : Nat) : Bool := (decide (¬((C2 f).getD i Enc.d).b = 0) && decide (((C1 f).getD i Enc.d).to = (PredsL f).getD ((C2 f).getD i Enc.d).b.toNat Enc.d)) && (List.range k).all fun j=>decide (((f.blocks.getD ((C2 f).getD i Enc.d).b.toNat Enc.d).code.getD j Enc.d).op = 25)
def phiC (f : FnE) (n : Int) (i : Nat) : FaultE :=
 if ¬((C1 f).getD i Enc.d).op = 25 then ⟨0,⟨0,0,0⟩⟩ else if phiOk f i ((C2 f).getD i Enc.d).i.toNat = false then at2 f n 12 i else ⟨0,⟨0,0,0⟩⟩
def phisF (f : FnE) (n : Int) : FaultE := firstF (phiC f n) (Code f).length
theorem phiOk_succ (f : FnE) (i k : Nat) : phiOk f i (k + 1) = (phiOk f i k && decide (((f.blocks.getD ((C2 f).getD i Enc.d).b.toNat Enc.d).code.getD k Enc.d).op = 25)) := by
 unfold phiOk; rw [List.range_succ,List.all_append]; simp [Bool.and_assoc]
theorem phis_S (f : FnE) (n : Int) (hs : siz f < 4294967296) : ASpec Tryz.prog 43 [eS f,.i .i64 n] (eS (phisF f n)) [] := by
 have h1 := Code_siz f
 have h2 := C1_len f
 have h3 := C2_len f
 have h0 : (PredsL f).length = f.blocks.length := by simp [PredsL]
 refine ASpec.enter TYok mixed Tryz.func43 rfl Tryz.call43 Tryz.ntmps43 rfl (rs := [.cell 4 54]) rfl (nodupB_ok rfl) (Clo.one rfl) (keep := [0,1,2,4,5,6,7,8,9,10,11]) ?_; conv=>whnf
 repeat' first|(refine iF (fun hb=>?_) (fun hb=>?_) <;> (try simp only [yv] at hb) <;> (have hc := hb; try simp only [sB,Int.reduceToNat] at hc; try simp only [addZ0] at hc) <;> first|(exfalso; omega)|conv=>whnf)|((first|refine ya ?_|refine yb ?_|refine yc ?_|refine yd ?_|refine yf ?_|refine yh ?_|refine yj ?_|refine dD ?_|refine dF ?_|refine d0 ?_|refine d1 ?_|refine dL ?_|refine dP ?_|refine yl ?_|refine ym ?_|refine yn ?_|refine ⟨_,fun _=>(IntKind.wrap_u64 _).symm,?_⟩); conv=>whnf)|((first|refine cK (fun _=>Preds_F f hs) ?_|((try (refine CallW.lent ?_; (conv=>whnf); repeat (refine yb ?_; (conv=>whnf)))); refine cL (fun _=>Preds_F f hs) ?_)); conv=>whnf)|((first|refine cK (fun _=>Code_C 140 141 (by decide) f hs) ?_|((try (refine CallW.lent ?_; (conv=>whnf); repeat (refine yb ?_; (conv=>whnf)))); refine cL (fun _=>Code_C 140 141 (by decide) f hs) ?_)); conv=>whnf)|(refine yt ?_; conv=>whnf)|exact ⟨_,.keep rfl rfl⟩|fail
 refine lp [8] (fun q : Nat=>[.i .i64 q]) (fun q=>[(2,bx f),(4,bx (Enc.d : FaultE)),(140,oL (C1 f)),(141,oL (C2 f))]) (fun q=>q <= (Code f).length /\ ∀ i,i < q -> (phiC f n i).code = 0) (fun q=>(Code f).length - q) 0 ⟨by omega,fun i h=>by omega⟩ ?_ fun q hq=>?_
 ·refine eP [] [] ?_ ?_ <;> repeat' first|exact eN|refine And.intro ?_ ?_
 conv=>whnf
 obtain ⟨hq,hv⟩ := hq
 repeat' first|(refine iF (fun hb=>?_) (fun hb=>?_) <;> (try simp only [yv] at hb) <;> (have hc := hb; try simp only [sB,Int.reduceToNat] at hc; try simp only [addZ0] at hc) <;> first|(exfalso; omega)|conv=>whnf)|((first|refine ya ?_|refine yb ?_|refine yc ?_|refine yd ?_|refine yf ?_|refine yh ?_|refine yj ?_|refine dD ?_|refine dF ?_|refine d0 ?_|refine d1 ?_|refine dL ?_|refine dP ?_|refine yl ?_|refine ym ?_|refine yn ?_|refine ⟨_,fun _=>(IntKind.wrap_u64 _).symm,?_⟩); conv=>whnf)|(refine yt ?_; conv=>whnf)|exact ⟨_,.keep rfl rfl⟩|fail
 ·have e : phiC f n q = ⟨0,⟨0,0,0⟩⟩ := by rw [phiC,if_pos hc]
  refine .mk (q + 1) ⟨by omega,all_step hv (by rw [e])⟩ (by omega) ?_
  refine eP [] [] ?_ ?_ <;> repeat' first|exact eN|refine And.intro ?_ ?_
 ·obtain ⟨b0,k0,h5,h6,h7,h8⟩ := Code_get (f := f) (q := q) (by omega)
  have h9 : ((C2 f).getD (addZ 0 (q : Int).toNat) Enc.d).b = b0 := by rw [show addZ 0 (q : Int).toNat = q from rfl,h8]
  have h10 : ((C2 f).getD (addZ 0 (q : Int).toNat) Enc.d).i = k0 := by rw [show addZ 0 (q : Int).toNat = q from rfl,h8]
  have h11 := C1_to (f := f) (q := q) (by omega)
  repeat' first|(refine iF (fun hb=>?_) (fun hb=>?_) <;> (try simp only [yv] at hb) <;> (have hc := hb; try simp only [sB,Int.reduceToNat] at hc; try simp only [addZ0] at hc) <;> first|(exfalso; omega)|conv=>whnf)|((first|refine ya ?_|refine yb ?_|refine yc ?_|refine yd ?_|refine yf ?_|refine yh ?_|refine yj ?_|refine dD ?_|refine dF ?_|refine d0 ?_|refine d1 ?_|refine dL ?_|refine dP ?_|refine yl ?_|refine ym ?_|refine yn ?_|refine ⟨_,fun _=>(IntKind.wrap_u64 _).symm,?_⟩); conv=>whnf)|((first|refine cK (fun _=>Ints_S _ _ (Nat.lt_of_le_of_lt h11 (by omega))) ?_|((try (refine CallW.lent ?_; (conv=>whnf); repeat (refine yb ?_; (conv=>whnf)))); refine cL (fun _=>Ints_S _ _ (Nat.lt_of_le_of_lt h11 (by omega))) ?_)); conv=>whnf)|(refine yt ?_; conv=>whnf)|exact ⟨_,.keep rfl rfl⟩|fail
  refine lp [10,11] (fun k : Nat=>[.b (phiOk f q k),.i .i64 k]) (fun k=>[(2,bx f),(4,bx (Enc.d : FaultE)),(140,oL (C1 f)),(141,oL (C2 f))]) (fun k=>k <= k0) (fun k=>k0 - k) 0 (by omega) ?_ fun k hk=>?_
  ·refine eP [] [] ?_ ?_ <;> repeat' first|exact eN|refine And.intro ?_ ?_
   show _ = _
   rw [pickB_and]
   show (!decide (((C2 f).getD q Enc.d).b = 0) && decide (((C1 f).getD q Enc.d).to = (PredsL f).getD ((C2 f).getD q Enc.d).b.toNat Enc.d)) = phiOk f q 0
   simp [phiOk]
  conv=>whnf
  have h12 := code_le f b0
  have h13 : k0 < (f.blocks.getD ((C2 f).getD (addZ 0 (q : Int).toNat) Enc.d).b.toNat Enc.d).code.length := by rw [h9,Int.toNat_natCast]; exact h6
  have h14 : ((C2 f).getD q Enc.d).i = k0 := h10
  have h15 : ((C2 f).getD q Enc.d).b = b0 := h9
  repeat' first|(refine iF (fun hb=>?_) (fun hb=>?_) <;> (try simp only [yv] at hb) <;> (have hc := hb; try simp only [sB,Int.reduceToNat] at hc; try simp only [addZ0] at hc) <;> first|(exfalso; omega)|conv=>whnf)|((first|refine ya ?_|refine yb ?_|refine yc ?_|refine yd ?_|refine yf ?_|refine yh ?_|refine yj ?_|refine dD ?_|refine dF ?_|refine d0 ?_|refine d1 ?_|refine dL ?_|refine dP ?_|refine yl ?_|refine ym ?_|refine yn ?_|refine ⟨_,fun _=>(IntKind.wrap_u64 _).symm,?_⟩); conv=>whnf)|((first|refine cK (fun _=>at_S _ _ _ _) ?_|((try (refine CallW.lent ?_; (conv=>whnf); repeat (refine yb ?_; (conv=>whnf)))); refine cL (fun _=>at_S _ _ _ _) ?_)); conv=>whnf)|(refine yt ?_; conv=>whnf)|exact ⟨_,.keep rfl rfl⟩|fail
  ·refine .mk (k + 1) (by omega) (by omega) ?_
   refine eP [] [] ?_ ?_ <;> repeat' first|exact eN|refine And.intro ?_ ?_
   show _ = _
   rw [pickB_and,phiOk_succ]
   rfl
  ·have e : phiC f n q = at2 f n 12 q := by rw [phiC,if_neg (fun h=>h (by assumption)),if_pos (by rw [h14,Int.toNat_natCast,show k0 = k by omega]; exact hc)]
   exact ⟨_,.keep (by rw [phisF,firstF_at (by omega) hv e (by simp)]; rfl) rfl⟩
  ·have e : phiC f n q = ⟨0,⟨0,0,0⟩⟩ := by rw [phiC,if_neg (fun h=>h (by assumption)),if_neg (by rw [h14,Int.toNat_natCast,show k0 = k by omega]; exact bf hc)]
   refine .mk (q + 1) ⟨by omega,all_step hv (by rw [e])⟩ (by omega) ?_
   refine eP [] [] ?_ ?_ <;> repeat' first|exact eN|refine And.intro ?_ ?_
 ·exact ⟨_,.keep (by rw [phisF,firstF_no fun i hi=>hv i (by omega)]; rfl) rfl⟩
inductive RG (f : FnE) (g : Int) : Nat -> Prop
 | zero : 0 < f.blocks.length -> g ≠ 0 -> RG f g 0
 | step {b : Nat} {t : Int} : RG f g b -> t ∈ Succs f b -> t ≠ g -> RG f g t.toNat
def isRG (f : FnE) (g : Int) (l : List Bool) : Prop := l.length = f.blocks.length /\ ∀ b : Nat,b < f.blocks.length -> (l.getD b false = true ↔ RG f g b)
theorem isRG_ex (f : FnE) (g : Int) : ∃ l,isRG f g l := by
 refine ⟨(List.range f.blocks.length).map fun b=>@decide (RG f g b) (Classical.propDecidable _),by simp,fun b hb=>?_⟩
 rw [List.getD_eq_getElem?_getD,List.getElem?_map,List.getElem?_range hb]
 simp
theorem set_fun {α : Type} [Enc α] {l : List α} {t : Nat} {x : α} {cs : List AV} (hc : cs = Enc.enc x) (i : Nat) (hi : i < l.length) : setF (fun i=>Enc.enc (l.getD i Enc.d)) t cs i = Enc.enc ((l.set t x).getD i Enc.d) := by
 subst hc
 unfold setF
 by_cases e : i = t
 ·subst e
  rw [if_pos rfl,List.getD_eq_getElem?_getD,List.getElem?_set_self hi]; rfl
 ·rw [if_neg e]
  show Enc.enc (l.getD i Enc.d) = _
  rw [List.getD_eq_getElem?_getD,List.getD_eq_getElem?_getD,List.getElem?_set_ne (fun h=>e h.symm)]
theorem getD_set {l : List Bool} {t i : Nat} (ht : t < l.length) : (l.set t true).getD i false = if i = t then true else l.getD i false := by
 by_cases e : i = t
 ·subst e
  rw [if_pos rfl,List.getD_eq_getElem?_getD,List.getElem?_set_self ht]; rfl
 ·rw [if_neg e,List.getD_eq_getElem?_getD,List.getD_eq_getElem?_getD,List.getElem?_set_ne (fun h=>e h.symm)]
theorem cntf_set {l : List Bool} {t : Nat} (ht : t < l.length) (h : l.getD t false = false) : ((l.set t true).count false) + 1 = l.count false := by
 have h2 : l[t] = false := by rw [List.getD_eq_getElem?_getD,List.getElem?_eq_getElem ht] at h; exact h
 have hp : 0 < l.count false := List.count_pos_iff.2 (h2 ▸ List.getElem_mem ht)
 rw [List.count_set ht]
 simp [h2]; omega
structure Pass (f : FnE) (g : Int) (l0 : List Bool) (more : Bool) (l : List Bool) (b i : Nat) : Prop where
 len : l.length = f.blocks.length
 snd : ∀ k : Nat,l.getD k false = true -> RG f g k
 sup : ∀ k : Nat,l0.getD k false = true -> l.getD k false = true
 old : more = false -> l = l0
 cl : more = false -> ∀ c : Nat,c < b -> l.getD c false = true -> ∀ t ∈ Succs f c,t ≠ g -> l.getD t.toNat false = true
 ci : more = false -> l.getD b false = true -> ∀ t ∈ (Succs f b).take i,t ≠ g -> l.getD t.toNat false = true
 cnt : more = true -> l.count false < l0.count false
theorem Pass.start {f : FnE} {g : Int} {l : List Bool} (hl : l.length = f.blocks.length) (hs : ∀ k : Nat,l.getD k false = true -> RG f g k) : Pass f g l false l 0 0 :=
 ⟨hl,hs,fun k h=>h,fun _=>rfl,fun _ c hc=>by omega,fun _ _ t ht=>by simp at ht,fun h=>by cases h⟩
theorem Pass.next {f : FnE} {g : Int} {l0 l : List Bool} {more : Bool} {b i : Nat} (h : Pass f g l0 more l b i) (he : l.getD b false = false \/ (Succs f b).length <= i) : Pass f g l0 more l (b + 1) 0 :=
 ⟨h.len,h.snd,h.sup,h.old,fun hm c hc hb t ht hg=>by
  rcases Nat.lt_or_ge c b with q|q
  ·exact h.cl hm c q hb t ht hg
  ·have : c = b := by omega
   subst this
   rcases he with q|q
   ·rw [hb] at q; cases q
   ·exact h.ci hm hb t (by rw [List.take_of_length_le q]; exact ht) hg,fun _ _ t ht=>by simp at ht,h.cnt⟩
theorem Pass.skip {f : FnE} {g : Int} {l0 l : List Bool} {more : Bool} {b i : Nat} (h : Pass f g l0 more l b i) (hi : i < (Succs f b).length) (hs : (Succs f b)[i] = g \/ l.getD ((Succs f b)[i]).toNat false = true) : Pass f g l0 more l b (i + 1) :=
 ⟨h.len,h.snd,h.sup,h.old,h.cl,fun hm hb t ht hg=>by
  rw [List.take_add_one,List.getElem?_eq_getElem hi,List.mem_append] at ht
  rcases ht with ht|ht
  ·exact h.ci hm hb t ht hg
  ·simp at ht
   subst ht
   rcases hs with hs|hs
   ·exact absurd hs hg
   ·exact hs,h.cnt⟩
theorem Pass.set {f : FnE} {g : Int} {l0 l : List Bool} {more : Bool} {b i : Nat} (h : Pass f g l0 more l b i) (hb : l.getD b false = true) (hi : i < (Succs f b).length) (hs : (Succs f b)[i] ≠ g) (ht : l.getD ((Succs f b)[i]).toNat false = false) : Pass f g l0 true (l.set ((Succs f b)[i]).toNat true) b (i + 1) := by
 have hm := Succs_mem (List.getElem_mem hi)
 have hlt : ((Succs f b)[i]).toNat < l.length := by rw [h.len]; omega
 refine ⟨by rw [List.length_set]; exact h.len,fun k hk=>?_,fun k hk=>?_,(fun e=>by cases e),(fun e=>by cases e),(fun e=>by cases e),fun _=>?_⟩
 ·rw [getD_set hlt] at hk
  split at hk
  ·rename_i e; subst e; exact .step (h.snd b hb) (List.getElem_mem hi) hs
  ·exact h.snd k hk
 ·rw [getD_set hlt]
  split
  ·rfl
  ·exact h.sup k hk
 ·have e1 := cntf_set hlt ht
  cases hmo : more with
  | true=>have := h.cnt hmo; omega
  | false=>rw [h.old hmo] at e1 ⊢; omega
theorem Pass.fin {f : FnE} {g : Int} {l0 l : List Bool} (h : Pass f g l0 false l f.blocks.length 0) (h0 : l.getD 0 false = true) : isRG f g l := by
 refine ⟨h.len,fun b hb=>⟨h.snd b,fun hr=>?_⟩⟩
 clear hb
 induction hr with
 | zero _ _=>exact h0
 | step hr ht hg ih =>
  rename_i b t
  have hb : b < f.blocks.length := by
   rcases Nat.lt_or_ge b l.length with q|q
   ·rw [<- h.len]; exact q
   ·rw [List.getD_eq_getElem?_getD,List.getElem?_eq_none q] at ih; cases ih
  exact h.cl rfl b hb ih t ht hg
theorem isRG.eq {f : FnE} {g : Int} {l l' : List Bool} (h : isRG f g l) (h' : isRG f g l') (i : Nat) (hi : i < f.blocks.length) : l.getD i false = l'.getD i false := by
 rw [Bool.eq_iff_iff,h.2 i hi,h'.2 i hi]
theorem isRG.none {f : FnE} {g : Int} {l : List Bool} (h : isRG f g l) (hn : f.blocks.length = 0 \/ g = 0) (i : Nat) (hi : i < f.blocks.length) : l.getD i false = false := by
 cases hq : l.getD i false with
 | false=>rfl
 | true =>
  have hr := (h.2 i hi).1 hq
  have : ∀ b,RG f g b -> False := fun b hr=>by
   induction hr with
   | zero h1 h2=>rcases hn with q|q <;> omega
   | step _ _ _ ih=>exact ih
  exact (this _ hr).elim
def nxG (f : FnE) (k b : Nat) : List Int := if b < k then Succs f b else []
theorem nx_zero (f : FnE) (c : Nat) : nxG f 0 c = [] := by unfold nxG; rw [if_neg (Nat.not_lt_zero _)]
theorem first_row {n i : Nat} (hi : i < n) : setF (fun _=>[AV.b false]) 0 [AV.b true] i = [AV.b (((List.replicate n false).set 0 true).getD i false)] := by
 rw [getD_set (by simp; omega)]
 unfold setF
 by_cases e : i = 0
 ·rw [if_pos e,if_pos e]
 ·rw [if_neg e,if_neg e,List.getD_eq_getElem?_getD,List.getElem?_replicate]
  simp [hi]
theorem Without_S (f : FnE) (g : Int) (l : List Bool) (hl : isRG f g l) (hs : siz f < 4294967296) : ASpec Tryz.prog 47 [eS f, .i .i64 g] (.orow 12 1 0 l.length) [(12, oL l)] := by
  have h1 := blocks_le f
  have h2 := hl.1
  refine ASpec.enter TYok mixed Tryz.func47 rfl Tryz.call47 Tryz.ntmps47 rfl (rs := [.tmp 4]) rfl (nd1 _) (Clo.row) (keep := [0, 1, 2, 4, 5, 6, 7, 8, 9, 10, 11, 12]) ?_; conv => whnf
  repeat' first | (refine iF (fun hb => ?_) (fun hb => ?_) <;> (try simp only [yv] at hb) <;> (have hc := hb; try simp only [sB, Int.reduceToNat] at hc; try simp only [addZ0] at hc) <;> first | (exfalso; omega) | conv => whnf) | ((first | refine ya ?_ | refine yb ?_ | refine yc ?_ | refine yd ?_ | refine yf ?_ | refine yh ?_ | refine yj ?_ | refine dD ?_ | refine dF ?_ | refine d0 ?_ | refine d1 ?_ | refine dL ?_ | refine dP ?_ | refine yl ?_ | refine ym ?_ | refine yn ?_ | refine ⟨_, fun _ => (IntKind.wrap_u64 _).symm, ?_⟩); conv => whnf) | (refine yt ?_; conv => whnf) | exact ⟨_, .keep rfl rfl⟩ | fail
  · exact ⟨_, .give rfl rfl (by omega) (fun i hi => congrArg (fun t => [AV.b t]) (hl.none (by omega) i (by omega)).symm) rfl⟩
  have hn : 0 < f.blocks.length := by omega
  refine lp [8] (fun b : Nat => [.i .i64 b]) (fun b => [(17, oL ((List.replicate f.blocks.length false).set 0 true)), (28, .tree 1 f.blocks.length fun c => [eL (nxG f b c)]), (2, bx f)]) (fun b => b ≤ f.blocks.length) (fun b => f.blocks.length - b) 0 (by omega) ?_ fun b hb => ?_
  · refine eP [] [] ?_ ?_ <;> repeat' first | exact eN | refine And.intro ?_ ?_
    · simp
    · exact fun i hi => first_row (by simpa using hi)
    · exact fun i hi => by rw [show (fun c => [eL (nxG f 0 c)]) i = [eL ([] : List Int)] from congrArg (fun l => [eL l]) (nx_zero f i)]; exact And.intro rfl rfl
  conv => whnf
  repeat' first | (refine iF (fun hb => ?_) (fun hb => ?_) <;> (try simp only [yv] at hb) <;> (have hc := hb; try simp only [sB, Int.reduceToNat] at hc; try simp only [addZ0] at hc) <;> first | (exfalso; omega) | conv => whnf) | ((first | refine ya ?_ | refine yb ?_ | refine yc ?_ | refine yd ?_ | refine yf ?_ | refine yh ?_ | refine yj ?_ | refine dD ?_ | refine dF ?_ | refine d0 ?_ | refine d1 ?_ | refine dL ?_ | refine dP ?_ | refine yl ?_ | refine ym ?_ | refine yn ?_ | refine ⟨_, fun _ => (IntKind.wrap_u64 _).symm, ?_⟩); conv => whnf) | (refine yt ?_; conv => whnf) | exact ⟨_, .keep rfl rfl⟩ | fail
  · (try (first | refine yt ?_ | refine CallW.lent ?_); (conv => whnf)); (repeat (refine yb ?_; (conv => whnf))); (first | refine cK (fun _ => Succs_S 100 f _ hs) ?_ | refine cL (fun _ => Succs_S 100 f _ hs) ?_); conv => whnf
    repeat' first | (refine iF (fun hb => ?_) (fun hb => ?_) <;> (try simp only [yv] at hb) <;> (have hc := hb; try simp only [sB, Int.reduceToNat] at hc; try simp only [addZ0] at hc) <;> first | (exfalso; omega) | conv => whnf) | ((first | refine ya ?_ | refine yb ?_ | refine yc ?_ | refine yd ?_ | refine yf ?_ | refine yh ?_ | refine yj ?_ | refine dD ?_ | refine dF ?_ | refine d0 ?_ | refine d1 ?_ | refine dL ?_ | refine dP ?_ | refine yl ?_ | refine ym ?_ | refine yn ?_ | refine ⟨_, fun _ => (IntKind.wrap_u64 _).symm, ?_⟩); conv => whnf) | (refine yt ?_; conv => whnf) | exact ⟨_, .keep rfl rfl⟩ | fail
    refine And.intro ⟨⟨rfl, fun _ _ => rfl⟩, by rw [addZ_eq]; omega⟩ ?_
    conv => whnf
    repeat' first | (refine iF (fun hb => ?_) (fun hb => ?_) <;> (try simp only [yv] at hb) <;> (have hc := hb; try simp only [sB, Int.reduceToNat] at hc; try simp only [addZ0] at hc) <;> first | (exfalso; omega) | conv => whnf) | ((first | refine ya ?_ | refine yb ?_ | refine yc ?_ | refine yd ?_ | refine yf ?_ | refine yh ?_ | refine yj ?_ | refine dD ?_ | refine dF ?_ | refine d0 ?_ | refine d1 ?_ | refine dL ?_ | refine dP ?_ | refine yl ?_ | refine ym ?_ | refine yn ?_ | refine ⟨_, fun _ => (IntKind.wrap_u64 _).symm, ?_⟩); conv => whnf) | (refine yt ?_; conv => whnf) | exact ⟨_, .keep rfl rfl⟩ | fail
    refine .mk (b + 1) (by omega) (by omega) ?_
    refine eP [] [] ?_ ?_ <;> repeat' first | exact eN | refine And.intro ?_ ?_
    exact fun t ht => tree_put (g' := fun c => [eL (nxG f (b + 1) c)]) (fun _ => ⟨_, rfl⟩) (fun e => congrArg (fun l => [eL l]) (by unfold nxG; rw [if_pos (by rw [e, addZ_eq]; omega), e, addZ_eq]; simp)) fun e => teqs_of (congrArg (fun l => [eL l]) (by
      have e' : t ≠ b := fun h => e (by rw [addZ_eq]; omega)
      unfold nxG
      by_cases q : t < b
      · rw [if_pos q, if_pos (by omega)]
      · rw [if_neg q, if_neg (by omega)]))
  have hx : ∀ c, c < f.blocks.length → nxG f b c = Succs f c := fun c hc => by unfold nxG; rw [if_pos (by omega)]
  have hl0 : ((List.replicate f.blocks.length false).set 0 true).getD 0 false = true := by rw [getD_set (by simpa using hn), if_pos rfl]
  refine lp [9] (fun p : Bool × List Bool => [.b p.1]) (fun p => [(17, oL p.2), (28, .tree 1 f.blocks.length fun c => [eL (Succs f c)]), (2, bx f)])
    (fun p => (p.2.length = f.blocks.length ∧ (∀ k : Nat, p.2.getD k false = true → RG f g k) ∧ p.2.getD 0 false = true) ∧ (p.1 = false → isRG f g p.2)) (fun p => 2 * p.2.count false + p.1.toNat) (true, (List.replicate f.blocks.length false).set 0 true)
    ⟨⟨by simp, fun k hk => by
      rw [getD_set (by simpa using hn)] at hk
      split at hk
      · rename_i e; subst e; exact .zero hn (by omega)
      · rw [List.getD_eq_getElem?_getD, List.getElem?_replicate] at hk
        split at hk <;> simp at hk, hl0⟩, fun h => by cases h⟩ ?_ fun pA hA => ?_
  · refine eP [] [] ?_ ?_ <;> repeat' first | exact eN | refine And.intro ?_ ?_
    exact fun i hi => teqs_of (congrArg (fun l => [eL l]) (hx i hi))
  obtain ⟨⟨p1, p2, p3⟩, p4⟩ := hA
  conv => whnf
  repeat' first | (refine iF (fun hb => ?_) (fun hb => ?_) <;> (try simp only [yv] at hb) <;> (have hc := hb; try simp only [sB, Int.reduceToNat] at hc; try simp only [addZ0] at hc) <;> first | (exfalso; omega) | conv => whnf) | ((first | refine ya ?_ | refine yb ?_ | refine yc ?_ | refine yd ?_ | refine yf ?_ | refine yh ?_ | refine yj ?_ | refine dD ?_ | refine dF ?_ | refine d0 ?_ | refine d1 ?_ | refine dL ?_ | refine dP ?_ | refine yl ?_ | refine ym ?_ | refine yn ?_ | refine ⟨_, fun _ => (IntKind.wrap_u64 _).symm, ?_⟩); conv => whnf) | (refine yt ?_; conv => whnf) | exact ⟨_, .keep rfl rfl⟩ | fail
  · refine lp [9, 10] (fun p : Bool × List Bool × Nat => [.b p.1, .i .i64 p.2.2]) (fun p => [(17, oL p.2.1), (28, .tree 1 f.blocks.length fun c => [eL (Succs f c)]), (2, bx f)])
      (fun p => Pass f g pA.2 p.1 p.2.1 p.2.2 0 ∧ p.2.2 ≤ f.blocks.length) (fun p => f.blocks.length - p.2.2) (false, pA.2, 0) ⟨.start p1 p2, Nat.zero_le _⟩ ?_ fun pB hB => ?_
    · refine eP [] [] ?_ ?_ <;> repeat' first | exact eN | refine And.intro ?_ ?_
      exact fun i hi => teqs_refl _
    obtain ⟨q1, q2⟩ := hB
    have q3 := q1.len
    conv => whnf
    repeat' first | (refine iF (fun hb => ?_) (fun hb => ?_) <;> (try simp only [yv] at hb) <;> (have hc := hb; try simp only [sB, Int.reduceToNat] at hc; try simp only [addZ0] at hc) <;> first | (exfalso; omega) | conv => whnf) | ((first | refine ya ?_ | refine yb ?_ | refine yc ?_ | refine yd ?_ | refine yf ?_ | refine yh ?_ | refine yj ?_ | refine dD ?_ | refine dF ?_ | refine d0 ?_ | refine d1 ?_ | refine dL ?_ | refine dP ?_ | refine yl ?_ | refine ym ?_ | refine yn ?_ | refine ⟨_, fun _ => (IntKind.wrap_u64 _).symm, ?_⟩); conv => whnf) | (refine yt ?_; conv => whnf) | exact ⟨_, .keep rfl rfl⟩ | fail
    · have r0 := Succs_len f pB.2.2
      refine lp [9, 11] (fun p : Bool × List Bool × Nat => [.b p.1, .i .i64 p.2.2]) (fun p => [(17, oL p.2.1), (28, .tree 1 f.blocks.length fun c => [eL (Succs f c)]), (2, bx f)])
        (fun p => Pass f g pA.2 p.1 p.2.1 pB.2.2 p.2.2 ∧ p.2.2 ≤ (Succs f pB.2.2).length) (fun p => (Succs f pB.2.2).length - p.2.2) (pB.1, pB.2.1, 0) ⟨q1, Nat.zero_le _⟩ ?_ fun pC hC => ?_
      · refine eP [] [] ?_ ?_ <;> repeat' first | exact eN | refine And.intro ?_ ?_
        exact fun i hi => teqs_refl _
      obtain ⟨r1, r2⟩ := hC
      have r3 := r1.len
      conv => whnf
      repeat' first | (refine iF (fun hb => ?_) (fun hb => ?_) <;> (try simp only [yv] at hb) <;> (have hc := hb; try simp only [sB, Int.reduceToNat] at hc; try simp only [addZ0] at hc) <;> first | (exfalso; omega) | conv => whnf) | ((first | refine ya ?_ | refine yb ?_ | refine yc ?_ | refine yd ?_ | refine yf ?_ | refine yh ?_ | refine yj ?_ | refine dD ?_ | refine dF ?_ | refine d0 ?_ | refine d1 ?_ | refine dL ?_ | refine dP ?_ | refine yl ?_ | refine ym ?_ | refine yn ?_ | refine ⟨_, fun _ => (IntKind.wrap_u64 _).symm, ?_⟩); conv => whnf) | (refine yt ?_; conv => whnf) | exact ⟨_, .keep rfl rfl⟩ | fail
      · have hi' : pC.2.2 < (Succs f pB.2.2).length := by have := hc.2; omega
        have e0 : (Succs f (addZ 0 (pB.2.2 : Int).toNat : Nat)).getD (addZ 0 (pC.2.2 : Int).toNat) Enc.d = (Succs f pB.2.2)[pC.2.2] := by
          show (Succs f pB.2.2).getD pC.2.2 0 = _
          rw [List.getD_eq_getElem?_getD, List.getElem?_eq_getElem hi']; rfl
        have hm := Succs_mem (List.getElem_mem hi')
        have hm2 : addZ 0 ((Succs f (addZ 0 (pB.2.2 : Int).toNat : Nat)).getD (addZ 0 (pC.2.2 : Int).toNat) Enc.d).toNat < pC.2.1.length := by rw [addZ_eq, e0, r3]; omega
        have hm3 : 0 ≤ (Succs f (addZ 0 (pB.2.2 : Int).toNat : Nat)).getD (addZ 0 (pC.2.2 : Int).toNat) Enc.d ∧ (Succs f (addZ 0 (pB.2.2 : Int).toNat : Nat)).getD (addZ 0 (pC.2.2 : Int).toNat) Enc.d < f.blocks.length := by rw [e0]; exact hm
        refine And.intro (fun _ => ⟨hm3.1, by omega, hm2⟩) ?_
        conv => whnf
        repeat' first | (refine iF (fun hb => ?_) (fun hb => ?_) <;> (try simp only [yv] at hb) <;> (have hc := hb; try simp only [sB, Int.reduceToNat] at hc; try simp only [addZ0] at hc) <;> first | (exfalso; omega) | conv => whnf) | ((first | refine ya ?_ | refine yb ?_ | refine yc ?_ | refine yd ?_ | refine yf ?_ | refine yh ?_ | refine yj ?_ | refine dD ?_ | refine dF ?_ | refine d0 ?_ | refine d1 ?_ | refine dL ?_ | refine dP ?_ | refine yl ?_ | refine ym ?_ | refine yn ?_ | refine ⟨_, fun _ => (IntKind.wrap_u64 _).symm, ?_⟩); conv => whnf) | (refine yt ?_; conv => whnf) | exact ⟨_, .keep rfl rfl⟩ | fail
        · have e1 : (Succs f pB.2.2).getD pC.2.2 Enc.d = (Succs f pB.2.2)[pC.2.2] := e0
          have c1 : (Succs f pB.2.2)[pC.2.2] ≠ g := by rw [← e1]; exact hc.1
          have c2 : pC.2.1.getD ((Succs f pB.2.2)[pC.2.2]).toNat false = false := by rw [← e1]; exact hc.2
          have c3 : pC.2.1.getD pB.2.2 Enc.d = true := by rename_i hz; exact hz.1
          have hps := r1.set c3 hi' c1 c2
          refine .mk (true, pC.2.1.set ((Succs f pB.2.2)[pC.2.2]).toNat true, pC.2.2 + 1) ⟨hps, by show pC.2.2 + 1 ≤ _; omega⟩ (by show (Succs f pB.2.2).length - (pC.2.2 + 1) < _; omega) ?_
          have e2 : addZ 0 ((Succs f (addZ 0 (pB.2.2 : Int).toNat : Nat)).getD (addZ 0 (pC.2.2 : Int).toNat) Enc.d).toNat = ((Succs f pB.2.2)[pC.2.2]).toNat := by rw [addZ_eq, Nat.zero_add, e0]
          refine eP [] [] ?_ ?_ <;> repeat' first | exact eN | refine And.intro ?_ ?_
          · exact (List.length_set ..).symm
          · exact fun i hi => (congrArg (fun k => setF (fun i => Enc.enc (pC.2.1.getD i Enc.d)) k [AV.b true] i) e2).trans (set_fun rfl i (by rw [List.length_set] at hi; exact hi))
          · exact fun i hi => teqs_refl _
        · have e1 : (Succs f pB.2.2).getD pC.2.2 Enc.d = (Succs f pB.2.2)[pC.2.2] := e0
          refine .mk (pC.1, pC.2.1, pC.2.2 + 1) ⟨r1.skip hi' (by rw [← e1]; exact hc), by show pC.2.2 + 1 ≤ _; omega⟩ (by show (Succs f pB.2.2).length - (pC.2.2 + 1) < _; omega) ?_
          refine eP [] [] ?_ ?_ <;> repeat' first | exact eN | refine And.intro ?_ ?_
          exact fun i hi => teqs_refl _
      · refine .mk (pC.1, pC.2.1, pB.2.2 + 1) ⟨r1.next (hc.imp id fun h => by omega), by show pB.2.2 + 1 ≤ _; omega⟩ (by show f.blocks.length - (pB.2.2 + 1) < _; omega) ?_
        refine eP [] [] ?_ ?_ <;> repeat' first | exact eN | refine And.intro ?_ ?_
        exact fun i hi => teqs_refl _
    · refine .mk (pB.1, pB.2.1) ⟨⟨q3, q1.snd, q1.sup 0 p3⟩, fun h => ?_⟩ ?_ ?_
      · have e : pB.1 = false := h
        have q4 := q1
        rw [e, show pB.2.2 = f.blocks.length by omega] at q4
        exact q4.fin (q1.sup 0 p3)
      · show 2 * pB.2.1.count false + pB.1.toNat < 2 * pA.2.count false + pA.1.toNat
        rw [show pA.1 = true by assumption]
        cases hq : pB.1 with
        | true => have := q1.cnt hq; simp; omega
        | false => rw [q1.old hq]; simp
      · refine eP [] [] ?_ ?_ <;> repeat' first | exact eN | refine And.intro ?_ ?_
        exact fun i hi => teqs_refl _
  · have hr := p4 (by assumption)
    exact ⟨_, .give rfl (by omega) (by omega) (fun i hi => congrArg (fun t => [AV.b t]) (hr.eq hl i (by omega))) rfl⟩
theorem Without_F (f : FnE) (g : Int) (l : List Bool) (hl : isRG f g l) (hs : siz f < 4294967296) : ASpec Tryz.prog 47 [eS f,.i .i64 g] (eL l) [] := oL_frz (fun _=>rfl) (Without_S f g l hl hs)
theorem Reach_F (f : FnE) (l : List Bool) (hl : isRG f (-1) l) (hs : siz f < 4294967296) : ASpec Tryz.prog 24 [eS f] (eL l) [] := by
 refine ASpec.enter TYok mixed Tryz.func24 rfl Tryz.call24 Tryz.ntmps24 rfl (rs := [.tmp 2]) rfl (nodupB_ok rfl) (Clo.one rfl) (keep := [0,1,2]) ?_; conv=>whnf
 repeat' first|(refine iF (fun hb=>?_) (fun hb=>?_) <;> (try simp only [yv] at hb) <;> (have hc := hb; try simp only [sB,Int.reduceToNat] at hc; try simp only [addZ0] at hc) <;> first|(exfalso; omega)|conv=>whnf)|((first|refine ya ?_|refine yb ?_|refine yc ?_|refine yd ?_|refine yf ?_|refine yh ?_|refine yj ?_|refine dD ?_|refine dF ?_|refine d0 ?_|refine d1 ?_|refine dL ?_|refine dP ?_|refine yl ?_|refine ym ?_|refine yn ?_|refine ⟨_,fun _=>(IntKind.wrap_u64 _).symm,?_⟩); conv=>whnf)|((first|refine cK (fun _=>Without_F _ _ l hl hs) ?_|((try (refine CallW.lent ?_; (conv=>whnf); repeat (refine yb ?_; (conv=>whnf)))); refine cL (fun _=>Without_F _ _ l hl hs) ?_)); conv=>whnf)|(refine yt ?_; conv=>whnf)|exact ⟨_,.keep rfl rfl⟩|fail
def Dom (f : FnE) (a b : Nat) : Prop := RG f (-1) a /\ RG f (-1) b /\ (a = b \/ ¬RG f a b)
def isTab (f : FnE) (T : List (List Bool)) : Prop := T.length = f.blocks.length /\ ∀ a : Nat,a < f.blocks.length -> (T.getD a []).length = f.blocks.length /\ ∀ b : Nat,b < f.blocks.length -> ((T.getD a []).getD b false = true ↔ Dom f a b)
theorem isTab_ex (f : FnE) : ∃ T,isTab f T := by
 refine ⟨(List.range f.blocks.length).map fun a=>(List.range f.blocks.length).map fun b=>@decide (Dom f a b) (Classical.propDecidable _),by simp,fun a ha=>?_⟩
 have e : ((List.range f.blocks.length).map fun a=>(List.range f.blocks.length).map fun b=>@decide (Dom f a b) (Classical.propDecidable _)).getD a [] = (List.range f.blocks.length).map fun b=>@decide (Dom f a b) (Classical.propDecidable _) := by
  rw [List.getD_eq_getElem?_getD,List.getElem?_map,List.getElem?_range ha]; rfl
 rw [e]
 refine ⟨by simp,fun b hb=>?_⟩
 rw [List.getD_eq_getElem?_getD,List.getElem?_map,List.getElem?_range hb]
 simp
def tbO (T : List (List Bool)) (a c : Nat) : List Bool := if c < a then T.getD c [] else []
def rwI (T : List (List Bool)) (n a b : Nat) : List Bool := (List.range n).map fun k=>if k < b then (T.getD a []).getD k false else false
def tbI (T : List (List Bool)) (n a b c : Nat) : List Bool := if c < a then T.getD c [] else if c = a then rwI T n a b else []
theorem rwI_len (T : List (List Bool)) (n a b : Nat) : (rwI T n a b).length = n := by simp [rwI]
theorem rwI_get {T : List (List Bool)} {n a b k : Nat} (hk : k < n) : (rwI T n a b).getD k false = if k < b then (T.getD a []).getD k false else false := by
 unfold rwI
 rw [List.getD_eq_getElem?_getD,List.getElem?_map,List.getElem?_range hk]; rfl
theorem Table_F (f : FnE) (T : List (List Bool)) (hT : isTab f T) (hs : siz f < 4294967296) : ASpec Tryz.prog 78 [eS f] (eL T) [] := by
 have h1 := blocks_le f
 obtain ⟨all,hall⟩ := isRG_ex f (-1)
 obtain ⟨L,hL⟩ := Classical.axiomOfChoice fun a : Nat=>isRG_ex f a
 have h2 := hT.1
 have h3 := hall.1
 refine ASpec.enter TYok mixed Tryz.func78 rfl Tryz.call78 Tryz.ntmps78 rfl (rs := [.tmp 2]) rfl (nodupB_ok rfl) (Clo.one rfl) (keep := [0,1,2,3,4,5,6,7,8]) ?_; conv=>whnf
 repeat' first|(refine iF (fun hb=>?_) (fun hb=>?_) <;> (try simp only [yv] at hb) <;> (have hc := hb; try simp only [sB,Int.reduceToNat] at hc; try simp only [addZ0] at hc) <;> first|(exfalso; omega)|conv=>whnf)|((first|refine ya ?_|refine yb ?_|refine yc ?_|refine yd ?_|refine yf ?_|refine yh ?_|refine yj ?_|refine dD ?_|refine dF ?_|refine d0 ?_|refine d1 ?_|refine dL ?_|refine dP ?_|refine yl ?_|refine ym ?_|refine yn ?_|refine ⟨_,fun _=>(IntKind.wrap_u64 _).symm,?_⟩); conv=>whnf)|((first|refine cK (fun _=>Reach_F _ all hall hs) ?_|((try (refine CallW.lent ?_; (conv=>whnf); repeat (refine yb ?_; (conv=>whnf)))); refine cL (fun _=>Reach_F _ all hall hs) ?_)); conv=>whnf)|(refine yt ?_; conv=>whnf)|exact ⟨_,.keep rfl rfl⟩|fail
 refine lp [6] (fun a : Nat=>[.i .i64 a]) (fun a=>[(15,.tree 1 f.blocks.length fun c=>[eL (tbO T a c)]),(1,bx f)]) (fun a=>a <= f.blocks.length) (fun a=>f.blocks.length - a) 0 (by omega) ?_ fun a ha=>?_
 ·refine eP [] [] ?_ ?_ <;> repeat' first|exact eN|refine And.intro ?_ ?_
  exact fun i hi=>by rw [show (fun c=>[eL (tbO T 0 c)]) i = [eL ([] : List Bool)] from congrArg (fun l=>[eL l]) (if_neg (Nat.not_lt_zero _))]; exact And.intro rfl rfl
 conv=>whnf
 repeat' first|(refine iF (fun hb=>?_) (fun hb=>?_) <;> (try simp only [yv] at hb) <;> (have hc := hb; try simp only [sB,Int.reduceToNat] at hc; try simp only [addZ0] at hc) <;> first|(exfalso; omega)|conv=>whnf)|((first|refine ya ?_|refine yb ?_|refine yc ?_|refine yd ?_|refine yf ?_|refine yh ?_|refine yj ?_|refine dD ?_|refine dF ?_|refine d0 ?_|refine d1 ?_|refine dL ?_|refine dP ?_|refine yl ?_|refine ym ?_|refine yn ?_|refine ⟨_,fun _=>(IntKind.wrap_u64 _).symm,?_⟩); conv=>whnf)|((first|refine cK (fun _=>Without_F _ _ _ (hL a) hs) ?_|((try (refine CallW.lent ?_; (conv=>whnf); repeat (refine yb ?_; (conv=>whnf)))); refine cL (fun _=>Without_F _ _ _ (hL a) hs) ?_)); conv=>whnf)|(refine yt ?_; conv=>whnf)|exact ⟨_,.keep rfl rfl⟩|fail
 ·refine And.intro ⟨⟨by omega,fun _ _=>rfl⟩,by rw [addZ_eq]; omega⟩ ?_
  conv=>whnf
  repeat' first|(refine iF (fun hb=>?_) (fun hb=>?_) <;> (try simp only [yv] at hb) <;> (have hc := hb; try simp only [sB,Int.reduceToNat] at hc; try simp only [addZ0] at hc) <;> first|(exfalso; omega)|conv=>whnf)|((first|refine ya ?_|refine yb ?_|refine yc ?_|refine yd ?_|refine yf ?_|refine yh ?_|refine yj ?_|refine dD ?_|refine dF ?_|refine d0 ?_|refine d1 ?_|refine dL ?_|refine dP ?_|refine yl ?_|refine ym ?_|refine yn ?_|refine ⟨_,fun _=>(IntKind.wrap_u64 _).symm,?_⟩); conv=>whnf)|((first|refine cK (fun _=>Without_F _ _ _ (hL a) hs) ?_|((try (refine CallW.lent ?_; (conv=>whnf); repeat (refine yb ?_; (conv=>whnf)))); refine cL (fun _=>Without_F _ _ _ (hL a) hs) ?_)); conv=>whnf)|(refine yt ?_; conv=>whnf)|exact ⟨_,.keep rfl rfl⟩|fail
  have h4 := (hL a).1
  refine lp [8] (fun b : Nat=>[.i .i64 b]) (fun b=>[(15,.tree 1 f.blocks.length fun c=>[eL (tbI T f.blocks.length a b c)]),(1,bx f)]) (fun b=>b <= f.blocks.length) (fun b=>f.blocks.length - b) 0 (by omega) ?_ fun b hb=>?_
  ·refine eP [] [] ?_ ?_ <;> repeat' first|exact eN|refine And.intro ?_ ?_
   refine fun i hi=>tree_putR (g' := fun c=>[eL (tbI T f.blocks.length a 0 c)]) (fun _=>⟨_,rfl⟩) (fun e=>⟨_,rfl,?_⟩) fun e=>teqs_of (congrArg (fun l=>[eL l]) ?_)
   ·have e' : i = a := by rw [addZ_eq] at e; omega
    subst e'
    unfold eL teq
    have e2 : tbI T f.blocks.length i 0 i = rwI T f.blocks.length i 0 := by unfold tbI; rw [if_neg (Nat.lt_irrefl _),if_pos rfl]
    rw [e2,rwI_len]
    refine ⟨rfl,by omega,fun k hk=>teqs_of (congrArg (fun t=>[AV.b t]) ?_)⟩
    show false = (rwI T f.blocks.length i 0).getD k false
    rw [rwI_get hk,if_neg (Nat.not_lt_zero _)]
   ·rw [addZ_eq] at e
    unfold tbO tbI
    split
    ·rfl
    ·rw [if_neg (by omega)]
  conv=>whnf
  have h5 : (tbI T f.blocks.length a b (addZ 0 (a : Int).toNat)).length = f.blocks.length := by
   show (tbI T f.blocks.length a b a).length = f.blocks.length
   unfold tbI; rw [if_neg (Nat.lt_irrefl _),if_pos rfl,rwI_len]
  repeat' first|(refine iF (fun hb=>?_) (fun hb=>?_) <;> (try simp only [yv] at hb) <;> (have hc := hb; try simp only [sB,Int.reduceToNat] at hc; try simp only [addZ0] at hc) <;> first|(exfalso; omega)|conv=>whnf)|((first|refine ya ?_|refine yb ?_|refine yc ?_|refine yd ?_|refine yf ?_|refine yh ?_|refine yj ?_|refine dD ?_|refine dF ?_|refine d0 ?_|refine d1 ?_|refine dL ?_|refine dP ?_|refine yl ?_|refine ym ?_|refine yn ?_|refine ⟨_,fun _=>(IntKind.wrap_u64 _).symm,?_⟩); conv=>whnf)|(refine yt ?_; conv=>whnf)|exact ⟨_,.keep rfl rfl⟩|fail
  ·refine And.intro ⟨by omega,by omega,by rw [addZ_eq]; omega⟩ ?_
   conv=>whnf
   repeat' first|(refine iF (fun hb=>?_) (fun hb=>?_) <;> (try simp only [yv] at hb) <;> (have hc := hb; try simp only [sB,Int.reduceToNat] at hc; try simp only [addZ0] at hc) <;> first|(exfalso; omega)|conv=>whnf)|((first|refine ya ?_|refine yb ?_|refine yc ?_|refine yd ?_|refine yf ?_|refine yh ?_|refine yj ?_|refine dD ?_|refine dF ?_|refine d0 ?_|refine d1 ?_|refine dL ?_|refine dP ?_|refine yl ?_|refine ym ?_|refine yn ?_|refine ⟨_,fun _=>(IntKind.wrap_u64 _).symm,?_⟩); conv=>whnf)|(refine yt ?_; conv=>whnf)|exact ⟨_,.keep rfl rfl⟩|fail
   refine And.intro (by rw [addZ_eq]; omega) ?_
   conv=>whnf
   repeat' first|(refine iF (fun hb=>?_) (fun hb=>?_) <;> (try simp only [yv] at hb) <;> (have hc := hb; try simp only [sB,Int.reduceToNat] at hc; try simp only [addZ0] at hc) <;> first|(exfalso; omega)|conv=>whnf)|((first|refine ya ?_|refine yb ?_|refine yc ?_|refine yd ?_|refine yf ?_|refine yh ?_|refine yj ?_|refine dD ?_|refine dF ?_|refine d0 ?_|refine d1 ?_|refine dL ?_|refine dP ?_|refine yl ?_|refine ym ?_|refine yn ?_|refine ⟨_,fun _=>(IntKind.wrap_u64 _).symm,?_⟩); conv=>whnf)|(refine yt ?_; conv=>whnf)|exact ⟨_,.keep rfl rfl⟩|fail
   refine .mk (b + 1) (by omega) (by omega) ?_
   refine eP [] [] ?_ ?_ <;> repeat' first|exact eN|refine And.intro ?_ ?_
   refine fun t ht=>tree_setB (G' := fun c=>[eL (tbI T f.blocks.length a (b + 1) c)]) (n := f.blocks.length) (g := fun i=>(rwI T f.blocks.length a b).getD i false) (g' := fun i=>(rwI T f.blocks.length a (b + 1)).getD i false) (fun e=>?_) (fun e=>?_) (fun e i hi=>?_) fun e=>?_
   ·have e2 : tbI T f.blocks.length a b (addZ 0 (a : Int).toNat) = rwI T f.blocks.length a b := by show tbI T f.blocks.length a b a = _; unfold tbI; rw [if_neg (Nat.lt_irrefl _),if_pos rfl]
    rw [e2]
    show [AV.row none 1 (rwI T f.blocks.length a b).length _] = _
    rw [rwI_len]; rfl
   ·have e' : t = a := by rw [addZ_eq] at e; omega
    subst e'
    have e2 : tbI T f.blocks.length t (b + 1) t = rwI T f.blocks.length t (b + 1) := by unfold tbI; rw [if_neg (Nat.lt_irrefl _),if_pos rfl]
    show [eL (tbI T f.blocks.length t (b + 1) t)] = _
    rw [e2]
    show [AV.row none 1 (rwI T f.blocks.length t (b + 1)).length _] = _
    rw [rwI_len]; rfl
   ·rw [rwI_get hi,rwI_get hi,show addZ 0 (b : Int).toNat = b from rfl]
    by_cases q : i = b
    ·subst q
     rw [if_pos (by omega),if_pos rfl,pickB_and,pickB_and,pickB_or]
     show (T.getD a []).getD i false = (((all.getD a false && all.getD i false) && (decide ((a : Int) = i) || !(L a).getD i false)))
     rw [Bool.eq_iff_iff,(hT.2 a (by omega)).2 i hi]
     simp only [Bool.and_eq_true,Bool.or_eq_true,decide_eq_true_eq,Bool.not_eq_true',Dom]
     rw [hall.2 a (by omega),hall.2 i hi,<- Bool.not_eq_true,(hL a).2 i hi]
     constructor
     ·rintro ⟨x1,x2,x3⟩; exact ⟨⟨x1,x2⟩,x3.imp (fun h=>by omega) id⟩
     ·rintro ⟨⟨x1,x2⟩,x3⟩; exact ⟨x1,x2,x3.imp (fun h=>by omega) id⟩
    ·rw [if_neg q]
     by_cases q2 : i < b
     ·rw [if_pos q2,if_pos (by omega)]
     ·rw [if_neg q2,if_neg (by omega)]
   ·have e' : t ≠ a := fun h=>e (by rw [addZ_eq]; omega)
    show [eL (tbI T f.blocks.length a (b + 1) t)] = [eL (tbI T f.blocks.length a b t)]
    unfold tbI
    rw [if_neg e',if_neg e']
  ·refine .mk (a + 1) (by omega) (by omega) ?_
   refine eP [] [] ?_ ?_ <;> repeat' first|exact eN|refine And.intro ?_ ?_
   refine fun c hc=>teqs_of (congrArg (fun l=>[eL l]) ?_)
   unfold tbI tbO
   by_cases q : c < a
   ·rw [if_pos q,if_pos (by omega)]
   ·rw [if_neg q]
    by_cases q2 : c = a
    ·subst q2
     rw [if_pos rfl,if_pos (by omega)]
     refine List.ext_getElem (by rw [rwI_len,(hT.2 c (by omega)).1]) fun k h6 h7=>?_
     have h8 := rwI_get (T := T) (n := f.blocks.length) (a := c) (b := b) (k := k) (by rw [rwI_len] at h6; exact h6)
     rw [if_pos (by rw [rwI_len] at h6; omega),List.getD_eq_getElem?_getD,List.getD_eq_getElem?_getD,List.getElem?_eq_getElem h6,List.getElem?_eq_getElem h7] at h8
     exact h8
    ·rw [if_neg q2,if_neg (by omega)]
 ·refine ⟨_,.freezeT rfl (by omega) (by omega) (fun i hi=>teqs_of (congrArg (fun l=>[eL l]) ?_)) rfl⟩
  unfold tbO
  rw [if_pos (by omega)]
  rfl
def ordC (f : FnE) (R : List Bool) (T : List (List Bool)) (i k : Nat) : Int :=
 if ¬(((C1 f).getD i Enc.d).args.getD k Enc.d).k = 1 \/ (((C1 f).getD i Enc.d).args.getD k Enc.d).n < f.params.length then 0
 else if R.getD ((C2 f).getD i Enc.d).b.toNat Enc.d = false then 0
 else if ((C1 f).getD i Enc.d).op = 25 then
  if R.getD (((C1 f).getD i Enc.d).to.getD k Enc.d).toNat Enc.d = false then 0
  else if (T.getD (Def f (((C1 f).getD i Enc.d).args.getD k Enc.d).n).1.b.toNat Enc.d).getD (((C1 f).getD i Enc.d).to.getD k Enc.d).toNat Enc.d = false then 11 else 0
 else if (Def f (((C1 f).getD i Enc.d).args.getD k Enc.d).n).1.b = ((C2 f).getD i Enc.d).b then
  if (Def f (((C1 f).getD i Enc.d).args.getD k Enc.d).n).1.i < ((C2 f).getD i Enc.d).i then 0 else 11
 else if (T.getD (Def f (((C1 f).getD i Enc.d).args.getD k Enc.d).n).1.b.toNat Enc.d).getD ((C2 f).getD i Enc.d).b.toNat Enc.d = false then 11 else 0
def ordI (f : FnE) (n : Int) (R : List Bool) (T : List (List Bool)) (i : Nat) : FaultE := match firstC (ordC f R T i) ((C1 f).getD i Enc.d).args.length with
 | some k=>at2 f n 11 i
 | none=>⟨0,⟨0,0,0⟩⟩
def orderF (f : FnE) (n : Int) (R : List Bool) (T : List (List Bool)) : FaultE := firstF (ordI f n R T) (Code f).length
theorem Def_b (f : FnE) (r : Int) (h : 0 < f.blocks.length) : 0 <= (Def f r).1.b /\ (Def f r).1.b < f.blocks.length := by
 unfold Def
 split
 ·rename_i p hp
  obtain ⟨b,k,h1,h2,h3⟩ := Code_mem (List.mem_of_find?_eq_some hp)
  rw [h3]; exact ⟨Int.natCast_nonneg _,by show (b : Int) < _; omega⟩
 ·exact ⟨Int.le_refl _,by show (0 : Int) < _; omega⟩
theorem order_S (f : FnE) (n : Int) (R : List Bool) (T : List (List Bool)) (hR : isRG f (-1) R) (hT : isTab f T) (hs : siz f < 4294967296)
  (hp1 : ∀ i,i < (Code f).length -> ((C1 f).getD i Enc.d).op = 25 -> ((C1 f).getD i Enc.d).args.length = ((C1 f).getD i Enc.d).to.length)
  (hp2 : ∀ i,i < (Code f).length -> ((C1 f).getD i Enc.d).op = 25 -> ∀ t ∈ ((C1 f).getD i Enc.d).to,0 <= t /\ t < f.blocks.length) : ASpec Tryz.prog 44 [eS f,.i .i64 n] (eS (orderF f n R T)) [] := by
 have h1 := Code_siz f
 have h2 := C1_len f
 have h3 := C2_len f
 have hR1 := hR.1
 have hT1 := hT.1
 have hpl := params_le f
 refine ASpec.enter TYok mixed Tryz.func44 rfl Tryz.call44 Tryz.ntmps44 rfl (rs := [.cell 4 54]) rfl (nodupB_ok rfl) (Clo.one rfl) (keep := [0,1,2,4,5,6,7,8,9,10,11,12,14,15]) ?_; conv=>whnf
 repeat' first|(refine iF (fun hb=>?_) (fun hb=>?_) <;> (try simp only [yv] at hb) <;> (have hc := hb; try simp only [sB,Int.reduceToNat] at hc; try simp only [addZ0] at hc) <;> first|(exfalso; omega)|conv=>whnf)|((first|refine ya ?_|refine yb ?_|refine yc ?_|refine yd ?_|refine yf ?_|refine yh ?_|refine yj ?_|refine dD ?_|refine dF ?_|refine d0 ?_|refine d1 ?_|refine dL ?_|refine dP ?_|refine yl ?_|refine ym ?_|refine yn ?_|refine ⟨_,fun _=>(IntKind.wrap_u64 _).symm,?_⟩); conv=>whnf)|((first|refine cK (fun _=>Reach_F f R hR hs) ?_|((try (refine CallW.lent ?_; (conv=>whnf); repeat (refine yb ?_; (conv=>whnf)))); refine cL (fun _=>Reach_F f R hR hs) ?_)); conv=>whnf)|((first|refine cK (fun _=>Table_F f T hT hs) ?_|((try (refine CallW.lent ?_; (conv=>whnf); repeat (refine yb ?_; (conv=>whnf)))); refine cL (fun _=>Table_F f T hT hs) ?_)); conv=>whnf)|((first|refine cK (fun _=>Code_C 140 141 (by decide) f hs) ?_|((try (refine CallW.lent ?_; (conv=>whnf); repeat (refine yb ?_; (conv=>whnf)))); refine cL (fun _=>Code_C 140 141 (by decide) f hs) ?_)); conv=>whnf)|(refine yt ?_; conv=>whnf)|exact ⟨_,.keep rfl rfl⟩|fail
 refine lp [9] (fun q : Nat=>[.i .i64 q]) (fun q=>[(2,bx f),(4,bx (Enc.d : FaultE)),(140,oL (C1 f)),(141,oL (C2 f))]) (fun q=>q <= (Code f).length /\ ∀ i,i < q -> (ordI f n R T i).code = 0) (fun q=>(Code f).length - q) 0 ⟨by omega,fun i h=>by omega⟩ ?_ fun q hq=>?_
 ·refine eP [] [] ?_ ?_ <;> repeat' first|exact eN|refine And.intro ?_ ?_
 conv=>whnf
 obtain ⟨hq,hv⟩ := hq
 repeat' first|(refine iF (fun hb=>?_) (fun hb=>?_) <;> (try simp only [yv] at hb) <;> (have hc := hb; try simp only [sB,Int.reduceToNat] at hc; try simp only [addZ0] at hc) <;> first|(exfalso; omega)|conv=>whnf)|((first|refine ya ?_|refine yb ?_|refine yc ?_|refine yd ?_|refine yf ?_|refine yh ?_|refine yj ?_|refine dD ?_|refine dF ?_|refine d0 ?_|refine d1 ?_|refine dL ?_|refine dP ?_|refine yl ?_|refine ym ?_|refine yn ?_|refine ⟨_,fun _=>(IntKind.wrap_u64 _).symm,?_⟩); conv=>whnf)|(refine yt ?_; conv=>whnf)|exact ⟨_,.keep rfl rfl⟩|fail
 ·have hq1 : q < (Code f).length := by omega
  obtain ⟨b0,k0,h5,h6,h7,h8⟩ := Code_get (f := f) (q := q) hq1
  have h9 : ((C2 f).getD q Enc.d).b = b0 := by rw [h8]
  have h10 : ((C2 f).getD q Enc.d).i = k0 := by rw [h8]
  have h9' : ((C2 f).getD (addZ 0 (q : Int).toNat) Enc.d).b = b0 := h9
  have h10' : ((C2 f).getD (addZ 0 (q : Int).toNat) Enc.d).i = k0 := h10
  have h11 := C1_to (f := f) (q := q) (by omega)
  have h12 := C1_args (f := f) (q := q) (by omega)
  refine lp [10] (fun k : Nat=>[.i .i64 k]) (fun q=>[(2,bx f),(4,bx (Enc.d : FaultE)),(140,oL (C1 f)),(141,oL (C2 f))]) (fun k=>k <= ((C1 f).getD q Enc.d).args.length /\ ∀ j,j < k -> ordC f R T q j = 0) (fun k=>((C1 f).getD q Enc.d).args.length - k) 0 ⟨by omega,fun i h=>by omega⟩ ?_ fun k hk=>?_
  ·refine eP [] [] ?_ ?_ <;> repeat' first|exact eN|refine And.intro ?_ ?_
  conv=>whnf
  obtain ⟨hk,hw⟩ := hk
  have hd : 0 <= (Def f (((C1 f).getD (addZ 0 (q : Int).toNat) Enc.d).args.getD (k : Int).toNat Enc.d).n).1.b /\ (Def f (((C1 f).getD (addZ 0 (q : Int).toNat) Enc.d).args.getD (k : Int).toNat Enc.d).n).1.b < f.blocks.length := Def_b f _ (by omega)
  have hTl : (T.getD (Def f (((C1 f).getD (addZ 0 (q : Int).toNat) Enc.d).args.getD (k : Int).toNat Enc.d).n).1.b.toNat Enc.d).length = f.blocks.length := (hT.2 _ (by omega)).1
  repeat' first|(refine iF (fun hb=>?_) (fun hb=>?_) <;> (try simp only [yv] at hb) <;> (have hc := hb; try simp only [sB,Int.reduceToNat] at hc; try simp only [addZ0] at hc) <;> first|(exfalso; omega)|conv=>whnf)|((first|refine ya ?_|refine yb ?_|refine yc ?_|refine yd ?_|refine yf ?_|refine yh ?_|refine yj ?_|refine dD ?_|refine dF ?_|refine d0 ?_|refine d1 ?_|refine dL ?_|refine dP ?_|refine yl ?_|refine ym ?_|refine yn ?_|refine ⟨_,fun _=>(IntKind.wrap_u64 _).symm,?_⟩); conv=>whnf)|(refine yt ?_; conv=>whnf)|exact ⟨_,.keep rfl rfl⟩|fail
  ·refine .mk (k + 1) ⟨by omega,all_step hw (by rw [ordC,if_pos hc])⟩ (by omega) ?_
   refine eP [] [] ?_ ?_ <;> repeat' first|exact eN|refine And.intro ?_ ?_
  ·have hA : ¬(¬(((C1 f).getD q Enc.d).args.getD k Enc.d).k = 1 \/ (((C1 f).getD q Enc.d).args.getD k Enc.d).n < f.params.length) := fun h=>h.elim (fun x=>x hc.1) hc.2
   repeat' first|(refine iF (fun hb=>?_) (fun hb=>?_) <;> (try simp only [yv] at hb) <;> (have hc := hb; try simp only [sB,Int.reduceToNat] at hc; try simp only [addZ0] at hc) <;> first|(exfalso; omega)|conv=>whnf)|((first|refine ya ?_|refine yb ?_|refine yc ?_|refine yd ?_|refine yf ?_|refine yh ?_|refine yj ?_|refine dD ?_|refine dF ?_|refine d0 ?_|refine d1 ?_|refine dL ?_|refine dP ?_|refine yl ?_|refine ym ?_|refine yn ?_|refine ⟨_,fun _=>(IntKind.wrap_u64 _).symm,?_⟩); conv=>whnf)|((first|refine cK (fun _=>Def_S f _ hs) ?_|((try (refine CallW.lent ?_; (conv=>whnf); repeat (refine yb ?_; (conv=>whnf)))); refine cL (fun _=>Def_S f _ hs) ?_)); conv=>whnf)|((first|refine cK (fun _=>at_S _ _ _ _) ?_|((try (refine CallW.lent ?_; (conv=>whnf); repeat (refine yb ?_; (conv=>whnf)))); refine cL (fun _=>at_S _ _ _ _) ?_)); conv=>whnf)|(refine yt ?_; conv=>whnf)|exact ⟨_,.keep rfl rfl⟩|fail
   ·refine .mk (k + 1) ⟨by omega,all_step hw (by rw [ordC,if_neg hA,if_pos hc])⟩ (by omega) ?_
    refine eP [] [] ?_ ?_ <;> repeat' first|exact eN|refine And.intro ?_ ?_
   ·have hB : ¬R.getD ((C2 f).getD q Enc.d).b.toNat Enc.d = false := bf (by assumption)
    have h13 := hp1 q hq1 hc
    have h14 : ((C1 f).getD (addZ 0 (q : Int).toNat) Enc.d).to.length = ((C1 f).getD q Enc.d).args.length := h13.symm
    have h15 : 0 <= ((C1 f).getD (addZ 0 (q : Int).toNat) Enc.d).to.getD (k : Int).toNat Enc.d /\ ((C1 f).getD (addZ 0 (q : Int).toNat) Enc.d).to.getD (k : Int).toNat Enc.d < f.blocks.length := by
     refine hp2 q hq1 hc _ ?_
     show ((C1 f).getD q Enc.d).to.getD k Enc.d ∈ _
     have h16 : k < ((C1 f).getD q Enc.d).to.length := by omega
     have h17 : ((C1 f).getD q Enc.d).to.getD k Enc.d = ((C1 f).getD q Enc.d).to[k] := by rw [List.getD_eq_getElem?_getD (l := ((C1 f).getD q Enc.d).to),List.getElem?_eq_getElem h16]; rfl
     rw [h17]
     exact List.getElem_mem _
    have hC := hc
    refine And.intro (by omega) ?_
    conv=>whnf
    repeat' first|(refine iF (fun hb=>?_) (fun hb=>?_) <;> (try simp only [yv] at hb) <;> (have hc := hb; try simp only [sB,Int.reduceToNat] at hc; try simp only [addZ0] at hc) <;> first|(exfalso; omega)|conv=>whnf)|((first|refine ya ?_|refine yb ?_|refine yc ?_|refine yd ?_|refine yf ?_|refine yh ?_|refine yj ?_|refine dD ?_|refine dF ?_|refine d0 ?_|refine d1 ?_|refine dL ?_|refine dP ?_|refine yl ?_|refine ym ?_|refine yn ?_|refine ⟨_,fun _=>(IntKind.wrap_u64 _).symm,?_⟩); conv=>whnf)|((first|refine cK (fun _=>at_S _ _ _ _) ?_|((try (refine CallW.lent ?_; (conv=>whnf); repeat (refine yb ?_; (conv=>whnf)))); refine cL (fun _=>at_S _ _ _ _) ?_)); conv=>whnf)|(refine yt ?_; conv=>whnf)|exact ⟨_,.keep rfl rfl⟩|fail
    ·refine .mk (k + 1) ⟨by omega,all_step hw (by rw [ordC,if_neg hA,if_neg hB,if_pos hC,if_pos hc])⟩ (by omega) ?_
     refine eP [] [] ?_ ?_ <;> repeat' first|exact eN|refine And.intro ?_ ?_
    ·have e : ordC f R T q k = 11 := by rw [ordC,if_neg hA,if_neg hB,if_pos hC,if_neg (bf (by assumption)),if_pos hc]
     have e2 : ordI f n R T q = at2 f n 11 q := by rw [ordI,firstC_at (c := ordC f R T q) (by omega) hw (by rw [e]; decide)]
     exact ⟨_,.keep (by rw [orderF,firstF_at (by omega) hv e2 (by simp)]; rfl) rfl⟩
    ·refine .mk (k + 1) ⟨by omega,all_step hw (by rw [ordC,if_neg hA,if_neg hB,if_pos hC,if_neg (bf (by assumption)),if_neg (bf hc)])⟩ (by omega) ?_
     refine eP [] [] ?_ ?_ <;> repeat' first|exact eN|refine And.intro ?_ ?_
   ·skip
    have hB : ¬R.getD ((C2 f).getD q Enc.d).b.toNat Enc.d = false := bf (by assumption)
    have hC : ¬((C1 f).getD q Enc.d).op = 25 := by assumption
    have hD : ¬((C1 f).getD q Enc.d).op = 25 /\ (Def f (((C1 f).getD q Enc.d).args.getD k Enc.d).n).1.b = ((C2 f).getD q Enc.d).b := by assumption
    have e : ordC f R T q k = 11 := by rw [ordC,if_neg hA,if_neg hB,if_neg hC,if_pos hD.2,if_neg hc]
    have e2 : ordI f n R T q = at2 f n 11 q := by rw [ordI,firstC_at (c := ordC f R T q) (by omega) hw (by rw [e]; decide)]
    exact ⟨_,.keep (by rw [orderF,firstF_at (by omega) hv e2 (by simp)]; rfl) rfl⟩
   ·skip
    have hB : ¬R.getD ((C2 f).getD q Enc.d).b.toNat Enc.d = false := bf (by assumption)
    have hC : ¬((C1 f).getD q Enc.d).op = 25 := by assumption
    have hD : ¬((C1 f).getD q Enc.d).op = 25 /\ (Def f (((C1 f).getD q Enc.d).args.getD k Enc.d).n).1.b = ((C2 f).getD q Enc.d).b := by assumption
    refine .mk (k + 1) ⟨by omega,all_step hw (by rw [ordC,if_neg hA,if_neg hB,if_neg hC,if_pos hD.2,if_pos hc])⟩ (by omega) ?_
    refine eP [] [] ?_ ?_ <;> repeat' first|exact eN|refine And.intro ?_ ?_
   ·skip
    have hB : ¬R.getD ((C2 f).getD q Enc.d).b.toNat Enc.d = false := bf (by assumption)
    have hC : ¬((C1 f).getD q Enc.d).op = 25 := by assumption
    have hD : ¬(Def f (((C1 f).getD q Enc.d).args.getD k Enc.d).n).1.b = ((C2 f).getD q Enc.d).b := Or.resolve_left (by assumption : ((C1 f).getD q Enc.d).op = 25 \/ ¬(Def f (((C1 f).getD q Enc.d).args.getD k Enc.d).n).1.b = ((C2 f).getD q Enc.d).b) hC
    have e : ordC f R T q k = 11 := by rw [ordC,if_neg hA,if_neg hB,if_neg hC,if_neg hD,if_pos hc]
    have e2 : ordI f n R T q = at2 f n 11 q := by rw [ordI,firstC_at (c := ordC f R T q) (by omega) hw (by rw [e]; decide)]
    exact ⟨_,.keep (by rw [orderF,firstF_at (by omega) hv e2 (by simp)]; rfl) rfl⟩
   ·skip
    have hB : ¬R.getD ((C2 f).getD q Enc.d).b.toNat Enc.d = false := bf (by assumption)
    have hC : ¬((C1 f).getD q Enc.d).op = 25 := by assumption
    have hD : ¬(Def f (((C1 f).getD q Enc.d).args.getD k Enc.d).n).1.b = ((C2 f).getD q Enc.d).b := Or.resolve_left (by assumption : ((C1 f).getD q Enc.d).op = 25 \/ ¬(Def f (((C1 f).getD q Enc.d).args.getD k Enc.d).n).1.b = ((C2 f).getD q Enc.d).b) hC
    refine .mk (k + 1) ⟨by omega,all_step hw (by rw [ordC,if_neg hA,if_neg hB,if_neg hC,if_neg hD,if_neg (bf hc)])⟩ (by omega) ?_
    refine eP [] [] ?_ ?_ <;> repeat' first|exact eN|refine And.intro ?_ ?_
  ·have e2 : ordI f n R T q = ⟨0,⟨0,0,0⟩⟩ := by rw [ordI,firstC_no fun i hi=>hw i (by omega)]
   refine .mk (q + 1) ⟨by omega,all_step hv (by rw [e2])⟩ (by omega) ?_
   refine eP [] [] ?_ ?_ <;> repeat' first|exact eN|refine And.intro ?_ ?_
 ·exact ⟨_,.keep (by rw [orderF,firstF_no fun i hi=>hv i (by omega)]; rfl) rfl⟩
theorem firstF_zero {c : Nat -> FaultE} {n : Nat} (h : (firstF c n).code = 0) : ∀ i,i < n -> (c i).code = 0 := fun i hi=>by
 unfold firstF firstC at h
 cases hq : (List.range n).find? (fun i=>!decide ((c i).code = 0)) with
 | none =>
  have := List.find?_eq_none.1 hq i (List.mem_range.2 hi)
  simpa using this
 | some j =>
  rw [hq] at h
  have h2 := List.find?_some hq
  simp only [Bool.not_eq_true',decide_eq_false_iff_not] at h2
  exact absurd h h2
def chk (m : ModE) (R : FnE -> List Bool) (T : FnE -> List (List Bool)) (f : FnE) (n : Int) : FaultE :=
 if (blocksF f n).code = 0 then
  if (formsF m f n).code = 0 then
   if (registersF f n).code = 0 then
    if (operandsF m f n).code = 0 then
     if (phisF f n).code = 0 then orderF f n (R f) (T f) else phisF f n
    else operandsF m f n
   else registersF f n
  else formsF m f n
 else blocksF f n
def chkN (m : ModE) (R : FnE -> List Bool) (T : FnE -> List (List Bool)) : Nat -> FaultE
 | 0=>headsF m
 | k + 1=>if (chkN m R T k).code = 0 then chk m R T (m.funcs.getD k Enc.d) k else chkN m R T k
def CheckF (m : ModE) (R : FnE -> List Bool) (T : FnE -> List (List Bool)) : FaultE := chkN m R T m.funcs.length
theorem chkN_stay {m : ModE} {R : FnE → List Bool} {T : FnE → List (List Bool)} {k : Nat} (h : (chkN m R T k).code ≠ 0) : ∀ j, k ≤ j → chkN m R T j = chkN m R T k
  | 0, hj => by obtain rfl : k = 0 := by omega
                rfl
  | j + 1, hj => by
    by_cases e : k = j + 1
    · subst e; rfl
    · have ih := chkN_stay h j (by omega)
      rw [chkN, if_neg (by rw [ih]; exact h), ih]
theorem forms_call {m : ModE} {f : FnE} {n : Int} (h : (formsF m f n).code = 0) (i : Nat) (hi : i < (Code f).length) (ho : ((C1 f).getD i Enc.d).op = 30) : ((C1 f).getD i Enc.d).args.length = (Callee m ((C1 f).getD i Enc.d).n).1.length := by
 have h1 := firstF_zero h i hi
 unfold formC at h1
 split at h1
 ·simp at h1
 ·split at h1
  ·simp at h1
  ·have h2 : typedF m f ((C1 f).getD i Enc.d) = 0 := h1
   unfold typedF at h2
   rw [if_neg (by rw [ho]; decide),if_pos ho] at h2
   split at h2
   ·simp at h2
   ·split at h2
    ·simp at h2
    ·split at h2
     ·simp at h2
     ·rename_i q; exact (Decidable.not_not.1 q).symm
theorem forms_phi {m : ModE} {f : FnE} {n : Int} (h : (formsF m f n).code = 0) (i : Nat) (hi : i < (Code f).length) (ho : ((C1 f).getD i Enc.d).op = 25) : ((C1 f).getD i Enc.d).args.length = ((C1 f).getD i Enc.d).to.length := by
 have h1 := firstF_zero h i hi
 unfold formC at h1
 split at h1
 ·simp at h1
 ·rename_i q
  unfold formedF at q
  split at q
  ·exact absurd rfl q
  ·rename_i q2
   have e : many f ((C1 f).getD i Enc.d) = ((((C1 f).getD i Enc.d).args.length : Int),(((C1 f).getD i Enc.d).args.length : Int)) := by
    unfold many; rw [if_neg (by rw [ho]; decide),if_pos ho]
   rw [e] at q2
   simp only [not_or,Decidable.not_not] at q2
   have := q2.2
   omega
theorem cnt_mem {f : FnE} {t x : Int} {k : Nat} (h : x ∈ cnt f t k) : 0 <= x /\ x < k := by
 unfold cnt at h
 obtain ⟨c,hc,h⟩ := List.mem_flatMap.1 h
 rw [List.mem_replicate] at h
 have := List.mem_range.1 hc
 omega
theorem phis_to {f : FnE} {n : Int} (h : (phisF f n).code = 0) (i : Nat) (hi : i < (Code f).length) (ho : ((C1 f).getD i Enc.d).op = 25) : ∀ t ∈ ((C1 f).getD i Enc.d).to,0 <= t /\ t < f.blocks.length := fun t ht=>by
 have h1 := firstF_zero h i hi
 unfold phiC at h1
 rw [if_neg (fun q=>q ho)] at h1
 split at h1
 ·simp at h1
 ·rename_i q
  unfold phiOk at q
  simp only [Bool.not_eq_false,Bool.and_eq_true,decide_eq_true_eq] at q
  rw [q.1.2] at ht
  obtain ⟨b,k,h5,_,_,h8⟩ := Code_get hi
  rw [h8] at ht
  simp only [Int.toNat_natCast] at ht
  unfold PredsL at ht
  rw [List.getD_eq_getElem?_getD,List.getElem?_map,List.getElem?_range h5] at ht
  exact cnt_mem ht
theorem fn_le (m : ModE) (i : Nat) : siz (m.funcs.getD i Enc.d) <= siz m := by have := siz_at m.funcs i; have e : siz m = siz m.vars + siz m.exts + siz m.funcs := rfl; omega
theorem funcs_le (m : ModE) : m.funcs.length <= siz m := by have := len_siz m.funcs; have e : siz m = siz m.vars + siz m.exts + siz m.funcs := rfl; omega
theorem Check_S (m : ModE) (R : FnE -> List Bool) (T : FnE -> List (List Bool)) (hR : ∀ f,isRG f (-1) (R f)) (hT : ∀ f,isTab f (T f)) (hs : siz m < 4294967296) (hr : ∀ b i,inI ((C1 (m.funcs.getD b Enc.d)).getD i Enc.d).n) : ASpec Tryz.prog 21 [eS m] (eS (CheckF m R T)) [] := by
 have hsf : ∀ i : Nat,siz (m.funcs.getD i Enc.d) < 4294967296 := fun i=>Nat.lt_of_le_of_lt (fn_le m i) hs
 have hfl := funcs_le m
 refine ASpec.enter TYok mixed Tryz.func21 rfl Tryz.call21 Tryz.ntmps21 rfl (rs := [.cell 2 54]) rfl (nodupB_ok rfl) (Clo.one rfl) (keep := [0,1,2,3,4,5]) ?_; conv=>whnf
 repeat' first|(refine iF (fun hb=>?_) (fun hb=>?_) <;> (try simp only [yv] at hb) <;> (have hc := hb; try simp only [sB,Int.reduceToNat] at hc; try simp only [addZ0] at hc) <;> first|(exfalso; omega)|conv=>whnf)|((first|refine ya ?_|refine yb ?_|refine yc ?_|refine yd ?_|refine yf ?_|refine yh ?_|refine yj ?_|refine dD ?_|refine dF ?_|refine d0 ?_|refine d1 ?_|refine dL ?_|refine dP ?_|refine yl ?_|refine ym ?_|refine yn ?_|refine ⟨_,fun _=>(IntKind.wrap_u64 _).symm,?_⟩); conv=>whnf)|((first|refine cK (fun _=>heads_S m hs) ?_|((try (refine CallW.lent ?_; (conv=>whnf); repeat (refine yb ?_; (conv=>whnf)))); refine cL (fun _=>heads_S m hs) ?_)); conv=>whnf)|(refine yt ?_; conv=>whnf)|exact ⟨_,.keep rfl rfl⟩|fail
 refine lp [4] (fun q : Nat=>[.i .i64 q]) (fun q=>[(3,bx (chkN m R T q)),(1,bx m),(2,bx (Enc.d : FaultE))]) (fun q=>q <= m.funcs.length) (fun q=>m.funcs.length - q) 0 (by omega) ?_ fun q hq=>?_
 ·refine eP [] [] ?_ ?_ <;> repeat' first|exact eN|refine And.intro ?_ ?_
  all_goals skip
 conv=>whnf
 have hq1 := hsf q
 repeat' first|(refine iF (fun hb=>?_) (fun hb=>?_) <;> (try simp only [yv] at hb) <;> (have hc := hb; try simp only [sB,Int.reduceToNat] at hc; try simp only [addZ0] at hc) <;> first|(exfalso; omega)|conv=>whnf)|((first|refine ya ?_|refine yb ?_|refine yc ?_|refine yd ?_|refine yf ?_|refine yh ?_|refine yj ?_|refine dD ?_|refine dF ?_|refine d0 ?_|refine d1 ?_|refine dL ?_|refine dP ?_|refine yl ?_|refine ym ?_|refine yn ?_|refine ⟨_,fun _=>(IntKind.wrap_u64 _).symm,?_⟩); conv=>whnf)|((first|refine cK (fun _=>blocks_S _ _ hq1) ?_|((try (refine CallW.lent ?_; (conv=>whnf); repeat (refine yb ?_; (conv=>whnf)))); refine cL (fun _=>blocks_S _ _ hq1) ?_)); conv=>whnf)|((first|refine cK (fun _=>forms_S _ _ _ hs hq1 (hr q)) ?_|((try (refine CallW.lent ?_; (conv=>whnf); repeat (refine yb ?_; (conv=>whnf)))); refine cL (fun _=>forms_S _ _ _ hs hq1 (hr q)) ?_)); conv=>whnf)|((first|refine cK (fun _=>registers_S _ _ hq1) ?_|((try (refine CallW.lent ?_; (conv=>whnf); repeat (refine yb ?_; (conv=>whnf)))); refine cL (fun _=>registers_S _ _ hq1) ?_)); conv=>whnf)|((first|refine cK (fun _=>phis_S _ _ hq1) ?_|((try (refine CallW.lent ?_; (conv=>whnf); repeat (refine yb ?_; (conv=>whnf)))); refine cL (fun _=>phis_S _ _ hq1) ?_)); conv=>whnf)|(refine yt ?_; conv=>whnf)|exact ⟨_,.keep rfl rfl⟩|fail
 ·have hfo : (formsF m (m.funcs.getD q Enc.d) q).code = 0 := by assumption
  repeat' first|(refine iF (fun hb=>?_) (fun hb=>?_) <;> (try simp only [yv] at hb) <;> (have hc := hb; try simp only [sB,Int.reduceToNat] at hc; try simp only [addZ0] at hc) <;> first|(exfalso; omega)|conv=>whnf)|((first|refine ya ?_|refine yb ?_|refine yc ?_|refine yd ?_|refine yf ?_|refine yh ?_|refine yj ?_|refine dD ?_|refine dF ?_|refine d0 ?_|refine d1 ?_|refine dL ?_|refine dP ?_|refine yl ?_|refine ym ?_|refine yn ?_|refine ⟨_,fun _=>(IntKind.wrap_u64 _).symm,?_⟩); conv=>whnf)|((first|refine cK (fun _=>operands_S _ _ _ hs hq1 (hr q) (forms_call hfo)) ?_|((try (refine CallW.lent ?_; (conv=>whnf); repeat (refine yb ?_; (conv=>whnf)))); refine cL (fun _=>operands_S _ _ _ hs hq1 (hr q) (forms_call hfo)) ?_)); conv=>whnf)|((first|refine cK (fun _=>phis_S _ _ hq1) ?_|((try (refine CallW.lent ?_; (conv=>whnf); repeat (refine yb ?_; (conv=>whnf)))); refine cL (fun _=>phis_S _ _ hq1) ?_)); conv=>whnf)|(refine yt ?_; conv=>whnf)|exact ⟨_,.keep rfl rfl⟩|fail
  ·have hph : (phisF (m.funcs.getD q Enc.d) q).code = 0 := by assumption
   repeat' first|(refine iF (fun hb=>?_) (fun hb=>?_) <;> (try simp only [yv] at hb) <;> (have hc := hb; try simp only [sB,Int.reduceToNat] at hc; try simp only [addZ0] at hc) <;> first|(exfalso; omega)|conv=>whnf)|((first|refine ya ?_|refine yb ?_|refine yc ?_|refine yd ?_|refine yf ?_|refine yh ?_|refine yj ?_|refine dD ?_|refine dF ?_|refine d0 ?_|refine d1 ?_|refine dL ?_|refine dP ?_|refine yl ?_|refine ym ?_|refine yn ?_|refine ⟨_,fun _=>(IntKind.wrap_u64 _).symm,?_⟩); conv=>whnf)|((first|refine cK (fun _=>order_S _ _ (R (m.funcs.getD q Enc.d)) (T (m.funcs.getD q Enc.d)) (hR _) (hT _) hq1 (forms_phi hfo) (phis_to hph)) ?_|((try (refine CallW.lent ?_; (conv=>whnf); repeat (refine yb ?_; (conv=>whnf)))); refine cL (fun _=>order_S _ _ (R (m.funcs.getD q Enc.d)) (T (m.funcs.getD q Enc.d)) (hR _) (hT _) hq1 (forms_phi hfo) (phis_to hph)) ?_)); conv=>whnf)|(refine yt ?_; conv=>whnf)|exact ⟨_,.keep rfl rfl⟩|fail
   ·have hz : (q : Int) < m.funcs.length /\ (chkN m R T q).code = 0 := by assumption
    refine .mk (q + 1) (by omega) (by omega) ?_
    have e : chkN m R T (q + 1) = orderF (m.funcs.getD q Enc.d) q (R (m.funcs.getD q Enc.d)) (T (m.funcs.getD q Enc.d)) := by rw [chkN,if_pos hz.2,chk,if_pos (show (blocksF (m.funcs.getD q Enc.d) q).code = 0 by assumption),if_pos (show (formsF m (m.funcs.getD q Enc.d) q).code = 0 by assumption),if_pos (show (registersF (m.funcs.getD q Enc.d) q).code = 0 by assumption),if_pos (show (operandsF m (m.funcs.getD q Enc.d) q).code = 0 by assumption),if_pos (show (phisF (m.funcs.getD q Enc.d) q).code = 0 by assumption)]
    refine eP [] [] ?_ ?_ <;> repeat' first|exact eN|refine And.intro ?_ ?_
    all_goals (rw [e]; rfl)
  ·have hz : (q : Int) < m.funcs.length /\ (chkN m R T q).code = 0 := by assumption
   refine .mk (q + 1) (by omega) (by omega) ?_
   have e : chkN m R T (q + 1) = phisF (m.funcs.getD q Enc.d) q := by rw [chkN,if_pos hz.2,chk,if_pos (show (blocksF (m.funcs.getD q Enc.d) q).code = 0 by assumption),if_pos (show (formsF m (m.funcs.getD q Enc.d) q).code = 0 by assumption),if_pos (show (registersF (m.funcs.getD q Enc.d) q).code = 0 by assumption),if_pos (show (operandsF m (m.funcs.getD q Enc.d) q).code = 0 by assumption),if_neg (show ¬(phisF (m.funcs.getD q Enc.d) q).code = 0 by assumption)]
   refine eP [] [] ?_ ?_ <;> repeat' first|exact eN|refine And.intro ?_ ?_
   all_goals (rw [e]; rfl)
  ·have hz : (q : Int) < m.funcs.length /\ (chkN m R T q).code = 0 := by assumption
   refine .mk (q + 1) (by omega) (by omega) ?_
   have e : chkN m R T (q + 1) = operandsF m (m.funcs.getD q Enc.d) q := by rw [chkN,if_pos hz.2,chk,if_pos (show (blocksF (m.funcs.getD q Enc.d) q).code = 0 by assumption),if_pos (show (formsF m (m.funcs.getD q Enc.d) q).code = 0 by assumption),if_pos (show (registersF (m.funcs.getD q Enc.d) q).code = 0 by assumption),if_neg (show ¬(operandsF m (m.funcs.getD q Enc.d) q).code = 0 by assumption)]
   refine eP [] [] ?_ ?_ <;> repeat' first|exact eN|refine And.intro ?_ ?_
   all_goals (rw [e]; rfl)
 ·have hz : (q : Int) < m.funcs.length /\ (chkN m R T q).code = 0 := by assumption
  refine .mk (q + 1) (by omega) (by omega) ?_
  have e : chkN m R T (q + 1) = registersF (m.funcs.getD q Enc.d) q := by rw [chkN,if_pos hz.2,chk,if_pos (show (blocksF (m.funcs.getD q Enc.d) q).code = 0 by assumption),if_pos (show (formsF m (m.funcs.getD q Enc.d) q).code = 0 by assumption),if_neg (show ¬(registersF (m.funcs.getD q Enc.d) q).code = 0 by assumption)]
  refine eP [] [] ?_ ?_ <;> repeat' first|exact eN|refine And.intro ?_ ?_
  all_goals (rw [e]; rfl)
 ·have hz : (q : Int) < m.funcs.length /\ (chkN m R T q).code = 0 := by assumption
  refine .mk (q + 1) (by omega) (by omega) ?_
  have e : chkN m R T (q + 1) = formsF m (m.funcs.getD q Enc.d) q := by rw [chkN,if_pos hz.2,chk,if_pos (show (blocksF (m.funcs.getD q Enc.d) q).code = 0 by assumption),if_neg (show ¬(formsF m (m.funcs.getD q Enc.d) q).code = 0 by assumption)]
  refine eP [] [] ?_ ?_ <;> repeat' first|exact eN|refine And.intro ?_ ?_
  all_goals (rw [e]; rfl)
 ·have hz : (q : Int) < m.funcs.length /\ (chkN m R T q).code = 0 := by assumption
  refine .mk (q + 1) (by omega) (by omega) ?_
  have e : chkN m R T (q + 1) = blocksF (m.funcs.getD q Enc.d) q := by rw [chkN,if_pos hz.2,chk,if_neg (show ¬(blocksF (m.funcs.getD q Enc.d) q).code = 0 by assumption)]
  refine eP [] [] ?_ ?_ <;> repeat' first|exact eN|refine And.intro ?_ ?_
  all_goals (rw [e]; rfl)
 ·have e : CheckF m R T = chkN m R T q := by
   unfold CheckF
   rcases hc with h|h
   ·rw [show m.funcs.length = q by omega]
   ·exact chkN_stay h _ hq
  exact ⟨_,.keep (by rw [e]; rfl) rfl⟩
theorem Right_S (m : ModE) (R : FnE -> List Bool) (T : FnE -> List (List Bool)) (hR : ∀ f,isRG f (-1) (R f)) (hT : ∀ f,isTab f (T f)) (hs : siz m < 4294967296) (hr : ∀ b i,inI ((C1 (m.funcs.getD b Enc.d)).getD i Enc.d).n) : ASpec Tryz.prog 6 [eS m] (.b (decide ((CheckF m R T).code = 0))) [] := by
 refine ASpec.enter TYok mixed Tryz.func6 rfl Tryz.call6 Tryz.ntmps6 rfl (rs := [.tmp 2]) rfl (nodupB_ok rfl) (Clo.one rfl) (keep := [0,1,2,3]) ?_; conv=>whnf
 repeat' first|(refine iF (fun hb=>?_) (fun hb=>?_) <;> (try simp only [yv] at hb) <;> (have hc := hb; try simp only [sB,Int.reduceToNat] at hc; try simp only [addZ0] at hc) <;> first|(exfalso; omega)|conv=>whnf)|((first|refine ya ?_|refine yb ?_|refine yc ?_|refine yd ?_|refine yf ?_|refine yh ?_|refine yj ?_|refine dD ?_|refine dF ?_|refine d0 ?_|refine d1 ?_|refine dL ?_|refine dP ?_|refine yl ?_|refine ym ?_|refine yn ?_|refine ⟨_,fun _=>(IntKind.wrap_u64 _).symm,?_⟩); conv=>whnf)|((first|refine cK (fun _=>Check_S m R T hR hT hs hr) ?_|((try (refine CallW.lent ?_; (conv=>whnf); repeat (refine yb ?_; (conv=>whnf)))); refine cL (fun _=>Check_S m R T hR hT hs hr) ?_)); conv=>whnf)|(refine yt ?_; conv=>whnf)|exact ⟨_,.keep rfl rfl⟩|fail
theorem rng_at {α : Type} [Enc α] [Rng α] {l : List α} (h : Rng.rng l) (hd : Rng.rng (Enc.d : α)) (i : Nat) : Rng.rng (l.getD i Enc.d) := by
 rcases Nat.lt_or_ge i l.length with hi|hi
 ·rw [List.getD_eq_getElem?_getD,List.getElem?_eq_getElem hi]; exact h _ (List.getElem_mem hi)
 ·rw [List.getD_eq_getElem?_getD,List.getElem?_eq_none hi]; exact hd
theorem rng0 : rngI 0 := by unfold rngI; omega
theorem rngD_ins : Rng.rng (Enc.d : InsE) := ⟨rng0,rng0,rng0,rng0,rng0,fun x h=>(by cases h),fun x h=>(by cases h)⟩
theorem rngD_blk : Rng.rng (Enc.d : BlkE) := fun x h=>(by cases h)
theorem rngD_opd : Rng.rng (Enc.d : Opd) := ⟨rng0,rng0,by unfold rngU; show (0 : Int) <= 0 /\ (0 : Int) < _; omega⟩
theorem rngD_fn : Rng.rng (Enc.d : FnE) := ⟨trivial,fun x h=>(by cases h),rng0,fun x h=>(by cases h)⟩
theorem inI_of {x : Int} (h : rngI x) : inI x := by unfold rngI at h; unfold inI; omega
theorem rng_ins {f : FnE} (h : Rng.rng f) (b i : Nat) : Rng.rng ((f.blocks.getD b Enc.d).code.getD i Enc.d) := by
 obtain ⟨_,_,_,h4⟩ := h
 have h5 : Rng.rng (f.blocks.getD b Enc.d) := rng_at h4 rngD_blk b
 exact rng_at (show Rng.rng (f.blocks.getD b Enc.d).code from h5) rngD_ins i
theorem C1_rng {f : FnE} (h : Rng.rng f) (i : Nat) : inI ((C1 f).getD i Enc.d).n := by
 rcases Nat.lt_or_ge i (Code f).length with hi|hi
 ·obtain ⟨b,k,_,_,h3,_⟩ := Code_get hi
  rw [h3]; exact inI_of (rng_ins h b k).2.2.2.1
 ·rw [List.getD_eq_getElem?_getD,List.getElem?_eq_none (by rw [C1_len]; exact hi)]
  exact inI_of rng0
theorem OkR_of {f : FnE} (hz : siz f < 4294967296) (h : Rng.rng f) : OkR f where
 sz := hz
 b := fun b i k=>(rng_at (rng_ins h b i).2.2.2.2.2.1 rngD_opd k).2.2
 f := fun b i=>inI_of (rng_ins h b i).2.2.2.2.1
theorem wkrow1 {g g' : Nat -> List AV} (h : wks (g 0) (g' 0)) : ∀ i,i < 1 -> wks (g i) (g' i) := fun i hi=>by
 obtain rfl : i = 0 := by omega
 exact h
theorem wkrow2 {g g' : Nat -> List AV} (h : wks (g 0) (g' 0) /\ wks (g 1) (g' 1)) : ∀ i,i < 2 -> wks (g i) (g' i) := fun i hi=>by
 match i,hi with
 | 0,_=>exact h.1
 | 1,_=>exact h.2
def lvI1 : InsE := ⟨1,0,8,0,0,[⟨2,0,200⟩,⟨2,0,100⟩],[]⟩
def lvI2 : InsE := ⟨4,0,8,0,0,[⟨2,0,1⟩,⟨2,0,0⟩],[]⟩
theorem lives15_S : ASpec Tryz.prog 15 [] (.b true) [] := by
 have h1 := Fold_P lvI1 (by decide) (fun i=>by match i with|0=>decide|1=>decide|i + 2=>(show (0 : Int) <= 0 /\ (0 : Int) < 18446744073709551616; decide)) (by unfold inI; decide)
 have h2 := Fold_P lvI2 (by decide) (fun i=>by match i with|0=>decide|1=>decide|i + 2=>(show (0 : Int) <= 0 /\ (0 : Int) < 18446744073709551616; decide)) (by unfold inI; decide)
 rw [show foldF lvI1 = (⟨2,0,44⟩,true) from by decide +kernel] at h1
 rw [show foldF lvI2 = (⟨0,0,0⟩,false) from by decide +kernel] at h2
 have d1 : ∀ X Y,wk X (eL lvI1.args) -> wk Y (eL ([] : List Int)) -> ASpec Tryz.prog 34 [.agg [.i .i64 1,.i .i64 0,.i .i64 8,.i .i64 0,.i .i64 0,X,Y]] (.tup [.agg [.i .i64 2,.i .i64 0,.i .u64 44],.b true]) [] := fun X Y hx hy=>h1.weak ⟨⟨⟨rfl,rfl⟩,⟨rfl,rfl⟩,⟨rfl,rfl⟩,⟨rfl,rfl⟩,⟨rfl,rfl⟩,hx,hy,trivial⟩,trivial⟩
 have d2 : ∀ X Y,wk X (eL lvI2.args) -> wk Y (eL ([] : List Int)) -> ASpec Tryz.prog 34 [.agg [.i .i64 4,.i .i64 0,.i .i64 8,.i .i64 0,.i .i64 0,X,Y]] (.tup [.agg [.i .i64 0,.i .i64 0,.i .u64 0],.b false]) [] := fun X Y hx hy=>h2.weak ⟨⟨⟨rfl,rfl⟩,⟨rfl,rfl⟩,⟨rfl,rfl⟩,⟨rfl,rfl⟩,⟨rfl,rfl⟩,hx,hy,trivial⟩,trivial⟩
 refine ASpec.enter TYok mixed Tryz.func15 rfl Tryz.call15 Tryz.ntmps15 rfl (rs := [.tmp 0]) rfl (nodupB_ok rfl) (Clo.one rfl) (keep := [0,1,2,4]) ?_; conv=>whnf
 repeat' first|(refine iF (fun hb=>?_) (fun hb=>?_) <;> (try simp only [yv] at hb) <;> (have hc := hb; try simp only [sB,Int.reduceToNat] at hc; try simp only [addZ0] at hc) <;> first|(exfalso; omega)|conv=>whnf)|((first|refine ya ?_|refine yb ?_|refine yc ?_|refine yd ?_|refine yf ?_|refine yh ?_|refine yj ?_|refine dD ?_|refine dF ?_|refine d0 ?_|refine d1 ?_|refine dL ?_|refine dP ?_|refine yl ?_|refine ym ?_|refine yn ?_|refine ⟨_,fun _=>(IntKind.wrap_u64 _).symm,?_⟩); conv=>whnf)|((first|refine cK (fun _=>d1 _ _ (by repeat' first|exact trivial|exact rfl|refine And.intro ?_ ?_|refine wkrow1 ?_|refine wkrow2 ?_|refine wkrow3 ?_|exact fun i _=>wkInt _|exact fun i _=>wkBlk _|exact fun i _=>wkOpd _|exact fun i _=>wkIns _) (by repeat' first|exact trivial|exact rfl|refine And.intro ?_ ?_|refine wkrow1 ?_|refine wkrow2 ?_|refine wkrow3 ?_|exact fun i _=>wkInt _|exact fun i _=>wkBlk _|exact fun i _=>wkOpd _|exact fun i _=>wkIns _)) ?_|((try (refine CallW.lent ?_; (conv=>whnf); repeat (refine yb ?_; (conv=>whnf)))); refine cL (fun _=>d1 _ _ (by repeat' first|exact trivial|exact rfl|refine And.intro ?_ ?_|refine wkrow1 ?_|refine wkrow2 ?_|refine wkrow3 ?_|exact fun i _=>wkInt _|exact fun i _=>wkBlk _|exact fun i _=>wkOpd _|exact fun i _=>wkIns _) (by repeat' first|exact trivial|exact rfl|refine And.intro ?_ ?_|refine wkrow1 ?_|refine wkrow2 ?_|refine wkrow3 ?_|exact fun i _=>wkInt _|exact fun i _=>wkBlk _|exact fun i _=>wkOpd _|exact fun i _=>wkIns _)) ?_)); conv=>whnf)|((first|refine cK (fun _=>d2 _ _ (by repeat' first|exact trivial|exact rfl|refine And.intro ?_ ?_|refine wkrow1 ?_|refine wkrow2 ?_|refine wkrow3 ?_|exact fun i _=>wkInt _|exact fun i _=>wkBlk _|exact fun i _=>wkOpd _|exact fun i _=>wkIns _) (by repeat' first|exact trivial|exact rfl|refine And.intro ?_ ?_|refine wkrow1 ?_|refine wkrow2 ?_|refine wkrow3 ?_|exact fun i _=>wkInt _|exact fun i _=>wkBlk _|exact fun i _=>wkOpd _|exact fun i _=>wkIns _)) ?_|((try (refine CallW.lent ?_; (conv=>whnf); repeat (refine yb ?_; (conv=>whnf)))); refine cL (fun _=>d2 _ _ (by repeat' first|exact trivial|exact rfl|refine And.intro ?_ ?_|refine wkrow1 ?_|refine wkrow2 ?_|refine wkrow3 ?_|exact fun i _=>wkInt _|exact fun i _=>wkBlk _|exact fun i _=>wkOpd _|exact fun i _=>wkIns _) (by repeat' first|exact trivial|exact rfl|refine And.intro ?_ ?_|refine wkrow1 ?_|refine wkrow2 ?_|refine wkrow3 ?_|exact fun i _=>wkInt _|exact fun i _=>wkBlk _|exact fun i _=>wkOpd _|exact fun i _=>wkIns _)) ?_)); conv=>whnf)|(refine yt ?_; conv=>whnf)|exact ⟨_,.keep rfl rfl⟩|fail
 all_goals exact ⟨_,.keep (congrArg AV.b rfl) rfl⟩
open Pl (Vl)
theorem foldAll_N (c d : Nat) (hcd : c ≠ d) (f : FnE) (hs : OkR f) : ASpec Tryz.prog 17 [eS f] (.agg [.s f.name,.orow c 1 0 f.params.length,.i .i64 f.ret,.orow d 1 0 (foldAll f).blocks.length]) [(c,oL f.params),(d,oT (foldAll f).blocks)] :=
 (foldAll_S f hs).gives (o' := []) (.agg (.cons (.keep rfl rfl) (.cons (.give rfl rfl rfl (fun _ _=>rfl) rfl) (.cons (.keep rfl rfl) (.cons (.giveT rfl rfl rfl (fun _ _=>teqs_refl _) rfl) .nil (nodupB_ok rfl)) (nodupB_ok rfl)) (nd2 hcd)) (nd2 hcd))) (Clo.fn hcd) (nd2 hcd)
theorem Spoil_N (c d : Nat) (nm : ByteArray) (ps : List Int) (ret : Int) (bs : List BlkE) (h1 : ps.length < 4294967296) (h2 : bs.length < 4294967296) (hB : Bd bs) (hc : swp 1002 d (swp 1001 c 1001) = c) (hd : swp 1002 d (swp 1001 c 1002) = d) :
  ASpecM Tryz.prog 14 [.agg [.s nm,.orow c 1 0 ps.length,.i .i64 ret,.orow d 1 0 bs.length]] [(c,oL ps),(d,oT bs)] (.tup []) [] := by
 have h := ((Spoil_S nm ps ret bs h1 h2 hB).ren (swp 1001 c) (swp 1001 c) (swp_swp _ _)).ren (swp 1002 d) (swp 1002 d) (swp_swp _ _)
 have e1 : renAs (swp 1002 d) (renAs (swp 1001 c) [.agg [.s nm,.orow 1001 1 0 ps.length,.i .i64 ret,.orow 1002 1 0 bs.length]]) = [.agg [.s nm,.orow (swp 1002 d (swp 1001 c 1001)) 1 0 ps.length,.i .i64 ret,.orow (swp 1002 d (swp 1001 c 1002)) 1 0 bs.length]] := rfl
 have e2 : renO (swp 1002 d) (renO (swp 1001 c) [(1001,oL ps),(1002,oT bs)]) = [(swp 1002 d (swp 1001 c 1001),oL ps),(swp 1002 d (swp 1001 c 1002),oT bs)] := rfl
 rw [e1,e2,hc,hd] at h
 exact h
theorem flat_cp {c d : Nat} (ps : List Int) (bs : List BlkE) : ∀ i ob,lk [(c,(oL ps : Obj)),(d,oT bs)] i = some ob -> flatO ob := fun i ob h=>by
 rw [lk_cons] at h
 split at h
 ·cases h
  exact fun i _=>rfl
 ·rw [lk_cons] at h
  split at h
  ·cases h
   exact fun i _=>⟨fun k _=>⟨rfl,rfl,rfl,rfl,rfl,(fun j _=>⟨rfl,rfl,rfl,trivial⟩),(fun j _=>⟨rfl,trivial⟩),trivial⟩,trivial⟩
  ·simp [lk] at h
theorem Bd_of {f : FnE} (h : siz f < 4294967296) : Bd f.blocks := fun t=>⟨Nat.lt_of_le_of_lt (code_le f t) h,fun k=>⟨Nat.lt_of_le_of_lt (Nat.le_trans (args_le _) (ins_le f t k)) h,Nat.lt_of_le_of_lt (Nat.le_trans (to_le _) (ins_le f t k)) h⟩⟩
theorem FoldAll_S (m : ModE) (hm : siz m <= 1048576) (hr : Rng.rng m) : ASpec Tryz.prog 4 [eS m] (.b true) [] := by
 have h2 : siz m < 4294967296 := by omega
 have hfl := funcs_le m
 obtain ⟨R,hR⟩ : ∃ R : FnE -> List Bool,∀ f,isRG f (-1) (R f) := ⟨fun f=>Classical.choose (isRG_ex f (-1)),fun f=>Classical.choose_spec (isRG_ex f (-1))⟩
 obtain ⟨T,hT⟩ : ∃ T : FnE -> List (List Bool),∀ f,isTab f (T f) := ⟨fun f=>Classical.choose (isTab_ex f),fun f=>Classical.choose_spec (isTab_ex f)⟩
 have hf : ∀ k,Rng.rng (m.funcs.getD k Enc.d) := fun k=>rng_at hr.2.2 rngD_fn k
 have hRt := Right_S m R T hR hT h2 (fun b i=>C1_rng (hf b) i)
 refine ASpec.enter TYok mixed Tryz.func4 rfl Tryz.call4 Tryz.ntmps4 rfl (rs := [.tmp 2]) rfl (nodupB_ok rfl) (Clo.one rfl) (keep := [0,1,2,4,5,6,7,8,20,21,22]) ?_; conv=>whnf
 repeat' first|(refine iF (fun hb=>?_) (fun hb=>?_) <;> (try simp only [yv] at hb) <;> (have hc := hb; try simp only [sB,Int.reduceToNat] at hc; try simp only [addZ0] at hc) <;> first|(exfalso; omega)|conv=>whnf)|((first|refine ya ?_|refine yb ?_|refine yc ?_|refine yd ?_|refine yf ?_|refine yh ?_|refine yj ?_|refine dD ?_|refine dF ?_|refine d0 ?_|refine d1 ?_|refine dL ?_|refine dP ?_|refine yl ?_|refine ym ?_|refine yn ?_|refine ⟨_,fun _=>(IntKind.wrap_u64 _).symm,?_⟩); conv=>whnf)|((first|refine cK (fun _=>lives15_S) ?_|((try (refine CallW.lent ?_; (conv=>whnf); repeat (refine yb ?_; (conv=>whnf)))); refine cL (fun _=>lives15_S) ?_)); conv=>whnf)|((first|refine cK (fun _=>Few_S m _ h2) ?_|((try (refine CallW.lent ?_; (conv=>whnf); repeat (refine yb ?_; (conv=>whnf)))); refine cL (fun _=>Few_S m _ h2) ?_)); conv=>whnf)|((first|refine cK (fun _=>hRt) ?_|((try (refine CallW.lent ?_; (conv=>whnf); repeat (refine yb ?_; (conv=>whnf)))); refine cL (fun _=>hRt) ?_)); conv=>whnf)|(refine yt ?_; conv=>whnf)|exact ⟨_,.keep rfl rfl⟩|fail
 ·cases hb
 refine lp [22] (fun k : Nat=>[.i .i64 k]) (fun k=>[(1,bx m)]) (fun k=>k <= m.funcs.length) (fun k=>m.funcs.length - k) 0 (Nat.zero_le _) ?_ fun k hk=>?_
 ·refine eP [] [] ?_ ?_ <;> repeat' first|exact eN|refine And.intro ?_ ?_
 conv=>whnf
 rcases Nat.lt_or_ge k m.funcs.length with hlt|hge
 ·have hrg := hf k
  have hsz : siz (m.funcs.getD k Enc.d) < 4294967296 := by
   have := Nat.le_trans (fn_le m k) hm
   omega
  have hs : OkR (m.funcs.getD k Enc.d) := OkR_of hsz hrg
  obtain ⟨hof,hno⟩ := foldAll_of hs
  have hnm := hof.nm
  have hgz := hof.ok.sz
  have hC : ASpec Tryz.prog 8 [eS (m.funcs.getD k Enc.d)] _ _ := CopyFunc2_S (m.funcs.getD k Enc.d) hsz
  have hA1 := foldAll_N 1011 1012 (by decide) (m.funcs.getD k Enc.d) hs
  have hA2 := foldAll_N 1021 1022 (by decide) (m.funcs.getD k Enc.d) hs
  have hW := All15_F (m.funcs.getD k Enc.d) hs
  have hF : ASpec Tryz.prog 13 [.agg [.s (m.funcs.getD k Enc.d).name,eL (m.funcs.getD k Enc.d).params,.i .i64 (m.funcs.getD k Enc.d).ret,eL (foldAll (m.funcs.getD k Enc.d)).blocks],eS (foldAll (m.funcs.getD k Enc.d))] (.b true) [] := by
   have := Funcs_S (foldAll (m.funcs.getD k Enc.d)) (foldAll (m.funcs.getD k Enc.d)) hgz
   rw [decide_eq_true rfl] at this
   rw [<- hnm.1,<- hnm.2.1,<- hnm.2.2]
   exact this
  have hF2 : ASpec Tryz.prog 13 [.agg [.s (m.funcs.getD k Enc.d).name,eL (m.funcs.getD k Enc.d).params,.i .i64 (m.funcs.getD k Enc.d).ret,eL (m.funcs.getD k Enc.d).blocks],eS (m.funcs.getD k Enc.d)] (.b true) [] := by
   have := Funcs_S (m.funcs.getD k Enc.d) (m.funcs.getD k Enc.d) hsz
   rwa [decide_eq_true rfl] at this
  have hpl := params_le (m.funcs.getD k Enc.d)
  have hbl := blocks_le (m.funcs.getD k Enc.d)
  have hbl2 := blocks_le (foldAll (m.funcs.getD k Enc.d))
  have hS1 := Spoil_N 1011 1012 (m.funcs.getD k Enc.d).name (m.funcs.getD k Enc.d).params (m.funcs.getD k Enc.d).ret (foldAll (m.funcs.getD k Enc.d)).blocks (by omega) (by omega) (Bd_of hgz) rfl rfl
  have hS2 := Spoil_S (m.funcs.getD k Enc.d).name (m.funcs.getD k Enc.d).params (m.funcs.getD k Enc.d).ret (m.funcs.getD k Enc.d).blocks (by omega) (by omega) (Bd_of hsz)
  repeat' first|(refine iF (fun hb=>?_) (fun hb=>?_) <;> (try simp only [yv] at hb) <;> (have hc := hb; try simp only [sB,Int.reduceToNat] at hc; try simp only [addZ0] at hc) <;> first|(exfalso; omega)|conv=>whnf)|((first|refine ya ?_|refine yb ?_|refine And.intro ⟨rfl,fun _ _=>rfl⟩ ?_|refine And.intro (⟨⟨rfl,rfl⟩,by omega⟩ : (_ = _ /\ _ = _) /\ _) ?_|refine And.intro (⟨rfl,by omega⟩ : _ = _ /\ _) ?_|refine yc ?_|refine ye ?_|refine yf ?_|refine yi ?_|refine yk ?_|refine dE ?_|refine dD ?_|refine dF ?_|refine d0 ?_|refine d1 ?_|refine dL ?_|refine dP ?_|refine yl ?_|refine ym ?_|refine yn ?_|refine ⟨_,fun _=>(IntKind.wrap_u64 _).symm,?_⟩); conv=>whnf)|((first|refine cK (fun _=>hC) ?_|((try (refine CallW.lent ?_; (conv=>whnf); repeat (refine yb ?_; (conv=>whnf)))); refine cL (fun _=>hC) ?_)); conv=>whnf)|(refine yt ?_; conv=>whnf)|exact ⟨_,.keep rfl rfl⟩|fail
  refine .mk _ _ (fun _=>hA1) rfl (flat_cp _ _) ?_
  conv=>whnf
  repeat' first|(refine iF (fun hb=>?_) (fun hb=>?_) <;> (try simp only [yv] at hb) <;> (have hc := hb; try simp only [sB,Int.reduceToNat] at hc; try simp only [addZ0] at hc) <;> first|(exfalso; omega)|conv=>whnf)|((first|refine ya ?_|refine yb ?_|refine And.intro ⟨rfl,fun _ _=>rfl⟩ ?_|refine And.intro (⟨⟨rfl,rfl⟩,by omega⟩ : (_ = _ /\ _ = _) /\ _) ?_|refine And.intro (⟨rfl,by omega⟩ : _ = _ /\ _) ?_|refine yc ?_|refine ye ?_|refine yf ?_|refine yi ?_|refine yk ?_|refine dE ?_|refine dD ?_|refine dF ?_|refine d0 ?_|refine d1 ?_|refine dL ?_|refine dP ?_|refine yl ?_|refine ym ?_|refine yn ?_|refine ⟨_,fun _=>(IntKind.wrap_u64 _).symm,?_⟩); conv=>whnf)|(refine yt ?_; conv=>whnf)|exact ⟨_,.keep rfl rfl⟩|fail
  refine .mk _ _ (fun _=>hA2) rfl (flat_cp _ _) ?_
  conv=>whnf
  repeat' first|(refine iF (fun hb=>?_) (fun hb=>?_) <;> (try simp only [yv] at hb) <;> (have hc := hb; try simp only [sB,Int.reduceToNat] at hc; try simp only [addZ0] at hc) <;> first|(exfalso; omega)|conv=>whnf)|((first|refine ya ?_|refine yb ?_|refine And.intro ⟨rfl,fun _ _=>rfl⟩ ?_|refine And.intro (⟨⟨rfl,rfl⟩,by omega⟩ : (_ = _ /\ _ = _) /\ _) ?_|refine And.intro (⟨rfl,by omega⟩ : _ = _ /\ _) ?_|refine yc ?_|refine ye ?_|refine yf ?_|refine yi ?_|refine yk ?_|refine dE ?_|refine dD ?_|refine dF ?_|refine d0 ?_|refine d1 ?_|refine dL ?_|refine dP ?_|refine yl ?_|refine ym ?_|refine yn ?_|refine ⟨_,fun _=>(IntKind.wrap_u64 _).symm,?_⟩); conv=>whnf)|((first|refine cK (fun _=>hW) ?_|((try (refine CallW.lent ?_; (conv=>whnf); repeat (refine yb ?_; (conv=>whnf)))); refine cL (fun _=>hW) ?_)); conv=>whnf)|((first|refine cK (fun _=>hF) ?_|((try (refine CallW.lent ?_; (conv=>whnf); repeat (refine yb ?_; (conv=>whnf)))); refine cL (fun _=>hF) ?_)); conv=>whnf)|((first|refine cK (fun _=>hF2) ?_|((try (refine CallW.lent ?_; (conv=>whnf); repeat (refine yb ?_; (conv=>whnf)))); refine cL (fun _=>hF2) ?_)); conv=>whnf)|(refine CallW.own ?_; (conv=>whnf); refine cM (hS1) ?_; conv=>whnf)|(refine CallW.own ?_; (conv=>whnf); refine cM (hS2) ?_; conv=>whnf)|(refine yt ?_; conv=>whnf)|exact ⟨_,.keep rfl rfl⟩|fail
  ·exfalso
   revert hb
   simp
  ·exfalso
   revert hb
   simp
  ·refine .mk (k + 1) (by omega) (by omega) ?_
   refine eP [] [] ?_ ?_ <;> repeat' first|exact eN|refine And.intro ?_ ?_
 ·repeat' first|(refine iF (fun hb=>?_) (fun hb=>?_) <;> (try simp only [yv] at hb) <;> (have hc := hb; try simp only [sB,Int.reduceToNat] at hc; try simp only [addZ0] at hc) <;> first|(exfalso; omega)|conv=>whnf)|((first|refine ya ?_|refine yb ?_|refine yc ?_|refine yd ?_|refine yf ?_|refine yh ?_|refine yj ?_|refine dD ?_|refine dF ?_|refine d0 ?_|refine d1 ?_|refine dL ?_|refine dP ?_|refine yl ?_|refine ym ?_|refine yn ?_|refine ⟨_,fun _=>(IntKind.wrap_u64 _).symm,?_⟩); conv=>whnf)|(refine yt ?_; conv=>whnf)|exact ⟨_,.keep rfl rfl⟩|fail
end Go.Proofs.YtjfdbmfcnhjfoaaGreat
