/- The engine and the contracts of the functions that the statement reaches, part 6. -/
import Derived.Test.YtnfdieeaelhpbaaGreatDoorMe
import Derived.WalkKit
import Derived.Below
import Derived.Laws.Bits64b
import Derived.Laws.BitsAllLaws
import Derived.Laws.Externs
set_option linter.unusedVariables false
set_option linter.unusedSimpArgs false
set_option maxRecDepth 100000
set_option maxHeartbeats 8000000
namespace Go.Proofs.YtnfdieeaelhpbaaGreatDoor
open Go.RowKit
inductive RG (f:FnE) (g:Int):Nat->Prop
 |zero:0<f.blocks.length->g≠0->RG f g 0
 |step {b:Nat} {t:Int}:RG f g b->t∈Succs f b->t≠g->RG f g t.toNat
def isRG (f:FnE) (g:Int) (l:List Bool):Prop:=l.length=f.blocks.length/\ ∀b:Nat,b<f.blocks.length->(l.getD b false=true↔RG f g b)
theorem isRG_ex (f:FnE) (g:Int): ∃l,isRG f g l:=by
 refine⟨(List.range f.blocks.length).map fun b=>@decide (RG f g b) (Classical.propDecidable _),by simp,fun b hb=>?_⟩
 rw[List.getD_eq_getElem?_getD,List.getElem?_map,List.getElem?_range hb]
 simp
theorem set_fun {α:Type} [Enc α] {l:List α} {t:Nat} {x:α} {cs:List AV} (hc:cs=Enc.enc x) (i:Nat) (hi:i<l.length):setF (fun i=>Enc.enc (l.getD i Enc.d)) t cs i=Enc.enc ((l.set t x).getD i Enc.d):=by
 subst hc
 unfold setF
 by_cases e:i=t
 ·subst e
  rw[if_pos rfl,List.getD_eq_getElem?_getD,List.getElem?_set_self hi];rfl
 ·rw[if_neg e]
  show Enc.enc (l.getD i Enc.d)=_
  rw[List.getD_eq_getElem?_getD,List.getD_eq_getElem?_getD,List.getElem?_set_ne (fun h=>e h.symm)]
theorem getD_set {l:List Bool} {t i:Nat} (ht:t<l.length):(l.set t true).getD i false=if i=t then true else l.getD i false:=by
 by_cases e:i=t
 ·subst e
  rw[if_pos rfl,List.getD_eq_getElem?_getD,List.getElem?_set_self ht];rfl
 ·rw[if_neg e,List.getD_eq_getElem?_getD,List.getD_eq_getElem?_getD,List.getElem?_set_ne (fun h=>e h.symm)]
theorem cntf_set {l:List Bool} {t:Nat} (ht:t<l.length) (h:l.getD t false=false):((l.set t true).count false)+1=l.count false:=by
 have h2:l[t]=false:=by rw[List.getD_eq_getElem?_getD,List.getElem?_eq_getElem ht] at h;exact h
 have hp:0<l.count false:=List.count_pos_iff.2 (h2▸List.getElem_mem ht)
 rw[List.count_set ht]
 simp[h2];omega
structure Pass (f:FnE) (g:Int) (l0:List Bool) (more:Bool) (l:List Bool) (b i:Nat):Prop where
 len:l.length=f.blocks.length
 snd: ∀k:Nat,l.getD k false=true->RG f g k
 sup: ∀k:Nat,l0.getD k false=true->l.getD k false=true
 old:more=false->l=l0
 cl:more=false-> ∀c:Nat,c<b->l.getD c false=true-> ∀t∈Succs f c,t≠g->l.getD t.toNat false=true
 ci:more=false->l.getD b false=true-> ∀t∈(Succs f b).take i,t≠g->l.getD t.toNat false=true
 cnt:more=true->l.count false<l0.count false
theorem Pass.start {f:FnE} {g:Int} {l:List Bool} (hl:l.length=f.blocks.length) (hs: ∀k:Nat,l.getD k false=true->RG f g k):Pass f g l false l 0 0:=
 ⟨hl,hs,fun k h=>h,fun _=>rfl,fun _ c hc=>by omega,fun _ _ t ht=>by simp at ht,fun h=>by cases h⟩
theorem Pass.skip {f:FnE} {g:Int} {l0 l:List Bool} {more:Bool} {b i:Nat} (h:Pass f g l0 more l b i) (hi:i<(Succs f b).length) (hs:(Succs f b)[i]=g\/l.getD ((Succs f b)[i]).toNat false=true):Pass f g l0 more l b (i+1):=
 ⟨h.len,h.snd,h.sup,h.old,h.cl,fun hm hb t ht hg=>by
  rw[List.take_add_one,List.getElem?_eq_getElem hi,List.mem_append] at ht
  rcases ht with ht|ht
  ·exact h.ci hm hb t ht hg
  ·simp at ht
   subst ht
   rcases hs with hs|hs
   ·exact absurd hs hg
   ·exact hs,h.cnt⟩
theorem Pass.set {f:FnE} {g:Int} {l0 l:List Bool} {more:Bool} {b i:Nat} (h:Pass f g l0 more l b i) (hb:l.getD b false=true) (hi:i<(Succs f b).length) (hs:(Succs f b)[i]≠g) (ht:l.getD ((Succs f b)[i]).toNat false=false):Pass f g l0 true (l.set ((Succs f b)[i]).toNat true) b (i+1):=by
 have hm:=Succs_mem (List.getElem_mem hi)
 have hlt:((Succs f b)[i]).toNat<l.length:=by rw[h.len];omega
 refine⟨by rw[List.length_set];exact h.len,fun k hk=>?_,fun k hk=>?_,(fun e=>by cases e),(fun e=>by cases e),(fun e=>by cases e),fun _=>?_⟩
 ·rw[getD_set hlt] at hk
  split at hk
  ·rename_i e;subst e;exact .step (h.snd b hb) (List.getElem_mem hi) hs
  ·exact h.snd k hk
 ·rw[getD_set hlt]
  split
  ·rfl
  ·exact h.sup k hk
 ·have e1:=cntf_set hlt ht
  cases hmo:more with
  |true=>have:=h.cnt hmo;omega
  |false=>rw[h.old hmo] at e1⊢;omega
theorem isRG.eq {f:FnE} {g:Int} {l l':List Bool} (h:isRG f g l) (h':isRG f g l') (i:Nat) (hi:i<f.blocks.length):l.getD i false=l'.getD i false:=by
 rw[Bool.eq_iff_iff,h.2 i hi,h'.2 i hi]
theorem isRG.none {f:FnE} {g:Int} {l:List Bool} (h:isRG f g l) (hn:f.blocks.length=0\/g=0) (i:Nat) (hi:i<f.blocks.length):l.getD i false=false:=by
 cases hq:l.getD i false with
 |false=>rfl
 |true=>
  have hr:=(h.2 i hi).1 hq
  have: ∀b,RG f g b->False:=fun b hr=>by
   induction hr with
   |zero h1 h2=>rcases hn with q|q<;>omega
   |step _ _ _ ih=>exact ih
  exact(this _ hr).elim
def Dom (f:FnE) (a b:Nat):Prop:=RG f (-1) a/\RG f (-1) b/\(a=b\/ ¬RG f a b)
def isTab (f:FnE) (T:List (List Bool)):Prop:=T.length=f.blocks.length/\ ∀a:Nat,a<f.blocks.length->(T.getD a []).length=f.blocks.length/\ ∀b:Nat,b<f.blocks.length->((T.getD a []).getD b false=true↔Dom f a b)
theorem isTab_ex (f:FnE): ∃T,isTab f T:=by
 refine⟨(List.range f.blocks.length).map fun a=>(List.range f.blocks.length).map fun b=>@decide (Dom f a b) (Classical.propDecidable _),by simp,fun a ha=>?_⟩
 have e:((List.range f.blocks.length).map fun a=>(List.range f.blocks.length).map fun b=>@decide (Dom f a b) (Classical.propDecidable _)).getD a []=(List.range f.blocks.length).map fun b=>@decide (Dom f a b) (Classical.propDecidable _):=by
  rw[List.getD_eq_getElem?_getD,List.getElem?_map,List.getElem?_range ha];rfl
 rw[e]
 refine⟨by simp,fun b hb=>?_⟩
 rw[List.getD_eq_getElem?_getD,List.getElem?_map,List.getElem?_range hb]
 simp
def ordC (f:FnE) (R:List Bool) (T:List (List Bool)) (i k:Nat):Int:=
 if¬(((C1 f).getD i Enc.d).args.getD k Enc.d).k=1\/(((C1 f).getD i Enc.d).args.getD k Enc.d).n<f.params.length then 0
 else if R.getD ((C2 f).getD i Enc.d).b.toNat Enc.d=false then 0
 else if((C1 f).getD i Enc.d).op=25 then
  if R.getD (((C1 f).getD i Enc.d).to.getD k Enc.d).toNat Enc.d=false then 0
  else if(T.getD (Def f (((C1 f).getD i Enc.d).args.getD k Enc.d).n).1.b.toNat Enc.d).getD (((C1 f).getD i Enc.d).to.getD k Enc.d).toNat Enc.d=false then 11 else 0
 else if(Def f (((C1 f).getD i Enc.d).args.getD k Enc.d).n).1.b=((C2 f).getD i Enc.d).b then
  if(Def f (((C1 f).getD i Enc.d).args.getD k Enc.d).n).1.i<((C2 f).getD i Enc.d).i then 0 else 11
 else if(T.getD (Def f (((C1 f).getD i Enc.d).args.getD k Enc.d).n).1.b.toNat Enc.d).getD ((C2 f).getD i Enc.d).b.toNat Enc.d=false then 11 else 0
def ordI (f:FnE) (n:Int) (R:List Bool) (T:List (List Bool)) (i:Nat):FaultE:=match firstC (ordC f R T i) ((C1 f).getD i Enc.d).args.length with
 |some k=>at2 f n 11 i
 |none=>⟨0,⟨0,0,0⟩⟩
def orderF (f:FnE) (n:Int) (R:List Bool) (T:List (List Bool)):FaultE:=firstF (ordI f n R T) (Code f).length
theorem Def_b (f:FnE) (r:Int) (h:0<f.blocks.length):0<=(Def f r).1.b/\(Def f r).1.b<f.blocks.length:=by
 unfold Def
 split
 ·rename_i p hp
  obtain⟨b,k,h1,h2,h3⟩:=Code_mem (List.mem_of_find?_eq_some hp)
  rw[h3];exact⟨Int.natCast_nonneg _,by show(b:Int)<_;omega⟩
 ·exact⟨Int.le_refl _,by show(0:Int)<_;omega⟩
theorem firstF_zero {c:Nat->FaultE} {n:Nat} (h:(firstF c n).code=0): ∀i,i<n->(c i).code=0:=fun i hi=>by
 unfold firstF firstC at h
 cases hq:(List.range n).find? (fun i=>!decide ((c i).code=0)) with
 |none=>
  have:=List.find?_eq_none.1 hq i (List.mem_range.2 hi)
  simpa using this
 |some j=>
  rw[hq] at h
  have h2:=List.find?_some hq
  simp only[Bool.not_eq_true',decide_eq_false_iff_not] at h2
  exact absurd h h2
def chk (m:ModE) (R:FnE->List Bool) (T:FnE->List (List Bool)) (f:FnE) (n:Int):FaultE:=
 if(blocksF f n).code=0 then
  if(formsF m f n).code=0 then
   if(registersF f n).code=0 then
    if(operandsF m f n).code=0 then
     if(phisF f n).code=0 then orderF f n (R f) (T f) else phisF f n
    else operandsF m f n
   else registersF f n
  else formsF m f n
 else blocksF f n
def chkN (m:ModE) (R:FnE->List Bool) (T:FnE->List (List Bool)):Nat->FaultE
 |0=>headsF m
 |k+1=>if(chkN m R T k).code=0 then chk m R T (m.funcs.getD k Enc.d) k else chkN m R T k
def CheckF (m:ModE) (R:FnE->List Bool) (T:FnE->List (List Bool)):FaultE:=chkN m R T m.funcs.length
theorem chkN_stay {m : ModE} {R : FnE → List Bool} {T : FnE → List (List Bool)} {k : Nat} (h : (chkN m R T k).code ≠ 0) : ∀ j, k ≤ j → chkN m R T j = chkN m R T k
  | 0, hj => by obtain rfl : k = 0 := by omega
                rfl
  | j + 1, hj => by
    by_cases e : k = j + 1
    · subst e; rfl
    · have ih := chkN_stay h j (by omega)
      rw [chkN, if_neg (by rw [ih]; exact h), ih]
theorem forms_call {m:ModE} {f:FnE} {n:Int} (h:(formsF m f n).code=0) (i:Nat) (hi:i<(Code f).length) (ho:((C1 f).getD i Enc.d).op=30):((C1 f).getD i Enc.d).args.length=(Callee m ((C1 f).getD i Enc.d).n).1.length:=by
 have h1:=firstF_zero h i hi
 unfold formC at h1
 split at h1
 ·simp at h1
 ·split at h1
  ·simp at h1
  ·have h2:typedF m f ((C1 f).getD i Enc.d)=0:=h1
   unfold typedF at h2
   rw[if_neg (by rw[ho];decide),if_pos ho] at h2
   split at h2
   ·simp at h2
   ·split at h2
    ·simp at h2
    ·split at h2
     ·simp at h2
     ·rename_i q;exact(Decidable.not_not.1 q).symm
theorem forms_phi {m:ModE} {f:FnE} {n:Int} (h:(formsF m f n).code=0) (i:Nat) (hi:i<(Code f).length) (ho:((C1 f).getD i Enc.d).op=25):((C1 f).getD i Enc.d).args.length=((C1 f).getD i Enc.d).to.length:=by
 have h1:=firstF_zero h i hi
 unfold formC at h1
 split at h1
 ·simp at h1
 ·rename_i q
  unfold formedF at q
  split at q
  ·exact absurd rfl q
  ·rename_i q2
   have e:many f ((C1 f).getD i Enc.d)=((((C1 f).getD i Enc.d).args.length:Int),(((C1 f).getD i Enc.d).args.length:Int)):=by
    unfold many;rw[if_neg (by rw[ho];decide),if_pos ho]
   rw[e] at q2
   simp only[not_or,Decidable.not_not] at q2
   have:=q2.2
   omega
theorem cnt_mem {f:FnE} {t x:Int} {k:Nat} (h:x∈cnt f t k):0<=x/\x<k:=by
 unfold cnt at h
 obtain⟨c,hc,h⟩:=List.mem_flatMap.1 h
 rw[List.mem_replicate] at h
 have:=List.mem_range.1 hc
 omega
theorem phis_to {f:FnE} {n:Int} (h:(phisF f n).code=0) (i:Nat) (hi:i<(Code f).length) (ho:((C1 f).getD i Enc.d).op=25): ∀t∈((C1 f).getD i Enc.d).to,0<=t/\t<f.blocks.length:=fun t ht=>by
 have h1:=firstF_zero h i hi
 unfold phiC at h1
 rw[if_neg (fun q=>q ho)] at h1
 split at h1
 ·simp at h1
 ·rename_i q
  unfold phiOk at q
  simp only[Bool.not_eq_false,Bool.and_eq_true,decide_eq_true_eq] at q
  rw[q.1.2] at ht
  obtain⟨b,k,h5,_,_,h8⟩:=Code_get hi
  rw[h8] at ht
  simp only[Int.toNat_natCast] at ht
  unfold PredsL at ht
  rw[List.getD_eq_getElem?_getD,List.getElem?_map,List.getElem?_range h5] at ht
  exact cnt_mem ht
theorem fn_le (m:ModE) (i:Nat):siz (m.funcs.getD i Enc.d)<=siz m:=by have:=siz_at m.funcs i;have e:siz m=siz m.vars+siz m.exts+siz m.funcs:=rfl;omega
theorem funcs_le (m:ModE):m.funcs.length<=siz m:=by have:=len_siz m.funcs;have e:siz m=siz m.vars+siz m.exts+siz m.funcs:=rfl;omega
def vflt (c:Int) (p:Plc):AV:= .ifc 72 (.agg [.i .i64 c,.i .i64 p.f,.i .i64 p.b,.i .i64 p.i])
theorem must_O (ok:Bool) (c:Int) (p:Plc):ASpecO true Tryz.prog 50 [.b ok,.i .i64 c,eS p] [] (ok=true) (.tup []) [] (vflt c p) []:=by
 refine ASpecO.enter TYok mixed Tryz.func50 rfl Tryz.call50 Tryz.ntmps50 rfl (rs:=[]) rfl (Clo.one rfl) (Clo.one rfl) rfl (keep:=[0,1,2,5]) fun pin=>?_;conv=>whnf
 repeat' first|(refine iG ?_ ?_<;>intro hb hc<;>first|exact yE|conv=>whnf)|(refine gqs ?_;conv=>whnf)|(refine yt ?_;conv=>whnf)|exact yK|fail
 ·refine⟨by simp[hc],[],[],?_,?_,rfl⟩<;>repeat' first|exact eN|apply zi
 ·(first|refine⟨hc,?_⟩|skip);(try conv=>whnf);refine⟨[],[],?_,?_,rfl⟩<;>repeat' first|exact eN|apply zi
theorem pzV {F c:Int} {p:Plc} {pin:Nat->Nat} {os o:Os} (e:F=c) (hc:c≠0:=by decide): ¬F=0/\ ∃ρ nl,mat ρ nl (vflt c p) (vflt F p)/\entO ρ nl o (pinN pin os [])/\(nodupB (srcs ρ nl (pinN pin os []))&&nodupB (keysN []))=true:=by
 subst e
 exact⟨hc,[],[],⟨rfl,rfl,rfl,rfl,trivial⟩,trivial,rfl⟩
theorem rtV {T:TT} {t:Prop} {pin:Nat->Nat} {s:Sl} {o:Os} (h:t):t/\RetM T [] pin [] s o (.tup []) []:=by
 refine⟨h,?_⟩
 unfold RetM retA retsK
 exact⟨[],[],trivial,trivial,rfl⟩
def firstV (c:Nat->Int) (N:Nat):Int:=match firstC c N with
 |some k=>c k
 |none=>0
theorem firstV_at {c:Nat->Int} {N q:Nat} (hq:q<N) (hv: ∀i,i<q->c i=0) (h:c q≠0):firstV c N=c q:=by unfold firstV;rw[firstC_at hq hv h]
theorem pzF {c:Nat->Int} {N q:Nat} {e:Int} {p:Plc} {pin:Nat->Nat} {os o:Os} (hq:q<N) (hv: ∀i,i<q->c i=0) (h:c q=e) (he:e≠0:=by decide):(¬∀k,k<N->c k=0)/\ ∃ρ nl,mat ρ nl (vflt e p) (vflt (firstV c N) p)/\entO ρ nl o (pinN pin os [])/\(nodupB (srcs ρ nl (pinN pin os []))&&nodupB (keysN []))=true:=by
 subst h
 rw[firstV_at hq hv he]
 exact⟨fun h=>he (h q hq),[],[],⟨rfl,rfl,rfl,rfl,trivial⟩,trivial,rfl⟩
def letB (c:Int):Bool:=(decide (97<=c)&&decide (c<=122))||decide (c=95)
def digB (c:Int):Bool:=decide (48<=c)&&decide (c<=57)
theorem letter_S (c:Int):ASpec Tryz.prog 93 [.i .u8 c] (.b (letB c)) []:=by
 refine ASpec.enter TYok mixed Tryz.func93 rfl Tryz.call93 Tryz.ntmps93 rfl (rs:=[.tmp 2]) rfl (nodupB_ok rfl) (Clo.one rfl) (keep:=[0,2]) ?_;conv=>whnf
 repeat' first|(refine iG ?_ ?_<;>intro hb hc<;>first|exact yE|conv=>whnf)|(refine gqs ?_;conv=>whnf)|(refine yt ?_;conv=>whnf)|exact yK|fail
theorem digit_S (c:Int):ASpec Tryz.prog 109 [.i .u8 c] (.b (digB c)) []:=by
 refine ASpec.enter TYok mixed Tryz.func109 rfl Tryz.call109 Tryz.ntmps109 rfl (rs:=[.tmp 2]) rfl (nodupB_ok rfl) (Clo.one rfl) (keep:=[0,2]) ?_;conv=>whnf
 repeat' first|(refine iG ?_ ?_<;>intro hb hc<;>first|exact yE|conv=>whnf)|(refine gqs ?_;conv=>whnf)|(refine yt ?_;conv=>whnf)|exact yK|fail
theorem kp_eq (s:ByteArray) (j:Nat):kp s j=(decide ((j:Int)<s.size)&&(letB (byteAt s j)||digB (byteAt s j))):=by
 rw[Bool.eq_iff_iff]
 unfold kp kindB letB digB
 simp only[Bool.not_eq_true',decide_eq_false_iff_not,Bool.and_eq_true,Bool.or_eq_true,decide_eq_true_eq]
 repeat' split
 all_goals omega
theorem kp_no {s:ByteArray} {j:Nat} (h:s.size<=j):kp s j=false:=by
 rw[kp_eq,decide_eq_false (by omega)];rfl
theorem runN_more {p:Nat->Bool} {n:Nat} (hp: ∀j,n<=j->p j=false): ∀f a,n<=a+f->runN p (f+1) a=runN p f a
 |0,a,h=>by show(bif p a then runN p 0 (a+1)+1 else 0)=0;rw[hp a (by omega)];rfl
 |f+1,a,h=>by
  rw[runN,runN_more hp f (a+1) (by omega)];rfl
theorem behind_S (s:ByteArray) (i:Nat) (hi:i<=s.size) (hs:s.size<4294967296):ASpec Tryz.prog 94 [.s s,.i .i64 i] (.i .i64 ((i+runN (kp s) s.size i:Nat):Int)) []:=by
 refine ASpec.enter TYok mixed Tryz.func94 rfl Tryz.call94 Tryz.ntmps94 rfl (rs:=[.tmp 4]) rfl (nodupB_ok rfl) (Clo.one rfl) (keep:=[0,1,4]) ?_;conv=>whnf
 refine lp [1] (fun q:Nat=>[.i .i64 (i+q:Nat)]) (fun q=>[]) (fun q=>i+q<=s.size/\ ∀j,j<q->kp s (i+j)=true) (fun q=>s.size-q) 0 ⟨by omega,fun j h=>by omega⟩ ?_ fun q hq=>?_
 ·refine eP [] [] ?_ ?_<;>repeat' first|exact eN|apply zi
 conv=>whnf
 obtain⟨hq,hv⟩:=hq
 have e:=kp_eq s (i+q)
 repeat' first|(refine iG ?_ ?_<;>intro hb hc<;>first|exact yE|conv=>whnf)|(refine gqs ?_;conv=>whnf)|(refine gqc (x:=fun _=>letter_S _) (k:= ?_);conv=>whnf)|(refine gqc (x:=fun _=>digit_S _) (k:= ?_);conv=>whnf)|(refine yt ?_;conv=>whnf)|exact yK|fail
 ·refine .mk (q+1) ⟨by omega,all_step hv ?_⟩ (by omega) ?_
  ·rw[e];exact hb
  ·refine eP [] [] ?_ ?_<;>repeat' first|exact eN|apply zi
 ·refine⟨_,.keep (congrArg (AV.i _) ?_) rfl⟩
  rw[runN_eq (q:=q) (by omega) hv (by rw[e];exact hb)]
theorem lexWord_S (s:ByteArray) (hs:s.size<4294967296):ASpec Tryz.prog 51 [.s s] (.b (Word s)) []:=by
 refine ASpec.enter TYok mixed Tryz.func51 rfl Tryz.call51 Tryz.ntmps51 rfl (rs:=[.tmp 2]) rfl (nodupB_ok rfl) (Clo.one rfl) (keep:=[0,2]) ?_;conv=>whnf
 by_cases hz:s.size=0
 ·have e:s=⟨#[]⟩:=by
   obtain⟨a⟩:=s
   exact congrArg ByteArray.mk (Array.eq_empty_of_size_eq_zero hz)
  subst e
  repeat' first|(refine iG ?_ ?_<;>intro hb hc<;>first|exact yE|conv=>whnf)|(refine gqs ?_;conv=>whnf)|(refine gqc (x:=fun _=>letter_S _) (k:= ?_);conv=>whnf)|(refine gqc (x:=fun _=>behind_S _ 0 (by omega) hs) (k:= ?_);conv=>whnf)|(refine yt ?_;conv=>whnf)|exact yK|fail
 ·have h0:decide (s=⟨#[]⟩)=false:=decide_eq_false fun e=>hz (by rw[e];rfl)
  have h1:0<s.size:=by omega
  have e:Word s=(letB (byteAt s 0)&&decide (((0+runN (kp s) s.size 0:Nat):Int)=s.size)):=by
   have hk:=kp_eq s 0
   obtain⟨n,hn⟩: ∃n,s.size=n+1:=⟨s.size-1,by omega⟩
   have hm:=runN_more (p:=kp s) (n:=s.size) (fun j h=>kp_no h) n 1 (by omega)
   unfold Word wordN
   rw[decide_eq_true (by omega:(0:Int)<s.size),Bool.true_and]
   have hkb:letB (byteAt s 0)=decide (kindB s 0=1):=by
    unfold letB kindB
    rw[Bool.eq_iff_iff]
    simp only[Bool.and_eq_true,Bool.or_eq_true,decide_eq_true_eq]
    repeat' split
    all_goals omega
   show decide ((((if kindB s 0=1 then runN (kp s) s.size 1+1 else 0:Nat)):Int)=s.size)=_
   rw[hkb]
   by_cases h1:kindB s 0=1
   ·rw[if_pos h1,decide_eq_true h1,Bool.true_and]
    have hk0:kp s 0=true:=by unfold kp;rw[show kindB s ((0:Nat):Int)=1 from h1];rfl
    have h2:runN (kp s) s.size 0=runN (kp s) s.size 1+1:=by
     rw[hn,hm]
     show(bif kp s 0 then runN (kp s) n 1+1 else 0)=_
     rw[hk0];rfl
    rw[h2,Nat.zero_add]
   ·rw[if_neg h1,decide_eq_false h1,Bool.false_and,decide_eq_false (by omega)]
  rw[e]
  repeat' first|(refine iG ?_ ?_<;>intro hb hc<;>first|exact yE|conv=>whnf)|(refine gqs ?_;conv=>whnf)|(refine gqc (x:=fun _=>letter_S _) (k:= ?_);conv=>whnf)|(refine gqc (x:=fun _=>behind_S _ 0 (by omega) hs) (k:= ?_);conv=>whnf)|(refine yt ?_;conv=>whnf)|exact yK|fail
  exact⟨_,.keep (congrArg AV.b (by simp only[pickB_and,h0,Bool.not_false,Bool.true_and])) rfl⟩
end Go.Proofs.YtnfdieeaelhpbaaGreatDoor
namespace Go.Proofs.YtnfdieeaelhpbaaGreatDoor.Pl
open Go.RowKit
set_option linter.unusedVariables false
def flags (op:Int):Int:=if op=1\/op=2\/op=3\/op=11 then 3 else if op=4\/op=5\/op=12\/op=13 then 4 else 0
def sgn (n:Nat) (v:Int):Int:=Int.bmod v (2^n)
def mask (t:Int):Int:=if 1<=t/\t<=64 then((2^t.toNat-1:Nat):Int) else 0
def signed (t v:Int):Int:=if 1<=t/\t<=64 then sgn t.toNat v else 0
theorem mask_out {t:Int} (h: ¬(1<=t/\t<=64)):mask t=0:=if_neg h
theorem signed_out {t v:Int} (h: ¬(1<=t/\t<=64)):signed t v=0:=if_neg h
theorem mask_in {n:Nat} (h:1<=n) (h':n<=64):mask n=((2^n-1:Nat):Int):=if_pos (by omega)
theorem signed_in {n:Nat} {v:Int} (h:1<=n) (h':n<=64):signed n v=sgn n v:=if_pos (by omega)
def fitsU (n:Nat) (z:Int):Bool:=decide (0<=z/\z<2^n)
def fitsS (n:Nat) (z:Int):Bool:=decide (-2^(n-1)<=z/\z<2^(n-1))
theorem pow_le {n:Nat} (h:n<=64):2^n<=18446744073709551616:=by
 have:=Nat.pow_le_pow_right (n:=2) (by omega) h
 simpa using this
theorem pow_split {n:Nat} (h:n<=64):2^(64-n)*2^n=18446744073709551616:=by
 rw[<-Nat.pow_add,show 64-n+n=64 from by omega]
theorem pow_pos (n:Nat):0<2^n:=Nat.pow_pos (by omega)
theorem pow_half {n:Nat} (h:1<=n):2^n=2*2^(n-1):=by
 conv=>lhs;rw[show n=(n-1)+1 from by omega,Nat.pow_succ]
 omega
theorem mask_nat {n:Nat} (h':n<=64):18446744073709551615/2^(64-n)=2^n-1:=by
 have hp:=pow_split h'
 have h0:=pow_pos n
 have h1:=pow_pos (64-n)
 generalize 2^(64-n)=a at*
 generalize 2^n=b at*
 obtain⟨c,rfl⟩: ∃c,b=c+1:=⟨b-1,by omega⟩
 rw[Nat.mul_add,Nat.mul_one] at hp
 have e:18446744073709551615=a*c+(a-1):=by omega
 rw[e,Nat.mul_add_div h1,Nat.div_eq_of_lt (by omega)]
 rfl
theorem mask_eq {n:Nat} (h':n<=64):(18446744073709551615:Int)/2^((64:Int)-(n:Int)).toNat=((2^n-1:Nat):Int):=by
 have e:((64:Int)-(n:Int)).toNat=64-n:=by omega
 rw[e,<-mask_nat h',Int.natCast_ediv,Int.natCast_pow]
 rfl
theorem signed_eq {n:Nat} (h:1<=n) (h':n<=64) (v:Int):
  wrap64 (IntKind.u64.wrap (v*2^((64:Int)-(n:Int)).toNat))/2^((64:Int)-(n:Int)).toNat=sgn n v:=by
 have e:((64:Int)-(n:Int)).toNat=64-n:=by omega
 have w: ∀x:Int,wrap64 (IntKind.u64.wrap x)=Int.bmod x 18446744073709551616:=by
  intro x;rw[IntKind.wrap_u64];unfold wrap64;simp only[Int.bmod];omega
 rw[e,w]
 have hp:=pow_split h'
 have h1:=pow_pos (64-n)
 have hh:=pow_half h
 have hb:=pow_pos (n-1)
 unfold sgn
 rw[show(18446744073709551616:Nat)=2^n*2^(64-n) from by rw[Nat.mul_comm];exact hp.symm]
 have:(v*2^(64-n)).bmod (2^n*2^(64-n))=v.bmod (2^n)*((2^(64-n):Nat):Int):=by
  rw[show((2:Int)^(64-n))=((2^(64-n):Nat):Int) from by norm_cast]
  generalize 2^(64-n)=a at*
  rw[hh]
  generalize 2^(n-1)=b at*
  have l0:=Int.le_bmod (x:=v) (m:=2*b) (by omega)
  have l1:=Int.bmod_lt (x:=v) (m:=2*b) (by omega)
  have l2:((2*b:Nat):Int)∣v.bmod (2*b)-v:=((Int.bmod_eq_iff (a:=v) (b:=2*b) (c:=v.bmod (2*b)) (by omega)).1 rfl).2.2
  generalize v.bmod (2*b)=r at*
  have l3: -(b:Int)<=r:=by omega
  have l4:r<b:=by omega
  have ha:(0:Int)<a:=by omega
  have m1:=Int.mul_le_mul_of_nonneg_right l3 (Int.le_of_lt ha)
  have m2:=Int.mul_lt_mul_of_pos_right l4 ha
  have m3:((2*b*a:Nat):Int)=2*((b:Int)*a):=by simp[Int.mul_assoc]
  rw[Int.neg_mul] at m1
  have m4:0<2*b*a:=Nat.mul_pos (by omega) h1
  refine(Int.bmod_eq_iff m4).2 ⟨?_,?_,?_⟩
  ·rw[m3];omega
  ·rw[m3];omega
  ·rw[<-Int.sub_mul,Int.natCast_mul];exact Int.mul_dvd_mul_right _ l2
 rw[this,show((2:Int)^(64-n))=((2^(64-n):Nat):Int) from by norm_cast]
 exact Int.mul_ediv_cancel _ (by omega)
def nsw (f:Int):Bool:=f==1||f==3
def nuw (f:Int):Bool:=f==2||f==3
def over (n:Nat) (f E S:Int):Bool:=nuw f&& !fitsU n E||nsw f&& !fitsS n S
def opI (op x y:Int):Int:=if op=1 then x+y else if op=2 then x-y else x*y
def ring (op:Int) (n:Nat) (f a b:Int):Int×Int:=
 bif over n f (opI op a b) (opI op (sgn n a) (sgn n b)) then(0,1) else(opI op a b % 18446744073709551616,0)
def divR (op f q r:Int):Int×Int:=if op=6\/op=7 then(r % 18446744073709551616,0) else if f=4/\r≠0 then(0,1) else(q % 18446744073709551616,0)
def div (op:Int) (n:Nat) (f a b:Int):Int×Int:=
 if b=0 then(0,2) else if op=4\/op=6 then divR op f (a/b) (a % b)
 else if sgn n b= -1/\a=2^(n-1) then(0,2) else divR op f ((sgn n a).tdiv (sgn n b)) ((sgn n a).tmod (sgn n b))
theorem pow_cast (n:Nat):((2^n:Nat):Int)=(2:Int)^n:=by norm_cast
theorem pow_split_int {n:Nat} (h:n<=64):(2:Int)^n*2^(64-n)=18446744073709551616:=by
 rw[<-Int.pow_add,show n+(64-n)=64 by omega];rfl
def shift (op:Int) (n:Nat) (f a b:Int):Int×Int:=
 if(n:Int)<=b then(0,1)
 else if op=11 then(bif over n f (a*2^b.toNat) (sgn n a*2^b.toNat) then(0,1) else(a*2^b.toNat % 2^n,0))
 else bif f==4&&a % 2^b.toNat !=0 then(0,1)
 else if op=12 then(a/2^b.toNat,0) else(sgn n a/2^b.toNat % 18446744073709551616,0)
theorem and_mask {n:Nat} {z:Int} (h:1<=n) (h':n<=64) (hz:0<=z) (hz':z<18446744073709551616):bits .and .u64 z (mask n)=z % 2^n:=by
 obtain⟨a,rfl⟩:=Int.eq_ofNat_of_zero_le hz
 have:=pow_le h'
 rw[mask_in h h',u64_and_nat a (2^n-1) (by omega) (by omega),Nat.and_two_pow_sub_one_eq_mod,Int.natCast_emod,pow_cast]
theorem emod_pow {n:Nat} (h':n<=64) (z:Int):z % 18446744073709551616 % 2^n=z % 2^n:=by
 exact Int.emod_emod_of_dvd _ ⟨2^(64-n),(pow_split_int h').symm⟩
theorem and_mask_wrap {n:Nat} (h:1<=n) (h':n<=64) (z:Int):bits .and .u64 (IntKind.u64.wrap z) (mask n)=z % 2^n:=by
 rw[IntKind.wrap_u64,and_mask h h' (by omega) (by omega),emod_pow h']
def bitw (op a b:Int):Int:=if op=8 then bits .and .u64 a b else if op=9 then bits .or .u64 a b else bits .xor .u64 a b
def cmp (op:Int) (n:Nat) (a b:Int):Bool:=
 if op=14 then a==b else if op=15 then a !=b else if op=16 then decide (a<b) else if op=17 then decide (a<=b) else if op=18 then decide (sgn n a<sgn n b) else decide (sgn n a<=sgn n b)
def core (op:Int) (n:Nat) (f a b:Int):Int×Int:=
 if op<=3 then ring op n f a b else if op<=7 then div op n f a b else if op<=10 then(bitw op a b,0) else if op<=13 then shift op n f a b else(bif cmp op n a b then 1 else 0,0)
def cutR (n:Nat) (p:Int×Int):Int×Int:=bif p.2 !=0 then(0,p.2) else(p.1 % 2^n,0)
def badA (op w f:Int):Bool:=mask w==0||decide (op<1)||decide (19<op)||bits .andNot .i64 f (flags op) !=0
def apply(op w f a b:Int):Int×Int:=
 bif badA op w f then(0,3) else cutR w.toNat (core op w.toNat f (a % 2^w.toNat) (b % 2^w.toNat))
def conv (op p q v:Int):Int×Bool:=
 if mask p=0\/mask q=0 then(0,false)
 else if op=20/\p<q then(v % 2^p.toNat,true) else if op=21/\p<q then(sgn p.toNat v % 2^q.toNat,true) else if op=22/\q<p then(v % 2^q.toNat,true) else(0,false)
theorem mask_zero {t:Int}:mask t=0↔ ¬(1<=t/\t<=64):=by
 constructor
 ·intro h hc
  obtain⟨n,rfl⟩:=Int.eq_ofNat_of_zero_le (show 0<=t by omega)
  rw[mask_in (by omega) (by omega)] at h
  have:=pow_half (n:=n) (by omega)
  have:=pow_pos (n-1)
  omega
 ·exact mask_out
theorem and_maskI {t z:Int} (h: ¬mask t=0) (hz:0<=z) (hz':z<18446744073709551616):bits .and .u64 z (mask t)=z % 2^t.toNat:=by
 have h':1<=t/\t<=64:=by
  by_cases c:1<=t/\t<=64
  ·exact c
  ·exact absurd (mask_out c) h
 obtain⟨n,rfl⟩:=Int.eq_ofNat_of_zero_le (show 0<=t by omega)
 rw[Int.toNat_natCast]
 exact and_mask (by omega) (by omega) hz hz'
theorem and_maskW {t z:Int} (h: ¬mask t=0):bits .and .u64 (IntKind.u64.wrap z) (mask t)=z % 2^t.toNat:=by
 have h':1<=t/\t<=64:=by
  by_cases c:1<=t/\t<=64
  ·exact c
  ·exact absurd (mask_out c) h
 obtain⟨n,rfl⟩:=Int.eq_ofNat_of_zero_le (show 0<=t by omega)
 rw[Int.toNat_natCast]
 exact and_mask_wrap (by omega) (by omega) z
theorem signedI {t z:Int} (h: ¬mask t=0):signed t z=sgn t.toNat z:=by
 have h':1<=t/\t<=64:=by
  by_cases c:1<=t/\t<=64
  ·exact c
  ·exact absurd (mask_out c) h
 exact if_pos h'
structure Vl where
 k:Int
 b:Int
 bl:Int
 off:Int
 deriving DecidableEq
def Vl.cells (v:Vl):List Value:=[.int .i64 v.k,.int .u64 v.b,.int .i64 v.bl,.int .i64 v.off]
def Vl.val (v:Vl):Value:= .agg v.cells.toArray
def Vl.zero:Vl:=⟨0,0,0,0⟩
def count (t:Int):Int:=if t=65 then 8 else if 1<=t/\t<=64 then(t+7)/8 else 0
theorem nz {z:Int} (h:(z==0)=false): ¬z=0:=by simpa using h
theorem nz' {k:Int} {z:Int} (h:(k==1&&z !=0)=true): ¬z=0:=by simp at h;exact h.2
def any:Vl:=⟨3,0,0,0⟩
def chosen (a b c:Vl):Vl:=
 bif a.k==0 then Vl.zero else bif a.k==1&&a.b==1 then b else bif a.k==1 then c else bif decide (b=c) then b else bif b.k==0||c.k==0 then Vl.zero else any
end Go.Proofs.YtnfdieeaelhpbaaGreatDoor.Pl

namespace Go.Proofs.YtnfdieeaelhpbaaGreatDoor
open Go.RowKit
theorem min_sh {n:Nat} (h:n<=64):min ((64:Int)-n).toNat IntKind.u64.bits=((64:Int)-n).toNat/\min ((64:Int)-n).toNat IntKind.i64.bits=((64:Int)-n).toNat:=by
 simp only[IntKind.bits];omega
theorem w64 (z:Int):IntKind.i64.wrap z=wrap64 z:=by rw[IntKind.wrap_i64];unfold wrap64;omega
theorem Mask_P (w:Int):ASpec Tryz.prog 60 [.i .i64 w] (.i .u64 (Pl.mask w)) []:=by
 refine ASpec.enter TYok mixed Tryz.func60 rfl Tryz.call60 Tryz.ntmps60 rfl (rs:=[.tmp 2]) rfl (nodupB_ok rfl) (Clo.one rfl) (keep:=[0,2]) ?_;conv=>whnf
 repeat' first|(refine iG ?_ ?_<;>intro hb hc<;>first|exact yE|conv=>whnf)|(refine gqs ?_;conv=>whnf)|(refine yt ?_;conv=>whnf)|exact yK|fail
 ·exact⟨_,.keep (by rw[Pl.mask_out (by omega)]) rfl⟩
 obtain⟨n,rfl⟩:=Int.eq_ofNat_of_zero_le (show 0<=w by omega)
 refine⟨_,.keep ?_ rfl⟩
 rw[Pl.mask_in (by omega) (by omega),<-Pl.mask_eq (by omega),(min_sh (by omega)).1]
theorem Flags_P (op:Int):ASpec Tryz.prog 56 [.i .i64 op] (.i .i64 (Pl.flags op)) []:=by
 refine ASpec.enter TYok mixed Tryz.func56 rfl Tryz.call56 Tryz.ntmps56 rfl (rs:=[.tmp 2]) rfl (nodupB_ok rfl) (Clo.one rfl) (keep:=[0,2,3]) ?_;conv=>whnf
 repeat' first|(refine iG ?_ ?_<;>intro hb hc<;>first|exact yE|conv=>whnf)|(refine gqs ?_;conv=>whnf)|(refine yt ?_;conv=>whnf)|exact yK|fail
 all_goals exact⟨_,.keep (by(try simp only[pickB_or,pickB_and]);unfold Pl.flags;repeat' (first|rfl|omega|split|(simp_all;done))) rfl⟩
theorem Signed_P (w v:Int):ASpec Tryz.prog 123 [.i .i64 w,.i .u64 v] (.i .i64 (Pl.signed w v)) []:=by
 refine ASpec.enter TYok mixed Tryz.func123 rfl Tryz.call123 Tryz.ntmps123 rfl (rs:=[.tmp 4]) rfl (nodupB_ok rfl) (Clo.one rfl) (keep:=[0,1,4]) ?_;conv=>whnf
 repeat' first|(refine iG ?_ ?_<;>intro hb hc<;>first|exact yE|conv=>whnf)|(refine gqw ?_;conv=>whnf)|(refine yt ?_;conv=>whnf)|exact yK|fail
 ·exact⟨_,.keep (by rw[Pl.signed_out (by omega)]) rfl⟩
 obtain⟨n,rfl⟩:=Int.eq_ofNat_of_zero_le (show 0<=w by omega)
 refine⟨_,.keep ?_ rfl⟩
 rw[Pl.signed_in (by omega) (by omega),<-Pl.signed_eq (by omega) (by omega),(min_sh (by omega)).1,(min_sh (by omega)).2,w64]

theorem Convert_P (op p q v:Int) (hv:0<=v) (hv':v<18446744073709551616):ASpec Tryz.prog 96 [.i .i64 op,.i .i64 p,.i .i64 q,.i .u64 v] (.tup [.i .u64 (Pl.conv op p q v).1,.b (Pl.conv op p q v).2]) []:=by
 have key: ∀ {x:Int} {y:Bool},Pl.conv op p q v=(x,y)->AV.tup [.i .u64 x,.b y]= .tup [.i .u64 (Pl.conv op p q v).1,.b (Pl.conv op p q v).2]:=fun h=>by rw[h]
 refine ASpec.enter TYok mixed Tryz.func96 rfl Tryz.call96 Tryz.ntmps96 rfl (rs:=[.tmp 8,.tmp 9]) rfl (nodupB_ok rfl) (Clo.one rfl) (keep:=[0,1,2,3,8,9]) ?_;conv=>whnf
 repeat' first|(refine iG ?_ ?_<;>intro hb hc<;>first|exact yE|conv=>whnf)|(refine gqw ?_;conv=>whnf)|(refine gqc (x:=fun _=>Mask_P _) (k:= ?_);conv=>whnf)|(refine gqc (x:=fun _=>Signed_P _ _) (k:= ?_);conv=>whnf)|(refine yt ?_;conv=>whnf)|exact yK|fail
 all_goals refine⟨_,.keep (key ?_) rfl⟩
 all_goals unfold Pl.conv
 ·rw[if_pos hc]
 ·rw[if_neg (by omega),if_pos hc,Pl.and_maskI (by omega) hv hv']
 ·rw[if_neg (by omega),if_neg (by omega),if_pos hc,Pl.and_maskW (by omega),Pl.signedI (by omega)]
 ·rw[if_neg (by omega),if_neg (by omega),if_neg (by omega),if_pos hc,Pl.and_maskI (by omega) hv hv']
 ·rw[if_neg (by omega),if_neg (by omega),if_neg (by omega),if_neg (by omega)]
theorem flags_eq (op:Int):Pl.flags op=Flags op:=by
 unfold Pl.flags Flags
 repeat' split
 all_goals first|rfl|omega
theorem CloneI_F (l:List Int) (hl:l.length<4294967296):ASpec Tryz.prog 122 [eL l] (eL l) []:=oL_frz (fun _=>rfl) (CloneI_S 1000 l hl)
theorem irCallee_S (m:ModE) (n:Int) (hm:siz m<4294967296) (hn: -9223372036854775808<=n) (hn2:n<=9223372036854775807):ASpec Tryz.prog 92 [eS m,.i .i64 n] (.tup [eL (Callee m n).1,.i .i64 (Callee m n).2.1,.b (Callee m n).2.2]) []:=by
 have h1:=len_siz m.funcs
 have h2:=len_siz m.exts
 have h3:siz m=siz m.vars+siz m.exts+siz m.funcs:=rfl
 have h4:n.toNat<m.funcs.length->(m.funcs.getD n.toNat Enc.d).params.length<4294967296:=fun _=>by
  have:=siz_at m.funcs n.toNat
  have:=params_le (m.funcs.getD n.toNat Enc.d)
  omega
 have h5: ∀k,(m.exts.getD k Enc.d).params.length<4294967296:=fun k=>by
  have:=siz_at m.exts k
  have:=len_siz (m.exts.getD k Enc.d).params
  have:siz (m.exts.getD k Enc.d)=siz (m.exts.getD k Enc.d).name+siz (m.exts.getD k Enc.d).params:=rfl
  omega
 refine ASpec.enter TYok mixed Tryz.func92 rfl Tryz.call92 Tryz.ntmps92 rfl (rs:=[.tmp 4,.tmp 5,.tmp 6]) rfl (nodupB_ok rfl) (Clo.one rfl) (keep:=[0,1,2,4,5,6]) ?_;conv=>whnf
 repeat' first|(refine iG ?_ ?_<;>intro hb hc<;>first|exact yE|conv=>whnf)|(refine gqs ?_;conv=>whnf)|(refine gqc (x:=fun _=>CloneI_F _ (h4 (by omega))) (k:= ?_);conv=>whnf)|(refine gqc (x:=fun _=>CloneI_F _ (h5 _)) (k:= ?_);conv=>whnf)|(refine yt ?_;conv=>whnf)|exact yK|fail
 ·exact⟨_,.keep (by rw[Callee,if_pos hc];rfl) rfl⟩
 ·exact⟨_,.keep (by rw[Callee,if_neg (by omega),if_pos (by omega)];rfl) rfl⟩
 ·rw[Callee,if_neg (by omega),if_neg (by omega)]
  exact⟨_,.tup (.cons (.nilF rfl) (.cons (.keep rfl rfl) (.cons (.keep rfl rfl) .nil (nodupB_ok rfl)) (nodupB_ok rfl)) (nodupB_ok rfl))⟩
def ckC (m:ModE) (f:FnE) (n:Int) (ty:AV):List AV:=[eL m.vars,eL m.exts,eL m.funcs,.s f.name,eL f.params,.i .i64 f.ret,eL f.blocks,.i .i64 n,ty]
def cnts (f:FnE) (x:InsE):Int×Int×Bool:=
 if x.op<1\/34<x.op then(0,0,false) else if x.op<=19\/x.op=28\/x.op=29 then(2,0,true) else if x.op=23 then(3,0,true) else if x.op=25 then(x.args.length,x.args.length,true)
 else if x.op=26\/x.op=34\/(x.op=33/\f.ret=0) then(0,0,true) else if x.op=30 then(x.args.length,0,true) else if x.op=31 then(0,1,true) else if x.op=32 then(1,2,true) else(1,0,true)
theorem cnts_many (f:FnE) (x:InsE):((cnts f x).2.2=true/\(x.args.length:Int)=(cnts f x).1/\(x.to.length:Int)=(cnts f x).2.1)↔((many f x).1=x.args.length/\(many f x).2=x.to.length):=by
 have h1:(0:Int)<=x.args.length:=by omega
 have h2:(0:Int)<=x.to.length:=by omega
 unfold cnts many
 generalize (x.args.length:Int)=a at*
 generalize (x.to.length:Int)=t at*
 repeat' split
 all_goals simp
 all_goals omega
theorem counts_S (m:ModE) (f:FnE) (n:Int) (ty:AV) (x:InsE):ASpec Tryz.prog 55 [.cp (ckC m f n ty),eS x] (.tup [.i .i64 (cnts f x).1,.i .i64 (cnts f x).2.1,.b (cnts f x).2.2]) []:=by
 refine ASpec.enter TYok mixed Tryz.func55 rfl Tryz.call55 Tryz.ntmps55 rfl (rs:=[.tmp 4,.tmp 5,.tmp 6]) rfl (nodupB_ok rfl) (Clo.one rfl) (keep:=[0,1,3,4,5,6,7]) ?_;conv=>whnf
 repeat' first|(refine iG ?_ ?_<;>intro hb hc<;>first|exact yE|conv=>whnf)|(refine gqs ?_;conv=>whnf)|(refine yt ?_;conv=>whnf)|exact yK|fail
 all_goals exact⟨_,.keep (by(try simp only[pickB_or,pickB_and]);unfold cnts;repeat' (first|rfl|omega|split|(simp_all;done))) rfl⟩
theorem conv_eq (op a b:Int):(Pl.conv op a b 0).2=(Convert op a b 0).2:=by
 have h1:=Pl.mask_zero (t:=a)
 have h2:=Pl.mask_zero (t:=b)
 unfold Pl.conv Convert width
 simp only[h1,h2,Bool.and_eq_true,decide_eq_true_eq]
 repeat' split
 all_goals first|rfl|(exfalso;omega)
theorem typed_O (m:ModE) (f:FnE) (n:Int) (ty:AV) (x:InsE) (p:Plc) (hm:siz m<4294967296) (hn:inI x.n) (ho:x.op<=34):ASpecO true Tryz.prog 57 [.cp (ckC m f n ty),eS x,eS p] [] (typedF m f x=0) (.tup []) [] (vflt (typedF m f x) p) []:=by
 have e1:=conv_eq x.op x.n x.t
 refine ASpecO.enter TYok mixed Tryz.func57 rfl Tryz.call57 Tryz.ntmps57 rfl (rs:=[]) rfl (Clo.one rfl) (Clo.one rfl) rfl (keep:=[0,1,2,4,5,6,7,9,10,11,12]) fun pin=>?_;conv=>whnf
 repeat' first|(refine iG ?_ ?_<;>intro hb hc<;>first|exact yE|conv=>whnf)|(refine gqs ?_;conv=>whnf)|((first|refine CallV.pan ?_|refine CallW.pan ?_);(conv=>whnf);refine cP (must_O _ _ _) (fun ht=>?_) (fun ht=>?_)<;>conv=>whnf)|(refine gqc (x:=fun _=>irCallee_S _ _ hm hn.1 hn.2) (k:= ?_);conv=>whnf)|(refine gqc (x:=fun _=>Convert_P _ _ _ _ (by omega) (by omega)) (k:= ?_);conv=>whnf)|(refine yt ?_;conv=>whnf)|exact yK|fail
 all_goals try simp only[pickB_and,Bool.and_eq_true,decide_eq_true_eq,e1] at ht
 all_goals first|refine rtV ?_|refine pzV ?_
 all_goals unfold typedF conv
 all_goals repeat' (first|rfl|omega|split|(simp_all;done))
def formI (m:ModE) (f:FnE) (x:InsE) (b:Int):Int:=if formedF f x b=false then 15 else if bits .andNot .i64 x.f (Flags x.op)≠0 then 14 else typedF m f x
def formedP (f:FnE) (x:InsE) (b:Int):Prop:=(((cnts f x).2.2=true/\(x.args.length:Int)=(cnts f x).1)/\(x.to.length:Int)=(cnts f x).2.1)/\decide (x.reg= -1)=decide (Result x=0)/\
 (x.n=0\/x.op=20\/x.op=21\/x.op=22\/x.op=26\/x.op=30)/\(x.op=26->((b=0/\x.t=65)/\1<=x.n)/\x.n<=64)/\(x.op=29->x.t=65)/\(x.op=31\/x.op=32\/x.op=34->x.t=0)
theorem formed_iff (f:FnE) (x:InsE) (b:Int):formedF f x b=true↔formedP f x b:=by
 have h:=cnts_many f x
 unfold formedF formedP conv
 rw[and_assoc (a:=(cnts f x).2.2=true),h]
 by_cases hA:(many f x).1=x.args.length/\(many f x).2=x.to.length
 ·rw[if_neg (by omega)]
  by_cases hq:decide (x.reg= -1)=decide (Result x=0)
  ·rw[if_neg (fun h=>h hq.symm)]
   simp only[hA,hq,true_and,and_self,Bool.or_eq_false_iff,decide_eq_false_iff_not]
   repeat' split
   all_goals simp only[Bool.and_eq_true,decide_eq_true_eq,reduceCtorEq,false_iff,true_iff,Bool.false_eq_true]
   all_goals first|omega|skip
  ·rw[if_pos (fun h=>hq h.symm)]
   exact⟨fun h=>(nomatch h),fun h=>absurd h.2.1 hq⟩
 ·rw[if_pos (by omega)]
  exact⟨fun h=>(nomatch h),fun h=>absurd h.1 hA⟩
theorem formI_15 {m:ModE} {f:FnE} {x:InsE} {b:Int} (h: ¬formedP f x b):formI m f x b=15:=by
 rw[formI,if_pos];rw[<-Bool.not_eq_true,formed_iff];exact h
theorem formI_14 {m:ModE} {f:FnE} {x:InsE} {b:Int} (h:formedP f x b) (hf: ¬bits .andNot .i64 x.f (Flags x.op)=0):formI m f x b=14:=by
 rw[formI,if_neg (by rw[(formed_iff f x b).2 h];simp),if_pos hf]
theorem formI_t {m:ModE} {f:FnE} {x:InsE} {b:Int} (h:formedP f x b) (hf:bits .andNot .i64 x.f (Flags x.op)=0):formI m f x b=typedF m f x:=by
 rw[formI,if_neg (by rw[(formed_iff f x b).2 h];simp),if_neg (fun q=>q hf)]
theorem cnts_op {f:FnE} {x:InsE} (h:(cnts f x).2.2=true):x.op<=34:=by
 unfold cnts at h
 split at h
 ·cases h
 ·omega
theorem mkP {f:FnE} {x:InsE} {b:Int} (h:((((cnts f x).2.2=true/\(x.args.length:Int)=(cnts f x).1)/\(x.to.length:Int)=(cnts f x).2.1))/\decide (x.reg= -1)=decide (Result x=0)) (h1:x.n=0\/x.op=20\/x.op=21\/x.op=22\/x.op=26\/x.op=30) (h2:x.op=26->((b=0/\x.t=65)/\1<=x.n)/\x.n<=64) (h3:x.op=29->x.t=65) (h4:x.op=31\/x.op=32\/x.op=34->x.t=0):formedP f x b:=⟨h.1,h.2,h1,h2,h3,h4⟩
theorem cnts_op' {f:FnE} {x:InsE} {B C D:Prop} (h:(((cnts f x).2.2=true/\B)/\C)/\D):x.op<=34:=cnts_op h.1.1.1
theorem form_O (m:ModE) (f:FnE) (n:Int) (ty:AV) (x:InsE) (p:Plc) (hm:siz m<4294967296) (hn:inI x.n):ASpecO true Tryz.prog 29 [.cp (ckC m f n ty),eS x,eS p] [] (formI m f x p.b=0) (.tup []) [] (vflt (formI m f x p.b) p) []:=by
 have e1:=flags_eq x.op
 refine ASpecO.enter TYok mixed Tryz.func29 rfl Tryz.call29 Tryz.ntmps29 rfl (rs:=[]) rfl (Clo.one rfl) (Clo.one rfl) rfl (keep:=[0,1,2,4,5,6,7,8,9,44]) fun pin=>?_;conv=>whnf
 repeat' first|(refine iG ?_ ?_<;>intro hb hc<;>first|exact yE|conv=>whnf)|(refine gqs ?_;conv=>whnf)|((first|refine CallV.pan ?_|refine CallW.pan ?_);(conv=>whnf);refine cP (must_O _ _ _) (fun ht=>?_) (fun ht=>?_)<;>conv=>whnf)|((first|refine CallV.pan ?_|refine CallW.pan ?_);(conv=>whnf);refine cP (typed_O m f n ty x p hm hn ?_) (fun ht=>?_) (fun ht=>?_)<;>conv=>whnf)|(refine gqc (x:=fun _=>counts_S _ _ _ _ _) (k:= ?_);conv=>whnf)|(refine gqc (x:=fun _=>irResult_S _) (k:= ?_);conv=>whnf)|(refine gqc (x:=fun _=>Flags_P _) (k:= ?_);conv=>whnf)|(refine yt ?_;conv=>whnf)|exact yK|fail
 all_goals first|refine rtV ?_|refine pzV ?_ ?_|skip
 all_goals try simp only[pickB_and,pickB_or,Bool.and_eq_true,Bool.true_or,Bool.false_or,decide_eq_true_eq,e1] at*
 all_goals first
  |decide
  |assumption
  |(show x.op<=34;omega)
  |(show x.op<=34;exact cnts_op' (by assumption))
  |(rw[formI_t (mkP (by assumption) (by omega) (by omega) (by omega) (by omega)) (by assumption)];assumption)
  |exact formI_t (mkP (by assumption) (by omega) (by omega) (by omega) (by omega)) (by assumption)
  |exact formI_14 (mkP (by assumption) (by omega) (by omega) (by omega) (by omega)) (by assumption)
  |exact absurd trivial ht
  |(refine formI_15 fun q=>?_;first|exact ht ⟨q.1,q.2.1⟩|exact ht (q.2.2.2.1 (by omega))|exact ht (q.2.2.2.2.1 (by omega))|exact ht (q.2.2.2.2.2 (by omega))|(obtain⟨_,_,q3,_⟩:=q;omega))
  |skip
theorem mask_eq (t:Int):Pl.mask t=Mask t:=by
 by_cases h:1<=t/\t<=64
 ·have key: ∀n:Nat,n<65->1<=n->((2^n-1:Nat):Int)=Cut n 18446744073709551615:=by decide+kernel
  obtain⟨n,rfl⟩: ∃n:Nat,t=n:=⟨t.toNat,by omega⟩
  rw[Pl.mask,Mask,if_pos h,if_pos h]
  exact key n (by omega) (by omega)
 ·rw[Pl.mask,Mask,if_neg h,if_neg h]
def TypesL (f:FnE):List Int:=(List.range 4096).map fun(i:Nat)=>TypeR f i
theorem TypesL_len (f:FnE):(TypesL f).length=4096:=by unfold TypesL;rw[List.length_map,List.length_range]
theorem TypesL_at (f:FnE) {i:Int} (h:0<=i) (h':i<=4095):(TypesL f).getD i.toNat Enc.d=TypeR f i:=by
 unfold TypesL
 rw[List.getD_eq_getElem?_getD,List.getElem?_map,List.getElem?_range (by omega)]
 show TypeR f (i.toNat:Int)=_
 rw[Int.toNat_of_nonneg h]
theorem wanted_S (m:ModE) (f:FnE) (n:Int) (ty:AV) (x:InsE) (k:Int) (hm:siz m<4294967296) (hn:inI x.n) (hk:x.op=30->0<=k/\k<(Callee m x.n).1.length) (hg:x.op=29->x.t=65/\(k=0\/k=1)):ASpec Tryz.prog 59 [.cp (ckC m f n ty),eS x,.i .i64 k] (.i .i64 (wantedF m x k)) []:=by
 refine ASpec.enter TYok mixed Tryz.func59 rfl Tryz.call59 Tryz.ntmps59 rfl (rs:=[.tmp 6]) rfl (nodupB_ok rfl) (Clo.one rfl) (keep:=[0,1,2,4,6,7,11]) ?_;conv=>whnf
 repeat' first|(refine iG ?_ ?_<;>intro hb hc<;>first|exact yE|conv=>whnf)|(refine gqs ?_;conv=>whnf)|(refine gqc (x:=fun _=>irCallee_S _ _ hm hn.1 hn.2) (k:= ?_);conv=>whnf)|(refine yt ?_;conv=>whnf)|exact yK|fail
 all_goals exact⟨_,.keep (by(try simp only[pickB_or,pickB_and]);unfold wantedF conv;repeat' (first|rfl|omega|split|(simp_all;done))) rfl⟩
theorem oprC_reg {m:ModE} {f:FnE} {x:InsE} {k:Nat} (h:(x.args.getD k Enc.d).k=1):oprC m f x k=if(x.args.getD k Enc.d).b≠0 then 15 else if(x.args.getD k Enc.d).n<=4095 then(if TypeR f (x.args.getD k Enc.d).n=0 then 10 else if TypeR f (x.args.getD k Enc.d).n≠wantedF m x k then 7 else 0) else 10:=by
 unfold oprC operandF;rw[if_pos h]
theorem TypeR_neg {f:FnE} {r:Int} (h:r<0):TypeR f r=0:=by unfold TypeR;rw[if_pos h]
theorem operands_O (m:ModE) (f:FnE) (n:Int) (x:InsE) (p:Plc) (hm:siz m<4294967296) (hn:inI x.n) (hx:siz x<4294967296) (hk:x.op=30->x.args.length=(Callee m x.n).1.length) (hg:x.op=29->x.t=65/\x.args.length=2):
  ASpecO true Tryz.prog 31 [.cp (ckC m f n (eL (TypesL f))),eS x,eS p] [] (∀k,k<x.args.length->oprC m f x k=0) (.tup []) [] (vflt (firstV (oprC m f x) x.args.length) p) []:=by
 have h1:=args_le x
 have h2:=TypesL_len f
 refine ASpecO.enter TYok mixed Tryz.func31 rfl Tryz.call31 Tryz.ntmps31 rfl (rs:=[]) rfl (Clo.one rfl) (Clo.one rfl) rfl (keep:=[0,1,2,4,5,6,7,8,10,11,12,22]) fun pin=>?_;conv=>whnf
 repeat' first|(refine iG ?_ ?_<;>intro hb hc<;>first|exact yE|conv=>whnf)|(refine gqs ?_;conv=>whnf)|(refine yt ?_;conv=>whnf)|exact yK|fail
 refine lp [12] (fun q:Nat=>[.i .i64 q]) (fun q=>[(4,bx x),(5,bx p)]) (fun q=>q<=x.args.length/\ ∀i,i<q->oprC m f x i=0) (fun q=>x.args.length-q) 0 ⟨by omega,fun i h=>by omega⟩ ?_ fun q hq=>?_
 ·refine eP [] [] ?_ ?_<;>repeat' first|exact eN|apply zi
 conv=>whnf
 obtain⟨hq,hv⟩:=hq
 have hmk:=mask_eq (wantedF m x q)
 have hta:=TypesL_at f (i:=(x.args.getD q Enc.d).n)
 have hng:=TypeR_neg (f:=f) (r:=(x.args.getD q Enc.d).n)
 repeat' first|(refine iG ?_ ?_<;>intro hb hc<;>first|exact yE|conv=>whnf)|(refine gqs ?_;conv=>whnf)|((first|refine CallV.pan ?_|refine CallW.pan ?_);(conv=>whnf);refine cP (must_O _ _ _) (fun ht=>?_) (fun ht=>?_)<;>conv=>whnf)|((first|refine cK (fun _=>wanted_S _ _ _ _ _ _ hm hn (fun h=>⟨by omega,by have:=hk h;omega⟩) (fun h=>⟨(hg h).1,by have:=(hg h).2;omega⟩)) ?_|((try(refine CallW.lent ?_;(conv=>whnf);repeat(refine yb ?_;(conv=>whnf))));refine cL (fun _=>wanted_S _ _ _ _ _ _ hm hn (fun h=>⟨by omega,by have:=hk h;omega⟩) (fun h=>⟨(hg h).1,by have:=(hg h).2;omega⟩)) ?_));conv=>whnf)|(refine gqc (x:=fun _=>Mask_P _) (k:= ?_);conv=>whnf)|(refine yt ?_;conv=>whnf)|exact yK|fail
 ·have hr:=ht
  simp only[pickB_and,Bool.and_eq_true,Bool.not_eq_true',decide_eq_true_eq,decide_eq_false_iff_not,Int.toNat_natCast] at hr
  refine And.intro ⟨by simp only[Int.toNat_natCast];omega,by simp only[Int.toNat_natCast];omega⟩ ?_
  conv=>whnf
  repeat' first|(refine iG ?_ ?_<;>intro hb hc<;>first|exact yE|conv=>whnf)|(refine gqs ?_;conv=>whnf)|((first|refine CallV.pan ?_|refine CallW.pan ?_);(conv=>whnf);refine cP (must_O _ _ _) (fun ht=>?_) (fun ht=>?_)<;>conv=>whnf)|(refine yt ?_;conv=>whnf)|exact yK|fail
  ·refine .mk (q+1) ⟨by omega,all_step hv ?_⟩ (by omega) ?_
   ·simp only[decide_eq_true_eq,Int.toNat_natCast] at*
    rw[oprC_reg hc,if_neg (fun h=>h (by assumption)),if_pos hr.1.2,<-hta hr.1.1 hr.1.2,if_neg hr.2,if_neg (fun h=>h ht)]
   ·refine eP [] [] ?_ ?_<;>repeat' first|exact eN|apply zi
  ·refine pzF (by omega) hv ?_
   simp only[decide_eq_true_eq,Int.toNat_natCast] at*
   rw[oprC_reg hc,if_neg (fun h=>h (by assumption)),if_pos hr.1.2,<-hta hr.1.1 hr.1.2,if_neg hr.2,if_pos ht]
 all_goals first
  |exact rtV fun k hk=>hv k (by omega)
  |refine pzF (by omega) hv ?_
  |refine .mk (q+1) ⟨by omega,all_step hv ?_⟩ (by omega) ?_
 all_goals first
  |(refine eP [] [] ?_ ?_<;>repeat' first|exact eN|apply zi)
  |skip
 all_goals try simp only[pickB_and,pickB_or,Bool.and_eq_true,Bool.or_eq_true,Bool.not_eq_true',decide_eq_true_eq,decide_eq_false_iff_not,Int.toNat_natCast] at*
 all_goals unfold oprC operandF
 all_goals repeat' (first|rfl|omega|split|(simp_all;done))
def iAt (f:FnE) (b i:Nat):InsE:=(f.blocks.getD b Enc.d).code.getD i Enc.d
def iLen (f:FnE) (b:Nat):Nat:=(f.blocks.getD b Enc.d).code.length
theorem kdl (f:FnE) (b k:Nat):(codeTo f b k).length=(codeTo f b 0).length+k:=by
 rw[codeTo_len,codeTo_len];rfl
theorem kdp (f:FnE) (b i:Nat): ∀k,codeTo f b i<+:codeTo f b (i+k)
 |0=>List.prefix_refl _
 |k+1=>by rw[<-Nat.add_assoc,codeTo_snoc];exact(kdp f b i k).trans (List.prefix_append _ _)
theorem kdb (f:FnE) (b:Nat): ∀k,codeTo f b 0<+:codeTo f (b+k) 0
 |0=>List.prefix_refl _
 |k+1=>by
  rw[<-Nat.add_assoc,codeTo_next]
  have h:=kdp f (b+k) 0 (f.blocks.getD (b+k) Enc.d).code.length
  rw[Nat.zero_add] at h
  exact(kdb f b k).trans h
theorem kd_at {f:FnE} {b i:Nat} (hb:b<f.blocks.length) (hi:i<iLen f b):(Code f)[(codeTo f b i).length]?=some (iAt f b i,⟨0,b,i⟩):=by
 have h1:codeTo f b (i+1)<+:codeTo f b (f.blocks.getD b Enc.d).code.length:=by
  have hi:i<(f.blocks.getD b Enc.d).code.length:=hi
  have:=kdp f b (i+1) ((f.blocks.getD b Enc.d).code.length-(i+1))
  rwa [show i+1+((f.blocks.getD b Enc.d).code.length-(i+1))=(f.blocks.getD b Enc.d).code.length by omega] at this
 rw[<-codeTo_next] at h1
 have h2:=kdb f (b+1) (f.blocks.length-(b+1))
 rw[show b+1+(f.blocks.length-(b+1))=f.blocks.length by omega] at h2
 obtain⟨rest,hr⟩:=h1.trans h2
 unfold Code
 rw[<-hr,codeTo_snoc,List.append_assoc,List.getElem?_append_right (Nat.le_refl _),Nat.sub_self]
 rfl
theorem kd_lt {f:FnE} {b i:Nat} (hb:b<f.blocks.length) (hi:i<iLen f b):(codeTo f b i).length<(Code f).length:=(List.getElem?_eq_some_iff.1 (kd_at hb hi)).1
theorem kd_1 {f:FnE} {b i:Nat} (hb:b<f.blocks.length) (hi:i<iLen f b):(C1 f).getD (codeTo f b i).length Enc.d=iAt f b i:=by
 unfold C1;rw[List.getD_eq_getElem?_getD,List.getElem?_map,kd_at hb hi];rfl
theorem kd_2 {f:FnE} {b i:Nat} (hb:b<f.blocks.length) (hi:i<iLen f b):(C2 f).getD (codeTo f b i).length Enc.d=⟨0,b,i⟩:=by
 unfold C2;rw[List.getD_eq_getElem?_getD,List.getElem?_map,kd_at hb hi];rfl
theorem kd_idx {f:FnE}: ∀ {B q:Nat},B<=f.blocks.length->q<(codeTo f B 0).length-> ∃b k,b<B/\k<iLen f b/\q=(codeTo f b k).length
 |0,q,_,hq=>by simp[codeTo,pairs] at hq
 |B+1,q,hB,hq=>by
  rcases Nat.lt_or_ge q (codeTo f B 0).length with h|h
  ·obtain⟨b,k,h1,h2,h3⟩:=kd_idx (by omega) h
   exact⟨b,k,by omega,h2,h3⟩
  ·rw[codeTo_next,kdl] at hq
   refine⟨B,q-(codeTo f B 0).length,by omega,?_,?_⟩
   ·unfold iLen;omega
   ·rw[kdl];omega
theorem kd_nx (f:FnE) (b:Nat):(codeTo f (b+1) 0).length=(codeTo f b (iLen f b)).length:=by rw[codeTo_next];rfl
abbrev plE (f:FnE) (n:Int) (j:Nat):Plc:=⟨n,((C2 f).getD j Enc.d).b,((C2 f).getD j Enc.d).i⟩
abbrev eacC (f:FnE) (n:Int) (C:InsE->Plc->Int) (j:Nat):FaultE:=⟨C ((C1 f).getD j Enc.d) (plE f n j),plE f n j⟩
def eachF (f:FnE) (n:Int) (C:InsE->Plc->Int):FaultE:=firstF (eacC f n C) (Code f).length
theorem eacC_at {f:FnE} {n:Int} {C:InsE->Plc->Int} {b i:Nat} (hb:b<f.blocks.length) (hi:i<iLen f b):eacC f n C (codeTo f b i).length=⟨C (iAt f b i) ⟨n,b,i⟩,⟨n,b,i⟩⟩:=by
 unfold eacC plE;rw[kd_1 hb hi,kd_2 hb hi]
theorem eachF_at {f:FnE} {n:Int} {C:InsE->Plc->Int} {b i:Nat} (hb:b<f.blocks.length) (hi:i<iLen f b) (hv: ∀j,j<(codeTo f b i).length->(eacC f n C j).code=0) (h:C (iAt f b i) ⟨n,b,i⟩≠0):eachF f n C=⟨C (iAt f b i) ⟨n,b,i⟩,⟨n,b,i⟩⟩:=
 firstF_at (kd_lt hb hi) hv (eacC_at hb hi) h
theorem eachF_no {f:FnE} {n:Int} {C:InsE->Plc->Int} (hv: ∀j,j<(codeTo f f.blocks.length 0).length->(eacC f n C j).code=0):eachF f n C=⟨0,⟨0,0,0⟩⟩:=firstF_no hv
theorem eac_step {f:FnE} {n:Int} {C:InsE->Plc->Int} {b i:Nat} (hb:b<f.blocks.length) (hi:i<iLen f b) (hv: ∀j,j<(codeTo f b i).length->(eacC f n C j).code=0) (h:C (iAt f b i) ⟨n,b,i⟩=0): ∀j,j<(codeTo f b (i+1)).length->(eacC f n C j).code=0:=by
 rw[kdl,<-Nat.add_assoc,<-kdl]
 exact all_step hv (by rw[eacC_at hb hi];exact h)
theorem pzE {F:FaultE} {c:Int} {p:Plc} {pin:Nat->Nat} {os o:Os} (e:F=⟨c,p⟩) (hc:c≠0): ¬F.code=0/\ ∃ρ nl,mat ρ nl (vflt c p) (vflt F.code F.at')/\entO ρ nl o (pinN pin os [])/\(nodupB (srcs ρ nl (pinN pin os []))&&nodupB (keysN []))=true:=by
 subst e
 exact pzV rfl hc
theorem iLen_siz (f:FnE) (b:Nat):iLen f b<=siz f:=code_le f b
def formB (m:ModE) (f:FnE):InsE->Plc->Int:=fun x p=>formI m f x p.b
theorem eachForm_O (m:ModE) (f:FnE) (n:Int) (ty:AV) (hm:siz m<4294967296) (hf:siz f<4294967296) (hr: ∀b i,inI (iAt f b i).n):
  ASpecO true Tryz.prog 28 [.cp (ckC m f n ty),.clo (Nat.add 29 1048576) [.cp (ckC m f n ty)]] [] ((eachF f n (formB m f)).code=0) (.tup []) [] (vflt (eachF f n (formB m f)).code (eachF f n (formB m f)).at') []:=by
 have h1:=blocks_le f
 have h0:=Code_siz f
 refine ASpecO.enter TYok mixed Tryz.func28 rfl Tryz.call28 Tryz.ntmps28 rfl (rs:=[]) rfl (Clo.one rfl) (Clo.one rfl) rfl (keep:=[0,1,4,5,6,7,12,13,14,20,21,22]) fun pin=>?_;conv=>whnf
 repeat' first|(refine iG ?_ ?_<;>intro hb hc<;>first|exact yE|conv=>whnf)|(refine gqs ?_;conv=>whnf)|(refine yt ?_;conv=>whnf)|exact yK|fail
 refine lp [14] (fun b:Nat=>[.i .i64 b]) (fun b=>[]) (fun b=>b<=f.blocks.length/\ ∀j,j<(codeTo f b 0).length->(eacC f n (formB m f) j).code=0) (fun b=>f.blocks.length-b) 0 ⟨by omega,fun i h=>by simp[codeTo,pairs] at h⟩ ?_ fun b hq=>?_
 ·refine eP [] [] ?_ ?_<;>repeat' first|exact eN|apply zi
 conv=>whnf
 obtain⟨hb1,hv1⟩:=hq
 have h2:=iLen_siz f b
 have h3:iLen f b=(f.blocks.getD b Enc.d).code.length:=rfl
 repeat' first|(refine iG ?_ ?_<;>intro hb hc<;>first|exact yE|conv=>whnf)|(refine gqs ?_;conv=>whnf)|(refine yt ?_;conv=>whnf)|exact yK|fail
 ·refine lp [22] (fun i:Nat=>[.i .i64 i]) (fun i=>(5,bx (f.blocks.getD b Enc.d))::[]) (fun i=>i<=iLen f b/\ ∀j,j<(codeTo f b i).length->(eacC f n (formB m f) j).code=0) (fun i=>iLen f b-i) 0 ⟨by omega,hv1⟩ ?_ fun i hq2=>?_
  ·refine eP [] [] ?_ ?_<;>repeat' first|exact eN|apply zi
  conv=>whnf
  obtain⟨hi1,hv2⟩:=hq2
  repeat' first|(refine iG ?_ ?_<;>intro hb hc<;>first|exact yE|conv=>whnf)|(refine gqs ?_;conv=>whnf)|((first|refine CallV.pan ?_|refine CallW.pan ?_);(conv=>whnf);refine cP (form_O m f n ty (iAt f b i) ⟨n,b,i⟩ hm (hr b i)) (fun ht=>?_) (fun ht=>?_)<;>conv=>whnf)|(refine yt ?_;conv=>whnf)|exact yK|fail
  ·refine .mk (i+1) ⟨by omega,eac_step (by omega) (by omega) hv2 ht⟩ (by omega) ?_
   refine eP [] [] ?_ ?_<;>repeat' first|exact eN|apply zi
  ·exact pzE (eachF_at (by omega) (by omega) hv2 ht) ht
  ·obtain rfl:i=iLen f b:=by omega
   refine .mk (b+1) ⟨by omega,by rw[kd_nx];exact hv2⟩ (by omega) ?_
   refine eP [] [] ?_ ?_<;>repeat' first|exact eN|apply zi
 ·obtain rfl:b=f.blocks.length:=by omega
  have e:=eachF_no hv1
  exact rtV (by rw[e])
def oprI (m:ModE) (f:FnE):InsE->Plc->Int:=fun x p=>firstV (oprC m f x) x.args.length
theorem firstV_zero {c:Nat->Int} {N:Nat} (h:firstV c N=0): ∀k,k<N->c k=0:=by
 unfold firstV firstC at h
 cases hq:(List.range N).find? (fun i=>!decide (c i=0)) with
 |none=>intro k hk;simpa using List.find?_eq_none.1 hq k (List.mem_range.2 hk)
 |some j=>
  rw[hq] at h
  have h2:=List.find?_some hq
  simp only[Bool.not_eq_true',decide_eq_false_iff_not] at h2
  exact absurd h h2
theorem firstV_iff {c:Nat->Int} {N:Nat}:(∀k,k<N->c k=0)↔firstV c N=0:=⟨fun h=>by unfold firstV;rw[firstC_no h],firstV_zero⟩
theorem operandsI_O (m:ModE) (f:FnE) (n:Int) (x:InsE) (p:Plc) (hm:siz m<4294967296) (hn:inI x.n) (hx:siz x<4294967296) (hk:x.op=30->x.args.length=(Callee m x.n).1.length) (hg:x.op=29->x.t=65/\x.args.length=2):
  ASpecO true Tryz.prog 31 [.cp (ckC m f n (eL (TypesL f))),eS x,eS p] [] (oprI m f x p=0) (.tup []) [] (vflt (oprI m f x p) p) []:=by
 have h:=operands_O m f n x p hm hn hx hk hg
 rw[firstV_iff] at h
 exact h
theorem eachOpr_O (m:ModE) (f:FnE) (n:Int) (hm:siz m<4294967296) (hf:siz f<4294967296) (hr: ∀b i,inI (iAt f b i).n) (hx: ∀b i,siz (iAt f b i)<4294967296) (hk: ∀b i,b<f.blocks.length->i<iLen f b->((iAt f b i).op=30->(iAt f b i).args.length=(Callee m (iAt f b i).n).1.length)/\((iAt f b i).op=29->(iAt f b i).t=65/\(iAt f b i).args.length=2)):
  ASpecO true Tryz.prog 28 [.cp (ckC m f n (eL (TypesL f))),.clo (Nat.add 31 1048576) [.cp (ckC m f n (eL (TypesL f)))]] [] ((eachF f n (oprI m f)).code=0) (.tup []) [] (vflt (eachF f n (oprI m f)).code (eachF f n (oprI m f)).at') []:=by
 have h1:=blocks_le f
 have h0:=Code_siz f
 refine ASpecO.enter TYok mixed Tryz.func28 rfl Tryz.call28 Tryz.ntmps28 rfl (rs:=[]) rfl (Clo.one rfl) (Clo.one rfl) rfl (keep:=[0,1,4,5,6,7,12,13,14,20,21,22]) fun pin=>?_;conv=>whnf
 repeat' first|(refine iG ?_ ?_<;>intro hb hc<;>first|exact yE|conv=>whnf)|(refine gqs ?_;conv=>whnf)|(refine yt ?_;conv=>whnf)|exact yK|fail
 refine lp [14] (fun b:Nat=>[.i .i64 b]) (fun b=>[]) (fun b=>b<=f.blocks.length/\ ∀j,j<(codeTo f b 0).length->(eacC f n (oprI m f) j).code=0) (fun b=>f.blocks.length-b) 0 ⟨by omega,fun i h=>by simp[codeTo,pairs] at h⟩ ?_ fun b hq=>?_
 ·refine eP [] [] ?_ ?_<;>repeat' first|exact eN|apply zi
 conv=>whnf
 obtain⟨hb1,hv1⟩:=hq
 have h2:=iLen_siz f b
 have h3:iLen f b=(f.blocks.getD b Enc.d).code.length:=rfl
 repeat' first|(refine iG ?_ ?_<;>intro hb hc<;>first|exact yE|conv=>whnf)|(refine gqs ?_;conv=>whnf)|(refine yt ?_;conv=>whnf)|exact yK|fail
 ·refine lp [22] (fun i:Nat=>[.i .i64 i]) (fun i=>(5,bx (f.blocks.getD b Enc.d))::[]) (fun i=>i<=iLen f b/\ ∀j,j<(codeTo f b i).length->(eacC f n (oprI m f) j).code=0) (fun i=>iLen f b-i) 0 ⟨by omega,hv1⟩ ?_ fun i hq2=>?_
  ·refine eP [] [] ?_ ?_<;>repeat' first|exact eN|apply zi
  conv=>whnf
  obtain⟨hi1,hv2⟩:=hq2
  repeat' first|(refine iG ?_ ?_<;>intro hb hc<;>first|exact yE|conv=>whnf)|(refine gqs ?_;conv=>whnf)|((first|refine CallV.pan ?_|refine CallW.pan ?_);(conv=>whnf);refine cP (operandsI_O m f n (iAt f b i) ⟨n,b,i⟩ hm (hr b i) (hx b i) (hk b i (by omega) (by omega)).1 (hk b i (by omega) (by omega)).2) (fun ht=>?_) (fun ht=>?_)<;>conv=>whnf)|(refine yt ?_;conv=>whnf)|exact yK|fail
  ·refine .mk (i+1) ⟨by omega,eac_step (by omega) (by omega) hv2 ht⟩ (by omega) ?_
   refine eP [] [] ?_ ?_<;>repeat' first|exact eN|apply zi
  ·exact pzE (eachF_at (by omega) (by omega) hv2 ht) ht
  ·obtain rfl:i=iLen f b:=by omega
   refine .mk (b+1) ⟨by omega,by rw[kd_nx];exact hv2⟩ (by omega) ?_
   refine eP [] [] ?_ ?_<;>repeat' first|exact eN|apply zi
 ·obtain rfl:b=f.blocks.length:=by omega
  have e:=eachF_no hv1
  exact rtV (by rw[e])
def regE (f:FnE) (F:List Int->Int) (x:InsE):Int:=if Result x=0 then 0 else if x.reg<f.params.length\/4095<x.reg then 10 else if F [x.reg]≠0 then 5 else 0
def regN (F:List Int->Int) (x:InsE):List Int->Int:=fun l=>if Result x=0 then F l else mset F [x.reg] 1 l
def rgO (m:ModE) (f:FnE) (n:Int) (ty:AV) (p1 p2:Option Nat) (p3:Nat) (k:Nat) (F:List Int->Int):Os:=[(1,.box p1 (some 74) [.cp (ckC m f n ty)]),(2,.box p2 (some 58) [.omap 3]),(3,(.mp (mapX Tryz.prog 3 3 false (k) (F)) (p3) (k) (F)))]
theorem rgClo {m:ModE} {f:FnE} {n:Int} {ty:AV} {p1 p2:Option Nat} {p3:Nat} {k:Nat} {F:List Int->Int}:Clo (.tup []) (rgO m f n ty p1 p2 p3 k F):=by
 refine⟨fun id hm=>(nomatch hm),fun i ob hl id hm=>?_⟩
 have hmem:=lk_mem hl
 simp only[rgO,List.mem_cons,List.not_mem_nil,or_false,Prod.mk.injEq] at hmem
 rcases hmem with⟨_,rfl⟩|⟨_,rfl⟩|⟨_,rfl⟩
 ·cases hm
 ·simp only[omen,mens,men,Bool.or_false] at hm
  have:=Nat.eq_of_beq_eq_true hm;subst this;rfl
 ·cases hm
theorem registers1_O (m:ModE) (f:FnE) (n:Int) (ty:AV) (x:InsE) (p:Plc) (k:Nat) (F:List Int->Int) (hk:k<4294967296) (hr:inI x.reg):
  ASpecO true Tryz.prog 58 [eS x,eS p,.op 1 0,.op 2 0] (rgO m f n ty none none 0 k F) (regE f F x=0) (.tup []) (rgO m f n ty none none 0 (k+1) (regN F x)) (vflt (regE f F x) p) []:=by
 refine ASpecO.enter TYok mixed Tryz.func58 rfl Tryz.call58 Tryz.ntmps58 rfl (rs:=[]) rfl (rgClo) (Clo.one rfl) rfl (keep:=[0,1,2,3,4,5]) fun pin=>?_;conv=>whnf
 repeat' first|(refine iG ?_ ?_<;>intro hb hc<;>first|exact yE|conv=>whnf)|(refine gqs ?_;conv=>whnf)|((first|refine CallV.pan ?_|refine CallW.pan ?_);(conv=>whnf);refine cP (must_O _ _ _) (fun ht=>?_) (fun ht=>?_)<;>conv=>whnf)|(refine gqc (x:=fun _=>irResult_S _) (k:= ?_);conv=>whnf)|(refine yt ?_;conv=>whnf)|exact yK|fail
 ·refine⟨by rw[regE,if_pos hc],?_⟩
  conv=>whnf
  refine⟨[],[],trivial,?_,rfl⟩
  repeat' first|exact eN|apply zi
  exact mapX_le (by omega) fun l=>by rw[regN,if_pos hc]
 ·have hr2:=ht
  simp only[pickB_and,Bool.and_eq_true,decide_eq_true_eq] at hr2
  refine And.intro ⟨hr,trivial⟩ ?_
  conv=>whnf
  repeat' first|(refine iG ?_ ?_<;>intro hb hc<;>first|exact yE|conv=>whnf)|(refine gqs ?_;conv=>whnf)|((first|refine CallV.pan ?_|refine CallW.pan ?_);(conv=>whnf);refine cP (must_O _ _ _) (fun ht=>?_) (fun ht=>?_)<;>conv=>whnf)|(refine yt ?_;conv=>whnf)|exact yK|fail
  ·simp only[decide_eq_true_eq] at ht
   refine⟨by rw[regE,if_neg hc,if_neg (by omega),if_neg (fun h=>h ht)],?_⟩
   conv=>whnf
   refine⟨[],[],trivial,?_,rfl⟩
   repeat' first|exact eN|apply zi
   exact mapX_le (by omega) fun l=>by rw[regN,if_neg hc]
  ·refine pzV ?_
   simp only[decide_eq_true_eq] at ht
   rw[regE,if_neg hc,if_neg (by omega),if_pos ht]
 ·refine pzV ?_
  simp only[pickB_and,Bool.and_eq_true,decide_eq_true_eq] at ht
  rw[regE,if_neg hc,if_pos (by omega)]
def regM (f:FnE) (j:Nat):List Int->Int:=fun l=>if((List.range j).any fun k=>!decide (Result ((C1 f).getD k Enc.d)=0)&&decide (l=[((C1 f).getD k Enc.d).reg]))=true then 1 else 0
theorem regM_step (f:FnE) (j:Nat) (l:List Int):regN (regM f j) ((C1 f).getD j Enc.d) l=regM f (j+1) l:=by
 unfold regN mset
 have e:regM f (j+1) l=if(((List.range j).any fun k=>!decide (Result ((C1 f).getD k Enc.d)=0)&&decide (l=[((C1 f).getD k Enc.d).reg]))||(!decide (Result ((C1 f).getD j Enc.d)=0)&&decide (l=[((C1 f).getD j Enc.d).reg])))=true then 1 else 0:=by
  unfold regM;rw[List.range_succ,List.any_append];simp
 rw[e]
 by_cases h1:Result ((C1 f).getD j Enc.d)=0
 ·rw[if_pos h1,decide_eq_true h1]
  unfold regM;simp
 ·rw[if_neg h1,decide_eq_false h1]
  by_cases h2:l=[((C1 f).getD j Enc.d).reg]
  ·rw[if_pos h2,decide_eq_true h2];simp
  ·rw[if_neg h2,decide_eq_false h2]
   unfold regM;simp
def regC (f:FnE):InsE->Plc->Int:=fun x p=>regE f (regM f (codeTo f p.b.toNat p.i.toNat).length) x
theorem eachReg_O (m:ModE) (f:FnE) (n:Int) (ty:AV) (hf:siz f<4294967296) (hr: ∀b i,inI (iAt f b i).reg):
  ASpecO true Tryz.prog 28 [.cp (ckC m f n ty),.clo 58 [.op 1 0,.op 2 0]] (rgO m f n ty none none 0 (0) (regM f (0))) ((eachF f n (regC f)).code=0) (.tup []) (rgO m f n ty none none 0 ((Code f).length) (regM f ((Code f).length))) (vflt (eachF f n (regC f)).code (eachF f n (regC f)).at') []:=by
 have h1:=blocks_le f
 have h0:=Code_siz f
 refine ASpecO.enter TYok mixed Tryz.func28 rfl Tryz.call28 Tryz.ntmps28 rfl (rs:=[]) rfl (rgClo) (Clo.one rfl) rfl (keep:=[0,1,4,5,6,7,12,13,14,20,21,22]) fun pin=>?_;conv=>whnf
 repeat' first|(refine iG ?_ ?_<;>intro hb hc<;>first|exact yE|conv=>whnf)|(refine gqs ?_;conv=>whnf)|(refine yt ?_;conv=>whnf)|exact yK|fail
 refine lp [14] (fun b:Nat=>[.i .i64 b]) (fun b=>(rgO m f n ty (some (pin 1)) (some (pin 2)) (pin 3+1) ((codeTo f b 0).length) (regM f ((codeTo f b 0).length)))) (fun b=>b<=f.blocks.length/\ ∀j,j<(codeTo f b 0).length->(eacC f n (regC f) j).code=0) (fun b=>f.blocks.length-b) 0 ⟨by omega,fun i h=>by simp[codeTo,pairs] at h⟩ ?_ fun b hq=>?_
 ·refine eP [] [] ?_ ?_<;>repeat' first|exact eN|apply zi
  exact fun _ h=>h
 conv=>whnf
 obtain⟨hb1,hv1⟩:=hq
 have h2:=iLen_siz f b
 have h3:iLen f b=(f.blocks.getD b Enc.d).code.length:=rfl
 repeat' first|(refine iG ?_ ?_<;>intro hb hc<;>first|exact yE|conv=>whnf)|(refine gqs ?_;conv=>whnf)|(refine yt ?_;conv=>whnf)|exact yK|fail
 ·refine lp [22] (fun i:Nat=>[.i .i64 i]) (fun i=>(5,bx (f.blocks.getD b Enc.d))::(rgO m f n ty (some (pin 1)) (some (pin 2)) (pin 3+1) ((codeTo f b i).length) (regM f ((codeTo f b i).length)))) (fun i=>i<=iLen f b/\ ∀j,j<(codeTo f b i).length->(eacC f n (regC f) j).code=0) (fun i=>iLen f b-i) 0 ⟨by omega,hv1⟩ ?_ fun i hq2=>?_
  ·refine eP [] [] ?_ ?_<;>repeat' first|exact eN|apply zi
   exact fun _ h=>h
  conv=>whnf
  obtain⟨hi1,hv2⟩:=hq2
  have hkl:i<iLen f b->(codeTo f b i).length<(Code f).length:=fun h=>kd_lt (by omega) h
  repeat' first|(refine iG ?_ ?_<;>intro hb hc<;>first|exact yE|conv=>whnf)|(refine gqs ?_;conv=>whnf)|((first|refine CallV.pan ?_|refine CallW.pan ?_);(conv=>whnf);refine cP (registers1_O m f n ty (iAt f b i) ⟨n,b,i⟩ (codeTo f b i).length (regM f (codeTo f b i).length) (by omega) (hr b i)) (fun ht=>?_) (fun ht=>?_)<;>conv=>whnf)|(refine yt ?_;conv=>whnf)|exact yK|fail
  ·refine .mk (i+1) ⟨by omega,eac_step (by omega) (by omega) hv2 ht⟩ (by omega) ?_
   refine eP [] [] ?_ ?_<;>repeat' first|exact eN|apply zi
   exact mapX_le (by rw[kdl f b (i+1),kdl f b i];omega) fun l=>by rw[kdl f b (i+1),<-Nat.add_assoc,<-kdl,<-kd_1 (by omega) (by omega:i<iLen f b)];exact regM_step f _ l
  ·exact pzE (eachF_at (by omega) (by omega) hv2 ht) ht
  ·obtain rfl:i=iLen f b:=by omega
   refine .mk (b+1) ⟨by omega,by rw[kd_nx];exact hv2⟩ (by omega) ?_
   refine eP [] [] ?_ ?_<;>repeat' first|exact eN|apply zi
   exact mapX_le (by rw[kd_nx];exact Nat.le_refl _) fun l=>by rw[kd_nx]
 ·obtain rfl:b=f.blocks.length:=by omega
  have e:=eachF_no hv1
  refine⟨by rw[e],?_⟩
  conv=>whnf
  refine⟨[],[],trivial,?_,rfl⟩
  repeat' first|exact eN|apply zi
  exact fun _ h=>h
theorem registers_O (m:ModE) (f:FnE) (n:Int) (ty:AV) (hf:siz f<4294967296) (hr: ∀b i,inI (iAt f b i).reg):
  ASpecO true Tryz.prog 30 [.cp (ckC m f n ty)] [] ((eachF f n (regC f)).code=0) (.tup []) [] (vflt (eachF f n (regC f)).code (eachF f n (regC f)).at') []:=by
 refine ASpecO.enter TYok mixed Tryz.func30 rfl Tryz.call30 Tryz.ntmps30 rfl (rs:=[]) rfl (Clo.one rfl) (Clo.one rfl) rfl (keep:=[0,1,2]) fun pin=>?_;conv=>whnf
 repeat' first|(refine iG ?_ ?_<;>intro hb hc<;>first|exact yE|conv=>whnf)|(refine gqs ?_;conv=>whnf)|((first|refine CallV.pan ?_|refine CallW.pan ?_);(conv=>whnf);refine cP (eachReg_O m f n ty hf hr) (fun ht=>?_) (fun ht=>?_)<;>conv=>whnf)|(refine yt ?_;conv=>whnf)|exact yK|fail
 ·exact⟨[],[],trivial,trivial,rfl⟩
 ·exact⟨[],[],⟨rfl,rfl,rfl,rfl,trivial⟩,trivial,rfl⟩
def idxC (l:List Int) (x:Int) (i:Nat):Int:=if x=l.getD i Enc.d then 1 else 0
def Index (l:List Int) (x:Int):Int:=match firstC (idxC l x) l.length with
 |some i=>i
 |none=>-1
theorem Index_S (l:List Int) (x:Int) (hl:l.length<4294967296):ASpec Tryz.prog 140 [eL l,.i .i64 x] (.i .i64 (Index l x)) []:=by
 refine ASpec.enter TYok mixed Tryz.func140 rfl Tryz.call140 Tryz.ntmps140 rfl (rs:=[.tmp 4]) rfl (nodupB_ok rfl) (Clo.one rfl) (keep:=[0,1,4,5,7,8]) ?_;conv=>whnf
 repeat' first|(refine iG ?_ ?_<;>intro hb hc<;>first|exact yE|conv=>whnf)|(refine gqs ?_;conv=>whnf)|(refine yt ?_;conv=>whnf)|exact yK|fail
 refine lp [8] (fun q:Nat=>[.i .i64 q]) (fun q=>[]) (fun q=>q<=l.length/\ ∀i,i<q->idxC l x i=0) (fun q=>l.length-q) 0 ⟨by omega,fun i h=>by omega⟩ ?_ fun q hq=>?_
 ·refine eP [] [] ?_ ?_<;>repeat' first|exact eN|apply zi
 conv=>whnf
 obtain⟨hq,hv⟩:=hq
 repeat' first|(refine iG ?_ ?_<;>intro hb hc<;>first|exact yE|conv=>whnf)|(refine gqs ?_;conv=>whnf)|(refine yt ?_;conv=>whnf)|exact yK|fail
 ·exact⟨_,.keep (by rw[Index,firstC_at (by omega) hv (by unfold idxC;rw[if_pos hc];decide)]) rfl⟩
 ·refine .mk (q+1) ⟨by omega,all_step hv (by unfold idxC;rw[if_neg hc])⟩ (by omega) ?_
  refine eP [] [] ?_ ?_<;>repeat' first|exact eN|apply zi
 ·exact⟨_,.keep (by rw[Index,firstC_no fun i hi=>hv i (by omega)]) rfl⟩
theorem Index_has (l:List Int) (x:Int):decide (0<=Index l x)=l.contains x:=by
 unfold Index
 cases hq:firstC (idxC l x) l.length with
 |some i=>
  have h1:=List.mem_of_find?_eq_some hq
  have h2:=List.find?_some hq
  simp only[List.mem_range] at h1
  have h3:x=l.getD i Enc.d:=by
   unfold idxC at h2;split at h2
   ·assumption
   ·simp at h2
  have h4:l.contains x=true:=by
   rw[List.contains_iff_mem,h3,List.getD_eq_getElem?_getD,List.getElem?_eq_getElem h1];exact List.getElem_mem h1
  rw[h4];simp
 |none=>
  have h1:l.contains x=false:=by
   rw[<-Bool.not_eq_true,List.contains_iff_mem]
   intro hm
   obtain⟨i,hi,rfl⟩:=List.getElem_of_mem hm
   have:=List.find?_eq_none.1 hq i (List.mem_range.2 hi)
   unfold idxC at this
   rw[List.getD_eq_getElem?_getD,List.getElem?_eq_getElem hi] at this
   simp at this
  rw[h1];simp
theorem Contains_S (l:List Int) (x:Int) (hl:l.length<4294967296):ASpec Tryz.prog 124 [eL l,.i .i64 x] (.b (l.contains x)) []:=by
 rw[<-Index_has]
 refine ASpec.enter TYok mixed Tryz.func124 rfl Tryz.call124 Tryz.ntmps124 rfl (rs:=[.tmp 4]) rfl (nodupB_ok rfl) (Clo.one rfl) (keep:=[0,1,4]) ?_;conv=>whnf
 repeat' first|(refine iG ?_ ?_<;>intro hb hc<;>first|exact yE|conv=>whnf)|(refine gqs ?_;conv=>whnf)|(refine gqc (x:=fun _=>Index_S _ _ hl) (k:= ?_);conv=>whnf)|(refine yt ?_;conv=>whnf)|exact yK|fail
theorem gSuccs_S (d:Nat) (f:FnE) (b:Int) (hs:siz f<4294967296):ASpec Tryz.prog 97 [eS f,.i .i64 b] (.orow d 1 0 (Succs f b).length) [(d,oL (Succs f b))]:=by
 have h1:=blocks_le f
 have h2:=code_le f b.toNat
 refine ASpec.enter TYok mixed Tryz.func97 rfl Tryz.call97 Tryz.ntmps97 rfl (rs:=[.tmp 4]) rfl (nd1 _) (Clo.row) (keep:=[0,1,2,4,5,6,7,9,51,52,53]) ?_;conv=>whnf
 repeat' first|(refine iG ?_ ?_<;>intro hb hc<;>first|exact yE|conv=>whnf)|(refine gqs ?_;conv=>whnf)|(refine gqc (x:=fun _=>irEnds_S _) (k:= ?_);conv=>whnf)|(refine yt ?_;conv=>whnf)|exact yK|fail
 ·exact⟨_,.nil (by
   rw[Succs]
   by_cases ha:b<0\/(f.blocks.length:Int)<=b
   ·rw[if_pos ha];rfl
   ·rw[if_neg ha,if_pos (by omega)];rfl)⟩
 ·refine⟨_,.nil ?_⟩
  rw[Succs,if_neg (by omega),if_neg (by omega),if_pos];rfl
  refine⟨fun h=>?_,fun h=>?_⟩<;> · rw[h] at hc;simp[Ends] at hc
 generalize hx:(f.blocks.getD b.toNat Enc.d).code.getD (((f.blocks.getD b.toNat Enc.d).code.length:Int)-1).toNat Enc.d=x at*
 have hop: ¬(x.op≠31/\x.op≠32):=by
  rintro ⟨ha,hb⟩
  simp[Ends] at hc
  omega
 have h3:siz x<=siz f:=hx▸ins_le f _ _
 have h4:=to_le x
 let acc (q:Nat):=(x.to.take q).foldl (sucStep f.blocks.length) []
 have h5: ∀q,q<=x.to.length->(acc q).length<=q:=fun q hq=>by have:=sucStep_len f.blocks.length (x.to.take q) [];rw[List.length_take,Nat.min_eq_left hq] at this;simpa using this
 refine lp [53,7] (fun q:Nat=>[.i .i64 q,.orow 7 1 0 (acc q).length]) (fun q=>[(7,oL (acc q)),(2,bx f),(6,bx x)]) (fun q=>q<=x.to.length) (fun q=>x.to.length-q) 0 (by omega) ?_ fun q hq=>?_
 ·refine eP [] [7] ?_ ?_<;>repeat' first|exact eN|apply zi
 conv=>whnf
 have h6:=h5 q hq
 repeat' first|(refine iG ?_ ?_<;>intro hb hc<;>first|exact yE|conv=>whnf)|(refine gqs ?_;conv=>whnf)|(refine gqc (x:=fun _=>Contains_S (acc q) _ (by omega)) (k:= ?_);conv=>whnf)|(refine yt ?_;conv=>whnf)|exact yK|fail
 ·have e:acc (q+1)=acc q++[x.to.getD q Enc.d]:=(foldl_take (d:=Enc.d) (by omega)).trans (congrArg (fun c=>bif c then _ else _) hb)
  refine .mk (q+1) (by omega) (by omega) ?_
  refine eP [(7,75)] [] ?_ ?_<;>repeat' first|exact eN|apply zi|exact snoc_len e|exact snoc_get e rfl|rw[e]
 ·have e:acc (q+1)=acc q:=(foldl_take (d:=Enc.d) (by omega)).trans (congrArg (fun c=>bif c then _ else _) hb)
  refine .mk (q+1) (by omega) (by omega) ?_
  rw[<-e]
  refine eP [] [] ?_ ?_<;>repeat' first|exact eN|apply zi
 ·have e:acc q=Succs f b:=by rw[Succs,if_neg (by omega),if_neg (by omega),hx,if_neg hop];simp only[acc];rw[List.take_of_length_le (by omega)]
  exact⟨_,.give rfl rfl (by rw[e]) (by rw[e];exact fun _ _=>rfl) rfl⟩
theorem gSuccs_F (f:FnE) (b:Int) (hs:siz f<4294967296):ASpec Tryz.prog 97 [eS f,.i .i64 b] (eL (Succs f b)) []:=
 oL_frz (fun id=>rfl) (gSuccs_S 0 f b hs)
theorem gPreds_S (f:FnE) (hs:siz f<4294967296):ASpec Tryz.prog 61 [eS f] (.orow 10 1 0 f.blocks.length) [(10,.tree 1 f.blocks.length fun t=>[eL (cnt f t f.blocks.length)])]:=by
 have h1:=blocks_le f
 refine ASpec.enter TYok mixed Tryz.func61 rfl Tryz.call61 Tryz.ntmps61 rfl (rs:=[.tmp 2]) rfl (nd1 _) (Clo.tree) (keep:=[0,1,2,3,4,6,13,14,19,20,21]) ?_;conv=>whnf
 repeat' first|(refine iG ?_ ?_<;>intro hb hc<;>first|exact yE|conv=>whnf)|(refine gqs ?_;conv=>whnf)|(refine yt ?_;conv=>whnf)|exact yK|fail
 refine lp [14] (fun b:Nat=>[.i .i64 b]) (fun b=>[(10,.tree 1 f.blocks.length fun t=>[eL (cnt f t b)]),(1,bx f)]) (fun b=>b<=f.blocks.length) (fun b=>f.blocks.length-b) 0 (by omega) ?_ fun b hb=>?_
 ·refine eP [] [] ?_ ?_<;>repeat' first|exact eN|apply zi
  exact fun i hi=>And.intro rfl rfl
 conv=>whnf
 have hlen:=Succs_len f b
 repeat' first|(refine iG ?_ ?_<;>intro hb hc<;>first|exact yE|conv=>whnf)|(refine gqs ?_;conv=>whnf)|(refine gqc (x:=fun _=>gSuccs_F f _ hs) (k:= ?_);conv=>whnf)|(refine yt ?_;conv=>whnf)|exact yK|fail
 ·refine lp [21] (fun i:Nat=>[.i .i64 i]) (fun i=>[(10,.tree 1 f.blocks.length fun t=>[eL (prow f b i t)]),(1,bx f)]) (fun i=>i<=(Succs f b).length) (fun i=>(Succs f b).length-i) 0 (by omega) ?_ fun i hi=>?_
  ·refine eP [] [] ?_ ?_<;>repeat' first|exact eN|apply zi
   exact fun i hi=>teqs_of (congrArg (fun l=>[eL l]) (prow_zero f b i).symm)
  conv=>whnf
  repeat' first|(refine iG ?_ ?_<;>intro hb hc<;>first|exact yE|conv=>whnf)|(refine gqs ?_;conv=>whnf)|(refine yt ?_;conv=>whnf)|exact yK|fail
  ·have hi':i<(Succs f b).length:=by omega
   have hx:(Succs f b).getD (i:Int).toNat Enc.d=(Succs f b)[i]:=by simp[List.getD_eq_getElem?_getD,hi']
   have hm:=Succs_mem (List.getElem_mem hi')
   have hm2:addZ 0 ((Succs f b).getD (i:Int).toNat Enc.d).toNat<f.blocks.length:=by rw[hx,addZ_eq];omega
   have hm3:((addZ 0 ((Succs f b).getD (i:Int).toNat Enc.d).toNat:Nat):Int)=(Succs f b)[i]:=by rw[hx,addZ_eq];omega
   have hp1:=prow_len f b i (addZ 0 ((Succs f b).getD (i:Int).toNat Enc.d).toNat:Nat)
   refine And.intro ⟨by rw[hx];omega,by rw[hx];omega,hm2⟩ ?_
   conv=>whnf
   repeat' first|(refine iG ?_ ?_<;>intro hb hc<;>first|exact yE|conv=>whnf)|(refine gqs ?_;conv=>whnf)|(refine yt ?_;conv=>whnf)|exact yK|fail
   refine And.intro ⟨rfl,fun _ _=>rfl⟩ ?_
   conv=>whnf
   repeat' first|(refine iG ?_ ?_<;>intro hb hc<;>first|exact yE|conv=>whnf)|(refine gqs ?_;conv=>whnf)|(refine yt ?_;conv=>whnf)|exact yK|fail
   refine And.intro ⟨⟨rfl,fun _ _=>leafs_cat (fun _=>rfl) (leafs_lit1 rfl) _⟩,hm2⟩ ?_
   conv=>whnf
   repeat' first|(refine iG ?_ ?_<;>intro hb hc<;>first|exact yE|conv=>whnf)|(refine gqs ?_;conv=>whnf)|(refine yt ?_;conv=>whnf)|exact yK|fail
   refine .mk (i+1) (by omega) (by omega) ?_
   refine eP [] [] ?_ ?_<;>repeat' first|exact eN|apply zi
   intro t ht
   refine tree_snoc (x:=(b:Int)) (g':=fun t:Nat=>[eL (prow f b (i+1) t)]) (l':=prow f b (i+1) t) (fun e=>?_) rfl (fun _=>⟨_,rfl⟩) (fun _=>rfl) fun e=>?_
   ·rw[prow_succ f b i t hi',if_pos (by rw[<-hm3,e]),e]
   ·exact congrArg (fun l=>[eL l]) ((prow_succ f b i t hi').trans (if_neg fun h=>e (by omega)))
  ·refine .mk (b+1) (by omega) (by omega) ?_
   refine eP [] [] ?_ ?_<;>repeat' first|exact eN|apply zi
   exact fun t ht=>teqs_of (congrArg (fun l=>[eL l]) (prow_all f b i t (by omega)))
 ·exact⟨_,.giveT rfl rfl (by omega) (fun t _=>by rw[show b=f.blocks.length by omega];exact teqs_refl _) rfl⟩
theorem gPreds_F (f:FnE) (hs:siz f<4294967296):ASpec Tryz.prog 61 [eS f] (eL (PredsL f)) []:=
 (gPreds_S f hs).gives (.freezeT rfl rfl (by simp[PredsL]) (fun i hi=>teqs_of (by
  have hi':i<f.blocks.length:=by simpa[PredsL] using hi
  show[eL (cnt f i f.blocks.length)]=[eL ((PredsL f).getD i [])]
  rw[PredsL,List.getD_eq_getElem?_getD,List.getElem?_map,List.getElem?_range hi'];rfl)) rfl) (Clo.row0 fun id=>rfl) (by simp)
open Go.RowKit Go.Shelf Go.Sort
theorem Clo.arg1 {d e' n':Nat} {g':Nat->List AV}:Clo (.tup []) [(d,.row none e' n' g')]:=
 ⟨fun id hm=>(by cases hm),fun i ob hl id hm=>(by
  rw[lk_cons] at hl
  split at hl
  ·cases hl;cases hm
  ·simp[lk] at hl)⟩
theorem cell_at {w:World} {b k:Nat} {cells:List Value} {ty:TypeId} (h:w.heap[b]?=some (.cells cells.toArray ty (0,0))):w.cell? ⟨b,k,none⟩=cells[k]?/\w.frozen? ⟨b,k,none⟩=false:=by
 constructor
 ·simp[World.cell?,h]
 ·simp[World.frozen?,h]
theorem Reverse_S (l:List Int) (hl:l.length<4294967296):ASpecF true Tryz.prog 125 [.orow 1000 1 0 l.length] [(1000,oL l)] (.tup []) [(1000,oL l.reverse)]:=by
 refine⟨Tryz.call125,Clo.arg1,fun S β w us hob hS hus hv=>?_⟩
 obtain⟨u,us',rfl,e1,e2⟩:=hus
 unfold rels at e2;subst e2
 unfold rel at e1
 obtain⟨hok,rfl⟩:=e1
 have hrow:=hob.objs 1000 _ (lk_cons▸if_pos rfl)
 obtain⟨g1,g2,g3⟩:=hrow
 have hlt: ∀k∈(β 1000).foot,k<w.heap.size:=fun k hk=>hob.lt k (by rw[feet_cons];exact List.mem_append_left _ hk)
 have hfeet: ∀no:Obj,feet [(1000,no)] β=(β 1000).foot:=fun no=>by rw[feet_cons];simp[feet]
 have hnd:(β 1000).foot.Nodup:=by have:=hob.nodup;rwa [hfeet] at this
 have hob2: ∀ {id:Nat} {ob:Obj},lk [(1000,(oL l.reverse:Obj))] id=some ob->id=1000/\ob=oL l.reverse:=fun {id ob} h=>by
  rw[lk_cons] at h
  split at h
  ·rename_i e;cases h;exact⟨e.symm,rfl⟩
  ·simp[lk] at h
 by_cases h0:l.length=0
 ·have:l=[]:=List.eq_nil_of_length_eq_zero h0
  subst this
  refine(Tryz.slices_Reverse_int_empty _ _ w).mono ?_
  rintro e w' ⟨rfl,rfl⟩
  refine⟨_,β,rfl,BelowX.refl _ _,fun id ob h=>?_,fun k hk=>?_,?_,by simp,⟨fun _ _ _ _ _=>rfl,fun _ _ _ h=>nomatch h⟩,⟨[],rfl,rfl⟩⟩
  ·obtain⟨rfl,rfl⟩:=hob2 h
   exact⟨Nat.zero_le _,Nat.zero_le _,g3.imp id fun⟨b,off,cells,ty,us,a1,a2,a3,a4,a5⟩=>⟨b,off,cells,ty,us,a1,a2,a3,⟨a4.1,fun _ h=>nomatch h⟩,fun i hi=>absurd hi (Nat.not_lt_zero _)⟩⟩
  ·rw[hfeet] at hk
   exact⟨.inr (by rw[hfeet];exact hk),hlt k hk⟩
  ·rw[hfeet];exact hnd
 ·rcases g3 with⟨_,c0,_⟩|⟨b,off,cells,ty,us,a1,a2,a3,a4,a5⟩
  ·have g1':l.length<=(β 1000).cap:=g1
   omega
  have hus: ∀i,i<l.length->cells[off+i]?=some (.int .i64 (l.getD i 0)):=fun i hi=>by
   obtain⟨⟨⟨r1,_⟩,r2⟩,r3⟩:=a5 i hi
   obtain⟨u,us',e1,e2,e3⟩:=r3
   unfold rels at e3;subst e3
   unfold rel at e2;subst e2
   have:=r2 0 _ (by rw[e1];rfl)
   exact(congrArg (fun k=>cells[k]?) (show off+i=off+i*1+0 by omega)).trans this
  rw[a1]
  refine(Tryz.slices_Reverse_int b (off+0*1) _ l w (fun j hj=>?_) (by omega)).mono ?_
  ·have hj':j<l.length:=by simpa using hj
   have hc:=cell_at (k:=off+0*1+j) a3
   refine⟨hc.1.trans ?_,hc.2⟩
   rw[show off+0*1+j=off+j by omega,hus j hj']
   simp[List.getD_eq_getElem?_getD,hj',getElem!_pos]
  ·rintro e w' ⟨rfl,n,rfl⟩
   have hb:b<w.heap.size:=hlt b (by rw[a2];simp)
   have hheap:(putRow (Value.int .i64) (Sort.ahead w n) b (off+0*1) l.reverse.toArray).heap=w.heap.modify b (onCells (putCells (Value.int .i64) (off+0*1) l.reverse.toArray)):=rfl
   have hnew:(putRow (Value.int .i64) (Sort.ahead w n) b (off+0*1) l.reverse.toArray).heap[b]?=some (.cells (putCells (Value.int .i64) (off+0*1) l.reverse.toArray cells.toArray).toList.toArray ty (0,0)):=by
    rw[hheap,Array.getElem?_modify,if_pos rfl,a3];rfl
   have hlen:(putCells (Value.int .i64) (off+0*1) l.reverse.toArray cells.toArray).toList.length=cells.length:=by simp[putCells]
   refine⟨_,β,rfl,⟨rfl,rfl,rfl,by rw[hheap];simp,fun k hk hx=>?_⟩,fun id ob h=>?_,fun k hk=>?_,?_,by simp,⟨fun _ _ _ _ _=>rfl,fun _ _ _ h=>nomatch h⟩,⟨[],rfl,rfl⟩⟩
   ·rw[hheap,Array.getElem?_modify,if_neg]
    intro e;subst e
    exact hx (by rw[hfeet,a2];simp)
   ·obtain⟨rfl,rfl⟩:=hob2 h
    refine⟨by show l.reverse.length<=_;rw[List.length_reverse];exact g1,by show l.reverse.length<=_;rw[List.length_reverse];exact g2,.inr ⟨b,off,_,ty,fun i=>[.int .i64 (l.reverse.getD i 0)],a1,a2,hnew,⟨by rw[hlen];exact a4.1,fun _ h=>nomatch h⟩,fun i hi=>⟨⟨⟨rfl,rfl⟩,fun j u hj=>?_⟩,⟨_,_,rfl,rfl,rfl⟩⟩⟩⟩
    have hi':i<l.length:=by have:i<l.reverse.length:=hi;simpa using this
    cases j with
    |zero=>
     cases hj
     have hc:off+i<cells.length:=by
      have h1:off+(β 1000).cap*1<=cells.length:=a4.1
      have h2:l.length<=(β 1000).cap:=g1
      omega
     rw[show off+i*Enc.sz Int+0=off+i from(by show off+i*1+0=off+i;omega),Array.getElem?_toList]
     unfold putCells
     rw[Array.getElem?_mapIdx,List.getElem?_toArray,hus i hi',Option.map_some,if_pos (by simp;omega),show off+i-(off+0*1)=i by omega]
     have hi2:i<l.reverse.length:=by simpa using hi'
     simp[List.getD_eq_getElem?_getD,hi2,getElem!_pos,hi']
    |succ j=>cases hj
   ·rw[hfeet] at hk
    exact⟨.inr (by rw[hfeet];exact hk),by rw[hheap];simpa using hlt k hk⟩
   ·rw[hfeet];exact hnd
structure VisE where
 b:Int
 rest:List Int
instance:Enc VisE:=⟨fun x=>[.i .i64 x.b,eL x.rest],2,⟨0,[]⟩⟩
structure OrdS where
 ma:List Bool
 st:List VisE
 out:List Int
def ordIg (f:FnE):OrdS:=⟨(List.replicate f.blocks.length false).set 0 true,[⟨0,Succs f 0⟩],[]⟩
def ordT (f:FnE) (s:OrdS) (v:VisE) (l:List VisE):OrdS:=
 match v.rest with
 |[]=>⟨s.ma,l,s.out++[v.b]⟩
 |t::r=>if s.ma.getD t.toNat false=true then⟨s.ma,l++[⟨v.b,r⟩],s.out⟩ else⟨s.ma.set t.toNat true,l++[⟨v.b,r⟩,⟨t,Succs f t⟩],s.out⟩
def ordG (f:FnE) (s:OrdS):OrdS:=if s.st.length=0 then s else ordT f s (s.st.getD (s.st.length-1) Enc.d) s.st.dropLast
def ordN (f:FnE):Nat->OrdS
 |0=>ordIg f
 |n+1=>ordG f (ordN f n)
structure OrdInv (f:FnE) (s:OrdS):Prop where
 len:s.ma.length=f.blocks.length
 cnt:s.out.length+s.st.length=s.ma.count true
 zero:s.ma.getD 0 false=true
 rg: ∀b:Nat,s.ma.getD b false=true->RG f (-1) b
 rng: ∀v∈s.st,0<=v.b/\v.b<f.blocks.length
 mkd: ∀v∈s.st,s.ma.getD v.b.toNat false=true
 suf: ∀v∈s.st,v.rest<:+Succs f v.b
 cls: ∀b:Nat,s.ma.getD b false=true-> ∀t∈Succs f b,s.ma.getD t.toNat false=true\/ ∃v∈s.st,v.b=b/\t∈v.rest
 cov: ∀b:Nat,s.ma.getD b false=true->(b:Int)∈s.out\/ ∃v∈s.st,v.b=b
 outm: ∀b∈s.out,(0<=b/\b<f.blocks.length)/\s.ma.getD b.toNat false=true
theorem count_set_t: ∀(l:List Bool) (i:Nat),i<l.length->l.getD i false=false->(l.set i true).count true=l.count true+1
 |[],_,h,_=>absurd h (by simp)
 |x::l,0,_,h=>by
  have:x=false:=h
  subst this;simp
 |x::l,i+1,h,h'=>by
  have:=count_set_t l i (by simpa using h) h'
  rw[List.set_cons_succ,List.count_cons,List.count_cons,this];omega
theorem getD_set_t (l:List Bool) (i j:Nat) (h:i<l.length):(l.set i true).getD j false=(if i=j then true else l.getD j false):=by
 rw[List.getD_eq_getElem?_getD,List.getElem?_set]
 split
 ·rename_i e;subst e;first|rfl|(rw[if_pos h];rfl)
 ·rw[<-List.getD_eq_getElem?_getD]
theorem snoc_of {α:Type} {d:α} (l:List α) (h:0<l.length): ∃l' x,l=l'++[x]/\l.getD (l.length-1) d=x/\l.dropLast=l':=by
 refine⟨l.dropLast,l.getD (l.length-1) d,?_,rfl,rfl⟩
 have hne:l≠[]:=fun e=>by rw[e] at h;simp at h
 conv=>lhs;rw[<-List.dropLast_concat_getLast hne]
 rw[List.getLast_eq_getElem,List.getD_eq_getElem?_getD,List.getElem?_eq_getElem (by omega)]
 rfl
theorem ordI_inv (f:FnE) (h:0<f.blocks.length):OrdInv f (ordIg f) where
 len:=by simp[ordIg]
 cnt:=by
  rw[show(ordIg f).ma=(List.replicate f.blocks.length false).set 0 true from rfl,count_set_t _ _ (by simpa using h) (by simp[List.getD_eq_getElem?_getD,List.getElem?_replicate,h])]
  simp[ordIg,List.count_replicate]
 zero:=by rw[show(ordIg f).ma=(List.replicate f.blocks.length false).set 0 true from rfl,getD_set_t _ _ _ (by simpa using h)];rfl
 rg:=fun b hb=>by
  rw[show(ordIg f).ma=(List.replicate f.blocks.length false).set 0 true from rfl,getD_set_t _ _ _ (by simpa using h)] at hb
  by_cases e:0=b
  ·exact e▸ .zero h (by omega)
  ·rw[if_neg e] at hb;simp[List.getD_eq_getElem?_getD,List.getElem?_replicate] at hb
   split at hb<;>simp at hb
 rng:=fun v hv=>by
  rw[List.mem_singleton.1 hv];exact⟨by simp,by simpa using h⟩
 mkd:=fun v hv=>by
  rw[List.mem_singleton.1 hv,show(ordIg f).ma=(List.replicate f.blocks.length false).set 0 true from rfl,getD_set_t _ _ _ (by simpa using h)];rfl
 suf:=fun v hv=>by rw[List.mem_singleton.1 hv];exact List.suffix_refl _
 cls:=fun b hb t ht=>by
  rw[show(ordIg f).ma=(List.replicate f.blocks.length false).set 0 true from rfl,getD_set_t _ _ _ (by simpa using h)] at hb
  by_cases e:0=b
  ·subst e;exact .inr ⟨_,List.mem_singleton.2 rfl,rfl,ht⟩
  ·rw[if_neg e] at hb;simp[List.getD_eq_getElem?_getD,List.getElem?_replicate] at hb
   split at hb<;>simp at hb
 cov:=fun b hb=>by
  rw[show(ordIg f).ma=(List.replicate f.blocks.length false).set 0 true from rfl,getD_set_t _ _ _ (by simpa using h)] at hb
  by_cases e:0=b
  ·subst e;exact .inr ⟨_,List.mem_singleton.2 rfl,rfl⟩
  ·rw[if_neg e] at hb;simp[List.getD_eq_getElem?_getD,List.getElem?_replicate] at hb
   split at hb<;>simp at hb
 outm:=fun b hb=>by simp[ordIg] at hb
def ordM (f:FnE) (s:OrdS):Nat:=(f.blocks.length-s.ma.count true)*(siz f+2)+(s.st.map fun v=>v.rest.length+1).sum
theorem ordT_inv {f:FnE} {s:OrdS} {v:VisE} {l:List VisE} (h:OrdInv f s) (e:s.st=l++[v]):OrdInv f (ordT f s v l)/\ordM f (ordT f s v l)+1<=ordM f s:=by
 have hv:v∈s.st:=by rw[e];simp
 have hl: ∀x∈l,x∈s.st:=fun x hx=>by rw[e];simp[hx]
 have hx: ∀x∈s.st,x∈l\/x=v:=fun x hx=>by rw[e] at hx;simpa using hx
 have hr:=h.rng v hv
 have hlen:s.st.length=l.length+1:=by rw[e];simp
 have hM:ordM f s=(f.blocks.length-s.ma.count true)*(siz f+2)+((l.map fun v=>v.rest.length+1).sum+(v.rest.length+1)):=by
  unfold ordM;rw[e,List.map_append,List.sum_append];simp
 have hc:=h.cnt
 unfold ordT
 cases hq:v.rest with
 |nil=>
  refine⟨⟨h.len,?_,h.zero,h.rg,fun x hx=>h.rng x (hl x hx),fun x hx=>h.mkd x (hl x hx),fun x hx=>h.suf x (hl x hx),fun b hb t ht=>?_,fun b hb=>?_,fun b hb=>?_⟩,?_⟩
  ·show(s.out++[v.b]).length+l.length=s.ma.count true
   rw[List.length_append];simp;omega
  ·rcases h.cls b hb t ht with h1|⟨x,h1,h2,h3⟩
   ·exact .inl h1
   ·rcases hx x h1 with h4|h4
    ·exact .inr ⟨x,h4,h2,h3⟩
    ·subst h4;rw[hq] at h3;simp at h3
  ·rcases h.cov b hb with h1|⟨x,h1,h2⟩
   ·exact .inl (List.mem_append_left _ h1)
   ·rcases hx x h1 with h4|h4
    ·exact .inr ⟨x,h4,h2⟩
    ·subst h4;exact .inl (List.mem_append_right _ (by simp[h2]))
  ·rcases List.mem_append.1 hb with h1|h1
   ·exact h.outm b h1
   ·rw[List.mem_singleton.1 h1];exact⟨hr,h.mkd v hv⟩
  ·show(f.blocks.length-s.ma.count true)*(siz f+2)+(l.map fun v=>v.rest.length+1).sum+1<=_
   rw[hM,hq];simp only[List.length_nil];omega
 |cons t r=>
  have hs:=h.suf v hv
  rw[hq] at hs
  have ht:t∈Succs f v.b:=hs.subset (by simp)
  have htr:=Succs_mem ht
  have hr':r<:+Succs f v.b:=(List.suffix_cons t r).trans hs
  show OrdInv f (if s.ma.getD t.toNat false=true then _ else _)/\ordM f (if s.ma.getD t.toNat false=true then _ else _)+1<=ordM f s
  have hvb:=h.mkd v hv
  by_cases hm:s.ma.getD t.toNat false=true
  ·rw[if_pos hm]
   refine⟨⟨h.len,?_,h.zero,h.rg,fun x hx=>?_,fun x hx=>?_,fun x hx=>?_,fun b hb u hu=>?_,fun b hb=>?_,h.outm⟩,?_⟩
   ·show s.out.length+(l++[(⟨v.b,r⟩:VisE)]).length=s.ma.count true
    rw[List.length_append];simp;omega
   ·rcases List.mem_append.1 hx with h1|h1
    ·exact h.rng x (hl x h1)
    ·rw[List.mem_singleton.1 h1];exact hr
   ·rcases List.mem_append.1 hx with h1|h1
    ·exact h.mkd x (hl x h1)
    ·rw[List.mem_singleton.1 h1];exact hvb
   ·rcases List.mem_append.1 hx with h1|h1
    ·exact h.suf x (hl x h1)
    ·rw[List.mem_singleton.1 h1];exact hr'
   ·rcases h.cls b hb u hu with h1|⟨x,h1,h2,h3⟩
    ·exact .inl h1
    ·rcases hx x h1 with h4|h4
     ·exact .inr ⟨x,List.mem_append_left _ h4,h2,h3⟩
     ·subst h4;rw[hq] at h3
      rcases List.mem_cons.1 h3 with h5|h5
      ·exact .inl (h5▸hm)
      ·exact .inr ⟨_,List.mem_append_right _ (List.mem_singleton.2 rfl),h2,h5⟩
   ·rcases h.cov b hb with h1|⟨x,h1,h2⟩
    ·exact .inl h1
    ·rcases hx x h1 with h4|h4
     ·exact .inr ⟨x,List.mem_append_left _ h4,h2⟩
     ·subst h4;exact .inr ⟨_,List.mem_append_right _ (List.mem_singleton.2 rfl),h2⟩
   ·show(f.blocks.length-s.ma.count true)*(siz f+2)+((l++[(⟨v.b,r⟩:VisE)]).map fun v=>v.rest.length+1).sum+1<=_
    rw[hM,hq,List.map_append,List.sum_append];simp only[List.map_cons,List.map_nil,List.sum_cons,List.sum_nil,List.length_cons];omega
  ·rw[if_neg hm]
   have hf:s.ma.getD t.toNat false=false:=by simpa using hm
   have hti:t.toNat<s.ma.length:=by rw[h.len];omega
   have hG: ∀b,(s.ma.set t.toNat true).getD b false=(if t.toNat=b then true else s.ma.getD b false):=fun b=>getD_set_t _ _ _ hti
   have hup: ∀b,s.ma.getD b false=true->(s.ma.set t.toNat true).getD b false=true:=fun b hb=>by
    rw[hG];split
    ·rfl
    ·exact hb
   have hC:=count_set_t s.ma t.toNat hti hf
   have hCl:(s.ma.set t.toNat true).count true<=f.blocks.length:=by
    have:=List.count_le_length (a:=true) (l:=s.ma.set t.toNat true)
    rw[List.length_set,h.len] at this;exact this
   refine⟨⟨by simp[h.len],?_,hup _ h.zero,fun b hb=>?_,fun x hx=>?_,fun x hx=>?_,fun x hx=>?_,fun b hb u hu=>?_,fun b hb=>?_,fun b hb=>⟨(h.outm b hb).1,hup _ (h.outm b hb).2⟩⟩,?_⟩
   ·show s.out.length+(l++[(⟨v.b,r⟩:VisE),⟨t,Succs f t⟩]).length=(s.ma.set t.toNat true).count true
    rw[List.length_append,hC];simp;omega
   ·rw[hG] at hb
    split at hb
    ·rename_i e1
     have h1:=RG.step (h.rg _ hvb) (t:=t) (by rw[show((v.b.toNat:Nat):Int)=v.b by omega];exact ht) (by omega)
     rwa [e1] at h1
    ·exact h.rg b hb
   ·rcases List.mem_append.1 hx with h1|h1
    ·exact h.rng x (hl x h1)
    ·rcases List.mem_cons.1 h1 with h2|h2
     ·rw[h2];exact hr
     ·rw[List.mem_singleton.1 h2];exact htr
   ·rcases List.mem_append.1 hx with h1|h1
    ·exact hup _ (h.mkd x (hl x h1))
    ·rcases List.mem_cons.1 h1 with h2|h2
     ·rw[h2];exact hup _ hvb
     ·rw[List.mem_singleton.1 h2]
      show(s.ma.set t.toNat true).getD t.toNat false=true
      rw[hG,if_pos rfl]
   ·rcases List.mem_append.1 hx with h1|h1
    ·exact h.suf x (hl x h1)
    ·rcases List.mem_cons.1 h1 with h2|h2
     ·rw[h2];exact hr'
     ·rw[List.mem_singleton.1 h2];exact List.suffix_refl _
   ·rw[hG] at hb
    by_cases e1:t.toNat=b
    ·exact .inr ⟨⟨t,Succs f t⟩,List.mem_append_right _ (by simp),by show t=b;omega,by show u∈Succs f t;rw[show t=(b:Int) by omega];exact hu⟩
    ·rw[if_neg e1] at hb
     rcases h.cls b hb u hu with h1|⟨x,h1,h2,h3⟩
     ·exact .inl (hup _ h1)
     ·rcases hx x h1 with h4|h4
      ·exact .inr ⟨x,List.mem_append_left _ h4,h2,h3⟩
      ·subst h4;rw[hq] at h3
       rcases List.mem_cons.1 h3 with h5|h5
       ·exact .inl (by subst h5;show(s.ma.set u.toNat true).getD u.toNat false=true;rw[hG,if_pos rfl])
       ·exact .inr ⟨_,List.mem_append_right _ (List.mem_cons_self ..),h2,h5⟩
   ·rw[hG] at hb
    by_cases e1:t.toNat=b
    ·exact .inr ⟨⟨t,Succs f t⟩,List.mem_append_right _ (by simp),by show t=b;omega⟩
    ·rw[if_neg e1] at hb
     rcases h.cov b hb with h1|⟨x,h1,h2⟩
     ·exact .inl h1
     ·rcases hx x h1 with h4|h4
      ·exact .inr ⟨x,List.mem_append_left _ h4,h2⟩
      ·subst h4;exact .inr ⟨_,List.mem_append_right _ (List.mem_cons_self ..),h2⟩
   ·show(f.blocks.length-(s.ma.set t.toNat true).count true)*(siz f+2)+((l++[(⟨v.b,r⟩:VisE),⟨t,Succs f t⟩]).map fun v=>v.rest.length+1).sum+1<=_
    have hsl:=Succs_len f t
    rw[hM,hq,List.map_append,List.sum_append,hC]
    simp only[List.map_cons,List.map_nil,List.sum_cons,List.sum_nil,List.length_cons]
    rw[hC] at hCl
    obtain⟨k,hk⟩: ∃k,f.blocks.length-s.ma.count true=k+1:=⟨f.blocks.length-s.ma.count true-1,by omega⟩
    rw[hk,show f.blocks.length-(s.ma.count true+1)=k by omega,Nat.add_mul]
    omega
theorem ordN_inv (f:FnE) (h:0<f.blocks.length): ∀n,OrdInv f (ordN f n)/\((ordN f n).st.length=0\/ordM f (ordN f n)+n<=ordM f (ordIg f))
 |0=>⟨ordI_inv f h,.inr (Nat.le_refl _)⟩
 |n+1=>by
  obtain⟨h1,h2⟩:=ordN_inv f h n
  by_cases e:(ordN f n).st.length=0
  ·have e2:ordN f (n+1)=ordN f n:=if_pos e
   rw[e2]
   exact⟨h1,.inl e⟩
  ·obtain⟨l',x,e3,e4,e5⟩:=snoc_of (d:=(Enc.d:VisE)) (ordN f n).st (by omega)
   have e2:ordN f (n+1)=ordT f (ordN f n) x l':=by show ordG f (ordN f n)=_;rw[ordG,if_neg e,e4,e5]
   have h3:=ordT_inv h1 e3
   rw[e2]
   refine⟨h3.1,.inr ?_⟩
   have:=h2.resolve_left e
   omega
def ordB (f:FnE):Nat:=f.blocks.length*(siz f+2)+siz f+2
theorem ordI_M (f:FnE):ordM f (ordIg f)<=ordB f:=by
 unfold ordM ordB
 have h1:(f.blocks.length-(ordIg f).ma.count true)*(siz f+2)<=f.blocks.length*(siz f+2):=Nat.mul_le_mul_right _ (Nat.sub_le _ _)
 have h2:=Succs_len f 0
 have h3:((ordIg f).st.map fun v=>v.rest.length+1).sum=(Succs f 0).length+1:=by simp[ordIg]
 omega
theorem ordN_stop {f:FnE} {n:Nat} (e:(ordN f n).st.length=0): ∀k,ordN f (n+k)=ordN f n
 |0=>rfl
 |k+1=>by
  show ordG f (ordN f (n+k))=_
  rw[ordN_stop e k];exact if_pos e
def ordL (f:FnE):List Int:=if f.blocks.length=0 then[] else(ordN f (ordB f+1)).out.reverse
theorem ordN_end (f:FnE) (h:0<f.blocks.length):(ordN f (ordB f+1)).st.length=0:=by
 have h1:=(ordN_inv f h (ordB f+1)).2
 have h2:=ordI_M f
 omega
theorem ordL_of {f:FnE} {n:Nat} (h:0<f.blocks.length) (e:(ordN f n).st.length=0):ordL f=(ordN f n).out.reverse:=by
 rw[ordL,if_neg (by omega)]
 have h1:=ordN_end f h
 rcases Nat.le_total n (ordB f+1) with hl|hl
 ·obtain⟨k,hk⟩:=Nat.exists_eq_add_of_le hl
  rw[hk,ordN_stop e]
 ·obtain⟨k,hk⟩:=Nat.exists_eq_add_of_le hl
  rw[hk,ordN_stop h1]
theorem ordL_mem (f:FnE) (b:Nat) (hb:b<f.blocks.length):(b:Int)∈ordL f↔RG f (-1) b:=by
 have h0:0<f.blocks.length:=by omega
 have h1:=(ordN_inv f h0 (ordB f+1)).1
 have h2:=List.eq_nil_of_length_eq_zero (ordN_end f h0)
 rw[ordL,if_neg (by omega),List.mem_reverse]
 constructor
 ·intro hm
  have:=(h1.outm _ hm).2
  exact h1.rg b (by simpa using this)
 ·intro hr
  have hma: ∀b,RG f (-1) b->(ordN f (ordB f+1)).ma.getD b false=true:=fun b hr=>by
   induction hr with
   |zero _ _=>exact h1.zero
   |step _ ht _ ih=>
    rcases h1.cls _ ih _ ht with h3|⟨v,h3,_⟩
    ·exact h3
    ·rw[h2] at h3;simp at h3
  rcases h1.cov b (hma b hr) with h3|⟨v,h3,_⟩
  ·exact h3
  ·rw[h2] at h3;simp at h3
theorem ordL_rng (f:FnE): ∀x∈ordL f,0<=x/\x<f.blocks.length:=fun x hx=>by
 by_cases h0:f.blocks.length=0
 ·rw[ordL,if_pos h0] at hx;simp at hx
 ·rw[ordL,if_neg h0,List.mem_reverse] at hx
  exact((ordN_inv f (by omega) _).1.outm x hx).1
theorem ord_step {f:FnE} {q:Nat} {J:List VisE} (h:0<(ordN f q).st.length): ∃l' v,(ordN f q).st=l'++[v]/\((ordN f q).st++J).getD ((ordN f q).st.length-1:Int).toNat Enc.d=v/\ordN f (q+1)=ordT f (ordN f q) v l':=by
 obtain⟨l',v,e3,e4,e5⟩:=snoc_of (d:=(Enc.d:VisE)) (ordN f q).st h
 have e0:((ordN f q).st.length-1:Int).toNat=(ordN f q).st.length-1:=by omega
 refine⟨l',v,e3,?_,by show ordG f (ordN f q)=_;rw[ordG,if_neg (by omega),e4,e5]⟩
 rw[e0,List.getD_eq_getElem?_getD,List.getElem?_append_left (by omega),<-List.getD_eq_getElem?_getD,e4]
theorem mk0 (n i:Nat) (hi:i<n):setF (fun x=>constC (Value.bool false)::List.map constC []) (addZ 0 (Int.toNat 0)) [constA (Value.bool true)] i=Enc.enc (((List.replicate n false).set 0 true).getD i Enc.d):=by
 have hd:(Enc.d:Bool)=false:=rfl
 rw[hd,getD_set_t _ _ _ (by simp;omega)]
 unfold setF
 by_cases e:i=0
 ·subst e;rw[if_pos rfl,if_pos (by rfl)];rfl
 ·rw[if_neg (by rw[addZ_eq];exact e),if_neg (fun h=>e h.symm),List.getD_eq_getElem?_getD,List.getElem?_replicate,if_pos hi];rfl
theorem gOrder_S (f:FnE) (hs:siz f<4294967296):ASpec Tryz.prog 98 [eS f] (.orow 1000 1 0 (ordL f).length) [(1000,oL (ordL f))]:=by
 have h1:=blocks_le f
 refine ASpec.enter TYok mixed Tryz.func98 rfl Tryz.call98 Tryz.ntmps98 rfl (rs:=[.tmp 2]) rfl (nd1 _) (Clo.row) (keep:=[0,1,2,3,4,5,6,7]) ?_;conv=>whnf
 repeat' first|(refine iG ?_ ?_<;>intro hb hc<;>first|exact yE|conv=>whnf)|(refine gqs ?_;conv=>whnf)|(refine yt ?_;conv=>whnf)|exact yK|fail
 ·have e:ordL f=[]:=if_pos (by omega)
  rw[e]
  exact⟨_,.nil rfl⟩
 have hn:0<f.blocks.length:=by omega
 (try(first|refine yt ?_|refine CallW.lent ?_);(conv=>whnf));(repeat(refine yb ?_;(conv=>whnf)));(first|refine cK (fun _=>gSuccs_F f _ hs) ?_|refine cL (fun _=>gSuccs_F f _ hs) ?_);conv=>whnf
 refine LitW.own ?_
 conv=>whnf
 repeat' first|(refine iG ?_ ?_<;>intro hb hc<;>first|exact yE|conv=>whnf)|(refine gqs ?_;conv=>whnf)|(refine yt ?_;conv=>whnf)|exact yK|fail
 refine lp [4,5] (fun p:Nat×List VisE=>[.orow 4 2 0 (ordN f p.1).st.length,.orow 1000 1 0 (ordN f p.1).out.length]) (fun p=>[(4,oL ((ordN f p.1).st++p.2)),(1000,oL (ordN f p.1).out),(15,oL (ordN f p.1).ma),(1,bx f)]) (fun p=>OrdInv f (ordN f p.1)/\((ordN f p.1).st.length=0\/ordM f (ordN f p.1)+p.1<=ordM f (ordIg f))) (fun p=>ordM f (ordIg f)+1-p.1) (0,[]) (ordN_inv f hn 0) ?_ fun p hq=>?_
 ·refine eP [(4,21)] [1000] ?_ ?_<;>repeat' first|exact eN|apply zi
  ·intro i hi
   have hi':i<1:=hi
   rw[show i=0 by omega];rfl
  ·simp[ordN,ordIg]
  ·intro i hi
   exact mk0 _ i (by simpa[ordN,ordIg] using hi)
 obtain⟨hq,hm⟩:=hq
 have hcn:=hq.cnt
 have hcl:(ordN f p.1).ma.count true<=f.blocks.length:=hq.len▸List.count_le_length
 have hJ:((ordN f p.1).st++p.2).length=(ordN f p.1).st.length+p.2.length:=List.length_append
 conv=>whnf
 repeat' first|(refine iG ?_ ?_<;>intro hb hc<;>first|exact yE|conv=>whnf)|(refine gqs ?_;conv=>whnf)|(refine gqc (x:=fun _=>gSuccs_F f _ hs) (k:= ?_);conv=>whnf)|(refine gqm (x:=Reverse_S (ordN f p.1).out (by omega)) (k:= ?_);conv=>whnf)|(refine yt ?_;conv=>whnf)|exact yK|fail
 ·obtain⟨l',v,e3,e4,e6⟩:=ord_step (f:=f) (q:=p.1) (J:=p.2) (by omega)
  have e5:((ordN f p.1).st++p.2).getD (addZ 0 ((ordN f p.1).st.length-1:Int).toNat) Enc.d=v:=by rw[addZ_eq,Nat.zero_add,e4]
  rw[e4] at hc
  have hv:v.rest=[]:=List.eq_nil_of_length_eq_zero (by omega)
  have e7:ordN f (p.1+1)=⟨(ordN f p.1).ma,l',(ordN f p.1).out++[v.b]⟩:=by rw[e6,ordT,hv]
  have e8:(ordN f (p.1+1)).out=(ordN f p.1).out++[(((ordN f p.1).st++p.2).getD (addZ 0 ((ordN f p.1).st.length-1:Int).toNat) Enc.d).b]:=by rw[e5,e7]
  have e9:(ordN f (p.1+1)).ma=(ordN f p.1).ma:=by rw[e7]
  have e10:(ordN f (p.1+1)).st++v::p.2=(ordN f p.1).st++p.2:=by rw[e7,e3];simp
  have e11:(ordN f (p.1+1)).st.length+1=(ordN f p.1).st.length:=by rw[e7,e3];simp
  refine .mk (p.1+1,v::p.2) (ordN_inv f hn (p.1+1)) (by show _+1-(p.1+1)<_;omega) ?_
  refine eP [(1000,42)] [] ?_ ?_<;>repeat' first|exact eN|apply zi|exact snoc_len e8|exact snoc_get e8 rfl|rw[e8]
  ·show _=(ordN f (p.1+1)).st.length;omega
  ·exact congrArg List.length e10.symm
  ·intro i hi;exact congrArg (fun l=>Enc.enc (List.getD l i (Enc.d:VisE))) e10.symm
  ·exact congrArg List.length e9.symm
  ·intro i hi;exact congrArg (fun l=>Enc.enc (List.getD l i (Enc.d:Bool))) e9.symm
 ·obtain⟨l',v,e3,e4,e6⟩:=ord_step (f:=f) (q:=p.1) (J:=p.2) (by omega)
  have e12:((ordN f p.1).st++p.2).getD (addZ 0 ((ordN f p.1).st.length-1:Int).toNat) Enc.d=v:=by rw[addZ_eq,Nat.zero_add,e4]
  rw[e4] at hc
  obtain⟨t,r,hv⟩: ∃t r,v.rest=t::r:=by
   cases hr:v.rest with
   |nil=>rw[hr] at hc;simp at hc
   |cons t r=>exact⟨t,r,rfl⟩
  have hvm:v∈(ordN f p.1).st:=by rw[e3];simp
  have ht:=Succs_mem ((hq.suf v hvm).subset (show t∈v.rest by rw[hv];simp))
  have hte:v.rest.getD (Int.toNat 0) Enc.d=t:=by rw[hv];rfl
  have hidx:addZ 0 ((ordN f p.1).st.length-1:Int).toNat=(ordN f p.1).st.length-1:=by rw[addZ_eq];omega
  have hcell:[AV.i .i64 v.b,AV.row none (Enc.sz Int) (lenO (some (constA (Value.int .i64 1))) 1 v.rest.length) (offO (some (constA (Value.int .i64 1))) 1 fun i=>Enc.enc (v.rest.getD i Enc.d))]=Enc.enc (⟨v.b,r⟩:VisE):=by
   rw[hv]
   have h2:(offO (some (constA (Value.int .i64 1))) 1 fun i=>Enc.enc ((t::r).getD i Enc.d))=fun i=>Enc.enc (r.getD i Enc.d):=by
    funext i
    show Enc.enc ((t::r).getD ((1:Int).toNat+i) Enc.d)=_
    rw[show(1:Int).toNat+i=i+1 from Nat.add_comm 1 i];rfl
   have h3:lenO (some (constA (Value.int .i64 1))) 1 ((t::r).length:Int)=r.length:=by show(((t::r).length:Int)-1).toNat=r.length;rw[List.length_cons];omega
   rw[h2,h3];rfl
  have hset:((ordN f p.1).st++p.2).set ((ordN f p.1).st.length-1) ⟨v.b,r⟩=l'++⟨v.b,r⟩::p.2:=by rw[e3];simp
  rw[e12,hte,hcell,hidx]
  have hta:addZ 0 t.toNat<(ordN f p.1).ma.length:=by rw[addZ_eq,hq.len];omega
  refine And.intro ⟨by omega,by omega,hta⟩ ?_
  conv=>whnf
  refine And.intro hta ?_
  conv=>whnf
  repeat' first|(refine iG ?_ ?_<;>intro hb hc<;>first|exact yE|conv=>whnf)|(refine gqs ?_;conv=>whnf)|(refine gqc (x:=fun _=>gSuccs_F f _ hs) (k:= ?_);conv=>whnf)|(refine yt ?_;conv=>whnf)|exact yK|fail
  ·rw[addZ_eq,Nat.zero_add] at hb
   have hmt: ¬(ordN f p.1).ma.getD t.toNat false=true:=by rw[Bool.not_eq_true'] at hb;rw[show(ordN f p.1).ma.getD t.toNat false=false from hb];simp
   have e7:ordN f (p.1+1)=⟨(ordN f p.1).ma.set t.toNat true,l'++[⟨v.b,r⟩,⟨t,Succs f t⟩],(ordN f p.1).out⟩:=by
    rw[e6];unfold ordT;rw[hv];exact if_neg hmt
   have e8:(ordN f (p.1+1)).out=(ordN f p.1).out:=by rw[e7]
   have e9:(ordN f (p.1+1)).ma=(ordN f p.1).ma.set t.toNat true:=by rw[e7]
   have e10:(ordN f (p.1+1)).st++[]=((ordN f p.1).st.set ((ordN f p.1).st.length-1) ⟨v.b,r⟩)++[⟨t,Succs f t⟩]:=by rw[e7,e3];simp
   have e11:(ordN f (p.1+1)).st.length=(ordN f p.1).st.length+1:=by rw[e7,e3];simp
   refine .mk (p.1+1,[]) (ordN_inv f hn (p.1+1)) (by show _+1-(p.1+1)<_;omega) ?_
   refine eP [(4,77)] [] ?_ ?_<;>repeat' first|exact eN|apply zi
   ·exact e11.symm
   ·exact congrArg List.length e8.symm
   ·show _=((ordN f (p.1+1)).st++[]).length;rw[List.append_nil];exact e11.symm
   ·intro i hi
    have hi':i<(ordN f p.1).st.length+1:=by rw[<-e11];simpa using hi
    refine Eq.trans ?_ (congrArg (fun l=>Enc.enc (List.getD l i (Enc.d:VisE))) e10.symm)
    have hsl:((ordN f p.1).st.set ((ordN f p.1).st.length-1) ⟨v.b,r⟩).length=(ordN f p.1).st.length:=List.length_set
    show catF _ _ _ i=Enc.enc ((((ordN f p.1).st.set ((ordN f p.1).st.length-1) ⟨v.b,r⟩)++[(⟨t,Succs f t⟩:VisE)]).getD i Enc.d)
    unfold catF
    by_cases hlt:i<(ordN f p.1).st.length
    ·rw[if_pos hlt,List.getD_eq_getElem?_getD,List.getElem?_append_left (by omega),<-List.getD_eq_getElem?_getD,offF_eq,Nat.zero_add]
     refine(set_fun (l:=(ordN f p.1).st++p.2) (x:=(⟨v.b,r⟩:VisE)) rfl i (by omega)).trans (congrArg Enc.enc ?_)
     rw[List.set_append_left _ _ (by omega),List.getD_eq_getElem?_getD,List.getElem?_append_left (by omega),<-List.getD_eq_getElem?_getD]
    ·rw[if_neg hlt,List.getD_eq_getElem?_getD,List.getElem?_append_right (by omega),show i-(ordN f p.1).st.length=0 by omega,hsl,show i-(ordN f p.1).st.length=0 by omega]
     rfl
   ·exact congrArg List.length e8.symm
   ·intro i hi;exact congrArg (fun l=>Enc.enc (List.getD l i (Enc.d:Int))) e8.symm
   ·show _=(ordN f (p.1+1)).ma.length;rw[e9,List.length_set]
   ·intro i hi
    have hi':i<(ordN f p.1).ma.length:=by
     have h9:=congrArg List.length e9
     rw[List.length_set] at h9
     rw[<-h9];exact hi
    refine(set_fun (l:=(ordN f p.1).ma) (x:=true) rfl i hi').trans ?_
    rw[addZ_eq,Nat.zero_add]
    exact congrArg (fun l=>Enc.enc (List.getD l i (Enc.d:Bool))) e9.symm
  ·rw[addZ_eq,Nat.zero_add] at hb
   have hmt:(ordN f p.1).ma.getD t.toNat false=true:=by rw[Bool.not_eq_false'] at hb;exact hb
   have e7:ordN f (p.1+1)=⟨(ordN f p.1).ma,l'++[⟨v.b,r⟩],(ordN f p.1).out⟩:=by
    rw[e6];unfold ordT;rw[hv];exact if_pos hmt
   have e8:(ordN f (p.1+1)).out=(ordN f p.1).out:=by rw[e7]
   have e9:(ordN f (p.1+1)).ma=(ordN f p.1).ma:=by rw[e7]
   have e10:(ordN f (p.1+1)).st++p.2=((ordN f p.1).st++p.2).set ((ordN f p.1).st.length-1) ⟨v.b,r⟩:=by rw[hset,e7];simp
   have e11:(ordN f (p.1+1)).st.length=(ordN f p.1).st.length:=by rw[e7,e3];simp
   refine .mk (p.1+1,p.2) (ordN_inv f hn (p.1+1)) (by show _+1-(p.1+1)<_;omega) ?_
   refine eP [] [] ?_ ?_<;>repeat' first|exact eN|apply zi
   ·show _=(ordN f (p.1+1)).st.length;omega
   ·exact congrArg List.length e8.symm
   ·exact(show((ordN f p.1).st++p.2).length=((ordN f (p.1+1)).st++p.2).length by rw[e10,List.length_set])
   ·intro i hi
    have hi':i<((ordN f p.1).st++p.2).length:=by
     have:=congrArg List.length e10
     rw[List.length_set] at this
     rw[<-this];exact hi
    refine(set_fun (l:=(ordN f p.1).st++p.2) (x:=(⟨v.b,r⟩:VisE)) rfl i hi').trans ?_
    exact congrArg (fun l=>Enc.enc (List.getD l i (Enc.d:VisE))) e10.symm
   ·exact congrArg List.length e8.symm
   ·intro i hi;exact congrArg (fun l=>Enc.enc (List.getD l i (Enc.d:Int))) e8.symm
   ·exact congrArg List.length e9.symm
   ·intro i hi;exact congrArg (fun l=>Enc.enc (List.getD l i (Enc.d:Bool))) e9.symm
 ·have e:ordL f=(ordN f p.1).out.reverse:=ordL_of hn (by omega)
  exact⟨_,.give rfl (by simp) (by rw[e];simp) (by rw[e];exact fun _ _=>rfl) rfl⟩
theorem ordL_len (f:FnE):(ordL f).length<=f.blocks.length:=by
 by_cases h0:f.blocks.length=0
 ·rw[ordL,if_pos h0];exact Nat.zero_le _
 ·rw[ordL,if_neg h0,List.length_reverse]
  have h1:=(ordN_inv f (by omega) (ordB f+1)).1
  have h2:=List.count_le_length (a:=true) (l:=(ordN f (ordB f+1)).ma)
  have h3:=h1.cnt
  rw[h1.len] at h2
  omega
theorem gReach_F (f:FnE) (l:List Bool) (hl:isRG f (-1) l) (hs:siz f<4294967296):ASpec Tryz.prog 65 [eS f] (eL l) []:=by
 have h1:=blocks_le f
 have h2:=ordL_len f
 refine ASpec.enter TYok mixed Tryz.func65 rfl Tryz.call65 Tryz.ntmps65 rfl (rs:=[.tmp 2]) rfl (nodupB_ok rfl) (Clo.one rfl) (keep:=[0,1,2,3,5,11,12,13]) ?_;conv=>whnf
 repeat' first|(refine iG ?_ ?_<;>intro hb hc<;>first|exact yE|conv=>whnf)|(refine gqs ?_;conv=>whnf)|(refine gqc (x:=fun _=>oL_frz (fun id=>rfl) (gOrder_S f hs)) (k:= ?_);conv=>whnf)|(refine yt ?_;conv=>whnf)|exact yK|fail
 refine lp [13] (fun q:Nat=>[.i .i64 q]) (fun q=>[(9,.row none 1 f.blocks.length fun i=>[.b (decide ((i:Int)∈(ordL f).take q))]),(1,bx f)]) (fun q=>q<=(ordL f).length) (fun q=>(ordL f).length-q) 0 (by omega) ?_ fun q hq=>?_
 ·refine eP [] [] ?_ ?_<;>repeat' first|exact eN|apply zi
 conv=>whnf
 repeat' first|(refine iG ?_ ?_<;>intro hb hc<;>first|exact yE|conv=>whnf)|(refine gqs ?_;conv=>whnf)|(refine yt ?_;conv=>whnf)|exact yK|fail
 ·have hq':q<(ordL f).length:=by omega
  have hx:(ordL f).getD (q:Int).toNat Enc.d=(ordL f)[q]:=by simp[List.getD_eq_getElem?_getD,hq']
  have hr:=ordL_rng f _ (List.getElem_mem hq')
  have ha:addZ 0 ((ordL f).getD (q:Int).toNat Enc.d).toNat<f.blocks.length:=by rw[hx,addZ_eq];omega
  refine And.intro ⟨by rw[hx];omega,by rw[hx];omega,ha⟩ ?_
  conv=>whnf
  repeat' first|(refine iG ?_ ?_<;>intro hb hc<;>first|exact yE|conv=>whnf)|(refine gqs ?_;conv=>whnf)|(refine yt ?_;conv=>whnf)|exact yK|fail
  refine .mk (q+1) (by omega) (by omega) ?_
  refine eP [] [] ?_ ?_<;>repeat' first|exact eN|apply zi
  intro i hi
  unfold setF
  by_cases e:i=addZ 0 ((ordL f).getD (q:Int).toNat Enc.d).toNat
  ·rw[if_pos e]
   have:(i:Int)=(ordL f)[q]:=by rw[e,hx,addZ_eq];omega
   exact congrArg (fun t=>[AV.b t]) (by symm;rw[decide_eq_true_eq,this,List.take_add_one,List.getElem?_eq_getElem hq'];exact List.mem_append_right _ (List.mem_singleton.2 rfl))
  ·rw[if_neg e]
   have:(i:Int)≠(ordL f)[q]:=fun h=>e (by rw[hx,addZ_eq];omega)
   exact congrArg (fun t=>[AV.b t]) (by rw[decide_eq_decide,List.take_add_one,List.getElem?_eq_getElem hq'];simp only[List.mem_append,Option.toList,List.mem_singleton,this,or_false])
 ·have hll:=hl.1
  refine⟨_,.freeze (N:=f.blocks.length) (by rw[lk_cons,if_pos rfl]) (by omega) (by omega) (fun i hi=>?_) rfl⟩
  refine congrArg (fun t=>[AV.b t]) ?_
  have h3:=hl.2 i (by omega)
  have h4:=ordL_mem f i (by omega)
  rw[List.take_of_length_le (by omega)]
  show decide _=l.getD i false
  rw[Bool.eq_iff_iff,decide_eq_true_eq,h3,h4]
theorem EqG_S (l k:List Int) (hl:l.length<4294967296):ASpec Tryz.prog 63 [eL l,eL k] (.b (decide (l=k))) []:=by
 refine ASpec.enter TYok mixed Tryz.func63 rfl Tryz.call63 Tryz.ntmps63 rfl (rs:=[.tmp 4]) rfl (nodupB_ok rfl) (Clo.one rfl) (keep:=[0,1,4,5,12,13]) ?_;conv=>whnf
 repeat' first|(refine iG ?_ ?_<;>intro hb hc<;>first|exact yE|conv=>whnf)|(refine gqs ?_;conv=>whnf)|(refine yt ?_;conv=>whnf)|exact yK|fail
 ·exact⟨_,.keep (congrArg AV.b (decide_eq_false fun e=>by subst e;simp at hb).symm) rfl⟩
 refine lp [13] (fun q:Nat=>[.i .i64 q]) (fun q=>[]) (fun q=>q<=l.length/\ ∀i,i<q->l.getD i Enc.d=k.getD i Enc.d) (fun q=>l.length-q) 0 ⟨by omega,fun i h=>by omega⟩ ?_ fun q hq=>?_
 ·refine eP [] [] ?_ ?_<;>repeat' first|exact eN|apply zi
 conv=>whnf
 obtain⟨hq,hv⟩:=hq
 repeat' first|(refine iG ?_ ?_<;>intro hb hc<;>first|exact yE|conv=>whnf)|(refine gqs ?_;conv=>whnf)|(refine yt ?_;conv=>whnf)|exact yK|fail
 ·exact⟨_,.keep (congrArg AV.b (decide_eq_false fun e=>hc (by rw[e])).symm) rfl⟩
 ·refine .mk (q+1) ⟨by omega,all_step hv hc⟩ (by omega) ?_
  refine eP [] [] ?_ ?_<;>repeat' first|exact eN|apply zi
 ·exact⟨_,.keep (congrArg AV.b (decide_eq_true (ext_getD (by omega) fun i hi=>hv i (by omega))).symm) rfl⟩
def phiE (f:FnE) (x:InsE) (p:Plc):Int:=if¬x.op=25 then 0 else if(0<p.b/\(p.i<=0\/((f.blocks.getD p.b.toNat Enc.d).code.getD (p.i-1).toNat Enc.d).op=25))/\x.to=(PredsL f).getD p.b.toNat Enc.d then 0 else 12
theorem phis1_O (m:ModE) (f:FnE) (n:Int) (ty:AV) (x:InsE) (b i:Nat) (hs:siz f<4294967296) (hx:siz x<4294967296) (hb0:b<f.blocks.length) (hi0:i<iLen f b):
  ASpecO true Tryz.prog 62 [eS x,eS (⟨n,b,i⟩:Plc),.cp [.cp (ckC m f n ty)],.cp [eL (PredsL f)]] [] (phiE f x ⟨n,b,i⟩=0) (.tup []) [] (vflt (phiE f x ⟨n,b,i⟩) ⟨n,b,i⟩) []:=by
 have h1:=to_le x
 have h2:(PredsL f).length=f.blocks.length:=by unfold PredsL;rw[List.length_map,List.length_range]
 have h3:iLen f b=(f.blocks.getD b Enc.d).code.length:=rfl
 have h4:=blocks_le f
 have h5:=iLen_siz f b
 refine ASpecO.enter TYok mixed Tryz.func62 rfl Tryz.call62 Tryz.ntmps62 rfl (rs:=[]) rfl (Clo.one rfl) (Clo.one rfl) rfl (keep:=[0,1,2,3,4,5,6]) fun pin=>?_;conv=>whnf
 repeat' first|(refine iG ?_ ?_<;>intro hb hc<;>first|exact yE|conv=>whnf)|(refine gqs ?_;conv=>whnf)|((first|refine CallV.pan ?_|refine CallW.pan ?_);(conv=>whnf);refine cP (must_O _ _ _) (fun ht=>?_) (fun ht=>?_)<;>conv=>whnf)|(refine gqc (x:=fun _=>EqG_S _ _ (by omega)) (k:= ?_);conv=>whnf)|(refine yt ?_;conv=>whnf)|exact yK|fail
 ·exact rtV (by rw[phiE,if_pos hc])
 ·refine rtV ?_
  rw[phiE,if_neg (fun q=>q hc),if_pos]
  simp only[pickB_and] at ht
  simpa using ht
 ·refine pzV ?_
  rw[phiE,if_neg (fun q=>q hc),if_neg]
  simp only[pickB_and] at ht
  simpa using ht
theorem eachPhi_O (m:ModE) (f:FnE) (n:Int) (ty:AV) (hf:siz f<4294967296) (hx: ∀b i,siz (iAt f b i)<4294967296):
  ASpecO true Tryz.prog 28 [.cp (ckC m f n ty),.clo 62 [.cp [.cp (ckC m f n ty)],.cp [eL (PredsL f)]]] [] ((eachF f n (phiE f)).code=0) (.tup []) [] (vflt (eachF f n (phiE f)).code (eachF f n (phiE f)).at') []:=by
 have h1:=blocks_le f
 have h0:=Code_siz f
 refine ASpecO.enter TYok mixed Tryz.func28 rfl Tryz.call28 Tryz.ntmps28 rfl (rs:=[]) rfl (Clo.one rfl) (Clo.one rfl) rfl (keep:=[0,1,4,5,6,7,12,13,14,20,21,22]) fun pin=>?_;conv=>whnf
 repeat' first|(refine iG ?_ ?_<;>intro hb hc<;>first|exact yE|conv=>whnf)|(refine gqs ?_;conv=>whnf)|(refine yt ?_;conv=>whnf)|exact yK|fail
 refine lp [14] (fun b:Nat=>[.i .i64 b]) (fun b=>[]) (fun b=>b<=f.blocks.length/\ ∀j,j<(codeTo f b 0).length->(eacC f n (phiE f) j).code=0) (fun b=>f.blocks.length-b) 0 ⟨by omega,fun i h=>by simp[codeTo,pairs] at h⟩ ?_ fun b hq=>?_
 ·refine eP [] [] ?_ ?_<;>repeat' first|exact eN|apply zi
 conv=>whnf
 obtain⟨hb1,hv1⟩:=hq
 have h2:=iLen_siz f b
 have h3:iLen f b=(f.blocks.getD b Enc.d).code.length:=rfl
 repeat' first|(refine iG ?_ ?_<;>intro hb hc<;>first|exact yE|conv=>whnf)|(refine gqs ?_;conv=>whnf)|(refine yt ?_;conv=>whnf)|exact yK|fail
 ·refine lp [22] (fun i:Nat=>[.i .i64 i]) (fun i=>(5,bx (f.blocks.getD b Enc.d))::[]) (fun i=>i<=iLen f b/\ ∀j,j<(codeTo f b i).length->(eacC f n (phiE f) j).code=0) (fun i=>iLen f b-i) 0 ⟨by omega,hv1⟩ ?_ fun i hq2=>?_
  ·refine eP [] [] ?_ ?_<;>repeat' first|exact eN|apply zi
  conv=>whnf
  obtain⟨hi1,hv2⟩:=hq2
  repeat' first|(refine iG ?_ ?_<;>intro hb hc<;>first|exact yE|conv=>whnf)|(refine gqs ?_;conv=>whnf)|((first|refine CallV.pan ?_|refine CallW.pan ?_);(conv=>whnf);refine cP (phis1_O m f n ty (iAt f b i) b i hf (hx b i) (by omega) (by omega)) (fun ht=>?_) (fun ht=>?_)<;>conv=>whnf)|(refine yt ?_;conv=>whnf)|exact yK|fail
  ·refine .mk (i+1) ⟨by omega,eac_step (by omega) (by omega) hv2 ht⟩ (by omega) ?_
   refine eP [] [] ?_ ?_<;>repeat' first|exact eN|apply zi
  ·exact pzE (eachF_at (by omega) (by omega) hv2 ht) ht
  ·obtain rfl:i=iLen f b:=by omega
   refine .mk (b+1) ⟨by omega,by rw[kd_nx];exact hv2⟩ (by omega) ?_
   refine eP [] [] ?_ ?_<;>repeat' first|exact eN|apply zi
 ·obtain rfl:b=f.blocks.length:=by omega
  have e:=eachF_no hv1
  exact rtV (by rw[e])
theorem phis_O (m:ModE) (f:FnE) (n:Int) (ty:AV) (hf:siz f<4294967296) (hx: ∀b i,siz (iAt f b i)<4294967296):
  ASpecO true Tryz.prog 32 [.cp (ckC m f n ty)] [] ((eachF f n (phiE f)).code=0) (.tup []) [] (vflt (eachF f n (phiE f)).code (eachF f n (phiE f)).at') []:=by
 refine ASpecO.enter TYok mixed Tryz.func32 rfl Tryz.call32 Tryz.ntmps32 rfl (rs:=[]) rfl (Clo.one rfl) (Clo.one rfl) rfl (keep:=[0,1,2]) fun pin=>?_;conv=>whnf
 repeat' first|(refine iG ?_ ?_<;>intro hb hc<;>first|exact yE|conv=>whnf)|(refine gqs ?_;conv=>whnf)|(refine gqc (x:=fun _=>gPreds_F f hf) (k:= ?_);conv=>whnf)|(refine CallW.pl ?_;(conv=>whnf);(repeat(refine yb ?_;(conv=>whnf)));refine cQ (eachPhi_O m f n ty hf hx) (fun ht=>?_) (fun ht=>?_)<;>conv=>whnf)|(refine yt ?_;conv=>whnf)|exact yK|fail
 all_goals first|exact⟨[],[],trivial,trivial,rfl⟩|exact⟨[],[],⟨rfl,rfl,rfl,rfl,trivial⟩,trivial,rfl⟩
structure RkG where
 E:Nat->Nat->Prop
 R:Nat->Prop
 rk:Nat->Nat
 n:Nat
 zero:R 0/\rk 0=0
 edge: ∀p b,R p->E p b->R b
 inj: ∀a b,R a->R b->rk a=rk b->a=b
 par: ∀b,R b->b≠0-> ∃p,R p/\E p b/\rk p<rk b
 lt: ∀b,R b->b<n
section
variable (G:RkG)
inductive Anc (P:Nat->Option Nat) (y:Nat):Nat->Prop
 |self:Anc P y y
 |up (b p:Nat):b≠0->P b=some p->Anc P y p->Anc P y b
inductive AP (y:Nat):Nat->Nat->Prop
 |zero:y≠0->AP y 0 0
 |fwd (m p b:Nat):AP y m p->G.E p b->G.rk p<G.rk b->b≠y->AP y m b
 |back (m p b:Nat):AP y m p->G.E p b-> ¬G.rk p<G.rk b->b≠y->AP y (m+1) b
structure Up (P:Nat->Option Nat):Prop where
 zero:P 0=some 0
 par: ∀b p,b≠0->P b=some p->G.R b/\(P p).isSome=true/\G.rk p<G.rk b
end
section
variable {G:RkG} {P:Nat->Option Nat}
theorem AP.rch {y m b:Nat} (h:AP G y m b):G.R b:=by
 induction h with
 |zero _=>exact G.zero.1
 |fwd m p b _ e _ _ ih=>exact G.edge p b ih e
 |back m p b _ e _ _ ih=>exact G.edge p b ih e
theorem AP.ne {y m b:Nat} (h:AP G y m b):b≠y:=by
 cases h with
 |zero h=>exact fun e=>h e.symm
 |fwd m p b _ _ _ h=>exact h
 |back m p b _ _ _ h=>exact h
theorem AP.step {y m p b:Nat} (h:AP G y m p) (e:G.E p b) (hb:b≠y): ∃m',AP G y m' b:=by
 rcases Classical.em (G.rk p<G.rk b) with q|q
 ·exact⟨m,.fwd m p b h e q hb⟩
 ·exact⟨m+1,.back m p b h e q hb⟩
theorem AP.inv {y m b:Nat} (h:AP G y m b) (hb:b≠0):(∃p,AP G y m p/\G.E p b/\G.rk p<G.rk b)\/ ∃m' p,m=m'+1/\AP G y m' p/\G.E p b:=by
 cases h with
 |zero _=>exact absurd rfl hb
 |fwd m p b h e r _=>exact .inl ⟨p,h,e,r⟩
 |back m p b h e r _=>exact .inr ⟨m,p,rfl,h,e⟩
theorem AP.split {y m x:Nat} (b:Nat) (h:AP G y m x):AP G b m x\/ ∃m',m'<=m/\AP G y m' b:=by
 induction h with
 |zero hy=>
  by_cases e:b=0
  ·subst e;exact .inr ⟨0,Nat.le_refl _,.zero hy⟩
  ·exact .inl (.zero e)
 |fwd m p x h e r hx ih=>
  by_cases q:x=b
  ·subst q;exact .inr ⟨m,Nat.le_refl _,.fwd m p x h e r hx⟩
  ·rcases ih with ih|ih
   ·exact .inl (.fwd m p x ih e r q)
   ·exact .inr ih
 |back m p x h e r hx ih=>
  by_cases q:x=b
  ·subst q;exact .inr ⟨m+1,Nat.le_refl _,.back m p x h e r hx⟩
  ·rcases ih with ih|⟨m',h1,h2⟩
   ·exact .inl (.back m p x ih e r q)
   ·exact .inr ⟨m',by omega,h2⟩
theorem AP.rise: ∀(k b y:Nat),G.rk b<=k->G.R b->G.rk b<G.rk y->AP G y 0 b
 |k,b,y,hk,hr,hy=>by
  by_cases e:b=0
  ·subst e;refine .zero fun q=>?_;subst q;omega
  ·obtain⟨p,h1,h2,h3⟩:=G.par b hr e
   cases k with
   |zero=>omega
   |succ k=>exact .fwd 0 p b (AP.rise k p y (by omega) h1 (by omega)) h2 h3 fun q=>by subst q;omega
theorem AP.via: ∀(k b x:Nat),G.rk x<=k->G.R x-> ¬AP G b 0 x-> ∀y m,G.rk y<G.rk b->AP G y m b-> ∃m',AP G y m' x
 |k,b,x,hk,hr,hn,y,m,hy,hb=>by
  by_cases e:x=b
  ·subst e;exact⟨m,hb⟩
  ·by_cases e0:x=0
   ·subst e0;exact absurd (.zero fun q=>e q.symm) hn
   ·obtain⟨p,h1,h2,h3⟩:=G.par x hr e0
    cases k with
    |zero=>omega
    |succ k=>
     obtain⟨m',h4⟩:=AP.via k b p (by omega) h1 (fun h=>hn (.fwd 0 p x h h2 h3 e)) y m hy hb
     refine h4.step h2 fun q=>?_
     subst q
     exact hn (AP.rise _ x b (Nat.le_refl _) hr hy)
theorem Anc.trans {x y z:Nat} (h1:Anc P x y) (h2:Anc P y z):Anc P x z:=by
 induction h2 with
 |self=>exact h1
 |up b p hb hp _ ih=>exact .up b p hb hp ih
theorem Anc.inv {y b p:Nat} (h:Anc P y b) (hne:y≠b) (hp:P b=some p):Anc P y p:=by
 cases h with
 |self=>exact absurd rfl hne
 |up b p' hb hp' h=>rw[hp] at hp';cases hp';exact h
theorem Anc.root {y:Nat} (h:Anc P y 0):y=0:=by
 cases h with
 |self=>rfl
 |up b p hb _ _=>exact absurd rfl hb
theorem Anc.none {y b:Nat} (h:Anc P y b) (hn:P b=none):y=b:=by
 cases h with
 |self=>rfl
 |up b p _ hp _=>rw[hn] at hp;cases hp
theorem Anc.rk (hU:Up G P) {y b:Nat} (h:Anc P y b):y=b\/G.rk y<G.rk b:=by
 induction h with
 |self=>exact .inl rfl
 |up b p hb hp _ ih=>
  have:=(hU.par b p hb hp).2.2
  rcases ih with rfl|ih
  ·exact .inr this
  ·exact .inr (by omega)
theorem Anc.le (hU:Up G P) {y b:Nat} (h:Anc P y b):G.rk y<=G.rk b:=by
 rcases h.rk hU with rfl|h
 ·exact Nat.le_refl _
 ·omega
theorem Anc.anti (hU:Up G P) {y b:Nat} (h:Anc P y b) (h':Anc P b y):y=b:=by
 rcases h.rk hU with q|q
 ·exact q
 ·have:=h'.le hU;omega
theorem Anc.some (hU:Up G P) {y b:Nat} (h:Anc P y b) (hb:(P b).isSome=true):(P y).isSome=true:=by
 induction h with
 |self=>exact hb
 |up b p hb' hp _ ih=>exact ih (hU.par b p hb' hp).2.1
theorem Anc.chain {y z b:Nat} (h:Anc P y b) (h':Anc P z b):Anc P y z\/Anc P z y:=by
 induction h with
 |self=>exact .inr h'
 |up b p hb hp h1 ih=>
  by_cases e:z=b
  ·subst e;exact .inl (.up z p hb hp h1)
  ·exact ih (h'.inv e hp)
theorem nca_ex (hU:Up G P): ∀(k a b:Nat),G.rk a+G.rk b<=k->(P a).isSome=true->(P b).isSome=true-> ∃c,(P c).isSome=true/\ ∀y,Anc P y c↔Anc P y a/\Anc P y b
 |k,a,b,hk,ha,hb=>by
  have hR: ∀x,(P x).isSome=true->G.R x:=fun x hx=>by
   by_cases e:x=0
   ·subst e;exact G.zero.1
   ·obtain⟨p,hp⟩:=Option.isSome_iff_exists.1 hx;exact(hU.par x p e hp).1
  have key: ∀a b,(P a).isSome=true->(P b).isSome=true->G.rk b<G.rk a-> ∃p,P a=Option.some p/\a≠0/\ ∀y,(Anc P y a/\Anc P y b↔Anc P y p/\Anc P y b):=fun a b ha hb hlt=>by
   have h0:a≠0:=fun e=>by subst e;have:=G.zero.2;omega
   obtain⟨p,hp⟩:=Option.isSome_iff_exists.1 ha
   refine⟨p,hp,h0,fun y=>⟨fun⟨h1,h2⟩=>⟨?_,h2⟩,fun⟨h1,h2⟩=>⟨.up a p h0 hp h1,h2⟩⟩⟩
   refine h1.inv (fun e=>?_) hp
   subst e
   have:=h2.le hU;omega
  by_cases e:a=b
  ·subst e;exact⟨a,ha,fun y=>⟨fun h=>⟨h,h⟩,fun h=>h.1⟩⟩
  ·have hne:G.rk a≠G.rk b:=fun q=>e (G.inj a b (hR a ha) (hR b hb) q)
   cases k with
   |zero=>omega
   |succ k=>
    rcases Nat.lt_or_ge (G.rk b) (G.rk a) with q|q
    ·obtain⟨p,hp,h0,h⟩:=key a b ha hb q
     have h3:=hU.par a p h0 hp
     obtain⟨c,hc,hy⟩:=nca_ex hU k p b (by omega) h3.2.1 hb
     exact⟨c,hc,fun y=>(hy y).trans (h y).symm⟩
    ·obtain⟨p,hp,h0,h⟩:=key b a hb ha (by omega)
     have h3:=hU.par b p h0 hp
     obtain⟨c,hc,hy⟩:=nca_ex hU k a p (by omega) ha h3.2.1
     exact⟨c,hc,fun y=>(hy y).trans (and_comm.trans ((h y).symm.trans and_comm))⟩
theorem anc_uniq (hU:Up G P) {c d:Nat} (h: ∀y,Anc P y c↔Anc P y d):c=d:=
 Anc.anti hU ((h c).1 .self) ((h d).2 .self)
structure DInv (G:RkG) (P:Nat->Option Nat) (m r:Nat):Prop where
 up:Up G P
 snd: ∀b y,(P b).isSome=true->(∀k,¬AP G y k b)->Anc P y b
 old: ∀k b y,k<m->(P b).isSome=true->AP G y k b-> ¬Anc P y b
 cur: ∀b y,(P b).isSome=true->G.rk b<r->AP G y m b-> ¬Anc P y b
 pro: ∀b,G.R b->G.rk b<r\/0<m->(P b).isSome=true
 ini:m=0-> ∀b,(P b).isSome=true->G.rk b<r
theorem DInv.rch {m r:Nat} (h:DInv G P m r) {x:Nat} (hx:(P x).isSome=true):G.R x:=by
 by_cases e:x=0
 ·subst e;exact G.zero.1
 ·obtain⟨p,hp⟩:=Option.isSome_iff_exists.1 hx;exact(h.up.par x p e hp).1
theorem DInv.zero {m r:Nat} (h:DInv G P m r) {b y:Nat} (hb:(P b).isSome=true) (ha:AP G y 0 b): ¬Anc P y b:=by
 by_cases e:m=0
 ·subst e;exact h.cur b y hb (h.ini rfl b hb) ha
 ·exact h.old 0 b y (by omega) hb ha
def setP (P:Nat->Option Nat) (b c:Nat):Nat->Option Nat:=fun x=>if x=b then some c else P x
theorem setP_self {b c:Nat}:setP P b c b=some c:=if_pos rfl
theorem setP_ne {b c x:Nat} (h:x≠b):setP P b c x=P x:=if_neg h
theorem setP_up (hU:Up G P) {b c:Nat} (hb:b≠0) (hR:G.R b) (hc:(P c).isSome=true) (hlt:G.rk c<G.rk b):Up G (setP P b c) where
 zero:=by rw[setP_ne fun e=>hb e.symm];exact hU.zero
 par:=fun x p hx hp=>by
  have hs: ∀q,(P q).isSome=true->(setP P b c q).isSome=true:=fun q hq=>by
   by_cases e:q=b
   ·subst e;rw[setP_self];rfl
   ·rw[setP_ne e];exact hq
  by_cases e:x=b
  ·subst e
   rw[setP_self] at hp
   cases hp
   exact⟨hR,hs c hc,hlt⟩
  ·rw[setP_ne e] at hp
   obtain⟨h1,h2,h3⟩:=hU.par x p hx hp
   exact⟨h1,hs p h2,h3⟩
theorem setP_anc (hU:Up G P) {b c y x:Nat} (hlt:G.rk c<G.rk b) (h:Anc (setP P b c) y x):(Anc P y x/\(¬Anc P b x\/Anc P b y))\/(Anc P b x/\Anc P y c):=by
 induction h with
 |self=>exact .inl ⟨.self,(Classical.em (Anc P b y)).symm⟩
 |up x p hx hp _ ih=>
  by_cases e:x=b
  ·subst e
   rw[setP_self] at hp
   cases hp
   rcases ih with⟨ih,_⟩|⟨ih,_⟩
   ·exact .inr ⟨.self,ih⟩
   ·have:=ih.le hU;omega
  ·rw[setP_ne e] at hp
   rcases ih with⟨ih,h1⟩|⟨ih,h1⟩
   ·refine .inl ⟨.up x p hx hp ih,h1.imp (fun h1 h2=>h1 (h2.inv (fun q=>e q.symm) hp)) id⟩
   ·exact .inr ⟨.up x p hx hp ih,h1⟩
theorem setP_anc1 {b c y x:Nat} (h:Anc P y x) (hn: ¬Anc P b x):Anc (setP P b c) y x:=by
 induction h with
 |self=>exact .self
 |up x p hx hp _ ih=>
  have e:x≠b:=fun e=>hn (by subst e;exact .self)
  exact .up x p hx (by rw[setP_ne e];exact hp) (ih fun q=>hn (.up x p hx hp q))
theorem setP_anc2 (hU:Up G P) {b c y x:Nat} (h:Anc P y x) (hy:Anc P b y):Anc (setP P b c) y x:=by
 induction h with
 |self=>exact .self
 |up x p hx hp h1 ih=>
  have e:x≠b:=fun e=>by
   subst e
   have h2:=(hy.trans h1).le hU
   have h3:=(hU.par x p hx hp).2.2
   omega
  exact .up x p hx (by rw[setP_ne e];exact hp) ih
theorem setP_anc3 (hU:Up G P) {b c y x:Nat} (hb:b≠0) (hlt:G.rk c<G.rk b) (h:Anc P b x) (hy:Anc P y c):Anc (setP P b c) y x:=by
 induction h with
 |self=>exact .up b c hb setP_self (setP_anc1 hy fun q=>by have:=q.le hU;omega)
 |up x p hx hp h1 ih=>
  by_cases e:x=b
  ·subst e;exact .up x c hb setP_self (setP_anc1 hy fun q=>by have:=q.le hU;omega)
  ·exact .up x p hx (by rw[setP_ne e];exact hp) ih
theorem DInv.step {m r b c:Nat} (h:DInv G P m r) (hb:b≠0) (hR:G.R b) (hr:G.rk b=r) (hc:(P c).isSome=true) (hy: ∀y,Anc P y c↔ ∀p,G.E p b->(P p).isSome=true->Anc P y p):DInv G (setP P b c) m (r+1)/\G.rk c<G.rk b:=by
 have hU:=h.up
 obtain⟨p0,g1,g2,g3⟩:=G.par b hR hb
 have g4:(P p0).isSome=true:=h.pro p0 g1 (.inl (by omega))
 have hlt:G.rk c<G.rk b:=by have:=((hy c).1 .self p0 g2 g4).le hU;omega
 have hpr: ∀x,x≠b->(setP P b c x).isSome=true->(P x).isSome=true:=fun x e hx=>by rwa [setP_ne e] at hx
 have hU':=setP_up hU hb hR hc hlt
 have key: ∀y m',m'<=m->AP G y m' b-> ¬Anc P y c:=fun y m' hm ha hn=>by
  rcases ha.inv hb with⟨p,q1,q2,q3⟩|⟨m3,p,rfl,q1,q2⟩
  ·have q4:(P p).isSome=true:=h.pro p q1.rch (.inl (by omega))
   have q5:=(hy y).1 hn p q2 q4
   rcases Nat.lt_or_ge m' m with q|q
   ·exact h.old m' p y q q4 q1 q5
   ·obtain rfl:m'=m:=by omega
    exact h.cur p y q4 (by omega) q1 q5
  ·have q4:(P p).isSome=true:=h.pro p q1.rch (.inr (by omega))
   exact h.old m3 p y (by omega) q4 q1 ((hy y).1 hn p q2 q4)
 have main: ∀k x y,k<=m->(k<m\/G.rk x<r+1)->(setP P b c x).isSome=true->AP G y k x-> ¬Anc (setP P b c) y x:=fun k x y hk hx hs ha hn=>by
  by_cases e:x=b
  ·subst e
   rcases setP_anc hU hlt hn with⟨h1,h2⟩|⟨_,h2⟩
   ·rcases h2 with h2|h2
    ·exact h2 .self
    ·exact ha.ne (h1.anti hU h2).symm
   ·exact key y k hk ha h2
  ·have hs':=hpr x e hs
   rcases setP_anc hU hlt hn with⟨h1,_⟩|⟨h1,h2⟩
   ·rcases Nat.lt_or_ge k m with q|q
    ·exact h.old k x y q hs' ha h1
    ·obtain rfl:k=m:=by omega
     have h3:G.rk x<r+1:=by omega
     have h4:G.rk x≠r:=fun q=>e (G.inj x b (h.rch hs') hR (by omega))
     exact h.cur x y hs' (by omega) ha h1
   ·have h3:G.rk b<G.rk x:=by
     rcases h1.rk hU with q|q
     ·exact absurd q.symm e
     ·exact q
    have hkm:k<m:=by omega
    rcases ha.split b with q|⟨m',q1,q2⟩
    ·exact h.old k x b hkm hs' q h1
    ·exact key y m' (by omega) q2 h2
 refine⟨⟨hU',fun x y hs hd=>?_,fun k x y hk hs ha=>main k x y (by omega) (.inl hk) hs ha,fun x y hs hx ha=>main m x y (Nat.le_refl _) (.inr hx) hs ha,fun x hx hq=>?_,fun hm x hs=>?_⟩,hlt⟩
 ·by_cases hbx:Anc P b x
  ·by_cases e:x=b
   ·subst e
    by_cases e2:y=x
    ·subst e2;exact .self
    ·refine setP_anc3 hU hb hlt .self ((hy y).2 fun p hp hs'=>h.snd p y hs' fun k ha=>?_)
     obtain⟨m',h1⟩:=ha.step hp fun q=>e2 q.symm
     exact hd m' h1
   ·have hs':=hpr x e hs
    have h1:=h.snd x y hs' hd
    by_cases h2:Anc P b y
    ·exact setP_anc2 hU h1 h2
    ·have h3:Anc P y b:=(Anc.chain h1 hbx).resolve_right h2
     have h4:G.rk y<G.rk b:=by
      rcases h3.rk hU with q|q
      ·subst q;exact absurd .self h2
      ·exact q
     refine setP_anc3 hU hb hlt hbx ((hy y).2 fun p hp hs2=>h.snd p y hs2 fun k ha=>?_)
     obtain⟨m',h5⟩:=ha.step hp (fun q=>by subst q;omega)
     obtain⟨m2,h6⟩:=AP.via _ b x (Nat.le_refl _) (h.rch hs') (fun q=>h.zero hs' q hbx) y m' h4 h5
     exact hd m2 h6
  ·have e:x≠b:=fun e=>hbx (by subst e;exact .self)
   exact setP_anc1 (h.snd x y (hpr x e hs) hd) hbx
 ·by_cases e:x=b
  ·subst e;rw[setP_self];rfl
  ·rw[setP_ne e]
   refine h.pro x hx (hq.imp (fun q=>?_) id)
   have:G.rk x≠r:=fun q=>e (G.inj x b hx hR (by omega))
   omega
 ·by_cases e:x=b
  ·subst e;omega
  ·have:=h.ini hm x (hpr x e hs);omega
theorem DInv.start (hP:P 0=some 0) (hn: ∀b,b≠0->P b=none):DInv G P 0 1 where
 up:=⟨hP,fun b p hb hp=>by rw[hn b hb] at hp;cases hp⟩
 snd:=fun b y hb hd=>by
  by_cases e:b=0
  ·subst e
   by_cases e2:y=0
   ·subst e2;exact .self
   ·exact absurd (.zero e2) (hd 0)
  ·rw[hn b e] at hb;cases hb
 old:=fun k b y hk=>by omega
 cur:=fun b y hb hr ha hq=>by
  by_cases e:b=0
  ·subst e;exact ha.ne hq.root.symm
  ·rw[hn b e] at hb;cases hb
 pro:=fun b hb hr=>by
  have:b=0:=G.inj b 0 hb G.zero.1 (by have:=G.zero.2;omega)
  subst this;rw[hP];rfl
 ini:=fun _ b hb=>by
  by_cases e:b=0
  ·subst e;have:=G.zero.2;omega
  ·rw[hn b e] at hb;cases hb
theorem DInv.turn {m r:Nat} (h:DInv G P m r) (hr: ∀b,G.R b->G.rk b<r):DInv G P (m+1) 1 where
 up:=h.up
 snd:=h.snd
 old:=fun k b y hk hb ha=>by
  rcases Nat.lt_or_ge k m with q|q
  ·exact h.old k b y q hb ha
  ·obtain rfl:k=m:=by omega
   exact h.cur b y hb (hr b (h.rch hb)) ha
 cur:=fun b y hb hr ha hq=>by
  have:b=0:=G.inj b 0 (h.rch hb) G.zero.1 (by have:=G.zero.2;omega)
  subst this;exact ha.ne hq.root.symm
 pro:=fun b hb _=>h.pro b hb (.inl (hr b hb))
 ini:=fun e=>by omega
theorem ap_bound (G:RkG): ∃K,∀y b m,y<G.n->b<G.n->AP G y m b-> ∃m',m'<K/\AP G y m' b:=by
 have row: ∀(N:Nat) (p:Nat->Nat->Prop),∃K,∀b m,b<N->p b m-> ∃m',m'<K/\p b m':=fun N p=>by
  induction N with
  |zero=>exact⟨0,fun b m h=>by omega⟩
  |succ N ih=>
   obtain⟨K,hK⟩:=ih
   by_cases e: ∃m,p N m
   ·obtain⟨m0,h0⟩:=e
    refine⟨K+m0+1,fun b m hb hp=>?_⟩
    by_cases q:b=N
    ·subst q;exact⟨m0,by omega,h0⟩
    ·obtain⟨m',h1,h2⟩:=hK b m (by omega) hp
     exact⟨m',by omega,h2⟩
   ·refine⟨K,fun b m hb hp=>?_⟩
    by_cases q:b=N
    ·subst q;exact absurd ⟨m,hp⟩ e
    ·exact hK b m (by omega) hp
 obtain⟨f,hf⟩:=Classical.axiomOfChoice fun y=>row G.n fun b m=>AP G y m b
 obtain⟨K,hK⟩:=row G.n fun y m=>m=f y
 refine⟨(List.range G.n).foldl (fun a y=>a+f y) 0,fun y b m hy hb ha=>?_⟩
 obtain⟨m',h1,h2⟩:=hf y b m hb ha
 refine⟨m',Nat.lt_of_lt_of_le h1 ?_,h2⟩
 have key: ∀(l:List Nat) (a:Nat),a<=l.foldl (fun a y=>a+f y) a/\ ∀y∈l,f y<=l.foldl (fun a y=>a+f y) a:=fun l=>by
  induction l with
  |nil=>exact fun a=>⟨Nat.le_refl _,fun y h=>by cases h⟩
  |cons z l ih=>
   intro a
   obtain⟨i1,i2⟩:=ih (a+f z)
   refine⟨by rw[List.foldl_cons];omega,fun y hy=>?_⟩
   rw[List.foldl_cons]
   rcases List.mem_cons.1 hy with rfl|hy
   ·omega
   ·exact i2 y hy
 exact(key _ 0).2 y (List.mem_range.2 hy)
theorem DInv.dom {m r K:Nat} (h:DInv G P m r) (hK: ∀y b k,y<G.n->b<G.n->AP G y k b-> ∃m',m'<K/\AP G y m' b) (hm:K<=m) {b y:Nat} (hb:(P b).isSome=true):Anc P y b↔ ∀k,¬AP G y k b:=by
 refine⟨fun hn k ha=>?_,h.snd b y hb⟩
 have hy:=hn.some h.up hb
 obtain⟨m',h1,h2⟩:=hK y b k (G.lt y (h.rch hy)) (G.lt b (h.rch hb)) ha
 exact h.old m' b y (by omega) hb h2 hn
theorem DInv.fix {m r K b c u:Nat} (h:DInv G P m r) (hK: ∀y b k,y<G.n->b<G.n->AP G y k b-> ∃m',m'<K/\AP G y m' b) (hm:K<=m) (hm0:0<m) (hb:b≠0) (hR:G.R b) (hu:P b=some u) (hc:(P c).isSome=true) (hy: ∀y,Anc P y c↔ ∀p,G.E p b->(P p).isSome=true->Anc P y p):c=u:=by
 have hU:=h.up
 have hbs:(P b).isSome=true:=by rw[hu];rfl
 have hpu:=hU.par b u hb hu
 refine anc_uniq hU fun y=>(hy y).trans ⟨fun hA=>?_,fun hA p hp hs=>?_⟩
 ·obtain⟨p0,g1,g2,g3⟩:=G.par b hR hb
  have hne:y≠b:=fun e=>by
   subst e
   have h1:=hA p0 g2 (h.pro p0 g1 (.inr hm0))
   have:=h1.le hU;omega
  refine Anc.inv ((h.dom hK hm hbs).2 fun k ha=>?_) hne hu
  rcases ha.inv hb with⟨p,q1,q2,q3⟩|⟨m3,p,rfl,q1,q2⟩
  ·have hs:=h.pro p q1.rch (.inr hm0)
   exact(h.dom hK hm hs).1 (hA p q2 hs) _ q1
  ·have hs:=h.pro p q1.rch (.inr hm0)
   exact(h.dom hK hm hs).1 (hA p q2 hs) _ q1
 ·have h1:Anc P y b:= .up b u hb hu hA
  have h2:y≠b:=fun e=>by subst e;have:=hA.le hU;omega
  refine(h.dom hK hm hs).2 fun k ha=>?_
  obtain⟨m',h3⟩:=ha.step hp fun q=>h2 q.symm
  exact(h.dom hK hm hbs).1 h1 m' h3
end
def stB (s:OrdS):List Int:=s.st.map (·.b)
structure OrdJ (f:FnE) (s:OrdS):Prop where
 nd:(s.out++stB s).Nodup
 bot: ∀x l,stB s=x::l->x=0
 chn: ∀(l1 l2:List Int) (u v:Int),stB s=l1++u::v::l2->v∈Succs f u
 par: ∀b∈s.out,b=0\/ ∃p:Int,b∈Succs f p/\(p∈stB s\/ ∃A B,s.out=A++b::B/\p∈B)
theorem ordJ_ig (f:FnE):OrdJ f (ordIg f) where
 nd:=by simp[ordIg,stB]
 bot:=fun x l h=>by simp[ordIg,stB] at h;exact h.1.symm
 chn:=fun l1 l2 u v h=>by
  have:=congrArg List.length h
  simp[ordIg,stB] at this
  omega
 par:=fun b hb=>by simp[ordIg] at hb
theorem ordJ_step {f:FnE} {s:OrdS} {v:VisE} {l:List VisE} (hi:OrdInv f s) (h:OrdJ f s) (e:s.st=l++[v]):OrdJ f (ordT f s v l):=by
 have hv:v∈s.st:=by rw[e];simp
 have eb:stB s=l.map (·.b)++[v.b]:=by unfold stB;rw[e];simp
 unfold ordT
 cases hq:v.rest with
 |nil=>
  show OrdJ f ⟨s.ma,l,s.out++[v.b]⟩
  have e1:stB ⟨s.ma,l,s.out++[v.b]⟩=l.map (·.b):=rfl
  refine⟨?_,fun x l' hl=>?_,fun l1 l2 a b hl=>?_,fun b hb=>?_⟩
  ·rw[e1]
   have h1:=h.nd
   rw[eb] at h1
   show(s.out++[v.b]++l.map (·.b)).Nodup
   rw[List.append_assoc]
   exact(List.Perm.append_left s.out List.perm_append_comm).nodup h1
  ·rw[e1] at hl
   exact h.bot x (l'++[v.b]) (by rw[eb,hl];rfl)
  ·rw[e1] at hl
   exact h.chn l1 (l2++[v.b]) a b (by rw[eb,hl];simp)
  ·show b=0\/ ∃p:Int,b∈Succs f p/\(p∈l.map (·.b)\/ ∃A B,s.out++[v.b]=A++b::B/\p∈B)
   have hb:b∈s.out++[v.b]:=hb
   rw[List.mem_append,List.mem_singleton] at hb
   rcases hb with hb|rfl
   ·rcases h.par b hb with h0|⟨p,h1,h2⟩
    ·exact .inl h0
    ·refine .inr ⟨p,h1,?_⟩
     rcases h2 with h2|⟨A,B,h2,h3⟩
     ·rw[eb,List.mem_append,List.mem_singleton] at h2
      rcases h2 with h2|rfl
      ·exact .inl h2
      ·obtain⟨A,B,hAB⟩:=List.append_of_mem hb
       exact .inr ⟨A,B++[v.b],by rw[hAB];simp,by simp⟩
     ·exact .inr ⟨A,B++[v.b],by rw[h2];simp,by simp[h3]⟩
   ·rcases List.eq_nil_or_concat (l.map (·.b)) with hn|⟨l',u,hc⟩
    ·exact .inl (h.bot v.b [] (by rw[eb,hn];rfl))
    ·rw[List.concat_eq_append] at hc
     exact .inr ⟨u,h.chn l' [] u v.b (by rw[eb,hc];simp),.inl (by rw[hc];simp)⟩
 |cons t r=>
  show OrdJ f (if s.ma.getD t.toNat false=true then⟨s.ma,l++[⟨v.b,r⟩],s.out⟩ else⟨s.ma.set t.toNat true,l++[⟨v.b,r⟩,⟨t,Succs f t⟩],s.out⟩)
  have ht:t∈Succs f v.b:=(hi.suf v hv).subset (by rw[hq];simp)
  split
  ·have e1:stB ⟨s.ma,l++[⟨v.b,r⟩],s.out⟩=stB s:=by rw[eb];simp[stB]
   exact⟨by rw[e1];exact h.nd,by rw[e1];exact h.bot,by rw[e1];exact h.chn,by rw[e1];exact h.par⟩
  ·rename_i hm
   have e1:stB ⟨s.ma.set t.toNat true,l++[⟨v.b,r⟩,⟨t,Succs f t⟩],s.out⟩=stB s++[t]:=by rw[eb];simp[stB]
   refine⟨?_,fun x l' hl=>?_,fun l1 l2 a b hl=>?_,fun b hb=>?_⟩
   ·rw[e1]
    show(s.out++(stB s++[t])).Nodup
    rw[<-List.append_assoc]
    refine List.nodup_append.2 ⟨h.nd,by simp,fun a ha b hb he=>?_⟩
    rw[List.mem_singleton] at hb
    subst hb he
    refine hm ?_
    rcases List.mem_append.1 ha with ha|ha
    ·exact(hi.outm a ha).2
    ·unfold stB at ha
     obtain⟨w,hw,rfl⟩:=List.mem_map.1 ha
     exact hi.mkd w hw
   ·rw[e1] at hl
    rw[eb] at hl
    cases hl2:l.map (·.b) with
    |nil=>
     rw[hl2] at hl eb
     simp at hl
     exact h.bot x [] (by rw[eb,<-hl.1];rfl)
    |cons y l3=>
     rw[hl2] at hl eb
     simp at hl
     exact h.bot x (l3++[v.b]) (by rw[eb,<-hl.1];rfl)
   ·rw[e1] at hl
    rcases List.eq_nil_or_concat l2 with rfl|⟨l3,y,rfl⟩
    ·have h3:stB s++[t]=(l1++[a])++[b]:=by rw[hl];simp
     obtain⟨h4,h5⟩:=List.append_inj' h3 rfl
     simp at h5
     rw[eb] at h4
     obtain⟨_,h6⟩:=List.append_inj' h4 rfl
     simp at h6
     rw[<-h5,<-h6];exact ht
    ·rw[List.concat_eq_append] at hl
     have h3:stB s++[t]=(l1++a::b::l3)++[y]:=by rw[hl];simp
     exact h.chn l1 l3 a b (List.append_inj' h3 rfl).1
   ·rw[e1]
    rcases h.par b hb with h0|⟨p,h1,h2|h2⟩
    ·exact .inl h0
    ·exact .inr ⟨p,h1,.inl (by simp[h2])⟩
    ·exact .inr ⟨p,h1,.inr h2⟩
theorem ordJ_N (f:FnE) (h:0<f.blocks.length): ∀n,OrdJ f (ordN f n)
 |0=>ordJ_ig f
 |n+1=>by
  show OrdJ f (ordG f (ordN f n))
  unfold ordG
  split
  ·exact ordJ_N f h n
  ·rename_i hl
   obtain⟨l',x,e1,e2,e3⟩:=snoc_of (d:=(Enc.d:VisE)) (ordN f n).st (by omega)
   rw[e2,e3]
   exact ordJ_step (ordN_inv f h n).1 (ordJ_N f h n) e1
theorem ordL_nd (f:FnE):(ordL f).Nodup:=by
 by_cases h0:f.blocks.length=0
 ·rw[ordL,if_pos h0];exact List.nodup_nil
 ·rw[ordL,if_neg h0]
  have:=(ordJ_N f (by omega) (ordB f+1)).nd
  exact List.pairwise_reverse.2 ((List.nodup_append.1 this).1.imp fun h e=>h e.symm)
theorem ordL_par (f:FnE) (b:Int) (hb:b∈ordL f):b=0\/ ∃p A B,b∈Succs f p/\ordL f=A++b::B/\p∈A:=by
 by_cases h0:f.blocks.length=0
 ·rw[ordL,if_pos h0] at hb;simp at hb
 ·have e:=List.eq_nil_of_length_eq_zero (ordN_end f (by omega))
  rw[ordL,if_neg h0] at hb⊢
  rcases(ordJ_N f (by omega) (ordB f+1)).par b (List.mem_reverse.1 hb) with h1|⟨p,h1,h2|⟨A,B,h2,h3⟩⟩
  ·exact .inl h1
  ·unfold stB at h2
   rw[e] at h2
   simp at h2
  ·exact .inr ⟨p,B.reverse,A.reverse,h1,by rw[h2];simp,by simpa using h3⟩
theorem ordL_zero (f:FnE) (h:0<f.blocks.length):(0:Int)∈ordL f:=(ordL_mem f 0 h).2 (.zero h (by decide))
theorem idx_lt {l A B:List Int} {b p:Int} (hn:l.Nodup) (e:l=A++b::B) (hp:p∈A):l.idxOf p<l.idxOf b:=by
 subst e
 have hb:b∉A:=fun h=>by
  have:=(List.nodup_append.1 hn).2.2 b h b (by simp)
  exact this rfl
 rw[List.idxOf_append,List.idxOf_append,if_pos hp,if_neg hb,List.idxOf_cons_self]
 have:=List.idxOf_lt_length_of_mem hp
 omega
noncomputable def rkG (f:FnE) (h:0<f.blocks.length):RkG where
 E p b:=(b:Int)∈Succs f p
 R b:=(b:Int)∈ordL f
 rk b:=(ordL f).idxOf (b:Int)
 n:=f.blocks.length
 zero:=by
  refine⟨ordL_zero f h,?_⟩
  cases hl:ordL f with
  |nil=>have:=ordL_zero f h;rw[hl] at this;simp at this
  |cons x l=>
   have hx:x∈ordL f:=by rw[hl];simp
   rcases ordL_par f x hx with rfl|⟨p,A,B,_,h2,h3⟩
   ·exact List.idxOf_cons_self
   ·have hlt:=idx_lt (ordL_nd f) h2 h3
    rw[hl] at hlt
    simp at hlt
 edge p b hp he:=by
  have hb:=ordL_rng f _ hp
  have hr:=(ordL_mem f p (by omega)).1 hp
  have hs:=Succs_mem he
  have h1:=RG.step hr he (by omega)
  exact(ordL_mem f b (by omega)).2 h1
 inj a b ha hb e:=by
  have h1:=List.getElem_idxOf (List.idxOf_lt_length_of_mem ha)
  have h2:=List.getElem_idxOf (List.idxOf_lt_length_of_mem hb)
  have h3:(a:Int)=b:=by
   rw[<-h1,<-h2]
   congr 1
  omega
 par b hb hne:=by
  rcases ordL_par f _ hb with h0|⟨p,A,B,h1,h2,h3⟩
  ·omega
  ·have hp:p∈ordL f:=by rw[h2];exact List.mem_append_left _ h3
   have hr:=ordL_rng f _ hp
   obtain⟨k,rfl⟩: ∃k:Nat,p=k:=⟨p.toNat,by omega⟩
   exact⟨k,hp,h1,idx_lt (ordL_nd f) h2 h3⟩
 lt b hb:=by have:=ordL_rng f _ hb;omega
theorem rkG_AP (f:FnE) (h:0<f.blocks.length) (y b:Nat) (hb:b<f.blocks.length):(∃m,AP (rkG f h) y m b)↔RG f y b:=by
 constructor
 ·rintro ⟨m,hm⟩
  induction hm with
  |zero hy=>exact .zero h (by omega)
  |fwd m p b hp he hr hne ih=>
   have hp':=hp.rch
   have:=ordL_rng f _ hp'
   have h1:=RG.step (ih (by omega)) he (by omega)
   simpa using h1
  |back m p b hp he hr hne ih=>
   have hp':=hp.rch
   have:=ordL_rng f _ hp'
   have h1:=RG.step (ih (by omega)) he (by omega)
   simpa using h1
 ·intro hr
  induction hr with
  |zero _ hg=>exact⟨0,.zero (by omega)⟩
  |step hr ht hne ih=>
   rename_i c t
   have hs:=Succs_mem ht
   have hc:c<f.blocks.length:=by
    rcases Nat.lt_or_ge c f.blocks.length with q|q
    ·exact q
    ·exfalso
     have:Succs f c=[]:=by unfold Succs;rw[if_pos (by omega)]
     rw[this] at ht;simp at ht
   obtain⟨m,hm⟩:=ih hc
   obtain⟨k,rfl⟩: ∃k:Nat,t=k:=⟨t.toNat,by omega⟩
   exact hm.step ht (by omega)
def upP (l:List Int):Nat->Option Nat:=fun b=>if 0<=l.getD b (-1) then some (l.getD b (-1)).toNat else none
theorem upP_some {l:List Int} {b p:Nat} (h:upP l b=some p):l.getD b (-1)=p/\b<l.length:=by
 unfold upP at h
 split at h
 ·cases h
  refine⟨by omega,?_⟩
  rcases Nat.lt_or_ge b l.length with q|q
  ·exact q
  ·rename_i h0
   rw[List.getD_eq_getElem?_getD,List.getElem?_eq_none q] at h0
   exact absurd h0 (by decide)
 ·cases h
theorem upP_none {l:List Int} {b:Nat} (h:upP l b=none):l.getD b (-1)<0:=by
 unfold upP at h
 split at h
 ·cases h
 ·omega
theorem upP_is {l:List Int} {b:Nat} (h:(upP l b).isSome=true):0<=l.getD b (-1):=by
 obtain⟨p,hp⟩:=Option.isSome_iff_exists.1 h
 have:=(upP_some hp).1
 omega
theorem upP_of {l:List Int} {b:Nat} {c:Nat} (h:l.getD b (-1)=c):upP l b=some c:=by
 unfold upP;rw[h,if_pos (by omega)];rfl
theorem getD_set_i (l:List Int) (b:Nat) (c:Int) (x:Nat) (hb:b<l.length):(l.set b c).getD x (-1)=if x=b then c else l.getD x (-1):=by
 rw[List.getD_eq_getElem?_getD,List.getElem?_set]
 by_cases e:b=x
 ·subst e;rw[if_pos rfl,if_pos hb,if_pos rfl];rfl
 ·rw[if_neg e,if_neg (fun h=>e h.symm),<-List.getD_eq_getElem?_getD]
theorem upP_set {l:List Int} {b c:Nat} (hb:b<l.length):upP (l.set b (c:Int))=setP (upP l) b c:=by
 funext x
 unfold setP
 by_cases e:x=b
 ·rw[if_pos e];exact upP_of (by rw[getD_set_i _ _ _ _ hb,if_pos e])
 ·rw[if_neg e];unfold upP;rw[getD_set_i _ _ _ _ hb,if_neg e]
def isIdom (f:FnE) (h:0<f.blocks.length) (l:List Int):Prop:=l.length=f.blocks.length/\ ∃P,Up (rkG f h) P/\(∀b,(rkG f h).R b->(P b).isSome=true)/\(∀b y,(rkG f h).R b->(Anc P y b↔ ∀k,¬AP (rkG f h) y k b))/\
 ∀b,b<f.blocks.length->l.getD b (-1)=if b=0 then-1 else match P b with
  |some p=>(p:Int)
  |none=>-1
theorem isIdom_uniq {f:FnE} {h:0<f.blocks.length} {l l':List Int} (h1:isIdom f h l) (h2:isIdom f h l'):l=l':=by
 obtain⟨n1,P,u1,s1,d1,e1⟩:=h1
 obtain⟨n2,Q,u2,s2,d2,e2⟩:=h2
 have key: ∀b,b≠0->P b=Q b:=fun b hb=>by
  cases hp:P b with
  |none=>
   cases hq:Q b with
   |none=>rfl
   |some q=>
    have:=s1 b (u2.par b q hb hq).1
    rw[hp] at this;cases this
  |some p=>
   have hR:=(u1.par b p hb hp).1
   obtain⟨q,hq⟩:=Option.isSome_iff_exists.1 (s2 b hR)
   have ap:Anc P p b:= .up b p hb hp .self
   have aq:Anc Q q b:= .up b q hb hq .self
   have pb:p≠b:=fun e=>by have:=(u1.par b p hb hp).2.2;rw[e] at this;omega
   have qb:q≠b:=fun e=>by have:=(u2.par b q hb hq).2.2;rw[e] at this;omega
   have b1:Anc P q p:=((d1 b q hR).2 ((d2 b q hR).1 aq)).inv qb hp
   have b2:Anc Q p q:=((d2 b p hR).2 ((d1 b p hR).1 ap)).inv pb hq
   have hRq:(rkG f h).R q:=by
    by_cases e:q=0
    ·rw[e];exact(rkG f h).zero.1
    ·obtain⟨r,hr⟩:=Option.isSome_iff_exists.1 (u2.par b q hb hq).2.1
     exact(u2.par q r e hr).1
   have b3:Anc P p q:=(d1 q p hRq).2 ((d2 q p hRq).1 b2)
   rw[hq,Anc.anti u1 b1 b3]
 refine List.ext_getElem (by rw[n1,n2]) fun i h3 h4=>?_
 have g1:=e1 i (by omega)
 have g2:=e2 i (by omega)
 rw[List.getD_eq_getElem?_getD,List.getElem?_eq_getElem h3] at g1
 rw[List.getD_eq_getElem?_getD,List.getElem?_eq_getElem h4] at g2
 simp only[Option.getD_some] at g1 g2
 rw[g1,g2]
 by_cases e:i=0
 ·rw[if_pos e,if_pos e]
 ·rw[if_neg e,if_neg e,key i e]
open Classical in
noncomputable def idomL (f:FnE):List Int:=if h:0<f.blocks.length then(if h2: ∃l,isIdom f h l then Classical.choose h2 else[]) else[]
theorem idomL_eq {f:FnE} {h:0<f.blocks.length} {l:List Int} (hl:isIdom f h l):idomL f=l:=by
 unfold idomL
 rw[dif_pos h,dif_pos ⟨l,hl⟩]
 exact isIdom_uniq (Classical.choose_spec (⟨l,hl⟩: ∃l,isIdom f h l)) hl
theorem DInv.stay {G:RkG} {P:Nat->Option Nat} {m:Nat} (h:DInv G P m 1) (hn: ∀b,G.R b->G.rk b<G.n) (hfix: ∀b,b≠0->G.R b-> ∃c,P b=some c/\(P c).isSome=true/\ ∀y,Anc P y c↔ ∀p,G.E p b->(P p).isSome=true->Anc P y p): ∀k,DInv G P (m+k) 1:=by
 have pass: ∀m,DInv G P m 1->DInv G P (m+1) 1:=fun m h=>by
  have key: ∀r,DInv G P m (r+1):=fun r=>by
   induction r with
   |zero=>exact h
   |succ r ih=>
    by_cases hex: ∃b,G.R b/\G.rk b=r+1
    ·obtain⟨b,hR,hr⟩:=hex
     have hb:b≠0:=fun e=>by subst e;have:=G.zero.2;omega
     obtain⟨c,h1,h2,h3⟩:=hfix b hb hR
     have:=(ih.step hb hR hr h2 h3).1
     have e:setP P b c=P:=by
      funext x
      by_cases e:x=b
      ·subst e;rw[setP_self,h1]
      ·exact setP_ne e
     rw[e] at this
     exact this
    ·refine⟨ih.up,ih.snd,ih.old,fun b y hb hlt ha=>?_,fun b hR hor=>?_,fun h0 b hb=>?_⟩
     ·have hRb:=ih.rch hb
      rcases Nat.lt_or_ge (G.rk b) (r+1) with q|q
      ·exact ih.cur b y hb q ha
      ·exact absurd ⟨b,hRb,by omega⟩ hex
     ·rcases hor with q|q
      ·rcases Nat.lt_or_ge (G.rk b) (r+1) with q1|q1
       ·exact ih.pro b hR (.inl q1)
       ·exact absurd ⟨b,hR,by omega⟩ hex
      ·exact ih.pro b hR (.inr q)
     ·exact Nat.lt_succ_of_lt (ih.ini h0 b hb)
  exact(key G.n).turn fun b hb=>by have:=hn b hb;omega
 intro k
 induction k with
 |zero=>exact h
 |succ k ih=>exact pass _ ih
theorem rk_lt_n (f:FnE) (h:0<f.blocks.length): ∀b,(rkG f h).R b->(rkG f h).rk b<(rkG f h).n:=fun b hb=>by
 show(ordL f).idxOf (b:Int)<f.blocks.length
 have h1:=List.idxOf_lt_length_of_mem (show(b:Int)∈ordL f from hb)
 have h2:=ordL_len f
 omega
theorem isIdom_of {f:FnE} {h:0<f.blocks.length} {l:List Int} {m:Nat} (hl:l.length=f.blocks.length) (hge: ∀x,-1<=l.getD x (-1)) (hd:DInv (rkG f h) (upP l) m 1) (hm:0<m)
  (hfix: ∀b,b≠0->(rkG f h).R b-> ∃c,upP l b=some c/\(upP l c).isSome=true/\ ∀y,Anc (upP l) y c↔ ∀p,(rkG f h).E p b->(upP l p).isSome=true->Anc (upP l) y p):isIdom f h (l.set 0 (-1)):=by
 obtain⟨K,hK⟩:=ap_bound (rkG f h)
 have hs:=hd.stay (rk_lt_n f h) hfix K
 refine⟨by rw[List.length_set];exact hl,upP l,hd.up,fun b hb=>hd.pro b hb (.inr hm),fun b y hb=>hs.dom hK (by omega) (hd.pro b hb (.inr hm)),fun b hb=>?_⟩
 rw[getD_set_i _ _ _ _ (by omega)]
 by_cases e:b=0
 ·rw[if_pos e,if_pos e]
 ·rw[if_neg e,if_neg e]
  cases hp:upP l b with
  |some p=>exact(upP_some hp).1
  |none=>
   have h1:=upP_none hp
   have h2:=hge b
   show l.getD b (-1)= -1
   omega
theorem isIdom_up {f:FnE} {h:0<f.blocks.length} {l:List Int} (hl:isIdom f h l): ∃P,Up (rkG f h) P/\(∀b d,(rkG f h).R b->(Anc P d b↔ ¬RG f d b))/\ ∀b,(rkG f h).R b->(b=0/\l.getD b (-1)= -1)\/(b≠0/\ ∃p:Nat,l.getD b (-1)=p/\P b=some p/\(rkG f h).R p/\(rkG f h).rk p<(rkG f h).rk b):=by
 obtain⟨n1,P,u,s,d,e⟩:=hl
 refine⟨P,u,fun b y hb=>?_,fun b hb=>?_⟩
 ·rw[d b y hb,<-rkG_AP f h y b ((rkG f h).lt b hb)]
  exact⟨fun q ⟨k,hk⟩=>q k hk,fun q k hk=>q ⟨k,hk⟩⟩
 ·have h1:=e b ((rkG f h).lt b hb)
  by_cases h0:b=0
  ·exact .inl ⟨h0,by rw[h1,if_pos h0]⟩
  ·obtain⟨p,hp⟩:=Option.isSome_iff_exists.1 (s b hb)
   rw[if_neg h0,hp] at h1
   have h2:=u.par b p h0 hp
   refine .inr ⟨h0,p,h1,hp,?_,h2.2.2⟩
   by_cases e0:p=0
   ·rw[e0];exact(rkG f h).zero.1
   ·obtain⟨r,hr⟩:=Option.isSome_iff_exists.1 h2.2.1
    exact(u.par p r e0 hr).1
def rankQ (f:FnE) (q:Nat):List Int:=(List.range f.blocks.length).map fun(b:Nat)=>if(b:Int)∈(ordL f).take q then((ordL f).idxOf (b:Int):Int) else 0
def rankL (f:FnE):List Int:=rankQ f (ordL f).length
theorem rankQ_len (f:FnE) (q:Nat):(rankQ f q).length=f.blocks.length:=by unfold rankQ;rw[List.length_map,List.length_range]
theorem rankQ_at (f:FnE) (q b:Nat) (hb:b<f.blocks.length):(rankQ f q).getD b Enc.d=if(b:Int)∈(ordL f).take q then((ordL f).idxOf (b:Int):Int) else 0:=by
 unfold rankQ
 rw[List.getD_eq_getElem?_getD,List.getElem?_map,List.getElem?_range hb];rfl
theorem rankL_at (f:FnE) (h:0<f.blocks.length) (b:Nat) (hb:(rkG f h).R b):(rankL f).getD b Enc.d=((rkG f h).rk b:Int):=by
 unfold rankL
 rw[rankQ_at f _ b ((rkG f h).lt b hb),List.take_length,if_pos (show(b:Int)∈ordL f from hb)];rfl
theorem meet_step {G:RkG} {P:Nat->Option Nat} (hU:Up G P) {a b p:Nat} (h0:a≠0) (hp:P a=some p) (hlt:G.rk b<G.rk a) (y:Nat):(Anc P y p/\Anc P y b)↔(Anc P y a/\Anc P y b):=by
 constructor
 ·exact fun⟨h1,h2⟩=>⟨.up a p h0 hp h1,h2⟩
 ·rintro ⟨h1,h2⟩
  refine⟨h1.inv (fun e=>?_) hp,h2⟩
  subst e
  have:=h2.le hU
  omega
theorem up_R {G:RkG} {P:Nat->Option Nat} (hU:Up G P) {a:Nat} (h:(P a).isSome=true):G.R a:=by
 by_cases e:a=0
 ·rw[e];exact G.zero.1
 ·obtain⟨p,hp⟩:=Option.isSome_iff_exists.1 h
  exact(hU.par a p e hp).1
theorem meet_S (f:FnE) (h:0<f.blocks.length) (l:List Int) (hl:l.length=f.blocks.length) (hs:f.blocks.length<4294967296) (hU:Up (rkG f h) (upP l)) (a b c:Nat) (ha:(upP l a).isSome=true) (hb:(upP l b).isSome=true) (hcc: ∀y,Anc (upP l) y c↔Anc (upP l) y a/\Anc (upP l) y b):
  ASpec Tryz.prog 99 [eL l,eL (rankL f),.i .i64 a,.i .i64 b] (.i .i64 c) []:=by
 have hrl:(rankL f).length=f.blocks.length:=rankQ_len f _
 have hR: ∀x,(upP l x).isSome=true->x<f.blocks.length/\(rankL f).getD x Enc.d=((rkG f h).rk x:Int):=fun x hx=>⟨(rkG f h).lt x (up_R hU hx),rankL_at f h x (up_R hU hx)⟩
 have hst: ∀x,(upP l x).isSome=true->0<(rkG f h).rk x-> ∃p:Nat,x≠0/\upP l x=some p/\l.getD x Enc.d=p/\(upP l p).isSome=true/\(rkG f h).rk p<(rkG f h).rk x:=fun x hx h0=>by
  have hne:x≠0:=fun e=>by subst e;have:=(rkG f h).zero.2;omega
  obtain⟨p,hp⟩:=Option.isSome_iff_exists.1 hx
  have h1:=upP_some hp
  refine⟨p,hne,hp,?_,(hU.par x p hne hp).2⟩
  rw[<-h1.1,List.getD_eq_getElem?_getD,List.getD_eq_getElem?_getD,List.getElem?_eq_getElem h1.2];rfl
 refine ASpec.enter TYok mixed Tryz.func99 rfl Tryz.call99 Tryz.ntmps99 rfl (rs:=[.tmp 8]) rfl (nodupB_ok rfl) (Clo.one rfl) (keep:=[0,1,2,3,8]) ?_;conv=>whnf
 repeat' first|(refine iG ?_ ?_<;>intro hb hc<;>first|exact yE|conv=>whnf)|(refine gqs ?_;conv=>whnf)|(refine yt ?_;conv=>whnf)|exact yK|fail
 refine lp [2,3] (fun q:Nat×Nat=>[.i .i64 q.1,.i .i64 q.2]) (fun q=>[]) (fun q=>(upP l q.1).isSome=true/\(upP l q.2).isSome=true/\ ∀y,(Anc (upP l) y q.1/\Anc (upP l) y q.2)↔(Anc (upP l) y a/\Anc (upP l) y b)) (fun q=>(rkG f h).rk q.1+(rkG f h).rk q.2) (a,b) ⟨ha,hb,fun y=>Iff.rfl⟩ ?_ fun q hq=>?_
 ·refine eP [] [] ?_ ?_<;>repeat' first|exact eN|apply zi
 conv=>whnf
 obtain⟨x,z⟩:=q
 obtain⟨h1,h2,h3⟩:=hq
 simp only at h1 h2 h3
 repeat' first|(refine iG ?_ ?_<;>intro hb hc<;>first|exact yE|conv=>whnf)|(refine gqs ?_;conv=>whnf)|(refine yt ?_;conv=>whnf)|exact yK|fail
 ·refine lp [2] (fun u:Nat=>[.i .i64 u]) (fun u=>[]) (fun u=>(upP l u).isSome=true/\(∀y,(Anc (upP l) y u/\Anc (upP l) y z)↔(Anc (upP l) y a/\Anc (upP l) y b))/\((rkG f h).rk u<(rkG f h).rk x\/u=x)) (fun u=>(rkG f h).rk u) x ⟨h1,h3,.inr rfl⟩ ?_ fun u hu=>?_
  ·refine eP [] [] ?_ ?_<;>repeat' first|exact eN|apply zi
  conv=>whnf
  obtain⟨h4,h5,h6⟩:=hu
  have h7:=hR u h4
  have h8:=hR z h2
  repeat' first|(refine iG ?_ ?_<;>intro hb hc<;>first|exact yE|conv=>whnf)|(refine gqs ?_;conv=>whnf)|(refine yt ?_;conv=>whnf)|exact yK|fail
  ·rw[h7.2,h8.2] at hc
   obtain⟨p,e1,e2,e3,e4,e5⟩:=hst u h4 (by omega)
   refine .mk p ⟨e4,fun y=>(meet_step hU e1 e2 (by omega) y).trans (h5 y),.inl (by rcases h6 with q|rfl<;>omega)⟩ e5 ?_
   refine eP [] [] ?_ ?_<;>repeat' first|exact eN|apply zi
  rw[h7.2,h8.2] at hc
  refine lp [3] (fun v:Nat=>[.i .i64 v]) (fun v=>[]) (fun v=>(upP l v).isSome=true/\(∀y,(Anc (upP l) y v/\Anc (upP l) y u)↔(Anc (upP l) y a/\Anc (upP l) y b))/\((rkG f h).rk v<(rkG f h).rk z\/v=z)) (fun v=>(rkG f h).rk v) z ⟨h2,fun y=>and_comm.trans (h5 y),.inr rfl⟩ ?_ fun v hv=>?_
  ·refine eP [] [] ?_ ?_<;>repeat' first|exact eN|apply zi
  conv=>whnf
  obtain⟨g4,g5,g6⟩:=hv
  have g7:=hR v g4
  repeat' first|(refine iG ?_ ?_<;>intro hb hc<;>first|exact yE|conv=>whnf)|(refine gqs ?_;conv=>whnf)|(refine yt ?_;conv=>whnf)|exact yK|fail
  ·rename_i hc2
   rw[h7.2,g7.2] at hc
   obtain⟨p,e1,e2,e3,e4,e5⟩:=hst v g4 (by omega)
   refine .mk p ⟨e4,fun y=>(meet_step hU e1 e2 (by omega) y).trans (g5 y),.inl (by rcases g6 with q|rfl<;>omega)⟩ e5 ?_
   refine eP [] [] ?_ ?_<;>repeat' first|exact eN|apply zi
  ·rename_i hc2
   rw[h7.2,g7.2] at hc
   refine .mk (u,v) ⟨h4,g4,fun y=>and_comm.trans (g5 y)⟩ ?_ ?_
   ·show(rkG f h).rk u+(rkG f h).rk v<(rkG f h).rk x+(rkG f h).rk z
    rcases h6 with q|rfl
    ·rcases g6 with q2|rfl<;>omega
    ·rcases g6 with q2|rfl
     ·omega
     ·exfalso
      have:=(rkG f h).inj u v (up_R hU h4) (up_R hU g4) (by omega)
      subst this
      exact hc rfl
   ·refine eP [] [] ?_ ?_<;>repeat' first|exact eN|apply zi
 ·have e:x=z:=by omega
  subst e
  have:=Anc.anti hU ((hcc x).2 ((h3 x).1 ⟨.self,.self⟩)) ((h3 c).2 ((hcc c).1 .self)).1
  rw[this]
  exact⟨_,.keep rfl rfl⟩
theorem preds_at (f:FnE) (b:Nat) (hb:b<f.blocks.length):(PredsL f).getD b Enc.d=cnt f b f.blocks.length:=by
 unfold PredsL
 rw[List.getD_eq_getElem?_getD,List.getElem?_map,List.getElem?_range hb];rfl
theorem preds_mem (f:FnE) (b p:Nat) (hb:b<f.blocks.length):(p:Int)∈(PredsL f).getD b Enc.d↔(p<f.blocks.length/\(b:Int)∈Succs f p):=by
 rw[preds_at f b hb]
 unfold cnt
 simp only[List.mem_flatMap,List.mem_range,List.mem_replicate]
 constructor
 ·rintro ⟨c,h1,h2,h3⟩
  have:p=c:=by omega
  subst this
  exact⟨h1,List.count_pos_iff.1 (by omega)⟩
 ·rintro ⟨h1,h2⟩
  exact⟨p,h1,by have:=List.count_pos_iff.2 h2;omega,rfl⟩
theorem preds_rng (f:FnE) (b:Nat) (hb:b<f.blocks.length): ∀x∈(PredsL f).getD b Enc.d,∃p:Nat,x=p/\p<f.blocks.length:=by
 intro x hx
 rw[preds_at f b hb] at hx
 unfold cnt at hx
 simp only[List.mem_flatMap,List.mem_range,List.mem_replicate] at hx
 obtain⟨c,h1,h2,h3⟩:=hx
 exact⟨c,h3,h1⟩
theorem preds_len (f:FnE) (b:Nat) (hb:b<f.blocks.length):((PredsL f).getD b Enc.d).length<=f.blocks.length:=by
 rw[preds_at f b hb];exact cnt_len f b _
theorem rankQ_step (f:FnE) (q:Nat) (hq:q<(ordL f).length) (i:Nat) (hi:i<f.blocks.length):setF (fun i=>Enc.enc ((rankQ f q).getD i Enc.d)) (addZ 0 ((ordL f).getD q Enc.d).toNat) [.i .i64 q] i=Enc.enc ((rankQ f (q+1)).getD i Enc.d):=by
 have hx:(ordL f).getD q Enc.d=(ordL f)[q]:=by rw[List.getD_eq_getElem?_getD,List.getElem?_eq_getElem hq];rfl
 have hr:=ordL_rng f _ (List.getElem_mem hq)
 have ht:(ordL f).take (q+1)=(ordL f).take q++[(ordL f)[q]]:=by rw[List.take_add_one,List.getElem?_eq_getElem hq];rfl
 have hi2:(ordL f).idxOf (ordL f)[q]=q:=List.Nodup.idxOf_getElem (ordL_nd f) q hq
 have hin:(ordL f)[q]∈(ordL f).take (q+1):=by rw[ht];exact List.mem_append_right _ (List.mem_singleton.2 rfl)
 rw[hx,rankQ_at f (q+1) i hi]
 unfold setF
 by_cases e:i=addZ 0 ((ordL f)[q]).toNat
 ·have e':(i:Int)=(ordL f)[q]:=by rw[addZ_eq] at e;omega
  rw[if_pos e,if_pos (by rw[e'];exact hin),e',hi2];rfl
 ·have e':(i:Int)≠(ordL f)[q]:=fun h=>e (by rw[addZ_eq];omega)
  rw[if_neg e]
  show Enc.enc ((rankQ f q).getD i Enc.d)=_
  rw[rankQ_at f q i hi]
  rw[ht]
  congr 1
  simp only[List.mem_append,List.mem_singleton,e',or_false]
structure IdS where
 m:Nat
 up:List Int
 t:Bool
structure IdR where
 i:Nat
 up:List Int
 t:Bool
def fixAt (G:RkG) (P:Nat->Option Nat) (b:Nat):Prop:= ∃c,P b=some c/\(P c).isSome=true/\ ∀y,Anc P y c↔ ∀p,G.E p b->(P p).isSome=true->Anc P y p
theorem getD_d (u:List Int) (k:Nat) (h:k<u.length):u.getD k Enc.d=u.getD k (-1):=by
 rw[List.getD_eq_getElem?_getD,List.getD_eq_getElem?_getD,List.getElem?_eq_getElem h];rfl
def up0 (n:Nat):List Int:=(List.replicate n (-1)).set 0 0
theorem up0_at (n x:Nat) (h:0<n):(up0 n).getD x (-1)=if x=0 then 0 else-1:=by
 unfold up0
 rw[getD_set_i _ _ _ _ (by rw[List.length_replicate];exact h)]
 by_cases e:x=0
 ·rw[if_pos e,if_pos e]
 ·rw[if_neg e,if_neg e,List.getD_eq_getElem?_getD,List.getElem?_replicate]
  split<;>rfl
def bestI (P:Nat->Option Nat) (l:List Int) (best:Int):Prop:=(best= -1/\ ∀p:Nat,(p:Int)∈l->P p=none)\/ ∃c:Nat,best=c/\(P c).isSome=true/\ ∀y,Anc P y c↔ ∀p:Nat,(p:Int)∈l->(P p).isSome=true->Anc P y p
theorem bestI_none {P:Nat->Option Nat} {l:List Int} {best:Int} {p:Nat} (h:bestI P l best) (hp:P p=none):bestI P (l++[(p:Int)]) best:=by
 rcases h with⟨h1,h2⟩|⟨c,h1,h2,h3⟩
 ·refine .inl ⟨h1,fun q hq=>?_⟩
  rcases List.mem_append.1 hq with hq|hq
  ·exact h2 q hq
  ·have:q=p:=by have:=List.mem_singleton.1 hq;omega
   rw[this];exact hp
 ·refine .inr ⟨c,h1,h2,fun y=>(h3 y).trans ⟨fun g q hq hs=>?_,fun g q hq hs=>g q (by simp[hq]) hs⟩⟩
  rcases List.mem_append.1 hq with hq|hq
  ·exact g q hq hs
  ·have:q=p:=by have:=List.mem_singleton.1 hq;omega
   rw[this,hp] at hs;cases hs
theorem bestI_first {P:Nat->Option Nat} {l:List Int} {p:Nat} (h: ∀p:Nat,(p:Int)∈l->P p=none) (hp:(P p).isSome=true):bestI P (l++[(p:Int)]) p:=by
 refine .inr ⟨p,rfl,hp,fun y=>⟨fun g q hq hs=>?_,fun g=>g p (by simp) hp⟩⟩
 rcases List.mem_append.1 hq with hq|hq
 ·rw[h q hq] at hs;cases hs
 ·have:q=p:=by have:=List.mem_singleton.1 hq;omega
  rw[this];exact g
theorem bestI_meet {P:Nat->Option Nat} {l:List Int} {c p d:Nat} (h3: ∀y,Anc P y c↔ ∀p:Nat,(p:Int)∈l->(P p).isSome=true->Anc P y p) (hp:(P p).isSome=true) (hd:(P d).isSome=true) (hy: ∀y,Anc P y d↔Anc P y c/\Anc P y p):bestI P (l++[(p:Int)]) d:=by
 refine .inr ⟨d,rfl,hd,fun y=>(hy y).trans ⟨fun⟨g1,g2⟩ q hq hs=>?_,fun g=>⟨(h3 y).2 fun q hq hs=>g q (by simp[hq]) hs,g p (by simp) hp⟩⟩⟩
 rcases List.mem_append.1 hq with hq|hq
 ·exact(h3 y).1 g1 q hq hs
 ·have:q=p:=by have:=List.mem_singleton.1 hq;omega
  rw[this];exact g2
theorem ord_at (f:FnE) (h:0<f.blocks.length) (i:Nat) (hi:i<(ordL f).length): ∃k:Nat,(ordL f).getD i Enc.d=k/\(rkG f h).R k/\(rkG f h).rk k=i/\k<f.blocks.length:=by
 have hm:=List.getElem_mem hi
 have hr:=ordL_rng f _ hm
 obtain⟨k,hk⟩: ∃k:Nat,(ordL f)[i]=k:=⟨((ordL f)[i]).toNat,by omega⟩
 refine⟨k,by rw[List.getD_eq_getElem?_getD,List.getElem?_eq_getElem hi];exact hk,by show(k:Int)∈ordL f;rw[<-hk];exact hm,?_,by omega⟩
 show(ordL f).idxOf (k:Int)=i
 rw[<-hk]
 exact List.Nodup.idxOf_getElem (ordL_nd f) i hi
theorem idom_S (f:FnE) (hs:siz f<4294967296) (h:0<f.blocks.length):ASpec Tryz.prog 64 [eS f] (eL (idomL f)) []:=by
 have h1:=blocks_le f
 have hol:=ordL_len f
 obtain⟨K,hK⟩:=ap_bound (rkG f h)
 refine ASpec.enter TYok mixed Tryz.func64 rfl Tryz.call64 Tryz.ntmps64 rfl (rs:=[.tmp 2]) rfl (nodupB_ok rfl) (Clo.one rfl) (keep:=[0,1,2,3,4,5,6,7,8,9,10,11,12,13,14,16,28,29,36,37,38,53,54,55,65,66,67]) ?_;conv=>whnf
 repeat' first|(refine iG ?_ ?_<;>intro hb hc<;>first|exact yE|conv=>whnf)|(refine gqs ?_;conv=>whnf)|(refine gqc (x:=fun _=>oL_frz (fun id=>rfl) (gOrder_S f hs)) (k:= ?_);conv=>whnf)|(refine gqc (x:=fun _=>gPreds_F f hs) (k:= ?_);conv=>whnf)|(refine yt ?_;conv=>whnf)|exact yK|fail
 refine lp [29] (fun q:Nat=>[.i .i64 q]) (fun q=>[(27,.row none 1 f.blocks.length fun i=>[.i .i64 (if i<q then-1 else 0)]),(25,.row none 1 f.blocks.length fun _=>[.i .i64 0]),(1,bx f)]) (fun q=>q<=f.blocks.length) (fun q=>f.blocks.length-q) 0 (by omega) ?_ fun q hq=>?_
 ·refine eP [] [] ?_ ?_<;>repeat' first|exact eN|apply zi
 conv=>whnf
 repeat' first|(refine iG ?_ ?_<;>intro hb hc<;>first|exact yE|conv=>whnf)|(refine gqs ?_;conv=>whnf)|(refine yt ?_;conv=>whnf)|exact yK|fail
 ·refine .mk (q+1) (by omega) (by omega) ?_
  refine eP [] [] ?_ ?_<;>repeat' first|exact eN|apply zi
  intro i hi
  unfold setF
  by_cases e:i=addZ 0 (q:Int).toNat
  ·have:i=q:=e
   rw[if_pos e]
   show[AV.i .i64 (-1)]=[AV.i .i64 (if i<q+1 then-1 else 0)]
   rw[if_pos (by omega)]
  ·have: ¬i=q:=e
   rw[if_neg e]
   show[AV.i .i64 (if i<q then-1 else 0)]=[AV.i .i64 (if i<q+1 then-1 else 0)]
   by_cases e2:i<q
   ·rw[if_pos e2,if_pos (by omega)]
   ·rw[if_neg e2,if_neg (by omega)]
 obtain rfl:q=f.blocks.length:=by omega
 refine lp [38] (fun q:Nat=>[.i .i64 q]) (fun q=>[(27,oL (List.replicate f.blocks.length (-1:Int))),(25,oL (rankQ f q)),(1,bx f)]) (fun q=>q<=(ordL f).length) (fun q=>(ordL f).length-q) 0 (by omega) ?_ fun q hq=>?_
 ·refine eP [] [] ?_ ?_<;>repeat' first|exact eN|apply zi
  ·exact(List.length_replicate).symm
  ·intro i hi
   rw[List.length_replicate] at hi
   show[AV.i .i64 (if i<f.blocks.length then-1 else 0)]=Enc.enc ((List.replicate f.blocks.length (-1:Int)).getD i Enc.d)
   rw[if_pos hi,List.getD_eq_getElem?_getD,List.getElem?_replicate,if_pos hi];rfl
  ·exact(rankQ_len f 0).symm
  ·intro i hi
   rw[rankQ_len] at hi
   show[AV.i .i64 0]=Enc.enc ((rankQ f 0).getD i Enc.d)
   rw[rankQ_at f 0 i hi,if_neg (by simp)];rfl
 conv=>whnf
 repeat' first|(refine iG ?_ ?_<;>intro hb hc<;>first|exact yE|conv=>whnf)|(refine gqs ?_;conv=>whnf)|(refine yt ?_;conv=>whnf)|exact yK|fail
 ·have hq2:q<(ordL f).length:=by omega
  obtain⟨k,e1,e2,e3,e4⟩:=ord_at f h q hq2
  have e5:(ordL f).getD (q:Int).toNat Enc.d=k:=e1
  rw[e5]
  have hl:=rankQ_len f q
  refine And.intro ⟨by omega,by omega,(show k<(rankQ f q).length by omega)⟩ ?_
  conv=>whnf
  repeat' first|(refine iG ?_ ?_<;>intro hb hc<;>first|exact yE|conv=>whnf)|(refine gqs ?_;conv=>whnf)|(refine yt ?_;conv=>whnf)|exact yK|fail
  refine .mk (q+1) (by omega) (by omega) ?_
  refine eP [] [] ?_ ?_<;>repeat' first|exact eN|apply zi
  ·rw[rankQ_len,rankQ_len]
  ·intro i hi
   rw[rankQ_len] at hi
   have:=rankQ_step f q hq2 i hi
   rw[e1] at this
   exact this
 obtain rfl:q=(ordL f).length:=by omega
 have hrl:=rankQ_len f (ordL f).length
 have hrp:(List.replicate f.blocks.length (-1:Int)).length=f.blocks.length:=List.length_replicate
 have ha0:addZ 0 (Int.toNat 0)=0:=rfl
 repeat' first|(refine iG ?_ ?_<;>intro hb hc<;>first|exact yE|conv=>whnf)|(refine gqs ?_;conv=>whnf)|(refine yt ?_;conv=>whnf)|exact yK|fail
 have hu0:(up0 f.blocks.length).length=f.blocks.length:=by unfold up0;rw[List.length_set,List.length_replicate]
 have hd0:DInv (rkG f h) (upP (up0 f.blocks.length)) 0 1:=DInv.start (by unfold upP;rw[up0_at _ _ h];rfl) fun b hb=>by unfold upP;rw[up0_at _ _ h,if_neg hb];rfl
 refine lp [11] (fun q:IdS=>[.b q.t]) (fun q=>[(27,oL q.up),(25,oL (rankL f)),(1,bx f)]) (fun q=>q.up.length=f.blocks.length/\(∀x,-1<=q.up.getD x (-1))/\DInv (rkG f h) (upP q.up) q.m 1/\(q.t=true->q.m<=K+1)/\(q.t=false->0<q.m/\ ∀b,b≠0->(rkG f h).R b->fixAt (rkG f h) (upP q.up) b)) (fun q=>bif q.t then K+2-q.m+1 else 0) ⟨0,up0 f.blocks.length,true⟩ ⟨hu0,fun x=>by rw[up0_at _ _ h];split<;>omega,hd0,fun _=>Nat.zero_le _,fun e=>by cases e⟩ ?_ fun q hq=>?_
 ·refine eP [] [] ?_ ?_<;>repeat' first|exact eN|apply zi
  ·show(List.replicate f.blocks.length (-1:Int)).length=(up0 f.blocks.length).length
   rw[hrp,hu0]
  ·intro x hx
   have hx':x<(List.replicate f.blocks.length (-1:Int)).length:=by rw[hrp,<-hu0];exact hx
   exact set_fun (l:=List.replicate f.blocks.length (-1:Int)) (x:=(0:Int)) rfl x hx'
 conv=>whnf
 obtain⟨m,up,t⟩:=q
 obtain⟨g1,g2,g3,g4,g5⟩:=hq
 simp only at g1 g2 g3 g4 g5
 repeat' first|(refine iG ?_ ?_<;>intro hb hc<;>first|exact yE|conv=>whnf)|(refine gqs ?_;conv=>whnf)|(refine yt ?_;conv=>whnf)|exact yK|fail
 ·obtain rfl:t=true:=hb
  refine lp [11,55] (fun q:IdR=>[.b q.t,.i .i64 q.i]) (fun q=>[(27,oL q.up),(25,oL (rankL f)),(1,bx f)]) (fun q=>q.i<=(ordL f).length/\q.up.length=f.blocks.length/\(∀x,-1<=q.up.getD x (-1))/\DInv (rkG f h) (upP q.up) m (max q.i 1)/\(q.t=false->q.up=up/\ ∀b,b≠0->(rkG f h).R b->(rkG f h).rk b<q.i->fixAt (rkG f h) (upP up) b)/\(q.t=true-> ¬(K<=m/\0<m))) (fun q=>(ordL f).length-q.i) ⟨0,up,false⟩ ⟨Nat.zero_le _,g1,g2,g3,fun _=>⟨rfl,fun b _ _ hb=>absurd hb (Nat.not_lt_zero _)⟩,fun e=>by cases e⟩ ?_ fun q hq=>?_
  ·refine eP [] [] ?_ ?_<;>repeat' first|exact eN|apply zi
  conv=>whnf
  obtain⟨i,u,t⟩:=q
  obtain⟨k1,k2,k3,k4,k5,k6⟩:=hq
  simp only at k1 k2 k3 k4 k5 k6
  rcases Nat.lt_or_ge i (ordL f).length with hi|hi
  ·obtain⟨k,e1,e2,e3,e4⟩:=ord_at f h i hi
   obtain rfl:k=((ordL f).getD i Enc.d).toNat:=by omega
   have hpl:(PredsL f).length=f.blocks.length:=by unfold PredsL;rw[List.length_map,List.length_range]
   have hpn:=preds_len f ((ordL f).getD i Enc.d).toNat e4
   repeat' first|(refine iG ?_ ?_<;>intro hb hc<;>first|exact yE|conv=>whnf)|(refine gqs ?_;conv=>whnf)|(refine yt ?_;conv=>whnf)|exact yK|fail
   ·refine .mk ⟨i+1,u,t⟩ ⟨hi,k2,k3,by rw[show max (i+1) 1=max i 1 by omega];exact k4,fun e=>⟨(k5 e).1,fun b hb0 hR hlt=>absurd ((rkG f h).inj b 0 hR (rkG f h).zero.1 (by rw[(rkG f h).zero.2];show(rkG f h).rk b=0;simp only at hlt;omega)) hb0⟩,k6⟩ (by show(ordL f).length-(i+1)<(ordL f).length-i;omega) ?_
    refine eP [] [] ?_ ?_<;>repeat' first|exact eN|apply zi
   have hk0:((ordL f).getD i Enc.d).toNat≠0:=fun e=>by rw[e] at e3;have:=(rkG f h).zero.2;omega
   refine lp [14,67] (fun q:Int×Nat=>[.i .i64 q.1,.i .i64 q.2]) (fun q=>[(27,oL u),(25,oL (rankL f)),(1,bx f)]) (fun q=>q.2<=((PredsL f).getD ((ordL f).getD i Enc.d).toNat Enc.d).length/\bestI (upP u) (((PredsL f).getD ((ordL f).getD i Enc.d).toNat Enc.d).take q.2) q.1) (fun q=>((PredsL f).getD ((ordL f).getD i Enc.d).toNat Enc.d).length-q.2) (-1,0) ⟨Nat.zero_le _,.inl ⟨rfl,fun p hp=>by simp at hp⟩⟩ ?_ fun q hq=>?_
   ·refine eP [] [] ?_ ?_<;>repeat' first|exact eN|apply zi
   conv=>whnf
   obtain⟨best,j⟩:=q
   obtain⟨j1,j2⟩:=hq
   simp only at j1 j2
   rcases Nat.lt_or_ge j ((PredsL f).getD ((ordL f).getD i Enc.d).toNat Enc.d).length with hj|hj
   ·obtain⟨p,p1,p2⟩:=preds_rng f ((ordL f).getD i Enc.d).toNat e4 _ (List.getElem_mem hj)
    have p3:((PredsL f).getD ((ordL f).getD i Enc.d).toNat Enc.d).getD j Enc.d=p:=by rw[List.getD_eq_getElem?_getD,List.getElem?_eq_getElem hj];exact p1
    have p4:((PredsL f).getD ((ordL f).getD i Enc.d).toNat Enc.d).take (j+1)=((PredsL f).getD ((ordL f).getD i Enc.d).toNat Enc.d).take j++[(p:Int)]:=by rw[List.take_add_one,List.getElem?_eq_getElem hj,<-p1];rfl
    have p5:u.getD p Enc.d=u.getD p (-1):=by rw[List.getD_eq_getElem?_getD,List.getD_eq_getElem?_getD,List.getElem?_eq_getElem (by omega)];rfl
    have p6:u.getD (((PredsL f).getD ((ordL f).getD i Enc.d).toNat Enc.d).getD j Enc.d).toNat Enc.d=u.getD p (-1):=by rw[p3];exact p5
    cases hp:upP u p with
    |none=>
     have p7:=upP_none hp
     repeat' first|(refine iG ?_ ?_<;>intro hb hc<;>first|exact yE|conv=>whnf)|(refine gqs ?_;conv=>whnf)|(refine yt ?_;conv=>whnf)|exact yK|fail
     refine .mk (best,j+1) ⟨hj,by rw[p4];exact bestI_none j2 hp⟩ (by show _-(j+1)<_-j;omega) ?_
     refine eP [] [] ?_ ?_<;>repeat' first|exact eN|apply zi
    |some w=>
     have p7:=upP_is (by rw[hp];rfl:(upP u p).isSome=true)
     rcases j2 with⟨rfl,j3⟩|⟨c,rfl,j3,j4⟩
     ·repeat' first|(refine iG ?_ ?_<;>intro hb hc<;>first|exact yE|conv=>whnf)|(refine gqs ?_;conv=>whnf)|(refine yt ?_;conv=>whnf)|exact yK|fail
      refine .mk (p,j+1) ⟨hj,by rw[p4];exact bestI_first j3 (by rw[hp];rfl)⟩ (by show _-(j+1)<_-j;omega) ?_
      refine eP [] [] ?_ ?_<;>repeat' first|exact eN|apply zi
     ·obtain⟨d,d1,d2⟩:=nca_ex k4.up _ c p (Nat.le_refl _) j3 (by rw[hp];rfl)
      have hm:=meet_S f h u k2 (by omega) k4.up c p d j3 (by rw[hp];rfl) d2
      rw[<-p3,show eL u=AV.row none 1 f.blocks.length (fun i=>Enc.enc (u.getD i Enc.d)) from by unfold eL;rw[k2];rfl,show eL (rankL f)=AV.row none 1 f.blocks.length (fun i=>Enc.enc ((rankL f).getD i Enc.d)) from by unfold eL;rw[show(rankL f).length=f.blocks.length from rankQ_len f _];rfl] at hm
      have hrl2:(rankL f).length=f.blocks.length:=rankQ_len f _
      repeat' first|(refine iG ?_ ?_<;>intro hb hc<;>first|exact yE|conv=>whnf)|(refine gqs ?_;conv=>whnf)|(refine gqc (x:=fun _=>hm) (k:= ?_);conv=>whnf)|(refine yt ?_;conv=>whnf)|exact yK|fail
      refine .mk (d,j+1) ⟨hj,by rw[p4];exact bestI_meet j4 (by rw[hp];rfl) d1 d2⟩ (by show _-(j+1)<_-j;omega) ?_
      refine eP [] [] ?_ ?_<;>repeat' first|exact eN|apply zi
   ·obtain rfl:j=((PredsL f).getD ((ordL f).getD i Enc.d).toNat Enc.d).length:=by omega
    rw[List.take_length] at j2
    rcases j2 with⟨_,j3⟩|⟨c,rfl,j3,j4⟩
    ·exfalso
     obtain⟨p,q1,q2,q3⟩:=(rkG f h).par ((ordL f).getD i Enc.d).toNat e2 hk0
     have:=k4.pro p q1 (.inl (by omega))
     rw[j3 p ((preds_mem f ((ordL f).getD i Enc.d).toNat p e4).2 ⟨(rkG f h).lt p q1,q2⟩)] at this
     cases this
    ·have hy: ∀y,Anc (upP u) y c↔ ∀p,(rkG f h).E p ((ordL f).getD i Enc.d).toNat->(upP u p).isSome=true->Anc (upP u) y p:=fun y=>(j4 y).trans ⟨fun g p hE hs=>g p ((preds_mem f ((ordL f).getD i Enc.d).toNat p e4).2 ⟨(rkG f h).lt p (up_R k4.up hs),hE⟩) hs,fun g p hm hs=>g p ((preds_mem f ((ordL f).getD i Enc.d).toNat p e4).1 hm).2 hs⟩
     have hst:=(k4.step hk0 e2 (by omega) j3 hy).1
     have hcn:=(rkG f h).lt c (up_R k4.up j3)
     have p5:u.getD ((ordL f).getD i Enc.d).toNat Enc.d=u.getD ((ordL f).getD i Enc.d).toNat (-1):=getD_d u _ (by omega)
     repeat' first|(refine iG ?_ ?_<;>intro hb hc<;>first|exact yE|conv=>whnf)|(refine gqs ?_;conv=>whnf)|(refine yt ?_;conv=>whnf)|exact yK|fail
     ·refine .mk ⟨i+1,u.set ((ordL f).getD i Enc.d).toNat c,true⟩ ⟨hi,by rw[List.length_set];exact k2,fun x=>?_,?_,(fun e=>by cases e),fun _ hKm=>?_⟩ (by show(ordL f).length-(i+1)<(ordL f).length-i;omega) ?_
      ·show-1<=(u.set ((ordL f).getD i Enc.d).toNat (c:Int)).getD x (-1)
       rw[getD_set_i _ _ _ _ (by omega)]
       split
       ·omega
       ·exact k3 x
      ·show DInv _ (upP (u.set ((ordL f).getD i Enc.d).toNat (c:Int))) m (max (i+1) 1)
       rw[upP_set (by omega),show max (i+1) 1=max i 1+1 by omega]
       exact hst
      ·obtain⟨w,hw⟩:=Option.isSome_iff_exists.1 (k4.pro _ e2 (.inr hKm.2))
       have:=k4.fix hK hKm.1 hKm.2 hk0 e2 hw j3 hy
       exact hc (by rw[p5,(upP_some hw).1,this])
      ·refine eP [] [] ?_ ?_<;>repeat' first|exact eN|apply zi
       ·show u.length=(u.set ((ordL f).getD i Enc.d).toNat (c:Int)).length
        rw[List.length_set]
       ·intro x hx
        have hx':x<u.length:=by
         have h9:x<(u.set ((ordL f).getD i Enc.d).toNat (c:Int)).length:=hx
         rwa [List.length_set] at h9
        show setF (fun i=>Enc.enc (u.getD i Enc.d)) ((ordL f).getD i Enc.d).toNat [AV.i .i64 (c:Int)] x=Enc.enc ((u.set ((ordL f).getD i Enc.d).toNat (c:Int)).getD x Enc.d)
        exact set_fun (l:=u) (x:=(c:Int)) rfl x hx'
     ·have hpc:upP u ((ordL f).getD i Enc.d).toNat=some c:=upP_of (by rw[<-p5];omega)
      have hsame:setP (upP u) ((ordL f).getD i Enc.d).toNat c=upP u:=by
       funext x
       by_cases e:x=((ordL f).getD i Enc.d).toNat
       ·rw[e,setP_self,hpc]
       ·exact setP_ne e
      refine .mk ⟨i+1,u,t⟩ ⟨hi,k2,k3,?_,fun e=>⟨(k5 e).1,fun b hb0 hR hlt=>?_⟩,k6⟩ (by show(ordL f).length-(i+1)<(ordL f).length-i;omega) ?_
      ·show DInv _ (upP u) m (max (i+1) 1)
       rw[show max (i+1) 1=max i 1+1 by omega,<-hsame]
       exact hst
      ·rcases Nat.lt_or_ge ((rkG f h).rk b) i with q|q
       ·exact(k5 e).2 b hb0 hR q
       ·have hlt:(rkG f h).rk b<i+1:=hlt
        have:b=((ordL f).getD i Enc.d).toNat:=(rkG f h).inj b _ hR e2 (by omega)
        subst this
        rw[<-(k5 e).1]
        exact⟨c,hpc,j3,hy⟩
      ·refine eP [] [] ?_ ?_<;>repeat' first|exact eN|apply zi
  ·obtain rfl:i=(ordL f).length:=by omega
   have hrk: ∀b,(rkG f h).R b->(rkG f h).rk b<(ordL f).length:=fun b hb=>List.idxOf_lt_length_of_mem hb
   repeat' first|(refine iG ?_ ?_<;>intro hb hc<;>first|exact yE|conv=>whnf)|(refine gqs ?_;conv=>whnf)|(refine yt ?_;conv=>whnf)|exact yK|fail
   refine .mk ⟨m+1,u,t⟩ ⟨k2,k3,k4.turn fun b hb=>by have:=hrk b hb;omega,fun e=>?_,fun e=>⟨Nat.succ_pos m,fun b hb0 hR=>?_⟩⟩ ?_ ?_
   ·show m+1<=K+1
    have:=k6 e
    omega
   ·show fixAt _ (upP u) b
    rw[(k5 e).1]
    exact(k5 e).2 b hb0 hR (hrk b hR)
   ·show(bif t then K+2-(m+1)+1 else 0)<(bif true then K+2-m+1 else 0)
    have:=g4 rfl
    cases t
    ·show 0<K+2-m+1;omega
    ·show K+2-(m+1)+1<K+2-m+1
     have:=k6 rfl
     omega
   ·refine eP [] [] ?_ ?_<;>repeat' first|exact eN|apply zi
 ·have ht:t=false:=by assumption
  have h5:=g5 ht
  have hid:=isIdom_of g1 g2 g3 h5.1 fun b hb0 hR=>h5.2 b hb0 hR
  rw[idomL_eq hid]
  refine⟨_,.freeze (N:=up.length) (by rw[lk_cons,if_pos rfl];rfl) ?_ ?_ (fun x hx=>?_) rfl⟩
  ·simp only[Int.toNat_natCast];omega
  ·simp only[Int.toNat_natCast,List.length_set];omega
  ·rw[List.length_set] at hx
   exact set_fun (l:=up) (x:=(-1:Int)) rfl x hx
theorem bestI_ex {G:RkG} {P:Nat->Option Nat} (hU:Up G P): ∀l:List Nat,∃best,bestI P (l.map fun(p:Nat)=>(p:Int)) best:=by
 have key: ∀l:List Nat,∃best,bestI P (l.reverse.map fun(p:Nat)=>(p:Int)) best:=fun l=>by
  induction l with
  |nil=>exact⟨-1,.inl ⟨rfl,fun p hp=>by simp at hp⟩⟩
  |cons p l ih=>
   obtain⟨best,hb⟩:=ih
   rw[List.reverse_cons,List.map_append]
   cases hp:P p with
   |none=>exact⟨best,bestI_none hb hp⟩
   |some w=>
    have hs:(P p).isSome=true:=by rw[hp];rfl
    rcases hb with⟨rfl,h3⟩|⟨c,rfl,h2,h3⟩
    ·exact⟨p,bestI_first h3 hs⟩
    ·obtain⟨d,d1,d2⟩:=nca_ex hU _ c p (Nat.le_refl _) h2 hs
     exact⟨d,bestI_meet h3 hs d1 d2⟩
 intro l
 have:=key l.reverse
 rwa [List.reverse_reverse] at this
theorem dinv_ex (f : FnE) (h : 0 < f.blocks.length) : ∀ m, ∃ P, DInv (rkG f h) P m 1 := by
  have step : ∀ P m r, 1 ≤ r → DInv (rkG f h) P m r → ∃ P', DInv (rkG f h) P' m (r + 1) := fun P m r h1 hd => by
    by_cases hex : ∃ b, (rkG f h).R b ∧ (rkG f h).rk b = r
    · obtain ⟨b, hR, hr⟩ := hex
      have hb0 : b ≠ 0 := fun e => by subst e; have := (rkG f h).zero.2; omega
      obtain ⟨best, hb⟩ := bestI_ex hd.up ((List.range f.blocks.length).filter fun p => decide ((b : Int) ∈ Succs f p))
      have hm : ∀ p : Nat, (p : Int) ∈ ((List.range f.blocks.length).filter fun p : Nat => decide ((b : Int) ∈ Succs f p)).map (fun (p : Nat) => (p : Int)) ↔ (p < f.blocks.length ∧ (b : Int) ∈ Succs f p) := fun p => by
        simp only [List.mem_map, List.mem_filter, List.mem_range, decide_eq_true_eq]
        exact ⟨fun ⟨q, h1, h2⟩ => by have : q = p := by omega
                                     subst this; exact h1, fun h1 => ⟨p, h1, rfl⟩⟩
      rcases hb with ⟨_, h3⟩ | ⟨c, _, h2, h3⟩
      · exfalso
        obtain ⟨p, q1, q2, q3⟩ := (rkG f h).par b hR hb0
        have := hd.pro p q1 (.inl (by omega))
        rw [h3 p ((hm p).2 ⟨(rkG f h).lt p q1, q2⟩)] at this
        cases this
      · exact ⟨_, (hd.step hb0 hR hr h2 fun y => (h3 y).trans ⟨fun g p hE hs => g p ((hm p).2 ⟨(rkG f h).lt p (up_R hd.up hs), hE⟩) hs, fun g p hp hs => g p ((hm p).1 hp).2 hs⟩).1⟩
    · refine ⟨P, hd.up, hd.snd, hd.old, fun b y hb hlt ha => ?_, fun b hR hor => ?_, fun h0 b hb => Nat.lt_succ_of_lt (hd.ini h0 b hb)⟩
      · rcases Nat.lt_or_ge ((rkG f h).rk b) r with q | q
        · exact hd.cur b y hb q ha
        · exact absurd ⟨b, hd.rch hb, by omega⟩ hex
      · rcases hor with q | q
        · rcases Nat.lt_or_ge ((rkG f h).rk b) r with q1 | q1
          · exact hd.pro b hR (.inl q1)
          · exact absurd ⟨b, hR, by omega⟩ hex
        · exact hd.pro b hR (.inr q)
  have pass : ∀ P m, DInv (rkG f h) P m 1 → ∃ P', DInv (rkG f h) P' (m + 1) 1 := fun P m hd => by
    have all : ∀ k, ∃ P', DInv (rkG f h) P' m (k + 1) := fun k => by
      induction k with
      | zero => exact ⟨P, hd⟩
      | succ k ih =>
        obtain ⟨P', h'⟩ := ih
        exact step P' m (k + 1) (by omega) h'
    obtain ⟨P', h'⟩ := all f.blocks.length
    exact ⟨P', h'.turn fun b hb => by have := rk_lt_n f h b hb; exact Nat.lt_succ_of_lt this⟩
  intro m
  induction m with
  | zero => exact ⟨upP (up0 f.blocks.length), DInv.start (by unfold upP; rw [up0_at _ _ h]; rfl) fun b hb => by unfold upP; rw [up0_at _ _ h, if_neg hb]; rfl⟩
  | succ m ih =>
    obtain ⟨P, hd⟩ := ih
    exact pass P m hd
theorem isIdom_ex (f:FnE) (h:0<f.blocks.length):isIdom f h (idomL f):=by
 obtain⟨K,hK⟩:=ap_bound (rkG f h)
 obtain⟨P,hd⟩:=dinv_ex f h (K+1)
 have hl:isIdom f h ((List.range f.blocks.length).map fun b=>if b=0 then-1 else match P b with
  |some p=>(p:Int)
  |none=>-1):=by
  refine⟨by rw[List.length_map,List.length_range],P,hd.up,fun b hb=>hd.pro b hb (.inr (by omega)),fun b y hb=>hd.dom hK (by omega) (hd.pro b hb (.inr (by omega))),fun b hb=>?_⟩
  rw[List.getD_eq_getElem?_getD,List.getElem?_map,List.getElem?_range hb];rfl
 rw[idomL_eq hl];exact hl
theorem tab_anc {f:FnE} {h:0<f.blocks.length} {P:Nat->Option Nat} (hP: ∀b d,(rkG f h).R b->(Anc P d b↔ ¬RG f d b)) {T:List (List Bool)} (hT:isTab f T) {b d:Nat} (hb:(rkG f h).R b) (hd:d<f.blocks.length):(T.getD d []).getD b false=true↔Anc P d b:=by
 have hbn:=(rkG f h).lt b hb
 rw[(hT.2 d hd).2 b hbn,hP b d hb]
 have hbr:RG f (-1) b:=(ordL_mem f b hbn).1 hb
 constructor
 ·rintro ⟨_,_,rfl|h3⟩
  ·intro hr
   generalize hg:(d:Int)=g at hr
   cases hr with
   |zero _ h0=>omega
   |step hr' ht hne=>rename_i c t;have:=Succs_mem ht;omega
  ·exact h3
 ·intro h3
  refine⟨?_,hbr,.inr h3⟩
  apply Classical.byContradiction
  intro hn
  refine h3 ?_
  clear h3 hb hbn
  induction hbr with
  |zero h1 h2=>
   refine .zero h1 fun e=>hn ?_
   have:d=0:=by omega
   subst this
   exact .zero h1 (by decide)
  |step hr ht hne ih=>
   have hs:=Succs_mem ht
   exact .step ih ht fun e=>hn (by have:=RG.step hr ht hne;rw[e] at this;simpa using this)
def madN (F:List Int->Int) (x:InsE) (p:Plc):List Int->Int:=fun l=>if Result x=0 then F l else msetS F x.reg [p.f,p.b,p.i] l
def pmO (k:Nat) (F:List Int->Int) (p3:Nat):Obj:= .mp (mapS Tryz.prog 3 32 [.i64,.i64,.i64] k F) p3 k F
def maO (a b:Nat) (p2:Option Nat) (p3:Nat) (k:Nat) (F:List Int->Int):Os:=[(a,.box p2 (some 114) [.omap b]),(b,pmO k F p3)]
theorem maClo {a b:Nat} {p2:Option Nat} {p3:Nat} {k:Nat} {F:List Int->Int}:Clo (.tup []) (maO a b p2 p3 k F):=by
 refine⟨fun id hm=>(nomatch hm),fun i ob hl id hm=>?_⟩
 have hmem:=lk_mem hl
 simp only[maO,List.mem_cons,List.not_mem_nil,or_false,Prod.mk.injEq] at hmem
 rcases hmem with⟨rfl,rfl⟩|⟨_,rfl⟩
 ·simp only[omen,mens,men,Bool.or_false] at hm
  have:=Nat.eq_of_beq_eq_true hm;subst this
  unfold maO
  rw[lk_cons]
  split
  ·rfl
  ·rw[lk_cons,if_pos rfl];rfl
 ·cases hm
theorem order1_S (x:InsE) (p:Plc) (k:Nat) (F:List Int->Int) (hk:k<4294967296) (hr:inI x.reg):
  ASpecF true Tryz.prog 66 [eS x,eS p,.op 1004 0] (maO 1004 1015 none 0 k F) (.tup []) (maO 1004 1015 none 0 (k+1) (madN F x p)):=by
 refine ASpecM.enter TYok mixed Tryz.func66 rfl Tryz.call66 Tryz.ntmps66 rfl (rs:=[]) rfl (maClo) rfl (keep:=[0,1,2,3,4]) fun pin=>?_;conv=>whnf
 repeat' first|(refine iG ?_ ?_<;>intro hb hc<;>first|exact yE|conv=>whnf)|(refine gqs ?_;conv=>whnf)|(refine gqc (x:=fun _=>irResult_S _) (k:= ?_);conv=>whnf)|(refine yt ?_;conv=>whnf)|exact yK|fail
 ·refine And.intro ⟨by omega,hr,trivial⟩ ?_
  conv=>whnf
  repeat' first|(refine iG ?_ ?_<;>intro hb hc<;>first|exact yE|conv=>whnf)|(refine gqs ?_;conv=>whnf)|(refine yt ?_;conv=>whnf)|exact yK|fail
  refine⟨[],[],trivial,?_,rfl⟩
  repeat' first|exact eN|apply zi
  exact mapS_le (by omega) fun i z=>by rw[madN,if_neg hc]
 ·refine⟨[],[],trivial,?_,rfl⟩
  repeat' first|exact eN|apply zi
  exact mapS_le (by omega) fun i z=>by rw[madN,if_pos hc]
def madM (f:FnE) (n:Int):Nat->List Int->Int
 |0=>fun _=>0
 |j+1=>madN (madM f n j) ((C1 f).getD j Enc.d) (plE f n j)
theorem order1_R (x:InsE) (p:Plc) (k:Nat) (F:List Int->Int) (hk:k<4294967296) (hr:inI x.reg):
  ASpecF true Tryz.prog 66 [eS x,eS p,.op 4 0] (maO 4 15 none 0 k F) (.tup []) (maO 4 15 none 0 (k+1) (madN F x p)):=((order1_S x p k F hk hr).ren (swp 1004 4) (swp 1004 4) (swp_swp _ _)).ren (swp 1015 15) (swp 1015 15) (swp_swp _ _)
theorem eachOrd1_O (m:ModE) (f:FnE) (n:Int) (ty:AV) (hf:siz f<4294967296) (hr: ∀b i,inI (iAt f b i).reg):
  ASpecO true Tryz.prog 28 [.cp (ckC m f n ty),.clo 66 [.op 4 0]] (maO 4 15 none 0 (0) (madM f n (0))) ((eachF f n (fun _ _=>0)).code=0) (.tup []) (maO 4 15 none 0 ((Code f).length) (madM f n ((Code f).length))) (vflt (eachF f n (fun _ _=>0)).code (eachF f n (fun _ _=>0)).at') []:=by
 have h1:=blocks_le f
 have h0:=Code_siz f
 refine ASpecO.enter TYok mixed Tryz.func28 rfl Tryz.call28 Tryz.ntmps28 rfl (rs:=[]) rfl (maClo) (Clo.one rfl) rfl (keep:=[0,1,4,5,6,7,12,13,14,20,21,22]) fun pin=>?_;conv=>whnf
 repeat' first|(refine iG ?_ ?_<;>intro hb hc<;>first|exact yE|conv=>whnf)|(refine gqs ?_;conv=>whnf)|(refine yt ?_;conv=>whnf)|exact yK|fail
 refine lp [14] (fun b:Nat=>[.i .i64 b]) (fun b=>(maO 4 15 (some (pin 4)) (pin 15+1) ((codeTo f b 0).length) (madM f n ((codeTo f b 0).length)))) (fun b=>b<=f.blocks.length/\ ∀j,j<(codeTo f b 0).length->(eacC f n (fun _ _=>0) j).code=0) (fun b=>f.blocks.length-b) 0 ⟨by omega,fun i h=>by simp[codeTo,pairs] at h⟩ ?_ fun b hq=>?_
 ·refine eP [] [] ?_ ?_<;>repeat' first|exact eN|apply zi
  exact fun _ h=>h
 conv=>whnf
 obtain⟨hb1,hv1⟩:=hq
 have h2:=iLen_siz f b
 have h3:iLen f b=(f.blocks.getD b Enc.d).code.length:=rfl
 repeat' first|(refine iG ?_ ?_<;>intro hb hc<;>first|exact yE|conv=>whnf)|(refine gqs ?_;conv=>whnf)|(refine yt ?_;conv=>whnf)|exact yK|fail
 ·refine lp [22] (fun i:Nat=>[.i .i64 i]) (fun i=>(5,bx (f.blocks.getD b Enc.d))::(maO 4 15 (some (pin 4)) (pin 15+1) ((codeTo f b i).length) (madM f n ((codeTo f b i).length)))) (fun i=>i<=iLen f b/\ ∀j,j<(codeTo f b i).length->(eacC f n (fun _ _=>0) j).code=0) (fun i=>iLen f b-i) 0 ⟨by omega,hv1⟩ ?_ fun i hq2=>?_
  ·refine eP [] [] ?_ ?_<;>repeat' first|exact eN|apply zi
   exact fun _ h=>h
  conv=>whnf
  obtain⟨hi1,hv2⟩:=hq2
  have hkl:i<iLen f b->(codeTo f b i).length<(Code f).length:=fun h=>kd_lt (by omega) h
  repeat' first|(refine iG ?_ ?_<;>intro hb hc<;>first|exact yE|conv=>whnf)|(refine gqs ?_;conv=>whnf)|(refine gqm (x:=order1_R (iAt f b i) ⟨n,b,i⟩ (codeTo f b i).length (madM f n (codeTo f b i).length) (by omega) (hr b i)) (k:= ?_);conv=>whnf)|(refine yt ?_;conv=>whnf)|exact yK|fail
  ·refine .mk (i+1) ⟨by omega,eac_step (by omega) (by omega) hv2 rfl⟩ (by omega) ?_
   refine eP [] [] ?_ ?_<;>repeat' first|exact eN|apply zi
   exact mapS_le (by rw[kdl f b (i+1),kdl f b i];omega) fun j z=>by rw[kdl f b (i+1),<-Nat.add_assoc,<-kdl,madM,kd_1 (by omega) (by omega:i<iLen f b),plE,kd_2 (by omega) (by omega:i<iLen f b)]
  ·obtain rfl:i=iLen f b:=by omega
   refine .mk (b+1) ⟨by omega,by rw[kd_nx];exact hv2⟩ (by omega) ?_
   refine eP [] [] ?_ ?_<;>repeat' first|exact eN|apply zi
   exact mapS_le (by rw[kd_nx];exact Nat.le_refl _) fun j z=>by rw[kd_nx]
 ·obtain rfl:b=f.blocks.length:=by omega
  have e:=eachF_no hv1
  refine⟨by rw[e],?_⟩
  conv=>whnf
  refine⟨[],[],trivial,?_,rfl⟩
  repeat' first|exact eN|apply zi
  exact fun _ h=>h
def ordE (f:FnE) (R:List Bool) (T:List (List Bool)) (F:List Int->Int) (x:InsE) (b i:Nat) (k:Nat):Int:=
 if¬(x.args.getD k Enc.d).k=1\/(x.args.getD k Enc.d).n<f.params.length then 0
 else if R.getD b Enc.d=false then 0
 else if x.op=25 then
  if R.getD (x.to.getD k Enc.d).toNat Enc.d=false then 0
  else if(T.getD (F [1,(x.args.getD k Enc.d).n]).toNat Enc.d).getD (x.to.getD k Enc.d).toNat Enc.d=false then 11 else 0
 else if F [1,(x.args.getD k Enc.d).n]=b then
  if F [2,(x.args.getD k Enc.d).n]<i then 0 else 11
 else if(T.getD (F [1,(x.args.getD k Enc.d).n]).toNat Enc.d).getD b Enc.d=false then 11 else 0
noncomputable def oaO (m:ModE) (f:FnE) (n:Int) (ty:AV) (R:List Bool) (p1 p3 p2 p4:Option Nat) (p15:Nat) (k:Nat) (F:List Int->Int):Os:=
 [(1,.box p1 (some 74) [.cp (ckC m f n ty)]),(3,.box p3 (some 112) [eL R]),(2,.box p2 (some 39) [eL (idomL f)]),(4,.box p4 (some 114) [.omap 15]),(15,pmO k F p15)]
theorem oaClo {m:ModE} {f:FnE} {n:Int} {ty:AV} {R:List Bool} {p1 p3 p2 p4:Option Nat} {p15:Nat} {k:Nat} {F:List Int->Int}:Clo (.tup []) (oaO m f n ty R p1 p3 p2 p4 p15 k F):=by
 refine⟨fun id hm=>(nomatch hm),fun i ob hl id hm=>?_⟩
 have hmem:=lk_mem hl
 simp only[oaO,List.mem_cons,List.not_mem_nil,or_false,Prod.mk.injEq] at hmem
 rcases hmem with⟨_,rfl⟩|⟨_,rfl⟩|⟨_,rfl⟩|⟨_,rfl⟩|⟨_,rfl⟩
 ·cases hm
 ·cases hm
 ·cases hm
 ·simp only[omen,mens,men,Bool.or_false] at hm
  have:=Nat.eq_of_beq_eq_true hm;subst this;rfl
 ·cases hm
theorem order2_O (m:ModE) (f:FnE) (n:Int) (ty:AV) (R:List Bool) (T:List (List Bool)) (K:Nat) (F:List Int->Int) (x:InsE) (b i:Nat) (h:0<f.blocks.length) (hs:siz f<4294967296) (hx:siz x<4294967296) (hR:isRG f (-1) R) (hT:isTab f T) (hb0:b<f.blocks.length)
  (hr: ∀k,inI (x.args.getD k Enc.d).n) (hF: ∀k,k<x.args.length->(x.args.getD k Enc.d).k=1-> ¬(x.args.getD k Enc.d).n<f.params.length->0<=F [1,(x.args.getD k Enc.d).n]/\F [1,(x.args.getD k Enc.d).n]<f.blocks.length)
  (hp:x.op=25->x.args.length=x.to.length/\ ∀t∈x.to,0<=t/\t<f.blocks.length):
  ASpecO true Tryz.prog 67 [eS x,eS (⟨n,b,i⟩:Plc),.op 1 0,.op 3 0,.op 4 0,.op 2 0] (oaO m f n ty R none none none none 0 K F) (∀k,k<x.args.length->ordE f R T F x b i k=0) (.tup []) (oaO m f n ty R none none none none 0 K F) (vflt (firstV (ordE f R T F x b i) x.args.length) ⟨n,b,i⟩) []:=by
 have h1:=args_le x
 have hR1:=hR.1
 have h4:=blocks_le f
 have h5:=params_le f
 obtain⟨P,hU,hA,hup⟩:=isIdom_up (isIdom_ex f h)
 have hul:=(isIdom_ex f h).1
 refine ASpecO.enter TYok mixed Tryz.func67 rfl Tryz.call67 Tryz.ntmps67 rfl (rs:=[]) rfl (oaClo) (Clo.one rfl) rfl (keep:=[0,1,2,3,4,5,6,7,8,9,10,11,13,14,15]) fun pin=>?_;conv=>whnf
 repeat' first|(refine iG ?_ ?_<;>intro hb hc<;>first|exact yE|conv=>whnf)|(refine gqs ?_;conv=>whnf)|(refine yt ?_;conv=>whnf)|exact yK|fail
 refine lp [15] (fun k:Nat=>[.i .i64 k]) (fun k=>(6,bx x)::(7,bx (⟨n,b,i⟩:Plc))::oaO m f n ty R (some (pin 1)) (some (pin 3)) (some (pin 2)) (some (pin 4)) (pin 15+1) K F) (fun k=>k<=x.args.length/\ ∀j,j<k->ordE f R T F x b i j=0) (fun k=>x.args.length-k) 0 ⟨Nat.zero_le _,fun j h=>by omega⟩ ?_ fun k hk=>?_
 ·refine eP [] [] ?_ ?_<;>repeat' first|exact eN|apply zi
  all_goals exact fun _ h=>h
 conv=>whnf
 obtain⟨hk1,hv⟩:=hk
 repeat' first|(refine iG ?_ ?_<;>intro hb hc<;>first|exact yE|conv=>whnf)|(refine gqs ?_;conv=>whnf)|(refine yt ?_;conv=>whnf)|exact yK|fail
 ·refine .mk (k+1) ⟨by omega,all_step hv ?_⟩ (by show _-(k+1)<_-k;omega) ?_
  ·rcases hc with q|q
   ·rw[ordE,if_pos q]
   ·by_cases q2: ¬(x.args.getD k Enc.d).k=1\/(x.args.getD k Enc.d).n<f.params.length
    ·rw[ordE,if_pos q2]
    ·rw[ordE,if_neg q2,if_pos q]
  ·refine eP [] [] ?_ ?_<;>repeat' first|exact eN|apply zi
   all_goals exact fun _ h=>h
 ·have hd:=hF k (by omega) hc.1.1 hc.1.2
  have hq1: ¬(¬(x.args.getD k Enc.d).k=1\/(x.args.getD k Enc.d).n<f.params.length):=fun q=>q.elim (fun q=>q hc.1.1) hc.1.2
  have hq2: ¬R.getD b Enc.d=false:=by rw[hc.2];simp
  refine And.intro ⟨hr k,trivial⟩ ?_
  conv=>whnf
  repeat' first|(refine iG ?_ ?_<;>intro hb hc<;>first|exact yE|conv=>whnf)|(refine gqs ?_;conv=>whnf)|((first|refine CallV.pan ?_|refine CallW.pan ?_);(conv=>whnf);refine cP (must_O _ _ _) (fun ht=>?_) (fun ht=>?_)<;>conv=>whnf)|(refine yt ?_;conv=>whnf)|exact yK|fail
  ·obtain⟨hp1,hp2⟩:=hp hc
   have hkt:k<x.to.length:=by omega
   have htm:x.to.getD k Enc.d∈x.to:=by rw[List.getD_eq_getElem?_getD,List.getElem?_eq_getElem hkt];exact List.getElem_mem hkt
   have htr:=hp2 _ htm
   have hop:=hc
   refine And.intro ⟨by simp only[Int.toNat_natCast];omega,by simp only[Int.toNat_natCast];omega⟩ ?_
   conv=>whnf
   repeat' first|(refine iG ?_ ?_<;>intro hb hc<;>first|exact yE|conv=>whnf)|(refine gqs ?_;conv=>whnf)|(refine yt ?_;conv=>whnf)|exact yK|fail
   ·refine .mk (k+1) ⟨by omega,all_step hv ?_⟩ (by show _-(k+1)<_-k;omega) ?_
    ·rw[ordE,if_neg hq1,if_neg hq2,if_pos hop,if_pos hc]
    ·refine eP [] [] ?_ ?_<;>repeat' first|exact eN|apply zi
     all_goals exact fun _ h=>h
   have hq3: ¬R.getD (x.to.getD k Enc.d).toNat Enc.d=false:=by
    intro q
    have:R.getD (x.to.getD k Enc.d).toNat Enc.d=true:=hc
    rw[this] at q;cases q
   have eB:x.to.getD k Enc.d=(((x.to.getD k Enc.d).toNat:Nat):Int):=by omega
   have hRB:(rkG f h).R (x.to.getD k Enc.d).toNat:=(ordL_mem f _ (by omega)).2 ((hR.2 _ (by omega)).1 hc)
   have hTB:=tab_anc hA hT hRB (d:=(F [1,(x.args.getD k Enc.d).n]).toNat) (by omega)
   refine lp [11] (fun z:Int=>[.i .i64 z]) (fun z=>(10,.box none (some 32) [.i .i64 (F [0,(x.args.getD k Enc.d).n]),.i .i64 (F [1,(x.args.getD k Enc.d).n]),.i .i64 (F [2,(x.args.getD k Enc.d).n])])::(9,.box none (some 56) (Enc.enc (x.args.getD k Enc.d)))::(6,bx x)::(7,bx (⟨n,b,i⟩:Plc))::oaO m f n ty R (some (pin 1)) (some (pin 3)) (some (pin 2)) (some (pin 4)) (pin 15+1) K F) (fun z=>(∃c:Nat,z=c/\(rkG f h).R c/\(Anc P (F [1,(x.args.getD k Enc.d).n]).toNat (x.to.getD k Enc.d).toNat↔Anc P (F [1,(x.args.getD k Enc.d).n]).toNat c))\/(z= -1/\ ¬Anc P (F [1,(x.args.getD k Enc.d).n]).toNat (x.to.getD k Enc.d).toNat)) (fun z=>if z<0 then 0 else(rkG f h).rk z.toNat+1) ((x.to.getD k Enc.d).toNat:Nat) (.inl ⟨(x.to.getD k Enc.d).toNat,rfl,hRB,Iff.rfl⟩) ?_ fun z hz=>?_
   ·refine eP [] [] ?_ ?_<;>repeat' first|exact eN|apply zi
    all_goals first|exact eB|exact fun _ h=>h
   conv=>whnf
   rcases hz with⟨c,rfl,z1,z2⟩|⟨rfl,z2⟩
   ·have z3:=(rkG f h).lt c z1
    have z3':c<f.blocks.length:=z3
    have z4:=hup c z1
    have z5:(idomL f).getD c Enc.d=(idomL f).getD c (-1):=getD_d _ _ (by omega)
    repeat' first|(refine iG ?_ ?_<;>intro hb hc<;>first|exact yE|conv=>whnf)|(refine gqs ?_;conv=>whnf)|((first|refine CallV.pan ?_|refine CallW.pan ?_);(conv=>whnf);refine cP (must_O _ _ _) (fun ht=>?_) (fun ht=>?_)<;>conv=>whnf)|(refine yt ?_;conv=>whnf)|exact yK|fail
    ·have hne:(F [1,(x.args.getD k Enc.d).n]).toNat≠c:=fun e=>hc.2 (by show(c:Int)=F [1,(x.args.getD k Enc.d).n];omega)
     rcases z4 with⟨rfl,y1⟩|⟨y0,p,y1,y2,y3,y4⟩
     ·refine .mk (-1) (.inr ⟨rfl,fun q=>hne (z2.1 q).root⟩) (by show(if(-1:Int)<0 then 0 else _)<(if((0:Nat):Int)<0 then 0 else _+1);rw[if_pos (by decide),if_neg (by decide)];omega) ?_
      refine eP [] [] ?_ ?_<;>repeat' first|exact eN|apply zi
      all_goals first|exact z5.trans y1|exact fun _ h=>h
     ·refine .mk (p:Int) (.inl ⟨p,rfl,y3,z2.trans ⟨fun q=>q.inv hne y2,fun q=>.up c p y0 y2 q⟩⟩) (by show(if(p:Int)<0 then 0 else(rkG f h).rk (p:Int).toNat+1)<(if(c:Int)<0 then 0 else(rkG f h).rk (c:Int).toNat+1);rw[if_neg (by omega),if_neg (by omega)];simp only[Int.toNat_natCast];omega) ?_
      refine eP [] [] ?_ ?_<;>repeat' first|exact eN|apply zi
      all_goals first|exact z5.trans y1|exact fun _ h=>h
    ·have hce:(F [1,(x.args.getD k Enc.d).n]).toNat=c:=by
      have:(c:Int)=F [1,(x.args.getD k Enc.d).n]:=by simpa using ht
      omega
     have hT2:=hTB.2 (z2.2 (hce▸ .self))
     refine .mk (k+1) ⟨by omega,all_step hv ?_⟩ (by show _-(k+1)<_-k;omega) ?_
     ·rw[ordE,if_neg hq1,if_neg hq2,if_pos hop,if_neg hq3,if_neg (fun q=>?_)]
      have q2:(T.getD (F [1,(x.args.getD k Enc.d).n]).toNat []).getD (x.to.getD k Enc.d).toNat false=false:=q
      rw[hT2] at q2;cases q2
     ·refine eP [] [] ?_ ?_<;>repeat' first|exact eN|apply zi
      all_goals exact fun _ h=>h
    ·exfalso
     have h9: ¬((c:Int)=F [1,(x.args.getD k Enc.d).n]):=by simpa using ht
     rcases hc with q|q
     ·omega
     ·exact h9 q
   ·repeat' first|(refine iG ?_ ?_<;>intro hb hc<;>first|exact yE|conv=>whnf)|(refine gqs ?_;conv=>whnf)|((first|refine CallV.pan ?_|refine CallW.pan ?_);(conv=>whnf);refine cP (must_O _ _ _) (fun ht=>?_) (fun ht=>?_)<;>conv=>whnf)|(refine yt ?_;conv=>whnf)|exact yK|fail
    ·exfalso
     have h9:(-1:Int)=F [1,(x.args.getD k Enc.d).n]:=by simpa using ht
     omega
    ·refine pzF (q:=k) (by omega) hv ?_
     have hT2: ¬(T.getD (F [1,(x.args.getD k Enc.d).n]).toNat []).getD (x.to.getD k Enc.d).toNat false=true:=fun q=>z2 (hTB.1 q)
     rw[ordE,if_neg hq1,if_neg hq2,if_pos hop,if_neg hq3,if_pos]
     exact Bool.eq_false_iff.2 hT2
  ·have h9:F [1,(x.args.getD k Enc.d).n]=b:=hc
   have h10:F [2,(x.args.getD k Enc.d).n]<i:=by simpa using ht
   refine .mk (k+1) ⟨by omega,all_step hv ?_⟩ (by show _-(k+1)<_-k;omega) ?_
   ·rw[ordE,if_neg hq1,if_neg hq2,if_neg (by assumption),if_pos h9,if_pos h10]
   ·refine eP [] [] ?_ ?_<;>repeat' first|exact eN|apply zi
    all_goals exact fun _ h=>h
  ·have h9:F [1,(x.args.getD k Enc.d).n]=b:=hc
   have h10: ¬F [2,(x.args.getD k Enc.d).n]<i:=by simpa using ht
   refine pzF (q:=k) (by omega) hv ?_
   rw[ordE,if_neg hq1,if_neg hq2,if_neg (by assumption),if_pos h9,if_neg h10]
  ·exact absurd hc hq2
  have hop: ¬x.op=25:=by assumption
  have h9: ¬F [1,(x.args.getD k Enc.d).n]=b:=by assumption
  have hRB:(rkG f h).R b:=(ordL_mem f _ hb0).2 ((hR.2 _ hb0).1 hc)
  have hTB:=tab_anc hA hT hRB (d:=(F [1,(x.args.getD k Enc.d).n]).toNat) (by omega)
  refine lp [11] (fun z:Int=>[.i .i64 z]) (fun z=>(10,.box none (some 32) [.i .i64 (F [0,(x.args.getD k Enc.d).n]),.i .i64 (F [1,(x.args.getD k Enc.d).n]),.i .i64 (F [2,(x.args.getD k Enc.d).n])])::(9,.box none (some 56) (Enc.enc (x.args.getD k Enc.d)))::(6,bx x)::(7,bx (⟨n,b,i⟩:Plc))::oaO m f n ty R (some (pin 1)) (some (pin 3)) (some (pin 2)) (some (pin 4)) (pin 15+1) K F) (fun z=>(∃c:Nat,z=c/\(rkG f h).R c/\(Anc P (F [1,(x.args.getD k Enc.d).n]).toNat b↔Anc P (F [1,(x.args.getD k Enc.d).n]).toNat c))\/(z= -1/\ ¬Anc P (F [1,(x.args.getD k Enc.d).n]).toNat b)) (fun z=>if z<0 then 0 else(rkG f h).rk z.toNat+1) (b:Nat) (.inl ⟨b,rfl,hRB,Iff.rfl⟩) ?_ fun z hz=>?_
  ·refine eP [] [] ?_ ?_<;>repeat' first|exact eN|apply zi
   all_goals first|exact rfl|exact fun _ h=>h
  conv=>whnf
  rcases hz with⟨c,rfl,z1,z2⟩|⟨rfl,z2⟩
  ·have z3:=(rkG f h).lt c z1
   have z3':c<f.blocks.length:=z3
   have z4:=hup c z1
   have z5:(idomL f).getD c Enc.d=(idomL f).getD c (-1):=getD_d _ _ (by omega)
   repeat' first|(refine iG ?_ ?_<;>intro hb hc<;>first|exact yE|conv=>whnf)|(refine gqs ?_;conv=>whnf)|((first|refine CallV.pan ?_|refine CallW.pan ?_);(conv=>whnf);refine cP (must_O _ _ _) (fun ht=>?_) (fun ht=>?_)<;>conv=>whnf)|(refine yt ?_;conv=>whnf)|exact yK|fail
   ·have hne:(F [1,(x.args.getD k Enc.d).n]).toNat≠c:=fun e=>hc.2 (by show(c:Int)=F [1,(x.args.getD k Enc.d).n];omega)
    rcases z4 with⟨rfl,y1⟩|⟨y0,p,y1,y2,y3,y4⟩
    ·refine .mk (-1) (.inr ⟨rfl,fun q=>hne (z2.1 q).root⟩) (by show(if(-1:Int)<0 then 0 else _)<(if((0:Nat):Int)<0 then 0 else _+1);rw[if_pos (by decide),if_neg (by decide)];omega) ?_
     refine eP [] [] ?_ ?_<;>repeat' first|exact eN|apply zi
     all_goals first|exact z5.trans y1|exact fun _ h=>h
    ·refine .mk (p:Int) (.inl ⟨p,rfl,y3,z2.trans ⟨fun q=>q.inv hne y2,fun q=>.up c p y0 y2 q⟩⟩) (by show(if(p:Int)<0 then 0 else(rkG f h).rk (p:Int).toNat+1)<(if(c:Int)<0 then 0 else(rkG f h).rk (c:Int).toNat+1);rw[if_neg (by omega),if_neg (by omega)];simp only[Int.toNat_natCast];omega) ?_
     refine eP [] [] ?_ ?_<;>repeat' first|exact eN|apply zi
     all_goals first|exact z5.trans y1|exact fun _ h=>h
   ·have hce:(F [1,(x.args.getD k Enc.d).n]).toNat=c:=by
     have:(c:Int)=F [1,(x.args.getD k Enc.d).n]:=by simpa using ht
     omega
    have hT2:=hTB.2 (z2.2 (hce▸ .self))
    refine .mk (k+1) ⟨by omega,all_step hv ?_⟩ (by show _-(k+1)<_-k;omega) ?_
    ·rw[ordE,if_neg hq1,if_neg hq2,if_neg hop,if_neg h9,if_neg (fun q=>?_)]
     have q2:(T.getD (F [1,(x.args.getD k Enc.d).n]).toNat []).getD b false=false:=q
     rw[hT2] at q2;cases q2
    ·refine eP [] [] ?_ ?_<;>repeat' first|exact eN|apply zi
     all_goals exact fun _ h=>h
   ·exfalso
    have h9: ¬((c:Int)=F [1,(x.args.getD k Enc.d).n]):=by simpa using ht
    rcases hc with q|q
    ·omega
    ·exact h9 q
  ·repeat' first|(refine iG ?_ ?_<;>intro hb hc<;>first|exact yE|conv=>whnf)|(refine gqs ?_;conv=>whnf)|((first|refine CallV.pan ?_|refine CallW.pan ?_);(conv=>whnf);refine cP (must_O _ _ _) (fun ht=>?_) (fun ht=>?_)<;>conv=>whnf)|(refine yt ?_;conv=>whnf)|exact yK|fail
   ·exfalso
    have h9:(-1:Int)=F [1,(x.args.getD k Enc.d).n]:=by simpa using ht
    omega
   ·refine pzF (q:=k) (by omega) hv ?_
    have hT2: ¬(T.getD (F [1,(x.args.getD k Enc.d).n]).toNat []).getD b false=true:=fun q=>z2 (hTB.1 q)
    rw[ordE,if_neg hq1,if_neg hq2,if_neg hop,if_neg h9,if_pos]
    exact Bool.eq_false_iff.2 hT2
 ·refine⟨fun j hj=>hv j (by omega),?_⟩
  conv=>whnf
  refine⟨[],[],trivial,?_,rfl⟩
  repeat' first|exact eN|apply zi
  exact fun _ h=>h
noncomputable def ordPl (f:FnE) (R:List Bool) (T:List (List Bool)) (F:List Int->Int):InsE->Plc->Int:=fun x p=>firstV (ordE f R T F x p.b.toNat p.i.toNat) x.args.length
structure OrdOk (f:FnE) (F:List Int->Int) (x:InsE):Prop where
 sz:siz x<4294967296
 rng: ∀k,inI (x.args.getD k Enc.d).n
 def': ∀k,k<x.args.length->(x.args.getD k Enc.d).k=1-> ¬(x.args.getD k Enc.d).n<f.params.length->0<=F [1,(x.args.getD k Enc.d).n]/\F [1,(x.args.getD k Enc.d).n]<f.blocks.length
 phi:x.op=25->x.args.length=x.to.length/\ ∀t∈x.to,0<=t/\t<f.blocks.length
theorem order2_R (m:ModE) (f:FnE) (n:Int) (ty:AV) (R:List Bool) (T:List (List Bool)) (K:Nat) (F:List Int->Int) (x:InsE) (b i:Nat) (h:0<f.blocks.length) (hs:siz f<4294967296) (hR:isRG f (-1) R) (hT:isTab f T) (hb0:b<f.blocks.length) (hx:OrdOk f F x):
  ASpecO true Tryz.prog 67 [eS x,eS (⟨n,b,i⟩:Plc),.op 1 0,.op 3 0,.op 4 0,.op 2 0] (oaO m f n ty R none none none none 0 K F) (ordPl f R T F x ⟨n,b,i⟩=0) (.tup []) (oaO m f n ty R none none none none 0 K F) (vflt (ordPl f R T F x ⟨n,b,i⟩) ⟨n,b,i⟩) []:=by
 have q:=order2_O m f n ty R T K F x b i h hs hx.sz hR hT hb0 hx.rng hx.def' hx.phi
 rw[firstV_iff] at q
 exact q
theorem eachOrd2_O (m:ModE) (f:FnE) (n:Int) (ty:AV) (R:List Bool) (T:List (List Bool)) (K:Nat) (F:List Int->Int) (h:0<f.blocks.length) (hf:siz f<4294967296) (hR:isRG f (-1) R) (hT:isTab f T) (hx: ∀b i,b<f.blocks.length->i<iLen f b->OrdOk f F (iAt f b i)):
  ASpecO true Tryz.prog 28 [.cp (ckC m f n ty),.clo 67 [.op 1 0,.op 3 0,.op 4 0,.op 2 0]] (oaO m f n ty R none none none none 0 K F) ((eachF f n (ordPl f R T F)).code=0) (.tup []) (oaO m f n ty R none none none none 0 K F) (vflt (eachF f n (ordPl f R T F)).code (eachF f n (ordPl f R T F)).at') []:=by
 have h1:=blocks_le f
 have h0:=Code_siz f
 refine ASpecO.enter TYok mixed Tryz.func28 rfl Tryz.call28 Tryz.ntmps28 rfl (rs:=[]) rfl (oaClo) (Clo.one rfl) rfl (keep:=[0,1,4,5,6,7,12,13,14,20,21,22]) fun pin=>?_;conv=>whnf
 repeat' first|(refine iG ?_ ?_<;>intro hb hc<;>first|exact yE|conv=>whnf)|(refine gqs ?_;conv=>whnf)|(refine yt ?_;conv=>whnf)|exact yK|fail
 refine lp [14] (fun b:Nat=>[.i .i64 b]) (fun b=>(oaO m f n ty R (some (pin 1)) (some (pin 3)) (some (pin 2)) (some (pin 4)) (pin 15+1) K F)) (fun b=>b<=f.blocks.length/\ ∀j,j<(codeTo f b 0).length->(eacC f n (ordPl f R T F) j).code=0) (fun b=>f.blocks.length-b) 0 ⟨by omega,fun i h=>by simp[codeTo,pairs] at h⟩ ?_ fun b hq=>?_
 ·refine eP [] [] ?_ ?_<;>repeat' first|exact eN|apply zi
  exact fun _ h=>h
 conv=>whnf
 obtain⟨hb1,hv1⟩:=hq
 have h2:=iLen_siz f b
 have h3:iLen f b=(f.blocks.getD b Enc.d).code.length:=rfl
 repeat' first|(refine iG ?_ ?_<;>intro hb hc<;>first|exact yE|conv=>whnf)|(refine gqs ?_;conv=>whnf)|(refine yt ?_;conv=>whnf)|exact yK|fail
 ·refine lp [22] (fun i:Nat=>[.i .i64 i]) (fun i=>(5,bx (f.blocks.getD b Enc.d))::(oaO m f n ty R (some (pin 1)) (some (pin 3)) (some (pin 2)) (some (pin 4)) (pin 15+1) K F)) (fun i=>i<=iLen f b/\ ∀j,j<(codeTo f b i).length->(eacC f n (ordPl f R T F) j).code=0) (fun i=>iLen f b-i) 0 ⟨by omega,hv1⟩ ?_ fun i hq2=>?_
  ·refine eP [] [] ?_ ?_<;>repeat' first|exact eN|apply zi
   exact fun _ h=>h
  conv=>whnf
  obtain⟨hi1,hv2⟩:=hq2
  repeat' first|(refine iG ?_ ?_<;>intro hb hc<;>first|exact yE|conv=>whnf)|(refine gqs ?_;conv=>whnf)|((first|refine CallV.pan ?_|refine CallW.pan ?_);(conv=>whnf);refine cP (order2_R m f n ty R T K F (iAt f b i) b i h hf hR hT (by omega) (hx b i (by omega) (by omega))) (fun ht=>?_) (fun ht=>?_)<;>conv=>whnf)|(refine yt ?_;conv=>whnf)|exact yK|fail
  ·refine .mk (i+1) ⟨by omega,eac_step (by omega) (by omega) hv2 ht⟩ (by omega) ?_
   refine eP [] [] ?_ ?_<;>repeat' first|exact eN|apply zi
   exact fun _ h=>h
  ·exact pzE (eachF_at (by omega) (by omega) hv2 ht) ht
  ·obtain rfl:i=iLen f b:=by omega
   refine .mk (b+1) ⟨by omega,by rw[kd_nx];exact hv2⟩ (by omega) ?_
   refine eP [] [] ?_ ?_<;>repeat' first|exact eN|apply zi
   exact fun _ h=>h
 ·obtain rfl:b=f.blocks.length:=by omega
  have e:=eachF_no hv1
  refine⟨by rw[e],?_⟩
  conv=>whnf
  refine⟨[],[],trivial,?_,rfl⟩
  repeat' first|exact eN|apply zi
  exact fun _ h=>h
theorem order_O (m:ModE) (f:FnE) (n:Int) (ty:AV) (R:List Bool) (T:List (List Bool)) (h:0<f.blocks.length) (hf:siz f<4294967296) (hR:isRG f (-1) R) (hT:isTab f T) (hr: ∀b i,inI (iAt f b i).reg) (hx: ∀b i,b<f.blocks.length->i<iLen f b->OrdOk f (madM f n (Code f).length) (iAt f b i)):
  ASpecO true Tryz.prog 33 [.cp (ckC m f n ty)] [] ((eachF f n (ordPl f R T (madM f n (Code f).length))).code=0) (.tup []) [] (vflt (eachF f n (ordPl f R T (madM f n (Code f).length))).code (eachF f n (ordPl f R T (madM f n (Code f).length))).at') []:=by
 refine ASpecO.enter TYok mixed Tryz.func33 rfl Tryz.call33 Tryz.ntmps33 rfl (rs:=[]) rfl (Clo.one rfl) (Clo.one rfl) rfl (keep:=[0,1,2,3,4]) fun pin=>?_;conv=>whnf
 repeat' first|(refine iG ?_ ?_<;>intro hb hc<;>first|exact yE|conv=>whnf)|(refine gqs ?_;conv=>whnf)|(refine gqc (x:=fun _=>idom_S f hf h) (k:= ?_);conv=>whnf)|(refine gqc (x:=fun _=>gReach_F f R hR hf) (k:= ?_);conv=>whnf)|((first|refine CallV.pan ?_|refine CallW.pan ?_);(conv=>whnf);refine cP (eachOrd1_O m f n ty hf hr) (fun ht=>?_) (fun ht=>?_)<;>conv=>whnf)|((first|refine CallV.pan ?_|refine CallW.pan ?_);(conv=>whnf);refine cP (eachOrd2_O m f n ty R T (Code f).length (madM f n (Code f).length) h hf hR hT hx) (fun ht=>?_) (fun ht=>?_)<;>conv=>whnf)|(refine yt ?_;conv=>whnf)|exact yK|fail
 ·exact⟨[],[],trivial,trivial,rfl⟩
 ·exact⟨[],[],⟨rfl,rfl,rfl,rfl,trivial⟩,trivial,rfl⟩
 ·exact absurd (by rw[eachF_no (C:=fun _ _=>0) fun j _=>rfl]) ht
theorem szQ_le (f:FnE) (q:Nat) (hq:q<=f.blocks.length):(codeTo f q 0).length<=siz f:=by
 have h:=kdb f q (f.blocks.length-q)
 rw[show q+(f.blocks.length-q)=f.blocks.length by omega] at h
 have:=h.length_le
 have h2:=Code_siz f
 unfold Code at h2
 omega
theorem Size_S (f:FnE) (hs:siz f<4294967296):ASpec Tryz.prog 54 [eS f] (.i .i64 ((Code f).length:Nat)) []:=by
 have h1:=blocks_le f
 refine ASpec.enter TYok mixed Tryz.func54 rfl Tryz.call54 Tryz.ntmps54 rfl (rs:=[.tmp 2]) rfl (nodupB_ok rfl) (Clo.one rfl) (keep:=[0,1,2,3,5,7,8,9]) ?_;conv=>whnf
 repeat' first|(refine iG ?_ ?_<;>intro hb hc<;>first|exact yE|conv=>whnf)|(refine gqs ?_;conv=>whnf)|(refine yt ?_;conv=>whnf)|exact yK|fail
 refine lp [9,3] (fun q:Nat=>[.i .i64 q,.i .i64 ((codeTo f q 0).length:Nat)]) (fun q=>[(1,bx f)]) (fun q=>q<=f.blocks.length) (fun q=>f.blocks.length-q) 0 (Nat.zero_le _) ?_ fun q hq=>?_
 ·refine eP [] [] ?_ ?_<;>repeat' first|exact eN|apply zi
 conv=>whnf
 have h2:=szQ_le f q hq
 have h3:=code_le f q
 repeat' first|(refine iG ?_ ?_<;>intro hb hc<;>first|exact yE|conv=>whnf)|(refine gqs ?_;conv=>whnf)|(refine yt ?_;conv=>whnf)|exact yK|fail
 ·have e:=kd_nx f q
  have e2:=kdl f q (iLen f q)
  unfold iLen at e e2
  refine .mk (q+1) (by omega) (by omega) ?_
  refine eP [] [] ?_ ?_<;>repeat' first|exact eN|apply zi
 ·obtain rfl:q=f.blocks.length:=by omega
  exact⟨_,.keep rfl rfl⟩
theorem blocks_O (m:ModE) (f:FnE) (n:Int) (ty:AV) (hf:siz f<4294967296):
  ASpecO true Tryz.prog 27 [.cp (ckC m f n ty)] [] ((blocksF f n).code=0) (.tup []) [] (vflt (blocksF f n).code (blocksF f n).at') []:=by
 have h3:=blocks_le f
 refine ASpecO.enter TYok mixed Tryz.func27 rfl Tryz.call27 Tryz.ntmps27 rfl (rs:=[]) rfl (Clo.one rfl) (Clo.one rfl) rfl (keep:=[0,2,3,4,5,6,7,8,10,41,42,43,73,74,75,99,100,101]) fun pin=>?_;conv=>whnf
 repeat' first|(refine iG ?_ ?_<;>intro hb hc<;>first|exact yE|conv=>whnf)|(refine gqs ?_;conv=>whnf)|((first|refine CallV.pan ?_|refine CallW.pan ?_);(conv=>whnf);refine cP (must_O _ _ ⟨n,0,0⟩) (fun ht=>?_) (fun ht=>?_)<;>conv=>whnf)|(refine gqc (x:=fun _=>Size_S f hf) (k:= ?_);conv=>whnf)|(refine yt ?_;conv=>whnf)|exact yK|fail
 ·have k1: ¬(f.blocks.length<1\/64<f.blocks.length\/400<(Code f).length):=by
   simp only[pickB_and,Bool.and_eq_true,decide_eq_true_eq] at ht
   omega
  refine lp [43] (fun b:Nat=>[.i .i64 b]) (fun b=>[]) (fun b=>b<=f.blocks.length/\ ∀i,i<b->(blkF f n i).code=0) (fun b=>f.blocks.length-b) 0 ⟨by omega,fun i h=>by omega⟩ ?_ fun b hq=>?_
  ·refine eP [] [] ?_ ?_<;>repeat' first|exact eN|apply zi
  conv=>whnf
  obtain⟨hq,hv⟩:=hq
  have h4:(codeB f b).length<=siz f:=code_le f b
  have h5:codeB f b=(f.blocks.getD b Enc.d).code:=rfl
  rw[h5] at h4
  repeat' first|(refine iG ?_ ?_<;>intro hb hc<;>first|exact yE|conv=>whnf)|(refine gqs ?_;conv=>whnf)|((first|refine CallV.pan ?_|refine CallW.pan ?_);(conv=>whnf);refine cP (must_O _ _ ⟨n,b,0⟩) (fun ht=>?_) (fun ht=>?_)<;>conv=>whnf)|(refine gqc (x:=fun _=>irEnds_S _) (k:= ?_);conv=>whnf)|(refine yt ?_;conv=>whnf)|exact yK|fail
  ·have hm:max ((codeB f b).length-1:Int) 0=(codeB f b).length-1\/(codeB f b).length=0:=by omega
   rw[h5] at hm
   simp only[pickB_and,Bool.and_eq_true,decide_eq_true_eq,Int.toNat_natCast] at ht
   have e0: ¬(codeB f b).length=0:=by rw[h5];omega
   have e1: ¬Ends (lastB f b).op=false:=by
    have:=ht.2
    rw[hm.resolve_right (by rw[<-h5];exact e0)] at this
    unfold lastB
    rw[h5,this];simp
   have h8:(lastB f b).to.length<=siz f:=Nat.le_trans (to_le _) (ins_le f b _)
   refine lp [75] (fun k:Nat=>[.i .i64 k]) (fun k=>[(5,bx (⟨n,b,((k:Int)-1).toNat⟩:Plc)),(4,bx (f.blocks.getD b Enc.d))]) (fun k=>k<=(codeB f b).length/\ ∀i,i<k->i<(codeB f b).length-1->earlyC f b i=0) (fun k=>(codeB f b).length-k) 0 ⟨by omega,fun i h=>by omega⟩ ?_ fun k hk=>?_
   ·refine eP [] [] ?_ ?_<;>repeat' first|exact eN|apply zi
   conv=>whnf
   obtain⟨hk,hw⟩:=hk
   rw[h5] at hk
   repeat' first|(refine iG ?_ ?_<;>intro hb hc<;>first|exact yE|conv=>whnf)|(refine gqs ?_;conv=>whnf)|((first|refine CallV.pan ?_|refine CallW.pan ?_);(conv=>whnf);refine cP (must_O _ _ ⟨n,b,k⟩) (fun ht=>?_) (fun ht=>?_)<;>conv=>whnf)|(refine gqc (x:=fun _=>irEnds_S _) (k:= ?_);conv=>whnf)|(refine yt ?_;conv=>whnf)|exact yK|fail
   ·refine .mk (k+1) ⟨by rw[h5];omega,fun i h1 h2=>?_⟩ (by rw[h5];omega) ?_
    ·rcases Nat.lt_or_ge i k with h|h
     ·exact hw i h h2
     ·have:i=k:=by omega
      subst this
      simp only[pickB_or,Bool.or_eq_true,decide_eq_true_eq,Int.toNat_natCast,Bool.not_eq_true'] at ht
      rw[h5] at h2
      unfold earlyC
      rw[if_neg fun h=>?_]
      rcases ht with ht|ht
      ·omega
      ·rw[show Ends ((codeB f b).getD i Enc.d).op=false from ht] at h;cases h
    ·refine eP [] [] ?_ ?_<;>repeat' first|exact eN|apply zi
   ·simp only[pickB_or,Bool.or_eq_true,decide_eq_true_eq,Int.toNat_natCast,Bool.not_eq_true',not_or,Bool.not_eq_false] at ht
    have e:blkF f n b=⟨9,⟨n,b,k⟩⟩:=by rw[blkF,if_neg e0,if_neg e1,firstC_at (q:=k) (by rw[h5];omega) (fun i hi=>hw i hi (by rw[h5];omega)) (by unfold earlyC;rw[if_pos (show Ends ((codeB f b).getD k Enc.d).op=true from ht.2)];decide)]
    exact pzE (blocksF_at k1 (by omega) hv e (by simp)) (by decide)
   ·refine lp [101] (fun k:Nat=>[.i .i64 k]) (fun j=>[(5,bx (⟨n,b,((codeB f b).length:Int)-1⟩:Plc)),(4,bx (f.blocks.getD b Enc.d))]) (fun j=>j<=(lastB f b).to.length/\ ∀i,i<j->toC f b i=0) (fun j=>(lastB f b).to.length-j) 0 ⟨by omega,fun i h=>by omega⟩ ?_ fun j hj=>?_
    ·refine eP [] [] ?_ ?_<;>repeat' first|exact eN|apply zi
     show(((k:Int)-1).toNat:Int)=(codeB f b).length-1
     rw[h5] at e0⊢
     omega
    conv=>whnf
    obtain⟨hj,hz⟩:=hj
    have h9:(lastB f b).to.length=((f.blocks.getD b Enc.d).code.getD (((f.blocks.getD b Enc.d).code.length:Int)-1).toNat Enc.d).to.length:=rfl
    repeat' first|(refine iG ?_ ?_<;>intro hb hc<;>first|exact yE|conv=>whnf)|(refine gqs ?_;conv=>whnf)|((first|refine CallV.pan ?_|refine CallW.pan ?_);(conv=>whnf);refine cP (must_O _ _ ⟨n,b,((codeB f b).length:Int)-1⟩) (fun ht=>?_) (fun ht=>?_)<;>conv=>whnf)|(refine yt ?_;conv=>whnf)|exact yK|fail
    ·simp only[pickB_and,Bool.and_eq_true,decide_eq_true_eq] at ht
     have ht':(0:Int)<(lastB f b).to.getD j Enc.d/\(lastB f b).to.getD j Enc.d<f.blocks.length:=ht
     have e3:toC f b j=0:=by unfold toC;rw[if_neg (by omega)]
     refine .mk (j+1) ⟨by omega,all_step hz e3⟩ (by omega) ?_
     refine eP [] [] ?_ ?_<;>repeat' first|exact eN|apply zi
    ·simp only[pickB_and,Bool.and_eq_true,decide_eq_true_eq] at ht
     have ht': ¬((0:Int)<(lastB f b).to.getD j Enc.d/\(lastB f b).to.getD j Enc.d<f.blocks.length):=ht
     have e3:toC f b j≠0:=by unfold toC;rw[if_pos (by omega)];decide
     have e2:firstC (earlyC f b) ((codeB f b).length-1)=none:=firstC_no fun i hi=>hw i (by rw[h5] at hi;omega) hi
     have e:blkF f n b=⟨8,⟨n,b,((codeB f b).length:Int)-1⟩⟩:=by rw[blkF,if_neg e0,if_neg e1,e2];simp only;rw[firstC_at (by omega) hz e3]
     exact pzE (blocksF_at k1 (by omega) hv e (by simp)) (by decide)
    ·have e2:firstC (earlyC f b) ((codeB f b).length-1)=none:=firstC_no fun i hi=>hw i (by rw[h5] at hi;omega) hi
     have e:blkF f n b=⟨0,⟨0,0,0⟩⟩:=by rw[blkF,if_neg e0,if_neg e1,e2];simp only;rw[firstC_no fun i hi=>hz i (by omega)]
     refine .mk (b+1) ⟨by omega,all_step hv (by rw[e])⟩ (by omega) ?_
     refine eP [] [] ?_ ?_<;>repeat' first|exact eN|apply zi
  ·simp only[pickB_and,Bool.and_eq_true,decide_eq_true_eq,Int.toNat_natCast] at ht
   refine pzE (blocksF_at (x:=⟨9,⟨n,b,0⟩⟩) k1 (by omega) hv ?_ (by simp)) (by decide)
   by_cases e0:(codeB f b).length=0
   ·rw[blkF,if_pos e0]
   ·have hm:max ((codeB f b).length-1:Int) 0=(codeB f b).length-1:=by omega
    rw[h5] at hm e0
    rw[hm] at ht
    have e1:Ends (lastB f b).op=false:=by
     rw[<-Bool.not_eq_true]
     exact fun h=>ht ⟨by omega,h⟩
    rw[blkF,if_neg (by rw[h5];exact e0),if_pos e1]
  ·obtain rfl:b=f.blocks.length:=by omega
   have e:firstC (fun b=>(blkF f n b).code) f.blocks.length=none:=firstC_no fun i hi=>hv i (by omega)
   exact rtV (by rw[blocksF,if_neg k1,e])
 ·refine pzE ?_ (by decide)
  simp only[pickB_and,Bool.and_eq_true,decide_eq_true_eq] at ht
  rw[blocksF,if_pos (by omega)]
theorem firstV_succ (c:Nat->Int) (k:Nat):firstV c (k+1)=if firstV c k=0 then c k else firstV c k:=by
 unfold firstV firstC
 rw[List.range_succ,List.find?_append]
 cases hq:(List.range k).find? (fun i=>!decide (c i=0)) with
 |some j=>
  have h:=List.find?_some hq
  simp only[Bool.not_eq_true',decide_eq_false_iff_not] at h
  simp[h]
 |none=>
  by_cases h:c k=0
  ·simp[h]
  ·simp[h]
def tyC (f:FnE) (r:Int) (j:Nat):Int:=if((C1 f).getD j Enc.d).reg=r then Result ((C1 f).getD j Enc.d) else 0
def tyM (f:FnE) (k:Nat) (r:Int):Int:=firstV (tyC f r) k
def tyR (f:FnE) (q:Nat) (r:Nat):Int:=if r<q then f.params.getD r Enc.d else tyM f (Code f).length r
theorem tyM_step {f:FnE} {b i:Nat} {r:Int} (hb:b<f.blocks.length) (hi:i<iLen f b):tyM f (codeTo f b (i+1)).length r=if tyM f (codeTo f b i).length r=0 then(if(iAt f b i).reg=r then Result (iAt f b i) else 0) else tyM f (codeTo f b i).length r:=by
 rw[kdl f b (i+1),<-Nat.add_assoc,<-kdl]
 unfold tyM
 rw[firstV_succ]
 have e:tyC f r (codeTo f b i).length=if(iAt f b i).reg=r then Result (iAt f b i) else 0:=by unfold tyC;rw[kd_1 hb hi]
 rw[e]
theorem tyM_def (f:FnE) (r:Int):tyM f (Code f).length r=if(Def f r).2=false then 0 else Result ((f.blocks.getD (Def f r).1.b.toNat Enc.d).code.getD (Def f r).1.i.toNat Enc.d):=by
 have g: ∀j,dfP r ((Code f).getD j noP)= !decide (tyC f r j=0):=fun j=>by
  have e:((Code f).getD j noP).1=(C1 f).getD j Enc.d:=(getD_map Prod.fst (Code f) j noP Enc.d rfl).symm
  unfold dfP tyC
  rw[e]
  by_cases h:((C1 f).getD j Enc.d).reg=r
  ·rw[if_pos h,decide_eq_true h,Bool.true_and]
  ·rw[if_neg h,decide_eq_false h,Bool.false_and];rfl
 unfold tyM firstV Def
 cases hq:firstC (tyC f r) (Code f).length with
 |none=>
  rw[find_no noP fun j hj=>by
   rw[g j]
   have:=List.find?_eq_none.1 hq j (List.mem_range.2 hj)
   simpa using this]
  rfl
 |some j=>
  obtain⟨h1,h2,h3⟩:=List.find?_range_eq_some.1 hq
  have h2:=List.mem_range.1 h2
  rw[find_take noP (q:=j) h2 (fun i hi=>by rw[g i];simpa using h3 i hi) (by rw[g j];exact h1)]
  obtain⟨b,k,e1,e2,e3⟩:=kd_idx (f:=f) (B:=f.blocks.length) (q:=j) (Nat.le_refl _) h2
  have e4:(Code f).getD j noP=(iAt f b k,⟨0,b,k⟩):=by
   rw[List.getD_eq_getElem?_getD,e3,kd_at e1 e2];rfl
  have e5:tyC f r j=Result (iAt f b k):=by
   have e6:=kd_1 e1 e2
   rw[<-e3] at e6
   unfold tyC at h1⊢
   rw[e6] at h1⊢
   split at h1
   ·rename_i h;rw[if_pos h]
   ·simp at h1
  rw[e4]
  simp only[e5,Bool.true_eq_false,↓reduceIte,Int.toNat_natCast]
  rfl
theorem types_eq (f:FnE) (i:Nat) (hi:i<4096):tyR f f.params.length i=(TypesL f).getD i Enc.d:=by
 have h:=TypesL_at f (i:=(i:Int)) (by omega) (by omega)
 rw[Int.toNat_natCast] at h
 rw[h,TypeR,if_neg (by omega),tyR]
 by_cases h2:i<f.params.length
 ·rw[if_pos h2,if_pos (by omega),Int.toNat_natCast]
 ·rw[if_neg h2,if_neg (by omega),tyM_def]
theorem types_S (f:FnE) (hf:siz f<4294967296) (hr: ∀b i,inI (iAt f b i).reg):ASpec Tryz.prog 17 [eS f] (eL (TypesL f)) []:=by
 have h1:=blocks_le f
 have h9:=params_le f
 refine ASpec.enter TYok mixed Tryz.func17 rfl Tryz.call17 Tryz.ntmps17 rfl (rs:=[.tmp 2]) rfl (nodupB_ok rfl) (Clo.one rfl) (keep:=[0,1,2,3,5,7,8,9,10,13,14,15,20,21,22,52,53,54]) ?_;conv=>whnf
 repeat' first|(refine iG ?_ ?_<;>intro hb hc<;>first|exact yE|conv=>whnf)|(refine gqs ?_;conv=>whnf)|(refine yt ?_;conv=>whnf)|exact yK|fail
 refine lp [15] (fun b:Nat=>[.i .i64 b]) (fun b=>[(11,.row none 1 4096 fun i=>[.i .i64 (tyM f (codeTo f b 0).length i)]),(1,bx f)]) (fun b=>b<=f.blocks.length) (fun b=>f.blocks.length-b) 0 (Nat.zero_le _) ?_ fun b hb=>?_
 ·refine eP [] [] ?_ ?_<;>repeat' first|exact eN|apply zi
 conv=>whnf
 have h2:=iLen_siz f b
 have h3:iLen f b=(f.blocks.getD b Enc.d).code.length:=rfl
 repeat' first|(refine iG ?_ ?_<;>intro hb hc<;>first|exact yE|conv=>whnf)|(refine gqs ?_;conv=>whnf)|(refine yt ?_;conv=>whnf)|exact yK|fail
 ·refine lp [22] (fun i:Nat=>[.i .i64 i]) (fun i=>[(5,bx (f.blocks.getD b Enc.d)),(11,.row none 1 4096 fun r=>[.i .i64 (tyM f (codeTo f b i).length r)]),(1,bx f)]) (fun i=>i<=iLen f b) (fun i=>iLen f b-i) 0 (Nat.zero_le _) ?_ fun i hi=>?_
  ·refine eP [] [] ?_ ?_<;>repeat' first|exact eN|apply zi
  conv=>whnf
  repeat' first|(refine iG ?_ ?_<;>intro hb hc<;>first|exact yE|conv=>whnf)|(refine gqs ?_;conv=>whnf)|(refine gqc (x:=fun _=>irResult_S _) (k:= ?_);conv=>whnf)|(refine yt ?_;conv=>whnf)|exact yK|fail
  ·refine And.intro (fun ht=>?_) ?_
   ·simp only[tg_ite,tg_nil,cn,Nat.reduceMul,Nat.reduceAdd,Nat.reduceEqDiff,↓reduceIte,pickB_and,Bool.and_eq_true,decide_eq_true_eq] at ht
    rw[addZ_eq]
    show _/\_<((4096:Nat):Int)/\_
    omega
   conv=>whnf
   refine And.intro (fun ht=>?_) ?_
   ·simp only[tg_ite,tg_nil,cn,Nat.reduceMul,Nat.reduceAdd,Nat.reduceEqDiff,↓reduceIte,pickB_and,Bool.and_eq_true,decide_eq_true_eq] at ht
    rw[addZ_eq]
    omega
   conv=>whnf
   repeat' first|(refine iG ?_ ?_<;>intro hb hc<;>first|exact yE|conv=>whnf)|(refine gqs ?_;conv=>whnf)|(refine yt ?_;conv=>whnf)|exact yK|fail
   ·refine .mk (i+1) (by omega) (by omega) ?_
    refine eP [] [] ?_ ?_<;>repeat' first|exact eN|apply zi
    intro j hj
    show setF (fun r=>[AV.i .i64 (tyM f (codeTo f b i).length r)]) (addZ 0 (iAt f b i).reg.toNat) [AV.i .i64 (Result (iAt f b i))] j=[AV.i .i64 (tyM f (codeTo f b (i+1)).length j)]
    rw[tyM_step (by omega) (by omega)]
    unfold setF
    have hc':(0<=(iAt f b i).reg/\(iAt f b i).reg<=4095)/\tyM f (codeTo f b i).length ((iAt f b i).reg.toNat:Nat)=0:=hc
    rw[addZ_eq]
    by_cases e:j=0+(iAt f b i).reg.toNat
    ·rw[if_pos e,e,Nat.zero_add,if_pos hc'.2,if_pos (by omega)]
    ·have e2:(iAt f b i).reg≠j:=by omega
     rw[if_neg e,if_neg e2]
     show[AV.i .i64 (tyM f (codeTo f b i).length j)]=_
     split<;>simp_all
   ·refine .mk (i+1) (by omega) (by omega) ?_
    refine eP [] [] ?_ ?_<;>repeat' first|exact eN|apply zi
    intro j hj
    show[AV.i .i64 (tyM f (codeTo f b i).length j)]=[AV.i .i64 (tyM f (codeTo f b (i+1)).length j)]
    rw[tyM_step (by omega) (by omega)]
    have hc': ¬((0<=(iAt f b i).reg/\(iAt f b i).reg<=4095)/\tyM f (codeTo f b i).length ((iAt f b i).reg.toNat:Nat)=0):=fun h=>hc.elim (fun h'=>h'.elim (absurd h.1.1) (absurd h.1.2)) (absurd h.2)
    by_cases e:(iAt f b i).reg=j
    ·have e2:tyM f (codeTo f b i).length j≠0:=fun h=>hc' ⟨by omega,by rw[e,Int.toNat_natCast];exact h⟩
     rw[if_neg e2]
    ·rw[if_neg e]
     split<;>simp_all
  ·refine .mk (b+1) (by omega) (by omega) ?_
   refine eP [] [] ?_ ?_<;>repeat' first|exact eN|apply zi
   intro j hj
   show[AV.i .i64 (tyM f (codeTo f b i).length j)]=[AV.i .i64 (tyM f (codeTo f (b+1) 0).length j)]
   rw[kd_nx,show i=iLen f b by omega]
 ·obtain rfl:b=f.blocks.length:=by omega
  refine lp [54] (fun q:Nat=>[.i .i64 q]) (fun q=>[(11,.row none 1 4096 fun r=>[.i .i64 (tyR f q r)]),(1,bx f)]) (fun q=>q<=f.params.length) (fun q=>f.params.length-q) 0 (Nat.zero_le _) ?_ fun q hq=>?_
  ·refine eP [] [] ?_ ?_<;>repeat' first|exact eN|apply zi
  conv=>whnf
  repeat' first|(refine iG ?_ ?_<;>intro hb hc<;>first|exact yE|conv=>whnf)|(refine gqs ?_;conv=>whnf)|(refine yt ?_;conv=>whnf)|exact yK|fail
  ·refine .mk (q+1) (by omega) (by omega) ?_
   refine eP [] [] ?_ ?_<;>repeat' first|exact eN|apply zi
   intro j hj
   show setF (fun r=>[AV.i .i64 (tyR f q r)]) (addZ 0 (q:Int).toNat) [AV.i .i64 (f.params.getD q Enc.d)] j=[AV.i .i64 (tyR f (q+1) j)]
   unfold setF tyR
   rw[addZ_eq,Int.toNat_natCast,Nat.zero_add]
   by_cases e:j=q
   ·rw[if_pos e,if_pos (by omega),e]
   ·rw[if_neg e]
    show[AV.i .i64 (if j<q then f.params.getD j Enc.d else tyM f (Code f).length j)]=_
    by_cases e2:j<q
    ·rw[if_pos e2,if_pos (by omega)]
    ·rw[if_neg e2,if_neg (by omega)]
  ·refine .mk (q+1) (by omega) (by omega) ?_
   refine eP [] [] ?_ ?_<;>repeat' first|exact eN|apply zi
   intro j hj
   show[AV.i .i64 (tyR f q j)]=[AV.i .i64 (tyR f (q+1) j)]
   unfold tyR
   by_cases e2:j<q
   ·rw[if_pos e2,if_pos (by omega)]
   ·rw[if_neg e2,if_neg (by omega)]
  ·obtain rfl:q=f.params.length:=by omega
   refine⟨_,.freeze (N:=4096) (by rw[lk_cons,if_pos rfl]) (by decide) (by rw[TypesL_len];rfl) (fun x hx=>?_) rfl⟩
   rw[TypesL_len] at hx
   show[AV.i .i64 (tyR f f.params.length x)]=[AV.i .i64 ((TypesL f).getD x Enc.d)]
   rw[types_eq f x hx]
end Go.Proofs.YtnfdieeaelhpbaaGreatDoor
