/- The engine and the contracts of the functions that the statement reaches, part 6. -/
import Derived.Test.YtnfdieeaelhpbaaGreatDoorMe
import Derived.WalkKit
import Derived.Below
import Derived.Laws.Bits64b
import Derived.Laws.BitsAllLaws
import Derived.Laws.Externs
set_option linter.unusedVariables false
set_option linter.unusedSimpArgs false
set_option maxRecDepth 100000
set_option maxHeartbeats 8000000
namespace Go.Proofs.YtnfdieeaelhpbaaGreatDoor
open Go.RowKit
theorem irEnds_S (op:Int):ASpec Tryz.prog 21 [.i .i64 op] (.b (Ends op)) []:=by
 have e:Ends op=(decide (31<=op)&&decide (op<=34)):=by
  unfold Ends;rw[Bool.eq_iff_iff];simp only[Bool.or_eq_true,Bool.and_eq_true,decide_eq_true_eq];omega
 rw[e]
 refine ASpec.enter TYok mixed Tryz.func21 rfl Tryz.call21 Tryz.ntmps21 rfl (rs:=[.tmp 2]) rfl (nodupB_ok rfl) (Clo.one rfl) (keep:=[0,2]) ?_;conv=>whnf
 repeat' first|(refine iG (fun hb hc=>?_) (fun hb hc=>?_)<;>first|exact hc.elim|(exfalso;omega)|conv=>whnf)|(refine gqs ?_;conv=>whnf)|(refine yt ?_;conv=>whnf)|exact⟨_,.keep rfl rfl⟩|fail
theorem irResult_S (x:InsE):ASpec Tryz.prog 20 [eS x] (.i .i64 (Result x)) []:=by
 refine ASpec.enter TYok mixed Tryz.func20 rfl Tryz.call20 Tryz.ntmps20 rfl (rs:=[.tmp 2]) rfl (nodupB_ok rfl) (Clo.one rfl) (keep:=[0,1,2,3]) ?_;conv=>whnf
 repeat' first|(refine iG (fun hb hc=>?_) (fun hb hc=>?_)<;>first|exact hc.elim|(exfalso;omega)|conv=>whnf)|(refine gqs ?_;conv=>whnf)|(refine yt ?_;conv=>whnf)|exact⟨_,.keep rfl rfl⟩|fail
 all_goals exact⟨_,.keep (by(try simp only[pickB_or,pickB_and]);unfold Result;repeat' (first|rfl|omega|split|(simp_all;done))) rfl⟩
theorem mem_Code {f:FnE} {x:InsE×Plc} (h:x∈Code f): ∃b i:Nat,b<f.blocks.length/\i<(f.blocks.getD b Enc.d).code.length/\x=((f.blocks.getD b Enc.d).code.getD i Enc.d,⟨0,b,i⟩):=by
 simp only[Code,codeTo,pairs,List.range_zero,List.map_nil,List.append_nil,List.mem_flatMap,List.mem_map,List.mem_range] at h
 obtain⟨b,hb,i,hi,rfl⟩:=h
 exact⟨b,i,hb,hi,rfl⟩
theorem Def_mem {f:FnE} {reg:Int} (h:(Def f reg).2=true): ∃b i:Nat,b<f.blocks.length/\i<(f.blocks.getD b Enc.d).code.length/\(Def f reg).1=⟨0,b,i⟩:=by
 unfold Def at h⊢
 cases hq:(Code f).find? (dfP reg) with
 |none=>rw[hq] at h;cases h
 |some p=>
  obtain⟨b,i,hb,hi,rfl⟩:=mem_Code (List.mem_of_find?_eq_some hq)
  exact⟨b,i,hb,hi,rfl⟩
structure FaultE where
 code:Int
 at':Plc
 deriving DecidableEq
instance:Enc FaultE:=⟨fun x=>[.i .i64 x.code,.i .i64 x.at'.f,.i .i64 x.at'.b,.i .i64 x.at'.i],4,⟨0,⟨0,0,0⟩⟩⟩
theorem at_S (c f b i:Int):ASpec Tryz.prog 68 [.i .i64 c,.i .i64 f,.i .i64 b,.i .i64 i] (eS (⟨c,⟨f,b,i⟩⟩:FaultE)) []:=by
 refine ASpec.enter TYok mixed Tryz.func68 rfl Tryz.call68 Tryz.ntmps68 rfl (rs:=[.cell 8 36]) rfl (nodupB_ok rfl) (Clo.one rfl) (keep:=[0,1,2,3,8]) ?_;conv=>whnf
 repeat' first|(refine iG (fun hb hc=>?_) (fun hb hc=>?_)<;>first|exact hc.elim|(exfalso;omega)|conv=>whnf)|(refine gqs ?_;conv=>whnf)|(refine yt ?_;conv=>whnf)|exact⟨_,.keep rfl rfl⟩|fail
theorem any_at {α:Type} {p:α->Bool} {l:List α} {q:Nat} (d:α) (hq:q<l.length) (h:p (l.getD q d)=true):l.any p=true:=by
 rw[List.getD_eq_getElem?_getD,List.getElem?_eq_getElem hq] at h
 exact List.any_eq_true.2 ⟨_,List.getElem_mem hq,h⟩
theorem any_no {α:Type} {p:α->Bool} {l:List α} (d:α) (h: ∀i,i<l.length->p (l.getD i d)=false):l.any p=false:=by
 rw[<-Bool.not_eq_true,List.any_eq_true]
 rintro ⟨x,hx,hp⟩
 obtain⟨i,hi,rfl⟩:=List.getElem_of_mem hx
 have:=h i hi
 rw[List.getD_eq_getElem?_getD,List.getElem?_eq_getElem hi] at this
 rw[show p l[i]=false from this] at hp;cases hp
def badP (most p:Int):Bool:=decide (p<1)||decide (most<p)
def headF (name:ByteArray) (known:List ByteArray) (params:List Int) (ret most:Int):Int:=
 if Word name=false then 4 else if(known.any fun k=>decide (k=name))=true then 5 else if 8<params.length then 6 else if params.any (badP most)=true then 7 else if ret<0\/most<ret then 7 else 0
theorem head_S (name:ByteArray) (known:List ByteArray) (params:List Int) (ret most:Int) (h1:name.size<4294967296) (h2:known.length<4294967296):ASpec Tryz.prog 70 [.s name,eL known,eL params,.i .i64 ret,.i .i64 most] (.i .i64 (headF name known params ret most)) []:=by
 refine ASpec.enter TYok mixed Tryz.func70 rfl Tryz.call70 Tryz.ntmps70 rfl (rs:=[.tmp 10]) rfl (nodupB_ok rfl) (Clo.one rfl) (keep:=[0,1,2,3,4,10,11,12,13]) ?_;conv=>whnf
 repeat' first|(refine iG (fun hb hc=>?_) (fun hb hc=>?_)<;>first|exact hc.elim|(exfalso;omega)|conv=>whnf)|(refine gqs ?_;conv=>whnf)|(refine gqc (x:=fun _=>Word_S _ h1) (k:= ?_);conv=>whnf)|(refine yt ?_;conv=>whnf)|exact⟨_,.keep rfl rfl⟩|fail
 ·exact⟨_,.keep (by(try simp only[pickB_or,pickB_and]);unfold headF;repeat' (first|rfl|omega|split|(simp_all;done))) rfl⟩
 have e1:=hc
 refine lp [12] (fun q:Nat=>[.i .i64 q]) (fun q=>[]) (fun q=>q<=known.length/\ ∀i,i<q->decide (known.getD i Enc.d=name)=false) (fun q=>known.length-q) 0 ⟨by omega,fun i h=>by omega⟩ ?_ fun q hq=>?_
 ·refine eP [] [] ?_ ?_<;>repeat' first|exact eN|refine And.intro ?_ ?_
 conv=>whnf
 obtain⟨hq,hv⟩:=hq
 repeat' first|(refine iG (fun hb hc=>?_) (fun hb hc=>?_)<;>first|exact hc.elim|(exfalso;omega)|conv=>whnf)|(refine gqs ?_;conv=>whnf)|(refine yt ?_;conv=>whnf)|exact⟨_,.keep rfl rfl⟩|fail
 ·have e2:(known.any fun k=>decide (k=name))=true:=any_at Enc.d (by omega) hb
  exact⟨_,.keep (by rw[headF,if_neg (by rw[e1];simp),if_pos e2]) rfl⟩
 ·refine .mk (q+1) ⟨by omega,all_step hv hb⟩ (by omega) ?_
  refine eP [] [] ?_ ?_<;>repeat' first|exact eN|refine And.intro ?_ ?_
 ·have e2:(known.any fun k=>decide (k=name))=false:=any_no Enc.d fun i hi=>hv i (by omega)
  exact⟨_,.keep (by rw[headF,if_neg (by rw[e1];simp),if_neg (by rw[e2];simp),if_pos (by omega)]) rfl⟩
 have e2:(known.any fun k=>decide (k=name))=false:=any_no Enc.d fun i hi=>hv i (by omega)
 have e3: ¬8<params.length:=by omega
 refine lp [13] (fun q:Nat=>[.i .i64 q]) (fun q=>[]) (fun q=>q<=params.length/\ ∀i,i<q->badP most (params.getD i Enc.d)=false) (fun q=>params.length-q) 0 ⟨by omega,fun i h=>by omega⟩ ?_ fun k hk=>?_
 ·refine eP [] [] ?_ ?_<;>repeat' first|exact eN|refine And.intro ?_ ?_
 conv=>whnf
 obtain⟨hk,hw⟩:=hk
 repeat' first|(refine iG (fun hb hc=>?_) (fun hb hc=>?_)<;>first|exact hc.elim|(exfalso;omega)|conv=>whnf)|(refine gqs ?_;conv=>whnf)|(refine yt ?_;conv=>whnf)|exact⟨_,.keep rfl rfl⟩|fail
 ·have e4:params.any (badP most)=true:=any_at Enc.d (by omega) hb
  exact⟨_,.keep (by rw[headF,if_neg (by rw[e1];simp),if_neg (by rw[e2];simp),if_neg e3,if_pos e4]) rfl⟩
 ·refine .mk (k+1) ⟨by omega,all_step hw hb⟩ (by omega) ?_
  refine eP [] [] ?_ ?_<;>repeat' first|exact eN|refine And.intro ?_ ?_
 all_goals have e4:params.any (badP most)=false:=any_no Enc.d fun i hi=>hw i (by omega)
 ·exact⟨_,.keep (by rw[headF,if_neg (by rw[e1];simp),if_neg (by rw[e2];simp),if_neg e3,if_neg (by rw[e4];simp),if_pos (by omega)]) rfl⟩
 ·exact⟨_,.keep (by rw[headF,if_neg (by rw[e1];simp),if_neg (by rw[e2];simp),if_neg e3,if_neg (by rw[e4];simp),if_neg (by omega)]) rfl⟩
def firstC (c:Nat->Int) (n:Nat):Option Nat:=(List.range n).find? fun i=>!decide (c i=0)
theorem range_getD {n i:Nat} (h:i<n):(List.range n).getD i 0=i:=by
 rw[List.getD_eq_getElem?_getD,List.getElem?_range h];rfl
theorem firstC_at {c:Nat->Int} {n q:Nat} (hq:q<n) (hv: ∀i,i<q->c i=0) (h:c q≠0):firstC c n=some q:=by
 unfold firstC
 rw[find_take 0 (q:=q) (by simpa using hq) (fun i hi=>by rw[range_getD (by omega),hv i hi];rfl) (by rw[range_getD hq];simp[h]),range_getD hq]
theorem firstC_no {c:Nat->Int} {n:Nat} (hv: ∀i,i<n->c i=0):firstC c n=none:=by
 unfold firstC
 exact find_no 0 fun i hi=>by rw[List.length_range] at hi;rw[range_getD hi,hv i hi];rfl
def varCode (m:ModE) (i:Nat):Int:=
 let x:=m.vars.getD i Enc.d
 if Word x.name=false then 4 else if((m.vars.take i).any fun y=>decide (y.name=x.name))=true then 5 else if x.size<1\/64<x.size then 6 else 0
def extCode (m:ModE) (i:Nat):Int:=
 let x:=m.exts.getD i Enc.d
 headF x.name ((m.exts.take i).map (·.name)) x.params x.ret 64
def fnCode (m:ModE) (i:Nat):Int:=
 let x:=m.funcs.getD i Enc.d
 headF x.name (m.exts.map (·.name)++(m.funcs.take i).map (·.name)) x.params x.ret 65
def headsF (m:ModE):FaultE:=
 if 8<m.vars.length\/8<m.exts.length\/8<m.funcs.length then⟨6,⟨-1,0,0⟩⟩ else
 match firstC (varCode m) m.vars.length with
 |some i=>⟨varCode m i,⟨-1,0,0⟩⟩
 |none=>match firstC (extCode m) m.exts.length with
  |some i=>⟨extCode m i,⟨-1,0,0⟩⟩
  |none=>match firstC (fnCode m) m.funcs.length with
   |some i=>⟨fnCode m i,⟨i,0,0⟩⟩
   |none=>⟨0,⟨0,0,0⟩⟩
theorem headsF_var {m:ModE} {q:Nat} (k1: ¬(8<m.vars.length\/8<m.exts.length\/8<m.funcs.length)) (hq:q<m.vars.length) (hv: ∀i,i<q->varCode m i=0) (h:varCode m q≠0):headsF m=⟨varCode m q,⟨-1,0,0⟩⟩:=by
 rw[headsF,if_neg k1,firstC_at hq hv h]
theorem headsF_ext {m:ModE} {q:Nat} (k1: ¬(8<m.vars.length\/8<m.exts.length\/8<m.funcs.length)) (k2:firstC (varCode m) m.vars.length=none) (hq:q<m.exts.length) (hv: ∀i,i<q->extCode m i=0) (h:extCode m q≠0):headsF m=⟨extCode m q,⟨-1,0,0⟩⟩:=by
 rw[headsF,if_neg k1,k2,firstC_at hq hv h]
theorem headsF_fn {m:ModE} {q:Nat} (k1: ¬(8<m.vars.length\/8<m.exts.length\/8<m.funcs.length)) (k2:firstC (varCode m) m.vars.length=none) (k3:firstC (extCode m) m.exts.length=none) (hq:q<m.funcs.length) (hv: ∀i,i<q->fnCode m i=0) (h:fnCode m q≠0):headsF m=⟨fnCode m q,⟨q,0,0⟩⟩:=by
 rw[headsF,if_neg k1,k2,k3,firstC_at hq hv h]
theorem take_any {α:Type} {p:α->Bool} {l:List α} {q k:Nat} (d:α) (hk:k<q) (hq:q<=l.length) (h:p (l.getD k d)=true):(l.take q).any p=true:=by
 refine any_at (q:=k) d (by rw[List.length_take];omega) ?_
 rwa [List.getD_eq_getElem?_getD,List.getElem?_take_of_lt hk,<-List.getD_eq_getElem?_getD]
theorem take_no {α:Type} {p:α->Bool} {l:List α} {q:Nat} (d:α) (h: ∀k,k<q->p (l.getD k d)=false):(l.take q).any p=false:=by
 refine any_no d fun i hi=>?_
 rw[List.length_take] at hi
 rw[List.getD_eq_getElem?_getD,List.getElem?_take_of_lt (by omega),<-List.getD_eq_getElem?_getD]
 exact h i (by omega)
theorem heads_S (m:ModE) (hs:siz m<4294967296):ASpec Tryz.prog 34 [eS m] (eS (headsF m)) []:=by
 have h0:siz m=siz m.vars+siz m.exts+siz m.funcs:=rfl
 refine ASpec.enter TYok mixed Tryz.func34 rfl Tryz.call34 Tryz.ntmps34 rfl (rs:=[.cell 2 36]) rfl (nodupB_ok rfl) (Clo.one rfl) (keep:=[0,1,2,3,4,5,6,7,8,9,10,11,12]) ?_;conv=>whnf
 repeat' first|(refine iG (fun hb hc=>?_) (fun hb hc=>?_)<;>first|exact hc.elim|(exfalso;omega)|conv=>whnf)|(refine gqs ?_;conv=>whnf)|(refine gqc (x:=fun _=>at_S _ _ _ _) (k:= ?_);conv=>whnf)|(refine yt ?_;conv=>whnf)|exact⟨_,.keep rfl rfl⟩|fail
 ·exact⟨_,.keep (by rw[headsF,if_pos (by omega)];rfl) rfl⟩
 have k1: ¬(8<m.vars.length\/8<m.exts.length\/8<m.funcs.length):=by omega
 refine lp [3] (fun q:Nat=>[.i .i64 q]) (fun q=>[(1,bx m),(2,bx (Enc.d:FaultE))]) (fun q=>q<=m.vars.length/\ ∀i,i<q->varCode m i=0) (fun q=>m.vars.length-q) 0 ⟨by omega,fun i h=>by omega⟩ ?_ fun q hq=>?_
 ·refine eP [] [] ?_ ?_<;>repeat' first|exact eN|refine And.intro ?_ ?_
 conv=>whnf
 obtain⟨hq,hv⟩:=hq
 have h1:(m.vars.getD q Enc.d).name.size<=siz m.vars:=siz_at m.vars q
 repeat' first|(refine iG (fun hb hc=>?_) (fun hb hc=>?_)<;>first|exact hc.elim|(exfalso;omega)|conv=>whnf)|(refine gqs ?_;conv=>whnf)|(refine gqc (x:=fun _=>Word_S _ (by simp only[Int.toNat_natCast];omega)) (k:= ?_);conv=>whnf)|(refine gqc (x:=fun _=>at_S _ _ _ _) (k:= ?_);conv=>whnf)|(refine yt ?_;conv=>whnf)|exact⟨_,.keep rfl rfl⟩|fail
 ·have e:varCode m q=4:=by simp only[varCode];rw[if_pos hc]
  exact⟨_,.keep (by rw[headsF_var k1 (by omega) hv (by omega),e];rfl) rfl⟩
 ·have e1:=hc
  refine lp [5] (fun k:Nat=>[.i .i64 k]) (fun k=>[(1,bx m),(2,bx (Enc.d:FaultE))]) (fun k=>k<=q/\ ∀i,i<k->decide ((m.vars.getD i Enc.d).name=(m.vars.getD q Enc.d).name)=false) (fun k=>q-k) 0 ⟨by omega,fun i h=>by omega⟩ ?_ fun k hk=>?_
  ·refine eP [] [] ?_ ?_<;>repeat' first|exact eN|refine And.intro ?_ ?_
  conv=>whnf
  obtain⟨hk,hw⟩:=hk
  repeat' first|(refine iG (fun hb hc=>?_) (fun hb hc=>?_)<;>first|exact hc.elim|(exfalso;omega)|conv=>whnf)|(refine gqs ?_;conv=>whnf)|(refine gqc (x:=fun _=>at_S _ _ _ _) (k:= ?_);conv=>whnf)|(refine yt ?_;conv=>whnf)|exact⟨_,.keep rfl rfl⟩|fail
  ·have e:varCode m q=5:=by simp only[varCode];rw[if_neg (by rw[e1];simp),if_pos (take_any Enc.d (by omega) hq hb)]
   exact⟨_,.keep (by rw[headsF_var k1 (by omega) hv (by omega),e];rfl) rfl⟩
  ·refine .mk (k+1) ⟨by omega,all_step hw hb⟩ (by omega) ?_
   refine eP [] [] ?_ ?_<;>repeat' first|exact eN|refine And.intro ?_ ?_
  ·have e:varCode m q=6:=by simp only[varCode];rw[if_neg (by rw[e1];simp),if_neg (by rw[take_no Enc.d fun i hi=>hw i (by omega)];simp),if_pos hc]
   exact⟨_,.keep (by rw[headsF_var k1 (by omega) hv (by omega),e];rfl) rfl⟩
  ·have e:varCode m q=0:=by simp only[varCode];rw[if_neg (by rw[e1];simp),if_neg (by rw[take_no Enc.d fun i hi=>hw i (by omega)];simp),if_neg (by omega)]
   refine .mk (q+1) ⟨by omega,all_step hv e⟩ (by omega) ?_
   refine eP [] [] ?_ ?_<;>repeat' first|exact eN|refine And.intro ?_ ?_
 have k2:firstC (varCode m) m.vars.length=none:=firstC_no fun i hi=>hv i (by omega)
 have f1: ∀q,q<=m.exts.length->((m.exts.take q).map (·.name)).length=q:=fun q h=>by rw[List.length_map,List.length_take];omega
 have h2:=len_siz m.exts
 have h3:=len_siz m.funcs
 refine lp [7,6] (fun q:Nat=>[.i .i64 q,.orow 6 1 0 ((m.exts.take q).map (·.name)).length]) (fun q=>[(6,oL ((m.exts.take q).map (·.name))),(1,bx m),(2,bx (Enc.d:FaultE))]) (fun q=>q<=m.exts.length/\ ∀i,i<q->extCode m i=0) (fun q=>m.exts.length-q) 0 ⟨by omega,fun i h=>by omega⟩ ?_ fun q hq=>?_
 ·refine eP [] [6] ?_ ?_<;>repeat' first|exact eN|refine And.intro ?_ ?_
 conv=>whnf
 obtain⟨hq,hx⟩:=hq
 have h4:siz (m.exts.getD q Enc.d)<=siz m.exts:=siz_at m.exts q
 have h5:siz (m.exts.getD q Enc.d)=(m.exts.getD q Enc.d).name.size+siz (m.exts.getD q Enc.d).params:=rfl
 have h6:=f1 q hq
 repeat' first|(refine iG (fun hb hc=>?_) (fun hb hc=>?_)<;>first|exact hc.elim|(exfalso;omega)|conv=>whnf)|(refine gqs ?_;conv=>whnf)|(refine gqc (x:=fun _=>head_S _ ((m.exts.take q).map (·.name)) _ _ _ (by simp only[Int.toNat_natCast];omega) (by omega)) (k:= ?_);conv=>whnf)|(refine gqc (x:=fun _=>at_S _ _ _ _) (k:= ?_);conv=>whnf)|(refine yt ?_;conv=>whnf)|exact⟨_,.keep rfl rfl⟩|fail
 ·exact⟨_,.keep (by rw[headsF_ext k1 k2 (by omega) hx hc];rfl) rfl⟩
 ·have e:(m.exts.take (q+1)).map (·.name)=(m.exts.take q).map (·.name)++[(m.exts.getD q Enc.d).name]:=by
   rw[List.take_add_one,List.map_append,List.getD_eq_getElem?_getD,List.getElem?_eq_getElem (by omega)];rfl
  refine .mk (q+1) ⟨by omega,all_step hx hc⟩ (by omega) ?_
  refine eP [(6,111)] [] ?_ ?_<;>repeat' first|exact eN|refine And.intro ?_ ?_|exact snoc_len e|exact snoc_get e rfl|rw[e]
 have k3:firstC (extCode m) m.exts.length=none:=firstC_no fun i hi=>hx i (by omega)
 obtain rfl:q=m.exts.length:=by omega
 rw[List.take_length]
 let kn (q:Nat):List ByteArray:=m.exts.map (·.name)++(m.funcs.take q).map (·.name)
 have f2: ∀q,q<=m.funcs.length->(kn q).length=m.exts.length+q:=fun q h=>by
  simp only[kn];rw[List.length_append,List.length_map,List.length_map,List.length_take];omega
 have f3:m.exts.map (·.name)=kn 0:=by simp[kn]
 rw[f3]
 refine lp [10,6] (fun q:Nat=>[.i .i64 q,.orow 6 1 0 (kn q).length]) (fun q=>[(6,oL (kn q)),(1,bx m),(2,bx (Enc.d:FaultE))]) (fun q=>q<=m.funcs.length/\ ∀i,i<q->fnCode m i=0) (fun q=>m.funcs.length-q) 0 ⟨by omega,fun i h=>by omega⟩ ?_ fun q hq=>?_
 ·refine eP [] [] ?_ ?_<;>repeat' first|exact eN|refine And.intro ?_ ?_
 conv=>whnf
 obtain⟨hq,hy⟩:=hq
 have g4:siz (m.funcs.getD q Enc.d)<=siz m.funcs:=siz_at m.funcs q
 have g5:siz (m.funcs.getD q Enc.d)=(m.funcs.getD q Enc.d).name.size+siz (m.funcs.getD q Enc.d).params+siz (m.funcs.getD q Enc.d).blocks:=rfl
 have g6:=f2 q hq
 repeat' first|(refine iG (fun hb hc=>?_) (fun hb hc=>?_)<;>first|exact hc.elim|(exfalso;omega)|conv=>whnf)|(refine gqs ?_;conv=>whnf)|(refine gqc (x:=fun _=>head_S _ (kn q) _ _ _ (by simp only[Int.toNat_natCast];omega) (by omega)) (k:= ?_);conv=>whnf)|(refine gqc (x:=fun _=>at_S _ _ _ _) (k:= ?_);conv=>whnf)|(refine yt ?_;conv=>whnf)|exact⟨_,.keep rfl rfl⟩|fail
 ·exact⟨_,.keep (by rw[headsF_fn k1 k2 k3 (by omega) hy hc];rfl) rfl⟩
 ·have e:kn (q+1)=kn q++[(m.funcs.getD q Enc.d).name]:=by
   simp only[kn];rw[List.take_add_one,List.map_append,List.getD_eq_getElem?_getD,List.getElem?_eq_getElem (by omega),List.append_assoc];rfl
  refine .mk (q+1) ⟨by omega,all_step hy hc⟩ (by omega) ?_
  refine eP [(6,141)] [] ?_ ?_<;>repeat' first|exact eN|refine And.intro ?_ ?_|exact snoc_len e|exact snoc_get e rfl|rw[e]
 ·have k4:firstC (fnCode m) m.funcs.length=none:=firstC_no fun i hi=>hy i (by omega)
  exact⟨_,.keep (by rw[headsF,if_neg k1,k2,k3,k4];rfl) rfl⟩
def codeB (f:FnE) (b:Nat):List InsE:=(f.blocks.getD b Enc.d).code
def lastB (f:FnE) (b:Nat):InsE:=(codeB f b).getD (((codeB f b).length:Int)-1).toNat Enc.d
def earlyC (f:FnE) (b i:Nat):Int:=if Ends ((codeB f b).getD i Enc.d).op=true then 9 else 0
def toC (f:FnE) (b i:Nat):Int:=if(lastB f b).to.getD i Enc.d<1\/(f.blocks.length:Int)<=(lastB f b).to.getD i Enc.d then 8 else 0
def blkF (f:FnE) (n:Int) (b:Nat):FaultE:=
 if(codeB f b).length=0 then⟨9,⟨n,b,0⟩⟩ else if Ends (lastB f b).op=false then⟨9,⟨n,b,0⟩⟩ else
 match firstC (earlyC f b) ((codeB f b).length-1) with
 |some i=>⟨9,⟨n,b,i⟩⟩
 |none=>match firstC (toC f b) (lastB f b).to.length with
  |some i=>⟨8,⟨n,b,((codeB f b).length:Int)-1⟩⟩
  |none=>⟨0,⟨0,0,0⟩⟩
def blocksF (f:FnE) (n:Int):FaultE:=
 if f.blocks.length<1\/64<f.blocks.length\/400<(Code f).length then⟨6,⟨n,0,0⟩⟩ else
 match firstC (fun b=>(blkF f n b).code) f.blocks.length with
 |some b=>blkF f n b
 |none=>⟨0,⟨0,0,0⟩⟩
theorem blocksF_at {f:FnE} {n:Int} {b:Nat} {x:FaultE} (k1: ¬(f.blocks.length<1\/64<f.blocks.length\/400<(Code f).length)) (hb:b<f.blocks.length) (hv: ∀i,i<b->(blkF f n i).code=0) (h:blkF f n b=x) (hx:x.code≠0):blocksF f n=x:=by
 rw[blocksF,if_neg k1,firstC_at (c:=fun b=>(blkF f n b).code) hb hv (by rw[h];exact hx)];exact h
theorem blocks_S (f:FnE) (n:Int) (hs:siz f<4294967296):ASpec Tryz.prog 35 [eS f,.i .i64 n] (eS (blocksF f n)) []:=by
 have h1:((Code f).map Prod.fst).length=(Code f).length:=List.length_map _
 have h2:=Code_siz f
 have h3:=blocks_le f
 refine ASpec.enter TYok mixed Tryz.func35 rfl Tryz.call35 Tryz.ntmps35 rfl (rs:=[.cell 4 36]) rfl (nodupB_ok rfl) (Clo.one rfl) (keep:=[0,1,2,4,5,7,8,9,10,11,12,13]) ?_;conv=>whnf
 repeat' first|(refine iG (fun hb hc=>?_) (fun hb hc=>?_)<;>first|exact hc.elim|(exfalso;omega)|conv=>whnf)|(refine gqs ?_;conv=>whnf)|(refine gqc (x:=fun _=>Code_S 130 131 (by decide) f hs) (k:= ?_);conv=>whnf)|(refine gqc (x:=fun _=>at_S _ _ _ _) (k:= ?_);conv=>whnf)|(refine yt ?_;conv=>whnf)|exact⟨_,.keep rfl rfl⟩|fail
 ·exact⟨_,.keep (by rw[blocksF,if_pos (by omega)];rfl) rfl⟩
 have k1: ¬(f.blocks.length<1\/64<f.blocks.length\/400<(Code f).length):=by omega
 refine lp [7] (fun q:Nat=>[.i .i64 q]) (fun q=>[(2,bx f),(4,bx (Enc.d:FaultE)),(130,oL ((Code f).map Prod.fst)),(131,oL ((Code f).map Prod.snd))]) (fun q=>q<=f.blocks.length/\ ∀i,i<q->(blkF f n i).code=0) (fun q=>f.blocks.length-q) 0 ⟨by omega,fun i h=>by omega⟩ ?_ fun b hq=>?_
 ·refine eP [] [] ?_ ?_<;>repeat' first|exact eN|refine And.intro ?_ ?_
 conv=>whnf
 obtain⟨hq,hv⟩:=hq
 have h4:(codeB f b).length<=siz f:=code_le f b
 have h5:codeB f b=(f.blocks.getD b Enc.d).code:=rfl
 rw[h5] at h4
 repeat' first|(refine iG (fun hb hc=>?_) (fun hb hc=>?_)<;>first|exact hc.elim|(exfalso;omega)|conv=>whnf)|(refine gqs ?_;conv=>whnf)|(refine gqc (x:=fun _=>Ends_S _) (k:= ?_);conv=>whnf)|(refine gqc (x:=fun _=>at_S _ _ _ _) (k:= ?_);conv=>whnf)|(refine yt ?_;conv=>whnf)|exact⟨_,.keep rfl rfl⟩|fail
 ·have e:blkF f n b=⟨9,⟨n,b,0⟩⟩:=by rw[blkF,if_pos (by rw[h5];omega)]
  exact⟨_,.keep (by rw[blocksF_at k1 (by omega) hv e (by simp)];rfl) rfl⟩
 ·have e:blkF f n b=⟨9,⟨n,b,0⟩⟩:=by rw[blkF,if_neg (by rw[h5];omega),if_pos (show Ends (lastB f b).op=false from hc)]
  exact⟨_,.keep (by rw[blocksF_at k1 (by omega) hv e (by simp)];rfl) rfl⟩
 ·have e1: ¬Ends (lastB f b).op=false:=by rw[show Ends (lastB f b).op=true from hc];simp
  have e0: ¬(codeB f b).length=0:=by rw[h5];omega
  have h8:((f.blocks.getD b Enc.d).code.getD (((f.blocks.getD b Enc.d).code.length:Int)-1).toNat Enc.d).to.length<=siz f:=Nat.le_trans (to_le _) (ins_le f b _)
  have h9:(lastB f b).to.length=((f.blocks.getD b Enc.d).code.getD (((f.blocks.getD b Enc.d).code.length:Int)-1).toNat Enc.d).to.length:=rfl
  refine lp [10] (fun q:Nat=>[.i .i64 q]) (fun q=>[(2,bx f),(4,bx (Enc.d:FaultE)),(130,oL ((Code f).map Prod.fst)),(131,oL ((Code f).map Prod.snd))]) (fun k=>k<=(codeB f b).length-1/\ ∀i,i<k->earlyC f b i=0) (fun k=>(codeB f b).length-k) 0 ⟨by omega,fun i h=>by omega⟩ ?_ fun k hk=>?_
  ·refine eP [] [] ?_ ?_<;>repeat' first|exact eN|refine And.intro ?_ ?_
  conv=>whnf
  obtain⟨hk,hw⟩:=hk
  rw[h5] at hk
  repeat' first|(refine iG (fun hb hc=>?_) (fun hb hc=>?_)<;>first|exact hc.elim|(exfalso;omega)|conv=>whnf)|(refine gqs ?_;conv=>whnf)|(refine gqc (x:=fun _=>Ends_S _) (k:= ?_);conv=>whnf)|(refine gqc (x:=fun _=>at_S _ _ _ _) (k:= ?_);conv=>whnf)|(refine yt ?_;conv=>whnf)|exact⟨_,.keep rfl rfl⟩|fail
  ·have e:blkF f n b=⟨9,⟨n,b,k⟩⟩:=by rw[blkF,if_neg e0,if_neg e1,firstC_at (by rw[h5];omega) hw (by unfold earlyC;rw[if_pos (show Ends ((codeB f b).getD k Enc.d).op=true from hc)];decide)]
   exact⟨_,.keep (by rw[blocksF_at k1 (by omega) hv e (by simp)];rfl) rfl⟩
  ·refine .mk (k+1) ⟨by rw[h5];omega,all_step hw (by unfold earlyC;rw[if_neg (fun h=>by rw[show Ends ((codeB f b).getD k Enc.d).op=false from hc] at h;cases h)])⟩ (by rw[h5];omega) ?_
   refine eP [] [] ?_ ?_<;>repeat' first|exact eN|refine And.intro ?_ ?_
  have e2:firstC (earlyC f b) ((codeB f b).length-1)=none:=firstC_no fun i hi=>hw i (by rw[h5] at hi;omega)
  refine lp [13] (fun q:Nat=>[.i .i64 q]) (fun q=>[(2,bx f),(4,bx (Enc.d:FaultE)),(130,oL ((Code f).map Prod.fst)),(131,oL ((Code f).map Prod.snd))]) (fun j=>j<=(lastB f b).to.length/\ ∀i,i<j->toC f b i=0) (fun j=>(lastB f b).to.length-j) 0 ⟨by omega,fun i h=>by omega⟩ ?_ fun j hj=>?_
  ·refine eP [] [] ?_ ?_<;>repeat' first|exact eN|refine And.intro ?_ ?_
  conv=>whnf
  obtain⟨hj,hz⟩:=hj
  repeat' first|(refine iG (fun hb hc=>?_) (fun hb hc=>?_)<;>first|exact hc.elim|(exfalso;omega)|conv=>whnf)|(refine gqs ?_;conv=>whnf)|(refine gqc (x:=fun _=>at_S _ _ _ _) (k:= ?_);conv=>whnf)|(refine yt ?_;conv=>whnf)|exact⟨_,.keep rfl rfl⟩|fail
  ·have e3:toC f b j≠0:=by unfold toC;rw[if_pos (show(lastB f b).to.getD j Enc.d<1\/(f.blocks.length:Int)<=(lastB f b).to.getD j Enc.d from hc)];decide
   have e:blkF f n b=⟨8,⟨n,b,((codeB f b).length:Int)-1⟩⟩:=by rw[blkF,if_neg e0,if_neg e1,e2];simp only;rw[firstC_at (by omega) hz e3]
   exact⟨_,.keep (by rw[blocksF_at k1 (by omega) hv e (by simp)];rfl) rfl⟩
  ·have e3:toC f b j=0:=by unfold toC;rw[if_neg (show¬((lastB f b).to.getD j Enc.d<1\/(f.blocks.length:Int)<=(lastB f b).to.getD j Enc.d) from fun h=>h.elim hc.1 hc.2)]
   refine .mk (j+1) ⟨by omega,all_step hz e3⟩ (by omega) ?_
   refine eP [] [] ?_ ?_<;>repeat' first|exact eN|refine And.intro ?_ ?_
  ·have e:blkF f n b=⟨0,⟨0,0,0⟩⟩:=by rw[blkF,if_neg e0,if_neg e1,e2];simp only;rw[firstC_no fun i hi=>hz i (by omega)]
   refine .mk (b+1) ⟨by omega,all_step hv (by rw[e])⟩ (by omega) ?_
   refine eP [] [] ?_ ?_<;>repeat' first|exact eN|refine And.intro ?_ ?_
 ·have e:firstC (fun b=>(blkF f n b).code) f.blocks.length=none:=firstC_no fun i hi=>hv i (by omega)
  exact⟨_,.keep (by rw[blocksF,if_neg k1,e];rfl) rfl⟩
def TypeR (f:FnE) (reg:Int):Int:=if reg<0 then 0 else if reg<f.params.length then f.params.getD reg.toNat Enc.d else if(Def f reg).2=false then 0 else Result ((f.blocks.getD (Def f reg).1.b.toNat Enc.d).code.getD (Def f reg).1.i.toNat Enc.d)
theorem Type_S (f:FnE) (reg:Int) (hs:siz f<4294967296):ASpec Tryz.prog 105 [eS f,.i .i64 reg] (.i .i64 (TypeR f reg)) []:=by
 have h1:=params_le f
 have h2:(Def f reg).2=true->0<=(Def f reg).1.b/\(Def f reg).1.b<f.blocks.length/\0<=(Def f reg).1.i/\(Def f reg).1.i<(f.blocks.getD (Def f reg).1.b.toNat Enc.d).code.length:=fun h=>by
  obtain⟨b,i,hb,hi,e⟩:=Def_mem h
  rw[e];simp only[Int.toNat_natCast];omega
 refine ASpec.enter TYok mixed Tryz.func105 rfl Tryz.call105 Tryz.ntmps105 rfl (rs:=[.tmp 4]) rfl (nodupB_ok rfl) (Clo.one rfl) (keep:=[0,1,2,4,5,6]) ?_;conv=>whnf
 repeat' first|(refine iG (fun hb hc=>?_) (fun hb hc=>?_)<;>first|exact hc.elim|(exfalso;omega)|conv=>whnf)|(refine gqs ?_;conv=>whnf)|(refine gqc (x:=fun _=>Def_S _ _ hs) (k:= ?_);conv=>whnf)|(refine yt ?_;conv=>whnf)|exact⟨_,.keep rfl rfl⟩|fail
 ·exact⟨_,.keep (by rw[TypeR,if_pos hc]) rfl⟩
 ·exact⟨_,.keep (by rw[TypeR,if_neg (by omega),if_pos hc]) rfl⟩
 ·exact⟨_,.keep (by rw[TypeR,if_neg (by omega),if_neg (by omega),if_pos hc]) rfl⟩
 have h3:=h2 hc
 repeat' first|(refine iG (fun hb hc=>?_) (fun hb hc=>?_)<;>first|exact hc.elim|(exfalso;omega)|conv=>whnf)|(refine gqs ?_;conv=>whnf)|(refine gqc (x:=fun _=>Result_S _) (k:= ?_);conv=>whnf)|(refine yt ?_;conv=>whnf)|exact⟨_,.keep rfl rfl⟩|fail
 exact⟨_,.keep (by rw[TypeR,if_neg (by omega),if_neg (by omega),if_neg (by rw[hc];simp)]) rfl⟩
def conv (op:Int):Bool:=decide (op=20)||decide (op=21)||decide (op=22)
theorem conversion_S (op:Int):ASpec Tryz.prog 102 [.i .i64 op] (.b (conv op)) []:=by
 refine ASpec.enter TYok mixed Tryz.func102 rfl Tryz.call102 Tryz.ntmps102 rfl (rs:=[.tmp 2]) rfl (nodupB_ok rfl) (Clo.one rfl) (keep:=[0,2]) ?_;conv=>whnf
 repeat' first|(refine iG (fun hb hc=>?_) (fun hb hc=>?_)<;>first|exact hc.elim|(exfalso;omega)|conv=>whnf)|(refine gqs ?_;conv=>whnf)|(refine yt ?_;conv=>whnf)|exact⟨_,.keep rfl rfl⟩|fail
def many (f:FnE) (x:InsE):Int×Int:=
 if x.op=23 then(3,0) else if x.op=25 then(x.args.length,x.args.length) else if x.op=30 then(x.args.length,0) else if x.op=26\/x.op=34 then(0,0)
 else if x.op=31 then(0,1) else if x.op=32 then(1,2) else if x.op=20\/x.op=21\/x.op=22\/x.op=24\/x.op=27 then(1,0)
 else if x.op=33 then(if f.ret=0 then(0,0) else(1,0)) else if 1<=x.op/\x.op<=29 then(2,0) else(-1,-1)
theorem many_S (f:FnE) (x:InsE):ASpec Tryz.prog 101 [eS f,eS x] (.tup [.i .i64 (many f x).1,.i .i64 (many f x).2]) []:=by
 refine ASpec.enter TYok mixed Tryz.func101 rfl Tryz.call101 Tryz.ntmps101 rfl (rs:=[.tmp 4,.tmp 5]) rfl (nodupB_ok rfl) (Clo.one rfl) (keep:=[0,1,2,3,4,5,6,11]) ?_;conv=>whnf
 repeat' first|(refine iG (fun hb hc=>?_) (fun hb hc=>?_)<;>first|exact hc.elim|(exfalso;omega)|conv=>whnf)|(refine gqs ?_;conv=>whnf)|(refine yt ?_;conv=>whnf)|exact⟨_,.keep rfl rfl⟩|fail
 all_goals exact⟨_,.keep (by(try simp only[pickB_or,pickB_and]);unfold many;repeat' (first|rfl|omega|split|(simp_all;done))) rfl⟩
def typedF (m:ModE) (f:FnE) (x:InsE):Int:=
 if conv x.op=true then(if(Convert x.op x.n x.t 0).2=false then 7 else 0)
 else if x.op=30 then(if(Callee m x.n).2.2=false then 4 else if(Callee m x.n).2.1≠x.t then 7 else if(Callee m x.n).1.length≠x.args.length then 13 else 0)
 else if x.op=33 then(if x.t≠f.ret then 7 else 0)
 else if x.op=26\/x.op=29\/x.op=31\/x.op=32\/x.op=34 then 0
 else if x.op<=13\/(16<=x.op/\x.op<=19) then(if x.t<1\/64<x.t then 7 else 0)
 else if x.t<1\/65<x.t then 7 else 0
theorem typed_S (m:ModE) (f:FnE) (x:InsE) (hm:siz m<4294967296) (h1: -9223372036854775808<=x.n) (h2:x.n<=9223372036854775807):ASpec Tryz.prog 74 [eS m,eS f,eS x] (.i .i64 (typedF m f x)) []:=by
 refine ASpec.enter TYok mixed Tryz.func74 rfl Tryz.call74 Tryz.ntmps74 rfl (rs:=[.tmp 6]) rfl (nodupB_ok rfl) (Clo.one rfl) (keep:=[0,1,2,3,4,5,6,7,9,10,11,12,13,31]) ?_;conv=>whnf
 repeat' first|(refine iG (fun hb hc=>?_) (fun hb hc=>?_)<;>first|exact hc.elim|(exfalso;omega)|conv=>whnf)|(refine gqs ?_;conv=>whnf)|(refine gqc (x:=fun _=>conversion_S _) (k:= ?_);conv=>whnf)|(refine gqc (x:=fun _=>Convert_S _ _ _ _ (by omega) (by omega)) (k:= ?_);conv=>whnf)|(refine gqc (x:=fun _=>Callee_S _ _ hm h1 h2) (k:= ?_);conv=>whnf)|(refine yt ?_;conv=>whnf)|exact⟨_,.keep rfl rfl⟩|fail
 all_goals exact⟨_,.keep (by(try simp only[pickB_or,pickB_and]);unfold typedF;repeat' (first|rfl|omega|split|(simp_all;done))) rfl⟩
def operandF (m:ModE) (f:FnE) (v:Opd) (want:Int):Int:=
 if v.k=1 then(if v.b≠0 then 15 else if v.n<=4095 then(if TypeR f v.n=0 then 10 else if TypeR f v.n≠want then 7 else 0) else 10)
 else if v.k=2 then(if v.n≠0 then 15 else if want=65\/Mask want<v.b then 7 else 0)
 else if v.k=3\/v.k=4 then(if v.n≠0\/v.b≠0 then 15 else if v.k=4/\want≠65 then 7 else 0)
 else if v.k=5 then(if v.b≠0 then 15 else if v.n<0\/m.vars.length<=v.n then 4 else if want≠65 then 7 else 0)
 else 15
theorem operand_S (m:ModE) (f:FnE) (v:Opd) (want:Int) (hf:siz f<4294967296):ASpec Tryz.prog 76 [eS m,eS f,eS v,.i .i64 want] (.i .i64 (operandF m f v want)) []:=by
 refine ASpec.enter TYok mixed Tryz.func76 rfl Tryz.call76 Tryz.ntmps76 rfl (rs:=[.tmp 8]) rfl (nodupB_ok rfl) (Clo.one rfl) (keep:=[0,1,2,3,4,5,6,8,9,11]) ?_;conv=>whnf
 repeat' first|(refine iG (fun hb hc=>?_) (fun hb hc=>?_)<;>first|exact hc.elim|(exfalso;omega)|conv=>whnf)|(refine gqs ?_;conv=>whnf)|(refine gqc (x:=fun _=>Type_S _ _ hf) (k:= ?_);conv=>whnf)|(refine gqc (x:=fun _=>Mask_S _) (k:= ?_);conv=>whnf)|(refine yt ?_;conv=>whnf)|exact⟨_,.keep rfl rfl⟩|fail
 all_goals exact⟨_,.keep (by(try simp only[pickB_or,pickB_and]);unfold operandF;repeat' (first|rfl|omega|split|(simp_all;done))) rfl⟩
def formedF (f:FnE) (x:InsE) (b:Int):Bool:=
 if(many f x).1≠x.args.length\/(many f x).2≠x.to.length then false
 else if¬(decide (Result x=0)=decide (x.reg= -1)) then false
 else if x.n≠0/\conv x.op=false/\x.op≠26/\x.op≠30 then false
 else if x.op=26 then(decide (b=0)&&decide (x.t=65)&&decide (1<=x.n)&&decide (x.n<=64))
 else if x.op=29 then decide (x.t=65)
 else if x.op=31\/x.op=32\/x.op=34 then decide (x.t=0) else true
theorem formed_S (f:FnE) (x:InsE) (b:Int):ASpec Tryz.prog 72 [eS f,eS x,.i .i64 b] (.b (formedF f x b)) []:=by
 refine ASpec.enter TYok mixed Tryz.func72 rfl Tryz.call72 Tryz.ntmps72 rfl (rs:=[.tmp 6]) rfl (nodupB_ok rfl) (Clo.one rfl) (keep:=[0,1,2,3,4,6,7,8,9,56]) ?_;conv=>whnf
 repeat' first|(refine iG (fun hb hc=>?_) (fun hb hc=>?_)<;>first|exact hc.elim|(exfalso;omega)|conv=>whnf)|(refine gqs ?_;conv=>whnf)|(refine gqc (x:=fun _=>many_S _ _) (k:= ?_);conv=>whnf)|(refine gqc (x:=fun _=>Result_S _) (k:= ?_);conv=>whnf)|(refine gqc (x:=fun _=>conversion_S _) (k:= ?_);conv=>whnf)|(refine yt ?_;conv=>whnf)|exact⟨_,.keep rfl rfl⟩|fail
 all_goals try simp only[pickB_and]
 all_goals exact⟨_,.keep (by(try simp only[pickB_or,pickB_and]);unfold formedF;repeat' (first|rfl|omega|split|(simp_all;done))) rfl⟩
def wantedF (m:ModE) (x:InsE) (k:Int):Int:=
 if conv x.op=true then x.n else if(x.op=23/\k=0)\/x.op=32 then 1
 else if x.op=27\/(x.op=28/\k=1)\/(x.op=29/\k=0) then 65 else if x.op=29 then 64
 else if x.op=30 then(Callee m x.n).1.getD k.toNat Enc.d else x.t
theorem Wanted_S (m:ModE) (x:InsE) (k:Int) (hm:siz m<4294967296) (h1: -9223372036854775808<=x.n) (h2:x.n<=9223372036854775807) (hk:x.op=30->0<=k/\k<(Callee m x.n).1.length):ASpec Tryz.prog 77 [eS m,eS x,.i .i64 k] (.i .i64 (wantedF m x k)) []:=by
 refine ASpec.enter TYok mixed Tryz.func77 rfl Tryz.call77 Tryz.ntmps77 rfl (rs:=[.tmp 6]) rfl (nodupB_ok rfl) (Clo.one rfl) (keep:=[0,1,2,3,4,6,7,8]) ?_;conv=>whnf
 repeat' first|(refine iG (fun hb hc=>?_) (fun hb hc=>?_)<;>first|exact hc.elim|(exfalso;omega)|conv=>whnf)|(refine gqs ?_;conv=>whnf)|(refine gqc (x:=fun _=>conversion_S _) (k:= ?_);conv=>whnf)|(refine gqc (x:=fun _=>Callee_S _ _ hm h1 h2) (k:= ?_);conv=>whnf)|(refine yt ?_;conv=>whnf)|exact⟨_,.keep rfl rfl⟩|fail
 all_goals exact⟨_,.keep (by(try simp only[pickB_or,pickB_and]);unfold wantedF;repeat' (first|rfl|omega|split|(simp_all;done))) rfl⟩
def C1 (f:FnE):List InsE:=(Code f).map Prod.fst
def C2 (f:FnE):List Plc:=(Code f).map Prod.snd
theorem C1_len (f:FnE):(C1 f).length=(Code f).length:=List.length_map _
theorem C2_len (f:FnE):(C2 f).length=(Code f).length:=List.length_map _
theorem Code_C (d d':Nat) (hd:d≠d') (f:FnE) (hs:siz f<4294967296):ASpec Tryz.prog 42 [eS f] (.tup [.orow d 7 0 (C1 f).length,.orow d' 3 0 (C2 f).length]) [(d,oL (C1 f)),(d',oL (C2 f))]:=Code_S d d' hd f hs
def regF (f:FnE) (n:Int) (i:Nat):FaultE:=
 if Result ((C1 f).getD i Enc.d)=0 then⟨0,⟨0,0,0⟩⟩
 else if((C1 f).getD i Enc.d).reg<f.params.length\/4095<((C1 f).getD i Enc.d).reg then⟨10,⟨n,((C2 f).getD i Enc.d).b,((C2 f).getD i Enc.d).i⟩⟩
 else if(Def f ((C1 f).getD i Enc.d).reg).1≠(C2 f).getD i Enc.d then⟨5,⟨n,((C2 f).getD i Enc.d).b,((C2 f).getD i Enc.d).i⟩⟩ else⟨0,⟨0,0,0⟩⟩
def firstF (c:Nat->FaultE) (n:Nat):FaultE:=match firstC (fun i=>(c i).code) n with
 |some i=>c i
 |none=>⟨0,⟨0,0,0⟩⟩
theorem firstF_at {c:Nat->FaultE} {n q:Nat} {x:FaultE} (hq:q<n) (hv: ∀i,i<q->(c i).code=0) (h:c q=x) (hx:x.code≠0):firstF c n=x:=by
 rw[firstF,firstC_at (c:=fun i=>(c i).code) hq hv (by rw[h];exact hx)];exact h
theorem firstF_no {c:Nat->FaultE} {n:Nat} (hv: ∀i,i<n->(c i).code=0):firstF c n=⟨0,⟨0,0,0⟩⟩:=by
 rw[firstF,firstC_no hv]
theorem place_ne {p q:Plc} (h:(!(decide (p.f=q.f)&&(decide (p.b=q.b)&&decide (p.i=q.i))))=true):p≠q:=fun e=>by subst e;simp at h
theorem place_eq {p q:Plc} (h:(!(decide (p.f=q.f)&&(decide (p.b=q.b)&&decide (p.i=q.i))))=false):p=q:=by
 simp only[Bool.not_eq_false',Bool.and_eq_true,decide_eq_true_eq] at h
 cases p;cases q;simp_all
def registersF (f:FnE) (n:Int):FaultE:=firstF (regF f n) (Code f).length
theorem registers_S (f:FnE) (n:Int) (hs:siz f<4294967296):ASpec Tryz.prog 37 [eS f,.i .i64 n] (eS (registersF f n)) []:=by
 have h1:=Code_siz f
 have h2:=C1_len f
 have h3:=C2_len f
 refine ASpec.enter TYok mixed Tryz.func37 rfl Tryz.call37 Tryz.ntmps37 rfl (rs:=[.cell 4 36]) rfl (nodupB_ok rfl) (Clo.one rfl) (keep:=[0,1,2,4,5,6,7,8]) ?_;conv=>whnf
 repeat' first|(refine iG (fun hb hc=>?_) (fun hb hc=>?_)<;>first|exact hc.elim|(exfalso;omega)|conv=>whnf)|(refine gqs ?_;conv=>whnf)|(refine gqc (x:=fun _=>Code_C 140 141 (by decide) f hs) (k:= ?_);conv=>whnf)|(refine yt ?_;conv=>whnf)|exact⟨_,.keep rfl rfl⟩|fail
 have k1:=params_le f
 refine lp [7] (fun q:Nat=>[.i .i64 q]) (fun q=>[(2,bx f),(4,bx (Enc.d:FaultE)),(140,oL (C1 f)),(141,oL (C2 f))]) (fun q=>q<=(Code f).length/\ ∀i,i<q->(regF f n i).code=0) (fun q=>(Code f).length-q) 0 ⟨by omega,fun i h=>by omega⟩ ?_ fun q hq=>?_
 ·refine eP [] [] ?_ ?_<;>repeat' first|exact eN|refine And.intro ?_ ?_
 conv=>whnf
 obtain⟨hq,hv⟩:=hq
 repeat' first|(refine iG (fun hb hc=>?_) (fun hb hc=>?_)<;>first|exact hc.elim|(exfalso;omega)|conv=>whnf)|(refine gqs ?_;conv=>whnf)|(refine gqc (x:=fun _=>Result_S _) (k:= ?_);conv=>whnf)|(refine gqc (x:=fun _=>at_S _ _ _ _) (k:= ?_);conv=>whnf)|(refine gqc (x:=fun _=>Def_S _ _ hs) (k:= ?_);conv=>whnf)|(refine yt ?_;conv=>whnf)|exact⟨_,.keep rfl rfl⟩|fail
 ·have e:regF f n q=⟨0,⟨0,0,0⟩⟩:=by rw[regF,if_pos (show Result ((C1 f).getD q Enc.d)=0 from hc)]
  refine .mk (q+1) ⟨by omega,all_step hv (by rw[e])⟩ (by omega) ?_
  refine eP [] [] ?_ ?_<;>repeat' first|exact eN|refine And.intro ?_ ?_
 ·have e:regF f n q=⟨10,⟨n,((C2 f).getD q Enc.d).b,((C2 f).getD q Enc.d).i⟩⟩:=by rw[regF,if_neg (show¬Result ((C1 f).getD q Enc.d)=0 from by assumption),if_pos (show((C1 f).getD q Enc.d).reg<f.params.length\/4095<((C1 f).getD q Enc.d).reg from hc)]
  exact⟨_,.keep (by rw[registersF,firstF_at (by omega) hv e (by simp)];rfl) rfl⟩
 ·have e:regF f n q=⟨5,⟨n,((C2 f).getD q Enc.d).b,((C2 f).getD q Enc.d).i⟩⟩:=by rw[regF,if_neg (show¬Result ((C1 f).getD q Enc.d)=0 from by assumption),if_neg (show¬(((C1 f).getD q Enc.d).reg<f.params.length\/4095<((C1 f).getD q Enc.d).reg) from fun h=>by rename_i hz;exact h.elim hz.1 hz.2),if_pos (show(Def f ((C1 f).getD q Enc.d).reg).1≠(C2 f).getD q Enc.d from place_ne hb)]
  exact⟨_,.keep (by rw[registersF,firstF_at (by omega) hv e (by simp)];rfl) rfl⟩
 ·have e:regF f n q=⟨0,⟨0,0,0⟩⟩:=by rw[regF,if_neg (show¬Result ((C1 f).getD q Enc.d)=0 from by assumption),if_neg (show¬(((C1 f).getD q Enc.d).reg<f.params.length\/4095<((C1 f).getD q Enc.d).reg) from fun h=>by rename_i hz;exact h.elim hz.1 hz.2),if_neg (fun h=>h (place_eq hb))]
  refine .mk (q+1) ⟨by omega,all_step hv (by rw[e])⟩ (by omega) ?_
  refine eP [] [] ?_ ?_<;>repeat' first|exact eN|refine And.intro ?_ ?_
 ·exact⟨_,.keep (by rw[registersF,firstF_no fun i hi=>hv i (by omega)];rfl) rfl⟩
abbrev at2 (f:FnE) (n c:Int) (i:Nat):FaultE:=⟨c,⟨n,((C2 f).getD i Enc.d).b,((C2 f).getD i Enc.d).i⟩⟩
def formC (m:ModE) (f:FnE) (n:Int) (i:Nat):FaultE:=
 if formedF f ((C1 f).getD i Enc.d) ((C2 f).getD i Enc.d).b=false then at2 f n 15 i
 else if bits .andNot .i64 ((C1 f).getD i Enc.d).f (Flags ((C1 f).getD i Enc.d).op)≠0 then at2 f n 14 i
 else at2 f n (typedF m f ((C1 f).getD i Enc.d)) i
def formsF (m:ModE) (f:FnE) (n:Int):FaultE:=firstF (formC m f n) (Code f).length
theorem bf {b:Bool} (h:b=true): ¬b=false:=by rw[h];simp
theorem forms_S (m:ModE) (f:FnE) (n:Int) (hm:siz m<4294967296) (hs:siz f<4294967296) (hr: ∀i,inI ((C1 f).getD i Enc.d).n):ASpec Tryz.prog 36 [eS m,eS f,.i .i64 n] (eS (formsF m f n)) []:=by
 have h1:=Code_siz f
 have h2:=C1_len f
 have h3:=C2_len f
 refine ASpec.enter TYok mixed Tryz.func36 rfl Tryz.call36 Tryz.ntmps36 rfl (rs:=[.cell 6 36]) rfl (nodupB_ok rfl) (Clo.one rfl) (keep:=[0,1,2,3,4,6,7,8,9,10,11]) ?_;conv=>whnf
 repeat' first|(refine iG (fun hb hc=>?_) (fun hb hc=>?_)<;>first|exact hc.elim|(exfalso;omega)|conv=>whnf)|(refine gqs ?_;conv=>whnf)|(refine gqc (x:=fun _=>Code_C 140 141 (by decide) f hs) (k:= ?_);conv=>whnf)|(refine yt ?_;conv=>whnf)|exact⟨_,.keep rfl rfl⟩|fail
 refine lp [9] (fun q:Nat=>[.i .i64 q]) (fun q=>[(3,bx m),(4,bx f),(6,bx (Enc.d:FaultE)),(140,oL (C1 f)),(141,oL (C2 f))]) (fun q=>q<=(Code f).length/\ ∀i,i<q->(formC m f n i).code=0) (fun q=>(Code f).length-q) 0 ⟨by omega,fun i h=>by omega⟩ ?_ fun q hq=>?_
 ·refine eP [] [] ?_ ?_<;>repeat' first|exact eN|refine And.intro ?_ ?_
 conv=>whnf
 obtain⟨hq,hv⟩:=hq
 repeat' first|(refine iG (fun hb hc=>?_) (fun hb hc=>?_)<;>first|exact hc.elim|(exfalso;omega)|conv=>whnf)|(refine gqs ?_;conv=>whnf)|(refine gqc (x:=fun _=>formed_S _ _ _) (k:= ?_);conv=>whnf)|(refine gqc (x:=fun _=>at_S _ _ _ _) (k:= ?_);conv=>whnf)|(refine gqc (x:=fun _=>Flags_S _) (k:= ?_);conv=>whnf)|(refine gqc (x:=fun _=>typed_S _ _ _ hm (hr _).1 (hr _).2) (k:= ?_);conv=>whnf)|(refine yt ?_;conv=>whnf)|exact⟨_,.keep rfl rfl⟩|fail
 ·have e:formC m f n q=at2 f n 15 q:=by rw[formC,if_pos hc]
  exact⟨_,.keep (by rw[formsF,firstF_at (by omega) hv e (by simp)];rfl) rfl⟩
 ·have e:formC m f n q=at2 f n 14 q:=by rw[formC,if_neg (bf (by assumption)),if_pos hc]
  exact⟨_,.keep (by rw[formsF,firstF_at (by omega) hv e (by simp)];rfl) rfl⟩
 ·have e:formC m f n q=at2 f n (typedF m f ((C1 f).getD q Enc.d)) q:=by rw[formC,if_neg (bf (by assumption)),if_neg (fun h=>h (by assumption))]
  exact⟨_,.keep (by rw[formsF,firstF_at (by omega) hv e hc];rfl) rfl⟩
 ·have e:formC m f n q=at2 f n (typedF m f ((C1 f).getD q Enc.d)) q:=by rw[formC,if_neg (bf (by assumption)),if_neg (fun h=>h (by assumption))]
  refine .mk (q+1) ⟨by omega,all_step hv (by rw[e];exact hc)⟩ (by omega) ?_
  refine eP [] [] ?_ ?_<;>repeat' first|exact eN|refine And.intro ?_ ?_
 ·exact⟨_,.keep (by rw[formsF,firstF_no fun i hi=>hv i (by omega)];rfl) rfl⟩
theorem Code_mem {f:FnE} {p:InsE×Plc} (h:p∈Code f): ∃b k:Nat,b<f.blocks.length/\k<(f.blocks.getD b Enc.d).code.length/\p=((f.blocks.getD b Enc.d).code.getD k Enc.d,⟨0,b,k⟩):=by
 unfold Code codeTo at h
 rw[List.mem_append] at h
 rcases h with h|h
 ·obtain⟨b,hb,h⟩:=List.mem_flatMap.1 h
  unfold pairs at h
  obtain⟨k,hk,rfl⟩:=List.mem_map.1 h
  exact⟨b,k,List.mem_range.1 hb,List.mem_range.1 hk,rfl⟩
 ·unfold pairs at h
  simp at h
theorem Code_get {f:FnE} {q:Nat} (hq:q<(Code f).length): ∃b k:Nat,b<f.blocks.length/\k<(f.blocks.getD b Enc.d).code.length/\(C1 f).getD q Enc.d=(f.blocks.getD b Enc.d).code.getD k Enc.d/\(C2 f).getD q Enc.d=⟨0,b,k⟩:=by
 obtain⟨b,k,h1,h2,h3⟩:=Code_mem (List.getElem_mem hq)
 have e:(Code f).getD q noP=(Code f)[q]:=by rw[List.getD_eq_getElem?_getD,List.getElem?_eq_getElem hq];rfl
 refine⟨b,k,h1,h2,?_,?_⟩
 ·rw[C1,getD_map Prod.fst (Code f) q noP Enc.d rfl,e,h3]
 ·rw[C2,getD_map Prod.snd (Code f) q noP Enc.d rfl,e,h3]
theorem C1_args {f:FnE} {q:Nat} (hq:q<(Code f).length):((C1 f).getD q Enc.d).args.length<=siz f:=by
 obtain⟨b,k,_,_,h,_⟩:=Code_get hq
 rw[h];exact Nat.le_trans (args_le _) (ins_le f b k)
theorem C1_to {f:FnE} {q:Nat} (hq:q<(Code f).length):((C1 f).getD q Enc.d).to.length<=siz f:=by
 obtain⟨b,k,_,_,h,_⟩:=Code_get hq
 rw[h];exact Nat.le_trans (to_le _) (ins_le f b k)
def oprC (m:ModE) (f:FnE) (x:InsE) (k:Nat):Int:=operandF m f (x.args.getD k Enc.d) (wantedF m x k)
def opsC (m:ModE) (f:FnE) (n:Int) (i:Nat):FaultE:=match firstC (oprC m f ((C1 f).getD i Enc.d)) ((C1 f).getD i Enc.d).args.length with
 |some k=>at2 f n (oprC m f ((C1 f).getD i Enc.d) k) i
 |none=>⟨0,⟨0,0,0⟩⟩
def operandsF (m:ModE) (f:FnE) (n:Int):FaultE:=firstF (opsC m f n) (Code f).length
theorem operands_S (m:ModE) (f:FnE) (n:Int) (hm:siz m<4294967296) (hs:siz f<4294967296) (hr: ∀i,inI ((C1 f).getD i Enc.d).n)
  (hcal: ∀i,i<(Code f).length->((C1 f).getD i Enc.d).op=30->((C1 f).getD i Enc.d).args.length=(Callee m ((C1 f).getD i Enc.d).n).1.length):ASpec Tryz.prog 38 [eS m,eS f,.i .i64 n] (eS (operandsF m f n)) []:=by
 have h1:=Code_siz f
 have h2:=C1_len f
 have h3:=C2_len f
 refine ASpec.enter TYok mixed Tryz.func38 rfl Tryz.call38 Tryz.ntmps38 rfl (rs:=[.cell 6 36]) rfl (nodupB_ok rfl) (Clo.one rfl) (keep:=[0,1,2,3,4,6,7,8,9,10,11]) ?_;conv=>whnf
 repeat' first|(refine iG (fun hb hc=>?_) (fun hb hc=>?_)<;>first|exact hc.elim|(exfalso;omega)|conv=>whnf)|(refine gqs ?_;conv=>whnf)|(refine gqc (x:=fun _=>Code_C 140 141 (by decide) f hs) (k:= ?_);conv=>whnf)|(refine yt ?_;conv=>whnf)|exact⟨_,.keep rfl rfl⟩|fail
 refine lp [9] (fun q:Nat=>[.i .i64 q]) (fun q=>[(3,bx m),(4,bx f),(6,bx (Enc.d:FaultE)),(140,oL (C1 f)),(141,oL (C2 f))]) (fun q=>q<=(Code f).length/\ ∀i,i<q->(opsC m f n i).code=0) (fun q=>(Code f).length-q) 0 ⟨by omega,fun i h=>by omega⟩ ?_ fun q hq=>?_
 ·refine eP [] [] ?_ ?_<;>repeat' first|exact eN|refine And.intro ?_ ?_
 conv=>whnf
 obtain⟨hq,hv⟩:=hq
 repeat' first|(refine iG (fun hb hc=>?_) (fun hb hc=>?_)<;>first|exact hc.elim|(exfalso;omega)|conv=>whnf)|(refine gqs ?_;conv=>whnf)|(refine yt ?_;conv=>whnf)|exact⟨_,.keep rfl rfl⟩|fail
 ·have hcq:=hcal q (by omega)
  have h4:=C1_args (f:=f) (q:=q) (by omega)
  refine lp [10] (fun k:Nat=>[.i .i64 k]) (fun q=>[(3,bx m),(4,bx f),(6,bx (Enc.d:FaultE)),(140,oL (C1 f)),(141,oL (C2 f))]) (fun k=>k<=((C1 f).getD q Enc.d).args.length/\ ∀i,i<k->oprC m f ((C1 f).getD q Enc.d) i=0) (fun k=>((C1 f).getD q Enc.d).args.length-k) 0 ⟨by omega,fun i h=>by omega⟩ ?_ fun k hk=>?_
  ·refine eP [] [] ?_ ?_<;>repeat' first|exact eN|refine And.intro ?_ ?_
  conv=>whnf
  obtain⟨hk,hw⟩:=hk
  repeat' first|(refine iG (fun hb hc=>?_) (fun hb hc=>?_)<;>first|exact hc.elim|(exfalso;omega)|conv=>whnf)|(refine gqs ?_;conv=>whnf)|(refine yt ?_;conv=>whnf)|exact⟨_,.keep rfl rfl⟩|fail
  ·have hcq2:((C1 f).getD q Enc.d).op=30->0<=(k:Int)/\(k:Int)<(Callee m ((C1 f).getD q Enc.d).n).1.length:=fun h=>by have:=hcq h;have:(k:Int)<((C1 f).getD q Enc.d).args.length:=hc;omega
   repeat' first|(refine iG (fun hb hc=>?_) (fun hb hc=>?_)<;>first|exact hc.elim|(exfalso;omega)|conv=>whnf)|(refine gqs ?_;conv=>whnf)|(refine gqc (x:=fun _=>Wanted_S _ _ _ hm (hr _).1 (hr _).2 hcq2) (k:= ?_);conv=>whnf)|(refine gqc (x:=fun _=>operand_S _ _ _ _ hs) (k:= ?_);conv=>whnf)|(refine gqc (x:=fun _=>at_S _ _ _ _) (k:= ?_);conv=>whnf)|(refine yt ?_;conv=>whnf)|exact⟨_,.keep rfl rfl⟩|fail
   ·have e:opsC m f n q=at2 f n (oprC m f ((C1 f).getD q Enc.d) k) q:=by rw[opsC,firstC_at (c:=oprC m f ((C1 f).getD q Enc.d)) (by omega) hw hc]
    exact⟨_,.keep (by rw[operandsF,firstF_at (by omega) hv e hc];rfl) rfl⟩
   ·refine .mk (k+1) ⟨by omega,all_step hw hc⟩ (by omega) ?_
    refine eP [] [] ?_ ?_<;>repeat' first|exact eN|refine And.intro ?_ ?_
  ·have e:opsC m f n q=⟨0,⟨0,0,0⟩⟩:=by rw[opsC,firstC_no fun i hi=>hw i (by omega)]
   refine .mk (q+1) ⟨by omega,all_step hv (by rw[e])⟩ (by omega) ?_
   refine eP [] [] ?_ ?_<;>repeat' first|exact eN|refine And.intro ?_ ?_
 ·exact⟨_,.keep (by rw[operandsF,firstF_no fun i hi=>hv i (by omega)];rfl) rfl⟩
theorem has_S (l:List Int) (x:Int) (hl:l.length<9223372036854775807):ASpec Tryz.prog 131 [eL l,.i .i64 x] (.b (l.contains x)) []:=by
 refine ASpec.enter TYok mixed Tryz.func131 rfl Tryz.call131 Tryz.ntmps131 rfl (rs:=[.tmp 4]) rfl (nodupB_ok rfl) (Clo.one rfl) (keep:=[0,1,4,5]) ?_;conv=>whnf
 refine lp [5] (fun q:Nat=>[.i .i64 q]) (fun q=>[]) (fun q=>q<=l.length/\l.contains x=(l.drop q).contains x) (fun q=>l.length-q) 0 ⟨by omega,rfl⟩ ?_ fun q hq=>?_
 ·exact Ent.lp [] [] rfl rfl rfl (And.intro rfl trivial) trivial
 conv=>whnf
 obtain⟨hq,hv⟩:=hq
 repeat' first|(refine iG (fun hb hc=>?_) (fun hb hc=>?_)<;>first|exact hc.elim|(exfalso;omega)|conv=>whnf)|(refine gqs ?_;conv=>whnf)|(refine yt ?_;conv=>whnf)|exact⟨_,.keep rfl rfl⟩|fail
 ·exact⟨_,.keep (congrArg AV.b (by rw[hv,contains_drop x (by omega)];simp at hc;simp[hc])) rfl⟩
 ·refine .mk (q+1) ⟨by omega,?_⟩ (by omega) (Ent.lp [] [] rfl rfl rfl (And.intro rfl trivial) trivial)
  rw[hv,contains_drop x (by omega)];simp at hc;simp[hc]
 ·exact⟨_,.keep (congrArg AV.b (by rw[hv,List.drop_eq_nil_of_le (by omega)];rfl)) rfl⟩
def sucStep (n:Int) (l:List Int) (t:Int):List Int:=bif decide (0<=t)&&decide (t<n)&& !l.contains t then l++[t] else l
def Succs (f:FnE) (b:Int):List Int:=
 if b<0\/(f.blocks.length:Int)<=b then[] else
 let c:=(f.blocks.getD b.toNat Enc.d).code
 if c.length=0 then[] else
 let x:=c.getD ((c.length:Int)-1).toNat Enc.d
 if x.op≠31/\x.op≠32 then[] else x.to.foldl (sucStep f.blocks.length) []
theorem sucStep_len (n:Int): ∀(l a:List Int),(l.foldl (sucStep n) a).length<=a.length+l.length
 |[],a=>Nat.le_refl _
 |t::l,a=>by
  have h:=sucStep_len n l (sucStep n a t)
  have:(sucStep n a t).length<=a.length+1:=by
   unfold sucStep;cases decide (0<=t)&&decide (t<n)&& !a.contains t
   ·exact Nat.le_succ _
   ·rw[cond_true,List.length_append];exact Nat.le_refl _
  rw[List.foldl_cons,List.length_cons];omega
theorem Succs_S (d:Nat) (f:FnE) (b:Int) (hs:siz f<4294967296):ASpec Tryz.prog 107 [eS f,.i .i64 b] (.orow d 1 0 (Succs f b).length) [(d,oL (Succs f b))]:=by
 have h1:=blocks_le f
 have h2:=code_le f b.toNat
 refine ASpec.enter TYok mixed Tryz.func107 rfl Tryz.call107 Tryz.ntmps107 rfl (rs:=[.tmp 4]) rfl (nd1 _) (Clo.row) (keep:=[0,1,2,4,5,6,7,8,9]) ?_;conv=>whnf
 repeat' first|(refine iG (fun hb hc=>?_) (fun hb hc=>?_)<;>first|exact hc.elim|(exfalso;omega)|conv=>whnf)|(refine gqs ?_;conv=>whnf)|(refine yt ?_;conv=>whnf)|exact⟨_,.keep rfl rfl⟩|fail
 ·exact⟨_,.nil (by simp[Succs,hc])⟩
 ·exact⟨_,.nil (by rw[Succs,if_neg (by omega),if_pos (by omega)];rfl)⟩
 ·exact⟨_,.nil (by rw[Succs,if_neg (by omega),if_neg (by omega),if_pos (by omega)];rfl)⟩
 generalize hx:(f.blocks.getD b.toNat Enc.d).code.getD (((f.blocks.getD b.toNat Enc.d).code.length:Int)-1).toNat Enc.d=x at*
 have h3:siz x<=siz f:=hx▸ins_le f _ _
 have h4:=to_le x
 let acc (q:Nat):=(x.to.take q).foldl (sucStep f.blocks.length) []
 have h5: ∀q,q<=x.to.length->(acc q).length<=q:=fun q hq=>by have:=sucStep_len f.blocks.length (x.to.take q) [];rw[List.length_take,Nat.min_eq_left hq] at this;simpa using this
 refine lp [8,5] (fun q:Nat=>[.i .i64 q,.orow 5 1 0 (acc q).length]) (fun q=>[(5,oL (acc q)),(2,bx f),(7,bx x)]) (fun q=>q<=x.to.length) (fun q=>x.to.length-q) 0 (by omega) ?_ fun q hq=>?_
 ·refine eP [] [5] ?_ ?_<;>repeat' first|exact eN|refine And.intro ?_ ?_
 conv=>whnf
 have h6:=h5 q hq
 repeat' first|(refine iG (fun hb hc=>?_) (fun hb hc=>?_)<;>first|exact hc.elim|(exfalso;omega)|conv=>whnf)|(refine gqs ?_;conv=>whnf)|(refine yt ?_;conv=>whnf)|exact⟨_,.keep rfl rfl⟩|fail
 ·(try(first|refine yt ?_|refine CallW.lent ?_);(conv=>whnf));(repeat(refine yb ?_;(conv=>whnf)));(first|refine cK (fun _=>has_S (acc q) _ (by omega)) ?_|refine cL (fun _=>has_S (acc q) _ (by omega)) ?_);conv=>whnf
  repeat' first|(refine iG (fun hb hc=>?_) (fun hb hc=>?_)<;>first|exact hc.elim|(exfalso;omega)|conv=>whnf)|(refine gqs ?_;conv=>whnf)|(refine yt ?_;conv=>whnf)|exact⟨_,.keep rfl rfl⟩|fail
  ·have e:acc (q+1)=acc q++[x.to.getD q Enc.d]:=(foldl_take (d:=Enc.d) (by omega)).trans (congrArg (fun c=>bif c then _ else _) hb)
   refine .mk (q+1) (by omega) (by omega) ?_
   refine eP [(5,87)] [] ?_ ?_<;>repeat' first|exact eN|refine And.intro ?_ ?_|exact snoc_len e|exact snoc_get e rfl|rw[e]
  ·have e:acc (q+1)=acc q:=(foldl_take (d:=Enc.d) (by omega)).trans (congrArg (fun c=>bif c then _ else _) hb)
   refine .mk (q+1) (by omega) (by omega) ?_
   rw[<-e]
   refine eP [] [] ?_ ?_<;>repeat' first|exact eN|refine And.intro ?_ ?_
 ·have e:acc q=Succs f b:=by rw[Succs,if_neg (by omega),if_neg (by omega),hx,if_neg (by omega)];simp only[acc];rw[List.take_of_length_le (by omega)]
  exact⟨_,.give rfl rfl (by rw[e]) (by rw[e];exact fun _ _=>rfl) rfl⟩
theorem sucStep_mem {n:Int}: ∀ {l a:List Int},(∀x∈a,0<=x/\x<n)-> ∀x∈l.foldl (sucStep n) a,0<=x/\x<n
 |[],a,h,x,hx=>h x hx
 |t::l,a,h,x,hx=>by
  rw[List.foldl_cons] at hx
  refine sucStep_mem (l:=l) (fun y hy=>?_) x hx
  unfold sucStep at hy
  by_cases hc:(decide (0<=t)&&decide (t<n)&& !a.contains t)=true
  ·rw[hc,cond_true,List.mem_append] at hy
   rcases hy with hy|hy
   ·exact h y hy
   ·rw[List.mem_singleton] at hy;subst hy
    simp only[Bool.and_eq_true,decide_eq_true_eq] at hc
    exact⟨hc.1.1,hc.1.2⟩
  ·rw[Bool.not_eq_true] at hc
   rw[hc,cond_false] at hy;exact h y hy
theorem sucStep_nd {n:Int}: ∀ {l a:List Int},a.Nodup->(l.foldl (sucStep n) a).Nodup
 |[],a,h=>h
 |t::l,a,h=>by
  rw[List.foldl_cons]
  refine sucStep_nd (l:=l) ?_
  unfold sucStep
  by_cases hc:(decide (0<=t)&&decide (t<n)&& !a.contains t)=true
  ·rw[hc,cond_true]
   simp only[Bool.and_eq_true,Bool.not_eq_true',List.contains_eq_mem,decide_eq_false_iff_not] at hc
   exact List.nodup_append.2 ⟨h,by simp,fun x hx y hy e=>by rw[List.mem_singleton] at hy;subst hy;subst e;exact hc.2 hx⟩
  ·rw[Bool.not_eq_true] at hc
   rw[hc,cond_false];exact h
theorem Succs_mem {f:FnE} {b x:Int} (h:x∈Succs f b):0<=x/\x<f.blocks.length:=by
 unfold Succs at h
 dsimp only at h
 split at h
 ·cases h
 ·split at h
  ·cases h
  ·split at h
   ·cases h
   ·exact sucStep_mem (fun y hy=>by cases hy) x h
theorem Succs_nd (f:FnE) (b:Int):(Succs f b).Nodup:=by
 unfold Succs
 dsimp only
 split
 ·exact List.nodup_nil
 ·split
  ·exact List.nodup_nil
  ·split
   ·exact List.nodup_nil
   ·exact sucStep_nd List.nodup_nil
def cnt (f:FnE) (t:Int) (k:Nat):List Int:=(List.range k).flatMap fun c:Nat=>List.replicate ((Succs f (c:Int)).count t) (c:Int)
def prow (f:FnE) (b i:Nat) (t:Int):List Int:=cnt f t b++List.replicate (((Succs f b).take i).count t) (b:Int)
theorem cnt_len (f:FnE) (t:Int): ∀k,(cnt f t k).length<=k
 |0=>Nat.le_refl _
 |k+1=>by
  have h:=cnt_len f t k
  have h2:(Succs f k).count t<=1:=List.nodup_iff_count.1 (Succs_nd f k) t
  unfold cnt at h⊢
  rw[List.range_succ,List.flatMap_append,List.length_append]
  simp only[List.flatMap_cons,List.flatMap_nil,List.append_nil,List.length_replicate]
  omega
theorem prow_len (f:FnE) (b i:Nat) (t:Int):(prow f b i t).length<=b+1:=by
 have h:=cnt_len f t b
 have h2:(Succs f b).count t<=1:=List.nodup_iff_count.1 (Succs_nd f b) t
 have h3:((Succs f b).take i).count t<=(Succs f b).count t:=(List.take_sublist i _).count_le t
 unfold prow
 rw[List.length_append,List.length_replicate]
 omega
theorem prow_zero (f:FnE) (b:Nat) (t:Int):prow f b 0 t=cnt f t b:=by
 unfold prow;simp
theorem prow_all (f:FnE) (b i:Nat) (t:Int) (h:(Succs f b).length<=i):prow f b i t=cnt f t (b+1):=by
 unfold prow cnt
 rw[List.take_of_length_le h,List.range_succ,List.flatMap_append]
 simp
theorem prow_succ (f:FnE) (b i:Nat) (t:Int) (h:i<(Succs f b).length):prow f b (i+1) t=if t=(Succs f b)[i] then prow f b i t++[(b:Int)] else prow f b i t:=by
 unfold prow
 rw[List.take_add_one,List.getElem?_eq_getElem h,List.count_append]
 simp only[Option.toList_some,List.count_singleton,beq_iff_eq]
 by_cases hc:t=(Succs f b)[i]
 ·subst hc;simp[List.replicate_succ',List.append_assoc]
 ·have: ¬(Succs f b)[i]=t:=fun e=>hc e.symm
  simp[hc,this]
theorem Succs_len (f:FnE) (b:Int):(Succs f b).length<=siz f:=by
 unfold Succs
 dsimp only
 split
 ·exact Nat.zero_le _
 ·split
  ·exact Nat.zero_le _
  ·split
   ·exact Nat.zero_le _
   ·refine Nat.le_trans (sucStep_len _ _ _) ?_
    rw[List.length_nil,Nat.zero_add]
    exact Nat.le_trans (to_le _) (ins_le f _ _)
theorem Preds_S (f:FnE) (hs:siz f<4294967296):ASpec Tryz.prog 78 [eS f] (.orow 12 1 0 f.blocks.length) [(12,.tree 1 f.blocks.length fun t=>[eL (cnt f t f.blocks.length)])]:=by
 have h1:=blocks_le f
 refine ASpec.enter TYok mixed Tryz.func78 rfl Tryz.call78 Tryz.ntmps78 rfl (rs:=[.tmp 2]) rfl (nd1 _) (Clo.tree) (keep:=[0,1,2,3,4,5,6,7]) ?_;conv=>whnf
 repeat' first|(refine iG (fun hb hc=>?_) (fun hb hc=>?_)<;>first|exact hc.elim|(exfalso;omega)|conv=>whnf)|(refine gqs ?_;conv=>whnf)|(refine yt ?_;conv=>whnf)|exact⟨_,.keep rfl rfl⟩|fail
 refine lp [5] (fun b:Nat=>[.i .i64 b]) (fun b=>[(12,.tree 1 f.blocks.length fun t=>[eL (cnt f t b)]),(1,bx f)]) (fun b=>b<=f.blocks.length) (fun b=>f.blocks.length-b) 0 (by omega) ?_ fun b hb=>?_
 ·refine eP [] [] ?_ ?_<;>repeat' first|exact eN|refine And.intro ?_ ?_
  exact fun i hi=>And.intro rfl rfl
 conv=>whnf
 repeat' first|(refine iG (fun hb hc=>?_) (fun hb hc=>?_)<;>first|exact hc.elim|(exfalso;omega)|conv=>whnf)|(refine gqs ?_;conv=>whnf)|(refine yt ?_;conv=>whnf)|exact⟨_,.keep rfl rfl⟩|fail
 (try(first|refine yt ?_|refine CallW.lent ?_);(conv=>whnf));(repeat(refine yb ?_;(conv=>whnf)));(first|refine cK (fun _=>Succs_S 20 f _ hs) ?_|refine cL (fun _=>Succs_S 20 f _ hs) ?_);conv=>whnf
 repeat' first|(refine iG (fun hb hc=>?_) (fun hb hc=>?_)<;>first|exact hc.elim|(exfalso;omega)|conv=>whnf)|(refine gqs ?_;conv=>whnf)|(refine yt ?_;conv=>whnf)|exact⟨_,.keep rfl rfl⟩|fail
 ·refine lp [7] (fun i:Nat=>[.i .i64 i]) (fun i=>[(20,oL (Succs f b)),(12,.tree 1 f.blocks.length fun t=>[eL (prow f b i t)]),(1,bx f)]) (fun i=>i<=(Succs f b).length) (fun i=>(Succs f b).length-i) 0 (by omega) ?_ fun i hi=>?_
  ·refine eP [] [] ?_ ?_<;>repeat' first|exact eN|refine And.intro ?_ ?_
   exact fun i hi=>teqs_of (congrArg (fun l=>[eL l]) (prow_zero f b i).symm)
  conv=>whnf
  have hlen:=Succs_len f b
  repeat' first|(refine iG (fun hb hc=>?_) (fun hb hc=>?_)<;>first|exact hc.elim|(exfalso;omega)|conv=>whnf)|(refine gqs ?_;conv=>whnf)|(refine yt ?_;conv=>whnf)|exact⟨_,.keep rfl rfl⟩|fail
  ·have hi':i<(Succs f b).length:=by omega
   have hx:(Succs f b).getD (addZ 0 (i:Int).toNat) Enc.d=(Succs f b)[i]:=by rw[addZ_eq];simp[List.getD_eq_getElem?_getD,hi']
   have hm:=Succs_mem (List.getElem_mem hi')
   have hm2:addZ 0 ((Succs f b).getD (addZ 0 (i:Int).toNat) Enc.d).toNat<f.blocks.length:=by rw[hx,addZ_eq];omega
   have hm3:((addZ 0 ((Succs f b).getD (addZ 0 (i:Int).toNat) Enc.d).toNat:Nat):Int)=(Succs f b)[i]:=by rw[hx,addZ_eq];omega
   have hp1:=prow_len f b i (addZ 0 ((Succs f b).getD (addZ 0 (i:Int).toNat) Enc.d).toNat:Nat)
   refine And.intro ⟨by rw[hx];omega,by rw[hx];omega,hm2⟩ ?_
   conv=>whnf
   repeat' first|(refine iG (fun hb hc=>?_) (fun hb hc=>?_)<;>first|exact hc.elim|(exfalso;omega)|conv=>whnf)|(refine gqs ?_;conv=>whnf)|(refine yt ?_;conv=>whnf)|exact⟨_,.keep rfl rfl⟩|fail
   refine And.intro ⟨rfl,fun _ _=>rfl⟩ ?_
   conv=>whnf
   repeat' first|(refine iG (fun hb hc=>?_) (fun hb hc=>?_)<;>first|exact hc.elim|(exfalso;omega)|conv=>whnf)|(refine gqs ?_;conv=>whnf)|(refine yt ?_;conv=>whnf)|exact⟨_,.keep rfl rfl⟩|fail
   refine And.intro ⟨⟨rfl,fun _ _=>leafs_cat (fun _=>rfl) (leafs_lit1 rfl) _⟩,hm2⟩ ?_
   conv=>whnf
   repeat' first|(refine iG (fun hb hc=>?_) (fun hb hc=>?_)<;>first|exact hc.elim|(exfalso;omega)|conv=>whnf)|(refine gqs ?_;conv=>whnf)|(refine yt ?_;conv=>whnf)|exact⟨_,.keep rfl rfl⟩|fail
   refine .mk (i+1) (by omega) (by omega) ?_
   refine eP [] [] ?_ ?_<;>repeat' first|exact eN|refine And.intro ?_ ?_
   intro t ht
   refine tree_snoc (x:=(b:Int)) (g':=fun t:Nat=>[eL (prow f b (i+1) t)]) (l':=prow f b (i+1) t) (fun e=>?_) rfl (fun _=>⟨_,rfl⟩) (fun _=>rfl) fun e=>?_
   ·rw[prow_succ f b i t hi',if_pos (by rw[<-hm3,e]),e]
   ·exact congrArg (fun l=>[eL l]) ((prow_succ f b i t hi').trans (if_neg fun h=>e (by omega)))
  ·refine .mk (b+1) (by omega) (by omega) ?_
   refine eP [] [] ?_ ?_<;>repeat' first|exact eN|refine And.intro ?_ ?_
   exact fun t ht=>teqs_of (congrArg (fun l=>[eL l]) (prow_all f b i t (by omega)))
 ·exact⟨_,.giveT rfl rfl (by omega) (fun t _=>by rw[show b=f.blocks.length by omega];exact teqs_refl _) rfl⟩
def PredsL (f:FnE):List (List Int):=(List.range f.blocks.length).map fun t:Nat=>cnt f t f.blocks.length
theorem Preds_F (f:FnE) (hs:siz f<4294967296):ASpec Tryz.prog 78 [eS f] (eL (PredsL f)) []:=
 (Preds_S f hs).gives (.freezeT rfl rfl (by simp[PredsL]) (fun i hi=>teqs_of (by
  have hi':i<f.blocks.length:=by simpa[PredsL] using hi
  show[eL (cnt f i f.blocks.length)]=[eL ((PredsL f).getD i [])]
  rw[PredsL,List.getD_eq_getElem?_getD,List.getElem?_map,List.getElem?_range hi'];rfl)) rfl) (Clo.row0 fun id=>rfl) (by simp)
def phiOk (f:FnE) (i k:Nat):Bool:=(decide (¬((C2 f).getD i Enc.d).b=0)&&decide (((C1 f).getD i Enc.d).to=(PredsL f).getD ((C2 f).getD i Enc.d).b.toNat Enc.d))&&(List.range k).all fun j=>decide (((f.blocks.getD ((C2 f).getD i Enc.d).b.toNat Enc.d).code.getD j Enc.d).op=25)
def phiC (f:FnE) (n:Int) (i:Nat):FaultE:=
 if¬((C1 f).getD i Enc.d).op=25 then⟨0,⟨0,0,0⟩⟩ else if phiOk f i ((C2 f).getD i Enc.d).i.toNat=false then at2 f n 12 i else⟨0,⟨0,0,0⟩⟩
def phisF (f:FnE) (n:Int):FaultE:=firstF (phiC f n) (Code f).length
theorem phiOk_succ (f:FnE) (i k:Nat):phiOk f i (k+1)=(phiOk f i k&&decide (((f.blocks.getD ((C2 f).getD i Enc.d).b.toNat Enc.d).code.getD k Enc.d).op=25)):=by
 unfold phiOk;rw[List.range_succ,List.all_append];simp[Bool.and_assoc]
theorem phis_S (f:FnE) (n:Int) (hs:siz f<4294967296):ASpec Tryz.prog 39 [eS f,.i .i64 n] (eS (phisF f n)) []:=by
 have h1:=Code_siz f
 have h2:=C1_len f
 have h3:=C2_len f
 have h0:(PredsL f).length=f.blocks.length:=by simp[PredsL]
 refine ASpec.enter TYok mixed Tryz.func39 rfl Tryz.call39 Tryz.ntmps39 rfl (rs:=[.cell 4 36]) rfl (nodupB_ok rfl) (Clo.one rfl) (keep:=[0,1,2,4,5,6,7,8,9,10,11]) ?_;conv=>whnf
 repeat' first|(refine iG (fun hb hc=>?_) (fun hb hc=>?_)<;>first|exact hc.elim|(exfalso;omega)|conv=>whnf)|(refine gqs ?_;conv=>whnf)|(refine gqc (x:=fun _=>Preds_F f hs) (k:= ?_);conv=>whnf)|(refine gqc (x:=fun _=>Code_C 140 141 (by decide) f hs) (k:= ?_);conv=>whnf)|(refine yt ?_;conv=>whnf)|exact⟨_,.keep rfl rfl⟩|fail
 refine lp [8] (fun q:Nat=>[.i .i64 q]) (fun q=>[(2,bx f),(4,bx (Enc.d:FaultE)),(140,oL (C1 f)),(141,oL (C2 f))]) (fun q=>q<=(Code f).length/\ ∀i,i<q->(phiC f n i).code=0) (fun q=>(Code f).length-q) 0 ⟨by omega,fun i h=>by omega⟩ ?_ fun q hq=>?_
 ·refine eP [] [] ?_ ?_<;>repeat' first|exact eN|refine And.intro ?_ ?_
 conv=>whnf
 obtain⟨hq,hv⟩:=hq
 repeat' first|(refine iG (fun hb hc=>?_) (fun hb hc=>?_)<;>first|exact hc.elim|(exfalso;omega)|conv=>whnf)|(refine gqs ?_;conv=>whnf)|(refine yt ?_;conv=>whnf)|exact⟨_,.keep rfl rfl⟩|fail
 ·have e:phiC f n q=⟨0,⟨0,0,0⟩⟩:=by rw[phiC,if_pos hc]
  refine .mk (q+1) ⟨by omega,all_step hv (by rw[e])⟩ (by omega) ?_
  refine eP [] [] ?_ ?_<;>repeat' first|exact eN|refine And.intro ?_ ?_
 ·obtain⟨b0,k0,h5,h6,h7,h8⟩:=Code_get (f:=f) (q:=q) (by omega)
  have h9:((C2 f).getD (addZ 0 (q:Int).toNat) Enc.d).b=b0:=by rw[show addZ 0 (q:Int).toNat=q from rfl,h8]
  have h10:((C2 f).getD (addZ 0 (q:Int).toNat) Enc.d).i=k0:=by rw[show addZ 0 (q:Int).toNat=q from rfl,h8]
  have h11:=C1_to (f:=f) (q:=q) (by omega)
  repeat' first|(refine iG (fun hb hc=>?_) (fun hb hc=>?_)<;>first|exact hc.elim|(exfalso;omega)|conv=>whnf)|(refine gqs ?_;conv=>whnf)|(refine gqc (x:=fun _=>Ints_S _ _ (Nat.lt_of_le_of_lt h11 (by omega))) (k:= ?_);conv=>whnf)|(refine yt ?_;conv=>whnf)|exact⟨_,.keep rfl rfl⟩|fail
  refine lp [10,11] (fun k:Nat=>[.b (phiOk f q k),.i .i64 k]) (fun k=>[(2,bx f),(4,bx (Enc.d:FaultE)),(140,oL (C1 f)),(141,oL (C2 f))]) (fun k=>k<=k0) (fun k=>k0-k) 0 (by omega) ?_ fun k hk=>?_
  ·refine eP [] [] ?_ ?_<;>repeat' first|exact eN|refine And.intro ?_ ?_
   show _=_
   rw[pickB_and]
   show(!decide (((C2 f).getD q Enc.d).b=0)&&decide (((C1 f).getD q Enc.d).to=(PredsL f).getD ((C2 f).getD q Enc.d).b.toNat Enc.d))=phiOk f q 0
   simp[phiOk]
  conv=>whnf
  have h12:=code_le f b0
  have h13:k0<(f.blocks.getD ((C2 f).getD (addZ 0 (q:Int).toNat) Enc.d).b.toNat Enc.d).code.length:=by rw[h9,Int.toNat_natCast];exact h6
  have h14:((C2 f).getD q Enc.d).i=k0:=h10
  have h15:((C2 f).getD q Enc.d).b=b0:=h9
  repeat' first|(refine iG (fun hb hc=>?_) (fun hb hc=>?_)<;>first|exact hc.elim|(exfalso;omega)|conv=>whnf)|(refine gqs ?_;conv=>whnf)|(refine gqc (x:=fun _=>at_S _ _ _ _) (k:= ?_);conv=>whnf)|(refine yt ?_;conv=>whnf)|exact⟨_,.keep rfl rfl⟩|fail
  ·refine .mk (k+1) (by omega) (by omega) ?_
   refine eP [] [] ?_ ?_<;>repeat' first|exact eN|refine And.intro ?_ ?_
   show _=_
   rw[pickB_and,phiOk_succ]
   rfl
  ·have e:phiC f n q=at2 f n 12 q:=by rw[phiC,if_neg (fun h=>h (by assumption)),if_pos (by rw[h14,Int.toNat_natCast,show k0=k by omega];exact hc)]
   exact⟨_,.keep (by rw[phisF,firstF_at (by omega) hv e (by simp)];rfl) rfl⟩
  ·have e:phiC f n q=⟨0,⟨0,0,0⟩⟩:=by rw[phiC,if_neg (fun h=>h (by assumption)),if_neg (by rw[h14,Int.toNat_natCast,show k0=k by omega];exact bf hc)]
   refine .mk (q+1) ⟨by omega,all_step hv (by rw[e])⟩ (by omega) ?_
   refine eP [] [] ?_ ?_<;>repeat' first|exact eN|refine And.intro ?_ ?_
 ·exact⟨_,.keep (by rw[phisF,firstF_no fun i hi=>hv i (by omega)];rfl) rfl⟩
inductive RG (f:FnE) (g:Int):Nat->Prop
 |zero:0<f.blocks.length->g≠0->RG f g 0
 |step {b:Nat} {t:Int}:RG f g b->t∈Succs f b->t≠g->RG f g t.toNat
def isRG (f:FnE) (g:Int) (l:List Bool):Prop:=l.length=f.blocks.length/\ ∀b:Nat,b<f.blocks.length->(l.getD b false=true↔RG f g b)
theorem isRG_ex (f:FnE) (g:Int): ∃l,isRG f g l:=by
 refine⟨(List.range f.blocks.length).map fun b=>@decide (RG f g b) (Classical.propDecidable _),by simp,fun b hb=>?_⟩
 rw[List.getD_eq_getElem?_getD,List.getElem?_map,List.getElem?_range hb]
 simp
theorem set_fun {α:Type} [Enc α] {l:List α} {t:Nat} {x:α} {cs:List AV} (hc:cs=Enc.enc x) (i:Nat) (hi:i<l.length):setF (fun i=>Enc.enc (l.getD i Enc.d)) t cs i=Enc.enc ((l.set t x).getD i Enc.d):=by
 subst hc
 unfold setF
 by_cases e:i=t
 ·subst e
  rw[if_pos rfl,List.getD_eq_getElem?_getD,List.getElem?_set_self hi];rfl
 ·rw[if_neg e]
  show Enc.enc (l.getD i Enc.d)=_
  rw[List.getD_eq_getElem?_getD,List.getD_eq_getElem?_getD,List.getElem?_set_ne (fun h=>e h.symm)]
theorem getD_set {l:List Bool} {t i:Nat} (ht:t<l.length):(l.set t true).getD i false=if i=t then true else l.getD i false:=by
 by_cases e:i=t
 ·subst e
  rw[if_pos rfl,List.getD_eq_getElem?_getD,List.getElem?_set_self ht];rfl
 ·rw[if_neg e,List.getD_eq_getElem?_getD,List.getD_eq_getElem?_getD,List.getElem?_set_ne (fun h=>e h.symm)]
theorem cntf_set {l:List Bool} {t:Nat} (ht:t<l.length) (h:l.getD t false=false):((l.set t true).count false)+1=l.count false:=by
 have h2:l[t]=false:=by rw[List.getD_eq_getElem?_getD,List.getElem?_eq_getElem ht] at h;exact h
 have hp:0<l.count false:=List.count_pos_iff.2 (h2▸List.getElem_mem ht)
 rw[List.count_set ht]
 simp[h2];omega
structure Pass (f:FnE) (g:Int) (l0:List Bool) (more:Bool) (l:List Bool) (b i:Nat):Prop where
 len:l.length=f.blocks.length
 snd: ∀k:Nat,l.getD k false=true->RG f g k
 sup: ∀k:Nat,l0.getD k false=true->l.getD k false=true
 old:more=false->l=l0
 cl:more=false-> ∀c:Nat,c<b->l.getD c false=true-> ∀t∈Succs f c,t≠g->l.getD t.toNat false=true
 ci:more=false->l.getD b false=true-> ∀t∈(Succs f b).take i,t≠g->l.getD t.toNat false=true
 cnt:more=true->l.count false<l0.count false
theorem Pass.start {f:FnE} {g:Int} {l:List Bool} (hl:l.length=f.blocks.length) (hs: ∀k:Nat,l.getD k false=true->RG f g k):Pass f g l false l 0 0:=
 ⟨hl,hs,fun k h=>h,fun _=>rfl,fun _ c hc=>by omega,fun _ _ t ht=>by simp at ht,fun h=>by cases h⟩
theorem Pass.next {f:FnE} {g:Int} {l0 l:List Bool} {more:Bool} {b i:Nat} (h:Pass f g l0 more l b i) (he:l.getD b false=false\/(Succs f b).length<=i):Pass f g l0 more l (b+1) 0:=
 ⟨h.len,h.snd,h.sup,h.old,fun hm c hc hb t ht hg=>by
  rcases Nat.lt_or_ge c b with q|q
  ·exact h.cl hm c q hb t ht hg
  ·have:c=b:=by omega
   subst this
   rcases he with q|q
   ·rw[hb] at q;cases q
   ·exact h.ci hm hb t (by rw[List.take_of_length_le q];exact ht) hg,fun _ _ t ht=>by simp at ht,h.cnt⟩
theorem Pass.skip {f:FnE} {g:Int} {l0 l:List Bool} {more:Bool} {b i:Nat} (h:Pass f g l0 more l b i) (hi:i<(Succs f b).length) (hs:(Succs f b)[i]=g\/l.getD ((Succs f b)[i]).toNat false=true):Pass f g l0 more l b (i+1):=
 ⟨h.len,h.snd,h.sup,h.old,h.cl,fun hm hb t ht hg=>by
  rw[List.take_add_one,List.getElem?_eq_getElem hi,List.mem_append] at ht
  rcases ht with ht|ht
  ·exact h.ci hm hb t ht hg
  ·simp at ht
   subst ht
   rcases hs with hs|hs
   ·exact absurd hs hg
   ·exact hs,h.cnt⟩
theorem Pass.set {f:FnE} {g:Int} {l0 l:List Bool} {more:Bool} {b i:Nat} (h:Pass f g l0 more l b i) (hb:l.getD b false=true) (hi:i<(Succs f b).length) (hs:(Succs f b)[i]≠g) (ht:l.getD ((Succs f b)[i]).toNat false=false):Pass f g l0 true (l.set ((Succs f b)[i]).toNat true) b (i+1):=by
 have hm:=Succs_mem (List.getElem_mem hi)
 have hlt:((Succs f b)[i]).toNat<l.length:=by rw[h.len];omega
 refine⟨by rw[List.length_set];exact h.len,fun k hk=>?_,fun k hk=>?_,(fun e=>by cases e),(fun e=>by cases e),(fun e=>by cases e),fun _=>?_⟩
 ·rw[getD_set hlt] at hk
  split at hk
  ·rename_i e;subst e;exact .step (h.snd b hb) (List.getElem_mem hi) hs
  ·exact h.snd k hk
 ·rw[getD_set hlt]
  split
  ·rfl
  ·exact h.sup k hk
 ·have e1:=cntf_set hlt ht
  cases hmo:more with
  |true=>have:=h.cnt hmo;omega
  |false=>rw[h.old hmo] at e1⊢;omega
theorem Pass.fin {f:FnE} {g:Int} {l0 l:List Bool} (h:Pass f g l0 false l f.blocks.length 0) (h0:l.getD 0 false=true):isRG f g l:=by
 refine⟨h.len,fun b hb=>⟨h.snd b,fun hr=>?_⟩⟩
 clear hb
 induction hr with
 |zero _ _=>exact h0
 |step hr ht hg ih=>
  rename_i b t
  have hb:b<f.blocks.length:=by
   rcases Nat.lt_or_ge b l.length with q|q
   ·rw[<-h.len];exact q
   ·rw[List.getD_eq_getElem?_getD,List.getElem?_eq_none q] at ih;cases ih
  exact h.cl rfl b hb ih t ht hg
theorem isRG.eq {f:FnE} {g:Int} {l l':List Bool} (h:isRG f g l) (h':isRG f g l') (i:Nat) (hi:i<f.blocks.length):l.getD i false=l'.getD i false:=by
 rw[Bool.eq_iff_iff,h.2 i hi,h'.2 i hi]
theorem isRG.none {f:FnE} {g:Int} {l:List Bool} (h:isRG f g l) (hn:f.blocks.length=0\/g=0) (i:Nat) (hi:i<f.blocks.length):l.getD i false=false:=by
 cases hq:l.getD i false with
 |false=>rfl
 |true=>
  have hr:=(h.2 i hi).1 hq
  have: ∀b,RG f g b->False:=fun b hr=>by
   induction hr with
   |zero h1 h2=>rcases hn with q|q<;>omega
   |step _ _ _ ih=>exact ih
  exact(this _ hr).elim
def nxG (f:FnE) (k b:Nat):List Int:=if b<k then Succs f b else[]
theorem nx_zero (f:FnE) (c:Nat):nxG f 0 c=[]:=by unfold nxG;rw[if_neg (Nat.not_lt_zero _)]
theorem first_row {n i:Nat} (hi:i<n):setF (fun _=>[AV.b false]) 0 [AV.b true] i=[AV.b (((List.replicate n false).set 0 true).getD i false)]:=by
 rw[getD_set (by simp;omega)]
 unfold setF
 by_cases e:i=0
 ·rw[if_pos e,if_pos e]
 ·rw[if_neg e,if_neg e,List.getD_eq_getElem?_getD,List.getElem?_replicate]
  simp[hi]
theorem Without_S (f : FnE) (g : Int) (l : List Bool) (hl : isRG f g l) (hs : siz f < 4294967296) : ASpec Tryz.prog 108 [eS f, .i .i64 g] (.orow 12 1 0 l.length) [(12, oL l)] := by
  have h1 := blocks_le f
  have h2 := hl.1
  refine ASpec.enter TYok mixed Tryz.func108 rfl Tryz.call108 Tryz.ntmps108 rfl (rs := [.tmp 4]) rfl (nd1 _) (Clo.row) (keep := [0, 1, 2, 4, 5, 6, 7, 8, 9, 10, 11, 12]) ?_; conv => whnf
  repeat' first | (refine iG (fun hb hc => ?_) (fun hb hc => ?_) <;> first | exact hc.elim | (exfalso; omega) | conv => whnf) | (refine gqs ?_; conv => whnf) | (refine yt ?_; conv => whnf) | exact ⟨_, .keep rfl rfl⟩ | fail
  · exact ⟨_, .give rfl rfl (by omega) (fun i hi => congrArg (fun t => [AV.b t]) (hl.none (by omega) i (by omega)).symm) rfl⟩
  have hn : 0 < f.blocks.length := by omega
  refine lp [8] (fun b : Nat => [.i .i64 b]) (fun b => [(17, oL ((List.replicate f.blocks.length false).set 0 true)), (28, .tree 1 f.blocks.length fun c => [eL (nxG f b c)]), (2, bx f)]) (fun b => b ≤ f.blocks.length) (fun b => f.blocks.length - b) 0 (by omega) ?_ fun b hb => ?_
  · refine eP [] [] ?_ ?_ <;> repeat' first | exact eN | refine And.intro ?_ ?_
    · simp
    · exact fun i hi => first_row (by simpa using hi)
    · exact fun i hi => by rw [show (fun c => [eL (nxG f 0 c)]) i = [eL ([] : List Int)] from congrArg (fun l => [eL l]) (nx_zero f i)]; exact And.intro rfl rfl
  conv => whnf
  repeat' first | (refine iG (fun hb hc => ?_) (fun hb hc => ?_) <;> first | exact hc.elim | (exfalso; omega) | conv => whnf) | (refine gqs ?_; conv => whnf) | (refine yt ?_; conv => whnf) | exact ⟨_, .keep rfl rfl⟩ | fail
  · (try (first | refine yt ?_ | refine CallW.lent ?_); (conv => whnf)); (repeat (refine yb ?_; (conv => whnf))); (first | refine cK (fun _ => Succs_S 100 f _ hs) ?_ | refine cL (fun _ => Succs_S 100 f _ hs) ?_); conv => whnf
    repeat' first | (refine iG (fun hb hc => ?_) (fun hb hc => ?_) <;> first | exact hc.elim | (exfalso; omega) | conv => whnf) | (refine gqs ?_; conv => whnf) | (refine yt ?_; conv => whnf) | exact ⟨_, .keep rfl rfl⟩ | fail
    refine And.intro ⟨⟨rfl, fun _ _ => rfl⟩, by rw [addZ_eq]; omega⟩ ?_
    conv => whnf
    repeat' first | (refine iG (fun hb hc => ?_) (fun hb hc => ?_) <;> first | exact hc.elim | (exfalso; omega) | conv => whnf) | (refine gqs ?_; conv => whnf) | (refine yt ?_; conv => whnf) | exact ⟨_, .keep rfl rfl⟩ | fail
    refine .mk (b + 1) (by omega) (by omega) ?_
    refine eP [] [] ?_ ?_ <;> repeat' first | exact eN | refine And.intro ?_ ?_
    exact fun t ht => tree_put (g' := fun c => [eL (nxG f (b + 1) c)]) (fun _ => ⟨_, rfl⟩) (fun e => congrArg (fun l => [eL l]) (by unfold nxG; rw [if_pos (by rw [e, addZ_eq]; omega), e, addZ_eq]; simp)) fun e => teqs_of (congrArg (fun l => [eL l]) (by
      have e' : t ≠ b := fun h => e (by rw [addZ_eq]; omega)
      unfold nxG
      by_cases q : t < b
      · rw [if_pos q, if_pos (by omega)]
      · rw [if_neg q, if_neg (by omega)]))
  have hx : ∀ c, c < f.blocks.length → nxG f b c = Succs f c := fun c hc => by unfold nxG; rw [if_pos (by omega)]
  have hl0 : ((List.replicate f.blocks.length false).set 0 true).getD 0 false = true := by rw [getD_set (by simpa using hn), if_pos rfl]
  refine lp [9] (fun p : Bool × List Bool => [.b p.1]) (fun p => [(17, oL p.2), (28, .tree 1 f.blocks.length fun c => [eL (Succs f c)]), (2, bx f)])
    (fun p => (p.2.length = f.blocks.length ∧ (∀ k : Nat, p.2.getD k false = true → RG f g k) ∧ p.2.getD 0 false = true) ∧ (p.1 = false → isRG f g p.2)) (fun p => 2 * p.2.count false + p.1.toNat) (true, (List.replicate f.blocks.length false).set 0 true)
    ⟨⟨by simp, fun k hk => by
      rw [getD_set (by simpa using hn)] at hk
      split at hk
      · rename_i e; subst e; exact .zero hn (by omega)
      · rw [List.getD_eq_getElem?_getD, List.getElem?_replicate] at hk
        split at hk <;> simp at hk, hl0⟩, fun h => by cases h⟩ ?_ fun pA hA => ?_
  · refine eP [] [] ?_ ?_ <;> repeat' first | exact eN | refine And.intro ?_ ?_
    exact fun i hi => teqs_of (congrArg (fun l => [eL l]) (hx i hi))
  obtain ⟨⟨p1, p2, p3⟩, p4⟩ := hA
  conv => whnf
  repeat' first | (refine iG (fun hb hc => ?_) (fun hb hc => ?_) <;> first | exact hc.elim | (exfalso; omega) | conv => whnf) | (refine gqs ?_; conv => whnf) | (refine yt ?_; conv => whnf) | exact ⟨_, .keep rfl rfl⟩ | fail
  · refine lp [9, 10] (fun p : Bool × List Bool × Nat => [.b p.1, .i .i64 p.2.2]) (fun p => [(17, oL p.2.1), (28, .tree 1 f.blocks.length fun c => [eL (Succs f c)]), (2, bx f)])
      (fun p => Pass f g pA.2 p.1 p.2.1 p.2.2 0 ∧ p.2.2 ≤ f.blocks.length) (fun p => f.blocks.length - p.2.2) (false, pA.2, 0) ⟨.start p1 p2, Nat.zero_le _⟩ ?_ fun pB hB => ?_
    · refine eP [] [] ?_ ?_ <;> repeat' first | exact eN | refine And.intro ?_ ?_
      exact fun i hi => teqs_refl _
    obtain ⟨q1, q2⟩ := hB
    have q3 := q1.len
    conv => whnf
    repeat' first | (refine iG (fun hb hc => ?_) (fun hb hc => ?_) <;> first | exact hc.elim | (exfalso; omega) | conv => whnf) | (refine gqs ?_; conv => whnf) | (refine yt ?_; conv => whnf) | exact ⟨_, .keep rfl rfl⟩ | fail
    · have r0 := Succs_len f pB.2.2
      refine lp [9, 11] (fun p : Bool × List Bool × Nat => [.b p.1, .i .i64 p.2.2]) (fun p => [(17, oL p.2.1), (28, .tree 1 f.blocks.length fun c => [eL (Succs f c)]), (2, bx f)])
        (fun p => Pass f g pA.2 p.1 p.2.1 pB.2.2 p.2.2 ∧ p.2.2 ≤ (Succs f pB.2.2).length) (fun p => (Succs f pB.2.2).length - p.2.2) (pB.1, pB.2.1, 0) ⟨q1, Nat.zero_le _⟩ ?_ fun pC hC => ?_
      · refine eP [] [] ?_ ?_ <;> repeat' first | exact eN | refine And.intro ?_ ?_
        exact fun i hi => teqs_refl _
      obtain ⟨r1, r2⟩ := hC
      have r3 := r1.len
      conv => whnf
      repeat' first | (refine iG (fun hb hc => ?_) (fun hb hc => ?_) <;> first | exact hc.elim | (exfalso; omega) | conv => whnf) | (refine gqs ?_; conv => whnf) | (refine yt ?_; conv => whnf) | exact ⟨_, .keep rfl rfl⟩ | fail
      · have hi' : pC.2.2 < (Succs f pB.2.2).length := by have := hc.2; omega
        have e0 : (Succs f (addZ 0 (pB.2.2 : Int).toNat : Nat)).getD (addZ 0 (pC.2.2 : Int).toNat) Enc.d = (Succs f pB.2.2)[pC.2.2] := by
          show (Succs f pB.2.2).getD pC.2.2 0 = _
          rw [List.getD_eq_getElem?_getD, List.getElem?_eq_getElem hi']; rfl
        have hm := Succs_mem (List.getElem_mem hi')
        have hm2 : addZ 0 ((Succs f (addZ 0 (pB.2.2 : Int).toNat : Nat)).getD (addZ 0 (pC.2.2 : Int).toNat) Enc.d).toNat < pC.2.1.length := by rw [addZ_eq, e0, r3]; omega
        have hm3 : 0 ≤ (Succs f (addZ 0 (pB.2.2 : Int).toNat : Nat)).getD (addZ 0 (pC.2.2 : Int).toNat) Enc.d ∧ (Succs f (addZ 0 (pB.2.2 : Int).toNat : Nat)).getD (addZ 0 (pC.2.2 : Int).toNat) Enc.d < f.blocks.length := by rw [e0]; exact hm
        refine And.intro (fun _ => ⟨hm3.1, by omega, hm2⟩) ?_
        conv => whnf
        repeat' first | (refine iG (fun hb hc => ?_) (fun hb hc => ?_) <;> first | exact hc.elim | (exfalso; omega) | conv => whnf) | (refine gqs ?_; conv => whnf) | (refine yt ?_; conv => whnf) | exact ⟨_, .keep rfl rfl⟩ | fail
        · have e1 : (Succs f pB.2.2).getD pC.2.2 Enc.d = (Succs f pB.2.2)[pC.2.2] := e0
          have c1 : (Succs f pB.2.2)[pC.2.2] ≠ g := by rw [← e1]; exact hc.1
          have c2 : pC.2.1.getD ((Succs f pB.2.2)[pC.2.2]).toNat false = false := by rw [← e1]; exact hc.2
          have c3 : pC.2.1.getD pB.2.2 Enc.d = true := by rename_i hz; exact hz.1
          have hps := r1.set c3 hi' c1 c2
          refine .mk (true, pC.2.1.set ((Succs f pB.2.2)[pC.2.2]).toNat true, pC.2.2 + 1) ⟨hps, by show pC.2.2 + 1 ≤ _; omega⟩ (by show (Succs f pB.2.2).length - (pC.2.2 + 1) < _; omega) ?_
          have e2 : addZ 0 ((Succs f (addZ 0 (pB.2.2 : Int).toNat : Nat)).getD (addZ 0 (pC.2.2 : Int).toNat) Enc.d).toNat = ((Succs f pB.2.2)[pC.2.2]).toNat := by rw [addZ_eq, Nat.zero_add, e0]
          refine eP [] [] ?_ ?_ <;> repeat' first | exact eN | refine And.intro ?_ ?_
          · exact (List.length_set ..).symm
          · exact fun i hi => (congrArg (fun k => setF (fun i => Enc.enc (pC.2.1.getD i Enc.d)) k [AV.b true] i) e2).trans (set_fun rfl i (by rw [List.length_set] at hi; exact hi))
          · exact fun i hi => teqs_refl _
        · have e1 : (Succs f pB.2.2).getD pC.2.2 Enc.d = (Succs f pB.2.2)[pC.2.2] := e0
          refine .mk (pC.1, pC.2.1, pC.2.2 + 1) ⟨r1.skip hi' (by rw [← e1]; exact hc), by show pC.2.2 + 1 ≤ _; omega⟩ (by show (Succs f pB.2.2).length - (pC.2.2 + 1) < _; omega) ?_
          refine eP [] [] ?_ ?_ <;> repeat' first | exact eN | refine And.intro ?_ ?_
          exact fun i hi => teqs_refl _
      · refine .mk (pC.1, pC.2.1, pB.2.2 + 1) ⟨r1.next (hc.imp id fun h => by omega), by show pB.2.2 + 1 ≤ _; omega⟩ (by show f.blocks.length - (pB.2.2 + 1) < _; omega) ?_
        refine eP [] [] ?_ ?_ <;> repeat' first | exact eN | refine And.intro ?_ ?_
        exact fun i hi => teqs_refl _
    · refine .mk (pB.1, pB.2.1) ⟨⟨q3, q1.snd, q1.sup 0 p3⟩, fun h => ?_⟩ ?_ ?_
      · have e : pB.1 = false := h
        have q4 := q1
        rw [e, show pB.2.2 = f.blocks.length by omega] at q4
        exact q4.fin (q1.sup 0 p3)
      · show 2 * pB.2.1.count false + pB.1.toNat < 2 * pA.2.count false + pA.1.toNat
        rw [show pA.1 = true by assumption]
        cases hq : pB.1 with
        | true => have := q1.cnt hq; simp; omega
        | false => rw [q1.old hq]; simp
      · refine eP [] [] ?_ ?_ <;> repeat' first | exact eN | refine And.intro ?_ ?_
        exact fun i hi => teqs_refl _
  · have hr := p4 (by assumption)
    exact ⟨_, .give rfl (by omega) (by omega) (fun i hi => congrArg (fun t => [AV.b t]) (hr.eq hl i (by omega))) rfl⟩
theorem Without_F (f:FnE) (g:Int) (l:List Bool) (hl:isRG f g l) (hs:siz f<4294967296):ASpec Tryz.prog 108 [eS f,.i .i64 g] (eL l) []:=oL_frz (fun _=>rfl) (Without_S f g l hl hs)
theorem Reach_F (f:FnE) (l:List Bool) (hl:isRG f (-1) l) (hs:siz f<4294967296):ASpec Tryz.prog 79 [eS f] (eL l) []:=by
 refine ASpec.enter TYok mixed Tryz.func79 rfl Tryz.call79 Tryz.ntmps79 rfl (rs:=[.tmp 2]) rfl (nodupB_ok rfl) (Clo.one rfl) (keep:=[0,1,2]) ?_;conv=>whnf
 repeat' first|(refine iG (fun hb hc=>?_) (fun hb hc=>?_)<;>first|exact hc.elim|(exfalso;omega)|conv=>whnf)|(refine gqs ?_;conv=>whnf)|(refine gqc (x:=fun _=>Without_F _ _ l hl hs) (k:= ?_);conv=>whnf)|(refine yt ?_;conv=>whnf)|exact⟨_,.keep rfl rfl⟩|fail
def Dom (f:FnE) (a b:Nat):Prop:=RG f (-1) a/\RG f (-1) b/\(a=b\/ ¬RG f a b)
def isTab (f:FnE) (T:List (List Bool)):Prop:=T.length=f.blocks.length/\ ∀a:Nat,a<f.blocks.length->(T.getD a []).length=f.blocks.length/\ ∀b:Nat,b<f.blocks.length->((T.getD a []).getD b false=true↔Dom f a b)
theorem isTab_ex (f:FnE): ∃T,isTab f T:=by
 refine⟨(List.range f.blocks.length).map fun a=>(List.range f.blocks.length).map fun b=>@decide (Dom f a b) (Classical.propDecidable _),by simp,fun a ha=>?_⟩
 have e:((List.range f.blocks.length).map fun a=>(List.range f.blocks.length).map fun b=>@decide (Dom f a b) (Classical.propDecidable _)).getD a []=(List.range f.blocks.length).map fun b=>@decide (Dom f a b) (Classical.propDecidable _):=by
  rw[List.getD_eq_getElem?_getD,List.getElem?_map,List.getElem?_range ha];rfl
 rw[e]
 refine⟨by simp,fun b hb=>?_⟩
 rw[List.getD_eq_getElem?_getD,List.getElem?_map,List.getElem?_range hb]
 simp
def tbO (T:List (List Bool)) (a c:Nat):List Bool:=if c<a then T.getD c [] else[]
def rwI (T:List (List Bool)) (n a b:Nat):List Bool:=(List.range n).map fun k=>if k<b then(T.getD a []).getD k false else false
def tbI (T:List (List Bool)) (n a b c:Nat):List Bool:=if c<a then T.getD c [] else if c=a then rwI T n a b else[]
theorem rwI_len (T:List (List Bool)) (n a b:Nat):(rwI T n a b).length=n:=by simp[rwI]
theorem rwI_get {T:List (List Bool)} {n a b k:Nat} (hk:k<n):(rwI T n a b).getD k false=if k<b then(T.getD a []).getD k false else false:=by
 unfold rwI
 rw[List.getD_eq_getElem?_getD,List.getElem?_map,List.getElem?_range hk];rfl
theorem Table_F (f:FnE) (T:List (List Bool)) (hT:isTab f T) (hs:siz f<4294967296):ASpec Tryz.prog 80 [eS f] (eL T) []:=by
 have h1:=blocks_le f
 obtain⟨all,hall⟩:=isRG_ex f (-1)
 obtain⟨L,hL⟩:=Classical.axiomOfChoice fun a:Nat=>isRG_ex f a
 have h2:=hT.1
 have h3:=hall.1
 refine ASpec.enter TYok mixed Tryz.func80 rfl Tryz.call80 Tryz.ntmps80 rfl (rs:=[.tmp 2]) rfl (nodupB_ok rfl) (Clo.one rfl) (keep:=[0,1,2,3,4,5,6,7,8]) ?_;conv=>whnf
 repeat' first|(refine iG (fun hb hc=>?_) (fun hb hc=>?_)<;>first|exact hc.elim|(exfalso;omega)|conv=>whnf)|(refine gqs ?_;conv=>whnf)|(refine gqc (x:=fun _=>Reach_F _ all hall hs) (k:= ?_);conv=>whnf)|(refine yt ?_;conv=>whnf)|exact⟨_,.keep rfl rfl⟩|fail
 refine lp [6] (fun a:Nat=>[.i .i64 a]) (fun a=>[(15,.tree 1 f.blocks.length fun c=>[eL (tbO T a c)]),(1,bx f)]) (fun a=>a<=f.blocks.length) (fun a=>f.blocks.length-a) 0 (by omega) ?_ fun a ha=>?_
 ·refine eP [] [] ?_ ?_<;>repeat' first|exact eN|refine And.intro ?_ ?_
  exact fun i hi=>by rw[show(fun c=>[eL (tbO T 0 c)]) i=[eL ([]:List Bool)] from congrArg (fun l=>[eL l]) (if_neg (Nat.not_lt_zero _))];exact And.intro rfl rfl
 conv=>whnf
 repeat' first|(refine iG (fun hb hc=>?_) (fun hb hc=>?_)<;>first|exact hc.elim|(exfalso;omega)|conv=>whnf)|(refine gqs ?_;conv=>whnf)|(refine gqc (x:=fun _=>Without_F _ _ _ (hL a) hs) (k:= ?_);conv=>whnf)|(refine yt ?_;conv=>whnf)|exact⟨_,.keep rfl rfl⟩|fail
 ·refine And.intro ⟨⟨by omega,fun _ _=>rfl⟩,by rw[addZ_eq];omega⟩ ?_
  conv=>whnf
  repeat' first|(refine iG (fun hb hc=>?_) (fun hb hc=>?_)<;>first|exact hc.elim|(exfalso;omega)|conv=>whnf)|(refine gqs ?_;conv=>whnf)|(refine gqc (x:=fun _=>Without_F _ _ _ (hL a) hs) (k:= ?_);conv=>whnf)|(refine yt ?_;conv=>whnf)|exact⟨_,.keep rfl rfl⟩|fail
  have h4:=(hL a).1
  refine lp [8] (fun b:Nat=>[.i .i64 b]) (fun b=>[(15,.tree 1 f.blocks.length fun c=>[eL (tbI T f.blocks.length a b c)]),(1,bx f)]) (fun b=>b<=f.blocks.length) (fun b=>f.blocks.length-b) 0 (by omega) ?_ fun b hb=>?_
  ·refine eP [] [] ?_ ?_<;>repeat' first|exact eN|refine And.intro ?_ ?_
   refine fun i hi=>tree_putR (g':=fun c=>[eL (tbI T f.blocks.length a 0 c)]) (fun _=>⟨_,rfl⟩) (fun e=>⟨_,rfl,?_⟩) fun e=>teqs_of (congrArg (fun l=>[eL l]) ?_)
   ·have e':i=a:=by rw[addZ_eq] at e;omega
    subst e'
    unfold eL teq
    have e2:tbI T f.blocks.length i 0 i=rwI T f.blocks.length i 0:=by unfold tbI;rw[if_neg (Nat.lt_irrefl _),if_pos rfl]
    rw[e2,rwI_len]
    refine⟨rfl,by omega,fun k hk=>teqs_of (congrArg (fun t=>[AV.b t]) ?_)⟩
    show false=(rwI T f.blocks.length i 0).getD k false
    rw[rwI_get hk,if_neg (Nat.not_lt_zero _)]
   ·rw[addZ_eq] at e
    unfold tbO tbI
    split
    ·rfl
    ·rw[if_neg (by omega)]
  conv=>whnf
  have h5:(tbI T f.blocks.length a b (addZ 0 (a:Int).toNat)).length=f.blocks.length:=by
   show(tbI T f.blocks.length a b a).length=f.blocks.length
   unfold tbI;rw[if_neg (Nat.lt_irrefl _),if_pos rfl,rwI_len]
  repeat' first|(refine iG (fun hb hc=>?_) (fun hb hc=>?_)<;>first|exact hc.elim|(exfalso;omega)|conv=>whnf)|(refine gqs ?_;conv=>whnf)|(refine yt ?_;conv=>whnf)|exact⟨_,.keep rfl rfl⟩|fail
  ·refine And.intro ⟨by omega,by omega,by rw[addZ_eq];omega⟩ ?_
   conv=>whnf
   repeat' first|(refine iG (fun hb hc=>?_) (fun hb hc=>?_)<;>first|exact hc.elim|(exfalso;omega)|conv=>whnf)|(refine gqs ?_;conv=>whnf)|(refine yt ?_;conv=>whnf)|exact⟨_,.keep rfl rfl⟩|fail
   refine And.intro (by rw[addZ_eq];omega) ?_
   conv=>whnf
   repeat' first|(refine iG (fun hb hc=>?_) (fun hb hc=>?_)<;>first|exact hc.elim|(exfalso;omega)|conv=>whnf)|(refine gqs ?_;conv=>whnf)|(refine yt ?_;conv=>whnf)|exact⟨_,.keep rfl rfl⟩|fail
   refine .mk (b+1) (by omega) (by omega) ?_
   refine eP [] [] ?_ ?_<;>repeat' first|exact eN|refine And.intro ?_ ?_
   refine fun t ht=>tree_setB (G':=fun c=>[eL (tbI T f.blocks.length a (b+1) c)]) (n:=f.blocks.length) (g:=fun i=>(rwI T f.blocks.length a b).getD i false) (g':=fun i=>(rwI T f.blocks.length a (b+1)).getD i false) (fun e=>?_) (fun e=>?_) (fun e i hi=>?_) fun e=>?_
   ·have e2:tbI T f.blocks.length a b (addZ 0 (a:Int).toNat)=rwI T f.blocks.length a b:=by show tbI T f.blocks.length a b a=_;unfold tbI;rw[if_neg (Nat.lt_irrefl _),if_pos rfl]
    rw[e2]
    show[AV.row none 1 (rwI T f.blocks.length a b).length _]=_
    rw[rwI_len];rfl
   ·have e':t=a:=by rw[addZ_eq] at e;omega
    subst e'
    have e2:tbI T f.blocks.length t (b+1) t=rwI T f.blocks.length t (b+1):=by unfold tbI;rw[if_neg (Nat.lt_irrefl _),if_pos rfl]
    show[eL (tbI T f.blocks.length t (b+1) t)]=_
    rw[e2]
    show[AV.row none 1 (rwI T f.blocks.length t (b+1)).length _]=_
    rw[rwI_len];rfl
   ·rw[rwI_get hi,rwI_get hi,show addZ 0 (b:Int).toNat=b from rfl]
    by_cases q:i=b
    ·subst q
     rw[if_pos (by omega),if_pos rfl,pickB_and,pickB_and,pickB_or]
     show(T.getD a []).getD i false=(((all.getD a false&&all.getD i false)&&(decide ((a:Int)=i)|| !(L a).getD i false)))
     rw[Bool.eq_iff_iff,(hT.2 a (by omega)).2 i hi]
     simp only[Bool.and_eq_true,Bool.or_eq_true,decide_eq_true_eq,Bool.not_eq_true',Dom]
     rw[hall.2 a (by omega),hall.2 i hi,<-Bool.not_eq_true,(hL a).2 i hi]
     constructor
     ·rintro ⟨x1,x2,x3⟩;exact⟨⟨x1,x2⟩,x3.imp (fun h=>by omega) id⟩
     ·rintro ⟨⟨x1,x2⟩,x3⟩;exact⟨x1,x2,x3.imp (fun h=>by omega) id⟩
    ·rw[if_neg q]
     by_cases q2:i<b
     ·rw[if_pos q2,if_pos (by omega)]
     ·rw[if_neg q2,if_neg (by omega)]
   ·have e':t≠a:=fun h=>e (by rw[addZ_eq];omega)
    show[eL (tbI T f.blocks.length a (b+1) t)]=[eL (tbI T f.blocks.length a b t)]
    unfold tbI
    rw[if_neg e',if_neg e']
  ·refine .mk (a+1) (by omega) (by omega) ?_
   refine eP [] [] ?_ ?_<;>repeat' first|exact eN|refine And.intro ?_ ?_
   refine fun c hc=>teqs_of (congrArg (fun l=>[eL l]) ?_)
   unfold tbI tbO
   by_cases q:c<a
   ·rw[if_pos q,if_pos (by omega)]
   ·rw[if_neg q]
    by_cases q2:c=a
    ·subst q2
     rw[if_pos rfl,if_pos (by omega)]
     refine List.ext_getElem (by rw[rwI_len,(hT.2 c (by omega)).1]) fun k h6 h7=>?_
     have h8:=rwI_get (T:=T) (n:=f.blocks.length) (a:=c) (b:=b) (k:=k) (by rw[rwI_len] at h6;exact h6)
     rw[if_pos (by rw[rwI_len] at h6;omega),List.getD_eq_getElem?_getD,List.getD_eq_getElem?_getD,List.getElem?_eq_getElem h6,List.getElem?_eq_getElem h7] at h8
     exact h8
    ·rw[if_neg q2,if_neg (by omega)]
 ·refine⟨_,.freezeT rfl (by omega) (by omega) (fun i hi=>teqs_of (congrArg (fun l=>[eL l]) ?_)) rfl⟩
  unfold tbO
  rw[if_pos (by omega)]
  rfl
def ordC (f:FnE) (R:List Bool) (T:List (List Bool)) (i k:Nat):Int:=
 if¬(((C1 f).getD i Enc.d).args.getD k Enc.d).k=1\/(((C1 f).getD i Enc.d).args.getD k Enc.d).n<f.params.length then 0
 else if R.getD ((C2 f).getD i Enc.d).b.toNat Enc.d=false then 0
 else if((C1 f).getD i Enc.d).op=25 then
  if R.getD (((C1 f).getD i Enc.d).to.getD k Enc.d).toNat Enc.d=false then 0
  else if(T.getD (Def f (((C1 f).getD i Enc.d).args.getD k Enc.d).n).1.b.toNat Enc.d).getD (((C1 f).getD i Enc.d).to.getD k Enc.d).toNat Enc.d=false then 11 else 0
 else if(Def f (((C1 f).getD i Enc.d).args.getD k Enc.d).n).1.b=((C2 f).getD i Enc.d).b then
  if(Def f (((C1 f).getD i Enc.d).args.getD k Enc.d).n).1.i<((C2 f).getD i Enc.d).i then 0 else 11
 else if(T.getD (Def f (((C1 f).getD i Enc.d).args.getD k Enc.d).n).1.b.toNat Enc.d).getD ((C2 f).getD i Enc.d).b.toNat Enc.d=false then 11 else 0
def ordI (f:FnE) (n:Int) (R:List Bool) (T:List (List Bool)) (i:Nat):FaultE:=match firstC (ordC f R T i) ((C1 f).getD i Enc.d).args.length with
 |some k=>at2 f n 11 i
 |none=>⟨0,⟨0,0,0⟩⟩
def orderF (f:FnE) (n:Int) (R:List Bool) (T:List (List Bool)):FaultE:=firstF (ordI f n R T) (Code f).length
theorem Def_b (f:FnE) (r:Int) (h:0<f.blocks.length):0<=(Def f r).1.b/\(Def f r).1.b<f.blocks.length:=by
 unfold Def
 split
 ·rename_i p hp
  obtain⟨b,k,h1,h2,h3⟩:=Code_mem (List.mem_of_find?_eq_some hp)
  rw[h3];exact⟨Int.natCast_nonneg _,by show(b:Int)<_;omega⟩
 ·exact⟨Int.le_refl _,by show(0:Int)<_;omega⟩
theorem order_S (f:FnE) (n:Int) (R:List Bool) (T:List (List Bool)) (hR:isRG f (-1) R) (hT:isTab f T) (hs:siz f<4294967296)
  (hp1: ∀i,i<(Code f).length->((C1 f).getD i Enc.d).op=25->((C1 f).getD i Enc.d).args.length=((C1 f).getD i Enc.d).to.length)
  (hp2: ∀i,i<(Code f).length->((C1 f).getD i Enc.d).op=25-> ∀t∈((C1 f).getD i Enc.d).to,0<=t/\t<f.blocks.length):ASpec Tryz.prog 40 [eS f,.i .i64 n] (eS (orderF f n R T)) []:=by
 have h1:=Code_siz f
 have h2:=C1_len f
 have h3:=C2_len f
 have hR1:=hR.1
 have hT1:=hT.1
 have hpl:=params_le f
 refine ASpec.enter TYok mixed Tryz.func40 rfl Tryz.call40 Tryz.ntmps40 rfl (rs:=[.cell 4 36]) rfl (nodupB_ok rfl) (Clo.one rfl) (keep:=[0,1,2,4,5,6,7,8,9,10,11,12,14,15]) ?_;conv=>whnf
 repeat' first|(refine iG (fun hb hc=>?_) (fun hb hc=>?_)<;>first|exact hc.elim|(exfalso;omega)|conv=>whnf)|(refine gqs ?_;conv=>whnf)|(refine gqc (x:=fun _=>Reach_F f R hR hs) (k:= ?_);conv=>whnf)|(refine gqc (x:=fun _=>Table_F f T hT hs) (k:= ?_);conv=>whnf)|(refine gqc (x:=fun _=>Code_C 140 141 (by decide) f hs) (k:= ?_);conv=>whnf)|(refine yt ?_;conv=>whnf)|exact⟨_,.keep rfl rfl⟩|fail
 refine lp [9] (fun q:Nat=>[.i .i64 q]) (fun q=>[(2,bx f),(4,bx (Enc.d:FaultE)),(140,oL (C1 f)),(141,oL (C2 f))]) (fun q=>q<=(Code f).length/\ ∀i,i<q->(ordI f n R T i).code=0) (fun q=>(Code f).length-q) 0 ⟨by omega,fun i h=>by omega⟩ ?_ fun q hq=>?_
 ·refine eP [] [] ?_ ?_<;>repeat' first|exact eN|refine And.intro ?_ ?_
 conv=>whnf
 obtain⟨hq,hv⟩:=hq
 repeat' first|(refine iG (fun hb hc=>?_) (fun hb hc=>?_)<;>first|exact hc.elim|(exfalso;omega)|conv=>whnf)|(refine gqs ?_;conv=>whnf)|(refine yt ?_;conv=>whnf)|exact⟨_,.keep rfl rfl⟩|fail
 ·have hq1:q<(Code f).length:=by omega
  obtain⟨b0,k0,h5,h6,h7,h8⟩:=Code_get (f:=f) (q:=q) hq1
  have h9:((C2 f).getD q Enc.d).b=b0:=by rw[h8]
  have h10:((C2 f).getD q Enc.d).i=k0:=by rw[h8]
  have h9':((C2 f).getD (addZ 0 (q:Int).toNat) Enc.d).b=b0:=h9
  have h10':((C2 f).getD (addZ 0 (q:Int).toNat) Enc.d).i=k0:=h10
  have h11:=C1_to (f:=f) (q:=q) (by omega)
  have h12:=C1_args (f:=f) (q:=q) (by omega)
  refine lp [10] (fun k:Nat=>[.i .i64 k]) (fun q=>[(2,bx f),(4,bx (Enc.d:FaultE)),(140,oL (C1 f)),(141,oL (C2 f))]) (fun k=>k<=((C1 f).getD q Enc.d).args.length/\ ∀j,j<k->ordC f R T q j=0) (fun k=>((C1 f).getD q Enc.d).args.length-k) 0 ⟨by omega,fun i h=>by omega⟩ ?_ fun k hk=>?_
  ·refine eP [] [] ?_ ?_<;>repeat' first|exact eN|refine And.intro ?_ ?_
  conv=>whnf
  obtain⟨hk,hw⟩:=hk
  have hd:0<=(Def f (((C1 f).getD (addZ 0 (q:Int).toNat) Enc.d).args.getD (k:Int).toNat Enc.d).n).1.b/\(Def f (((C1 f).getD (addZ 0 (q:Int).toNat) Enc.d).args.getD (k:Int).toNat Enc.d).n).1.b<f.blocks.length:=Def_b f _ (by omega)
  have hTl:(T.getD (Def f (((C1 f).getD (addZ 0 (q:Int).toNat) Enc.d).args.getD (k:Int).toNat Enc.d).n).1.b.toNat Enc.d).length=f.blocks.length:=(hT.2 _ (by omega)).1
  repeat' first|(refine iG (fun hb hc=>?_) (fun hb hc=>?_)<;>first|exact hc.elim|(exfalso;omega)|conv=>whnf)|(refine gqs ?_;conv=>whnf)|(refine yt ?_;conv=>whnf)|exact⟨_,.keep rfl rfl⟩|fail
  ·refine .mk (k+1) ⟨by omega,all_step hw (by rw[ordC,if_pos hc])⟩ (by omega) ?_
   refine eP [] [] ?_ ?_<;>repeat' first|exact eN|refine And.intro ?_ ?_
  ·have hA: ¬(¬(((C1 f).getD q Enc.d).args.getD k Enc.d).k=1\/(((C1 f).getD q Enc.d).args.getD k Enc.d).n<f.params.length):=fun h=>h.elim (fun x=>x hc.1) hc.2
   repeat' first|(refine iG (fun hb hc=>?_) (fun hb hc=>?_)<;>first|exact hc.elim|(exfalso;omega)|conv=>whnf)|(refine gqs ?_;conv=>whnf)|(refine gqc (x:=fun _=>Def_S f _ hs) (k:= ?_);conv=>whnf)|(refine gqc (x:=fun _=>at_S _ _ _ _) (k:= ?_);conv=>whnf)|(refine yt ?_;conv=>whnf)|exact⟨_,.keep rfl rfl⟩|fail
   ·refine .mk (k+1) ⟨by omega,all_step hw (by rw[ordC,if_neg hA,if_pos hc])⟩ (by omega) ?_
    refine eP [] [] ?_ ?_<;>repeat' first|exact eN|refine And.intro ?_ ?_
   ·have hB: ¬R.getD ((C2 f).getD q Enc.d).b.toNat Enc.d=false:=bf (by assumption)
    have h13:=hp1 q hq1 hc
    have h14:((C1 f).getD (addZ 0 (q:Int).toNat) Enc.d).to.length=((C1 f).getD q Enc.d).args.length:=h13.symm
    have h15:0<=((C1 f).getD (addZ 0 (q:Int).toNat) Enc.d).to.getD (k:Int).toNat Enc.d/\((C1 f).getD (addZ 0 (q:Int).toNat) Enc.d).to.getD (k:Int).toNat Enc.d<f.blocks.length:=by
     refine hp2 q hq1 hc _ ?_
     show((C1 f).getD q Enc.d).to.getD k Enc.d∈_
     have h16:k<((C1 f).getD q Enc.d).to.length:=by omega
     have h17:((C1 f).getD q Enc.d).to.getD k Enc.d=((C1 f).getD q Enc.d).to[k]:=by rw[List.getD_eq_getElem?_getD (l:=((C1 f).getD q Enc.d).to),List.getElem?_eq_getElem h16];rfl
     rw[h17]
     exact List.getElem_mem _
    have hC:=hc
    refine And.intro (by omega) ?_
    conv=>whnf
    repeat' first|(refine iG (fun hb hc=>?_) (fun hb hc=>?_)<;>first|exact hc.elim|(exfalso;omega)|conv=>whnf)|(refine gqs ?_;conv=>whnf)|(refine gqc (x:=fun _=>at_S _ _ _ _) (k:= ?_);conv=>whnf)|(refine yt ?_;conv=>whnf)|exact⟨_,.keep rfl rfl⟩|fail
    ·refine .mk (k+1) ⟨by omega,all_step hw (by rw[ordC,if_neg hA,if_neg hB,if_pos hC,if_pos hc])⟩ (by omega) ?_
     refine eP [] [] ?_ ?_<;>repeat' first|exact eN|refine And.intro ?_ ?_
    ·have e:ordC f R T q k=11:=by rw[ordC,if_neg hA,if_neg hB,if_pos hC,if_neg (bf (by assumption)),if_pos hc]
     have e2:ordI f n R T q=at2 f n 11 q:=by rw[ordI,firstC_at (c:=ordC f R T q) (by omega) hw (by rw[e];decide)]
     exact⟨_,.keep (by rw[orderF,firstF_at (by omega) hv e2 (by simp)];rfl) rfl⟩
    ·refine .mk (k+1) ⟨by omega,all_step hw (by rw[ordC,if_neg hA,if_neg hB,if_pos hC,if_neg (bf (by assumption)),if_neg (bf hc)])⟩ (by omega) ?_
     refine eP [] [] ?_ ?_<;>repeat' first|exact eN|refine And.intro ?_ ?_
   ·skip
    have hB: ¬R.getD ((C2 f).getD q Enc.d).b.toNat Enc.d=false:=bf (by assumption)
    have hC: ¬((C1 f).getD q Enc.d).op=25:=by assumption
    have hD: ¬((C1 f).getD q Enc.d).op=25/\(Def f (((C1 f).getD q Enc.d).args.getD k Enc.d).n).1.b=((C2 f).getD q Enc.d).b:=by assumption
    have e:ordC f R T q k=11:=by rw[ordC,if_neg hA,if_neg hB,if_neg hC,if_pos hD.2,if_neg hc]
    have e2:ordI f n R T q=at2 f n 11 q:=by rw[ordI,firstC_at (c:=ordC f R T q) (by omega) hw (by rw[e];decide)]
    exact⟨_,.keep (by rw[orderF,firstF_at (by omega) hv e2 (by simp)];rfl) rfl⟩
   ·skip
    have hB: ¬R.getD ((C2 f).getD q Enc.d).b.toNat Enc.d=false:=bf (by assumption)
    have hC: ¬((C1 f).getD q Enc.d).op=25:=by assumption
    have hD: ¬((C1 f).getD q Enc.d).op=25/\(Def f (((C1 f).getD q Enc.d).args.getD k Enc.d).n).1.b=((C2 f).getD q Enc.d).b:=by assumption
    refine .mk (k+1) ⟨by omega,all_step hw (by rw[ordC,if_neg hA,if_neg hB,if_neg hC,if_pos hD.2,if_pos hc])⟩ (by omega) ?_
    refine eP [] [] ?_ ?_<;>repeat' first|exact eN|refine And.intro ?_ ?_
   ·skip
    have hB: ¬R.getD ((C2 f).getD q Enc.d).b.toNat Enc.d=false:=bf (by assumption)
    have hC: ¬((C1 f).getD q Enc.d).op=25:=by assumption
    have hD: ¬(Def f (((C1 f).getD q Enc.d).args.getD k Enc.d).n).1.b=((C2 f).getD q Enc.d).b:=Or.resolve_left (by assumption:((C1 f).getD q Enc.d).op=25\/ ¬(Def f (((C1 f).getD q Enc.d).args.getD k Enc.d).n).1.b=((C2 f).getD q Enc.d).b) hC
    have e:ordC f R T q k=11:=by rw[ordC,if_neg hA,if_neg hB,if_neg hC,if_neg hD,if_pos hc]
    have e2:ordI f n R T q=at2 f n 11 q:=by rw[ordI,firstC_at (c:=ordC f R T q) (by omega) hw (by rw[e];decide)]
    exact⟨_,.keep (by rw[orderF,firstF_at (by omega) hv e2 (by simp)];rfl) rfl⟩
   ·skip
    have hB: ¬R.getD ((C2 f).getD q Enc.d).b.toNat Enc.d=false:=bf (by assumption)
    have hC: ¬((C1 f).getD q Enc.d).op=25:=by assumption
    have hD: ¬(Def f (((C1 f).getD q Enc.d).args.getD k Enc.d).n).1.b=((C2 f).getD q Enc.d).b:=Or.resolve_left (by assumption:((C1 f).getD q Enc.d).op=25\/ ¬(Def f (((C1 f).getD q Enc.d).args.getD k Enc.d).n).1.b=((C2 f).getD q Enc.d).b) hC
    refine .mk (k+1) ⟨by omega,all_step hw (by rw[ordC,if_neg hA,if_neg hB,if_neg hC,if_neg hD,if_neg (bf hc)])⟩ (by omega) ?_
    refine eP [] [] ?_ ?_<;>repeat' first|exact eN|refine And.intro ?_ ?_
  ·have e2:ordI f n R T q=⟨0,⟨0,0,0⟩⟩:=by rw[ordI,firstC_no fun i hi=>hw i (by omega)]
   refine .mk (q+1) ⟨by omega,all_step hv (by rw[e2])⟩ (by omega) ?_
   refine eP [] [] ?_ ?_<;>repeat' first|exact eN|refine And.intro ?_ ?_
 ·exact⟨_,.keep (by rw[orderF,firstF_no fun i hi=>hv i (by omega)];rfl) rfl⟩
theorem firstF_zero {c:Nat->FaultE} {n:Nat} (h:(firstF c n).code=0): ∀i,i<n->(c i).code=0:=fun i hi=>by
 unfold firstF firstC at h
 cases hq:(List.range n).find? (fun i=>!decide ((c i).code=0)) with
 |none=>
  have:=List.find?_eq_none.1 hq i (List.mem_range.2 hi)
  simpa using this
 |some j=>
  rw[hq] at h
  have h2:=List.find?_some hq
  simp only[Bool.not_eq_true',decide_eq_false_iff_not] at h2
  exact absurd h h2
def chk (m:ModE) (R:FnE->List Bool) (T:FnE->List (List Bool)) (f:FnE) (n:Int):FaultE:=
 if(blocksF f n).code=0 then
  if(formsF m f n).code=0 then
   if(registersF f n).code=0 then
    if(operandsF m f n).code=0 then
     if(phisF f n).code=0 then orderF f n (R f) (T f) else phisF f n
    else operandsF m f n
   else registersF f n
  else formsF m f n
 else blocksF f n
def chkN (m:ModE) (R:FnE->List Bool) (T:FnE->List (List Bool)):Nat->FaultE
 |0=>headsF m
 |k+1=>if(chkN m R T k).code=0 then chk m R T (m.funcs.getD k Enc.d) k else chkN m R T k
def CheckF (m:ModE) (R:FnE->List Bool) (T:FnE->List (List Bool)):FaultE:=chkN m R T m.funcs.length
theorem chkN_stay {m : ModE} {R : FnE → List Bool} {T : FnE → List (List Bool)} {k : Nat} (h : (chkN m R T k).code ≠ 0) : ∀ j, k ≤ j → chkN m R T j = chkN m R T k
  | 0, hj => by obtain rfl : k = 0 := by omega
                rfl
  | j + 1, hj => by
    by_cases e : k = j + 1
    · subst e; rfl
    · have ih := chkN_stay h j (by omega)
      rw [chkN, if_neg (by rw [ih]; exact h), ih]
theorem forms_call {m:ModE} {f:FnE} {n:Int} (h:(formsF m f n).code=0) (i:Nat) (hi:i<(Code f).length) (ho:((C1 f).getD i Enc.d).op=30):((C1 f).getD i Enc.d).args.length=(Callee m ((C1 f).getD i Enc.d).n).1.length:=by
 have h1:=firstF_zero h i hi
 unfold formC at h1
 split at h1
 ·simp at h1
 ·split at h1
  ·simp at h1
  ·have h2:typedF m f ((C1 f).getD i Enc.d)=0:=h1
   unfold typedF at h2
   rw[if_neg (by rw[ho];decide),if_pos ho] at h2
   split at h2
   ·simp at h2
   ·split at h2
    ·simp at h2
    ·split at h2
     ·simp at h2
     ·rename_i q;exact(Decidable.not_not.1 q).symm
theorem forms_phi {m:ModE} {f:FnE} {n:Int} (h:(formsF m f n).code=0) (i:Nat) (hi:i<(Code f).length) (ho:((C1 f).getD i Enc.d).op=25):((C1 f).getD i Enc.d).args.length=((C1 f).getD i Enc.d).to.length:=by
 have h1:=firstF_zero h i hi
 unfold formC at h1
 split at h1
 ·simp at h1
 ·rename_i q
  unfold formedF at q
  split at q
  ·exact absurd rfl q
  ·rename_i q2
   have e:many f ((C1 f).getD i Enc.d)=((((C1 f).getD i Enc.d).args.length:Int),(((C1 f).getD i Enc.d).args.length:Int)):=by
    unfold many;rw[if_neg (by rw[ho];decide),if_pos ho]
   rw[e] at q2
   simp only[not_or,Decidable.not_not] at q2
   have:=q2.2
   omega
theorem cnt_mem {f:FnE} {t x:Int} {k:Nat} (h:x∈cnt f t k):0<=x/\x<k:=by
 unfold cnt at h
 obtain⟨c,hc,h⟩:=List.mem_flatMap.1 h
 rw[List.mem_replicate] at h
 have:=List.mem_range.1 hc
 omega
theorem phis_to {f:FnE} {n:Int} (h:(phisF f n).code=0) (i:Nat) (hi:i<(Code f).length) (ho:((C1 f).getD i Enc.d).op=25): ∀t∈((C1 f).getD i Enc.d).to,0<=t/\t<f.blocks.length:=fun t ht=>by
 have h1:=firstF_zero h i hi
 unfold phiC at h1
 rw[if_neg (fun q=>q ho)] at h1
 split at h1
 ·simp at h1
 ·rename_i q
  unfold phiOk at q
  simp only[Bool.not_eq_false,Bool.and_eq_true,decide_eq_true_eq] at q
  rw[q.1.2] at ht
  obtain⟨b,k,h5,_,_,h8⟩:=Code_get hi
  rw[h8] at ht
  simp only[Int.toNat_natCast] at ht
  unfold PredsL at ht
  rw[List.getD_eq_getElem?_getD,List.getElem?_map,List.getElem?_range h5] at ht
  exact cnt_mem ht
theorem fn_le (m:ModE) (i:Nat):siz (m.funcs.getD i Enc.d)<=siz m:=by have:=siz_at m.funcs i;have e:siz m=siz m.vars+siz m.exts+siz m.funcs:=rfl;omega
theorem funcs_le (m:ModE):m.funcs.length<=siz m:=by have:=len_siz m.funcs;have e:siz m=siz m.vars+siz m.exts+siz m.funcs:=rfl;omega
theorem Check_S (m:ModE) (R:FnE->List Bool) (T:FnE->List (List Bool)) (hR: ∀f,isRG f (-1) (R f)) (hT: ∀f,isTab f (T f)) (hs:siz m<4294967296) (hr: ∀b i,inI ((C1 (m.funcs.getD b Enc.d)).getD i Enc.d).n):ASpec Tryz.prog 13 [eS m] (eS (CheckF m R T)) []:=by
 have hsf: ∀i:Nat,siz (m.funcs.getD i Enc.d)<4294967296:=fun i=>Nat.lt_of_le_of_lt (fn_le m i) hs
 have hfl:=funcs_le m
 refine ASpec.enter TYok mixed Tryz.func13 rfl Tryz.call13 Tryz.ntmps13 rfl (rs:=[.cell 2 36]) rfl (nodupB_ok rfl) (Clo.one rfl) (keep:=[0,1,2,3,4,5]) ?_;conv=>whnf
 repeat' first|(refine iG (fun hb hc=>?_) (fun hb hc=>?_)<;>first|exact hc.elim|(exfalso;omega)|conv=>whnf)|(refine gqs ?_;conv=>whnf)|(refine gqc (x:=fun _=>heads_S m hs) (k:= ?_);conv=>whnf)|(refine yt ?_;conv=>whnf)|exact⟨_,.keep rfl rfl⟩|fail
 refine lp [4] (fun q:Nat=>[.i .i64 q]) (fun q=>[(3,bx (chkN m R T q)),(1,bx m),(2,bx (Enc.d:FaultE))]) (fun q=>q<=m.funcs.length) (fun q=>m.funcs.length-q) 0 (by omega) ?_ fun q hq=>?_
 ·refine eP [] [] ?_ ?_<;>repeat' first|exact eN|refine And.intro ?_ ?_
  all_goals skip
 conv=>whnf
 have hq1:=hsf q
 repeat' first|(refine iG (fun hb hc=>?_) (fun hb hc=>?_)<;>first|exact hc.elim|(exfalso;omega)|conv=>whnf)|(refine gqs ?_;conv=>whnf)|(refine gqc (x:=fun _=>blocks_S _ _ hq1) (k:= ?_);conv=>whnf)|(refine gqc (x:=fun _=>forms_S _ _ _ hs hq1 (hr q)) (k:= ?_);conv=>whnf)|(refine gqc (x:=fun _=>registers_S _ _ hq1) (k:= ?_);conv=>whnf)|(refine gqc (x:=fun _=>phis_S _ _ hq1) (k:= ?_);conv=>whnf)|(refine yt ?_;conv=>whnf)|exact⟨_,.keep rfl rfl⟩|fail
 ·have hfo:(formsF m (m.funcs.getD q Enc.d) q).code=0:=by assumption
  repeat' first|(refine iG (fun hb hc=>?_) (fun hb hc=>?_)<;>first|exact hc.elim|(exfalso;omega)|conv=>whnf)|(refine gqs ?_;conv=>whnf)|(refine gqc (x:=fun _=>operands_S _ _ _ hs hq1 (hr q) (forms_call hfo)) (k:= ?_);conv=>whnf)|(refine gqc (x:=fun _=>phis_S _ _ hq1) (k:= ?_);conv=>whnf)|(refine yt ?_;conv=>whnf)|exact⟨_,.keep rfl rfl⟩|fail
  ·have hph:(phisF (m.funcs.getD q Enc.d) q).code=0:=by assumption
   repeat' first|(refine iG (fun hb hc=>?_) (fun hb hc=>?_)<;>first|exact hc.elim|(exfalso;omega)|conv=>whnf)|(refine gqs ?_;conv=>whnf)|(refine gqc (x:=fun _=>order_S _ _ (R (m.funcs.getD q Enc.d)) (T (m.funcs.getD q Enc.d)) (hR _) (hT _) hq1 (forms_phi hfo) (phis_to hph)) (k:= ?_);conv=>whnf)|(refine yt ?_;conv=>whnf)|exact⟨_,.keep rfl rfl⟩|fail
   ·have hz:(q:Int)<m.funcs.length/\(chkN m R T q).code=0:=by assumption
    refine .mk (q+1) (by omega) (by omega) ?_
    have e:chkN m R T (q+1)=orderF (m.funcs.getD q Enc.d) q (R (m.funcs.getD q Enc.d)) (T (m.funcs.getD q Enc.d)):=by rw[chkN,if_pos hz.2,chk,if_pos (show(blocksF (m.funcs.getD q Enc.d) q).code=0 by assumption),if_pos (show(formsF m (m.funcs.getD q Enc.d) q).code=0 by assumption),if_pos (show(registersF (m.funcs.getD q Enc.d) q).code=0 by assumption),if_pos (show(operandsF m (m.funcs.getD q Enc.d) q).code=0 by assumption),if_pos (show(phisF (m.funcs.getD q Enc.d) q).code=0 by assumption)]
    refine eP [] [] ?_ ?_<;>repeat' first|exact eN|refine And.intro ?_ ?_
    all_goals (rw[e];rfl)
  ·have hz:(q:Int)<m.funcs.length/\(chkN m R T q).code=0:=by assumption
   refine .mk (q+1) (by omega) (by omega) ?_
   have e:chkN m R T (q+1)=phisF (m.funcs.getD q Enc.d) q:=by rw[chkN,if_pos hz.2,chk,if_pos (show(blocksF (m.funcs.getD q Enc.d) q).code=0 by assumption),if_pos (show(formsF m (m.funcs.getD q Enc.d) q).code=0 by assumption),if_pos (show(registersF (m.funcs.getD q Enc.d) q).code=0 by assumption),if_pos (show(operandsF m (m.funcs.getD q Enc.d) q).code=0 by assumption),if_neg (show¬(phisF (m.funcs.getD q Enc.d) q).code=0 by assumption)]
   refine eP [] [] ?_ ?_<;>repeat' first|exact eN|refine And.intro ?_ ?_
   all_goals (rw[e];rfl)
  ·have hz:(q:Int)<m.funcs.length/\(chkN m R T q).code=0:=by assumption
   refine .mk (q+1) (by omega) (by omega) ?_
   have e:chkN m R T (q+1)=operandsF m (m.funcs.getD q Enc.d) q:=by rw[chkN,if_pos hz.2,chk,if_pos (show(blocksF (m.funcs.getD q Enc.d) q).code=0 by assumption),if_pos (show(formsF m (m.funcs.getD q Enc.d) q).code=0 by assumption),if_pos (show(registersF (m.funcs.getD q Enc.d) q).code=0 by assumption),if_neg (show¬(operandsF m (m.funcs.getD q Enc.d) q).code=0 by assumption)]
   refine eP [] [] ?_ ?_<;>repeat' first|exact eN|refine And.intro ?_ ?_
   all_goals (rw[e];rfl)
 ·have hz:(q:Int)<m.funcs.length/\(chkN m R T q).code=0:=by assumption
  refine .mk (q+1) (by omega) (by omega) ?_
  have e:chkN m R T (q+1)=registersF (m.funcs.getD q Enc.d) q:=by rw[chkN,if_pos hz.2,chk,if_pos (show(blocksF (m.funcs.getD q Enc.d) q).code=0 by assumption),if_pos (show(formsF m (m.funcs.getD q Enc.d) q).code=0 by assumption),if_neg (show¬(registersF (m.funcs.getD q Enc.d) q).code=0 by assumption)]
  refine eP [] [] ?_ ?_<;>repeat' first|exact eN|refine And.intro ?_ ?_
  all_goals (rw[e];rfl)
 ·have hz:(q:Int)<m.funcs.length/\(chkN m R T q).code=0:=by assumption
  refine .mk (q+1) (by omega) (by omega) ?_
  have e:chkN m R T (q+1)=formsF m (m.funcs.getD q Enc.d) q:=by rw[chkN,if_pos hz.2,chk,if_pos (show(blocksF (m.funcs.getD q Enc.d) q).code=0 by assumption),if_neg (show¬(formsF m (m.funcs.getD q Enc.d) q).code=0 by assumption)]
  refine eP [] [] ?_ ?_<;>repeat' first|exact eN|refine And.intro ?_ ?_
  all_goals (rw[e];rfl)
 ·have hz:(q:Int)<m.funcs.length/\(chkN m R T q).code=0:=by assumption
  refine .mk (q+1) (by omega) (by omega) ?_
  have e:chkN m R T (q+1)=blocksF (m.funcs.getD q Enc.d) q:=by rw[chkN,if_pos hz.2,chk,if_neg (show¬(blocksF (m.funcs.getD q Enc.d) q).code=0 by assumption)]
  refine eP [] [] ?_ ?_<;>repeat' first|exact eN|refine And.intro ?_ ?_
  all_goals (rw[e];rfl)
 ·have e:CheckF m R T=chkN m R T q:=by
   unfold CheckF
   rcases hc with h|h
   ·rw[show m.funcs.length=q by omega]
   ·exact chkN_stay h _ hq
  exact⟨_,.keep (by rw[e];rfl) rfl⟩
def vflt (c:Int) (p:Plc):AV:= .ifc 72 (.agg [.i .i64 c,.i .i64 p.f,.i .i64 p.b,.i .i64 p.i])
theorem must_O (ok:Bool) (c:Int) (p:Plc):ASpecO true Tryz.prog 50 [.b ok,.i .i64 c,eS p] [] (ok=true) (.tup []) [] (vflt c p) []:=by
 refine ASpecO.enter TYok mixed Tryz.func50 rfl Tryz.call50 Tryz.ntmps50 rfl (rs:=[]) rfl (Clo.one rfl) (Clo.one rfl) rfl (keep:=[0,1,2,5]) fun pin=>?_;conv=>whnf
 repeat' first|(refine iG (fun hb hc=>?_) (fun hb hc=>?_)<;>first|exact hc.elim|(exfalso;omega)|conv=>whnf)|(refine gqs ?_;conv=>whnf)|(refine yt ?_;conv=>whnf)|exact⟨_,.keep rfl rfl⟩|fail
 ·refine⟨by simp[hc],[],[],?_,?_,rfl⟩<;>repeat' first|exact eN|refine And.intro ?_ ?_
 ·(first|refine⟨hc,?_⟩|skip);(try conv=>whnf);refine⟨[],[],?_,?_,rfl⟩<;>repeat' first|exact eN|refine And.intro ?_ ?_
theorem pzV {F c:Int} {p:Plc} {pin:Nat->Nat} {os o:Os} (e:F=c) (hc:c≠0:=by decide): ¬F=0/\ ∃ρ nl,mat ρ nl (vflt c p) (vflt F p)/\entO ρ nl o (pinN pin os [])/\(nodupB (srcs ρ nl (pinN pin os []))&&nodupB (keysN []))=true:=by
 subst e
 exact⟨hc,[],[],⟨rfl,rfl,rfl,rfl,trivial⟩,trivial,rfl⟩
theorem rtV {T:TT} {t:Prop} {pin:Nat->Nat} {s:Sl} {o:Os} (h:t):t/\RetM T [] pin [] s o (.tup []) []:=by
 refine⟨h,?_⟩
 unfold RetM retA retsK
 exact⟨[],[],trivial,trivial,rfl⟩
def firstV (c:Nat->Int) (N:Nat):Int:=match firstC c N with
 |some k=>c k
 |none=>0
theorem firstV_at {c:Nat->Int} {N q:Nat} (hq:q<N) (hv: ∀i,i<q->c i=0) (h:c q≠0):firstV c N=c q:=by unfold firstV;rw[firstC_at hq hv h]
theorem pzF {c:Nat->Int} {N q:Nat} {e:Int} {p:Plc} {pin:Nat->Nat} {os o:Os} (hq:q<N) (hv: ∀i,i<q->c i=0) (h:c q=e) (he:e≠0:=by decide):(¬∀k,k<N->c k=0)/\ ∃ρ nl,mat ρ nl (vflt e p) (vflt (firstV c N) p)/\entO ρ nl o (pinN pin os [])/\(nodupB (srcs ρ nl (pinN pin os []))&&nodupB (keysN []))=true:=by
 subst h
 rw[firstV_at hq hv he]
 exact⟨fun h=>he (h q hq),[],[],⟨rfl,rfl,rfl,rfl,trivial⟩,trivial,rfl⟩
def letB (c:Int):Bool:=(decide (97<=c)&&decide (c<=122))||decide (c=95)
def digB (c:Int):Bool:=decide (48<=c)&&decide (c<=57)
theorem letter_S (c:Int):ASpec Tryz.prog 93 [.i .u8 c] (.b (letB c)) []:=by
 refine ASpec.enter TYok mixed Tryz.func93 rfl Tryz.call93 Tryz.ntmps93 rfl (rs:=[.tmp 2]) rfl (nodupB_ok rfl) (Clo.one rfl) (keep:=[0,2]) ?_;conv=>whnf
 repeat' first|(refine iG (fun hb hc=>?_) (fun hb hc=>?_)<;>first|exact hc.elim|(exfalso;omega)|conv=>whnf)|(refine gqs ?_;conv=>whnf)|(refine yt ?_;conv=>whnf)|exact⟨_,.keep rfl rfl⟩|fail
theorem digit_S (c:Int):ASpec Tryz.prog 109 [.i .u8 c] (.b (digB c)) []:=by
 refine ASpec.enter TYok mixed Tryz.func109 rfl Tryz.call109 Tryz.ntmps109 rfl (rs:=[.tmp 2]) rfl (nodupB_ok rfl) (Clo.one rfl) (keep:=[0,2]) ?_;conv=>whnf
 repeat' first|(refine iG (fun hb hc=>?_) (fun hb hc=>?_)<;>first|exact hc.elim|(exfalso;omega)|conv=>whnf)|(refine gqs ?_;conv=>whnf)|(refine yt ?_;conv=>whnf)|exact⟨_,.keep rfl rfl⟩|fail
theorem kp_eq (s:ByteArray) (j:Nat):kp s j=(decide ((j:Int)<s.size)&&(letB (byteAt s j)||digB (byteAt s j))):=by
 rw[Bool.eq_iff_iff]
 unfold kp kindB letB digB
 simp only[Bool.not_eq_true',decide_eq_false_iff_not,Bool.and_eq_true,Bool.or_eq_true,decide_eq_true_eq]
 repeat' split
 all_goals omega
theorem kp_no {s:ByteArray} {j:Nat} (h:s.size<=j):kp s j=false:=by
 rw[kp_eq,decide_eq_false (by omega)];rfl
theorem runN_more {p:Nat->Bool} {n:Nat} (hp: ∀j,n<=j->p j=false): ∀f a,n<=a+f->runN p (f+1) a=runN p f a
 |0,a,h=>by show(bif p a then runN p 0 (a+1)+1 else 0)=0;rw[hp a (by omega)];rfl
 |f+1,a,h=>by
  rw[runN,runN_more hp f (a+1) (by omega)];rfl
theorem behind_S (s:ByteArray) (i:Nat) (hi:i<=s.size) (hs:s.size<4294967296):ASpec Tryz.prog 94 [.s s,.i .i64 i] (.i .i64 ((i+runN (kp s) s.size i:Nat):Int)) []:=by
 refine ASpec.enter TYok mixed Tryz.func94 rfl Tryz.call94 Tryz.ntmps94 rfl (rs:=[.tmp 4]) rfl (nodupB_ok rfl) (Clo.one rfl) (keep:=[0,1,4]) ?_;conv=>whnf
 refine lp [1] (fun q:Nat=>[.i .i64 (i+q:Nat)]) (fun q=>[]) (fun q=>i+q<=s.size/\ ∀j,j<q->kp s (i+j)=true) (fun q=>s.size-q) 0 ⟨by omega,fun j h=>by omega⟩ ?_ fun q hq=>?_
 ·refine eP [] [] ?_ ?_<;>repeat' first|exact eN|refine And.intro ?_ ?_
 conv=>whnf
 obtain⟨hq,hv⟩:=hq
 have e:=kp_eq s (i+q)
 repeat' first|(refine iG (fun hb hc=>?_) (fun hb hc=>?_)<;>first|exact hc.elim|(exfalso;omega)|conv=>whnf)|(refine gqs ?_;conv=>whnf)|(refine gqc (x:=fun _=>letter_S _) (k:= ?_);conv=>whnf)|(refine gqc (x:=fun _=>digit_S _) (k:= ?_);conv=>whnf)|(refine yt ?_;conv=>whnf)|exact⟨_,.keep rfl rfl⟩|fail
 ·refine .mk (q+1) ⟨by omega,all_step hv ?_⟩ (by omega) ?_
  ·rw[e];exact hb
  ·refine eP [] [] ?_ ?_<;>repeat' first|exact eN|refine And.intro ?_ ?_
 ·refine⟨_,.keep (congrArg (AV.i _) ?_) rfl⟩
  rw[runN_eq (q:=q) (by omega) hv (by rw[e];exact hb)]
theorem lexWord_S (s:ByteArray) (hs:s.size<4294967296):ASpec Tryz.prog 51 [.s s] (.b (Word s)) []:=by
 refine ASpec.enter TYok mixed Tryz.func51 rfl Tryz.call51 Tryz.ntmps51 rfl (rs:=[.tmp 2]) rfl (nodupB_ok rfl) (Clo.one rfl) (keep:=[0,2]) ?_;conv=>whnf
 by_cases hz:s.size=0
 ·have e:s=⟨#[]⟩:=by
   obtain⟨a⟩:=s
   exact congrArg ByteArray.mk (Array.eq_empty_of_size_eq_zero hz)
  subst e
  repeat' first|(refine iG (fun hb hc=>?_) (fun hb hc=>?_)<;>first|exact hc.elim|(exfalso;omega)|conv=>whnf)|(refine gqs ?_;conv=>whnf)|(refine gqc (x:=fun _=>letter_S _) (k:= ?_);conv=>whnf)|(refine gqc (x:=fun _=>behind_S _ 0 (by omega) hs) (k:= ?_);conv=>whnf)|(refine yt ?_;conv=>whnf)|exact⟨_,.keep rfl rfl⟩|fail
 ·have h0:decide (s=⟨#[]⟩)=false:=decide_eq_false fun e=>hz (by rw[e];rfl)
  have h1:0<s.size:=by omega
  have e:Word s=(letB (byteAt s 0)&&decide (((0+runN (kp s) s.size 0:Nat):Int)=s.size)):=by
   have hk:=kp_eq s 0
   obtain⟨n,hn⟩: ∃n,s.size=n+1:=⟨s.size-1,by omega⟩
   have hm:=runN_more (p:=kp s) (n:=s.size) (fun j h=>kp_no h) n 1 (by omega)
   unfold Word wordN
   rw[decide_eq_true (by omega:(0:Int)<s.size),Bool.true_and]
   have hkb:letB (byteAt s 0)=decide (kindB s 0=1):=by
    unfold letB kindB
    rw[Bool.eq_iff_iff]
    simp only[Bool.and_eq_true,Bool.or_eq_true,decide_eq_true_eq]
    repeat' split
    all_goals omega
   show decide ((((if kindB s 0=1 then runN (kp s) s.size 1+1 else 0:Nat)):Int)=s.size)=_
   rw[hkb]
   by_cases h1:kindB s 0=1
   ·rw[if_pos h1,decide_eq_true h1,Bool.true_and]
    have hk0:kp s 0=true:=by unfold kp;rw[show kindB s ((0:Nat):Int)=1 from h1];rfl
    have h2:runN (kp s) s.size 0=runN (kp s) s.size 1+1:=by
     rw[hn,hm]
     show(bif kp s 0 then runN (kp s) n 1+1 else 0)=_
     rw[hk0];rfl
    rw[h2,Nat.zero_add]
   ·rw[if_neg h1,decide_eq_false h1,Bool.false_and,decide_eq_false (by omega)]
  rw[e]
  repeat' first|(refine iG (fun hb hc=>?_) (fun hb hc=>?_)<;>first|exact hc.elim|(exfalso;omega)|conv=>whnf)|(refine gqs ?_;conv=>whnf)|(refine gqc (x:=fun _=>letter_S _) (k:= ?_);conv=>whnf)|(refine gqc (x:=fun _=>behind_S _ 0 (by omega) hs) (k:= ?_);conv=>whnf)|(refine yt ?_;conv=>whnf)|exact⟨_,.keep rfl rfl⟩|fail
  exact⟨_,.keep (congrArg AV.b (by simp only[pickB_and,h0,Bool.not_false,Bool.true_and])) rfl⟩
end Go.Proofs.YtnfdieeaelhpbaaGreatDoor
namespace Go.Proofs.YtnfdieeaelhpbaaGreatDoor.Pl
open Go.RowKit
set_option linter.unusedVariables false
def flags (op:Int):Int:=if op=1\/op=2\/op=3\/op=11 then 3 else if op=4\/op=5\/op=12\/op=13 then 4 else 0
def sgn (n:Nat) (v:Int):Int:=Int.bmod v (2^n)
def mask (t:Int):Int:=if 1<=t/\t<=64 then((2^t.toNat-1:Nat):Int) else 0
def signed (t v:Int):Int:=if 1<=t/\t<=64 then sgn t.toNat v else 0
theorem mask_out {t:Int} (h: ¬(1<=t/\t<=64)):mask t=0:=if_neg h
theorem signed_out {t v:Int} (h: ¬(1<=t/\t<=64)):signed t v=0:=if_neg h
theorem mask_in {n:Nat} (h:1<=n) (h':n<=64):mask n=((2^n-1:Nat):Int):=if_pos (by omega)
theorem signed_in {n:Nat} {v:Int} (h:1<=n) (h':n<=64):signed n v=sgn n v:=if_pos (by omega)
def fitsU (n:Nat) (z:Int):Bool:=decide (0<=z/\z<2^n)
def fitsS (n:Nat) (z:Int):Bool:=decide (-2^(n-1)<=z/\z<2^(n-1))
theorem pow_le {n:Nat} (h:n<=64):2^n<=18446744073709551616:=by
 have:=Nat.pow_le_pow_right (n:=2) (by omega) h
 simpa using this
theorem pow_split {n:Nat} (h:n<=64):2^(64-n)*2^n=18446744073709551616:=by
 rw[<-Nat.pow_add,show 64-n+n=64 from by omega]
theorem pow_pos (n:Nat):0<2^n:=Nat.pow_pos (by omega)
theorem pow_half {n:Nat} (h:1<=n):2^n=2*2^(n-1):=by
 conv=>lhs;rw[show n=(n-1)+1 from by omega,Nat.pow_succ]
 omega
theorem mask_nat {n:Nat} (h':n<=64):18446744073709551615/2^(64-n)=2^n-1:=by
 have hp:=pow_split h'
 have h0:=pow_pos n
 have h1:=pow_pos (64-n)
 generalize 2^(64-n)=a at*
 generalize 2^n=b at*
 obtain⟨c,rfl⟩: ∃c,b=c+1:=⟨b-1,by omega⟩
 rw[Nat.mul_add,Nat.mul_one] at hp
 have e:18446744073709551615=a*c+(a-1):=by omega
 rw[e,Nat.mul_add_div h1,Nat.div_eq_of_lt (by omega)]
 rfl
theorem mask_eq {n:Nat} (h':n<=64):(18446744073709551615:Int)/2^((64:Int)-(n:Int)).toNat=((2^n-1:Nat):Int):=by
 have e:((64:Int)-(n:Int)).toNat=64-n:=by omega
 rw[e,<-mask_nat h',Int.natCast_ediv,Int.natCast_pow]
 rfl
theorem signed_eq {n:Nat} (h:1<=n) (h':n<=64) (v:Int):
  wrap64 (IntKind.u64.wrap (v*2^((64:Int)-(n:Int)).toNat))/2^((64:Int)-(n:Int)).toNat=sgn n v:=by
 have e:((64:Int)-(n:Int)).toNat=64-n:=by omega
 have w: ∀x:Int,wrap64 (IntKind.u64.wrap x)=Int.bmod x 18446744073709551616:=by
  intro x;rw[IntKind.wrap_u64];unfold wrap64;simp only[Int.bmod];omega
 rw[e,w]
 have hp:=pow_split h'
 have h1:=pow_pos (64-n)
 have hh:=pow_half h
 have hb:=pow_pos (n-1)
 unfold sgn
 rw[show(18446744073709551616:Nat)=2^n*2^(64-n) from by rw[Nat.mul_comm];exact hp.symm]
 have:(v*2^(64-n)).bmod (2^n*2^(64-n))=v.bmod (2^n)*((2^(64-n):Nat):Int):=by
  rw[show((2:Int)^(64-n))=((2^(64-n):Nat):Int) from by norm_cast]
  generalize 2^(64-n)=a at*
  rw[hh]
  generalize 2^(n-1)=b at*
  have l0:=Int.le_bmod (x:=v) (m:=2*b) (by omega)
  have l1:=Int.bmod_lt (x:=v) (m:=2*b) (by omega)
  have l2:((2*b:Nat):Int)∣v.bmod (2*b)-v:=((Int.bmod_eq_iff (a:=v) (b:=2*b) (c:=v.bmod (2*b)) (by omega)).1 rfl).2.2
  generalize v.bmod (2*b)=r at*
  have l3: -(b:Int)<=r:=by omega
  have l4:r<b:=by omega
  have ha:(0:Int)<a:=by omega
  have m1:=Int.mul_le_mul_of_nonneg_right l3 (Int.le_of_lt ha)
  have m2:=Int.mul_lt_mul_of_pos_right l4 ha
  have m3:((2*b*a:Nat):Int)=2*((b:Int)*a):=by simp[Int.mul_assoc]
  rw[Int.neg_mul] at m1
  have m4:0<2*b*a:=Nat.mul_pos (by omega) h1
  refine(Int.bmod_eq_iff m4).2 ⟨?_,?_,?_⟩
  ·rw[m3];omega
  ·rw[m3];omega
  ·rw[<-Int.sub_mul,Int.natCast_mul];exact Int.mul_dvd_mul_right _ l2
 rw[this,show((2:Int)^(64-n))=((2^(64-n):Nat):Int) from by norm_cast]
 exact Int.mul_ediv_cancel _ (by omega)
def nsw (f:Int):Bool:=f==1||f==3
def nuw (f:Int):Bool:=f==2||f==3
def over (n:Nat) (f E S:Int):Bool:=nuw f&& !fitsU n E||nsw f&& !fitsS n S
def opI (op x y:Int):Int:=if op=1 then x+y else if op=2 then x-y else x*y
def ring (op:Int) (n:Nat) (f a b:Int):Int×Int:=
 bif over n f (opI op a b) (opI op (sgn n a) (sgn n b)) then(0,1) else(opI op a b % 18446744073709551616,0)
def divR (op f q r:Int):Int×Int:=if op=6\/op=7 then(r % 18446744073709551616,0) else if f=4/\r≠0 then(0,1) else(q % 18446744073709551616,0)
def div (op:Int) (n:Nat) (f a b:Int):Int×Int:=
 if b=0 then(0,2) else if op=4\/op=6 then divR op f (a/b) (a % b)
 else if sgn n b= -1/\a=2^(n-1) then(0,2) else divR op f ((sgn n a).tdiv (sgn n b)) ((sgn n a).tmod (sgn n b))
theorem pow_cast (n:Nat):((2^n:Nat):Int)=(2:Int)^n:=by norm_cast
theorem pow_split_int {n:Nat} (h:n<=64):(2:Int)^n*2^(64-n)=18446744073709551616:=by
 rw[<-Int.pow_add,show n+(64-n)=64 by omega];rfl
def shift (op:Int) (n:Nat) (f a b:Int):Int×Int:=
 if(n:Int)<=b then(0,1)
 else if op=11 then(bif over n f (a*2^b.toNat) (sgn n a*2^b.toNat) then(0,1) else(a*2^b.toNat % 2^n,0))
 else bif f==4&&a % 2^b.toNat !=0 then(0,1)
 else if op=12 then(a/2^b.toNat,0) else(sgn n a/2^b.toNat % 18446744073709551616,0)
theorem and_mask {n:Nat} {z:Int} (h:1<=n) (h':n<=64) (hz:0<=z) (hz':z<18446744073709551616):bits .and .u64 z (mask n)=z % 2^n:=by
 obtain⟨a,rfl⟩:=Int.eq_ofNat_of_zero_le hz
 have:=pow_le h'
 rw[mask_in h h',u64_and_nat a (2^n-1) (by omega) (by omega),Nat.and_two_pow_sub_one_eq_mod,Int.natCast_emod,pow_cast]
theorem emod_pow {n:Nat} (h':n<=64) (z:Int):z % 18446744073709551616 % 2^n=z % 2^n:=by
 exact Int.emod_emod_of_dvd _ ⟨2^(64-n),(pow_split_int h').symm⟩
theorem and_mask_wrap {n:Nat} (h:1<=n) (h':n<=64) (z:Int):bits .and .u64 (IntKind.u64.wrap z) (mask n)=z % 2^n:=by
 rw[IntKind.wrap_u64,and_mask h h' (by omega) (by omega),emod_pow h']
def bitw (op a b:Int):Int:=if op=8 then bits .and .u64 a b else if op=9 then bits .or .u64 a b else bits .xor .u64 a b
def cmp (op:Int) (n:Nat) (a b:Int):Bool:=
 if op=14 then a==b else if op=15 then a !=b else if op=16 then decide (a<b) else if op=17 then decide (a<=b) else if op=18 then decide (sgn n a<sgn n b) else decide (sgn n a<=sgn n b)
def core (op:Int) (n:Nat) (f a b:Int):Int×Int:=
 if op<=3 then ring op n f a b else if op<=7 then div op n f a b else if op<=10 then(bitw op a b,0) else if op<=13 then shift op n f a b else(bif cmp op n a b then 1 else 0,0)
def cutR (n:Nat) (p:Int×Int):Int×Int:=bif p.2 !=0 then(0,p.2) else(p.1 % 2^n,0)
def badA (op w f:Int):Bool:=mask w==0||decide (op<1)||decide (19<op)||bits .andNot .i64 f (flags op) !=0
def apply(op w f a b:Int):Int×Int:=
 bif badA op w f then(0,3) else cutR w.toNat (core op w.toNat f (a % 2^w.toNat) (b % 2^w.toNat))
def conv (op p q v:Int):Int×Bool:=
 if mask p=0\/mask q=0 then(0,false)
 else if op=20/\p<q then(v % 2^p.toNat,true) else if op=21/\p<q then(sgn p.toNat v % 2^q.toNat,true) else if op=22/\q<p then(v % 2^q.toNat,true) else(0,false)
theorem mask_zero {t:Int}:mask t=0↔ ¬(1<=t/\t<=64):=by
 constructor
 ·intro h hc
  obtain⟨n,rfl⟩:=Int.eq_ofNat_of_zero_le (show 0<=t by omega)
  rw[mask_in (by omega) (by omega)] at h
  have:=pow_half (n:=n) (by omega)
  have:=pow_pos (n-1)
  omega
 ·exact mask_out
theorem and_maskI {t z:Int} (h: ¬mask t=0) (hz:0<=z) (hz':z<18446744073709551616):bits .and .u64 z (mask t)=z % 2^t.toNat:=by
 have h':1<=t/\t<=64:=by
  by_cases c:1<=t/\t<=64
  ·exact c
  ·exact absurd (mask_out c) h
 obtain⟨n,rfl⟩:=Int.eq_ofNat_of_zero_le (show 0<=t by omega)
 rw[Int.toNat_natCast]
 exact and_mask (by omega) (by omega) hz hz'
theorem and_maskW {t z:Int} (h: ¬mask t=0):bits .and .u64 (IntKind.u64.wrap z) (mask t)=z % 2^t.toNat:=by
 have h':1<=t/\t<=64:=by
  by_cases c:1<=t/\t<=64
  ·exact c
  ·exact absurd (mask_out c) h
 obtain⟨n,rfl⟩:=Int.eq_ofNat_of_zero_le (show 0<=t by omega)
 rw[Int.toNat_natCast]
 exact and_mask_wrap (by omega) (by omega) z
theorem signedI {t z:Int} (h: ¬mask t=0):signed t z=sgn t.toNat z:=by
 have h':1<=t/\t<=64:=by
  by_cases c:1<=t/\t<=64
  ·exact c
  ·exact absurd (mask_out c) h
 exact if_pos h'
structure Vl where
 k:Int
 b:Int
 bl:Int
 off:Int
 deriving DecidableEq
def Vl.cells (v:Vl):List Value:=[.int .i64 v.k,.int .u64 v.b,.int .i64 v.bl,.int .i64 v.off]
def Vl.val (v:Vl):Value:= .agg v.cells.toArray
def Vl.zero:Vl:=⟨0,0,0,0⟩
def count (t:Int):Int:=if t=65 then 8 else if 1<=t/\t<=64 then(t+7)/8 else 0
theorem nz {z:Int} (h:(z==0)=false): ¬z=0:=by simpa using h
theorem nz' {k:Int} {z:Int} (h:(k==1&&z !=0)=true): ¬z=0:=by simp at h;exact h.2
def any:Vl:=⟨3,0,0,0⟩
def chosen (a b c:Vl):Vl:=
 bif a.k==0 then Vl.zero else bif a.k==1&&a.b==1 then b else bif a.k==1 then c else bif decide (b=c) then b else bif b.k==0||c.k==0 then Vl.zero else any
end Go.Proofs.YtnfdieeaelhpbaaGreatDoor.Pl

namespace Go.Proofs.YtnfdieeaelhpbaaGreatDoor
open Go.RowKit
theorem min_sh {n:Nat} (h:n<=64):min ((64:Int)-n).toNat IntKind.u64.bits=((64:Int)-n).toNat/\min ((64:Int)-n).toNat IntKind.i64.bits=((64:Int)-n).toNat:=by
 simp only[IntKind.bits];omega
theorem w64 (z:Int):IntKind.i64.wrap z=wrap64 z:=by rw[IntKind.wrap_i64];unfold wrap64;omega
theorem Mask_P (w:Int):ASpec Tryz.prog 60 [.i .i64 w] (.i .u64 (Pl.mask w)) []:=by
 refine ASpec.enter TYok mixed Tryz.func60 rfl Tryz.call60 Tryz.ntmps60 rfl (rs:=[.tmp 2]) rfl (nodupB_ok rfl) (Clo.one rfl) (keep:=[0,2]) ?_;conv=>whnf
 repeat' first|(refine iG (fun hb hc=>?_) (fun hb hc=>?_)<;>first|exact hc.elim|(exfalso;omega)|conv=>whnf)|(refine gqs ?_;conv=>whnf)|(refine yt ?_;conv=>whnf)|exact⟨_,.keep rfl rfl⟩|fail
 ·exact⟨_,.keep (by rw[Pl.mask_out (by omega)]) rfl⟩
 obtain⟨n,rfl⟩:=Int.eq_ofNat_of_zero_le (show 0<=w by omega)
 refine⟨_,.keep ?_ rfl⟩
 rw[Pl.mask_in (by omega) (by omega),<-Pl.mask_eq (by omega),(min_sh (by omega)).1]
theorem Flags_P (op:Int):ASpec Tryz.prog 56 [.i .i64 op] (.i .i64 (Pl.flags op)) []:=by
 refine ASpec.enter TYok mixed Tryz.func56 rfl Tryz.call56 Tryz.ntmps56 rfl (rs:=[.tmp 2]) rfl (nodupB_ok rfl) (Clo.one rfl) (keep:=[0,2,3]) ?_;conv=>whnf
 repeat' first|(refine iG (fun hb hc=>?_) (fun hb hc=>?_)<;>first|exact hc.elim|(exfalso;omega)|conv=>whnf)|(refine gqs ?_;conv=>whnf)|(refine yt ?_;conv=>whnf)|exact⟨_,.keep rfl rfl⟩|fail
 all_goals exact⟨_,.keep (by(try simp only[pickB_or,pickB_and]);unfold Pl.flags;repeat' (first|rfl|omega|split|(simp_all;done))) rfl⟩
theorem Signed_P (w v:Int):ASpec Tryz.prog 123 [.i .i64 w,.i .u64 v] (.i .i64 (Pl.signed w v)) []:=by
 refine ASpec.enter TYok mixed Tryz.func123 rfl Tryz.call123 Tryz.ntmps123 rfl (rs:=[.tmp 4]) rfl (nodupB_ok rfl) (Clo.one rfl) (keep:=[0,1,4]) ?_;conv=>whnf
 repeat' first|(refine iG (fun hb hc=>?_) (fun hb hc=>?_)<;>first|exact hc.elim|(exfalso;omega)|conv=>whnf)|(refine gqw ?_;conv=>whnf)|(refine yt ?_;conv=>whnf)|exact⟨_,.keep rfl rfl⟩|fail
 ·exact⟨_,.keep (by rw[Pl.signed_out (by omega)]) rfl⟩
 obtain⟨n,rfl⟩:=Int.eq_ofNat_of_zero_le (show 0<=w by omega)
 refine⟨_,.keep ?_ rfl⟩
 rw[Pl.signed_in (by omega) (by omega),<-Pl.signed_eq (by omega) (by omega),(min_sh (by omega)).1,(min_sh (by omega)).2,w64]

theorem Convert_P (op p q v:Int) (hv:0<=v) (hv':v<18446744073709551616):ASpec Tryz.prog 96 [.i .i64 op,.i .i64 p,.i .i64 q,.i .u64 v] (.tup [.i .u64 (Pl.conv op p q v).1,.b (Pl.conv op p q v).2]) []:=by
 have key: ∀ {x:Int} {y:Bool},Pl.conv op p q v=(x,y)->AV.tup [.i .u64 x,.b y]= .tup [.i .u64 (Pl.conv op p q v).1,.b (Pl.conv op p q v).2]:=fun h=>by rw[h]
 refine ASpec.enter TYok mixed Tryz.func96 rfl Tryz.call96 Tryz.ntmps96 rfl (rs:=[.tmp 8,.tmp 9]) rfl (nodupB_ok rfl) (Clo.one rfl) (keep:=[0,1,2,3,8,9]) ?_;conv=>whnf
 repeat' first|(refine iG (fun hb hc=>?_) (fun hb hc=>?_)<;>first|exact hc.elim|(exfalso;omega)|conv=>whnf)|(refine gqw ?_;conv=>whnf)|(refine gqc (x:=fun _=>Mask_P _) (k:= ?_);conv=>whnf)|(refine gqc (x:=fun _=>Signed_P _ _) (k:= ?_);conv=>whnf)|(refine yt ?_;conv=>whnf)|exact⟨_,.keep rfl rfl⟩|fail
 all_goals refine⟨_,.keep (key ?_) rfl⟩
 all_goals unfold Pl.conv
 ·rw[if_pos hc]
 ·rw[if_neg (by omega),if_pos hc,Pl.and_maskI (by omega) hv hv']
 ·rw[if_neg (by omega),if_neg (by omega),if_pos hc,Pl.and_maskW (by omega),Pl.signedI (by omega)]
 ·rw[if_neg (by omega),if_neg (by omega),if_neg (by omega),if_pos hc,Pl.and_maskI (by omega) hv hv']
 ·rw[if_neg (by omega),if_neg (by omega),if_neg (by omega),if_neg (by omega)]
theorem flags_eq (op:Int):Pl.flags op=Flags op:=by
 unfold Pl.flags Flags
 repeat' split
 all_goals first|rfl|omega
theorem CloneI_F (l:List Int) (hl:l.length<4294967296):ASpec Tryz.prog 122 [eL l] (eL l) []:=oL_frz (fun _=>rfl) (CloneI_S 1000 l hl)
theorem irCallee_S (m:ModE) (n:Int) (hm:siz m<4294967296) (hn: -9223372036854775808<=n) (hn2:n<=9223372036854775807):ASpec Tryz.prog 92 [eS m,.i .i64 n] (.tup [eL (Callee m n).1,.i .i64 (Callee m n).2.1,.b (Callee m n).2.2]) []:=by
 have h1:=len_siz m.funcs
 have h2:=len_siz m.exts
 have h3:siz m=siz m.vars+siz m.exts+siz m.funcs:=rfl
 have h4:n.toNat<m.funcs.length->(m.funcs.getD n.toNat Enc.d).params.length<4294967296:=fun _=>by
  have:=siz_at m.funcs n.toNat
  have:=params_le (m.funcs.getD n.toNat Enc.d)
  omega
 have h5: ∀k,(m.exts.getD k Enc.d).params.length<4294967296:=fun k=>by
  have:=siz_at m.exts k
  have:=len_siz (m.exts.getD k Enc.d).params
  have:siz (m.exts.getD k Enc.d)=siz (m.exts.getD k Enc.d).name+siz (m.exts.getD k Enc.d).params:=rfl
  omega
 refine ASpec.enter TYok mixed Tryz.func92 rfl Tryz.call92 Tryz.ntmps92 rfl (rs:=[.tmp 4,.tmp 5,.tmp 6]) rfl (nodupB_ok rfl) (Clo.one rfl) (keep:=[0,1,2,4,5,6]) ?_;conv=>whnf
 repeat' first|(refine iG (fun hb hc=>?_) (fun hb hc=>?_)<;>first|exact hc.elim|(exfalso;omega)|conv=>whnf)|(refine gqs ?_;conv=>whnf)|(refine gqc (x:=fun _=>CloneI_F _ (h4 (by omega))) (k:= ?_);conv=>whnf)|(refine gqc (x:=fun _=>CloneI_F _ (h5 _)) (k:= ?_);conv=>whnf)|(refine yt ?_;conv=>whnf)|exact⟨_,.keep rfl rfl⟩|fail
 ·exact⟨_,.keep (by rw[Callee,if_pos hc];rfl) rfl⟩
 ·exact⟨_,.keep (by rw[Callee,if_neg (by omega),if_pos (by omega)];rfl) rfl⟩
 ·rw[Callee,if_neg (by omega),if_neg (by omega)]
  exact⟨_,.tup (.cons (.nilF rfl) (.cons (.keep rfl rfl) (.cons (.keep rfl rfl) .nil (nodupB_ok rfl)) (nodupB_ok rfl)) (nodupB_ok rfl))⟩
def ckC (m:ModE) (f:FnE) (n:Int) (ty:AV):List AV:=[eL m.vars,eL m.exts,eL m.funcs,.s f.name,eL f.params,.i .i64 f.ret,eL f.blocks,.i .i64 n,ty]
def cnts (f:FnE) (x:InsE):Int×Int×Bool:=
 if x.op<1\/34<x.op then(0,0,false) else if x.op<=19\/x.op=28\/x.op=29 then(2,0,true) else if x.op=23 then(3,0,true) else if x.op=25 then(x.args.length,x.args.length,true)
 else if x.op=26\/x.op=34\/(x.op=33/\f.ret=0) then(0,0,true) else if x.op=30 then(x.args.length,0,true) else if x.op=31 then(0,1,true) else if x.op=32 then(1,2,true) else(1,0,true)
theorem cnts_many (f:FnE) (x:InsE):((cnts f x).2.2=true/\(x.args.length:Int)=(cnts f x).1/\(x.to.length:Int)=(cnts f x).2.1)↔((many f x).1=x.args.length/\(many f x).2=x.to.length):=by
 have h1:(0:Int)<=x.args.length:=by omega
 have h2:(0:Int)<=x.to.length:=by omega
 unfold cnts many
 generalize (x.args.length:Int)=a at*
 generalize (x.to.length:Int)=t at*
 repeat' split
 all_goals simp
 all_goals omega
theorem counts_S (m:ModE) (f:FnE) (n:Int) (ty:AV) (x:InsE):ASpec Tryz.prog 55 [.cp (ckC m f n ty),eS x] (.tup [.i .i64 (cnts f x).1,.i .i64 (cnts f x).2.1,.b (cnts f x).2.2]) []:=by
 refine ASpec.enter TYok mixed Tryz.func55 rfl Tryz.call55 Tryz.ntmps55 rfl (rs:=[.tmp 4,.tmp 5,.tmp 6]) rfl (nodupB_ok rfl) (Clo.one rfl) (keep:=[0,1,3,4,5,6,7]) ?_;conv=>whnf
 repeat' first|(refine iG (fun hb hc=>?_) (fun hb hc=>?_)<;>first|exact hc.elim|(exfalso;omega)|conv=>whnf)|(refine gqs ?_;conv=>whnf)|(refine yt ?_;conv=>whnf)|exact⟨_,.keep rfl rfl⟩|fail
 all_goals exact⟨_,.keep (by(try simp only[pickB_or,pickB_and]);unfold cnts;repeat' (first|rfl|omega|split|(simp_all;done))) rfl⟩
theorem conv_eq (op a b:Int):(Pl.conv op a b 0).2=(Convert op a b 0).2:=by
 have h1:=Pl.mask_zero (t:=a)
 have h2:=Pl.mask_zero (t:=b)
 unfold Pl.conv Convert width
 simp only[h1,h2,Bool.and_eq_true,decide_eq_true_eq]
 repeat' split
 all_goals first|rfl|(exfalso;omega)
theorem typed_O (m:ModE) (f:FnE) (n:Int) (ty:AV) (x:InsE) (p:Plc) (hm:siz m<4294967296) (hn:inI x.n) (ho:x.op<=34):ASpecO true Tryz.prog 57 [.cp (ckC m f n ty),eS x,eS p] [] (typedF m f x=0) (.tup []) [] (vflt (typedF m f x) p) []:=by
 have e1:=conv_eq x.op x.n x.t
 refine ASpecO.enter TYok mixed Tryz.func57 rfl Tryz.call57 Tryz.ntmps57 rfl (rs:=[]) rfl (Clo.one rfl) (Clo.one rfl) rfl (keep:=[0,1,2,4,5,6,7,9,10,11,12]) fun pin=>?_;conv=>whnf
 repeat' first|(refine iG (fun hb hc=>?_) (fun hb hc=>?_)<;>first|exact hc.elim|(exfalso;omega)|conv=>whnf)|(refine gqs ?_;conv=>whnf)|((first|refine CallV.pan ?_|refine CallW.pan ?_);(conv=>whnf);refine cP (must_O _ _ _) (fun ht=>?_) (fun ht=>?_)<;>conv=>whnf)|(refine gqc (x:=fun _=>irCallee_S _ _ hm hn.1 hn.2) (k:= ?_);conv=>whnf)|(refine gqc (x:=fun _=>Convert_P _ _ _ _ (by omega) (by omega)) (k:= ?_);conv=>whnf)|(refine yt ?_;conv=>whnf)|exact⟨_,.keep rfl rfl⟩|fail
 all_goals try simp only[pickB_and,Bool.and_eq_true,decide_eq_true_eq,e1] at ht
 all_goals first|refine rtV ?_|refine pzV ?_
 all_goals unfold typedF conv
 all_goals repeat' (first|rfl|omega|split|(simp_all;done))
def formI (m:ModE) (f:FnE) (x:InsE) (b:Int):Int:=if formedF f x b=false then 15 else if bits .andNot .i64 x.f (Flags x.op)≠0 then 14 else typedF m f x
def formedP (f:FnE) (x:InsE) (b:Int):Prop:=(((cnts f x).2.2=true/\(x.args.length:Int)=(cnts f x).1)/\(x.to.length:Int)=(cnts f x).2.1)/\decide (x.reg= -1)=decide (Result x=0)/\
 (x.n=0\/x.op=20\/x.op=21\/x.op=22\/x.op=26\/x.op=30)/\(x.op=26->((b=0/\x.t=65)/\1<=x.n)/\x.n<=64)/\(x.op=29->x.t=65)/\(x.op=31\/x.op=32\/x.op=34->x.t=0)
theorem formed_iff (f:FnE) (x:InsE) (b:Int):formedF f x b=true↔formedP f x b:=by
 have h:=cnts_many f x
 unfold formedF formedP conv
 rw[and_assoc (a:=(cnts f x).2.2=true),h]
 by_cases hA:(many f x).1=x.args.length/\(many f x).2=x.to.length
 ·rw[if_neg (by omega)]
  by_cases hq:decide (x.reg= -1)=decide (Result x=0)
  ·rw[if_neg (fun h=>h hq.symm)]
   simp only[hA,hq,true_and,and_self,Bool.or_eq_false_iff,decide_eq_false_iff_not]
   repeat' split
   all_goals simp only[Bool.and_eq_true,decide_eq_true_eq,reduceCtorEq,false_iff,true_iff,Bool.false_eq_true]
   all_goals first|omega|skip
  ·rw[if_pos (fun h=>hq h.symm)]
   exact⟨fun h=>(nomatch h),fun h=>absurd h.2.1 hq⟩
 ·rw[if_pos (by omega)]
  exact⟨fun h=>(nomatch h),fun h=>absurd h.1 hA⟩
theorem formI_15 {m:ModE} {f:FnE} {x:InsE} {b:Int} (h: ¬formedP f x b):formI m f x b=15:=by
 rw[formI,if_pos];rw[<-Bool.not_eq_true,formed_iff];exact h
theorem formI_14 {m:ModE} {f:FnE} {x:InsE} {b:Int} (h:formedP f x b) (hf: ¬bits .andNot .i64 x.f (Flags x.op)=0):formI m f x b=14:=by
 rw[formI,if_neg (by rw[(formed_iff f x b).2 h];simp),if_pos hf]
theorem formI_t {m:ModE} {f:FnE} {x:InsE} {b:Int} (h:formedP f x b) (hf:bits .andNot .i64 x.f (Flags x.op)=0):formI m f x b=typedF m f x:=by
 rw[formI,if_neg (by rw[(formed_iff f x b).2 h];simp),if_neg (fun q=>q hf)]
theorem cnts_op {f:FnE} {x:InsE} (h:(cnts f x).2.2=true):x.op<=34:=by
 unfold cnts at h
 split at h
 ·cases h
 ·omega
theorem mkP {f:FnE} {x:InsE} {b:Int} (h:((((cnts f x).2.2=true/\(x.args.length:Int)=(cnts f x).1)/\(x.to.length:Int)=(cnts f x).2.1))/\decide (x.reg= -1)=decide (Result x=0)) (h1:x.n=0\/x.op=20\/x.op=21\/x.op=22\/x.op=26\/x.op=30) (h2:x.op=26->((b=0/\x.t=65)/\1<=x.n)/\x.n<=64) (h3:x.op=29->x.t=65) (h4:x.op=31\/x.op=32\/x.op=34->x.t=0):formedP f x b:=⟨h.1,h.2,h1,h2,h3,h4⟩
theorem cnts_op' {f:FnE} {x:InsE} {B C D:Prop} (h:(((cnts f x).2.2=true/\B)/\C)/\D):x.op<=34:=cnts_op h.1.1.1
theorem form_O (m:ModE) (f:FnE) (n:Int) (ty:AV) (x:InsE) (p:Plc) (hm:siz m<4294967296) (hn:inI x.n):ASpecO true Tryz.prog 29 [.cp (ckC m f n ty),eS x,eS p] [] (formI m f x p.b=0) (.tup []) [] (vflt (formI m f x p.b) p) []:=by
 have e1:=flags_eq x.op
 refine ASpecO.enter TYok mixed Tryz.func29 rfl Tryz.call29 Tryz.ntmps29 rfl (rs:=[]) rfl (Clo.one rfl) (Clo.one rfl) rfl (keep:=[0,1,2,4,5,6,7,8,9,44]) fun pin=>?_;conv=>whnf
 repeat' first|(refine iG (fun hb hc=>?_) (fun hb hc=>?_)<;>first|exact hc.elim|(exfalso;omega)|conv=>whnf)|(refine gqs ?_;conv=>whnf)|((first|refine CallV.pan ?_|refine CallW.pan ?_);(conv=>whnf);refine cP (must_O _ _ _) (fun ht=>?_) (fun ht=>?_)<;>conv=>whnf)|((first|refine CallV.pan ?_|refine CallW.pan ?_);(conv=>whnf);refine cP (typed_O m f n ty x p hm hn ?_) (fun ht=>?_) (fun ht=>?_)<;>conv=>whnf)|(refine gqc (x:=fun _=>counts_S _ _ _ _ _) (k:= ?_);conv=>whnf)|(refine gqc (x:=fun _=>irResult_S _) (k:= ?_);conv=>whnf)|(refine gqc (x:=fun _=>Flags_P _) (k:= ?_);conv=>whnf)|(refine yt ?_;conv=>whnf)|exact⟨_,.keep rfl rfl⟩|fail
 all_goals first|refine rtV ?_|refine pzV ?_ ?_|skip
 all_goals try simp only[pickB_and,pickB_or,Bool.and_eq_true,Bool.true_or,Bool.false_or,decide_eq_true_eq,e1] at*
 all_goals first
  |decide
  |assumption
  |(show x.op<=34;omega)
  |(show x.op<=34;exact cnts_op' (by assumption))
  |(rw[formI_t (mkP (by assumption) (by omega) (by omega) (by omega) (by omega)) (by assumption)];assumption)
  |exact formI_t (mkP (by assumption) (by omega) (by omega) (by omega) (by omega)) (by assumption)
  |exact formI_14 (mkP (by assumption) (by omega) (by omega) (by omega) (by omega)) (by assumption)
  |exact absurd trivial ht
  |(refine formI_15 fun q=>?_;first|exact ht ⟨q.1,q.2.1⟩|exact ht (q.2.2.2.1 (by omega))|exact ht (q.2.2.2.2.1 (by omega))|exact ht (q.2.2.2.2.2 (by omega))|(obtain⟨_,_,q3,_⟩:=q;omega))
  |skip
theorem mask_eq (t:Int):Pl.mask t=Mask t:=by
 by_cases h:1<=t/\t<=64
 ·have key: ∀n:Nat,n<65->1<=n->((2^n-1:Nat):Int)=Cut n 18446744073709551615:=by decide+kernel
  obtain⟨n,rfl⟩: ∃n:Nat,t=n:=⟨t.toNat,by omega⟩
  rw[Pl.mask,Mask,if_pos h,if_pos h]
  exact key n (by omega) (by omega)
 ·rw[Pl.mask,Mask,if_neg h,if_neg h]
def TypesL (f:FnE):List Int:=(List.range 4096).map fun(i:Nat)=>TypeR f i
theorem TypesL_len (f:FnE):(TypesL f).length=4096:=by unfold TypesL;rw[List.length_map,List.length_range]
theorem TypesL_at (f:FnE) {i:Int} (h:0<=i) (h':i<=4095):(TypesL f).getD i.toNat Enc.d=TypeR f i:=by
 unfold TypesL
 rw[List.getD_eq_getElem?_getD,List.getElem?_map,List.getElem?_range (by omega)]
 show TypeR f (i.toNat:Int)=_
 rw[Int.toNat_of_nonneg h]
theorem wanted_S (m:ModE) (f:FnE) (n:Int) (ty:AV) (x:InsE) (k:Int) (hm:siz m<4294967296) (hn:inI x.n) (hk:x.op=30->0<=k/\k<(Callee m x.n).1.length) (hg:x.op=29->x.t=65/\(k=0\/k=1)):ASpec Tryz.prog 59 [.cp (ckC m f n ty),eS x,.i .i64 k] (.i .i64 (wantedF m x k)) []:=by
 refine ASpec.enter TYok mixed Tryz.func59 rfl Tryz.call59 Tryz.ntmps59 rfl (rs:=[.tmp 6]) rfl (nodupB_ok rfl) (Clo.one rfl) (keep:=[0,1,2,4,6,7,11]) ?_;conv=>whnf
 repeat' first|(refine iG (fun hb hc=>?_) (fun hb hc=>?_)<;>first|exact hc.elim|(exfalso;omega)|conv=>whnf)|(refine gqs ?_;conv=>whnf)|(refine gqc (x:=fun _=>irCallee_S _ _ hm hn.1 hn.2) (k:= ?_);conv=>whnf)|(refine yt ?_;conv=>whnf)|exact⟨_,.keep rfl rfl⟩|fail
 all_goals exact⟨_,.keep (by(try simp only[pickB_or,pickB_and]);unfold wantedF conv;repeat' (first|rfl|omega|split|(simp_all;done))) rfl⟩
theorem oprC_reg {m:ModE} {f:FnE} {x:InsE} {k:Nat} (h:(x.args.getD k Enc.d).k=1):oprC m f x k=if(x.args.getD k Enc.d).b≠0 then 15 else if(x.args.getD k Enc.d).n<=4095 then(if TypeR f (x.args.getD k Enc.d).n=0 then 10 else if TypeR f (x.args.getD k Enc.d).n≠wantedF m x k then 7 else 0) else 10:=by
 unfold oprC operandF;rw[if_pos h]
theorem TypeR_neg {f:FnE} {r:Int} (h:r<0):TypeR f r=0:=by unfold TypeR;rw[if_pos h]
theorem operands_O (m:ModE) (f:FnE) (n:Int) (x:InsE) (p:Plc) (hm:siz m<4294967296) (hn:inI x.n) (hx:siz x<4294967296) (hk:x.op=30->x.args.length=(Callee m x.n).1.length) (hg:x.op=29->x.t=65/\x.args.length=2):
  ASpecO true Tryz.prog 31 [.cp (ckC m f n (eL (TypesL f))),eS x,eS p] [] (∀k,k<x.args.length->oprC m f x k=0) (.tup []) [] (vflt (firstV (oprC m f x) x.args.length) p) []:=by
 have h1:=args_le x
 have h2:=TypesL_len f
 refine ASpecO.enter TYok mixed Tryz.func31 rfl Tryz.call31 Tryz.ntmps31 rfl (rs:=[]) rfl (Clo.one rfl) (Clo.one rfl) rfl (keep:=[0,1,2,4,5,6,7,8,10,11,12,22]) fun pin=>?_;conv=>whnf
 repeat' first|(refine iG (fun hb hc=>?_) (fun hb hc=>?_)<;>first|exact hc.elim|(exfalso;omega)|conv=>whnf)|(refine gqs ?_;conv=>whnf)|(refine yt ?_;conv=>whnf)|exact⟨_,.keep rfl rfl⟩|fail
 refine lp [12] (fun q:Nat=>[.i .i64 q]) (fun q=>[(4,bx x),(5,bx p)]) (fun q=>q<=x.args.length/\ ∀i,i<q->oprC m f x i=0) (fun q=>x.args.length-q) 0 ⟨by omega,fun i h=>by omega⟩ ?_ fun q hq=>?_
 ·refine eP [] [] ?_ ?_<;>repeat' first|exact eN|refine And.intro ?_ ?_
 conv=>whnf
 obtain⟨hq,hv⟩:=hq
 have hmk:=mask_eq (wantedF m x q)
 have hta:=TypesL_at f (i:=(x.args.getD q Enc.d).n)
 have hng:=TypeR_neg (f:=f) (r:=(x.args.getD q Enc.d).n)
 repeat' first|(refine iG (fun hb hc=>?_) (fun hb hc=>?_)<;>first|exact hc.elim|(exfalso;omega)|conv=>whnf)|(refine gqs ?_;conv=>whnf)|((first|refine CallV.pan ?_|refine CallW.pan ?_);(conv=>whnf);refine cP (must_O _ _ _) (fun ht=>?_) (fun ht=>?_)<;>conv=>whnf)|((first|refine cK (fun _=>wanted_S _ _ _ _ _ _ hm hn (fun h=>⟨by omega,by have:=hk h;omega⟩) (fun h=>⟨(hg h).1,by have:=(hg h).2;omega⟩)) ?_|((try(refine CallW.lent ?_;(conv=>whnf);repeat(refine yb ?_;(conv=>whnf))));refine cL (fun _=>wanted_S _ _ _ _ _ _ hm hn (fun h=>⟨by omega,by have:=hk h;omega⟩) (fun h=>⟨(hg h).1,by have:=(hg h).2;omega⟩)) ?_));conv=>whnf)|(refine gqc (x:=fun _=>Mask_P _) (k:= ?_);conv=>whnf)|(refine yt ?_;conv=>whnf)|exact⟨_,.keep rfl rfl⟩|fail
 ·have hr:=ht
  simp only[pickB_and,Bool.and_eq_true,Bool.not_eq_true',decide_eq_true_eq,decide_eq_false_iff_not,Int.toNat_natCast] at hr
  refine And.intro ⟨by simp only[Int.toNat_natCast];omega,by simp only[Int.toNat_natCast];omega⟩ ?_
  conv=>whnf
  repeat' first|(refine iG (fun hb hc=>?_) (fun hb hc=>?_)<;>first|exact hc.elim|(exfalso;omega)|conv=>whnf)|(refine gqs ?_;conv=>whnf)|((first|refine CallV.pan ?_|refine CallW.pan ?_);(conv=>whnf);refine cP (must_O _ _ _) (fun ht=>?_) (fun ht=>?_)<;>conv=>whnf)|(refine yt ?_;conv=>whnf)|exact⟨_,.keep rfl rfl⟩|fail
  ·refine .mk (q+1) ⟨by omega,all_step hv ?_⟩ (by omega) ?_
   ·simp only[decide_eq_true_eq,Int.toNat_natCast] at*
    rw[oprC_reg hc,if_neg (fun h=>h (by assumption)),if_pos hr.1.2,<-hta hr.1.1 hr.1.2,if_neg hr.2,if_neg (fun h=>h ht)]
   ·refine eP [] [] ?_ ?_<;>repeat' first|exact eN|refine And.intro ?_ ?_
  ·refine pzF (by omega) hv ?_
   simp only[decide_eq_true_eq,Int.toNat_natCast] at*
   rw[oprC_reg hc,if_neg (fun h=>h (by assumption)),if_pos hr.1.2,<-hta hr.1.1 hr.1.2,if_neg hr.2,if_pos ht]
 all_goals first
  |exact rtV fun k hk=>hv k (by omega)
  |refine pzF (by omega) hv ?_
  |refine .mk (q+1) ⟨by omega,all_step hv ?_⟩ (by omega) ?_
 all_goals first
  |(refine eP [] [] ?_ ?_<;>repeat' first|exact eN|refine And.intro ?_ ?_)
  |skip
 all_goals try simp only[pickB_and,pickB_or,Bool.and_eq_true,Bool.or_eq_true,Bool.not_eq_true',decide_eq_true_eq,decide_eq_false_iff_not,Int.toNat_natCast] at*
 all_goals unfold oprC operandF
 all_goals repeat' (first|rfl|omega|split|(simp_all;done))
def iAt (f:FnE) (b i:Nat):InsE:=(f.blocks.getD b Enc.d).code.getD i Enc.d
def iLen (f:FnE) (b:Nat):Nat:=(f.blocks.getD b Enc.d).code.length
theorem kdl (f:FnE) (b k:Nat):(codeTo f b k).length=(codeTo f b 0).length+k:=by
 rw[codeTo_len,codeTo_len];rfl
theorem kdp (f:FnE) (b i:Nat): ∀k,codeTo f b i<+:codeTo f b (i+k)
 |0=>List.prefix_refl _
 |k+1=>by rw[<-Nat.add_assoc,codeTo_snoc];exact(kdp f b i k).trans (List.prefix_append _ _)
theorem kdb (f:FnE) (b:Nat): ∀k,codeTo f b 0<+:codeTo f (b+k) 0
 |0=>List.prefix_refl _
 |k+1=>by
  rw[<-Nat.add_assoc,codeTo_next]
  have h:=kdp f (b+k) 0 (f.blocks.getD (b+k) Enc.d).code.length
  rw[Nat.zero_add] at h
  exact(kdb f b k).trans h
theorem kd_at {f:FnE} {b i:Nat} (hb:b<f.blocks.length) (hi:i<iLen f b):(Code f)[(codeTo f b i).length]?=some (iAt f b i,⟨0,b,i⟩):=by
 have h1:codeTo f b (i+1)<+:codeTo f b (f.blocks.getD b Enc.d).code.length:=by
  have hi:i<(f.blocks.getD b Enc.d).code.length:=hi
  have:=kdp f b (i+1) ((f.blocks.getD b Enc.d).code.length-(i+1))
  rwa [show i+1+((f.blocks.getD b Enc.d).code.length-(i+1))=(f.blocks.getD b Enc.d).code.length by omega] at this
 rw[<-codeTo_next] at h1
 have h2:=kdb f (b+1) (f.blocks.length-(b+1))
 rw[show b+1+(f.blocks.length-(b+1))=f.blocks.length by omega] at h2
 obtain⟨rest,hr⟩:=h1.trans h2
 unfold Code
 rw[<-hr,codeTo_snoc,List.append_assoc,List.getElem?_append_right (Nat.le_refl _),Nat.sub_self]
 rfl
theorem kd_lt {f:FnE} {b i:Nat} (hb:b<f.blocks.length) (hi:i<iLen f b):(codeTo f b i).length<(Code f).length:=(List.getElem?_eq_some_iff.1 (kd_at hb hi)).1
theorem kd_1 {f:FnE} {b i:Nat} (hb:b<f.blocks.length) (hi:i<iLen f b):(C1 f).getD (codeTo f b i).length Enc.d=iAt f b i:=by
 unfold C1;rw[List.getD_eq_getElem?_getD,List.getElem?_map,kd_at hb hi];rfl
theorem kd_2 {f:FnE} {b i:Nat} (hb:b<f.blocks.length) (hi:i<iLen f b):(C2 f).getD (codeTo f b i).length Enc.d=⟨0,b,i⟩:=by
 unfold C2;rw[List.getD_eq_getElem?_getD,List.getElem?_map,kd_at hb hi];rfl
theorem kd_idx {f:FnE}: ∀ {B q:Nat},B<=f.blocks.length->q<(codeTo f B 0).length-> ∃b k,b<B/\k<iLen f b/\q=(codeTo f b k).length
 |0,q,_,hq=>by simp[codeTo,pairs] at hq
 |B+1,q,hB,hq=>by
  rcases Nat.lt_or_ge q (codeTo f B 0).length with h|h
  ·obtain⟨b,k,h1,h2,h3⟩:=kd_idx (by omega) h
   exact⟨b,k,by omega,h2,h3⟩
  ·rw[codeTo_next,kdl] at hq
   refine⟨B,q-(codeTo f B 0).length,by omega,?_,?_⟩
   ·unfold iLen;omega
   ·rw[kdl];omega
theorem kd_nx (f:FnE) (b:Nat):(codeTo f (b+1) 0).length=(codeTo f b (iLen f b)).length:=by rw[codeTo_next];rfl
abbrev plE (f:FnE) (n:Int) (j:Nat):Plc:=⟨n,((C2 f).getD j Enc.d).b,((C2 f).getD j Enc.d).i⟩
abbrev eacC (f:FnE) (n:Int) (C:InsE->Plc->Int) (j:Nat):FaultE:=⟨C ((C1 f).getD j Enc.d) (plE f n j),plE f n j⟩
def eachF (f:FnE) (n:Int) (C:InsE->Plc->Int):FaultE:=firstF (eacC f n C) (Code f).length
theorem eacC_at {f:FnE} {n:Int} {C:InsE->Plc->Int} {b i:Nat} (hb:b<f.blocks.length) (hi:i<iLen f b):eacC f n C (codeTo f b i).length=⟨C (iAt f b i) ⟨n,b,i⟩,⟨n,b,i⟩⟩:=by
 unfold eacC plE;rw[kd_1 hb hi,kd_2 hb hi]
theorem eachF_at {f:FnE} {n:Int} {C:InsE->Plc->Int} {b i:Nat} (hb:b<f.blocks.length) (hi:i<iLen f b) (hv: ∀j,j<(codeTo f b i).length->(eacC f n C j).code=0) (h:C (iAt f b i) ⟨n,b,i⟩≠0):eachF f n C=⟨C (iAt f b i) ⟨n,b,i⟩,⟨n,b,i⟩⟩:=
 firstF_at (kd_lt hb hi) hv (eacC_at hb hi) h
theorem eachF_no {f:FnE} {n:Int} {C:InsE->Plc->Int} (hv: ∀j,j<(codeTo f f.blocks.length 0).length->(eacC f n C j).code=0):eachF f n C=⟨0,⟨0,0,0⟩⟩:=firstF_no hv
theorem eac_step {f:FnE} {n:Int} {C:InsE->Plc->Int} {b i:Nat} (hb:b<f.blocks.length) (hi:i<iLen f b) (hv: ∀j,j<(codeTo f b i).length->(eacC f n C j).code=0) (h:C (iAt f b i) ⟨n,b,i⟩=0): ∀j,j<(codeTo f b (i+1)).length->(eacC f n C j).code=0:=by
 rw[kdl,<-Nat.add_assoc,<-kdl]
 exact all_step hv (by rw[eacC_at hb hi];exact h)
theorem pzE {F:FaultE} {c:Int} {p:Plc} {pin:Nat->Nat} {os o:Os} (e:F=⟨c,p⟩) (hc:c≠0): ¬F.code=0/\ ∃ρ nl,mat ρ nl (vflt c p) (vflt F.code F.at')/\entO ρ nl o (pinN pin os [])/\(nodupB (srcs ρ nl (pinN pin os []))&&nodupB (keysN []))=true:=by
 subst e
 exact pzV rfl hc
theorem iLen_siz (f:FnE) (b:Nat):iLen f b<=siz f:=code_le f b
def formB (m:ModE) (f:FnE):InsE->Plc->Int:=fun x p=>formI m f x p.b
theorem eachForm_O (m:ModE) (f:FnE) (n:Int) (ty:AV) (hm:siz m<4294967296) (hf:siz f<4294967296) (hr: ∀b i,inI (iAt f b i).n):
  ASpecO true Tryz.prog 28 [.cp (ckC m f n ty),.clo (Nat.add 29 1048576) [.cp (ckC m f n ty)]] [] ((eachF f n (formB m f)).code=0) (.tup []) [] (vflt (eachF f n (formB m f)).code (eachF f n (formB m f)).at') []:=by
 have h1:=blocks_le f
 have h0:=Code_siz f
 refine ASpecO.enter TYok mixed Tryz.func28 rfl Tryz.call28 Tryz.ntmps28 rfl (rs:=[]) rfl (Clo.one rfl) (Clo.one rfl) rfl (keep:=[0,1,4,5,6,7,12,13,14,20,21,22]) fun pin=>?_;conv=>whnf
 repeat' first|(refine iG (fun hb hc=>?_) (fun hb hc=>?_)<;>first|exact hc.elim|(exfalso;omega)|conv=>whnf)|(refine gqs ?_;conv=>whnf)|(refine yt ?_;conv=>whnf)|exact⟨_,.keep rfl rfl⟩|fail
 refine lp [14] (fun b:Nat=>[.i .i64 b]) (fun b=>[]) (fun b=>b<=f.blocks.length/\ ∀j,j<(codeTo f b 0).length->(eacC f n (formB m f) j).code=0) (fun b=>f.blocks.length-b) 0 ⟨by omega,fun i h=>by simp[codeTo,pairs] at h⟩ ?_ fun b hq=>?_
 ·refine eP [] [] ?_ ?_<;>repeat' first|exact eN|refine And.intro ?_ ?_
 conv=>whnf
 obtain⟨hb1,hv1⟩:=hq
 have h2:=iLen_siz f b
 have h3:iLen f b=(f.blocks.getD b Enc.d).code.length:=rfl
 repeat' first|(refine iG (fun hb hc=>?_) (fun hb hc=>?_)<;>first|exact hc.elim|(exfalso;omega)|conv=>whnf)|(refine gqs ?_;conv=>whnf)|(refine yt ?_;conv=>whnf)|exact⟨_,.keep rfl rfl⟩|fail
 ·refine lp [22] (fun i:Nat=>[.i .i64 i]) (fun i=>(5,bx (f.blocks.getD b Enc.d))::[]) (fun i=>i<=iLen f b/\ ∀j,j<(codeTo f b i).length->(eacC f n (formB m f) j).code=0) (fun i=>iLen f b-i) 0 ⟨by omega,hv1⟩ ?_ fun i hq2=>?_
  ·refine eP [] [] ?_ ?_<;>repeat' first|exact eN|refine And.intro ?_ ?_
  conv=>whnf
  obtain⟨hi1,hv2⟩:=hq2
  repeat' first|(refine iG (fun hb hc=>?_) (fun hb hc=>?_)<;>first|exact hc.elim|(exfalso;omega)|conv=>whnf)|(refine gqs ?_;conv=>whnf)|((first|refine CallV.pan ?_|refine CallW.pan ?_);(conv=>whnf);refine cP (form_O m f n ty (iAt f b i) ⟨n,b,i⟩ hm (hr b i)) (fun ht=>?_) (fun ht=>?_)<;>conv=>whnf)|(refine yt ?_;conv=>whnf)|exact⟨_,.keep rfl rfl⟩|fail
  ·refine .mk (i+1) ⟨by omega,eac_step (by omega) (by omega) hv2 ht⟩ (by omega) ?_
   refine eP [] [] ?_ ?_<;>repeat' first|exact eN|refine And.intro ?_ ?_
  ·exact pzE (eachF_at (by omega) (by omega) hv2 ht) ht
  ·obtain rfl:i=iLen f b:=by omega
   refine .mk (b+1) ⟨by omega,by rw[kd_nx];exact hv2⟩ (by omega) ?_
   refine eP [] [] ?_ ?_<;>repeat' first|exact eN|refine And.intro ?_ ?_
 ·obtain rfl:b=f.blocks.length:=by omega
  have e:=eachF_no hv1
  exact rtV (by rw[e])
def oprI (m:ModE) (f:FnE):InsE->Plc->Int:=fun x p=>firstV (oprC m f x) x.args.length
theorem firstV_zero {c:Nat->Int} {N:Nat} (h:firstV c N=0): ∀k,k<N->c k=0:=by
 unfold firstV firstC at h
 cases hq:(List.range N).find? (fun i=>!decide (c i=0)) with
 |none=>intro k hk;simpa using List.find?_eq_none.1 hq k (List.mem_range.2 hk)
 |some j=>
  rw[hq] at h
  have h2:=List.find?_some hq
  simp only[Bool.not_eq_true',decide_eq_false_iff_not] at h2
  exact absurd h h2
theorem firstV_iff {c:Nat->Int} {N:Nat}:(∀k,k<N->c k=0)↔firstV c N=0:=⟨fun h=>by unfold firstV;rw[firstC_no h],firstV_zero⟩
theorem operandsI_O (m:ModE) (f:FnE) (n:Int) (x:InsE) (p:Plc) (hm:siz m<4294967296) (hn:inI x.n) (hx:siz x<4294967296) (hk:x.op=30->x.args.length=(Callee m x.n).1.length) (hg:x.op=29->x.t=65/\x.args.length=2):
  ASpecO true Tryz.prog 31 [.cp (ckC m f n (eL (TypesL f))),eS x,eS p] [] (oprI m f x p=0) (.tup []) [] (vflt (oprI m f x p) p) []:=by
 have h:=operands_O m f n x p hm hn hx hk hg
 rw[firstV_iff] at h
 exact h
theorem eachOpr_O (m:ModE) (f:FnE) (n:Int) (hm:siz m<4294967296) (hf:siz f<4294967296) (hr: ∀b i,inI (iAt f b i).n) (hx: ∀b i,siz (iAt f b i)<4294967296) (hk: ∀b i,b<f.blocks.length->i<iLen f b->((iAt f b i).op=30->(iAt f b i).args.length=(Callee m (iAt f b i).n).1.length)/\((iAt f b i).op=29->(iAt f b i).t=65/\(iAt f b i).args.length=2)):
  ASpecO true Tryz.prog 28 [.cp (ckC m f n (eL (TypesL f))),.clo (Nat.add 31 1048576) [.cp (ckC m f n (eL (TypesL f)))]] [] ((eachF f n (oprI m f)).code=0) (.tup []) [] (vflt (eachF f n (oprI m f)).code (eachF f n (oprI m f)).at') []:=by
 have h1:=blocks_le f
 have h0:=Code_siz f
 refine ASpecO.enter TYok mixed Tryz.func28 rfl Tryz.call28 Tryz.ntmps28 rfl (rs:=[]) rfl (Clo.one rfl) (Clo.one rfl) rfl (keep:=[0,1,4,5,6,7,12,13,14,20,21,22]) fun pin=>?_;conv=>whnf
 repeat' first|(refine iG (fun hb hc=>?_) (fun hb hc=>?_)<;>first|exact hc.elim|(exfalso;omega)|conv=>whnf)|(refine gqs ?_;conv=>whnf)|(refine yt ?_;conv=>whnf)|exact⟨_,.keep rfl rfl⟩|fail
 refine lp [14] (fun b:Nat=>[.i .i64 b]) (fun b=>[]) (fun b=>b<=f.blocks.length/\ ∀j,j<(codeTo f b 0).length->(eacC f n (oprI m f) j).code=0) (fun b=>f.blocks.length-b) 0 ⟨by omega,fun i h=>by simp[codeTo,pairs] at h⟩ ?_ fun b hq=>?_
 ·refine eP [] [] ?_ ?_<;>repeat' first|exact eN|refine And.intro ?_ ?_
 conv=>whnf
 obtain⟨hb1,hv1⟩:=hq
 have h2:=iLen_siz f b
 have h3:iLen f b=(f.blocks.getD b Enc.d).code.length:=rfl
 repeat' first|(refine iG (fun hb hc=>?_) (fun hb hc=>?_)<;>first|exact hc.elim|(exfalso;omega)|conv=>whnf)|(refine gqs ?_;conv=>whnf)|(refine yt ?_;conv=>whnf)|exact⟨_,.keep rfl rfl⟩|fail
 ·refine lp [22] (fun i:Nat=>[.i .i64 i]) (fun i=>(5,bx (f.blocks.getD b Enc.d))::[]) (fun i=>i<=iLen f b/\ ∀j,j<(codeTo f b i).length->(eacC f n (oprI m f) j).code=0) (fun i=>iLen f b-i) 0 ⟨by omega,hv1⟩ ?_ fun i hq2=>?_
  ·refine eP [] [] ?_ ?_<;>repeat' first|exact eN|refine And.intro ?_ ?_
  conv=>whnf
  obtain⟨hi1,hv2⟩:=hq2
  repeat' first|(refine iG (fun hb hc=>?_) (fun hb hc=>?_)<;>first|exact hc.elim|(exfalso;omega)|conv=>whnf)|(refine gqs ?_;conv=>whnf)|((first|refine CallV.pan ?_|refine CallW.pan ?_);(conv=>whnf);refine cP (operandsI_O m f n (iAt f b i) ⟨n,b,i⟩ hm (hr b i) (hx b i) (hk b i (by omega) (by omega)).1 (hk b i (by omega) (by omega)).2) (fun ht=>?_) (fun ht=>?_)<;>conv=>whnf)|(refine yt ?_;conv=>whnf)|exact⟨_,.keep rfl rfl⟩|fail
  ·refine .mk (i+1) ⟨by omega,eac_step (by omega) (by omega) hv2 ht⟩ (by omega) ?_
   refine eP [] [] ?_ ?_<;>repeat' first|exact eN|refine And.intro ?_ ?_
  ·exact pzE (eachF_at (by omega) (by omega) hv2 ht) ht
  ·obtain rfl:i=iLen f b:=by omega
   refine .mk (b+1) ⟨by omega,by rw[kd_nx];exact hv2⟩ (by omega) ?_
   refine eP [] [] ?_ ?_<;>repeat' first|exact eN|refine And.intro ?_ ?_
 ·obtain rfl:b=f.blocks.length:=by omega
  have e:=eachF_no hv1
  exact rtV (by rw[e])
def regE (f:FnE) (F:List Int->Int) (x:InsE):Int:=if Result x=0 then 0 else if x.reg<f.params.length\/4095<x.reg then 10 else if F [x.reg]≠0 then 5 else 0
def regN (F:List Int->Int) (x:InsE):List Int->Int:=fun l=>if Result x=0 then F l else mset F [x.reg] 1 l
def rgO (m:ModE) (f:FnE) (n:Int) (ty:AV) (p1 p2:Option Nat) (p3:Nat) (k:Nat) (F:List Int->Int):Os:=[(1,.box p1 (some 74) [.cp (ckC m f n ty)]),(2,.box p2 (some 58) [.omap 3]),(3,(.mp (mapX Tryz.prog 3 3 false (k) (F)) (p3) (k) (F)))]
theorem rgClo {m:ModE} {f:FnE} {n:Int} {ty:AV} {p1 p2:Option Nat} {p3:Nat} {k:Nat} {F:List Int->Int}:Clo (.tup []) (rgO m f n ty p1 p2 p3 k F):=by
 refine⟨fun id hm=>(nomatch hm),fun i ob hl id hm=>?_⟩
 have hmem:=lk_mem hl
 simp only[rgO,List.mem_cons,List.not_mem_nil,or_false,Prod.mk.injEq] at hmem
 rcases hmem with⟨_,rfl⟩|⟨_,rfl⟩|⟨_,rfl⟩
 ·cases hm
 ·simp only[omen,mens,men,Bool.or_false] at hm
  have:=Nat.eq_of_beq_eq_true hm;subst this;rfl
 ·cases hm
theorem registers1_O (m:ModE) (f:FnE) (n:Int) (ty:AV) (x:InsE) (p:Plc) (k:Nat) (F:List Int->Int) (hk:k<4294967296) (hr:inI x.reg):
  ASpecO true Tryz.prog 58 [eS x,eS p,.op 1 0,.op 2 0] (rgO m f n ty none none 0 k F) (regE f F x=0) (.tup []) (rgO m f n ty none none 0 (k+1) (regN F x)) (vflt (regE f F x) p) []:=by
 refine ASpecO.enter TYok mixed Tryz.func58 rfl Tryz.call58 Tryz.ntmps58 rfl (rs:=[]) rfl (rgClo) (Clo.one rfl) rfl (keep:=[0,1,2,3,4,5]) fun pin=>?_;conv=>whnf
 repeat' first|(refine iG (fun hb hc=>?_) (fun hb hc=>?_)<;>first|exact hc.elim|(exfalso;omega)|conv=>whnf)|(refine gqs ?_;conv=>whnf)|((first|refine CallV.pan ?_|refine CallW.pan ?_);(conv=>whnf);refine cP (must_O _ _ _) (fun ht=>?_) (fun ht=>?_)<;>conv=>whnf)|(refine gqc (x:=fun _=>irResult_S _) (k:= ?_);conv=>whnf)|(refine yt ?_;conv=>whnf)|exact⟨_,.keep rfl rfl⟩|fail
 ·refine⟨by rw[regE,if_pos hc],?_⟩
  conv=>whnf
  refine⟨[],[],trivial,?_,rfl⟩
  repeat' first|exact eN|refine And.intro ?_ ?_
  exact mapX_le (by omega) fun l=>by rw[regN,if_pos hc]
 ·have hr2:=ht
  simp only[pickB_and,Bool.and_eq_true,decide_eq_true_eq] at hr2
  refine And.intro ⟨hr,trivial⟩ ?_
  conv=>whnf
  repeat' first|(refine iG (fun hb hc=>?_) (fun hb hc=>?_)<;>first|exact hc.elim|(exfalso;omega)|conv=>whnf)|(refine gqs ?_;conv=>whnf)|((first|refine CallV.pan ?_|refine CallW.pan ?_);(conv=>whnf);refine cP (must_O _ _ _) (fun ht=>?_) (fun ht=>?_)<;>conv=>whnf)|(refine yt ?_;conv=>whnf)|exact⟨_,.keep rfl rfl⟩|fail
  ·simp only[decide_eq_true_eq] at ht
   refine⟨by rw[regE,if_neg hc,if_neg (by omega),if_neg (fun h=>h ht)],?_⟩
   conv=>whnf
   refine⟨[],[],trivial,?_,rfl⟩
   repeat' first|exact eN|refine And.intro ?_ ?_
   exact mapX_le (by omega) fun l=>by rw[regN,if_neg hc]
  ·refine pzV ?_
   simp only[decide_eq_true_eq] at ht
   rw[regE,if_neg hc,if_neg (by omega),if_pos ht]
 ·refine pzV ?_
  simp only[pickB_and,Bool.and_eq_true,decide_eq_true_eq] at ht
  rw[regE,if_neg hc,if_pos (by omega)]
def regM (f:FnE) (j:Nat):List Int->Int:=fun l=>if((List.range j).any fun k=>!decide (Result ((C1 f).getD k Enc.d)=0)&&decide (l=[((C1 f).getD k Enc.d).reg]))=true then 1 else 0
theorem regM_step (f:FnE) (j:Nat) (l:List Int):regN (regM f j) ((C1 f).getD j Enc.d) l=regM f (j+1) l:=by
 unfold regN mset
 have e:regM f (j+1) l=if(((List.range j).any fun k=>!decide (Result ((C1 f).getD k Enc.d)=0)&&decide (l=[((C1 f).getD k Enc.d).reg]))||(!decide (Result ((C1 f).getD j Enc.d)=0)&&decide (l=[((C1 f).getD j Enc.d).reg])))=true then 1 else 0:=by
  unfold regM;rw[List.range_succ,List.any_append];simp
 rw[e]
 by_cases h1:Result ((C1 f).getD j Enc.d)=0
 ·rw[if_pos h1,decide_eq_true h1]
  unfold regM;simp
 ·rw[if_neg h1,decide_eq_false h1]
  by_cases h2:l=[((C1 f).getD j Enc.d).reg]
  ·rw[if_pos h2,decide_eq_true h2];simp
  ·rw[if_neg h2,decide_eq_false h2]
   unfold regM;simp
def regC (f:FnE):InsE->Plc->Int:=fun x p=>regE f (regM f (codeTo f p.b.toNat p.i.toNat).length) x
theorem eachReg_O (m:ModE) (f:FnE) (n:Int) (ty:AV) (hf:siz f<4294967296) (hr: ∀b i,inI (iAt f b i).reg):
  ASpecO true Tryz.prog 28 [.cp (ckC m f n ty),.clo 58 [.op 1 0,.op 2 0]] (rgO m f n ty none none 0 (0) (regM f (0))) ((eachF f n (regC f)).code=0) (.tup []) (rgO m f n ty none none 0 ((Code f).length) (regM f ((Code f).length))) (vflt (eachF f n (regC f)).code (eachF f n (regC f)).at') []:=by
 have h1:=blocks_le f
 have h0:=Code_siz f
 refine ASpecO.enter TYok mixed Tryz.func28 rfl Tryz.call28 Tryz.ntmps28 rfl (rs:=[]) rfl (rgClo) (Clo.one rfl) rfl (keep:=[0,1,4,5,6,7,12,13,14,20,21,22]) fun pin=>?_;conv=>whnf
 repeat' first|(refine iG (fun hb hc=>?_) (fun hb hc=>?_)<;>first|exact hc.elim|(exfalso;omega)|conv=>whnf)|(refine gqs ?_;conv=>whnf)|(refine yt ?_;conv=>whnf)|exact⟨_,.keep rfl rfl⟩|fail
 refine lp [14] (fun b:Nat=>[.i .i64 b]) (fun b=>(rgO m f n ty (some (pin 1)) (some (pin 2)) (pin 3+1) ((codeTo f b 0).length) (regM f ((codeTo f b 0).length)))) (fun b=>b<=f.blocks.length/\ ∀j,j<(codeTo f b 0).length->(eacC f n (regC f) j).code=0) (fun b=>f.blocks.length-b) 0 ⟨by omega,fun i h=>by simp[codeTo,pairs] at h⟩ ?_ fun b hq=>?_
 ·refine eP [] [] ?_ ?_<;>repeat' first|exact eN|refine And.intro ?_ ?_
  exact fun _ h=>h
 conv=>whnf
 obtain⟨hb1,hv1⟩:=hq
 have h2:=iLen_siz f b
 have h3:iLen f b=(f.blocks.getD b Enc.d).code.length:=rfl
 repeat' first|(refine iG (fun hb hc=>?_) (fun hb hc=>?_)<;>first|exact hc.elim|(exfalso;omega)|conv=>whnf)|(refine gqs ?_;conv=>whnf)|(refine yt ?_;conv=>whnf)|exact⟨_,.keep rfl rfl⟩|fail
 ·refine lp [22] (fun i:Nat=>[.i .i64 i]) (fun i=>(5,bx (f.blocks.getD b Enc.d))::(rgO m f n ty (some (pin 1)) (some (pin 2)) (pin 3+1) ((codeTo f b i).length) (regM f ((codeTo f b i).length)))) (fun i=>i<=iLen f b/\ ∀j,j<(codeTo f b i).length->(eacC f n (regC f) j).code=0) (fun i=>iLen f b-i) 0 ⟨by omega,hv1⟩ ?_ fun i hq2=>?_
  ·refine eP [] [] ?_ ?_<;>repeat' first|exact eN|refine And.intro ?_ ?_
   exact fun _ h=>h
  conv=>whnf
  obtain⟨hi1,hv2⟩:=hq2
  have hkl:i<iLen f b->(codeTo f b i).length<(Code f).length:=fun h=>kd_lt (by omega) h
  repeat' first|(refine iG (fun hb hc=>?_) (fun hb hc=>?_)<;>first|exact hc.elim|(exfalso;omega)|conv=>whnf)|(refine gqs ?_;conv=>whnf)|((first|refine CallV.pan ?_|refine CallW.pan ?_);(conv=>whnf);refine cP (registers1_O m f n ty (iAt f b i) ⟨n,b,i⟩ (codeTo f b i).length (regM f (codeTo f b i).length) (by omega) (hr b i)) (fun ht=>?_) (fun ht=>?_)<;>conv=>whnf)|(refine yt ?_;conv=>whnf)|exact⟨_,.keep rfl rfl⟩|fail
  ·refine .mk (i+1) ⟨by omega,eac_step (by omega) (by omega) hv2 ht⟩ (by omega) ?_
   refine eP [] [] ?_ ?_<;>repeat' first|exact eN|refine And.intro ?_ ?_
   exact mapX_le (by rw[kdl f b (i+1),kdl f b i];omega) fun l=>by rw[kdl f b (i+1),<-Nat.add_assoc,<-kdl,<-kd_1 (by omega) (by omega:i<iLen f b)];exact regM_step f _ l
  ·exact pzE (eachF_at (by omega) (by omega) hv2 ht) ht
  ·obtain rfl:i=iLen f b:=by omega
   refine .mk (b+1) ⟨by omega,by rw[kd_nx];exact hv2⟩ (by omega) ?_
   refine eP [] [] ?_ ?_<;>repeat' first|exact eN|refine And.intro ?_ ?_
   exact mapX_le (by rw[kd_nx];exact Nat.le_refl _) fun l=>by rw[kd_nx]
 ·obtain rfl:b=f.blocks.length:=by omega
  have e:=eachF_no hv1
  refine⟨by rw[e],?_⟩
  conv=>whnf
  refine⟨[],[],trivial,?_,rfl⟩
  repeat' first|exact eN|refine And.intro ?_ ?_
  exact fun _ h=>h
theorem registers_O (m:ModE) (f:FnE) (n:Int) (ty:AV) (hf:siz f<4294967296) (hr: ∀b i,inI (iAt f b i).reg):
  ASpecO true Tryz.prog 30 [.cp (ckC m f n ty)] [] ((eachF f n (regC f)).code=0) (.tup []) [] (vflt (eachF f n (regC f)).code (eachF f n (regC f)).at') []:=by
 refine ASpecO.enter TYok mixed Tryz.func30 rfl Tryz.call30 Tryz.ntmps30 rfl (rs:=[]) rfl (Clo.one rfl) (Clo.one rfl) rfl (keep:=[0,1,2]) fun pin=>?_;conv=>whnf
 repeat' first|(refine iG (fun hb hc=>?_) (fun hb hc=>?_)<;>first|exact hc.elim|(exfalso;omega)|conv=>whnf)|(refine gqs ?_;conv=>whnf)|((first|refine CallV.pan ?_|refine CallW.pan ?_);(conv=>whnf);refine cP (eachReg_O m f n ty hf hr) (fun ht=>?_) (fun ht=>?_)<;>conv=>whnf)|(refine yt ?_;conv=>whnf)|exact⟨_,.keep rfl rfl⟩|fail
 ·exact⟨[],[],trivial,trivial,rfl⟩
 ·exact⟨[],[],⟨rfl,rfl,rfl,rfl,trivial⟩,trivial,rfl⟩
def idxC (l:List Int) (x:Int) (i:Nat):Int:=if x=l.getD i Enc.d then 1 else 0
def Index (l:List Int) (x:Int):Int:=match firstC (idxC l x) l.length with
 |some i=>i
 |none=>-1
theorem Index_S (l:List Int) (x:Int) (hl:l.length<4294967296):ASpec Tryz.prog 140 [eL l,.i .i64 x] (.i .i64 (Index l x)) []:=by
 refine ASpec.enter TYok mixed Tryz.func140 rfl Tryz.call140 Tryz.ntmps140 rfl (rs:=[.tmp 4]) rfl (nodupB_ok rfl) (Clo.one rfl) (keep:=[0,1,4,5,7,8]) ?_;conv=>whnf
 repeat' first|(refine iG (fun hb hc=>?_) (fun hb hc=>?_)<;>first|exact hc.elim|(exfalso;omega)|conv=>whnf)|(refine gqs ?_;conv=>whnf)|(refine yt ?_;conv=>whnf)|exact⟨_,.keep rfl rfl⟩|fail
 refine lp [8] (fun q:Nat=>[.i .i64 q]) (fun q=>[]) (fun q=>q<=l.length/\ ∀i,i<q->idxC l x i=0) (fun q=>l.length-q) 0 ⟨by omega,fun i h=>by omega⟩ ?_ fun q hq=>?_
 ·refine eP [] [] ?_ ?_<;>repeat' first|exact eN|refine And.intro ?_ ?_
 conv=>whnf
 obtain⟨hq,hv⟩:=hq
 repeat' first|(refine iG (fun hb hc=>?_) (fun hb hc=>?_)<;>first|exact hc.elim|(exfalso;omega)|conv=>whnf)|(refine gqs ?_;conv=>whnf)|(refine yt ?_;conv=>whnf)|exact⟨_,.keep rfl rfl⟩|fail
 ·exact⟨_,.keep (by rw[Index,firstC_at (by omega) hv (by unfold idxC;rw[if_pos hc];decide)]) rfl⟩
 ·refine .mk (q+1) ⟨by omega,all_step hv (by unfold idxC;rw[if_neg hc])⟩ (by omega) ?_
  refine eP [] [] ?_ ?_<;>repeat' first|exact eN|refine And.intro ?_ ?_
 ·exact⟨_,.keep (by rw[Index,firstC_no fun i hi=>hv i (by omega)]) rfl⟩
theorem Index_has (l:List Int) (x:Int):decide (0<=Index l x)=l.contains x:=by
 unfold Index
 cases hq:firstC (idxC l x) l.length with
 |some i=>
  have h1:=List.mem_of_find?_eq_some hq
  have h2:=List.find?_some hq
  simp only[List.mem_range] at h1
  have h3:x=l.getD i Enc.d:=by
   unfold idxC at h2;split at h2
   ·assumption
   ·simp at h2
  have h4:l.contains x=true:=by
   rw[List.contains_iff_mem,h3,List.getD_eq_getElem?_getD,List.getElem?_eq_getElem h1];exact List.getElem_mem h1
  rw[h4];simp
 |none=>
  have h1:l.contains x=false:=by
   rw[<-Bool.not_eq_true,List.contains_iff_mem]
   intro hm
   obtain⟨i,hi,rfl⟩:=List.getElem_of_mem hm
   have:=List.find?_eq_none.1 hq i (List.mem_range.2 hi)
   unfold idxC at this
   rw[List.getD_eq_getElem?_getD,List.getElem?_eq_getElem hi] at this
   simp at this
  rw[h1];simp
theorem Contains_S (l:List Int) (x:Int) (hl:l.length<4294967296):ASpec Tryz.prog 124 [eL l,.i .i64 x] (.b (l.contains x)) []:=by
 rw[<-Index_has]
 refine ASpec.enter TYok mixed Tryz.func124 rfl Tryz.call124 Tryz.ntmps124 rfl (rs:=[.tmp 4]) rfl (nodupB_ok rfl) (Clo.one rfl) (keep:=[0,1,4]) ?_;conv=>whnf
 repeat' first|(refine iG (fun hb hc=>?_) (fun hb hc=>?_)<;>first|exact hc.elim|(exfalso;omega)|conv=>whnf)|(refine gqs ?_;conv=>whnf)|(refine gqc (x:=fun _=>Index_S _ _ hl) (k:= ?_);conv=>whnf)|(refine yt ?_;conv=>whnf)|exact⟨_,.keep rfl rfl⟩|fail
theorem gSuccs_S (d:Nat) (f:FnE) (b:Int) (hs:siz f<4294967296):ASpec Tryz.prog 97 [eS f,.i .i64 b] (.orow d 1 0 (Succs f b).length) [(d,oL (Succs f b))]:=by
 have h1:=blocks_le f
 have h2:=code_le f b.toNat
 refine ASpec.enter TYok mixed Tryz.func97 rfl Tryz.call97 Tryz.ntmps97 rfl (rs:=[.tmp 4]) rfl (nd1 _) (Clo.row) (keep:=[0,1,2,4,5,6,7,9,51,52,53]) ?_;conv=>whnf
 repeat' first|(refine iG (fun hb hc=>?_) (fun hb hc=>?_)<;>first|exact hc.elim|(exfalso;omega)|conv=>whnf)|(refine gqs ?_;conv=>whnf)|(refine gqc (x:=fun _=>irEnds_S _) (k:= ?_);conv=>whnf)|(refine yt ?_;conv=>whnf)|exact⟨_,.keep rfl rfl⟩|fail
 ·exact⟨_,.nil (by
   rw[Succs]
   by_cases ha:b<0\/(f.blocks.length:Int)<=b
   ·rw[if_pos ha];rfl
   ·rw[if_neg ha,if_pos (by omega)];rfl)⟩
 ·refine⟨_,.nil ?_⟩
  rw[Succs,if_neg (by omega),if_neg (by omega),if_pos];rfl
  refine⟨fun h=>?_,fun h=>?_⟩<;> · rw[h] at hc;simp[Ends] at hc
 generalize hx:(f.blocks.getD b.toNat Enc.d).code.getD (((f.blocks.getD b.toNat Enc.d).code.length:Int)-1).toNat Enc.d=x at*
 have hop: ¬(x.op≠31/\x.op≠32):=by
  rintro ⟨ha,hb⟩
  simp[Ends] at hc
  omega
 have h3:siz x<=siz f:=hx▸ins_le f _ _
 have h4:=to_le x
 let acc (q:Nat):=(x.to.take q).foldl (sucStep f.blocks.length) []
 have h5: ∀q,q<=x.to.length->(acc q).length<=q:=fun q hq=>by have:=sucStep_len f.blocks.length (x.to.take q) [];rw[List.length_take,Nat.min_eq_left hq] at this;simpa using this
 refine lp [53,7] (fun q:Nat=>[.i .i64 q,.orow 7 1 0 (acc q).length]) (fun q=>[(7,oL (acc q)),(2,bx f),(6,bx x)]) (fun q=>q<=x.to.length) (fun q=>x.to.length-q) 0 (by omega) ?_ fun q hq=>?_
 ·refine eP [] [7] ?_ ?_<;>repeat' first|exact eN|refine And.intro ?_ ?_
 conv=>whnf
 have h6:=h5 q hq
 repeat' first|(refine iG (fun hb hc=>?_) (fun hb hc=>?_)<;>first|exact hc.elim|(exfalso;omega)|conv=>whnf)|(refine gqs ?_;conv=>whnf)|(refine gqc (x:=fun _=>Contains_S (acc q) _ (by omega)) (k:= ?_);conv=>whnf)|(refine yt ?_;conv=>whnf)|exact⟨_,.keep rfl rfl⟩|fail
 ·have e:acc (q+1)=acc q++[x.to.getD q Enc.d]:=(foldl_take (d:=Enc.d) (by omega)).trans (congrArg (fun c=>bif c then _ else _) hb)
  refine .mk (q+1) (by omega) (by omega) ?_
  refine eP [(7,75)] [] ?_ ?_<;>repeat' first|exact eN|refine And.intro ?_ ?_|exact snoc_len e|exact snoc_get e rfl|rw[e]
 ·have e:acc (q+1)=acc q:=(foldl_take (d:=Enc.d) (by omega)).trans (congrArg (fun c=>bif c then _ else _) hb)
  refine .mk (q+1) (by omega) (by omega) ?_
  rw[<-e]
  refine eP [] [] ?_ ?_<;>repeat' first|exact eN|refine And.intro ?_ ?_
 ·have e:acc q=Succs f b:=by rw[Succs,if_neg (by omega),if_neg (by omega),hx,if_neg hop];simp only[acc];rw[List.take_of_length_le (by omega)]
  exact⟨_,.give rfl rfl (by rw[e]) (by rw[e];exact fun _ _=>rfl) rfl⟩
theorem gSuccs_F (f:FnE) (b:Int) (hs:siz f<4294967296):ASpec Tryz.prog 97 [eS f,.i .i64 b] (eL (Succs f b)) []:=
 oL_frz (fun id=>rfl) (gSuccs_S 0 f b hs)
theorem gPreds_S (f:FnE) (hs:siz f<4294967296):ASpec Tryz.prog 61 [eS f] (.orow 10 1 0 f.blocks.length) [(10,.tree 1 f.blocks.length fun t=>[eL (cnt f t f.blocks.length)])]:=by
 have h1:=blocks_le f
 refine ASpec.enter TYok mixed Tryz.func61 rfl Tryz.call61 Tryz.ntmps61 rfl (rs:=[.tmp 2]) rfl (nd1 _) (Clo.tree) (keep:=[0,1,2,3,4,6,13,14,19,20,21]) ?_;conv=>whnf
 repeat' first|(refine iG (fun hb hc=>?_) (fun hb hc=>?_)<;>first|exact hc.elim|(exfalso;omega)|conv=>whnf)|(refine gqs ?_;conv=>whnf)|(refine yt ?_;conv=>whnf)|exact⟨_,.keep rfl rfl⟩|fail
 refine lp [14] (fun b:Nat=>[.i .i64 b]) (fun b=>[(10,.tree 1 f.blocks.length fun t=>[eL (cnt f t b)]),(1,bx f)]) (fun b=>b<=f.blocks.length) (fun b=>f.blocks.length-b) 0 (by omega) ?_ fun b hb=>?_
 ·refine eP [] [] ?_ ?_<;>repeat' first|exact eN|refine And.intro ?_ ?_
  exact fun i hi=>And.intro rfl rfl
 conv=>whnf
 have hlen:=Succs_len f b
 repeat' first|(refine iG (fun hb hc=>?_) (fun hb hc=>?_)<;>first|exact hc.elim|(exfalso;omega)|conv=>whnf)|(refine gqs ?_;conv=>whnf)|(refine gqc (x:=fun _=>gSuccs_F f _ hs) (k:= ?_);conv=>whnf)|(refine yt ?_;conv=>whnf)|exact⟨_,.keep rfl rfl⟩|fail
 ·refine lp [21] (fun i:Nat=>[.i .i64 i]) (fun i=>[(10,.tree 1 f.blocks.length fun t=>[eL (prow f b i t)]),(1,bx f)]) (fun i=>i<=(Succs f b).length) (fun i=>(Succs f b).length-i) 0 (by omega) ?_ fun i hi=>?_
  ·refine eP [] [] ?_ ?_<;>repeat' first|exact eN|refine And.intro ?_ ?_
   exact fun i hi=>teqs_of (congrArg (fun l=>[eL l]) (prow_zero f b i).symm)
  conv=>whnf
  repeat' first|(refine iG (fun hb hc=>?_) (fun hb hc=>?_)<;>first|exact hc.elim|(exfalso;omega)|conv=>whnf)|(refine gqs ?_;conv=>whnf)|(refine yt ?_;conv=>whnf)|exact⟨_,.keep rfl rfl⟩|fail
  ·have hi':i<(Succs f b).length:=by omega
   have hx:(Succs f b).getD (i:Int).toNat Enc.d=(Succs f b)[i]:=by simp[List.getD_eq_getElem?_getD,hi']
   have hm:=Succs_mem (List.getElem_mem hi')
   have hm2:addZ 0 ((Succs f b).getD (i:Int).toNat Enc.d).toNat<f.blocks.length:=by rw[hx,addZ_eq];omega
   have hm3:((addZ 0 ((Succs f b).getD (i:Int).toNat Enc.d).toNat:Nat):Int)=(Succs f b)[i]:=by rw[hx,addZ_eq];omega
   have hp1:=prow_len f b i (addZ 0 ((Succs f b).getD (i:Int).toNat Enc.d).toNat:Nat)
   refine And.intro ⟨by rw[hx];omega,by rw[hx];omega,hm2⟩ ?_
   conv=>whnf
   repeat' first|(refine iG (fun hb hc=>?_) (fun hb hc=>?_)<;>first|exact hc.elim|(exfalso;omega)|conv=>whnf)|(refine gqs ?_;conv=>whnf)|(refine yt ?_;conv=>whnf)|exact⟨_,.keep rfl rfl⟩|fail
   refine And.intro ⟨rfl,fun _ _=>rfl⟩ ?_
   conv=>whnf
   repeat' first|(refine iG (fun hb hc=>?_) (fun hb hc=>?_)<;>first|exact hc.elim|(exfalso;omega)|conv=>whnf)|(refine gqs ?_;conv=>whnf)|(refine yt ?_;conv=>whnf)|exact⟨_,.keep rfl rfl⟩|fail
   refine And.intro ⟨⟨rfl,fun _ _=>leafs_cat (fun _=>rfl) (leafs_lit1 rfl) _⟩,hm2⟩ ?_
   conv=>whnf
   repeat' first|(refine iG (fun hb hc=>?_) (fun hb hc=>?_)<;>first|exact hc.elim|(exfalso;omega)|conv=>whnf)|(refine gqs ?_;conv=>whnf)|(refine yt ?_;conv=>whnf)|exact⟨_,.keep rfl rfl⟩|fail
   refine .mk (i+1) (by omega) (by omega) ?_
   refine eP [] [] ?_ ?_<;>repeat' first|exact eN|refine And.intro ?_ ?_
   intro t ht
   refine tree_snoc (x:=(b:Int)) (g':=fun t:Nat=>[eL (prow f b (i+1) t)]) (l':=prow f b (i+1) t) (fun e=>?_) rfl (fun _=>⟨_,rfl⟩) (fun _=>rfl) fun e=>?_
   ·rw[prow_succ f b i t hi',if_pos (by rw[<-hm3,e]),e]
   ·exact congrArg (fun l=>[eL l]) ((prow_succ f b i t hi').trans (if_neg fun h=>e (by omega)))
  ·refine .mk (b+1) (by omega) (by omega) ?_
   refine eP [] [] ?_ ?_<;>repeat' first|exact eN|refine And.intro ?_ ?_
   exact fun t ht=>teqs_of (congrArg (fun l=>[eL l]) (prow_all f b i t (by omega)))
 ·exact⟨_,.giveT rfl rfl (by omega) (fun t _=>by rw[show b=f.blocks.length by omega];exact teqs_refl _) rfl⟩
theorem gPreds_F (f:FnE) (hs:siz f<4294967296):ASpec Tryz.prog 61 [eS f] (eL (PredsL f)) []:=
 (gPreds_S f hs).gives (.freezeT rfl rfl (by simp[PredsL]) (fun i hi=>teqs_of (by
  have hi':i<f.blocks.length:=by simpa[PredsL] using hi
  show[eL (cnt f i f.blocks.length)]=[eL ((PredsL f).getD i [])]
  rw[PredsL,List.getD_eq_getElem?_getD,List.getElem?_map,List.getElem?_range hi'];rfl)) rfl) (Clo.row0 fun id=>rfl) (by simp)
open Go.RowKit Go.Shelf Go.Sort
theorem Clo.arg1 {d e' n':Nat} {g':Nat->List AV}:Clo (.tup []) [(d,.row none e' n' g')]:=
 ⟨fun id hm=>(by cases hm),fun i ob hl id hm=>(by
  rw[lk_cons] at hl
  split at hl
  ·cases hl;cases hm
  ·simp[lk] at hl)⟩
theorem cell_at {w:World} {b k:Nat} {cells:List Value} {ty:TypeId} (h:w.heap[b]?=some (.cells cells.toArray ty (0,0))):w.cell? ⟨b,k,none⟩=cells[k]?/\w.frozen? ⟨b,k,none⟩=false:=by
 constructor
 ·simp[World.cell?,h]
 ·simp[World.frozen?,h]
theorem Reverse_S (l:List Int) (hl:l.length<4294967296):ASpecF true Tryz.prog 125 [.orow 1000 1 0 l.length] [(1000,oL l)] (.tup []) [(1000,oL l.reverse)]:=by
 refine⟨Tryz.call125,Clo.arg1,fun S β w us hob hS hus hv=>?_⟩
 obtain⟨u,us',rfl,e1,e2⟩:=hus
 unfold rels at e2;subst e2
 unfold rel at e1
 obtain⟨hok,rfl⟩:=e1
 have hrow:=hob.objs 1000 _ (lk_cons▸if_pos rfl)
 obtain⟨g1,g2,g3⟩:=hrow
 have hlt: ∀k∈(β 1000).foot,k<w.heap.size:=fun k hk=>hob.lt k (by rw[feet_cons];exact List.mem_append_left _ hk)
 have hfeet: ∀no:Obj,feet [(1000,no)] β=(β 1000).foot:=fun no=>by rw[feet_cons];simp[feet]
 have hnd:(β 1000).foot.Nodup:=by have:=hob.nodup;rwa [hfeet] at this
 have hob2: ∀ {id:Nat} {ob:Obj},lk [(1000,(oL l.reverse:Obj))] id=some ob->id=1000/\ob=oL l.reverse:=fun {id ob} h=>by
  rw[lk_cons] at h
  split at h
  ·rename_i e;cases h;exact⟨e.symm,rfl⟩
  ·simp[lk] at h
 by_cases h0:l.length=0
 ·have:l=[]:=List.eq_nil_of_length_eq_zero h0
  subst this
  refine(Tryz.slices_Reverse_int_empty _ _ w).mono ?_
  rintro e w' ⟨rfl,rfl⟩
  refine⟨_,β,rfl,BelowX.refl _ _,fun id ob h=>?_,fun k hk=>?_,?_,by simp,⟨fun _ _ _ _ _=>rfl,fun _ _ _ h=>nomatch h⟩,⟨[],rfl,rfl⟩⟩
  ·obtain⟨rfl,rfl⟩:=hob2 h
   exact⟨Nat.zero_le _,Nat.zero_le _,g3.imp id fun⟨b,off,cells,ty,us,a1,a2,a3,a4,a5⟩=>⟨b,off,cells,ty,us,a1,a2,a3,⟨a4.1,fun _ h=>nomatch h⟩,fun i hi=>absurd hi (Nat.not_lt_zero _)⟩⟩
  ·rw[hfeet] at hk
   exact⟨.inr (by rw[hfeet];exact hk),hlt k hk⟩
  ·rw[hfeet];exact hnd
 ·rcases g3 with⟨_,c0,_⟩|⟨b,off,cells,ty,us,a1,a2,a3,a4,a5⟩
  ·have g1':l.length<=(β 1000).cap:=g1
   omega
  have hus: ∀i,i<l.length->cells[off+i]?=some (.int .i64 (l.getD i 0)):=fun i hi=>by
   obtain⟨⟨⟨r1,_⟩,r2⟩,r3⟩:=a5 i hi
   obtain⟨u,us',e1,e2,e3⟩:=r3
   unfold rels at e3;subst e3
   unfold rel at e2;subst e2
   have:=r2 0 _ (by rw[e1];rfl)
   exact(congrArg (fun k=>cells[k]?) (show off+i=off+i*1+0 by omega)).trans this
  rw[a1]
  refine(Tryz.slices_Reverse_int b (off+0*1) _ l w (fun j hj=>?_) (by omega)).mono ?_
  ·have hj':j<l.length:=by simpa using hj
   have hc:=cell_at (k:=off+0*1+j) a3
   refine⟨hc.1.trans ?_,hc.2⟩
   rw[show off+0*1+j=off+j by omega,hus j hj']
   simp[List.getD_eq_getElem?_getD,hj',getElem!_pos]
  ·rintro e w' ⟨rfl,n,rfl⟩
   have hb:b<w.heap.size:=hlt b (by rw[a2];simp)
   have hheap:(putRow (Value.int .i64) (Sort.ahead w n) b (off+0*1) l.reverse.toArray).heap=w.heap.modify b (onCells (putCells (Value.int .i64) (off+0*1) l.reverse.toArray)):=rfl
   have hnew:(putRow (Value.int .i64) (Sort.ahead w n) b (off+0*1) l.reverse.toArray).heap[b]?=some (.cells (putCells (Value.int .i64) (off+0*1) l.reverse.toArray cells.toArray).toList.toArray ty (0,0)):=by
    rw[hheap,Array.getElem?_modify,if_pos rfl,a3];rfl
   have hlen:(putCells (Value.int .i64) (off+0*1) l.reverse.toArray cells.toArray).toList.length=cells.length:=by simp[putCells]
   refine⟨_,β,rfl,⟨rfl,rfl,rfl,by rw[hheap];simp,fun k hk hx=>?_⟩,fun id ob h=>?_,fun k hk=>?_,?_,by simp,⟨fun _ _ _ _ _=>rfl,fun _ _ _ h=>nomatch h⟩,⟨[],rfl,rfl⟩⟩
   ·rw[hheap,Array.getElem?_modify,if_neg]
    intro e;subst e
    exact hx (by rw[hfeet,a2];simp)
   ·obtain⟨rfl,rfl⟩:=hob2 h
    refine⟨by show l.reverse.length<=_;rw[List.length_reverse];exact g1,by show l.reverse.length<=_;rw[List.length_reverse];exact g2,.inr ⟨b,off,_,ty,fun i=>[.int .i64 (l.reverse.getD i 0)],a1,a2,hnew,⟨by rw[hlen];exact a4.1,fun _ h=>nomatch h⟩,fun i hi=>⟨⟨⟨rfl,rfl⟩,fun j u hj=>?_⟩,⟨_,_,rfl,rfl,rfl⟩⟩⟩⟩
    have hi':i<l.length:=by have:i<l.reverse.length:=hi;simpa using this
    cases j with
    |zero=>
     cases hj
     have hc:off+i<cells.length:=by
      have h1:off+(β 1000).cap*1<=cells.length:=a4.1
      have h2:l.length<=(β 1000).cap:=g1
      omega
     rw[show off+i*Enc.sz Int+0=off+i from(by show off+i*1+0=off+i;omega),Array.getElem?_toList]
     unfold putCells
     rw[Array.getElem?_mapIdx,List.getElem?_toArray,hus i hi',Option.map_some,if_pos (by simp;omega),show off+i-(off+0*1)=i by omega]
     have hi2:i<l.reverse.length:=by simpa using hi'
     simp[List.getD_eq_getElem?_getD,hi2,getElem!_pos,hi']
    |succ j=>cases hj
   ·rw[hfeet] at hk
    exact⟨.inr (by rw[hfeet];exact hk),by rw[hheap];simpa using hlt k hk⟩
   ·rw[hfeet];exact hnd
structure VisE where
 b:Int
 rest:List Int
instance:Enc VisE:=⟨fun x=>[.i .i64 x.b,eL x.rest],2,⟨0,[]⟩⟩
structure OrdS where
 ma:List Bool
 st:List VisE
 out:List Int
def ordIg (f:FnE):OrdS:=⟨(List.replicate f.blocks.length false).set 0 true,[⟨0,Succs f 0⟩],[]⟩
def ordT (f:FnE) (s:OrdS) (v:VisE) (l:List VisE):OrdS:=
 match v.rest with
 |[]=>⟨s.ma,l,s.out++[v.b]⟩
 |t::r=>if s.ma.getD t.toNat false=true then⟨s.ma,l++[⟨v.b,r⟩],s.out⟩ else⟨s.ma.set t.toNat true,l++[⟨v.b,r⟩,⟨t,Succs f t⟩],s.out⟩
def ordG (f:FnE) (s:OrdS):OrdS:=if s.st.length=0 then s else ordT f s (s.st.getD (s.st.length-1) Enc.d) s.st.dropLast
def ordN (f:FnE):Nat->OrdS
 |0=>ordIg f
 |n+1=>ordG f (ordN f n)
structure OrdInv (f:FnE) (s:OrdS):Prop where
 len:s.ma.length=f.blocks.length
 cnt:s.out.length+s.st.length=s.ma.count true
 zero:s.ma.getD 0 false=true
 rg: ∀b:Nat,s.ma.getD b false=true->RG f (-1) b
 rng: ∀v∈s.st,0<=v.b/\v.b<f.blocks.length
 mkd: ∀v∈s.st,s.ma.getD v.b.toNat false=true
 suf: ∀v∈s.st,v.rest<:+Succs f v.b
 cls: ∀b:Nat,s.ma.getD b false=true-> ∀t∈Succs f b,s.ma.getD t.toNat false=true\/ ∃v∈s.st,v.b=b/\t∈v.rest
 cov: ∀b:Nat,s.ma.getD b false=true->(b:Int)∈s.out\/ ∃v∈s.st,v.b=b
 outm: ∀b∈s.out,(0<=b/\b<f.blocks.length)/\s.ma.getD b.toNat false=true
theorem count_set_t: ∀(l:List Bool) (i:Nat),i<l.length->l.getD i false=false->(l.set i true).count true=l.count true+1
 |[],_,h,_=>absurd h (by simp)
 |x::l,0,_,h=>by
  have:x=false:=h
  subst this;simp
 |x::l,i+1,h,h'=>by
  have:=count_set_t l i (by simpa using h) h'
  rw[List.set_cons_succ,List.count_cons,List.count_cons,this];omega
theorem getD_set_t (l:List Bool) (i j:Nat) (h:i<l.length):(l.set i true).getD j false=(if i=j then true else l.getD j false):=by
 rw[List.getD_eq_getElem?_getD,List.getElem?_set]
 split
 ·rename_i e;subst e;first|rfl|(rw[if_pos h];rfl)
 ·rw[<-List.getD_eq_getElem?_getD]
theorem snoc_of {α:Type} {d:α} (l:List α) (h:0<l.length): ∃l' x,l=l'++[x]/\l.getD (l.length-1) d=x/\l.dropLast=l':=by
 refine⟨l.dropLast,l.getD (l.length-1) d,?_,rfl,rfl⟩
 have hne:l≠[]:=fun e=>by rw[e] at h;simp at h
 conv=>lhs;rw[<-List.dropLast_concat_getLast hne]
 rw[List.getLast_eq_getElem,List.getD_eq_getElem?_getD,List.getElem?_eq_getElem (by omega)]
 rfl
theorem ordI_inv (f:FnE) (h:0<f.blocks.length):OrdInv f (ordIg f) where
 len:=by simp[ordIg]
 cnt:=by
  rw[show(ordIg f).ma=(List.replicate f.blocks.length false).set 0 true from rfl,count_set_t _ _ (by simpa using h) (by simp[List.getD_eq_getElem?_getD,List.getElem?_replicate,h])]
  simp[ordIg,List.count_replicate]
 zero:=by rw[show(ordIg f).ma=(List.replicate f.blocks.length false).set 0 true from rfl,getD_set_t _ _ _ (by simpa using h)];rfl
 rg:=fun b hb=>by
  rw[show(ordIg f).ma=(List.replicate f.blocks.length false).set 0 true from rfl,getD_set_t _ _ _ (by simpa using h)] at hb
  by_cases e:0=b
  ·exact e▸ .zero h (by omega)
  ·rw[if_neg e] at hb;simp[List.getD_eq_getElem?_getD,List.getElem?_replicate] at hb
   split at hb<;>simp at hb
 rng:=fun v hv=>by
  rw[List.mem_singleton.1 hv];exact⟨by simp,by simpa using h⟩
 mkd:=fun v hv=>by
  rw[List.mem_singleton.1 hv,show(ordIg f).ma=(List.replicate f.blocks.length false).set 0 true from rfl,getD_set_t _ _ _ (by simpa using h)];rfl
 suf:=fun v hv=>by rw[List.mem_singleton.1 hv];exact List.suffix_refl _
 cls:=fun b hb t ht=>by
  rw[show(ordIg f).ma=(List.replicate f.blocks.length false).set 0 true from rfl,getD_set_t _ _ _ (by simpa using h)] at hb
  by_cases e:0=b
  ·subst e;exact .inr ⟨_,List.mem_singleton.2 rfl,rfl,ht⟩
  ·rw[if_neg e] at hb;simp[List.getD_eq_getElem?_getD,List.getElem?_replicate] at hb
   split at hb<;>simp at hb
 cov:=fun b hb=>by
  rw[show(ordIg f).ma=(List.replicate f.blocks.length false).set 0 true from rfl,getD_set_t _ _ _ (by simpa using h)] at hb
  by_cases e:0=b
  ·subst e;exact .inr ⟨_,List.mem_singleton.2 rfl,rfl⟩
  ·rw[if_neg e] at hb;simp[List.getD_eq_getElem?_getD,List.getElem?_replicate] at hb
   split at hb<;>simp at hb
 outm:=fun b hb=>by simp[ordIg] at hb
def ordM (f:FnE) (s:OrdS):Nat:=(f.blocks.length-s.ma.count true)*(siz f+2)+(s.st.map fun v=>v.rest.length+1).sum
theorem ordT_inv {f:FnE} {s:OrdS} {v:VisE} {l:List VisE} (h:OrdInv f s) (e:s.st=l++[v]):OrdInv f (ordT f s v l)/\ordM f (ordT f s v l)+1<=ordM f s:=by
 have hv:v∈s.st:=by rw[e];simp
 have hl: ∀x∈l,x∈s.st:=fun x hx=>by rw[e];simp[hx]
 have hx: ∀x∈s.st,x∈l\/x=v:=fun x hx=>by rw[e] at hx;simpa using hx
 have hr:=h.rng v hv
 have hlen:s.st.length=l.length+1:=by rw[e];simp
 have hM:ordM f s=(f.blocks.length-s.ma.count true)*(siz f+2)+((l.map fun v=>v.rest.length+1).sum+(v.rest.length+1)):=by
  unfold ordM;rw[e,List.map_append,List.sum_append];simp
 have hc:=h.cnt
 unfold ordT
 cases hq:v.rest with
 |nil=>
  refine⟨⟨h.len,?_,h.zero,h.rg,fun x hx=>h.rng x (hl x hx),fun x hx=>h.mkd x (hl x hx),fun x hx=>h.suf x (hl x hx),fun b hb t ht=>?_,fun b hb=>?_,fun b hb=>?_⟩,?_⟩
  ·show(s.out++[v.b]).length+l.length=s.ma.count true
   rw[List.length_append];simp;omega
  ·rcases h.cls b hb t ht with h1|⟨x,h1,h2,h3⟩
   ·exact .inl h1
   ·rcases hx x h1 with h4|h4
    ·exact .inr ⟨x,h4,h2,h3⟩
    ·subst h4;rw[hq] at h3;simp at h3
  ·rcases h.cov b hb with h1|⟨x,h1,h2⟩
   ·exact .inl (List.mem_append_left _ h1)
   ·rcases hx x h1 with h4|h4
    ·exact .inr ⟨x,h4,h2⟩
    ·subst h4;exact .inl (List.mem_append_right _ (by simp[h2]))
  ·rcases List.mem_append.1 hb with h1|h1
   ·exact h.outm b h1
   ·rw[List.mem_singleton.1 h1];exact⟨hr,h.mkd v hv⟩
  ·show(f.blocks.length-s.ma.count true)*(siz f+2)+(l.map fun v=>v.rest.length+1).sum+1<=_
   rw[hM,hq];simp only[List.length_nil];omega
 |cons t r=>
  have hs:=h.suf v hv
  rw[hq] at hs
  have ht:t∈Succs f v.b:=hs.subset (by simp)
  have htr:=Succs_mem ht
  have hr':r<:+Succs f v.b:=(List.suffix_cons t r).trans hs
  show OrdInv f (if s.ma.getD t.toNat false=true then _ else _)/\ordM f (if s.ma.getD t.toNat false=true then _ else _)+1<=ordM f s
  have hvb:=h.mkd v hv
  by_cases hm:s.ma.getD t.toNat false=true
  ·rw[if_pos hm]
   refine⟨⟨h.len,?_,h.zero,h.rg,fun x hx=>?_,fun x hx=>?_,fun x hx=>?_,fun b hb u hu=>?_,fun b hb=>?_,h.outm⟩,?_⟩
   ·show s.out.length+(l++[(⟨v.b,r⟩:VisE)]).length=s.ma.count true
    rw[List.length_append];simp;omega
   ·rcases List.mem_append.1 hx with h1|h1
    ·exact h.rng x (hl x h1)
    ·rw[List.mem_singleton.1 h1];exact hr
   ·rcases List.mem_append.1 hx with h1|h1
    ·exact h.mkd x (hl x h1)
    ·rw[List.mem_singleton.1 h1];exact hvb
   ·rcases List.mem_append.1 hx with h1|h1
    ·exact h.suf x (hl x h1)
    ·rw[List.mem_singleton.1 h1];exact hr'
   ·rcases h.cls b hb u hu with h1|⟨x,h1,h2,h3⟩
    ·exact .inl h1
    ·rcases hx x h1 with h4|h4
     ·exact .inr ⟨x,List.mem_append_left _ h4,h2,h3⟩
     ·subst h4;rw[hq] at h3
      rcases List.mem_cons.1 h3 with h5|h5
      ·exact .inl (h5▸hm)
      ·exact .inr ⟨_,List.mem_append_right _ (List.mem_singleton.2 rfl),h2,h5⟩
   ·rcases h.cov b hb with h1|⟨x,h1,h2⟩
    ·exact .inl h1
    ·rcases hx x h1 with h4|h4
     ·exact .inr ⟨x,List.mem_append_left _ h4,h2⟩
     ·subst h4;exact .inr ⟨_,List.mem_append_right _ (List.mem_singleton.2 rfl),h2⟩
   ·show(f.blocks.length-s.ma.count true)*(siz f+2)+((l++[(⟨v.b,r⟩:VisE)]).map fun v=>v.rest.length+1).sum+1<=_
    rw[hM,hq,List.map_append,List.sum_append];simp only[List.map_cons,List.map_nil,List.sum_cons,List.sum_nil,List.length_cons];omega
  ·rw[if_neg hm]
   have hf:s.ma.getD t.toNat false=false:=by simpa using hm
   have hti:t.toNat<s.ma.length:=by rw[h.len];omega
   have hG: ∀b,(s.ma.set t.toNat true).getD b false=(if t.toNat=b then true else s.ma.getD b false):=fun b=>getD_set_t _ _ _ hti
   have hup: ∀b,s.ma.getD b false=true->(s.ma.set t.toNat true).getD b false=true:=fun b hb=>by
    rw[hG];split
    ·rfl
    ·exact hb
   have hC:=count_set_t s.ma t.toNat hti hf
   have hCl:(s.ma.set t.toNat true).count true<=f.blocks.length:=by
    have:=List.count_le_length (a:=true) (l:=s.ma.set t.toNat true)
    rw[List.length_set,h.len] at this;exact this
   refine⟨⟨by simp[h.len],?_,hup _ h.zero,fun b hb=>?_,fun x hx=>?_,fun x hx=>?_,fun x hx=>?_,fun b hb u hu=>?_,fun b hb=>?_,fun b hb=>⟨(h.outm b hb).1,hup _ (h.outm b hb).2⟩⟩,?_⟩
   ·show s.out.length+(l++[(⟨v.b,r⟩:VisE),⟨t,Succs f t⟩]).length=(s.ma.set t.toNat true).count true
    rw[List.length_append,hC];simp;omega
   ·rw[hG] at hb
    split at hb
    ·rename_i e1
     have h1:=RG.step (h.rg _ hvb) (t:=t) (by rw[show((v.b.toNat:Nat):Int)=v.b by omega];exact ht) (by omega)
     rwa [e1] at h1
    ·exact h.rg b hb
   ·rcases List.mem_append.1 hx with h1|h1
    ·exact h.rng x (hl x h1)
    ·rcases List.mem_cons.1 h1 with h2|h2
     ·rw[h2];exact hr
     ·rw[List.mem_singleton.1 h2];exact htr
   ·rcases List.mem_append.1 hx with h1|h1
    ·exact hup _ (h.mkd x (hl x h1))
    ·rcases List.mem_cons.1 h1 with h2|h2
     ·rw[h2];exact hup _ hvb
     ·rw[List.mem_singleton.1 h2]
      show(s.ma.set t.toNat true).getD t.toNat false=true
      rw[hG,if_pos rfl]
   ·rcases List.mem_append.1 hx with h1|h1
    ·exact h.suf x (hl x h1)
    ·rcases List.mem_cons.1 h1 with h2|h2
     ·rw[h2];exact hr'
     ·rw[List.mem_singleton.1 h2];exact List.suffix_refl _
   ·rw[hG] at hb
    by_cases e1:t.toNat=b
    ·exact .inr ⟨⟨t,Succs f t⟩,List.mem_append_right _ (by simp),by show t=b;omega,by show u∈Succs f t;rw[show t=(b:Int) by omega];exact hu⟩
    ·rw[if_neg e1] at hb
     rcases h.cls b hb u hu with h1|⟨x,h1,h2,h3⟩
     ·exact .inl (hup _ h1)
     ·rcases hx x h1 with h4|h4
      ·exact .inr ⟨x,List.mem_append_left _ h4,h2,h3⟩
      ·subst h4;rw[hq] at h3
       rcases List.mem_cons.1 h3 with h5|h5
       ·exact .inl (by subst h5;show(s.ma.set u.toNat true).getD u.toNat false=true;rw[hG,if_pos rfl])
       ·exact .inr ⟨_,List.mem_append_right _ (List.mem_cons_self ..),h2,h5⟩
   ·rw[hG] at hb
    by_cases e1:t.toNat=b
    ·exact .inr ⟨⟨t,Succs f t⟩,List.mem_append_right _ (by simp),by show t=b;omega⟩
    ·rw[if_neg e1] at hb
     rcases h.cov b hb with h1|⟨x,h1,h2⟩
     ·exact .inl h1
     ·rcases hx x h1 with h4|h4
      ·exact .inr ⟨x,List.mem_append_left _ h4,h2⟩
      ·subst h4;exact .inr ⟨_,List.mem_append_right _ (List.mem_cons_self ..),h2⟩
   ·show(f.blocks.length-(s.ma.set t.toNat true).count true)*(siz f+2)+((l++[(⟨v.b,r⟩:VisE),⟨t,Succs f t⟩]).map fun v=>v.rest.length+1).sum+1<=_
    have hsl:=Succs_len f t
    rw[hM,hq,List.map_append,List.sum_append,hC]
    simp only[List.map_cons,List.map_nil,List.sum_cons,List.sum_nil,List.length_cons]
    rw[hC] at hCl
    obtain⟨k,hk⟩: ∃k,f.blocks.length-s.ma.count true=k+1:=⟨f.blocks.length-s.ma.count true-1,by omega⟩
    rw[hk,show f.blocks.length-(s.ma.count true+1)=k by omega,Nat.add_mul]
    omega
theorem ordN_inv (f:FnE) (h:0<f.blocks.length): ∀n,OrdInv f (ordN f n)/\((ordN f n).st.length=0\/ordM f (ordN f n)+n<=ordM f (ordIg f))
 |0=>⟨ordI_inv f h,.inr (Nat.le_refl _)⟩
 |n+1=>by
  obtain⟨h1,h2⟩:=ordN_inv f h n
  by_cases e:(ordN f n).st.length=0
  ·have e2:ordN f (n+1)=ordN f n:=if_pos e
   rw[e2]
   exact⟨h1,.inl e⟩
  ·obtain⟨l',x,e3,e4,e5⟩:=snoc_of (d:=(Enc.d:VisE)) (ordN f n).st (by omega)
   have e2:ordN f (n+1)=ordT f (ordN f n) x l':=by show ordG f (ordN f n)=_;rw[ordG,if_neg e,e4,e5]
   have h3:=ordT_inv h1 e3
   rw[e2]
   refine⟨h3.1,.inr ?_⟩
   have:=h2.resolve_left e
   omega
def ordB (f:FnE):Nat:=f.blocks.length*(siz f+2)+siz f+2
theorem ordI_M (f:FnE):ordM f (ordIg f)<=ordB f:=by
 unfold ordM ordB
 have h1:(f.blocks.length-(ordIg f).ma.count true)*(siz f+2)<=f.blocks.length*(siz f+2):=Nat.mul_le_mul_right _ (Nat.sub_le _ _)
 have h2:=Succs_len f 0
 have h3:((ordIg f).st.map fun v=>v.rest.length+1).sum=(Succs f 0).length+1:=by simp[ordIg]
 omega
theorem ordN_stop {f:FnE} {n:Nat} (e:(ordN f n).st.length=0): ∀k,ordN f (n+k)=ordN f n
 |0=>rfl
 |k+1=>by
  show ordG f (ordN f (n+k))=_
  rw[ordN_stop e k];exact if_pos e
def ordL (f:FnE):List Int:=if f.blocks.length=0 then[] else(ordN f (ordB f+1)).out.reverse
theorem ordN_end (f:FnE) (h:0<f.blocks.length):(ordN f (ordB f+1)).st.length=0:=by
 have h1:=(ordN_inv f h (ordB f+1)).2
 have h2:=ordI_M f
 omega
theorem ordL_of {f:FnE} {n:Nat} (h:0<f.blocks.length) (e:(ordN f n).st.length=0):ordL f=(ordN f n).out.reverse:=by
 rw[ordL,if_neg (by omega)]
 have h1:=ordN_end f h
 rcases Nat.le_total n (ordB f+1) with hl|hl
 ·obtain⟨k,hk⟩:=Nat.exists_eq_add_of_le hl
  rw[hk,ordN_stop e]
 ·obtain⟨k,hk⟩:=Nat.exists_eq_add_of_le hl
  rw[hk,ordN_stop h1]
theorem ordL_mem (f:FnE) (b:Nat) (hb:b<f.blocks.length):(b:Int)∈ordL f↔RG f (-1) b:=by
 have h0:0<f.blocks.length:=by omega
 have h1:=(ordN_inv f h0 (ordB f+1)).1
 have h2:=List.eq_nil_of_length_eq_zero (ordN_end f h0)
 rw[ordL,if_neg (by omega),List.mem_reverse]
 constructor
 ·intro hm
  have:=(h1.outm _ hm).2
  exact h1.rg b (by simpa using this)
 ·intro hr
  have hma: ∀b,RG f (-1) b->(ordN f (ordB f+1)).ma.getD b false=true:=fun b hr=>by
   induction hr with
   |zero _ _=>exact h1.zero
   |step _ ht _ ih=>
    rcases h1.cls _ ih _ ht with h3|⟨v,h3,_⟩
    ·exact h3
    ·rw[h2] at h3;simp at h3
  rcases h1.cov b (hma b hr) with h3|⟨v,h3,_⟩
  ·exact h3
  ·rw[h2] at h3;simp at h3
theorem ordL_rng (f:FnE): ∀x∈ordL f,0<=x/\x<f.blocks.length:=fun x hx=>by
 by_cases h0:f.blocks.length=0
 ·rw[ordL,if_pos h0] at hx;simp at hx
 ·rw[ordL,if_neg h0,List.mem_reverse] at hx
  exact((ordN_inv f (by omega) _).1.outm x hx).1
theorem ord_step {f:FnE} {q:Nat} {J:List VisE} (h:0<(ordN f q).st.length): ∃l' v,(ordN f q).st=l'++[v]/\((ordN f q).st++J).getD ((ordN f q).st.length-1:Int).toNat Enc.d=v/\ordN f (q+1)=ordT f (ordN f q) v l':=by
 obtain⟨l',v,e3,e4,e5⟩:=snoc_of (d:=(Enc.d:VisE)) (ordN f q).st h
 have e0:((ordN f q).st.length-1:Int).toNat=(ordN f q).st.length-1:=by omega
 refine⟨l',v,e3,?_,by show ordG f (ordN f q)=_;rw[ordG,if_neg (by omega),e4,e5]⟩
 rw[e0,List.getD_eq_getElem?_getD,List.getElem?_append_left (by omega),<-List.getD_eq_getElem?_getD,e4]
theorem mk0 (n i:Nat) (hi:i<n):setF (fun x=>constC (Value.bool false)::List.map constC []) (addZ 0 (Int.toNat 0)) [constA (Value.bool true)] i=Enc.enc (((List.replicate n false).set 0 true).getD i Enc.d):=by
 have hd:(Enc.d:Bool)=false:=rfl
 rw[hd,getD_set_t _ _ _ (by simp;omega)]
 unfold setF
 by_cases e:i=0
 ·subst e;rw[if_pos rfl,if_pos (by rfl)];rfl
 ·rw[if_neg (by rw[addZ_eq];exact e),if_neg (fun h=>e h.symm),List.getD_eq_getElem?_getD,List.getElem?_replicate,if_pos hi];rfl
theorem gOrder_S (f:FnE) (hs:siz f<4294967296):ASpec Tryz.prog 98 [eS f] (.orow 1000 1 0 (ordL f).length) [(1000,oL (ordL f))]:=by
 have h1:=blocks_le f
 refine ASpec.enter TYok mixed Tryz.func98 rfl Tryz.call98 Tryz.ntmps98 rfl (rs:=[.tmp 2]) rfl (nd1 _) (Clo.row) (keep:=[0,1,2,3,4,5,6,7]) ?_;conv=>whnf
 repeat' first|(refine iG (fun hb hc=>?_) (fun hb hc=>?_)<;>first|exact hc.elim|(exfalso;omega)|conv=>whnf)|(refine gqs ?_;conv=>whnf)|(refine yt ?_;conv=>whnf)|exact⟨_,.keep rfl rfl⟩|fail
 ·have e:ordL f=[]:=if_pos (by omega)
  rw[e]
  exact⟨_,.nil rfl⟩
 have hn:0<f.blocks.length:=by omega
 (try(first|refine yt ?_|refine CallW.lent ?_);(conv=>whnf));(repeat(refine yb ?_;(conv=>whnf)));(first|refine cK (fun _=>gSuccs_F f _ hs) ?_|refine cL (fun _=>gSuccs_F f _ hs) ?_);conv=>whnf
 refine LitW.own ?_
 conv=>whnf
 repeat' first|(refine iG (fun hb hc=>?_) (fun hb hc=>?_)<;>first|exact hc.elim|(exfalso;omega)|conv=>whnf)|(refine gqs ?_;conv=>whnf)|(refine yt ?_;conv=>whnf)|exact⟨_,.keep rfl rfl⟩|fail
 refine lp [4,5] (fun p:Nat×List VisE=>[.orow 4 2 0 (ordN f p.1).st.length,.orow 1000 1 0 (ordN f p.1).out.length]) (fun p=>[(4,oL ((ordN f p.1).st++p.2)),(1000,oL (ordN f p.1).out),(15,oL (ordN f p.1).ma),(1,bx f)]) (fun p=>OrdInv f (ordN f p.1)/\((ordN f p.1).st.length=0\/ordM f (ordN f p.1)+p.1<=ordM f (ordIg f))) (fun p=>ordM f (ordIg f)+1-p.1) (0,[]) (ordN_inv f hn 0) ?_ fun p hq=>?_
 ·refine eP [(4,21)] [1000] ?_ ?_<;>repeat' first|exact eN|refine And.intro ?_ ?_
  ·intro i hi
   have hi':i<1:=hi
   rw[show i=0 by omega];rfl
  ·simp[ordN,ordIg]
  ·intro i hi
   exact mk0 _ i (by simpa[ordN,ordIg] using hi)
 obtain⟨hq,hm⟩:=hq
 have hcn:=hq.cnt
 have hcl:(ordN f p.1).ma.count true<=f.blocks.length:=hq.len▸List.count_le_length
 have hJ:((ordN f p.1).st++p.2).length=(ordN f p.1).st.length+p.2.length:=List.length_append
 conv=>whnf
 repeat' first|(refine iG (fun hb hc=>?_) (fun hb hc=>?_)<;>first|exact hc.elim|(exfalso;omega)|conv=>whnf)|(refine gqs ?_;conv=>whnf)|(refine gqc (x:=fun _=>gSuccs_F f _ hs) (k:= ?_);conv=>whnf)|(refine gqm (x:=Reverse_S (ordN f p.1).out (by omega)) (k:= ?_);conv=>whnf)|(refine yt ?_;conv=>whnf)|exact⟨_,.keep rfl rfl⟩|fail
 ·obtain⟨l',v,e3,e4,e6⟩:=ord_step (f:=f) (q:=p.1) (J:=p.2) (by omega)
  have e5:((ordN f p.1).st++p.2).getD (addZ 0 ((ordN f p.1).st.length-1:Int).toNat) Enc.d=v:=by rw[addZ_eq,Nat.zero_add,e4]
  rw[e4] at hc
  have hv:v.rest=[]:=List.eq_nil_of_length_eq_zero (by omega)
  have e7:ordN f (p.1+1)=⟨(ordN f p.1).ma,l',(ordN f p.1).out++[v.b]⟩:=by rw[e6,ordT,hv]
  have e8:(ordN f (p.1+1)).out=(ordN f p.1).out++[(((ordN f p.1).st++p.2).getD (addZ 0 ((ordN f p.1).st.length-1:Int).toNat) Enc.d).b]:=by rw[e5,e7]
  have e9:(ordN f (p.1+1)).ma=(ordN f p.1).ma:=by rw[e7]
  have e10:(ordN f (p.1+1)).st++v::p.2=(ordN f p.1).st++p.2:=by rw[e7,e3];simp
  have e11:(ordN f (p.1+1)).st.length+1=(ordN f p.1).st.length:=by rw[e7,e3];simp
  refine .mk (p.1+1,v::p.2) (ordN_inv f hn (p.1+1)) (by show _+1-(p.1+1)<_;omega) ?_
  refine eP [(1000,42)] [] ?_ ?_<;>repeat' first|exact eN|refine And.intro ?_ ?_|exact snoc_len e8|exact snoc_get e8 rfl|rw[e8]
  ·show _=(ordN f (p.1+1)).st.length;omega
  ·exact congrArg List.length e10.symm
  ·intro i hi;exact congrArg (fun l=>Enc.enc (List.getD l i (Enc.d:VisE))) e10.symm
  ·exact congrArg List.length e9.symm
  ·intro i hi;exact congrArg (fun l=>Enc.enc (List.getD l i (Enc.d:Bool))) e9.symm
 ·obtain⟨l',v,e3,e4,e6⟩:=ord_step (f:=f) (q:=p.1) (J:=p.2) (by omega)
  have e12:((ordN f p.1).st++p.2).getD (addZ 0 ((ordN f p.1).st.length-1:Int).toNat) Enc.d=v:=by rw[addZ_eq,Nat.zero_add,e4]
  rw[e4] at hc
  obtain⟨t,r,hv⟩: ∃t r,v.rest=t::r:=by
   cases hr:v.rest with
   |nil=>rw[hr] at hc;simp at hc
   |cons t r=>exact⟨t,r,rfl⟩
  have hvm:v∈(ordN f p.1).st:=by rw[e3];simp
  have ht:=Succs_mem ((hq.suf v hvm).subset (show t∈v.rest by rw[hv];simp))
  have hte:v.rest.getD (Int.toNat 0) Enc.d=t:=by rw[hv];rfl
  have hidx:addZ 0 ((ordN f p.1).st.length-1:Int).toNat=(ordN f p.1).st.length-1:=by rw[addZ_eq];omega
  have hcell:[AV.i .i64 v.b,AV.row none (Enc.sz Int) (lenO (some (constA (Value.int .i64 1))) 1 v.rest.length) (offO (some (constA (Value.int .i64 1))) 1 fun i=>Enc.enc (v.rest.getD i Enc.d))]=Enc.enc (⟨v.b,r⟩:VisE):=by
   rw[hv]
   have h2:(offO (some (constA (Value.int .i64 1))) 1 fun i=>Enc.enc ((t::r).getD i Enc.d))=fun i=>Enc.enc (r.getD i Enc.d):=by
    funext i
    show Enc.enc ((t::r).getD ((1:Int).toNat+i) Enc.d)=_
    rw[show(1:Int).toNat+i=i+1 from Nat.add_comm 1 i];rfl
   have h3:lenO (some (constA (Value.int .i64 1))) 1 ((t::r).length:Int)=r.length:=by show(((t::r).length:Int)-1).toNat=r.length;rw[List.length_cons];omega
   rw[h2,h3];rfl
  have hset:((ordN f p.1).st++p.2).set ((ordN f p.1).st.length-1) ⟨v.b,r⟩=l'++⟨v.b,r⟩::p.2:=by rw[e3];simp
  rw[e12,hte,hcell,hidx]
  have hta:addZ 0 t.toNat<(ordN f p.1).ma.length:=by rw[addZ_eq,hq.len];omega
  refine And.intro ⟨by omega,by omega,hta⟩ ?_
  conv=>whnf
  refine And.intro hta ?_
  conv=>whnf
  repeat' first|(refine iG (fun hb hc=>?_) (fun hb hc=>?_)<;>first|exact hc.elim|(exfalso;omega)|conv=>whnf)|(refine gqs ?_;conv=>whnf)|(refine gqc (x:=fun _=>gSuccs_F f _ hs) (k:= ?_);conv=>whnf)|(refine yt ?_;conv=>whnf)|exact⟨_,.keep rfl rfl⟩|fail
  ·rw[addZ_eq,Nat.zero_add] at hb
   have hmt: ¬(ordN f p.1).ma.getD t.toNat false=true:=by rw[Bool.not_eq_true'] at hb;rw[show(ordN f p.1).ma.getD t.toNat false=false from hb];simp
   have e7:ordN f (p.1+1)=⟨(ordN f p.1).ma.set t.toNat true,l'++[⟨v.b,r⟩,⟨t,Succs f t⟩],(ordN f p.1).out⟩:=by
    rw[e6];unfold ordT;rw[hv];exact if_neg hmt
   have e8:(ordN f (p.1+1)).out=(ordN f p.1).out:=by rw[e7]
   have e9:(ordN f (p.1+1)).ma=(ordN f p.1).ma.set t.toNat true:=by rw[e7]
   have e10:(ordN f (p.1+1)).st++[]=((ordN f p.1).st.set ((ordN f p.1).st.length-1) ⟨v.b,r⟩)++[⟨t,Succs f t⟩]:=by rw[e7,e3];simp
   have e11:(ordN f (p.1+1)).st.length=(ordN f p.1).st.length+1:=by rw[e7,e3];simp
   refine .mk (p.1+1,[]) (ordN_inv f hn (p.1+1)) (by show _+1-(p.1+1)<_;omega) ?_
   refine eP [(4,77)] [] ?_ ?_<;>repeat' first|exact eN|refine And.intro ?_ ?_
   ·exact e11.symm
   ·exact congrArg List.length e8.symm
   ·show _=((ordN f (p.1+1)).st++[]).length;rw[List.append_nil];exact e11.symm
   ·intro i hi
    have hi':i<(ordN f p.1).st.length+1:=by rw[<-e11];simpa using hi
    refine Eq.trans ?_ (congrArg (fun l=>Enc.enc (List.getD l i (Enc.d:VisE))) e10.symm)
    have hsl:((ordN f p.1).st.set ((ordN f p.1).st.length-1) ⟨v.b,r⟩).length=(ordN f p.1).st.length:=List.length_set
    show catF _ _ _ i=Enc.enc ((((ordN f p.1).st.set ((ordN f p.1).st.length-1) ⟨v.b,r⟩)++[(⟨t,Succs f t⟩:VisE)]).getD i Enc.d)
    unfold catF
    by_cases hlt:i<(ordN f p.1).st.length
    ·rw[if_pos hlt,List.getD_eq_getElem?_getD,List.getElem?_append_left (by omega),<-List.getD_eq_getElem?_getD,offF_eq,Nat.zero_add]
     refine(set_fun (l:=(ordN f p.1).st++p.2) (x:=(⟨v.b,r⟩:VisE)) rfl i (by omega)).trans (congrArg Enc.enc ?_)
     rw[List.set_append_left _ _ (by omega),List.getD_eq_getElem?_getD,List.getElem?_append_left (by omega),<-List.getD_eq_getElem?_getD]
    ·rw[if_neg hlt,List.getD_eq_getElem?_getD,List.getElem?_append_right (by omega),show i-(ordN f p.1).st.length=0 by omega,hsl,show i-(ordN f p.1).st.length=0 by omega]
     rfl
   ·exact congrArg List.length e8.symm
   ·intro i hi;exact congrArg (fun l=>Enc.enc (List.getD l i (Enc.d:Int))) e8.symm
   ·show _=(ordN f (p.1+1)).ma.length;rw[e9,List.length_set]
   ·intro i hi
    have hi':i<(ordN f p.1).ma.length:=by
     have h9:=congrArg List.length e9
     rw[List.length_set] at h9
     rw[<-h9];exact hi
    refine(set_fun (l:=(ordN f p.1).ma) (x:=true) rfl i hi').trans ?_
    rw[addZ_eq,Nat.zero_add]
    exact congrArg (fun l=>Enc.enc (List.getD l i (Enc.d:Bool))) e9.symm
  ·rw[addZ_eq,Nat.zero_add] at hb
   have hmt:(ordN f p.1).ma.getD t.toNat false=true:=by rw[Bool.not_eq_false'] at hb;exact hb
   have e7:ordN f (p.1+1)=⟨(ordN f p.1).ma,l'++[⟨v.b,r⟩],(ordN f p.1).out⟩:=by
    rw[e6];unfold ordT;rw[hv];exact if_pos hmt
   have e8:(ordN f (p.1+1)).out=(ordN f p.1).out:=by rw[e7]
   have e9:(ordN f (p.1+1)).ma=(ordN f p.1).ma:=by rw[e7]
   have e10:(ordN f (p.1+1)).st++p.2=((ordN f p.1).st++p.2).set ((ordN f p.1).st.length-1) ⟨v.b,r⟩:=by rw[hset,e7];simp
   have e11:(ordN f (p.1+1)).st.length=(ordN f p.1).st.length:=by rw[e7,e3];simp
   refine .mk (p.1+1,p.2) (ordN_inv f hn (p.1+1)) (by show _+1-(p.1+1)<_;omega) ?_
   refine eP [] [] ?_ ?_<;>repeat' first|exact eN|refine And.intro ?_ ?_
   ·show _=(ordN f (p.1+1)).st.length;omega
   ·exact congrArg List.length e8.symm
   ·exact(show((ordN f p.1).st++p.2).length=((ordN f (p.1+1)).st++p.2).length by rw[e10,List.length_set])
   ·intro i hi
    have hi':i<((ordN f p.1).st++p.2).length:=by
     have:=congrArg List.length e10
     rw[List.length_set] at this
     rw[<-this];exact hi
    refine(set_fun (l:=(ordN f p.1).st++p.2) (x:=(⟨v.b,r⟩:VisE)) rfl i hi').trans ?_
    exact congrArg (fun l=>Enc.enc (List.getD l i (Enc.d:VisE))) e10.symm
   ·exact congrArg List.length e8.symm
   ·intro i hi;exact congrArg (fun l=>Enc.enc (List.getD l i (Enc.d:Int))) e8.symm
   ·exact congrArg List.length e9.symm
   ·intro i hi;exact congrArg (fun l=>Enc.enc (List.getD l i (Enc.d:Bool))) e9.symm
 ·have e:ordL f=(ordN f p.1).out.reverse:=ordL_of hn (by omega)
  exact⟨_,.give rfl (by simp) (by rw[e];simp) (by rw[e];exact fun _ _=>rfl) rfl⟩
theorem ordL_len (f:FnE):(ordL f).length<=f.blocks.length:=by
 by_cases h0:f.blocks.length=0
 ·rw[ordL,if_pos h0];exact Nat.zero_le _
 ·rw[ordL,if_neg h0,List.length_reverse]
  have h1:=(ordN_inv f (by omega) (ordB f+1)).1
  have h2:=List.count_le_length (a:=true) (l:=(ordN f (ordB f+1)).ma)
  have h3:=h1.cnt
  rw[h1.len] at h2
  omega
theorem gReach_F (f:FnE) (l:List Bool) (hl:isRG f (-1) l) (hs:siz f<4294967296):ASpec Tryz.prog 65 [eS f] (eL l) []:=by
 have h1:=blocks_le f
 have h2:=ordL_len f
 refine ASpec.enter TYok mixed Tryz.func65 rfl Tryz.call65 Tryz.ntmps65 rfl (rs:=[.tmp 2]) rfl (nodupB_ok rfl) (Clo.one rfl) (keep:=[0,1,2,3,5,11,12,13]) ?_;conv=>whnf
 repeat' first|(refine iG (fun hb hc=>?_) (fun hb hc=>?_)<;>first|exact hc.elim|(exfalso;omega)|conv=>whnf)|(refine gqs ?_;conv=>whnf)|(refine gqc (x:=fun _=>oL_frz (fun id=>rfl) (gOrder_S f hs)) (k:= ?_);conv=>whnf)|(refine yt ?_;conv=>whnf)|exact⟨_,.keep rfl rfl⟩|fail
 refine lp [13] (fun q:Nat=>[.i .i64 q]) (fun q=>[(9,.row none 1 f.blocks.length fun i=>[.b (decide ((i:Int)∈(ordL f).take q))]),(1,bx f)]) (fun q=>q<=(ordL f).length) (fun q=>(ordL f).length-q) 0 (by omega) ?_ fun q hq=>?_
 ·refine eP [] [] ?_ ?_<;>repeat' first|exact eN|refine And.intro ?_ ?_
 conv=>whnf
 repeat' first|(refine iG (fun hb hc=>?_) (fun hb hc=>?_)<;>first|exact hc.elim|(exfalso;omega)|conv=>whnf)|(refine gqs ?_;conv=>whnf)|(refine yt ?_;conv=>whnf)|exact⟨_,.keep rfl rfl⟩|fail
 ·have hq':q<(ordL f).length:=by omega
  have hx:(ordL f).getD (q:Int).toNat Enc.d=(ordL f)[q]:=by simp[List.getD_eq_getElem?_getD,hq']
  have hr:=ordL_rng f _ (List.getElem_mem hq')
  have ha:addZ 0 ((ordL f).getD (q:Int).toNat Enc.d).toNat<f.blocks.length:=by rw[hx,addZ_eq];omega
  refine And.intro ⟨by rw[hx];omega,by rw[hx];omega,ha⟩ ?_
  conv=>whnf
  repeat' first|(refine iG (fun hb hc=>?_) (fun hb hc=>?_)<;>first|exact hc.elim|(exfalso;omega)|conv=>whnf)|(refine gqs ?_;conv=>whnf)|(refine yt ?_;conv=>whnf)|exact⟨_,.keep rfl rfl⟩|fail
  refine .mk (q+1) (by omega) (by omega) ?_
  refine eP [] [] ?_ ?_<;>repeat' first|exact eN|refine And.intro ?_ ?_
  intro i hi
  unfold setF
  by_cases e:i=addZ 0 ((ordL f).getD (q:Int).toNat Enc.d).toNat
  ·rw[if_pos e]
   have:(i:Int)=(ordL f)[q]:=by rw[e,hx,addZ_eq];omega
   exact congrArg (fun t=>[AV.b t]) (by symm;rw[decide_eq_true_eq,this,List.take_add_one,List.getElem?_eq_getElem hq'];exact List.mem_append_right _ (List.mem_singleton.2 rfl))
  ·rw[if_neg e]
   have:(i:Int)≠(ordL f)[q]:=fun h=>e (by rw[hx,addZ_eq];omega)
   exact congrArg (fun t=>[AV.b t]) (by rw[decide_eq_decide,List.take_add_one,List.getElem?_eq_getElem hq'];simp only[List.mem_append,Option.toList,List.mem_singleton,this,or_false])
 ·have hll:=hl.1
  refine⟨_,.freeze (N:=f.blocks.length) (by rw[lk_cons,if_pos rfl]) (by omega) (by omega) (fun i hi=>?_) rfl⟩
  refine congrArg (fun t=>[AV.b t]) ?_
  have h3:=hl.2 i (by omega)
  have h4:=ordL_mem f i (by omega)
  rw[List.take_of_length_le (by omega)]
  show decide _=l.getD i false
  rw[Bool.eq_iff_iff,decide_eq_true_eq,h3,h4]
theorem EqG_S (l k:List Int) (hl:l.length<4294967296):ASpec Tryz.prog 63 [eL l,eL k] (.b (decide (l=k))) []:=by
 refine ASpec.enter TYok mixed Tryz.func63 rfl Tryz.call63 Tryz.ntmps63 rfl (rs:=[.tmp 4]) rfl (nodupB_ok rfl) (Clo.one rfl) (keep:=[0,1,4,5,12,13]) ?_;conv=>whnf
 repeat' first|(refine iG (fun hb hc=>?_) (fun hb hc=>?_)<;>first|exact hc.elim|(exfalso;omega)|conv=>whnf)|(refine gqs ?_;conv=>whnf)|(refine yt ?_;conv=>whnf)|exact⟨_,.keep rfl rfl⟩|fail
 ·exact⟨_,.keep (congrArg AV.b (decide_eq_false fun e=>by subst e;simp at hb).symm) rfl⟩
 refine lp [13] (fun q:Nat=>[.i .i64 q]) (fun q=>[]) (fun q=>q<=l.length/\ ∀i,i<q->l.getD i Enc.d=k.getD i Enc.d) (fun q=>l.length-q) 0 ⟨by omega,fun i h=>by omega⟩ ?_ fun q hq=>?_
 ·refine eP [] [] ?_ ?_<;>repeat' first|exact eN|refine And.intro ?_ ?_
 conv=>whnf
 obtain⟨hq,hv⟩:=hq
 repeat' first|(refine iG (fun hb hc=>?_) (fun hb hc=>?_)<;>first|exact hc.elim|(exfalso;omega)|conv=>whnf)|(refine gqs ?_;conv=>whnf)|(refine yt ?_;conv=>whnf)|exact⟨_,.keep rfl rfl⟩|fail
 ·exact⟨_,.keep (congrArg AV.b (decide_eq_false fun e=>hc (by rw[e])).symm) rfl⟩
 ·refine .mk (q+1) ⟨by omega,all_step hv hc⟩ (by omega) ?_
  refine eP [] [] ?_ ?_<;>repeat' first|exact eN|refine And.intro ?_ ?_
 ·exact⟨_,.keep (congrArg AV.b (decide_eq_true (ext_getD (by omega) fun i hi=>hv i (by omega))).symm) rfl⟩
def phiE (f:FnE) (x:InsE) (p:Plc):Int:=if¬x.op=25 then 0 else if(0<p.b/\(p.i<=0\/((f.blocks.getD p.b.toNat Enc.d).code.getD (p.i-1).toNat Enc.d).op=25))/\x.to=(PredsL f).getD p.b.toNat Enc.d then 0 else 12
theorem phis1_O (m:ModE) (f:FnE) (n:Int) (ty:AV) (x:InsE) (b i:Nat) (hs:siz f<4294967296) (hx:siz x<4294967296) (hb0:b<f.blocks.length) (hi0:i<iLen f b):
  ASpecO true Tryz.prog 62 [eS x,eS (⟨n,b,i⟩:Plc),.cp [.cp (ckC m f n ty)],.cp [eL (PredsL f)]] [] (phiE f x ⟨n,b,i⟩=0) (.tup []) [] (vflt (phiE f x ⟨n,b,i⟩) ⟨n,b,i⟩) []:=by
 have h1:=to_le x
 have h2:(PredsL f).length=f.blocks.length:=by unfold PredsL;rw[List.length_map,List.length_range]
 have h3:iLen f b=(f.blocks.getD b Enc.d).code.length:=rfl
 have h4:=blocks_le f
 have h5:=iLen_siz f b
 refine ASpecO.enter TYok mixed Tryz.func62 rfl Tryz.call62 Tryz.ntmps62 rfl (rs:=[]) rfl (Clo.one rfl) (Clo.one rfl) rfl (keep:=[0,1,2,3,4,5,6]) fun pin=>?_;conv=>whnf
 repeat' first|(refine iG (fun hb hc=>?_) (fun hb hc=>?_)<;>first|exact hc.elim|(exfalso;omega)|conv=>whnf)|(refine gqs ?_;conv=>whnf)|((first|refine CallV.pan ?_|refine CallW.pan ?_);(conv=>whnf);refine cP (must_O _ _ _) (fun ht=>?_) (fun ht=>?_)<;>conv=>whnf)|(refine gqc (x:=fun _=>EqG_S _ _ (by omega)) (k:= ?_);conv=>whnf)|(refine yt ?_;conv=>whnf)|exact⟨_,.keep rfl rfl⟩|fail
 ·exact rtV (by rw[phiE,if_pos hc])
 ·refine rtV ?_
  rw[phiE,if_neg (fun q=>q hc),if_pos]
  simp only[pickB_and] at ht
  simpa using ht
 ·refine pzV ?_
  rw[phiE,if_neg (fun q=>q hc),if_neg]
  simp only[pickB_and] at ht
  simpa using ht
theorem eachPhi_O (m:ModE) (f:FnE) (n:Int) (ty:AV) (hf:siz f<4294967296) (hx: ∀b i,siz (iAt f b i)<4294967296):
  ASpecO true Tryz.prog 28 [.cp (ckC m f n ty),.clo 62 [.cp [.cp (ckC m f n ty)],.cp [eL (PredsL f)]]] [] ((eachF f n (phiE f)).code=0) (.tup []) [] (vflt (eachF f n (phiE f)).code (eachF f n (phiE f)).at') []:=by
 have h1:=blocks_le f
 have h0:=Code_siz f
 refine ASpecO.enter TYok mixed Tryz.func28 rfl Tryz.call28 Tryz.ntmps28 rfl (rs:=[]) rfl (Clo.one rfl) (Clo.one rfl) rfl (keep:=[0,1,4,5,6,7,12,13,14,20,21,22]) fun pin=>?_;conv=>whnf
 repeat' first|(refine iG (fun hb hc=>?_) (fun hb hc=>?_)<;>first|exact hc.elim|(exfalso;omega)|conv=>whnf)|(refine gqs ?_;conv=>whnf)|(refine yt ?_;conv=>whnf)|exact⟨_,.keep rfl rfl⟩|fail
 refine lp [14] (fun b:Nat=>[.i .i64 b]) (fun b=>[]) (fun b=>b<=f.blocks.length/\ ∀j,j<(codeTo f b 0).length->(eacC f n (phiE f) j).code=0) (fun b=>f.blocks.length-b) 0 ⟨by omega,fun i h=>by simp[codeTo,pairs] at h⟩ ?_ fun b hq=>?_
 ·refine eP [] [] ?_ ?_<;>repeat' first|exact eN|refine And.intro ?_ ?_
 conv=>whnf
 obtain⟨hb1,hv1⟩:=hq
 have h2:=iLen_siz f b
 have h3:iLen f b=(f.blocks.getD b Enc.d).code.length:=rfl
 repeat' first|(refine iG (fun hb hc=>?_) (fun hb hc=>?_)<;>first|exact hc.elim|(exfalso;omega)|conv=>whnf)|(refine gqs ?_;conv=>whnf)|(refine yt ?_;conv=>whnf)|exact⟨_,.keep rfl rfl⟩|fail
 ·refine lp [22] (fun i:Nat=>[.i .i64 i]) (fun i=>(5,bx (f.blocks.getD b Enc.d))::[]) (fun i=>i<=iLen f b/\ ∀j,j<(codeTo f b i).length->(eacC f n (phiE f) j).code=0) (fun i=>iLen f b-i) 0 ⟨by omega,hv1⟩ ?_ fun i hq2=>?_
  ·refine eP [] [] ?_ ?_<;>repeat' first|exact eN|refine And.intro ?_ ?_
  conv=>whnf
  obtain⟨hi1,hv2⟩:=hq2
  repeat' first|(refine iG (fun hb hc=>?_) (fun hb hc=>?_)<;>first|exact hc.elim|(exfalso;omega)|conv=>whnf)|(refine gqs ?_;conv=>whnf)|((first|refine CallV.pan ?_|refine CallW.pan ?_);(conv=>whnf);refine cP (phis1_O m f n ty (iAt f b i) b i hf (hx b i) (by omega) (by omega)) (fun ht=>?_) (fun ht=>?_)<;>conv=>whnf)|(refine yt ?_;conv=>whnf)|exact⟨_,.keep rfl rfl⟩|fail
  ·refine .mk (i+1) ⟨by omega,eac_step (by omega) (by omega) hv2 ht⟩ (by omega) ?_
   refine eP [] [] ?_ ?_<;>repeat' first|exact eN|refine And.intro ?_ ?_
  ·exact pzE (eachF_at (by omega) (by omega) hv2 ht) ht
  ·obtain rfl:i=iLen f b:=by omega
   refine .mk (b+1) ⟨by omega,by rw[kd_nx];exact hv2⟩ (by omega) ?_
   refine eP [] [] ?_ ?_<;>repeat' first|exact eN|refine And.intro ?_ ?_
 ·obtain rfl:b=f.blocks.length:=by omega
  have e:=eachF_no hv1
  exact rtV (by rw[e])
theorem phis_O (m:ModE) (f:FnE) (n:Int) (ty:AV) (hf:siz f<4294967296) (hx: ∀b i,siz (iAt f b i)<4294967296):
  ASpecO true Tryz.prog 32 [.cp (ckC m f n ty)] [] ((eachF f n (phiE f)).code=0) (.tup []) [] (vflt (eachF f n (phiE f)).code (eachF f n (phiE f)).at') []:=by
 refine ASpecO.enter TYok mixed Tryz.func32 rfl Tryz.call32 Tryz.ntmps32 rfl (rs:=[]) rfl (Clo.one rfl) (Clo.one rfl) rfl (keep:=[0,1,2]) fun pin=>?_;conv=>whnf
 repeat' first|(refine iG (fun hb hc=>?_) (fun hb hc=>?_)<;>first|exact hc.elim|(exfalso;omega)|conv=>whnf)|(refine gqs ?_;conv=>whnf)|(refine gqc (x:=fun _=>gPreds_F f hf) (k:= ?_);conv=>whnf)|(refine CallW.pl ?_;(conv=>whnf);(repeat(refine yb ?_;(conv=>whnf)));refine cQ (eachPhi_O m f n ty hf hx) (fun ht=>?_) (fun ht=>?_)<;>conv=>whnf)|(refine yt ?_;conv=>whnf)|exact⟨_,.keep rfl rfl⟩|fail
 all_goals first|exact⟨[],[],trivial,trivial,rfl⟩|exact⟨[],[],⟨rfl,rfl,rfl,rfl,trivial⟩,trivial,rfl⟩
end Go.Proofs.YtnfdieeaelhpbaaGreatDoor
