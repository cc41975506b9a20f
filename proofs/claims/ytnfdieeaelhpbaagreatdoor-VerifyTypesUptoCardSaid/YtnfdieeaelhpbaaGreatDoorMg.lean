/- The engine and the contracts of the functions that the statement reaches, part 7. -/
import Derived.Test.YtnfdieeaelhpbaaGreatDoorMf
import Derived.Test.YtnfdieeaelhpbaaGreatDoorRows
import Derived.ProofKit
import Derived.OpenShut
import Derived.ChangeOld
import Derived.Deep.Slices
import Derived.Test.YtnfdieeaelhpbaaGreatDoorCards
import Derived.Test.YtnfdieeaelhpbaaGreatDoorTie
import Derived.ShutString
import Derived.SizedLaws
import Derived.LaidLaws
import Derived.Lay
import Derived.Lib.LaidTab
import Derived.Stop.LaidErr
import Derived.Deep.DeepWitnessRowRef
set_option linter.unusedVariables false
set_option linter.unusedSimpArgs false
set_option maxRecDepth 100000
set_option maxHeartbeats 8000000
namespace Go.Proofs.YtnfdieeaelhpbaaGreatDoor
open Go.RowKit
def idxS (l:List ByteArray) (x:ByteArray) (i:Nat):Int:=if x=l.getD i Enc.d then 1 else 0
def IndexS (l:List ByteArray) (x:ByteArray):Int:=match firstC (idxS l x) l.length with
 |some i=>i
 |none=>-1
theorem IndexS_S (l:List ByteArray) (x:ByteArray) (hl:l.length<4294967296):ASpec Tryz.prog 95 [eL l,.s x] (.i .i64 (IndexS l x)) []:=by
 refine ASpec.enter TYok mixed Tryz.func95 rfl Tryz.call95 Tryz.ntmps95 rfl (rs:=[.tmp 4]) rfl (nodupB_ok rfl) (Clo.one rfl) (keep:=[0,1,4,5,7,8]) ?_;conv=>whnf
 repeat' first|(refine iG ?_ ?_<;>intro hb hc<;>first|exact yE|conv=>whnf)|(refine gqs ?_;conv=>whnf)|(refine yt ?_;conv=>whnf)|exact yK|fail
 refine lp [8] (fun q:Nat=>[.i .i64 q]) (fun q=>[]) (fun q=>q<=l.length/\ ∀i,i<q->idxS l x i=0) (fun q=>l.length-q) 0 ⟨by omega,fun i h=>by omega⟩ ?_ fun q hq=>?_
 ·refine eP [] [] ?_ ?_<;>repeat' first|exact eN|apply zi
 conv=>whnf
 obtain⟨hq,hv⟩:=hq
 repeat' first|(refine iG ?_ ?_<;>intro hb hc<;>first|exact yE|conv=>whnf)|(refine gqs ?_;conv=>whnf)|(refine yt ?_;conv=>whnf)|exact yK|fail
 ·exact⟨_,.keep (by rw[IndexS,firstC_at (by omega) hv (by unfold idxS;rw[if_pos (show x=l.getD q Enc.d from of_decide_eq_true hb)];decide)]) rfl⟩
 ·refine .mk (q+1) ⟨by omega,all_step hv (by unfold idxS;rw[if_neg (show¬x=l.getD q Enc.d from of_decide_eq_false hb)])⟩ (by omega) ?_
  refine eP [] [] ?_ ?_<;>repeat' first|exact eN|apply zi
 ·exact⟨_,.keep (by rw[IndexS,firstC_no fun i hi=>hv i (by omega)]) rfl⟩
theorem IndexS_has (l:List ByteArray) (x:ByteArray):decide (0<=IndexS l x)=l.any fun k=>decide (k=x):=by
 unfold IndexS
 cases hq:firstC (idxS l x) l.length with
 |some i=>
  have h1:=List.mem_range.1 (List.mem_of_find?_eq_some hq)
  have h2:=List.find?_some hq
  have h3:x=l.getD i Enc.d:=by
   unfold idxS at h2;split at h2
   ·assumption
   ·simp at h2
  rw[any_at (q:=i) Enc.d h1 (by rw[<-h3];exact decide_eq_true rfl)];simp
 |none=>
  rw[any_no (Enc.d:ByteArray) fun i hi=>?_]
  ·simp
  ·have:=List.find?_eq_none.1 hq i (List.mem_range.2 hi)
   unfold idxS at this
   refine decide_eq_false fun e=>?_
   rw[if_pos e.symm] at this
   simp at this
theorem ContainsS_S (l:List ByteArray) (x:ByteArray) (hl:l.length<4294967296):ASpec Tryz.prog 53 [eL l,.s x] (.b (l.any fun k=>decide (k=x))) []:=by
 rw[<-IndexS_has]
 refine ASpec.enter TYok mixed Tryz.func53 rfl Tryz.call53 Tryz.ntmps53 rfl (rs:=[.tmp 4]) rfl (nodupB_ok rfl) (Clo.one rfl) (keep:=[0,1,4]) ?_;conv=>whnf
 repeat' first|(refine iG ?_ ?_<;>intro hb hc<;>first|exact yE|conv=>whnf)|(refine gqs ?_;conv=>whnf)|(refine gqc (x:=fun _=>IndexS_S _ _ hl) (k:= ?_);conv=>whnf)|(refine yt ?_;conv=>whnf)|exact yK|fail
def nmO (p:Option Nat) (l:List ByteArray):Os:=[(7,.box p (some 101) [.orow 1001 1 0 l.length]),(1001,oL l)]
theorem nmClo {p:Option Nat} {l:List ByteArray}:Clo (.tup []) (nmO p l):=by
 refine⟨fun id hm=>(nomatch hm),fun i ob hl id hm=>?_⟩
 have hmem:=lk_mem hl
 simp only[nmO,List.mem_cons,List.not_mem_nil,or_false,Prod.mk.injEq] at hmem
 rcases hmem with⟨_,rfl⟩|⟨_,rfl⟩
 ·simp only[omen,mens,men,Bool.or_false] at hm
  have:=Nat.eq_of_beq_eq_true hm;subst this;rfl
 ·cases hm
theorem names1_O (name:ByteArray) (known:List ByteArray) (params:List Int) (ret most:Int) (p:Plc) (h1:name.size<4294967296) (h2:known.length<4294967296):
  ASpecO false Tryz.prog 52 [.s name,eL params,.i .i64 ret,.i .i64 most,eS p,.op 7 0] (nmO none known) (headF name known params ret most=0) (.tup []) (nmO none (known++[name])) (vflt (headF name known params ret most) p) []:=by
 refine ASpecO.enter TYok mixed Tryz.func52 rfl Tryz.call52 Tryz.ntmps52 rfl (rs:=[]) rfl (nmClo) (Clo.one rfl) rfl (keep:=[0,1,2,3,4,5,10,12,32,33,34]) fun pin=>?_;conv=>whnf
 repeat' first|(refine iG ?_ ?_<;>intro hb hc<;>first|exact yE|conv=>whnf)|(refine gqs ?_;conv=>whnf)|((first|refine CallV.pan ?_|refine CallW.pan ?_);(conv=>whnf);refine cP (must_O _ _ p) (fun ht=>?_) (fun ht=>?_)<;>conv=>whnf)|(refine gqc (x:=fun _=>lexWord_S _ h1) (k:= ?_);conv=>whnf)|(refine gqc (x:=fun _=>ContainsS_S known name h2) (k:= ?_);conv=>whnf)|(refine yt ?_;conv=>whnf)|exact yK|fail
 ·have e1:Word name=true:=by assumption
  have e2:(known.any fun k=>decide (k=name))=false:=by
   have h:(!known.any fun k=>decide (k=name))=true:=by assumption
   simpa using h
  have e3: ¬8<params.length:=by
   have h:decide ((params.length:Int)<=8)=true:=ht
   have:=of_decide_eq_true h
   omega
  refine lp [34] (fun q:Nat=>[.i .i64 q]) (fun q=>[(7,.box (some (pin 7)) (some 101) [.orow 1001 1 0 (known++[name]).length]),(1001,oL (known++[name])),(10,bx p)]) (fun q=>q<=params.length/\ ∀i,i<q->badP most (params.getD i Enc.d)=false) (fun q=>params.length-q) 0 ⟨by omega,fun i h=>by omega⟩ ?_ fun q hq=>?_
  ·have e:known++[name]=known++[name]:=rfl
   refine eP [(1001,26)] [] ?_ ?_<;>repeat' first|exact eN|apply zi|exact snoc_len e|exact snoc_get e rfl|rw[e]
  conv=>whnf
  obtain⟨hk,hw⟩:=hq
  repeat' first|(refine iG ?_ ?_<;>intro hb hc<;>first|exact yE|conv=>whnf)|(refine gqs ?_;conv=>whnf)|((first|refine CallV.pan ?_|refine CallW.pan ?_);(conv=>whnf);refine cP (must_O _ _ p) (fun ht=>?_) (fun ht=>?_)<;>conv=>whnf)|(refine yt ?_;conv=>whnf)|exact yK|fail
  ·simp only[pickB_and,Bool.and_eq_true,decide_eq_true_eq] at ht
   have e5:badP most (params.getD q Enc.d)=false:=by
    have ht':1<=params.getD q Enc.d/\params.getD q Enc.d<=most:=ht
    unfold badP
    rw[decide_eq_false (by omega),decide_eq_false (by omega)];rfl
   refine .mk (q+1) ⟨by omega,all_step hw e5⟩ (by omega) ?_
   refine eP [] [] ?_ ?_<;>repeat' first|exact eN|apply zi
  ·refine pzV ?_
   simp only[pickB_and,Bool.and_eq_true,decide_eq_true_eq] at ht
   have e5:badP most (params.getD q Enc.d)=true:=by
    have ht': ¬(1<=params.getD q Enc.d/\params.getD q Enc.d<=most):=ht
    unfold badP
    rw[Bool.or_eq_true,decide_eq_true_eq,decide_eq_true_eq];omega
   rw[headF,if_neg (by rw[e1];simp),if_neg (by rw[e2];simp),if_neg e3,if_pos (any_at Enc.d (by omega) e5)]
  ·have e4:params.any (badP most)=false:=any_no Enc.d fun i hi=>hw i (by omega)
   simp only[pickB_and,Bool.and_eq_true,decide_eq_true_eq] at ht
   refine⟨by rw[headF,if_neg (by rw[e1];simp),if_neg (by rw[e2];simp),if_neg e3,if_neg (by rw[e4];simp),if_neg (by omega)],?_⟩
   conv=>whnf
   refine⟨[],[],trivial,?_,rfl⟩
   repeat' first|exact eN|apply zi
  ·have e4:params.any (badP most)=false:=any_no Enc.d fun i hi=>hw i (by omega)
   refine pzV ?_
   simp only[pickB_and,Bool.and_eq_true,decide_eq_true_eq] at ht
   rw[headF,if_neg (by rw[e1];simp),if_neg (by rw[e2];simp),if_neg e3,if_neg (by rw[e4];simp),if_pos (by omega)]
 ·have e1:Word name=true:=by assumption
  have e2:(known.any fun k=>decide (k=name))=false:=by
   have h:(!known.any fun k=>decide (k=name))=true:=by assumption
   simpa using h
  have e3:8<params.length:=by
   have h: ¬decide ((params.length:Int)<=8)=true:=ht
   rw[decide_eq_true_eq] at h
   omega
  refine pzV ?_
  rw[headF,if_neg (by rw[e1];simp),if_neg (by rw[e2];simp),if_pos e3]
 ·have e1:Word name=true:=by assumption
  have e2:(known.any fun k=>decide (k=name))=true:=by
   have h: ¬(!known.any fun k=>decide (k=name))=true:=ht
   simpa using h
  refine pzV ?_
  rw[headF,if_neg (by rw[e1];simp),if_pos e2]
 ·have e1:Word name=false:=by
   have h: ¬Word name=true:=ht
   simpa using h
  refine pzV ?_
  rw[headF,if_pos e1]
theorem names_O (m:ModE) (hs:siz m<4294967296):
  ASpecO true Tryz.prog 26 [eS m] [] ((headsF m).code=0) (.tup []) [] (vflt (headsF m).code (headsF m).at') []:=by
 have h0:siz m=siz m.vars+siz m.exts+siz m.funcs:=rfl
 refine ASpecO.enter TYok mixed Tryz.func26 rfl Tryz.call26 Tryz.ntmps26 rfl (rs:=[]) rfl (Clo.one rfl) (Clo.one rfl) rfl (keep:=[0,1,2,3,4,6,7,8,10,11,12,33,34,35,48,49,50,75,76,77,92,93,94]) fun pin=>?_;conv=>whnf
 repeat' first|(refine iG ?_ ?_<;>intro hb hc<;>first|exact yE|conv=>whnf)|(refine gqs ?_;conv=>whnf)|((first|refine CallV.pan ?_|refine CallW.pan ?_);(conv=>whnf);refine cP (must_O _ _ ⟨-1,0,0⟩) (fun ht=>?_) (fun ht=>?_)<;>conv=>whnf)|(refine yt ?_;conv=>whnf)|exact yK|fail
 ·simp only[pickB_and,Bool.and_eq_true,decide_eq_true_eq] at ht
  have k1: ¬(8<m.vars.length\/8<m.exts.length\/8<m.funcs.length):=by omega
  refine lp [35] (fun q:Nat=>[.i .i64 q]) (fun q=>[(1,bx m),(2,bx (⟨-1,0,0⟩:Plc))]) (fun q=>q<=m.vars.length/\ ∀i,i<q->varCode m i=0) (fun q=>m.vars.length-q) 0 ⟨by omega,fun i h=>by omega⟩ ?_ fun q hq=>?_
  ·refine eP [] [] ?_ ?_<;>repeat' first|exact eN|apply zi
  conv=>whnf
  obtain⟨hq,hv⟩:=hq
  have h1:(m.vars.getD q Enc.d).name.size<=siz m.vars:=siz_at m.vars q
  repeat' first|(refine iG ?_ ?_<;>intro hb hc<;>first|exact yE|conv=>whnf)|(refine gqs ?_;conv=>whnf)|((first|refine CallV.pan ?_|refine CallW.pan ?_);(conv=>whnf);refine cP (must_O _ _ ⟨-1,0,0⟩) (fun ht=>?_) (fun ht=>?_)<;>conv=>whnf)|(refine gqc (x:=fun _=>lexWord_S _ (by simp only[Int.toNat_natCast];omega)) (k:= ?_);conv=>whnf)|(refine yt ?_;conv=>whnf)|exact yK|fail
  ·have e1:Word (m.vars.getD q Enc.d).name=true:=ht
   refine lp [50] (fun k:Nat=>[.i .i64 k]) (fun k=>[(4,bx (m.vars.getD q Enc.d)),(1,bx m),(2,bx (⟨-1,0,0⟩:Plc))]) (fun k=>k<=q/\ ∀i,i<k->decide ((m.vars.getD i Enc.d).name=(m.vars.getD q Enc.d).name)=false) (fun k=>q-k) 0 ⟨by omega,fun i h=>by omega⟩ ?_ fun k hk=>?_
   ·refine eP [] [] ?_ ?_<;>repeat' first|exact eN|apply zi
   conv=>whnf
   obtain⟨hk,hw⟩:=hk
   have hlo:lenO none 0 (q:Int)=q:=rfl
   repeat' first|(refine iG ?_ ?_<;>intro hb hc<;>first|exact yE|conv=>whnf)|(refine gqs ?_;conv=>whnf)|((first|refine CallV.pan ?_|refine CallW.pan ?_);(conv=>whnf);refine cP (must_O _ _ ⟨-1,0,0⟩) (fun ht=>?_) (fun ht=>?_)<;>conv=>whnf)|(refine yt ?_;conv=>whnf)|exact yK|fail
   ·have e5:decide ((m.vars.getD k Enc.d).name=(m.vars.getD q Enc.d).name)=false:=by
     have h:(!decide ((m.vars.getD k Enc.d).name=(m.vars.getD q Enc.d).name))=true:=ht
     simpa using h
    refine .mk (k+1) ⟨by omega,all_step hw e5⟩ (by omega) ?_
    refine eP [] [] ?_ ?_<;>repeat' first|exact eN|apply zi
   ·have e5:decide ((m.vars.getD k Enc.d).name=(m.vars.getD q Enc.d).name)=true:=by
     have h: ¬(!decide ((m.vars.getD k Enc.d).name=(m.vars.getD q Enc.d).name))=true:=ht
     simpa using h
    have e:varCode m q=5:=by simp only[varCode];rw[if_neg (by rw[e1];simp),if_pos (take_any Enc.d (by omega) hq e5)]
    exact pzE (by rw[headsF_var k1 (by omega) hv (by omega),e]) (by decide)
   ·simp only[pickB_and,Bool.and_eq_true,decide_eq_true_eq] at ht
    have e:varCode m q=0:=by simp only[varCode];rw[if_neg (by rw[e1];simp),if_neg (by rw[take_no Enc.d fun i hi=>hw i (by omega)];simp),if_neg (show¬((m.vars.getD q Enc.d).size<1\/64<(m.vars.getD q Enc.d).size) from fun h=>h.elim (fun h=>by have:=ht.1;omega) (fun h=>by have:=ht.2;omega))]
    refine .mk (q+1) ⟨by omega,all_step hv e⟩ (by omega) ?_
    refine eP [] [] ?_ ?_<;>repeat' first|exact eN|apply zi
   ·simp only[pickB_and,Bool.and_eq_true,decide_eq_true_eq] at ht
    have e:varCode m q=6:=by simp only[varCode];rw[if_neg (by rw[e1];simp),if_neg (by rw[take_no Enc.d fun i hi=>hw i (by omega)];simp),if_pos (by omega)]
    exact pzE (by rw[headsF_var k1 (by omega) hv (by omega),e]) (by decide)
  ·have e:varCode m q=4:=by
    simp only[varCode]
    rw[if_pos (by rw[<-Bool.not_eq_true];exact ht)]
   exact pzE (by rw[headsF_var k1 (by omega) hv (by omega),e]) (by decide)
  have k2:firstC (varCode m) m.vars.length=none:=firstC_no fun i hi=>hv i (by omega)
  have f1: ∀q,q<=m.exts.length->((m.exts.take q).map (·.name)).length=q:=fun q h=>by rw[List.length_map,List.length_take];omega
  have h2:=len_siz m.exts
  have h3:=len_siz m.funcs
  refine lp [77] (fun q:Nat=>[.i .i64 q]) (fun q=>nmO none ((m.exts.take q).map (·.name))++[(1,bx m),(2,bx (⟨-1,0,0⟩:Plc))]) (fun q=>q<=m.exts.length/\ ∀i,i<q->extCode m i=0) (fun q=>m.exts.length-q) 0 ⟨by omega,fun i h=>by omega⟩ ?_ fun q hq=>?_
  ·refine eP [] [1001] ?_ ?_<;>repeat' first|exact eN|apply zi
  conv=>whnf
  obtain⟨hq,hx⟩:=hq
  have h4:siz (m.exts.getD q Enc.d)<=siz m.exts:=siz_at m.exts q
  have h5:siz (m.exts.getD q Enc.d)=(m.exts.getD q Enc.d).name.size+siz (m.exts.getD q Enc.d).params:=rfl
  have h6:=f1 q hq
  repeat' first|(refine iG ?_ ?_<;>intro hb hc<;>first|exact yE|conv=>whnf)|(refine gqs ?_;conv=>whnf)|((first|refine CallV.pan ?_|refine CallW.pan ?_);(conv=>whnf);refine cP (names1_O _ ((m.exts.take q).map (·.name)) _ _ _ ⟨-1,0,0⟩ (by simp only[Int.toNat_natCast];omega) (by omega)) (fun ht=>?_) (fun ht=>?_)<;>conv=>whnf)|(refine yt ?_;conv=>whnf)|exact yK|fail
  ·have e:(m.exts.take (q+1)).map (·.name)=(m.exts.take q).map (·.name)++[(m.exts.getD q Enc.d).name]:=by
    rw[List.take_add_one,List.map_append,List.getD_eq_getElem?_getD,List.getElem?_eq_getElem (by omega)];rfl
   refine .mk (q+1) ⟨by omega,all_step hx ht⟩ (by omega) ?_
   refine eP [] [] ?_ ?_<;>repeat' first|exact eN|apply zi|exact snoc_len e|exact snoc_get e rfl|rw[e]
  ·exact pzE (headsF_ext k1 k2 (by omega) hx ht) ht
  have k3:firstC (extCode m) m.exts.length=none:=firstC_no fun i hi=>hx i (by omega)
  obtain rfl:q=m.exts.length:=by omega
  rw[List.take_length]
  let kn (q:Nat):List ByteArray:=m.exts.map (·.name)++(m.funcs.take q).map (·.name)
  have f2: ∀q,q<=m.funcs.length->(kn q).length=m.exts.length+q:=fun q h=>by
   simp only[kn];rw[List.length_append,List.length_map,List.length_map,List.length_take];omega
  have f3:m.exts.map (·.name)=kn 0:=by simp[kn]
  rw[f3]
  refine lp [94] (fun q:Nat=>[.i .i64 q]) (fun q=>nmO none (kn q)++[(1,bx m),(2,bx (⟨-1,0,0⟩:Plc))]) (fun q=>q<=m.funcs.length/\ ∀i,i<q->fnCode m i=0) (fun q=>m.funcs.length-q) 0 ⟨by omega,fun i h=>by omega⟩ ?_ fun q hq=>?_
  ·refine eP [] [] ?_ ?_<;>repeat' first|exact eN|apply zi
  conv=>whnf
  obtain⟨hq,hy⟩:=hq
  have g4:siz (m.funcs.getD q Enc.d)<=siz m.funcs:=siz_at m.funcs q
  have g5:siz (m.funcs.getD q Enc.d)=(m.funcs.getD q Enc.d).name.size+siz (m.funcs.getD q Enc.d).params+siz (m.funcs.getD q Enc.d).blocks:=rfl
  have g6:=f2 q hq
  repeat' first|(refine iG ?_ ?_<;>intro hb hc<;>first|exact yE|conv=>whnf)|(refine gqs ?_;conv=>whnf)|((first|refine CallV.pan ?_|refine CallW.pan ?_);(conv=>whnf);refine cP (names1_O _ (kn q) _ _ _ ⟨q,0,0⟩ (by simp only[Int.toNat_natCast];omega) (by omega)) (fun ht=>?_) (fun ht=>?_)<;>conv=>whnf)|(refine yt ?_;conv=>whnf)|exact yK|fail
  ·have e:kn (q+1)=kn q++[(m.funcs.getD q Enc.d).name]:=by
    simp only[kn];rw[List.take_add_one,List.map_append,List.getD_eq_getElem?_getD,List.getElem?_eq_getElem (by omega),List.append_assoc];rfl
   refine .mk (q+1) ⟨by omega,all_step hy ht⟩ (by omega) ?_
   refine eP [] [] ?_ ?_<;>repeat' first|exact eN|apply zi|exact snoc_len e|exact snoc_get e rfl|rw[e]
  ·exact pzE (headsF_fn k1 k2 k3 (by omega) hy ht) ht
  ·have k4:firstC (fnCode m) m.funcs.length=none:=firstC_no fun i hi=>hy i (by omega)
   exact rtV (by rw[headsF,if_neg k1,k2,k3,k4])
 ·refine pzE ?_ (by decide)
  simp only[pickB_and,Bool.and_eq_true,decide_eq_true_eq] at ht
  rw[headsF,if_pos (by omega)]
abbrev fnA (m:ModE) (q:Nat):FnE:=m.funcs.getD q Enc.d
noncomputable def chkP (m:ModE) (R:List Bool) (T:List (List Bool)) (f:FnE) (n:Int):FaultE:=
 if(blocksF f n).code=0 then
  if(eachF f n (formB m f)).code=0 then
   if(eachF f n (regC f)).code=0 then
    if(eachF f n (oprI m f)).code=0 then
     if(eachF f n (phiE f)).code=0 then eachF f n (ordPl f R T (madM f n (Code f).length)) else eachF f n (phiE f)
    else eachF f n (oprI m f)
   else eachF f n (regC f)
  else eachF f n (formB m f)
 else blocksF f n
noncomputable def chkU (m:ModE) (R:FnE->List Bool) (T:FnE->List (List Bool)):FaultE:=
 if(headsF m).code=0 then firstF (fun q=>chkP m (R (fnA m q)) (T (fnA m q)) (fnA m q) q) m.funcs.length else headsF m
theorem chkU_at {m:ModE} {R:FnE->List Bool} {T:FnE->List (List Bool)} {q:Nat} {F:FaultE} (hz:(headsF m).code=0) (hq:q<m.funcs.length) (hv: ∀i:Nat,i<q->(chkP m (R (fnA m i)) (T (fnA m i)) (fnA m i) i).code=0) (e:chkP m (R (fnA m q)) (T (fnA m q)) (fnA m q) q=F) (hF: ¬F.code=0):chkU m R T=F:=by
 rw[chkU,if_pos hz]
 exact firstF_at hq hv e hF
def chkZ (F:FaultE) (b2 b3:Nat):AV->Sl->Os->Prop:=fun v s o=>v=vflt F.code F.at'/\lk s 2=some (0,.op 2 0)/\lk s 3=some (0,.op 3 0)/\ ∃x y0 y1 y2,lk o 2=some (.box (some b2) (some 30) [.i .i64 x])/\lk o 3=some (.box (some b3) (some 32) [.i .i64 y0,.i .i64 y1,.i .i64 y2])
def postE (S:Nat->Prop) (β:Nat->Wt) (w:World) (r:AV) (v:Value) (β':Nat->Wt) (w':World):Prop:=
 BelowX (feet [] β) w w'/\
  (∀id ob,lk ([]:Os) id=some ob->orel (fun k=>(S k\/w.heap.size<=k\/k∈feet [] β)/\k∉feet [] β') β' w' (β' id) ob)/\(∀k∈feet [] β',(w.heap.size<=k\/k∈feet [] β)/\k<w'.heap.size)/\(feet [] β').Nodup/\(([]:Os).map (·.1)).Nodup/\
  Kept (.b false) [] [] β β'/\rel (fun k=>(S k\/w.heap.size<=k\/k∈feet [] β)/\k∉feet [] β') β' w' r v
theorem check_F (m:ModE) (R:FnE->List Bool) (T:FnE->List (List Bool)) (hm:siz m<4294967296)
  (hR: ∀f,isRG f (-1) (R f)) (hT: ∀f,isTab f (T f)) (hreg: ∀q b i,inI (iAt (fnA m q) b i).reg) (hn: ∀q b i,inI (iAt (fnA m q) b i).n)
  (hO: ∀q:Nat,(eachF (fnA m q) q (formB m (fnA m q))).code=0-> ∀b i,b<(fnA m q).blocks.length->i<iLen (fnA m q) b->((iAt (fnA m q) b i).op=30->(iAt (fnA m q) b i).args.length=(Callee m (iAt (fnA m q) b i).n).1.length)/\((iAt (fnA m q) b i).op=29->(iAt (fnA m q) b i).t=65/\(iAt (fnA m q) b i).args.length=2))
  (hQ: ∀q:Nat,(blocksF (fnA m q) q).code=0->(eachF (fnA m q) q (formB m (fnA m q))).code=0->(eachF (fnA m q) q (regC (fnA m q))).code=0->(eachF (fnA m q) q (oprI m (fnA m q))).code=0->(eachF (fnA m q) q (phiE (fnA m q))).code=0-> ∀b i,b<(fnA m q).blocks.length->i<iLen (fnA m q) b->OrdOk (fnA m q) (madM (fnA m q) q (Code (fnA m q)).length) (iAt (fnA m q) b i)):ASpecF false Tryz.prog 12 [eS m] [] (.tup [.i .i64 (chkU m R T).code,eS (chkU m R T).at']) []:=by
 refine⟨Tryz.call12,Clo.one rfl,fun S β w us hob hap hus hvr=>?_⟩
 suffices hmain: ∀RR:Ending->World->Prop,(∀v β' w',postE S β w (.tup [.i .i64 (chkU m R T).code,eS (chkU m R T).at']) v β' w'->RR (.returned v) w')->Calls Tryz.prog 12 us.toArray w RR from hmain _ fun v β' w' h=>⟨v,β',rfl,h⟩
 intro RR hRR
 refine calls_of_wp_defers Tryz.func12 rfl ?_
 have hg0:=start_gam (n:=46) (N:=46) (pv:=fun _=>none) (ds:=[]) (hvr:=hvr) (hap:=hap) (a:= { tmps:=us.toArray++Array.replicate (46-us.toArray.size) undef,defers:=[]}) hob hus rfl (fun d hd=>absurd hd (Nat.not_lt_zero d)) (by show 1<=46;decide) rfl rfl
 refine wp_seq_k fun K hK=>?_
 refine runC_ok (n:=46) (E:=⟨46,S,w,feet [] β,hvr,hap,[],fun _=>none⟩) (T:=TY) (keep:=[0,1,2,3,4,5,6,11,12,13]) (Z:=noZ) TYok mixed (K:=fun e s o=>e= .n/\s=[(3,0,.op 3 0),(2,0,.op 2 0),(1,0,.op 1 0),(0,0,eS m)]/\o=[(3,.box none (some 32) [.i .i64 0,.i .i64 0,.i .i64 0]),(2,.box none (some 30) [.i .i64 0]),(1,.box none (some 26) (Enc.enc m))]) ?_ rfl noZ_ok (fun e s o hk β1 a w1 hg=>?_) β _ _ hg0
 ·conv=>whnf
  repeat' first|(refine iG ?_ ?_<;>intro hb hc<;>first|exact yE|conv=>whnf)|(refine gqs ?_;conv=>whnf)|(refine yt ?_;conv=>whnf)|exact yK|fail
  all_goals rfl
 obtain⟨rfl,rfl,rfl⟩:=hk
 refine hK _ _ ?_
 refine wp_seq_k fun K1 hK1=>?_
 obtain⟨u2,e2,f2⟩:=hg.slots 2 0 _ rfl
 obtain⟨u3,e3,f3⟩:=hg.slots 3 0 _ rfl
 have f2:=f2 rfl
 have f3:=f3 rfl
 have e2:a.tmps[2]?=some u2:=e2
 have e3:a.tmps[3]?=some u3:=e3
 obtain⟨tm,df⟩:=a
 have hdf:df=[]:=hg.defers
 subst hdf
 have hmf: ∀(fn:Fn) (first cap:Array Value) (w:World),(Instr.makeFunc fn first cap).run Tryz.prog w= .ok (.func fn first cap) w:=fun _ _ _ _=>rfl
 have hsz:tm.size=46:=hg.size.1
 have hp46: ∀d,d<Nat.div 46 1048576->d<0:=fun d h=>h
 have g2:tm.getD 2 undef=u2:=by rw[Array.getD_eq_getD_getElem?,e2];rfl
 have g3:tm.getD 3 undef=u3:=by rw[Array.getD_eq_getD_getElem?,e3];rfl
 iterate 9 go_step
 refine hK1 _ _ ?_
 obtain⟨b2,c2,y2,k1,k2,k3,k4,k5,k6,k7⟩:=hg.objs 2 _ rfl
 obtain⟨b3,c3,y3,l1,l2,l3,l4,l5,l6,l7⟩:=hg.objs 3 _ rfl
 have hg:=hg.retell (o':=[(3,.box (some b3) (some 32) [.i .i64 0,.i .i64 0,.i .i64 0]),(2,.box (some b2) (some 30) [.i .i64 0]),(1,.box none (some 26) (Enc.enc m))]) rfl fun id ob' hl=>by
  rw[lk_cons] at hl
  split at hl
  ·rename_i e;cases hl;subst e;exact⟨b3,c3,y3,l1,l2,l3,l4,l5,l6,fun _ h=>by cases h;rfl,l7.2⟩
  ·rename_i e3
   rw[lk_cons] at hl
   split at hl
   ·rename_i e;cases hl;subst e;exact⟨b2,c2,y2,k1,k2,k3,k4,k5,k6,fun _ h=>by cases h;rfl,k7.2⟩
   ·rename_i e2
    refine hg.objs id ob' ?_
    rw[lk_cons,if_neg e3,lk_cons,if_neg e2]
    exact hl
 have hg2:Gam ⟨46,S,w,feet [] β,hvr,hap,[{ target:=Target.fn (Fn.func 25) #[u2,u3],args:= #[]}],fun _=>none⟩ [] [(3,0,.op 3 0),(2,0,.op 2 0),(1,0,.op 1 0),(0,0,eS m)] [(3,.box (some b3) (some 32) [.i .i64 0,.i .i64 0,.i .i64 0]),(2,.box (some b2) (some 30) [.i .i64 0]),(1,.box none (some 26) (Enc.enc m))] β1 { tmps:=tm.setIfInBounds 7 (Value.func (Fn.func 25) #[] #[u2,u3]),defers:=[{ target:=Target.fn (Fn.func 25) #[u2,u3],args:= #[]}]} w1:=by
  refine⟨⟨by simpa using hsz,fun d hd=>absurd (hp46 d hd) (Nat.not_lt_zero d)⟩,rfl,TbOk.nil,fun d c v hl=>?_,hg.objs,hg.below,hg.new,hg.nodup,hg.keys⟩
  obtain⟨u,h1,h2⟩:=hg.slots d c v hl
  refine⟨u,?_,h2⟩
  have hd: ¬7=d:=fun e=>by subst e;exact nomatch hl
  rw[<-h1]
  exact Array.getElem?_setIfInBounds_ne hd
 have hu2:(tm.setIfInBounds 7 (Value.func (Fn.func 25) #[] #[u2,u3]))[2]?=some u2:=by rw[Array.getElem?_setIfInBounds_ne (by decide),e2]
 refine runC_ok (n:=46) (T:=TY) (keep:=[0,1,2,3,4,5,6,11,12,13]) (Z:=chkZ (chkU m R T) b2 b3) TYok mixed (K:=fun e s o=>(e= .r\/e= .n)/\RetM TY [.cell 2 30,.cell 3 32] (fun i=>(β i).foot.headD 0) [] s o (.tup [.i .i64 (chkU m R T).code,eS (chkU m R T).at']) []/\lk s 2=some (0,.op 2 0)/\lk s 3=some (0,.op 3 0)) ?_ rfl (fun v s o hz tb β3 a3 w3 u hg3 hrel=>?_) (fun e s o hk β3 a3 w3 hg3=>?_) β1 _ _ hg2
 ·conv=>whnf
  repeat' first|(refine iG ?_ ?_<;>intro hb hc<;>first|exact yE|conv=>whnf)|(refine gqs ?_;conv=>whnf)|((first|refine CallV.pan ?_|refine CallW.pan ?_);(conv=>whnf);refine cP (names_O m hm) (fun ht=>?_) (fun ht=>?_)<;>conv=>whnf)|(refine yt ?_;conv=>whnf)|exact yK|fail
  ·have hz:=ht
   refine lp [13] (fun q:Nat=>[.i .i64 q]) (fun q=>[(3,.box (some b3) (some 32) [.i .i64 0,.i .i64 0,.i .i64 0]),(2,.box (some b2) (some 30) [.i .i64 0]),(1,bx m)]) (fun q=>q<=m.funcs.length/\ ∀i:Nat,i<q->(chkP m (R (fnA m i)) (T (fnA m i)) (fnA m i) i).code=0) (fun q=>m.funcs.length-q) 0 ⟨Nat.zero_le _,fun i h=>absurd h (Nat.not_lt_zero i)⟩ ?_ fun q hq=>?_
   ·refine eP [] [] ?_ ?_<;>repeat' first|exact eN|apply zi
   conv=>whnf
   obtain⟨hq,hv⟩:=hq
   have hfl:=funcs_le m
   have hf:siz (fnA m q)<4294967296:=Nat.lt_of_le_of_lt (fn_le m q) hm
   have hx: ∀b i,siz (iAt (fnA m q) b i)<4294967296:=fun b i=>Nat.lt_of_le_of_lt (ins_le (fnA m q) b i) hf
   repeat' first|(refine iG ?_ ?_<;>intro hb hc<;>first|exact yE|conv=>whnf)|(refine gqs ?_;conv=>whnf)|(refine CallW.pl ?_;(conv=>whnf);(repeat(refine yb ?_;(conv=>whnf)));refine cQ (blocks_O m (fnA m q) q .nil hf) (fun ht=>?_) (fun ht=>?_)<;>conv=>whnf)|(refine CallW.pl ?_;(conv=>whnf);(repeat(refine yb ?_;(conv=>whnf)));refine cQ (eachForm_O m (fnA m q) q .nil hm hf (hn q)) (fun ht=>?_) (fun ht=>?_)<;>conv=>whnf)|(refine CallW.pl ?_;(conv=>whnf);(repeat(refine yb ?_;(conv=>whnf)));refine cQ (registers_O m (fnA m q) q .nil hf (hreg q)) (fun ht=>?_) (fun ht=>?_)<;>conv=>whnf)|(refine gqc (x:=fun _=>types_S (fnA m q) hf (hreg q)) (k:= ?_);conv=>whnf)|(refine yt ?_;conv=>whnf)|exact yK|fail
   ·have hb0:(blocksF (fnA m q) q).code=0:=by assumption
    have hfo:(eachF (fnA m q) q (formB m (fnA m q))).code=0:=by assumption
    have hrg:(eachF (fnA m q) q (regC (fnA m q))).code=0:=by assumption
    have h0:0<(fnA m q).blocks.length:=by
     rcases Nat.eq_zero_or_pos (fnA m q).blocks.length with h|h
     ·rw[blocksF,if_pos (by omega)] at hb0;simp at hb0
     ·exact h
    repeat' first|(refine iG ?_ ?_<;>intro hb hc<;>first|exact yE|conv=>whnf)|(refine gqs ?_;conv=>whnf)|(refine CallW.pl ?_;(conv=>whnf);(repeat(refine yb ?_;(conv=>whnf)));refine cQ (eachOpr_O m (fnA m q) q hm hf (hn q) hx (hO q hfo)) (fun ht=>?_) (fun ht=>?_)<;>conv=>whnf)|(refine CallW.pl ?_;(conv=>whnf);(repeat(refine yb ?_;(conv=>whnf)));refine cQ (phis_O m (fnA m q) q (eL (TypesL (fnA m q))) hf hx) (fun ht=>?_) (fun ht=>?_)<;>conv=>whnf)|(refine yt ?_;conv=>whnf)|exact yK|fail
    ·have hop:(eachF (fnA m q) q (oprI m (fnA m q))).code=0:=by assumption
     have hph:(eachF (fnA m q) q (phiE (fnA m q))).code=0:=by assumption
     repeat' first|(refine iG ?_ ?_<;>intro hb hc<;>first|exact yE|conv=>whnf)|(refine gqs ?_;conv=>whnf)|(refine CallW.pl ?_;(conv=>whnf);(repeat(refine yb ?_;(conv=>whnf)));refine cQ (order_O m (fnA m q) q (eL (TypesL (fnA m q))) (R (fnA m q)) (T (fnA m q)) h0 hf (hR _) (hT _) (hreg q) (hQ q hb0 hfo hrg hop hph)) (fun ht=>?_) (fun ht=>?_)<;>conv=>whnf)|(refine yt ?_;conv=>whnf)|exact yK|fail
     ·refine .mk (q+1) ⟨by omega,all_step hv (by rw[chkP,if_pos hb0,if_pos hfo,if_pos hrg,if_pos hop,if_pos hph];exact ht)⟩ (by omega) ?_
      refine eP [] [] ?_ ?_<;>repeat' first|exact eN|apply zi
     ·exact⟨by rw[chkU_at hz (by omega) hv (by rw[chkP,if_pos hb0,if_pos hfo,if_pos hrg,if_pos hop,if_pos hph]) ht],rfl,rfl,_,_,_,_,rfl,rfl⟩
    ·have hop:(eachF (fnA m q) q (oprI m (fnA m q))).code=0:=by assumption
     exact⟨by rw[chkU_at hz (by omega) hv (by rw[chkP,if_pos hb0,if_pos hfo,if_pos hrg,if_pos hop,if_neg ht]) ht],rfl,rfl,_,_,_,_,rfl,rfl⟩
    ·exact⟨by rw[chkU_at hz (by omega) hv (by rw[chkP,if_pos hb0,if_pos hfo,if_pos hrg,if_neg ht]) ht],rfl,rfl,_,_,_,_,rfl,rfl⟩
   ·have hb0:(blocksF (fnA m q) q).code=0:=by assumption
    have hfo:(eachF (fnA m q) q (formB m (fnA m q))).code=0:=by assumption
    exact⟨by rw[chkU_at hz (by omega) hv (by rw[chkP,if_pos hb0,if_pos hfo,if_neg ht]) ht],rfl,rfl,_,_,_,_,rfl,rfl⟩
   ·have hb0:(blocksF (fnA m q) q).code=0:=by assumption
    exact⟨by rw[chkU_at hz (by omega) hv (by rw[chkP,if_pos hb0,if_neg ht]) ht],rfl,rfl,_,_,_,_,rfl,rfl⟩
   ·exact⟨by rw[chkU_at hz (by omega) hv (by rw[chkP,if_neg ht]) ht],rfl,rfl,_,_,_,_,rfl,rfl⟩
   ·have e:chkU m R T=⟨0,⟨0,0,0⟩⟩:=by rw[chkU,if_pos hz];exact firstF_no fun i hi=>hv i (by omega)
    rw[e]
    refine⟨.inl rfl,?_,rfl,rfl⟩
    conv=>whnf
    refine⟨[],[],?_,?_,rfl⟩<;>repeat' first|exact eN|apply zi
  ·exact⟨by rw[chkU,if_neg ht],rfl,rfl,_,_,_,_,rfl,rfl⟩
 ·obtain⟨rfl,z2,z3,x,y0,y1,y2,o2,o3⟩:=hz
  obtain⟨uv,rfl,hv⟩:=hrel
  obtain⟨p2,t2,h2⟩:=hg3.slots 2 0 _ z2
  obtain⟨p3,t3,h3⟩:=hg3.slots 3 0 _ z3
  rw[tg_zero hg3.tbok] at t2 t3
  have h2:=h2 (tg_zero hg3.tbok)
  have h3:=h3 (tg_zero hg3.tbok)
  have hgs:=hg3.slotsTo (s':=[(2,0,.op 2 0),(3,0,.op 3 0)]) TbOk.nil fun d c v hl=>by
   rw[lk_cons] at hl
   split at hl
   ·rename_i e;cases hl;subst e;exact⟨p2,t2,fun _=>h2⟩
   ·rw[lk_cons] at hl
    split at hl
    ·rename_i e;cases hl;subst e;exact⟨p3,t3,fun _=>h3⟩
    ·exact nomatch hl
  have hsub:subO o [(2,.box (some b2) (some 30) [.i .i64 x]),(3,.box (some b3) (some 32) [.i .i64 y0,.i .i64 y1,.i .i64 y2])]:=⟨o2,o3,trivial⟩
  have hko:(([(2,.box (some b2) (some 30) [.i .i64 x]),(3,.box (some b3) (some 32) [.i .i64 y0,.i .i64 y1,.i .i64 y2])]:Os).map (·.1)).Nodup:=by simp
  obtain⟨hob3,hap3⟩:=OB.of hg3 hsub hko
  obtain⟨b2',d2,n2,m1,m2,m3,m4,m5,m6,m7,m8⟩:=hob3.objs 2 _ rfl
  obtain⟨b3',d3,n3,q1,q2,q3,q4,q5,q6,q7,q8⟩:=hob3.objs 3 _ rfl
  obtain rfl:=m7 _ rfl
  obtain rfl:=q7 _ rfl
  have hu:u2=p2/\u3=p3:=by
   obtain⟨_,x1,v1,rfl⟩:=f2
   obtain⟨_,x2,v2,rfl⟩:=h2
   obtain⟨_,x3,v3,rfl⟩:=f3
   obtain⟨_,x4,v4,rfl⟩:=h3
   rw[k1] at v1
   rw[m1] at v2
   rw[l1] at v3
   rw[q1] at v4
   cases v1;cases v2;cases v3;cases v4
   exact⟨rfl,rfl⟩
  obtain⟨rfl,rfl⟩:=hu
  have hob':OB (Env.good ⟨46,S,w,feet [] β,hvr,hap,[{ target:=Target.fn (Fn.func 25) #[u2,u3],args:= #[]}],fun _=>none⟩ o β3) (fun i=>β3 (i-998)) w3 (cbO x y0 y1 y2):=by
   refine⟨fun id ob hl=>?_,hob3.nodup,by simp[cbO],hob3.lt⟩
   unfold cbO at hl
   rw[lk_cons] at hl
   split at hl
   ·rename_i e;cases hl;subst e;exact⟨_,d2,n2,m1,m2,m3,m4,m5,m6,(fun _ h=>nomatch h),m8⟩
   ·rw[lk_cons] at hl
    split at hl
    ·rename_i e;cases hl;subst e;exact⟨_,d3,n3,q1,q2,q3,q4,q5,q6,(fun _ h=>nomatch h),q8⟩
    ·exact nomatch hl
  show Leaves Tryz.prog Tryz.f12 a3.tmps RR a3.defers _ w3
  rw[hg3.defers]
  refine leaves_cons (f:=25) (args:= #[u2,u3]) (by simp) (by simp[go_sem]) ?_
  refine catch_on (c:=(chkU m R T).code) (z0:=(chkU m R T).at'.f) (z1:=(chkU m R T).at'.b) (z2:=(chkU m R T).at'.i) hob' hap3 ⟨u2,[u3],rfl,h2,u3,[],rfl,h3,rfl⟩ (flat_rel rfl hv) hg3.vars fun r w' β' c1 c2 c3 c4 c5 c6=>?_
  obtain⟨β4,hg4,_,_⟩:=hgs.changed (fx:=false) (β':=fun i=>β' (i+998)) (no:=[(2,.box none (some 30) [.i .i64 (chkU m R T).code]),(3,.box none (some 32) [.i .i64 (chkU m R T).at'.f,.i .i64 (chkU m R T).at'.b,.i .i64 (chkU m R T).at'.i])]) (r:= .b true) (v:= .bool true) hsub hko rfl rfl c1 (fun id ob hl=>by
   rw[lk_cons] at hl
   split at hl
   ·rename_i e;cases hl;subst e;exact c2 1000 _ rfl
   ·rw[lk_cons] at hl
    split at hl
    ·rename_i e;cases hl;subst e;exact c2 1001 _ rfl
    ·exact nomatch hl) c3 c4 (by simp) ⟨fun id ob hl h1 h2=>by
   rw[lk_cons] at hl
   split at hl
   ·rename_i e;subst e;exact c6 1000 _ rfl rfl rfl
   ·rw[lk_cons] at hl
    split at hl
    ·rename_i e;subst e;exact c6 1001 _ rfl rfl rfl
    ·exact(nomatch hl),fun _ _ _ h=>nomatch h⟩ rfl ⟨fun id hm=>(nomatch hm),fun i ob hl id hm=>by
   rw[lk_cons] at hl
   split at hl
   ·rename_i e;cases hl;exact nomatch hm
   ·rw[lk_cons] at hl
    split at hl
    ·rename_i e;cases hl;exact nomatch hm
    ·exact nomatch hl⟩
  obtain⟨ur,β',r1,r2⟩:=ret_key (fx:=false) (fn:=Tryz.f12) (rs:=[.cell 2 30,.cell 3 32]) (r:= .tup [.i .i64 (chkU m R T).code,eS (chkU m R T).at']) (no:=[]) TYok Tryz.results12 hob rfl rfl hg4 (by
   conv=>whnf
   refine⟨[],[],?_,?_,rfl⟩<;>repeat' first|exact eN|apply zi)
  exact⟨ur,r1,hRR ur β' _ r2⟩
 ·obtain⟨he,hret,z2,z3⟩:=hk
  obtain⟨ur,β',r1,r2⟩:=ret_key (fx:=false) (fn:=Tryz.f12) TYok Tryz.results12 hob rfl rfl hg3 hret
  have hl:Leaves Tryz.prog Tryz.f12 a3.tmps RR a3.defers .returning w3:=by
   rw[hg3.defers]
   refine leaves_cons (f:=25) (args:= #[u2,u3]) (by simp) (by simp[go_sem]) ?_
   refine(catch_off u2 u3 _).mono ?_
   rintro e u' w'' ⟨rfl,rfl,rfl⟩
   exact⟨ur,r1,hRR ur β' _ r2⟩
  rcases he with rfl|rfl
  ·exact hl
  ·exact hl
theorem firstF_eq2 {c c':Nat->FaultE} {n:Nat} (h: ∀i,i<n->(∀j,j<i->(c j).code=0)->(∀j,j<i->(c' j).code=0)->c i=c' i\/((c i).code=0/\(c' i).code=0)):firstF c n=firstF c' n:=by
 have key: ∀q,q<=n->(∀j,j<q->(c j).code=0)-> ∀j,j<q->(c' j).code=0:=fun q=>by
  induction q with
  |zero=>exact fun _ _ j hj=>absurd hj (Nat.not_lt_zero j)
  |succ q ih=>
   intro hq hv j hj
   have ih:=ih (by omega) fun j hj=>hv j (by omega)
   rcases Nat.lt_or_ge j q with h1|h1
   ·exact ih j h1
   ·obtain rfl:j=q:=by omega
    rcases h j (by omega) (fun i hi=>hv i (by omega)) ih with h2|h2
    ·rw[<-h2];exact hv j (by omega)
    ·exact h2.2
 by_cases hall: ∀j,j<n->(c j).code=0
 ·rw[firstF_no hall,firstF_no (key n (Nat.le_refl _) hall)]
 ·obtain⟨q,hq,hn,hv⟩: ∃q,q<n/\(c q).code≠0/\ ∀j,j<q->(c j).code=0:=by
   clear key h
   induction n with
   |zero=>exact absurd (fun j hj=>absurd hj (Nat.not_lt_zero j)) hall
   |succ n ih=>
    by_cases h1: ∀j,j<n->(c j).code=0
    ·refine⟨n,Nat.lt_succ_self n,fun h2=>hall fun j hj=>?_,h1⟩
     rcases Nat.lt_or_ge j n with h3|h3
     ·exact h1 j h3
     ·obtain rfl:j=n:=by omega
      exact h2
    ·obtain⟨q,a,b,d⟩:=ih h1
     exact⟨q,by omega,b,d⟩
  rcases h q hq hv (key q (by omega) hv) with h2|h2
  ·rw[firstF_at hq hv rfl hn,firstF_at hq (key q (by omega) hv) h2.symm hn]
  ·exact absurd h2.1 hn
theorem firstF_eq {c c':Nat->FaultE} {n:Nat} (h: ∀i,i<n->c i=c' i\/((c i).code=0/\(c' i).code=0)):firstF c n=firstF c' n:=firstF_eq2 fun i hi _ _=>h i hi
theorem forms_eq (m:ModE) (f:FnE) (n:Int):eachF f n (formB m f)=formsF m f n:=by
 refine firstF_eq fun i hi=>.inl ?_
 unfold eacC formB formI formC at2
 split
 ·rfl
 ·split<;>rfl
theorem operands_eq (m:ModE) (f:FnE) (n:Int):eachF f n (oprI m f)=operandsF m f n:=by
 refine firstF_eq fun i hi=>?_
 unfold eacC oprI opsC firstV at2
 cases firstC (oprC m f ((C1 f).getD i Enc.d)) ((C1 f).getD i Enc.d).args.length with
 |none=>exact .inr ⟨rfl,rfl⟩
 |some k=>exact .inl rfl
theorem kd_all {f:FnE} {j:Nat} (h:j<(Code f).length): ∃b k,b<f.blocks.length/\k<iLen f b/\j=(codeTo f b k).length:=kd_idx (Nat.le_refl _) h
theorem C2_inj {f:FnE} {i j:Nat} (hi:i<(Code f).length) (hj:j<(Code f).length) (h:(C2 f).getD i Enc.d=(C2 f).getD j Enc.d):i=j:=by
 obtain⟨b,k,h1,h2,rfl⟩:=kd_all hi
 obtain⟨b',k',h3,h4,rfl⟩:=kd_all hj
 rw[kd_2 h1 h2,kd_2 h3 h4] at h
 simp only[Plc.mk.injEq,true_and] at h
 obtain⟨e1,e2⟩:=h
 have:b=b':=by omega
 have:k=k':=by omega
 subst b' k'
 rfl
theorem Def_at {f:FnE} {r:Int} {i:Nat} (hi:i<(Code f).length) (h1:Result ((C1 f).getD i Enc.d)≠0) (h2:((C1 f).getD i Enc.d).reg=r) (h3: ∀j,j<i->((C1 f).getD j Enc.d).reg=r->Result ((C1 f).getD j Enc.d)=0):Def f r=((C2 f).getD i Enc.d,true):=by
 have g: ∀j,dfP r ((Code f).getD j noP)=(decide (((C1 f).getD j Enc.d).reg=r)&& !decide (Result ((C1 f).getD j Enc.d)=0)):=fun j=>by
  have e:((Code f).getD j noP).1=(C1 f).getD j Enc.d:=(getD_map Prod.fst (Code f) j noP Enc.d rfl).symm
  unfold dfP
  rw[e]
 have e2:((Code f).getD i noP).2=(C2 f).getD i Enc.d:=(getD_map Prod.snd (Code f) i noP Enc.d rfl).symm
 unfold Def
 rw[find_take noP (q:=i) hi (fun j hj=>by
  rw[g j]
  by_cases e:((C1 f).getD j Enc.d).reg=r
  ·rw[decide_eq_true (h3 j hj e)];simp
  ·rw[decide_eq_false e];rfl) (by rw[g i,decide_eq_true h2,decide_eq_false h1];rfl)]
 simp only[e2]
theorem regM_one {f:FnE} {i:Nat} {r:Int}:regM f i [r]≠0↔ ∃j,j<i/\Result ((C1 f).getD j Enc.d)≠0/\((C1 f).getD j Enc.d).reg=r:=by
 unfold regM
 split
 ·rename_i h
  simp only[List.any_eq_true,List.mem_range,Bool.and_eq_true,Bool.not_eq_true',decide_eq_false_iff_not,decide_eq_true_eq,List.cons.injEq,and_true] at h
  obtain⟨j,h1,h2,h3⟩:=h
  exact⟨fun _=>⟨j,h1,h2,h3.symm⟩,fun _=>by decide⟩
 ·rename_i h
  refine⟨fun h=>absurd rfl h,fun⟨j,h1,h2,h3⟩=>absurd ?_ h⟩
  simp only[List.any_eq_true,List.mem_range,Bool.and_eq_true,Bool.not_eq_true',decide_eq_false_iff_not,decide_eq_true_eq,List.cons.injEq,and_true]
  exact⟨j,h1,h2,h3.symm⟩
theorem first_ex {p:Nat->Prop}: ∀ {i:Nat},(∃j,j<i/\p j)-> ∃j,j<i/\p j/\ ∀k,k<j-> ¬p k:=fun {i}=>by
 induction i with
 |zero=>exact fun⟨j,h,_⟩=>absurd h (Nat.not_lt_zero j)
 |succ i ih=>
  intro⟨j,h1,h2⟩
  by_cases h: ∃j,j<i/\p j
  ·obtain⟨k,a,b,c⟩:=ih h
   exact⟨k,by omega,b,c⟩
  ·refine⟨j,h1,h2,fun k hk hp=>h ⟨k,by omega,hp⟩⟩
theorem registers_eq (f:FnE) (n:Int):eachF f n (regC f)=registersF f n:=by
 refine firstF_eq fun i hi=>?_
 obtain⟨b,k,h1,h2,h3⟩:=kd_all hi
 have e1:(codeTo f (plE f n i).b.toNat (plE f n i).i.toNat).length=i:=by
  have:=kd_2 h1 h2
  rw[<-h3] at this
  unfold plE
  rw[this,h3];rfl
 unfold eacC regC regF
 rw[e1]
 unfold regE
 split
 ·exact .inr ⟨rfl,rfl⟩
 ·rename_i hres
  split
  ·exact .inl rfl
  ·by_cases hq: ∃j,j<i/\Result ((C1 f).getD j Enc.d)≠0/\((C1 f).getD j Enc.d).reg=((C1 f).getD i Enc.d).reg
   ·rw[if_pos (regM_one.2 hq)]
    obtain⟨j,a,⟨b1,b2⟩,c⟩:=first_ex hq
    rw[Def_at (by omega:j<(Code f).length) b1 b2 fun k hk e=>Decidable.byContradiction fun g=>c k hk ⟨g,e⟩]
    rw[if_pos fun e=>by have:=C2_inj (by omega) hi e;omega]
    exact .inl rfl
   ·rw[if_neg fun h=>hq (regM_one.1 h)]
    rw[Def_at hi hres rfl fun k hk e=>Decidable.byContradiction fun g=>hq ⟨k,hk,g,e⟩]
    rw[if_neg fun h=>h rfl]
    exact .inr ⟨rfl,rfl⟩
theorem phiOk_iff {f:FnE} {i b k:Nat} (e2:(C2 f).getD i Enc.d=⟨0,b,k⟩) (h1:b<f.blocks.length) (h2:k<iLen f b) (hi:i=(codeTo f b k).length):phiOk f i k=true↔(0<b/\(iAt f b k).to=(PredsL f).getD b Enc.d)/\ ∀j,j<k->(iAt f b j).op=25:=by
 have e1:(C1 f).getD i Enc.d=iAt f b k:=by rw[hi];exact kd_1 h1 h2
 unfold phiOk
 rw[e1,e2]
 simp only[Bool.and_eq_true,decide_eq_true_eq,List.all_eq_true,List.mem_range,Int.toNat_natCast]
 constructor
 ·rintro ⟨⟨a,b'⟩,c⟩;exact⟨⟨by omega,b'⟩,c⟩
 ·rintro ⟨⟨a,b'⟩,c⟩;exact⟨⟨by omega,b'⟩,c⟩
theorem phis_eq (f:FnE) (n:Int):eachF f n (phiE f)=phisF f n:=by
 refine firstF_eq2 fun i hi _ hv=>?_
 obtain⟨b,k,h1,h2,h3⟩:=kd_all hi
 have e2:(C2 f).getD i Enc.d=⟨0,b,k⟩:=by rw[h3];exact kd_2 h1 h2
 have e1:(C1 f).getD i Enc.d=iAt f b k:=by rw[h3];exact kd_1 h1 h2
 have hk:=phiOk_iff e2 h1 h2 h3
 unfold eacC phiE phiC plE at2
 rw[e1,e2]
 simp only[Int.toNat_natCast]
 by_cases ho:(iAt f b k).op=25
 ·have ho': ¬¬(iAt f b k).op=25:=fun h=>h ho
  rw[if_neg ho',if_neg ho']
  have hiff:((0<(b:Int)/\((k:Int)<=0\/((f.blocks.getD b Enc.d).code.getD ((k:Int)-1).toNat Enc.d).op=25))/\(iAt f b k).to=(PredsL f).getD b Enc.d)↔phiOk f i k=true:=by
   rw[hk]
   constructor
   ·rintro ⟨⟨a1,a2⟩,a3⟩
    refine⟨⟨by omega,a3⟩,fun j hj=>?_⟩
    have hp:(iAt f b (k-1)).op=25:=by
     rcases a2 with a2|a2
     ·omega
     ·rw[show((k:Int)-1).toNat=k-1 by omega] at a2;exact a2
    rcases Nat.lt_or_ge j (k-1) with g|g
    ·have l1:=kdl f b k
     have l2:=kdl f b (k-1)
     have l3:(codeTo f b (k-1)).length<i:=by omega
     have z:=hv _ l3
     have f2:(C2 f).getD (codeTo f b (k-1)).length Enc.d=⟨0,b,(k-1:Nat)⟩:=kd_2 h1 (by omega)
     have f1:(C1 f).getD (codeTo f b (k-1)).length Enc.d=iAt f b (k-1):=kd_1 h1 (by omega)
     unfold phiC at2 at z
     rw[f1,f2,if_neg (fun h=>h hp)] at z
     simp only[Int.toNat_natCast] at z
     split at z
     ·simp at z
     ·rename_i y
      exact((phiOk_iff f2 h1 (by omega) rfl).1 (by simpa using y)).2 j g
    ·obtain rfl:j=k-1:=by omega
     exact hp
   ·rintro ⟨⟨a1,a2⟩,a3⟩
    refine⟨⟨by omega,?_⟩,a2⟩
    rcases Nat.eq_zero_or_pos k with g|g
    ·exact .inl (by omega)
    ·right
     rw[show((k:Int)-1).toNat=k-1 by omega]
     exact a3 (k-1) (by omega)
  by_cases hok:phiOk f i k=true
  ·rw[if_pos (hiff.2 hok),if_neg (by rw[hok];simp)]
   exact .inr ⟨rfl,rfl⟩
  ·rw[if_neg (fun h=>hok (hiff.1 h)),if_pos (by simpa using hok)]
   exact .inl rfl
 ·rw[if_pos ho,if_pos ho]
  exact .inr ⟨rfl,rfl⟩
theorem Def_here {f:FnE} {n:Int} (h:(registersF f n).code=0) {i:Nat} (hi:i<(Code f).length) (h1:Result ((C1 f).getD i Enc.d)≠0):(Def f ((C1 f).getD i Enc.d).reg).1=(C2 f).getD i Enc.d:=by
 have z:=firstF_zero h i hi
 unfold regF at z
 rw[if_neg h1] at z
 split at z
 ·simp at z
 ·split at z
  ·simp at z
  ·rename_i y;exact Decidable.not_not.1 y
theorem mad_at {f:FnE} {n:Int} (h:(registersF f n).code=0) (r:Int): ∀K,K<=(Code f).length->((∃j,j<K/\Result ((C1 f).getD j Enc.d)≠0/\((C1 f).getD j Enc.d).reg=r)->madM f n K [1,r]=(Def f r).1.b/\madM f n K [2,r]=(Def f r).1.i)/\((¬∃j,j<K/\Result ((C1 f).getD j Enc.d)≠0/\((C1 f).getD j Enc.d).reg=r)->madM f n K [1,r]=0/\madM f n K [2,r]=0)
 |0,_=>⟨fun⟨j,hj,_⟩=>absurd hj (Nat.not_lt_zero j),fun _=>⟨rfl,rfl⟩⟩
 |K+1,hK=>by
  have ih:=mad_at h r K (by omega)
  unfold madM madN
  by_cases h1:Result ((C1 f).getD K Enc.d)=0
  ·rw[if_pos h1,if_pos h1]
   have e:(∃j,j<K+1/\Result ((C1 f).getD j Enc.d)≠0/\((C1 f).getD j Enc.d).reg=r)↔ ∃j,j<K/\Result ((C1 f).getD j Enc.d)≠0/\((C1 f).getD j Enc.d).reg=r:=by
    constructor
    ·rintro ⟨j,a,b,c⟩
     rcases Nat.lt_or_ge j K with g|g
     ·exact⟨j,g,b,c⟩
     ·obtain rfl:j=K:=by omega
      exact absurd h1 b
    ·rintro ⟨j,a,b,c⟩;exact⟨j,by omega,b,c⟩
   rw[e];exact ih
  ·rw[if_neg h1,if_neg h1]
   by_cases h2:((C1 f).getD K Enc.d).reg=r
   ·refine⟨fun _=>?_,fun g=>absurd ⟨K,Nat.lt_succ_self K,h1,h2⟩ g⟩
    rw[<-h2,Def_here h (by omega) h1]
    exact⟨if_pos rfl,if_pos rfl⟩
   ·have g1:msetS (madM f n K) ((C1 f).getD K Enc.d).reg [(plE f n K).f,(plE f n K).b,(plE f n K).i] [1,r]=madM f n K [1,r]:=if_neg fun e=>h2 e.symm
    have g2:msetS (madM f n K) ((C1 f).getD K Enc.d).reg [(plE f n K).f,(plE f n K).b,(plE f n K).i] [2,r]=madM f n K [2,r]:=if_neg fun e=>h2 e.symm
    rw[g1,g2]
    have e:(∃j,j<K+1/\Result ((C1 f).getD j Enc.d)≠0/\((C1 f).getD j Enc.d).reg=r)↔ ∃j,j<K/\Result ((C1 f).getD j Enc.d)≠0/\((C1 f).getD j Enc.d).reg=r:=by
     constructor
     ·rintro ⟨j,a,b,c⟩
      rcases Nat.lt_or_ge j K with g|g
      ·exact⟨j,g,b,c⟩
      ·obtain rfl:j=K:=by omega
       exact absurd c h2
     ·rintro ⟨j,a,b,c⟩;exact⟨j,by omega,b,c⟩
    rw[e];exact ih
theorem mad_def {f:FnE} {n:Int} (h:(registersF f n).code=0) (r:Int):madM f n (Code f).length [1,r]=(Def f r).1.b/\madM f n (Code f).length [2,r]=(Def f r).1.i:=by
 have z:=mad_at h r (Code f).length (Nat.le_refl _)
 by_cases hq: ∃j,j<(Code f).length/\Result ((C1 f).getD j Enc.d)≠0/\((C1 f).getD j Enc.d).reg=r
 ·exact z.1 hq
 ·have e:Def f r=(⟨0,0,0⟩,false):=by
   unfold Def
   rw[find_no noP fun j hj=>?_]
   have e:((Code f).getD j noP).1=(C1 f).getD j Enc.d:=(getD_map Prod.fst (Code f) j noP Enc.d rfl).symm
   unfold dfP
   rw[e]
   by_cases g:((C1 f).getD j Enc.d).reg=r
   ·by_cases g2:Result ((C1 f).getD j Enc.d)=0
    ·rw[decide_eq_true g2];simp
    ·exact absurd ⟨j,hj,g2,g⟩ hq
   ·rw[decide_eq_false g];rfl
  rw[e];exact z.2 hq
theorem order_eq (f:FnE) (n:Int) (R:List Bool) (T:List (List Bool)) (h:(registersF f n).code=0):eachF f n (ordPl f R T (madM f n (Code f).length))=orderF f n R T:=by
 refine firstF_eq fun i hi=>?_
 obtain⟨b,k,h1,h2,h3⟩:=kd_all hi
 have e2:(C2 f).getD i Enc.d=⟨0,b,k⟩:=by rw[h3];exact kd_2 h1 h2
 have hc: ∀q,ordE f R T (madM f n (Code f).length) ((C1 f).getD i Enc.d) (plE f n i).b.toNat (plE f n i).i.toNat q=ordC f R T i q:=fun q=>by
  unfold ordE ordC plE
  rw[(mad_def h _).1,(mad_def h _).2,e2]
  simp only[Int.toNat_natCast]
 have hc2:ordE f R T (madM f n (Code f).length) ((C1 f).getD i Enc.d) (plE f n i).b.toNat (plE f n i).i.toNat=ordC f R T i:=funext hc
 unfold eacC ordPl ordI firstV at2
 rw[hc2]
 cases hq:firstC (ordC f R T i) ((C1 f).getD i Enc.d).args.length with
 |none=>exact .inr ⟨rfl,rfl⟩
 |some q=>
  have h5:=List.find?_some hq
  have h6:ordC f R T i q=11:=by
   simp only[Bool.not_eq_true',decide_eq_false_iff_not] at h5
   revert h5
   unfold ordC
   repeat' split
   all_goals simp
  show(⟨ordC f R T i q,plE f n i⟩:FaultE)=_\/_
  rw[h6]
  exact .inl rfl
theorem firstF_nil {c:Nat->FaultE} {n:Nat} (h:(firstF c n).code=0):firstF c n=⟨0,⟨0,0,0⟩⟩:=firstF_no (firstF_zero h)
theorem firstC_ne {c:Nat->Int} {n i:Nat} (h:firstC c n=some i):c i≠0:=by
 have:=List.find?_some h
 simpa using this
theorem heads_nil {m:ModE} (h:(headsF m).code=0):headsF m=⟨0,⟨0,0,0⟩⟩:=by
 unfold headsF at h⊢
 split
 ·rename_i k;rw[if_pos k] at h;simp at h
 ·rename_i k
  rw[if_neg k] at h
  cases h1:firstC (varCode m) m.vars.length with
  |some i=>rw[h1] at h;exact absurd h (firstC_ne h1)
  |none=>
   rw[h1] at h
   cases h2:firstC (extCode m) m.exts.length with
   |some i=>rw[h2] at h;exact absurd h (firstC_ne h2)
   |none=>
    rw[h2] at h
    cases h3:firstC (fnCode m) m.funcs.length with
    |some i=>rw[h3] at h;exact absurd h (firstC_ne h3)
    |none=>rfl
theorem chkP_eq (m:ModE) (R:FnE->List Bool) (T:FnE->List (List Bool)) (f:FnE) (n:Int):chkP m (R f) (T f) f n=chk m R T f n:=by
 unfold chkP chk
 rw[forms_eq,registers_eq,operands_eq,phis_eq]
 by_cases h:(registersF f n).code=0
 ·rw[order_eq f n _ _ h]
 ·simp only[if_neg h]
theorem chk_nil {m:ModE} {R:FnE->List Bool} {T:FnE->List (List Bool)} {f:FnE} {n:Int} (h:(chk m R T f n).code=0):chk m R T f n=⟨0,⟨0,0,0⟩⟩:=by
 unfold chk at h⊢
 by_cases h1:(blocksF f n).code=0
 ·rw[if_pos h1] at h⊢
  by_cases h2:(formsF m f n).code=0
  ·rw[if_pos h2] at h⊢
   by_cases h3:(registersF f n).code=0
   ·rw[if_pos h3] at h⊢
    by_cases h4:(operandsF m f n).code=0
    ·rw[if_pos h4] at h⊢
     by_cases h5:(phisF f n).code=0
     ·rw[if_pos h5] at h⊢;exact firstF_nil h
     ·rw[if_neg h5] at h;exact absurd h h5
    ·rw[if_neg h4] at h;exact absurd h h4
   ·rw[if_neg h3] at h;exact absurd h h3
  ·rw[if_neg h2] at h;exact absurd h h2
 ·rw[if_neg h1] at h;exact absurd h h1
theorem chkN_nil {m:ModE} {R:FnE->List Bool} {T:FnE->List (List Bool)} (hz:(headsF m).code=0): ∀k,(∀q:Nat,q<k->(chk m R T (fnA m q) q).code=0)->chkN m R T k=⟨0,⟨0,0,0⟩⟩
 |0,_=>heads_nil hz
 |k+1,hv=>by
  have ih:=chkN_nil hz k fun q hq=>hv q (by omega)
  rw[chkN,if_pos (by rw[ih]),chk_nil (hv k (Nat.lt_succ_self k))]
theorem chkU_eq (m:ModE) (R:FnE->List Bool) (T:FnE->List (List Bool)):chkU m R T=CheckF m R T:=by
 unfold chkU CheckF
 by_cases hz:(headsF m).code=0
 ·rw[if_pos hz]
  by_cases hall: ∀q:Nat,q<m.funcs.length->(chk m R T (fnA m q) q).code=0
  ·rw[chkN_nil hz _ hall,firstF_no fun i hi=>by rw[chkP_eq];exact hall i hi]
  ·obtain⟨q,hq,hn,hv⟩: ∃q:Nat,q<m.funcs.length/\(chk m R T (fnA m q) q).code≠0/\ ∀j:Nat,j<q->(chk m R T (fnA m j) j).code=0:=by
    have hex: ∃j:Nat,j<m.funcs.length/\(chk m R T (fnA m j) j).code≠0:=Decidable.byContradiction fun g=>hall fun q hq=>Decidable.byContradiction fun g2=>g ⟨q,hq,g2⟩
    obtain⟨j,a,b,c⟩:=first_ex hex
    exact⟨j,a,b,fun i hi=>Decidable.byContradiction fun g=>c i hi g⟩
   have e1:chkN m R T (q+1)=chk m R T (fnA m q) q:=by rw[chkN,if_pos (by rw[chkN_nil hz q hv])]
   rw[chkN_stay (k:=q+1) (by rw[e1];exact hn) _ (by omega),e1]
   exact firstF_at hq (fun i hi=>by rw[chkP_eq];exact hv i hi) (chkP_eq m R T _ _) hn
 ·rw[if_neg hz]
  exact(chkN_stay (k:=0) hz _ (Nat.zero_le _)).symm
theorem opr_cond {m:ModE} {f:FnE} {n:Int} (h:(eachF f n (formB m f)).code=0) {b i:Nat} (hb:b<f.blocks.length) (hi:i<iLen f b):((iAt f b i).op=30->(iAt f b i).args.length=(Callee m (iAt f b i).n).1.length)/\((iAt f b i).op=29->(iAt f b i).t=65/\(iAt f b i).args.length=2):=by
 rw[forms_eq] at h
 have e1:=kd_1 hb hi
 have hl:=kd_lt hb hi
 refine⟨fun ho=>?_,fun ho=>?_⟩
 ·have z:=forms_call h _ hl (by rw[e1];exact ho)
  rw[e1] at z
  exact z
 ·have z:=firstF_zero h _ hl
  unfold formC at z
  split at z
  ·simp[at2] at z
  ·rename_i q
   rw[Bool.not_eq_false] at q
   have q:=(formed_iff f _ _).1 q
   rw[e1] at q
   obtain⟨q1,_,_,_,q2,_⟩:=q
   refine⟨q2 ho,?_⟩
   have q3:=q1.1.2
   unfold cnts at q3
   rw[if_neg (by omega),if_pos (by omega)] at q3
   simp only at q3
   omega
structure RngV (m:ModE):Prop where
 reg: ∀q b i,inI (iAt (fnA m q) b i).reg
 n: ∀q b i,inI (iAt (fnA m q) b i).n
 arg: ∀q b i k,inI ((iAt (fnA m q) b i).args.getD k Enc.d).n
theorem ord_ok {m:ModE} (hm:siz m<4294967296) (hr:RngV m) {q:Nat} (h1:(blocksF (fnA m q) q).code=0) (h2:(eachF (fnA m q) q (formB m (fnA m q))).code=0) (h3:(eachF (fnA m q) q (regC (fnA m q))).code=0) (h5:(eachF (fnA m q) q (phiE (fnA m q))).code=0) {b i:Nat} (hb:b<(fnA m q).blocks.length) (hi:i<iLen (fnA m q) b):OrdOk (fnA m q) (madM (fnA m q) q (Code (fnA m q)).length) (iAt (fnA m q) b i):=by
 rw[forms_eq] at h2
 rw[registers_eq] at h3
 rw[phis_eq] at h5
 have hf:siz (fnA m q)<4294967296:=Nat.lt_of_le_of_lt (fn_le m q) hm
 have e1:=kd_1 hb hi
 have hl:=kd_lt hb hi
 refine⟨Nat.lt_of_le_of_lt (ins_le (fnA m q) b i) hf,hr.arg q b i,fun k _ _ _=>?_,fun ho=>⟨?_,?_⟩⟩
 ·rw[(mad_def h3 _).1]
  exact Def_b _ _ (by omega)
 ·have z:=forms_phi h2 _ hl (by rw[e1];exact ho)
  rw[e1] at z;exact z
 ·have z:=phis_to h5 _ hl (by rw[e1];exact ho)
  rw[e1] at z;exact z
theorem ASpecF.pure {fx:Fx} {P:Program} {f:FuncId} {args:List AV} {r:AV} (h:ASpecF fx P f args [] r []):ASpec P f args r []:=by
 obtain⟨h1,h2,h3⟩:=h
 refine⟨h1,h2,fun S w us hus hvr=>?_⟩
 refine(h3 S W0 w us ⟨fun id ob hl=>by simp[lk] at hl,List.nodup_nil,List.nodup_nil,fun k hk=>by simp[feet] at hk⟩ (fun k _ hk=>by simp[feet] at hk) hus hvr).mono ?_
 rintro e w' ⟨v,β',rfl,g1,g2,g3,g4,g5,g6,g7⟩
 exact⟨v,β',rfl,BelowX.below g1,fun id ob hl=>by simp[lk] at hl,fun k hk=>by simp[feet] at hk,g4,g5,rel_mono ⟨Nat.le_refl _,fun k _ h=>⟨⟨by
  rcases h.1 with h|h|h
  ·exact .inl h
  ·exact .inr h
  ·simp[feet] at h,by simp[feet]⟩,rfl⟩⟩ _ _ g7⟩
theorem check_S (m:ModE) (R:FnE->List Bool) (T:FnE->List (List Bool)) (hR: ∀f,isRG f (-1) (R f)) (hT: ∀f,isTab f (T f)) (hm:siz m<4294967296) (hr:RngV m):ASpec Tryz.prog 12 [eS m] (.tup [.i .i64 (CheckF m R T).code,eS (CheckF m R T).at']) []:=by
 have h:=check_F m R T hm hR hT hr.reg hr.n (fun q h b i hb hi=>opr_cond h hb hi) (fun q h1 h2 h3 _ h5 b i hb hi=>ord_ok hm hr h1 h2 h3 h5 hb hi)
 rw[chkU_eq] at h
 exact h.pure
def preN (g:Nat->Nat):Nat->Nat
 |0=>0
 |q+1=>preN g q+g q
theorem preN_mono {g:Nat->Nat} {q:Nat}: ∀ {k:Nat},q<=k->preN g q<=preN g k
 |0,h=>by rw[show q=0 by omega];exact Nat.le_refl _
 |k+1,h=>by
  rcases Nat.lt_or_ge q (k+1) with h2|h2
  ·have:=preN_mono (g:=g) (q:=q) (k:=k) (by omega);rw[preN];omega
  ·rw[show q=k+1 by omega];exact Nat.le_refl _
theorem preN_in {g:Nat->Nat} {q k:Nat} (h:q<k):preN g q+g q<=preN g k:=preN_mono (g:=g) (q:=q+1) h
theorem preN_shift (g:Nat->Nat): ∀q,preN g (q+1)=g 0+preN (fun i=>g (i+1)) q
 |0=>by simp[preN]
 |q+1=>by rw[preN,preN_shift g q,preN];omega
theorem preN_siz {α:Type} [Enc α] [Siz α] (g:α->Nat) (hg: ∀x,g x<=siz x): ∀l:List α,l.length+preN (fun i=>g (l.getD i Enc.d)) l.length<=siz l
 |[]=>Nat.le_refl _
 |x::l=>by
  have h1:=preN_siz g hg l
  have e:siz (x::l)=l.length+1+(siz x+(l.map siz).sum):=rfl
  have e2:siz l=l.length+(l.map siz).sum:=rfl
  have h2:=hg x
  rw[List.length_cons,preN_shift]
  show l.length+1+(g x+preN (fun i=>g (l.getD i Enc.d)) l.length)<=_
  omega
def insQ (x:InsE):Nat:=x.args.length+x.to.length
def blkQ (y:BlkE):Nat:=y.code.length+preN (fun k=>insQ (y.code.getD k Enc.d)) y.code.length
def fnQ (f:FnE):Nat:=f.params.length+f.blocks.length+preN (fun b=>blkQ (f.blocks.getD b Enc.d)) f.blocks.length
def extQ (x:ExtE):Nat:=x.params.length
def modQ (m:ModE):Nat:=m.vars.length+m.exts.length+m.funcs.length+preN (fun i=>extQ (m.exts.getD i Enc.d)) m.exts.length+preN (fun i=>fnQ (m.funcs.getD i Enc.d)) m.funcs.length
theorem insQ_le (x:InsE):insQ x<=siz x:=by
 have h1:=len_siz x.args;have h2:=len_siz x.to
 have e:siz x=siz x.args+siz x.to:=rfl
 unfold insQ;omega
theorem blkQ_le (y:BlkE):blkQ y<=siz y:=preN_siz insQ insQ_le y.code
theorem fnQ_le (f:FnE):fnQ f<=siz f:=by
 have h1:=len_siz f.params
 have h2:=preN_siz blkQ blkQ_le f.blocks
 have e:siz f=siz f.name+siz f.params+siz f.blocks:=rfl
 unfold fnQ;omega
theorem extQ_le (x:ExtE):extQ x<=siz x:=by
 have h1:=len_siz x.params
 have e:siz x=siz x.name+siz x.params:=rfl
 unfold extQ;omega
theorem modQ_le (m:ModE):modQ m<=siz m:=by
 have h1:=len_siz m.vars
 have h2:=preN_siz extQ extQ_le m.exts
 have h3:=preN_siz fnQ fnQ_le m.funcs
 have e:siz m=siz m.vars+siz m.exts+siz m.funcs:=rfl
 unfold modQ;omega
theorem Few_S (m:ModE) (most:Int) (hm:siz m<4294967296):ASpec Tryz.prog 15 [eS m,.i .i64 most] (.b (decide ((modQ m:Int)<=most))) []:=by
 have h0:=modQ_le m
 have e0:modQ m=m.vars.length+m.exts.length+m.funcs.length+preN (fun i=>extQ (m.exts.getD i Enc.d)) m.exts.length+preN (fun i=>fnQ (m.funcs.getD i Enc.d)) m.funcs.length:=rfl
 refine ASpec.enter TYok mixed Tryz.func15 rfl Tryz.call15 Tryz.ntmps15 rfl (rs:=[.tmp 4]) rfl (nodupB_ok rfl) (Clo.one rfl) (keep:=[0,1,2,4,5,7,9,11,13,26,27,28,39,40,41,55,56,57,67,68,69]) ?_;conv=>whnf
 repeat' first|(refine iG ?_ ?_<;>intro hb hc<;>first|exact yE|conv=>whnf)|(refine gqs ?_;conv=>whnf)|(refine yt ?_;conv=>whnf)|exact yK|fail
 let N0:=m.vars.length+m.exts.length+m.funcs.length
 refine lp [28,5] (fun q:Nat=>[.i .i64 q,.i .i64 (N0+preN (fun i=>extQ (m.exts.getD i Enc.d)) q:Nat)]) (fun q=>[(2,bx m)]) (fun q=>q<=m.exts.length) (fun q=>m.exts.length-q) 0 (by omega) ?_ fun q hq=>?_
 ·refine eP [] [] ?_ ?_<;>repeat' first|exact eN|apply zi
 conv=>whnf
 rcases Nat.lt_or_ge q m.exts.length with hlt|hge
 ·have p1:preN (fun i=>extQ (m.exts.getD i Enc.d)) q+extQ (m.exts.getD q Enc.d)<=preN (fun i=>extQ (m.exts.getD i Enc.d)) m.exts.length:=preN_in hlt
  have p2:extQ (m.exts.getD q Enc.d)=(m.exts.getD q Enc.d).params.length:=rfl
  repeat' first|(refine iG ?_ ?_<;>intro hb hc<;>first|exact yE|conv=>whnf)|(refine gqs ?_;conv=>whnf)|(refine yt ?_;conv=>whnf)|exact yK|fail
  refine .mk (q+1) (by omega) (by omega) ?_
  have e:preN (fun i=>extQ (m.exts.getD i Enc.d)) (q+1)=preN (fun i=>extQ (m.exts.getD i Enc.d)) q+extQ (m.exts.getD q Enc.d):=rfl
  refine eP [] [] ?_ ?_<;>repeat' first|exact eN|apply zi
 obtain rfl:q=m.exts.length:=by omega
 repeat' first|(refine iG ?_ ?_<;>intro hb hc<;>first|exact yE|conv=>whnf)|(refine gqs ?_;conv=>whnf)|(refine yt ?_;conv=>whnf)|exact yK|fail
 let N1:=N0+preN (fun i=>extQ (m.exts.getD i Enc.d)) m.exts.length
 refine lp [41,5] (fun q:Nat=>[.i .i64 q,.i .i64 (N1+preN (fun i=>fnQ (m.funcs.getD i Enc.d)) q:Nat)]) (fun q=>[(2,bx m)]) (fun q=>q<=m.funcs.length) (fun q=>m.funcs.length-q) 0 (by omega) ?_ fun j hj=>?_
 ·refine eP [] [] ?_ ?_<;>repeat' first|exact eN|apply zi
 conv=>whnf
 rcases Nat.lt_or_ge j m.funcs.length with hlt|hge
 ·have p1:preN (fun i=>fnQ (m.funcs.getD i Enc.d)) j+fnQ (m.funcs.getD j Enc.d)<=preN (fun i=>fnQ (m.funcs.getD i Enc.d)) m.funcs.length:=preN_in hlt
  have p2:fnQ (m.funcs.getD j Enc.d)=(m.funcs.getD j Enc.d).params.length+(m.funcs.getD j Enc.d).blocks.length+preN (fun b=>blkQ ((m.funcs.getD j Enc.d).blocks.getD b Enc.d)) (m.funcs.getD j Enc.d).blocks.length:=rfl
  let N2:=N1+preN (fun i=>fnQ (m.funcs.getD i Enc.d)) j+((m.funcs.getD j Enc.d).params.length+(m.funcs.getD j Enc.d).blocks.length)
  repeat' first|(refine iG ?_ ?_<;>intro hb hc<;>first|exact yE|conv=>whnf)|(refine gqs ?_;conv=>whnf)|(refine yt ?_;conv=>whnf)|exact yK|fail
  refine lp [57,5] (fun q:Nat=>[.i .i64 q,.i .i64 (N2+preN (fun b=>blkQ ((m.funcs.getD j Enc.d).blocks.getD b Enc.d)) q:Nat)]) (fun q=>[(2,bx m),(9,bx (m.funcs.getD j Enc.d))]) (fun q=>q<=(m.funcs.getD j Enc.d).blocks.length) (fun q=>(m.funcs.getD j Enc.d).blocks.length-q) 0 (by omega) ?_ fun b hb0=>?_
  ·refine eP [] [] ?_ ?_<;>repeat' first|exact eN|apply zi
  conv=>whnf
  rcases Nat.lt_or_ge b (m.funcs.getD j Enc.d).blocks.length with hlb|hgb
  ·have q1:preN (fun b=>blkQ ((m.funcs.getD j Enc.d).blocks.getD b Enc.d)) b+blkQ ((m.funcs.getD j Enc.d).blocks.getD b Enc.d)<=preN (fun b=>blkQ ((m.funcs.getD j Enc.d).blocks.getD b Enc.d)) (m.funcs.getD j Enc.d).blocks.length:=preN_in hlb
   have q2:blkQ ((m.funcs.getD j Enc.d).blocks.getD b Enc.d)=((m.funcs.getD j Enc.d).blocks.getD b Enc.d).code.length+preN (fun k=>insQ (((m.funcs.getD j Enc.d).blocks.getD b Enc.d).code.getD k Enc.d)) ((m.funcs.getD j Enc.d).blocks.getD b Enc.d).code.length:=rfl
   let N3:=N2+preN (fun b=>blkQ ((m.funcs.getD j Enc.d).blocks.getD b Enc.d)) b+((m.funcs.getD j Enc.d).blocks.getD b Enc.d).code.length
   repeat' first|(refine iG ?_ ?_<;>intro hb hc<;>first|exact yE|conv=>whnf)|(refine gqs ?_;conv=>whnf)|(refine yt ?_;conv=>whnf)|exact yK|fail
   refine lp [69,5] (fun q:Nat=>[.i .i64 q,.i .i64 (N3+preN (fun k=>insQ (((m.funcs.getD j Enc.d).blocks.getD b Enc.d).code.getD k Enc.d)) q:Nat)]) (fun q=>[(2,bx m),(9,bx (m.funcs.getD j Enc.d)),(11,bx ((m.funcs.getD j Enc.d).blocks.getD b Enc.d))]) (fun q=>q<=((m.funcs.getD j Enc.d).blocks.getD b Enc.d).code.length) (fun q=>((m.funcs.getD j Enc.d).blocks.getD b Enc.d).code.length-q) 0 (by omega) ?_ fun n hn2=>?_
   ·refine eP [] [] ?_ ?_<;>repeat' first|exact eN|apply zi
   conv=>whnf
   rcases Nat.lt_or_ge n ((m.funcs.getD j Enc.d).blocks.getD b Enc.d).code.length with hln|hgn
   ·have r1:preN (fun k=>insQ (((m.funcs.getD j Enc.d).blocks.getD b Enc.d).code.getD k Enc.d)) n+insQ (((m.funcs.getD j Enc.d).blocks.getD b Enc.d).code.getD n Enc.d)<=preN (fun k=>insQ (((m.funcs.getD j Enc.d).blocks.getD b Enc.d).code.getD k Enc.d)) ((m.funcs.getD j Enc.d).blocks.getD b Enc.d).code.length:=preN_in hln
    have r2:insQ (((m.funcs.getD j Enc.d).blocks.getD b Enc.d).code.getD n Enc.d)=(((m.funcs.getD j Enc.d).blocks.getD b Enc.d).code.getD n Enc.d).args.length+(((m.funcs.getD j Enc.d).blocks.getD b Enc.d).code.getD n Enc.d).to.length:=rfl
    repeat' first|(refine iG ?_ ?_<;>intro hb hc<;>first|exact yE|conv=>whnf)|(refine gqs ?_;conv=>whnf)|(refine yt ?_;conv=>whnf)|exact yK|fail
    ·exact⟨_,.keep (by rw[decide_eq_false];omega) rfl⟩
    ·refine .mk (n+1) (by omega) (by omega) ?_
     have e:preN (fun k=>insQ (((m.funcs.getD j Enc.d).blocks.getD b Enc.d).code.getD k Enc.d)) (n+1)=preN (fun k=>insQ (((m.funcs.getD j Enc.d).blocks.getD b Enc.d).code.getD k Enc.d)) n+insQ (((m.funcs.getD j Enc.d).blocks.getD b Enc.d).code.getD n Enc.d):=rfl
     refine eP [] [] ?_ ?_<;>repeat' first|exact eN|apply zi
   ·obtain rfl:n=((m.funcs.getD j Enc.d).blocks.getD b Enc.d).code.length:=by omega
    repeat' first|(refine iG ?_ ?_<;>intro hb hc<;>first|exact yE|conv=>whnf)|(refine gqs ?_;conv=>whnf)|(refine yt ?_;conv=>whnf)|exact yK|fail
    refine .mk (b+1) (by omega) (by omega) ?_
    have e:preN (fun b=>blkQ ((m.funcs.getD j Enc.d).blocks.getD b Enc.d)) (b+1)=preN (fun b=>blkQ ((m.funcs.getD j Enc.d).blocks.getD b Enc.d)) b+blkQ ((m.funcs.getD j Enc.d).blocks.getD b Enc.d):=rfl
    refine eP [] [] ?_ ?_<;>repeat' first|exact eN|apply zi
  ·obtain rfl:b=(m.funcs.getD j Enc.d).blocks.length:=by omega
   repeat' first|(refine iG ?_ ?_<;>intro hb hc<;>first|exact yE|conv=>whnf)|(refine gqs ?_;conv=>whnf)|(refine yt ?_;conv=>whnf)|exact yK|fail
   refine .mk (j+1) (by omega) (by omega) ?_
   have e:preN (fun i=>fnQ (m.funcs.getD i Enc.d)) (j+1)=preN (fun i=>fnQ (m.funcs.getD i Enc.d)) j+fnQ (m.funcs.getD j Enc.d):=rfl
   refine eP [] [] ?_ ?_<;>repeat' first|exact eN|apply zi
 ·obtain rfl:j=m.funcs.length:=by omega
  repeat' first|(refine iG ?_ ?_<;>intro hb hc<;>first|exact yE|conv=>whnf)|(refine gqs ?_;conv=>whnf)|(refine yt ?_;conv=>whnf)|exact yK|fail
def coO (m:ModE) (b c:Nat):Os:=[(1,bx m),(2,bx (Enc.d:ModE)),(3,.box none none [.orow 11 2 0 m.vars.length,.orow 70 3 0 b,.orow 71 4 0 c]),(11,oL m.vars),(70,.row none 3 b fun i=>Enc.enc (m.exts.getD i Enc.d)),(71,.row none 4 c fun i=>Enc.enc (m.funcs.getD i Enc.d))]
open Go.RowKit Go.ChangeShapes Go.WideShapes
def allS:Nat->Prop:=fun _=>True
def rngI (x:Int):Prop:= -9223372036854775808<=x/\x<=9223372036854775807
def rngU (x:Int):Prop:=0<=x/\x<18446744073709551616
class Rng (α:Type) where
 rng:α->Prop
instance:Rng Int:=⟨rngI⟩
instance:Rng ByteArray:=⟨fun _=>True⟩
instance:Rng Bool:=⟨fun _=>True⟩
instance {α:Type} [Rng α]:Rng (List α):=⟨fun l=>∀x∈l,Rng.rng x⟩
theorem bulk_agg {H:Type} {l:List (DataW H)}:Rows.uptoBulk (.agg l)=Rows.uptoBulkAll l+1:=by rw[Rows.uptoBulk]
theorem bulk_cons {H:Type} {d:DataW H} {l:List (DataW H)}:Rows.uptoBulkAll (d::l)=Rows.uptoBulk d+Rows.uptoBulkAll l:=by rw[Rows.uptoBulkAll]
theorem bulk_nil {H:Type}:Rows.uptoBulkAll ([]:List (DataW H))=0:=by rw[Rows.uptoBulkAll]
instance:Siz Plc:=⟨fun _=>0,rfl⟩
structure OpA (t:TypeId) (α:Type) [Enc α] [Siz α] [Rng α]:Prop where
 open_: ∀ {H:Type} (enc:TypeId×Value->H) (w:World) (base:Nat) (sp:Nat->Bool) (hd:Bool) (fuel:Nat) (cs:List Value) (x:DataW H×List MemPlace),
  DataW.trod enc Tryz.prog w base sp hd fuel t cs=some x-> ∃d:α,siz d+1<=Rows.uptoBulk x.1/\Rng.rng d/\rels allS W0 w (Enc.enc d) cs
theorem wf_i64 {z:Int} (h:(Lit.int .i64 z).wf=true): -9223372036854775808<=z/\z<=9223372036854775807:=by
 simp[Lit.wf,IntKind.min,IntKind.max,IntKind.signed,IntKind.bits] at h;omega
theorem wf_u64 {z:Int} (h:(Lit.int .u64 z).wf=true):0<=z/\z<18446744073709551616:=by
 simp[Lit.wf,IntKind.min,IntKind.max,IntKind.signed,IntKind.bits] at h;omega
theorem op_i64 {t:TypeId} (ht:Tryz.prog.underlying t=some (.int .i64)):OpA t Int:=
 ⟨fun enc w base sp hd fuel cs x h=>by
  obtain⟨z,rfl,rfl,hw⟩:=DataW.trod_int ht h
  exact⟨z,by show 0+1<=Rows.uptoBulk (.lit (.int .i64 z));rw[Rows.uptoBulk];exact Nat.le_refl _;all_goals simp,wf_i64 hw,_,_,rfl,rfl,rfl⟩⟩
structure OpU (t:TypeId):Prop where
 open_: ∀ {H:Type} (enc:TypeId×Value->H) (w:World) (base:Nat) (sp:Nat->Bool) (hd:Bool) (fuel:Nat) (cs:List Value) (x:DataW H×List MemPlace),
  DataW.trod enc Tryz.prog w base sp hd fuel t cs=some x-> ∃d:Int,0+1<=Rows.uptoBulk x.1/\rngU d/\rels allS W0 w [.i .u64 d] cs
theorem op_u64 {t:TypeId} (ht:Tryz.prog.underlying t=some (.int .u64)):OpU t:=
 ⟨fun enc w base sp hd fuel cs x h=>by
  obtain⟨z,rfl,rfl,hw⟩:=DataW.trod_int ht h
  exact⟨z,by show 0+1<=Rows.uptoBulk (.lit (.int .u64 z));rw[Rows.uptoBulk];exact Nat.le_refl _;all_goals simp,wf_u64 hw,_,_,rfl,rfl,rfl⟩⟩
theorem op_str {t:TypeId} (ht:Tryz.prog.underlying t=some .string):OpA t ByteArray:=
 ⟨fun enc w base sp hd fuel cs x h=>by
  obtain⟨z,rfl,rfl,hs⟩:=DataW.trod_string ht h
  refine⟨z,?_,trivial,_,_,rfl,rfl,rfl⟩
  show z.size+1<=Rows.uptoBulk (.lit (.string z.data.toList))
  rw[Rows.uptoBulk,Array.length_toList];exact Nat.le_refl _⟩
theorem list_of {α:Type} {p:Nat->α->Prop}: ∀(n:Nat),(∀i,i<n-> ∃x,p i x)-> ∃l:List α,l.length=n/\ ∀(i:Nat) x,l[i]?=some x->p i x
 |0,_=>⟨[],rfl,fun i x h=>by simp at h⟩
 |n+1,h=>by
  obtain⟨l,hl,hp⟩:=list_of n fun i hi=>h i (Nat.lt_succ_of_lt hi)
  obtain⟨x,hx⟩:=h n (Nat.lt_succ_self n)
  refine⟨l++[x],by simp[hl],fun i y hy=>?_⟩
  rcases Nat.lt_trichotomy i n with q|q|q
  ·rw[List.getElem?_append_left (by omega)] at hy;exact hp i y hy
  ·subst q;rw[List.getElem?_append_right (by omega),hl] at hy;simp at hy;subst hy;exact hx
  ·rw[List.getElem?_eq_none (by simp;omega)] at hy;cases hy
theorem choose_to {α:Type} [Inhabited α] {p:Nat->α->Prop} (n:Nat) (h: ∀i,i<n-> ∃x,p i x): ∃f:Nat->α,∀i,i<n->p i (f i):=by
 obtain⟨l,hl,hp⟩:=list_of n h
 refine⟨fun i=>l.getD i default,fun i hi=>?_⟩
 have:=hp i l[i] (List.getElem?_eq_getElem (by omega))
 show p i (l.getD i default)
 rwa [List.getD_eq_getElem?_getD,List.getElem?_eq_getElem (by omega)]
theorem bulk_range {H:Type} {α:Type} [Enc α] [Siz α] (D:Nat->DataW H): ∀(l:List α) (k:Nat),(∀i x,l[i]?=some x->siz x+1<=Rows.uptoBulk (D (k+i)))->siz l<=Rows.uptoBulkAll ((List.range l.length).map fun i=>D (k+i))
 |[],k,h=>Nat.zero_le _
 |x::l,k,h=>by
  have e:siz (x::l)=l.length+1+(siz x+(l.map siz).sum):=rfl
  have e2:siz l=l.length+(l.map siz).sum:=rfl
  have h0:=h 0 x rfl
  have h1:=bulk_range D l (k+1) fun i y hy=>by have:=h (i+1) y (by simpa using hy);rwa [show k+1+i=k+(i+1) by omega]
  rw[List.length_cons,List.range_succ_eq_map,List.map_cons,bulk_cons,List.map_map,e]
  rw[show((fun i=>D (k+i))∘Nat.succ)=fun i=>D (k+1+i) from funext fun i=>by show D (k+(i+1))=_;congr 1;omega]
  rw[Nat.add_zero] at h0⊢
  omega
theorem OpA.list {t e:TypeId} {α:Type} [Enc α] [Siz α] [Rng α] (ht:Tryz.prog.underlying t=some (.slice e)) (hc:Tryz.prog.cellsOf e=Enc.sz α) (ho: ∀x:α,(Enc.enc x).all AV.one=true) (he:OpA e α):OpA t (List α) where
 open_:=fun enc w base sp hd fuel cs x h=>by
  rcases Go.Deep.open_slice ht h with⟨rfl,rfl⟩|⟨a,len,cap,m,n,D,Pl,rfl,hb,hl,hm,hmm,rfl,hx⟩
  ·refine⟨[],?_,(fun x hx=>by cases hx),_,_,rfl,⟨none,0,fun _=>[],rfl,(fun z hz=>by cases hz),⟨Nat.zero_le _,Nat.zero_le _⟩,fun i hi=>by cases hi⟩,rfl⟩
   show 0+1<=Rows.uptoBulk (.nil)
   rw[Rows.uptoBulk];exact Nat.le_refl _
  ·have hle:len<=m:=by rw[hmm];split<;>omega
   obtain⟨l,hll,hp⟩:=list_of (p:=fun i (d:α)=>(∃cs',w.cells? base (a.add (i*Enc.sz α)) (Enc.sz α)=some cs'/\rels allS W0 w (Enc.enc d) cs')/\Rng.rng d/\siz d+1<=Rows.uptoBulk (D i)) len fun i hi=>by
    obtain⟨cs',h1,h2⟩:=hx i (by omega)
    obtain⟨d,h3,h4,h5⟩:=he.open_ _ _ _ _ _ _ _ _ h2
    rw[hc] at h1
    exact⟨d,⟨cs',h1,h5⟩,h4,h3⟩
   subst hll
   obtain⟨us,hus⟩:=choose_to (p:=fun i cs'=>∀x,l[i]?=some x->w.cells? base (a.add (i*Enc.sz α)) (Enc.sz α)=some cs'/\rels allS W0 w (Enc.enc x) cs') l.length fun i hi=>by
    obtain⟨⟨cs',h1,h2⟩,_⟩:=hp i l[i] (List.getElem?_eq_getElem hi)
    exact⟨cs',fun x hx=>by rw[List.getElem?_eq_getElem hi] at hx;cases hx;exact⟨h1,h2⟩⟩
   refine⟨l,?_,fun x hx=>?_,_,_,rfl,⟨some a,cap,us,rfl,(fun z hz=>by cases hz),⟨hl,Nat.le_trans hl hm⟩,fun i hi=>?_⟩,rfl⟩
   ·rw[show Rows.uptoBulk (DataW.slice (List.map D (List.range l.length)) (List.map (fun j=>D (l.length+j)) (List.range (m-l.length))))=Rows.uptoBulkAll (List.map D (List.range l.length))+Rows.uptoBulkAll (List.map (fun j=>D (l.length+j)) (List.range (m-l.length)))+1 by rw[Rows.uptoBulk]]
    have:=bulk_range D l 0 fun i x hx=>by rw[Nat.zero_add];exact(hp i x hx).2.2
    simp only[Nat.zero_add] at this
    show siz l+1<=Rows.uptoBulkAll (List.map (fun i=>D i) (List.range l.length))+_+1
    omega
   ·obtain⟨i,hi,rfl⟩:=List.getElem_of_mem hx
    exact(hp i l[i] (List.getElem?_eq_getElem hi)).2.1
   ·have hg:l.getD i Enc.d=l[i]:=by rw[List.getD_eq_getElem?_getD,List.getElem?_eq_getElem hi];rfl
    obtain⟨h1,h2⟩:=hus i hi l[i] (List.getElem?_eq_getElem hi)
    obtain⟨_,hlen,hcell⟩:=World.cells?_some h1
    refine⟨⟨a,rfl,fun w' h3 h4 j u hu=>?_⟩,⟨hlen,rels_one h2 (ho _)⟩,?_⟩
    ·have hj:j<Enc.sz α:=by have:=(List.getElem?_eq_some_iff.1 hu).1;omega
     have:=hcell j hj
     rw[hu] at this
     unfold World.cell? at this⊢
     cases hb:w.heap[((a.add (i*Enc.sz α)).add j).block]? with
     |none=>rw[hb] at this;cases this
     |some o=>
      have hlt:=(Array.getElem?_eq_some_iff.1 hb).1
      rw[h4 _ hlt trivial,hb];rw[hb] at this;exact this
    ·show rels allS W0 w (Enc.enc (l.getD i Enc.d)) (us i)
     rw[hg];exact h2
theorem trod_flat {H:Type} {enc:TypeId×Value->H} {w:World} {base:Nat} {sp:Nat->Bool} {hd:Bool} {fuel:Nat} {cs:List Value} {x:DataW H×List MemPlace} {t:TypeId} {fs:Array Field}
  (hs:Tryz.prog.underlying t=some (.struct fs)) (h:DataW.trod enc Tryz.prog w base sp hd fuel t cs=some x) (n:Nat) (hc:Tryz.prog.cellsOf t=n) (hn:fs.size=n) (hf: ∀i:Nat,i<n->(fs[i]?.map (·.offset))=some i/\(fs[i]?.map fun f=>Tryz.prog.cellsOf f.type)=some 1):
  ∃(m:Nat) (xs:List (DataW H×List MemPlace)),xs.length=n/\x.1= .agg (xs.map (·.1))/\cs.length=n/\ ∀(i:Nat) (f:Field) (c:Value) (y:DataW H×List MemPlace),fs[i]?=some f->cs[i]?=some c->xs[i]?=some y->DataW.trod enc Tryz.prog w base sp hd m f.type [c]=some y:=by
 obtain⟨xs,m,rfl,rfl,hlen,hxl,hall⟩:=DataW.trod_struct hs h
 refine⟨m,xs,hxl.trans hn,rfl,hlen.trans hc,fun i f c y hfi hci hyi=>?_⟩
 have hi:i<n:=by rw[<-hn];exact(Array.getElem?_eq_some_iff.1 hfi).1
 obtain⟨h1,h2⟩:=hf i hi
 rw[hfi] at h1 h2
 simp only[Option.map_some,Option.some.injEq] at h1 h2
 have:=hall i f hfi
 rw[hyi,h1,h2] at this
 rw[<-this]
 congr 1
 obtain⟨hl,e⟩:=List.getElem?_eq_some_iff.1 hci
 rw[List.drop_eq_getElem_cons hl,e];rfl
theorem list1 {α:Type} {l:List α} (h:l.length=1): ∃a,l=[a]:=by
 match l,h with
 |[a],_=>exact⟨a,rfl⟩
theorem list2 {α:Type} {l:List α} (h:l.length=2): ∃a b,l=[a,b]:=by
 match l,h with
 |[a,b],_=>exact⟨a,b,rfl⟩
theorem list3 {α:Type} {l:List α} (h:l.length=3): ∃a b c,l=[a,b,c]:=by
 match l,h with
 |[a,b,c],_=>exact⟨a,b,c,rfl⟩
theorem list4 {α:Type} {l:List α} (h:l.length=4): ∃a b c d,l=[a,b,c,d]:=by
 match l,h with
 |[a,b,c,d],_=>exact⟨a,b,c,d,rfl⟩
theorem list7 {α:Type} {l:List α} (h:l.length=7): ∃a b c d e f g,l=[a,b,c,d,e,f,g]:=by
 match l,h with
 |[a,b,c,d,e,f,g],_=>exact⟨a,b,c,d,e,f,g,rfl⟩
theorem calls_of_A {f:FuncId} {args:List AV} {us:List Value} {w:World} {b:Bool} (h:ASpec Tryz.prog f args (.b b) []) (hr:rels allS W0 w args us) (hv:Rob allS w Vr):
  Calls Tryz.prog f us.toArray w fun e w'=>e= .returned (.bool b)/\Below w.heap.size w w':=
 (h.2.2 allS w us hr hv).mono fun e w' ⟨v,β',he,hb,_,_,_,_,hrel⟩=>⟨by rw[he];unfold rel at hrel;rw[hrel],hb⟩
theorem open_arg {α:Type} [Enc α] [Siz α] [Rng α] {H:Type} {enc:TypeId×Value->H} {w:World} {base b0:Nat} {sp:Nat->Bool} {hd:Bool} {r:Reach} {t:TypeId} {v:Value} {d:DataW H} {ps:List MemPlace} {fs:Array Field}
  (ho:OpA t α) (ht:Tryz.prog.underlying t=some (.struct fs)) (hval:Value.okWide Tryz.prog w r b0 t v) (h:DataW.Trod enc Tryz.prog w base sp hd t v d ps): ∃x:α,rel allS W0 w (eS x) v/\Rng.rng x/\siz x+1<=Rows.uptoBulk d:=by
 obtain⟨cs,rfl,_⟩:=okWide_struct ht hval
 obtain⟨fuel,hf⟩:=h
 obtain⟨x,h1,h2,h3⟩:=ho.open_ _ _ _ _ _ _ _ _ hf
 exact⟨x,⟨cs.toList,by simp,by simpa[Value.cells] using h3⟩,h2,h1⟩
instance:Rng Plc:=⟨fun x=>rngI x.f/\rngI x.b/\rngI x.i⟩
instance:Rng Opd:=⟨fun x=>rngI x.k/\rngI x.n/\rngU x.b⟩
theorem op_Opd:OpA 56 Opd where
 open_:=fun enc w base sp hd fuel cs x h=>by
  obtain⟨m,xs,h1,h2,h3,h4⟩:=trod_flat Tryz.underlying56 h 3 (by kernel_rfl) rfl (by decide)
  obtain⟨c0,c1,c2,rfl⟩:=list3 h3
  obtain⟨y0,y1,y2,rfl⟩:=list3 h1
  obtain⟨d0,a0,b0,r0⟩:=(op_i64 Tryz.underlying3).open_ _ _ _ _ _ _ _ _ (h4 0 _ _ _ rfl rfl rfl)
  obtain⟨_,_,e0,r0,rn0⟩:=r0
  cases e0
  obtain⟨d1,a1,b1,r1⟩:=(op_i64 Tryz.underlying3).open_ _ _ _ _ _ _ _ _ (h4 1 _ _ _ rfl rfl rfl)
  obtain⟨_,_,e1,r1,rn1⟩:=r1
  cases e1
  obtain⟨d2,a2,b2,r2⟩:=(op_u64 Tryz.underlying54).open_ _ _ _ _ _ _ _ _ (h4 2 _ _ _ rfl rfl rfl)
  obtain⟨_,_,e2,r2,rn2⟩:=r2
  cases e2
  refine⟨⟨d0,d1,d2⟩,?_,⟨b0,b1,b2⟩,?_⟩
  ·rw[h2]
   have e:siz (⟨d0,d1,d2⟩:Opd)=0:=rfl
   rw[e,bulk_agg]
   simp only[List.map_cons,List.map_nil,bulk_cons,bulk_nil]
   omega
  ·exact⟨_,_,rfl,r0,⟨_,_,rfl,r1,⟨_,_,rfl,r2,rfl⟩⟩⟩
instance:Rng InsE:=⟨fun x=>rngI x.op/\rngI x.reg/\rngI x.t/\rngI x.n/\rngI x.f/\Rng.rng x.args/\Rng.rng x.to⟩
theorem op_InsE:OpA 53 InsE where
 open_:=fun enc w base sp hd fuel cs x h=>by
  obtain⟨m,xs,h1,h2,h3,h4⟩:=trod_flat Tryz.underlying53 h 7 (by kernel_rfl) rfl (by decide)
  obtain⟨c0,c1,c2,c3,c4,c5,c6,rfl⟩:=list7 h3
  obtain⟨y0,y1,y2,y3,y4,y5,y6,rfl⟩:=list7 h1
  obtain⟨d0,a0,b0,r0⟩:=(op_i64 Tryz.underlying3).open_ _ _ _ _ _ _ _ _ (h4 0 _ _ _ rfl rfl rfl)
  obtain⟨_,_,e0,r0,rn0⟩:=r0
  cases e0
  obtain⟨d1,a1,b1,r1⟩:=(op_i64 Tryz.underlying3).open_ _ _ _ _ _ _ _ _ (h4 1 _ _ _ rfl rfl rfl)
  obtain⟨_,_,e1,r1,rn1⟩:=r1
  cases e1
  obtain⟨d2,a2,b2,r2⟩:=(op_i64 Tryz.underlying3).open_ _ _ _ _ _ _ _ _ (h4 2 _ _ _ rfl rfl rfl)
  obtain⟨_,_,e2,r2,rn2⟩:=r2
  cases e2
  obtain⟨d3,a3,b3,r3⟩:=(op_i64 Tryz.underlying3).open_ _ _ _ _ _ _ _ _ (h4 3 _ _ _ rfl rfl rfl)
  obtain⟨_,_,e3,r3,rn3⟩:=r3
  cases e3
  obtain⟨d4,a4,b4,r4⟩:=(op_i64 Tryz.underlying3).open_ _ _ _ _ _ _ _ _ (h4 4 _ _ _ rfl rfl rfl)
  obtain⟨_,_,e4,r4,rn4⟩:=r4
  cases e4
  obtain⟨d5,a5,b5,r5⟩:=(OpA.list (α:=Opd) Tryz.underlying51 (by kernel_rfl) (fun _=>rfl) op_Opd).open_ _ _ _ _ _ _ _ _ (h4 5 _ _ _ rfl rfl rfl)
  obtain⟨_,_,e5,r5,rn5⟩:=r5
  cases e5
  obtain⟨d6,a6,b6,r6⟩:=(OpA.list (α:=Int) Tryz.underlying39 (by kernel_rfl) (fun _=>rfl) (op_i64 Tryz.underlying3)).open_ _ _ _ _ _ _ _ _ (h4 6 _ _ _ rfl rfl rfl)
  obtain⟨_,_,e6,r6,rn6⟩:=r6
  cases e6
  refine⟨⟨d0,d1,d2,d3,d4,d5,d6⟩,?_,⟨b0,b1,b2,b3,b4,b5,b6⟩,?_⟩
  ·rw[h2]
   have e:siz (⟨d0,d1,d2,d3,d4,d5,d6⟩:InsE)=siz d5+siz d6:=rfl
   rw[e,bulk_agg]
   simp only[List.map_cons,List.map_nil,bulk_cons,bulk_nil]
   omega
  ·exact⟨_,_,rfl,r0,⟨_,_,rfl,r1,⟨_,_,rfl,r2,⟨_,_,rfl,r3,⟨_,_,rfl,r4,⟨_,_,rfl,r5,⟨_,_,rfl,r6,rfl⟩⟩⟩⟩⟩⟩⟩
instance:Rng BlkE:=⟨fun x=>Rng.rng x.code⟩
theorem op_BlkE:OpA 50 BlkE where
 open_:=fun enc w base sp hd fuel cs x h=>by
  obtain⟨m,xs,h1,h2,h3,h4⟩:=trod_flat Tryz.underlying50 h 1 (by kernel_rfl) rfl (by decide)
  obtain⟨c0,rfl⟩:=list1 h3
  obtain⟨y0,rfl⟩:=list1 h1
  obtain⟨d0,a0,b0,r0⟩:=(OpA.list (α:=InsE) Tryz.underlying48 (by kernel_rfl) (fun _=>rfl) op_InsE).open_ _ _ _ _ _ _ _ _ (h4 0 _ _ _ rfl rfl rfl)
  obtain⟨_,_,e0,r0,rn0⟩:=r0
  cases e0
  refine⟨⟨d0⟩,?_,b0,?_⟩
  ·rw[h2]
   have e:siz (⟨d0⟩:BlkE)=siz d0:=rfl
   rw[e,bulk_agg]
   simp only[List.map_cons,List.map_nil,bulk_cons,bulk_nil]
   omega
  ·exact⟨_,_,rfl,r0,rfl⟩
instance:Rng FnE:=⟨fun x=>True/\Rng.rng x.params/\rngI x.ret/\Rng.rng x.blocks⟩
theorem op_FnE:OpA 42 FnE where
 open_:=fun enc w base sp hd fuel cs x h=>by
  obtain⟨m,xs,h1,h2,h3,h4⟩:=trod_flat Tryz.underlying42 h 4 (by kernel_rfl) rfl (by decide)
  obtain⟨c0,c1,c2,c3,rfl⟩:=list4 h3
  obtain⟨y0,y1,y2,y3,rfl⟩:=list4 h1
  obtain⟨d0,a0,b0,r0⟩:=(op_str Tryz.underlying9).open_ _ _ _ _ _ _ _ _ (h4 0 _ _ _ rfl rfl rfl)
  obtain⟨_,_,e0,r0,rn0⟩:=r0
  cases e0
  obtain⟨d1,a1,b1,r1⟩:=(OpA.list (α:=Int) Tryz.underlying39 (by kernel_rfl) (fun _=>rfl) (op_i64 Tryz.underlying3)).open_ _ _ _ _ _ _ _ _ (h4 1 _ _ _ rfl rfl rfl)
  obtain⟨_,_,e1,r1,rn1⟩:=r1
  cases e1
  obtain⟨d2,a2,b2,r2⟩:=(op_i64 Tryz.underlying3).open_ _ _ _ _ _ _ _ _ (h4 2 _ _ _ rfl rfl rfl)
  obtain⟨_,_,e2,r2,rn2⟩:=r2
  cases e2
  obtain⟨d3,a3,b3,r3⟩:=(OpA.list (α:=BlkE) Tryz.underlying40 (by kernel_rfl) (fun _=>rfl) op_BlkE).open_ _ _ _ _ _ _ _ _ (h4 3 _ _ _ rfl rfl rfl)
  obtain⟨_,_,e3,r3,rn3⟩:=r3
  cases e3
  refine⟨⟨d0,d1,d2,d3⟩,?_,⟨trivial,b1,b2,b3⟩,?_⟩
  ·rw[h2]
   have e:siz (⟨d0,d1,d2,d3⟩:FnE)=siz d0+siz d1+siz d3:=rfl
   rw[e,bulk_agg]
   simp only[List.map_cons,List.map_nil,bulk_cons,bulk_nil]
   omega
  ·exact⟨_,_,rfl,r0,⟨_,_,rfl,r1,⟨_,_,rfl,r2,⟨_,_,rfl,r3,rfl⟩⟩⟩⟩
instance:Rng VarE:=⟨fun x=>True/\rngI x.size⟩
theorem op_VarE:OpA 82 VarE where
 open_:=fun enc w base sp hd fuel cs x h=>by
  obtain⟨m,xs,h1,h2,h3,h4⟩:=trod_flat Tryz.underlying82 h 2 (by kernel_rfl) rfl (by decide)
  obtain⟨c0,c1,rfl⟩:=list2 h3
  obtain⟨y0,y1,rfl⟩:=list2 h1
  obtain⟨d0,a0,b0,r0⟩:=(op_str Tryz.underlying9).open_ _ _ _ _ _ _ _ _ (h4 0 _ _ _ rfl rfl rfl)
  obtain⟨_,_,e0,r0,rn0⟩:=r0
  cases e0
  obtain⟨d1,a1,b1,r1⟩:=(op_i64 Tryz.underlying3).open_ _ _ _ _ _ _ _ _ (h4 1 _ _ _ rfl rfl rfl)
  obtain⟨_,_,e1,r1,rn1⟩:=r1
  cases e1
  refine⟨⟨d0,d1⟩,?_,⟨trivial,b1⟩,?_⟩
  ·rw[h2]
   have e:siz (⟨d0,d1⟩:VarE)=siz d0:=rfl
   rw[e,bulk_agg]
   simp only[List.map_cons,List.map_nil,bulk_cons,bulk_nil]
   omega
  ·exact⟨_,_,rfl,r0,⟨_,_,rfl,r1,rfl⟩⟩
instance:Rng ExtE:=⟨fun x=>True/\Rng.rng x.params/\rngI x.ret⟩
theorem op_ExtE:OpA 69 ExtE where
 open_:=fun enc w base sp hd fuel cs x h=>by
  obtain⟨m,xs,h1,h2,h3,h4⟩:=trod_flat Tryz.underlying69 h 3 (by kernel_rfl) rfl (by decide)
  obtain⟨c0,c1,c2,rfl⟩:=list3 h3
  obtain⟨y0,y1,y2,rfl⟩:=list3 h1
  obtain⟨d0,a0,b0,r0⟩:=(op_str Tryz.underlying9).open_ _ _ _ _ _ _ _ _ (h4 0 _ _ _ rfl rfl rfl)
  obtain⟨_,_,e0,r0,rn0⟩:=r0
  cases e0
  obtain⟨d1,a1,b1,r1⟩:=(OpA.list (α:=Int) Tryz.underlying39 (by kernel_rfl) (fun _=>rfl) (op_i64 Tryz.underlying3)).open_ _ _ _ _ _ _ _ _ (h4 1 _ _ _ rfl rfl rfl)
  obtain⟨_,_,e1,r1,rn1⟩:=r1
  cases e1
  obtain⟨d2,a2,b2,r2⟩:=(op_i64 Tryz.underlying3).open_ _ _ _ _ _ _ _ _ (h4 2 _ _ _ rfl rfl rfl)
  obtain⟨_,_,e2,r2,rn2⟩:=r2
  cases e2
  refine⟨⟨d0,d1,d2⟩,?_,⟨trivial,b1,b2⟩,?_⟩
  ·rw[h2]
   have e:siz (⟨d0,d1,d2⟩:ExtE)=siz d0+siz d1:=rfl
   rw[e,bulk_agg]
   simp only[List.map_cons,List.map_nil,bulk_cons,bulk_nil]
   omega
  ·exact⟨_,_,rfl,r0,⟨_,_,rfl,r1,⟨_,_,rfl,r2,rfl⟩⟩⟩
instance:Rng ModE:=⟨fun x=>Rng.rng x.vars/\Rng.rng x.exts/\Rng.rng x.funcs⟩
theorem op_ModE:OpA 26 ModE where
 open_:=fun enc w base sp hd fuel cs x h=>by
  obtain⟨m,xs,h1,h2,h3,h4⟩:=trod_flat Tryz.underlying26 h 3 (by kernel_rfl) rfl (by decide)
  obtain⟨c0,c1,c2,rfl⟩:=list3 h3
  obtain⟨y0,y1,y2,rfl⟩:=list3 h1
  obtain⟨d0,a0,b0,r0⟩:=(OpA.list (α:=VarE) Tryz.underlying22 (by kernel_rfl) (fun _=>rfl) op_VarE).open_ _ _ _ _ _ _ _ _ (h4 0 _ _ _ rfl rfl rfl)
  obtain⟨_,_,e0,r0,rn0⟩:=r0
  cases e0
  obtain⟨d1,a1,b1,r1⟩:=(OpA.list (α:=ExtE) Tryz.underlying23 (by kernel_rfl) (fun _=>rfl) op_ExtE).open_ _ _ _ _ _ _ _ _ (h4 1 _ _ _ rfl rfl rfl)
  obtain⟨_,_,e1,r1,rn1⟩:=r1
  cases e1
  obtain⟨d2,a2,b2,r2⟩:=(OpA.list (α:=FnE) Tryz.underlying24 (by kernel_rfl) (fun _=>rfl) op_FnE).open_ _ _ _ _ _ _ _ _ (h4 2 _ _ _ rfl rfl rfl)
  obtain⟨_,_,e2,r2,rn2⟩:=r2
  cases e2
  refine⟨⟨d0,d1,d2⟩,?_,⟨b0,b1,b2⟩,?_⟩
  ·rw[h2]
   have e:siz (⟨d0,d1,d2⟩:ModE)=siz d0+siz d1+siz d2:=rfl
   rw[e,bulk_agg]
   simp only[List.map_cons,List.map_nil,bulk_cons,bulk_nil]
   omega
  ·exact⟨_,_,rfl,r0,⟨_,_,rfl,r1,⟨_,_,rfl,r2,rfl⟩⟩⟩
theorem wkrow1 {g g':Nat->List AV} (h:wks (g 0) (g' 0)): ∀i,i<1->wks (g i) (g' i):=fun i hi=>by
 obtain rfl:i=0:=by omega
 exact h
theorem wkrow2 {g g':Nat->List AV} (h:wks (g 0) (g' 0)/\wks (g 1) (g' 1)): ∀i,i<2->wks (g i) (g' i):=fun i hi=>by
 match i,hi with
 |0,_=>exact h.1
 |1,_=>exact h.2
theorem wkInt (x:Int):wks (Enc.enc x) (Enc.enc x):=⟨⟨rfl,rfl⟩,trivial⟩
theorem wkOpd (x:Opd):wks (Enc.enc x) (Enc.enc x):=⟨⟨rfl,rfl⟩,⟨rfl,rfl⟩,⟨rfl,rfl⟩,trivial⟩
theorem wkL {α:Type} [Enc α] (h: ∀x:α,wks (Enc.enc x) (Enc.enc x)) (l:List α):wk (eL l) (eL l):=⟨rfl,rfl,fun i _=>h _⟩
theorem wkIns (x:InsE):wks (Enc.enc x) (Enc.enc x):=⟨⟨rfl,rfl⟩,⟨rfl,rfl⟩,⟨rfl,rfl⟩,⟨rfl,rfl⟩,⟨rfl,rfl⟩,wkL wkOpd _,wkL wkInt _,trivial⟩
theorem wkBlk (x:BlkE):wks (Enc.enc x) (Enc.enc x):=⟨wkL wkIns _,trivial⟩
theorem rngA_at {α:Type} [Enc α] [Rng α] {l:List α} (h:Rng.rng l) (hd:Rng.rng (Enc.d:α)) (i:Nat):Rng.rng (l.getD i Enc.d):=by
 rcases Nat.lt_or_ge i l.length with hi|hi
 ·rw[List.getD_eq_getElem?_getD,List.getElem?_eq_getElem hi];exact h _ (List.getElem_mem hi)
 ·rw[List.getD_eq_getElem?_getD,List.getElem?_eq_none hi];exact hd
theorem rngA0:rngI 0:=by unfold rngI;omega
theorem rngA_ins:Rng.rng (Enc.d:InsE):=⟨rngA0,rngA0,rngA0,rngA0,rngA0,fun x h=>(by cases h),fun x h=>(by cases h)⟩
theorem rngA_blk:Rng.rng (Enc.d:BlkE):=fun x h=>(by cases h)
theorem rngA_opd:Rng.rng (Enc.d:Opd):=⟨rngA0,rngA0,by unfold rngU;show(0:Int)<=0/\(0:Int)<_;omega⟩
theorem rngA_fn:Rng.rng (Enc.d:FnE):=⟨trivial,fun x h=>(by cases h),rngA0,fun x h=>(by cases h)⟩
theorem inIA_of {x:Int} (h:rngI x):inI x:=by unfold rngI at h;unfold inI;omega
theorem rngA_iAt {f:FnE} (h:Rng.rng f) (b i:Nat):Rng.rng (iAt f b i):=by
 obtain⟨_,_,_,h4⟩:=h
 have h5:Rng.rng (f.blocks.getD b Enc.d):=rngA_at h4 rngA_blk b
 exact rngA_at (show Rng.rng (f.blocks.getD b Enc.d).code from h5) rngA_ins i
theorem rngA_f {m:ModE} (h:Rng.rng m) (q:Nat):Rng.rng (fnA m q):=rngA_at h.2.2 rngA_fn q
theorem RngV.of {m:ModE} (h:Rng.rng m):RngV m where
 reg:=fun q b i=>inIA_of (rngA_iAt (rngA_f h q) b i).2.1
 n:=fun q b i=>inIA_of (rngA_iAt (rngA_f h q) b i).2.2.2.1
 arg:=fun q b i k=>inIA_of (rngA_at (rngA_iAt (rngA_f h q) b i).2.2.2.2.2.1 rngA_opd k).2.1
def liveM (n:Int):ModE:=⟨[],[],[⟨⟨#[102]⟩,[8],8,[⟨[⟨1,1,8,0,0,[⟨1,0,0⟩,⟨2,0,3⟩],[]⟩,⟨33,-1,8,0,0,[⟨1,n,0⟩],[]⟩]⟩]⟩]⟩
theorem live_rng (n:Int) (hn:rngI n):Rng.rng (liveM n):=by
 refine⟨fun x hx=>(by cases hx),fun x hx=>(by cases hx),fun x hx=>?_⟩
 obtain rfl:=List.mem_singleton.1 hx
 refine⟨trivial,fun x hx=>?_,by show rngI 8;unfold rngI;omega,fun x hx=>?_⟩
 ·obtain rfl:=List.mem_singleton.1 hx
  show rngI 8;unfold rngI;omega
 obtain rfl:=List.mem_singleton.1 hx
 show∀x∈_,Rng.rng x
 intro x hx
 simp only[List.mem_cons,List.not_mem_nil,or_false] at hx
 have r: ∀z:Int,-100<=z/\z<=100->rngI z:=fun z h=>by unfold rngI;omega
 rcases hx with rfl|rfl
 ·refine⟨r 1 (by decide),r 1 (by decide),r 8 (by decide),r 0 (by decide),r 0 (by decide),fun x hx=>?_,fun x hx=>(by cases hx)⟩
  have hx:x∈[(⟨1,0,0⟩:Opd),⟨2,0,3⟩]:=hx
  simp only[List.mem_cons,List.not_mem_nil,or_false] at hx
  rcases hx with rfl|rfl
  ·exact⟨r 1 (by decide),r 0 (by decide),show rngU 0 by unfold rngU;omega⟩
  ·exact⟨r 2 (by decide),r 0 (by decide),show rngU 3 by unfold rngU;omega⟩
 ·refine⟨r 33 (by decide),r (-1) (by decide),r 8 (by decide),r 0 (by decide),r 0 (by decide),fun x hx=>?_,fun x hx=>(by cases hx)⟩
  obtain rfl:=List.mem_singleton.1 hx
  exact⟨r 1 (by decide),hn,show rngU 0 by unfold rngU;omega⟩
theorem live_fault: ∀R T,CheckF (liveM 2) R T=⟨10,⟨0,0,1⟩⟩:=fun R T=>by
 show(if(headsF (liveM 2)).code=0 then chk (liveM 2) R T (fnA (liveM 2) 0) 0 else headsF (liveM 2))=_
 rw[if_pos (by decide+kernel)]
 unfold chk
 rw[if_pos (by decide+kernel),if_pos (by decide+kernel),if_pos (by decide+kernel),if_neg (by decide+kernel)]
 decide+kernel
theorem live_right : ∀ R T, CheckF (liveM 1) R T = ⟨0, ⟨0, 0, 0⟩⟩ := fun R T => by
  show (if (headsF (liveM 1)).code = 0 then chk (liveM 1) R T (fnA (liveM 1) 0) 0 else headsF (liveM 1)) = _
  rw [if_pos (by decide +kernel)]
  unfold chk
  rw [if_pos (by decide +kernel), if_pos (by decide +kernel), if_pos (by decide +kernel), if_pos (by decide +kernel), if_pos (by decide +kernel)]
  refine firstF_no fun i hi => ?_
  have hi : i < 2 := hi
  unfold ordI
  match i, hi with
  | 0, _ => rw [firstC_no fun k hk => ?_]
            match k, hk with
            | 0, _ => exact if_pos (by decide +kernel)
            | 1, _ => exact if_pos (by decide +kernel)
  | 1, _ => rw [firstC_no fun k hk => ?_]
            match k, hk with
            | 0, _ =>
              unfold ordC
              rw [if_neg (by decide +kernel)]
              split
              · rfl
              · rw [if_neg (by decide +kernel), if_pos (by decide +kernel), if_pos (by decide +kernel)]
theorem lives8_S:ASpec Tryz.prog 9 [] (.b true) []:=by
 obtain⟨R,hR⟩: ∃R:FnE->List Bool,∀f,isRG f (-1) (R f):=⟨fun f=>Classical.choose (isRG_ex f (-1)),fun f=>Classical.choose_spec (isRG_ex f (-1))⟩
 obtain⟨T,hT⟩: ∃T:FnE->List (List Bool),∀f,isTab f (T f):=⟨fun f=>Classical.choose (isTab_ex f),fun f=>Classical.choose_spec (isTab_ex f)⟩
 have k1:=check_S (liveM 1) R T hR hT (by decide+kernel) (.of (live_rng 1 (by unfold rngI;omega)))
 have k2:=check_S (liveM 2) R T hR hT (by decide+kernel) (.of (live_rng 2 (by unfold rngI;omega)))
 rw[live_right] at k1
 rw[live_fault] at k2
 have kp:=live_S
 rw[live_F] at kp
 refine ASpec.enter TYok mixed Tryz.func9 rfl Tryz.call9 Tryz.ntmps9 rfl (rs:=[.tmp 0]) rfl (nodupB_ok rfl) (Clo.one rfl) (keep:=[0,1,2,3,5,6]) ?_;conv=>whnf
 repeat' first|(refine iG ?_ ?_<;>intro hb hc<;>first|exact yE|conv=>whnf)|(refine gqs ?_;conv=>whnf)|(refine gqc (x:=fun _=>kp) (k:= ?_);conv=>whnf)|(refine yt ?_;conv=>whnf)|exact yK|fail
 ·exact absurd hb (by decide)
 (try(first|refine yt ?_|refine CallW.lent ?_);(conv=>whnf));(repeat(refine yb ?_;(conv=>whnf)));(first|refine cK (fun _=>k1.weak (by repeat' first|exact trivial|exact rfl|apply zi|exact fun i _=>wkInt _|refine wkrow1 ?_|refine wkrow2 ?_)) ?_|refine cL (fun _=>k1.weak (by repeat' first|exact trivial|exact rfl|apply zi|exact fun i _=>wkInt _|refine wkrow1 ?_|refine wkrow2 ?_)) ?_);conv=>whnf
 repeat' first|(refine iG ?_ ?_<;>intro hb hc<;>first|exact yE|conv=>whnf)|(refine gqs ?_;conv=>whnf)|(refine yt ?_;conv=>whnf)|exact yK|fail
 (try(first|refine yt ?_|refine CallW.lent ?_);(conv=>whnf));(repeat(refine yb ?_;(conv=>whnf)));(first|refine cK (fun _=>k2.weak (by repeat' first|exact trivial|exact rfl|apply zi|exact fun i _=>wkInt _|refine wkrow1 ?_|refine wkrow2 ?_)) ?_|refine cL (fun _=>k2.weak (by repeat' first|exact trivial|exact rfl|apply zi|exact fun i _=>wkInt _|refine wkrow1 ?_|refine wkrow2 ?_)) ?_);conv=>whnf
 repeat' first|(refine iG ?_ ?_<;>intro hb hc<;>first|exact yE|conv=>whnf)|(refine gqs ?_;conv=>whnf)|(refine yt ?_;conv=>whnf)|exact yK|fail
theorem Long8_S (m:ModE) (hm:siz m<4294967296):ASpec Tryz.prog 10 [eS m] (.b (!decide ((modQ m:Int)<=3000))) []:=by
 have h1:=funcs_le m
 refine ASpec.enter TYok mixed Tryz.func10 rfl Tryz.call10 Tryz.ntmps10 rfl (rs:=[.tmp 2]) rfl (nodupB_ok rfl) (Clo.one rfl) (keep:=[0,1,2,4,6,7,8]) ?_;conv=>whnf
 repeat' first|(refine iG ?_ ?_<;>intro hb hc<;>first|exact yE|conv=>whnf)|(refine gqs ?_;conv=>whnf)|(refine yt ?_;conv=>whnf)|exact yK|fail
 refine lp [8] (fun q:Nat=>[.i .i64 q]) (fun q=>[(1,bx m)]) (fun q=>q<=m.funcs.length) (fun q=>m.funcs.length-q) 0 (Nat.zero_le _) ?_ fun q hq=>?_
 ·refine eP [] [] ?_ ?_<;>repeat' first|exact eN|apply zi
 conv=>whnf
 have h2:=blocks_le (m.funcs.getD q Enc.d)
 have h3:=fn_le m q
 repeat' first|(refine iG ?_ ?_<;>intro hb hc<;>first|exact yE|conv=>whnf)|(refine gqs ?_;conv=>whnf)|(refine gqc (x:=fun _=>Few_S m 3000 hm) (k:= ?_);conv=>whnf)|(refine yt ?_;conv=>whnf)|exact yK|fail
 ·refine .mk (q+1) (by omega) (by omega) ?_
  refine eP [] [] ?_ ?_<;>repeat' first|exact eN|apply zi
def sufV (c:Nat->Int) (n:Nat):Nat->Int
 |0=>0
 |q+1=>if c (n-(q+1))=0 then sufV c n q else c (n-(q+1))
theorem sufV_none {c:Nat->Int} {n:Nat} (h: ∀j,j<n->c j=0): ∀q,q<=n->sufV c n q=0
 |0,_=>rfl
 |q+1,hq=>by rw[sufV,if_pos (h _ (by omega)),sufV_none h q (by omega)]
theorem sufV_some {c:Nat->Int} {n i:Nat} (hi:i<n) (h:c i≠0) (hv: ∀j,j<i->c j=0): ∀q,q<=n->n-q<=i->sufV c n q=c i
 |0,_,h2=>by omega
 |q+1,hq,h2=>by
  rw[sufV]
  by_cases e:n-(q+1)=i
  ·rw[e,if_neg h]
  ·rw[if_pos (hv _ (by omega)),sufV_some hi h hv q (by omega) (by omega)]
theorem sufV_first (c:Nat->Int) (n:Nat):sufV c n n=firstV c n:=by
 unfold firstV
 cases hq:firstC c n with
 |none=>
  refine sufV_none (fun j hj=>?_) n (Nat.le_refl _)
  have:=List.find?_eq_none.1 hq j (List.mem_range.2 hj)
  simpa using this
 |some i=>
  obtain⟨h1,h2,h3⟩:=List.find?_range_eq_some.1 hq
  exact sufV_some (List.mem_range.1 h2) (by simpa using h1) (fun j hj=>by simpa using h3 j hj) n (Nat.le_refl _) (by omega)
theorem types8_S (f:FnE) (hf:siz f<4294967296):ASpec Tryz.prog 18 [eS f] (eL (TypesL f)) []:=by
 have h1:=Code_siz f
 have h2:=C1_len f
 have h3:=C2_len f
 have h9:=params_le f
 refine ASpec.enter TYok mixed Tryz.func18 rfl Tryz.call18 Tryz.ntmps18 rfl (rs:=[.tmp 2]) rfl (nodupB_ok rfl) (Clo.one rfl) (keep:=[0,1,2,3,4,6,7,8]) ?_;conv=>whnf
 repeat' first|(refine iG ?_ ?_<;>intro hb hc<;>first|exact yE|conv=>whnf)|(refine gqs ?_;conv=>whnf)|(refine gqc (x:=fun _=>Code_C 140 141 (by decide) f hf) (k:= ?_);conv=>whnf)|(refine yt ?_;conv=>whnf)|exact yK|fail
 refine lp [6] (fun q:Nat=>[.i .i64 (((Code f).length:Int)-1-q)]) (fun q=>[(9,.row none 1 4096 fun r=>[.i .i64 (sufV (tyC f r) (Code f).length q)]),(1,bx f),(140,oL (C1 f)),(141,oL (C2 f))]) (fun q=>q<=(Code f).length) (fun q=>(Code f).length-q) 0 (Nat.zero_le _) ?_ fun q hq=>?_
 ·refine eP [] [] ?_ ?_<;>repeat' first|exact eN|apply zi
 rcases Nat.lt_or_ge q (Code f).length with hlt|hge
 ·obtain⟨i,hi,hiq⟩: ∃i:Nat,((Code f).length:Int)-1-q=i/\i=(Code f).length-(q+1):=⟨(Code f).length-(q+1),by omega,rfl⟩
  rw[hi]
  have e1: ∀r:Int,sufV (tyC f r) (Code f).length (q+1)=if tyC f r i=0 then sufV (tyC f r) (Code f).length q else tyC f r i:=fun r=>by rw[sufV,hiq]
  conv=>whnf
  repeat' first|(refine iG ?_ ?_<;>intro hb hc<;>first|exact yE|conv=>whnf)|(refine gqs ?_;conv=>whnf)|(refine gqc (x:=fun _=>Result_S _) (k:= ?_);conv=>whnf)|(refine yt ?_;conv=>whnf)|exact yK|fail
  ·refine .mk (q+1) (by omega) (by omega) ?_
   refine eP [] [] ?_ ?_<;>repeat' first|exact eN|apply zi
   intro j hj
   show setF (fun r=>[AV.i .i64 (sufV (tyC f r) (Code f).length q)]) (addZ 0 ((C1 f).getD i Enc.d).reg.toNat) [AV.i .i64 (Result ((C1 f).getD i Enc.d))] j=[AV.i .i64 (sufV (tyC f j) (Code f).length (q+1))]
   rw[e1]
   unfold setF
   have hc':(0<=((C1 f).getD i Enc.d).reg/\((C1 f).getD i Enc.d).reg<=4095)/\ ¬Result ((C1 f).getD i Enc.d)=0:=hc
   rw[addZ_eq]
   by_cases e:j=0+((C1 f).getD i Enc.d).reg.toNat
   ·rw[if_pos e,show tyC f j i=Result ((C1 f).getD i Enc.d) from if_pos (by omega),if_neg hc'.2]
   ·have e2:((C1 f).getD i Enc.d).reg≠j:=by omega
    rw[if_neg e,show tyC f j i=0 from if_neg e2,if_pos rfl]
  ·refine .mk (q+1) (by omega) (by omega) ?_
   refine eP [] [] ?_ ?_<;>repeat' first|exact eN|apply zi
   intro j hj
   show[AV.i .i64 (sufV (tyC f j) (Code f).length q)]=[AV.i .i64 (sufV (tyC f j) (Code f).length (q+1))]
   rw[e1,if_pos]
   unfold tyC
   split
   ·refine Decidable.byContradiction fun g=>?_
    have hj2:j<4096:=hj
    rcases hc with(hc|hc)|hc
    ·omega
    ·omega
    ·exact g hc
   ·rfl
 ·obtain rfl:q=(Code f).length:=by omega
  have e0: ∀r:Int,sufV (tyC f r) (Code f).length (Code f).length=tyM f (Code f).length r:=fun r=>sufV_first _ _
  conv=>whnf
  repeat' first|(refine iG ?_ ?_<;>intro hb hc<;>first|exact yE|conv=>whnf)|(refine gqs ?_;conv=>whnf)|(refine yt ?_;conv=>whnf)|exact yK|fail
  refine lp [8] (fun q:Nat=>[.i .i64 q]) (fun q=>[(9,.row none 1 4096 fun r=>[.i .i64 (tyR f q r)]),(1,bx f)]) (fun q=>q<=f.params.length) (fun q=>f.params.length-q) 0 (Nat.zero_le _) ?_ fun q hq=>?_
  ·refine eP [] [] ?_ ?_<;>repeat' first|exact eN|apply zi
   intro j hj
   show[AV.i .i64 (sufV (tyC f j) (Code f).length (Code f).length)]=[AV.i .i64 (tyR f 0 j)]
   rw[e0]
   unfold tyR
   rw[if_neg (Nat.not_lt_zero _)]
  conv=>whnf
  repeat' first|(refine iG ?_ ?_<;>intro hb hc<;>first|exact yE|conv=>whnf)|(refine gqs ?_;conv=>whnf)|(refine yt ?_;conv=>whnf)|exact yK|fail
  ·refine .mk (q+1) (by omega) (by omega) ?_
   refine eP [] [] ?_ ?_<;>repeat' first|exact eN|apply zi
   intro j hj
   show setF (fun r=>[AV.i .i64 (tyR f q r)]) (addZ 0 (q:Int).toNat) [AV.i .i64 (f.params.getD q Enc.d)] j=[AV.i .i64 (tyR f (q+1) j)]
   unfold setF tyR
   rw[addZ_eq,Int.toNat_natCast,Nat.zero_add]
   by_cases e:j=q
   ·rw[if_pos e,if_pos (by omega),e]
   ·rw[if_neg e]
    show[AV.i .i64 (if j<q then f.params.getD j Enc.d else tyM f (Code f).length j)]=_
    by_cases e2:j<q
    ·rw[if_pos e2,if_pos (by omega)]
    ·rw[if_neg e2,if_neg (by omega)]
  ·have hge:f.params.length<=q\/4096<=q:=by omega
   refine⟨_,.freeze (N:=4096) (by rw[lk_cons,if_pos rfl]) (by decide) (by rw[TypesL_len];rfl) (fun x hx=>?_) rfl⟩
   rw[TypesL_len] at hx
   show[AV.i .i64 (tyR f q x)]=[AV.i .i64 ((TypesL f).getD x Enc.d)]
   rw[<-types_eq f x hx]
   unfold tyR
   by_cases e2:x<q
   ·rw[if_pos e2]
    by_cases e3:x<f.params.length
    ·rw[if_pos e3]
    ·exfalso;omega
   ·rw[if_neg e2,if_neg (by omega)]
theorem VerifyTypes_S (f:FnE) (hm:siz f<=1048576) (hr:Rng.rng f):ASpec Tryz.prog 4 [eS f] (.b true) []:=by
 have h2:siz f<4294967296:=by omega
 have h:=Few_S ⟨[],[],[f]⟩ 3000 (by show(0+0+(0+1+(siz f+0)))<_;omega)
 have hi:=Ints_S (TypesL f) (TypesL f) (by rw[TypesL_len];decide)
 refine ASpec.enter TYok mixed Tryz.func4 rfl Tryz.call4 Tryz.ntmps4 rfl (rs:=[.tmp 2]) rfl (nodupB_ok rfl) (Clo.one rfl) (keep:=[0,1,2]) ?_;conv=>whnf
 repeat' first|(refine iG ?_ ?_<;>intro hb hc<;>first|exact yE|conv=>whnf)|(refine gqs ?_;conv=>whnf)|(refine gqc (x:=fun _=>lives8_S) (k:= ?_);conv=>whnf)|((first|refine cK (fun _=>h.weak (by repeat' first|exact trivial|exact rfl|apply zi|refine wkrow1 ?_|exact fun i _=>wkInt _|exact fun i _=>wkBlk _)) ?_|((try(refine CallW.lent ?_;(conv=>whnf);repeat(refine yb ?_;(conv=>whnf))));refine cL (fun _=>h.weak (by repeat' first|exact trivial|exact rfl|apply zi|refine wkrow1 ?_|exact fun i _=>wkInt _|exact fun i _=>wkBlk _)) ?_));conv=>whnf)|(refine gqc (x:=fun _=>types_S f h2 (fun b i=>inIA_of (rngA_iAt hr b i).2.1)) (k:= ?_);conv=>whnf)|(refine gqc (x:=fun _=>types8_S f h2) (k:= ?_);conv=>whnf)|(refine gqc (x:=fun _=>hi) (k:= ?_);conv=>whnf)|(refine yt ?_;conv=>whnf)|exact yK|fail
 ·simp at hb
 ·exact⟨_,.keep (congrArg AV.b (decide_eq_true rfl)) rfl⟩
theorem doorOwn:ownKnob Tryz.prog.godebug=none:=by kernel_rfl
theorem doorLaidOut:laidOutB Tryz.prog=true:=by kernel_rfl
def doorLaid:List (String×DataW Unit):=[("math/bits.deBruijn32tab",Rows.laid_math_bits_deBruijn32tab),("math/bits.deBruijn64tab",Rows.laid_math_bits_deBruijn64tab),("internal/strconv.uint64pow10",Rows.laid_internal_strconv_uint64pow10),("strconv.ErrRange",Rows.laid_strconv_ErrRange),("strconv.ErrSyntax",Rows.laid_strconv_ErrSyntax),("unicode.White_Space",Rows.laid_unicode_White_Space),("strings.asciiSpace",Rows.laid_strings_asciiSpace)]
theorem vars_of {w:World} (h:laidMetH Tryz.prog doorLaid w):Vr w:=by
 have hL:laidMet Tryz.prog doorLaid w:=h
 have e1:(Rows.laid_internal_strconv_uint64pow10:DataW Unit)=Lib.tabData .u64 Lib.pow10Tab:=by kernel_rfl
 have e2:(Rows.laid_strings_asciiSpace:DataW Unit)=Lib.tabData .u8 Lib.asciiSpaceTab:=by kernel_rfl
 unfold doorLaid at hL
 rw[e1,e2] at hL
 refine⟨?_,?_⟩
 ·exact Lib.tabIs_of_head (g:=5) (by kernel_rfl) (by kernel_rfl) Tryz.underlying223 Tryz.underlying54 (by kernel_rfl) (by kernel_rfl) hL.tail.tail
 ·exact Lib.tabIs_of_head (g:=1) (by kernel_rfl) (by kernel_rfl) Tryz.underlying201 Tryz.underlying5 (by kernel_rfl) (by kernel_rfl) hL.tail.tail.tail.tail.tail.tail
theorem vars_stay {w:World} (h:Vr w):Rob allS w Vr:=fun w' hs hq=>by
 have hb: ∀ {g:Nat} {n:String} {k:IntKind} {zs:List Int},Tryz.prog.globalNamed n=some g->Lib.TabIs Tryz.prog w n k zs->Lib.TabIs Tryz.prog w' n k zs:=fun {g n k zs} hg ht=>by
  unfold Lib.TabIs World.var? at ht⊢
  rw[hg,Option.bind_some] at ht⊢
  have hlt:g<w.heap.size:=by
   rcases Nat.lt_or_ge g w.heap.size with q|q
   ·exact q
   ·rw[Array.getElem?_eq_none q] at ht;cases ht
  rw[hq g hlt trivial];exact ht
 exact⟨hb (g:=5) (by kernel_rfl) h.1,hb (g:=1) (by kernel_rfl) h.2⟩
theorem laid_met (os:Go.Os) (args:Array Value):laidMet Tryz.prog doorLaid ((World.laidAll Tryz.prog os doorLaid).forCall (fun _ _=>0) ⟨#[],args,[]⟩).memory:=
 laidMet_laidAll args (by kernel_rfl) (by kernel_rfl)
end Go.Proofs.YtnfdieeaelhpbaaGreatDoor
