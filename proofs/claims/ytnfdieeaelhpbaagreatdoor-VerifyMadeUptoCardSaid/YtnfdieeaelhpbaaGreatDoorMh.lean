/- The engine and the contracts of the functions that the statement reaches, part 8. -/
import Derived.Test.YtnfdieeaelhpbaaGreatDoorMg
import Derived.Test.YtnfdieeaelhpbaaGreatDoorCards
import Derived.Test.YtnfdieeaelhpbaaGreatDoorTie
import Derived.ShutString
import Derived.SizedLaws
import Derived.LaidLaws
import Derived.Lay
import Derived.Lib.LaidTab
import Derived.Stop.LaidErr
import Derived.Deep.DeepWitnessRowRef
set_option linter.unusedVariables false
set_option linter.unusedSimpArgs false
set_option maxRecDepth 100000
set_option maxHeartbeats 8000000
namespace Go.Proofs.YtnfdieeaelhpbaaGreatDoor
open Go.RowKit
def mkM (g:Int->Int):List Int->Int
 |[r]=>g r
 |_=>0
theorem mkM_set {g g':Int->Int} {r v:Int} (h1:g' r=v) (h2: ∀r',r'≠r->g' r'=g r'): ∀zs,mset (mkM g) [r] v zs=mkM g' zs:=fun zs=>by
 unfold mset
 split
 ·rename_i e;subst e;exact h1.symm
 ·rename_i e
  match zs,e with
  |[],_=>rfl
  |[r'],e=>exact(h2 r' fun h=>e (by rw[h])).symm
  |_::_::_,_=>rfl
theorem mkM_cg {g g':Int->Int} (h: ∀r,g r=g' r): ∀zs,mkM g zs=mkM g' zs:=fun zs=>by rw[show g=g' from funext h]
theorem mkM_zero (zs:List Int):(0:Int)=mkM (parN 0) zs:=by
 match zs with
 |[]=>rfl
 |[r]=>show 0=parN 0 r;unfold parN;rw[if_neg (by omega)]
 |_::_::_=>rfl
theorem parN_up (q:Nat): ∀zs,mset (mkM (parN q)) [(q:Int)] (parN q (q:Int)+1) zs=mkM (parN (q+1)) zs:=mkM_set (by unfold parN;rw[if_pos (by omega),if_neg (by omega)];rfl) fun r hr=>by
 unfold parN
 by_cases h:0<=r/\r<(q:Int)
 ·rw[if_pos h,if_pos (by omega)]
 ·rw[if_neg h,if_neg (by omega)]
theorem mkN_put {f:FnE} {k:Nat} {x:InsE} (hx:(C1 f).getD k Enc.d=x) (h: ¬Result x=0): ∀zs,mset (mkM (mkN f k)) [x.reg] (mkN f k x.reg+1) zs=mkM (mkN f (k+1)) zs:=mkM_set (by rw[mkN,hx,if_pos ⟨h,rfl⟩]) fun r hr=>by rw[mkN,hx,if_neg (fun q=>hr q.2.symm),Int.add_zero]
theorem mkN_no {f:FnE} {k:Nat} {x:InsE} (hx:(C1 f).getD k Enc.d=x) (h:Result x=0): ∀zs,mkM (mkN f k) zs=mkM (mkN f (k+1)) zs:=mkM_cg fun r=>by rw[mkN,hx,if_neg (fun q=>q.1 h),Int.add_zero]
theorem VerifyMade_S (m:ModE) (hm:siz m<=1048576) (hr:Rng.rng m):ASpec Tryz.prog 6 [eS m] (.b true) []:=by
 have h2:siz m<4294967296:=by omega
 obtain⟨R,hR⟩: ∃R:FnE->List Bool,∀f,isRG f (-1) (R f):=⟨fun f=>Classical.choose (isRG_ex f (-1)),fun f=>Classical.choose_spec (isRG_ex f (-1))⟩
 obtain⟨T,hT⟩: ∃T:FnE->List (List Bool),∀f,isTab f (T f):=⟨fun f=>Classical.choose (isTab_ex f),fun f=>Classical.choose_spec (isTab_ex f)⟩
 have h1:=funcs_le m
 have kc:=check_S m R T hR hT h2 (.of hr)
 refine ASpec.enter TYok mixed Tryz.func6 rfl Tryz.call6 Tryz.ntmps6 rfl (rs:=[.tmp 2]) rfl (nodupB_ok rfl) (Clo.one rfl) (keep:=[0,1,2,3,6,7,8,10,11,12,14,16,18,20,33,34,35,42,43,52,53,54,59,60,61,85,86,87,113,114,115,120,121,122,137,138,139]) ?_;conv=>whnf
 repeat' first|(refine iG (fun hb hc=>?_) (fun hb hc=>?_)<;>first|exact hc.elim|(exfalso;omega)|conv=>whnf)|(refine gqs ?_;conv=>whnf)|(refine gqc (x:=fun _=>lives8_S) (k:= ?_);conv=>whnf)|(refine gqc (x:=fun _=>Long8_S m h2) (k:= ?_);conv=>whnf)|(refine gqc (x:=fun _=>kc) (k:= ?_);conv=>whnf)|(refine yt ?_;conv=>whnf)|exact⟨_,.keep rfl rfl⟩|fail
 ·simp at hb
 have hz:(CheckF m R T).code=0:=by assumption
 obtain⟨hz1,hz2⟩:=CheckF_zero hz
 refine lp [35] (fun q:Nat=>[.i .i64 q]) (fun q=>[(1,bx m)]) (fun q=>q<=m.funcs.length) (fun q=>m.funcs.length-q) 0 (Nat.zero_le _) ?_ fun q hq=>?_
 ·refine eP [] [] ?_ ?_<;>repeat' first|exact eN|refine And.intro ?_ ?_
 conv=>whnf
 rcases Nat.lt_or_ge q m.funcs.length with hlt|hge
 ·have hok:ChkOk m R T (m.funcs.getD q Enc.d) q:=ChkOk.of (hz2 q hlt)
  have hbk:=(blocks_ok hok.blk).2
  have h3:=fn_le m q
  have h4:=blocks_le (m.funcs.getD q Enc.d)
  have h6:=params_le (m.funcs.getD q Enc.d)
  have h7:=Code_siz (m.funcs.getD q Enc.d)
  have hrg: ∀b i,inI (iAt (m.funcs.getD q Enc.d) b i).reg:=(RngV.of hr).reg q
  have har: ∀b i k,inI ((iAt (m.funcs.getD q Enc.d) b i).args.getD k Enc.d).n:=(RngV.of hr).arg q
  repeat' first|(refine iG (fun hb hc=>?_) (fun hb hc=>?_)<;>first|exact hc.elim|(exfalso;omega)|conv=>whnf)|(refine gqs ?_;conv=>whnf)|(refine yt ?_;conv=>whnf)|exact⟨_,.keep rfl rfl⟩|fail
  refine lp [43] (fun k:Nat=>[.i .i64 k]) (fun k=>[(39,(.mp (mapX Tryz.prog 3 3 false (k) (mkM (parN k))) (0) (k) (mkM (parN k)))),(6,bx (m.funcs.getD q Enc.d)),(1,bx m)]) (fun k=>k<=(m.funcs.getD q Enc.d).params.length) (fun k=>(m.funcs.getD q Enc.d).params.length-k) 0 (Nat.zero_le _) ?_ fun k hk=>?_
  ·refine eP [] [] ?_ ?_<;>repeat' first|exact eN|refine And.intro ?_ ?_
   exact mapX_le (Nat.le_refl _) fun zs=>mkM_zero zs
  conv=>whnf
  have hp9:mkM (parN k) [(k:Int)]=0:=by show parN k k=0;unfold parN;rw[if_neg (by omega)]
  repeat' first|(refine iG (fun hb hc=>?_) (fun hb hc=>?_)<;>first|exact hc.elim|(exfalso;omega)|conv=>whnf)|(refine gqs ?_;conv=>whnf)|(refine yt ?_;conv=>whnf)|exact⟨_,.keep rfl rfl⟩|fail
  ·refine .mk (k+1) (by omega) (by omega) ?_
   refine eP [] [] ?_ ?_<;>repeat' first|exact eN|refine And.intro ?_ ?_
   exact mapX_le (Nat.le_refl _) fun zs=>parN_up k zs
  obtain rfl:k=(m.funcs.getD q Enc.d).params.length:=by omega
  let p:=(m.funcs.getD q Enc.d).params.length
  refine lp [54] (fun b:Nat=>[.i .i64 b]) (fun b=>[(39,(.mp (mapX Tryz.prog 3 3 false ((m.funcs.getD q Enc.d).params.length+(codeTo (m.funcs.getD q Enc.d) b 0).length) (mkM (mkN (m.funcs.getD q Enc.d) (codeTo (m.funcs.getD q Enc.d) b 0).length))) (0) ((m.funcs.getD q Enc.d).params.length+(codeTo (m.funcs.getD q Enc.d) b 0).length) (mkM (mkN (m.funcs.getD q Enc.d) (codeTo (m.funcs.getD q Enc.d) b 0).length)))),(6,bx (m.funcs.getD q Enc.d)),(1,bx m)]) (fun b=>b<=(m.funcs.getD q Enc.d).blocks.length) (fun b=>(m.funcs.getD q Enc.d).blocks.length-b) 0 (Nat.zero_le _) ?_ fun b hb=>?_
  ·refine eP [] [] ?_ ?_<;>repeat' first|exact eN|refine And.intro ?_ ?_
   exact mapX_le (Nat.le_add_right _ _) fun zs=>rfl
  conv=>whnf
  rcases Nat.lt_or_ge b (m.funcs.getD q Enc.d).blocks.length with hlb|hgb
  ·have hB:BlkOk (m.funcs.getD q Enc.d) b:= .of (hbk b hlb)
   have h5:=code_le (m.funcs.getD q Enc.d) b
   have e5:iLen (m.funcs.getD q Enc.d) b=((m.funcs.getD q Enc.d).blocks.getD b Enc.d).code.length:=rfl
   have hpos:=hB.pos
   repeat' first|(refine iG (fun hb hc=>?_) (fun hb hc=>?_)<;>first|exact hc.elim|(exfalso;omega)|conv=>whnf)|(refine gqs ?_;conv=>whnf)|(refine yt ?_;conv=>whnf)|exact⟨_,.keep rfl rfl⟩|fail
   refine lp [61] (fun i:Nat=>[.i .i64 i]) (fun i=>[(39,(.mp (mapX Tryz.prog 3 3 false ((m.funcs.getD q Enc.d).params.length+(codeTo (m.funcs.getD q Enc.d) b i).length) (mkM (mkN (m.funcs.getD q Enc.d) (codeTo (m.funcs.getD q Enc.d) b i).length))) (0) ((m.funcs.getD q Enc.d).params.length+(codeTo (m.funcs.getD q Enc.d) b i).length) (mkM (mkN (m.funcs.getD q Enc.d) (codeTo (m.funcs.getD q Enc.d) b i).length)))),(10,bx ((m.funcs.getD q Enc.d).blocks.getD b Enc.d)),(6,bx (m.funcs.getD q Enc.d)),(1,bx m)]) (fun i=>i<=iLen (m.funcs.getD q Enc.d) b) (fun i=>iLen (m.funcs.getD q Enc.d) b-i) 0 (Nat.zero_le _) ?_ fun i hi=>?_
   ·refine eP [] [] ?_ ?_<;>repeat' first|exact eN|refine And.intro ?_ ?_
    exact fun _ h=>h
   conv=>whnf
   rcases Nat.lt_or_ge i (iLen (m.funcs.getD q Enc.d) b) with hli|hgi
   ·have hkl:(codeTo (m.funcs.getD q Enc.d) b i).length<(Code (m.funcs.getD q Enc.d)).length:=kd_lt hlb hli
    have hkn:(codeTo (m.funcs.getD q Enc.d) b (i+1)).length=(codeTo (m.funcs.getD q Enc.d) b i).length+1:=by rw[kdl (m.funcs.getD q Enc.d) b (i+1),kdl (m.funcs.getD q Enc.d) b i];omega
    have hk1:(C1 (m.funcs.getD q Enc.d)).getD (codeTo (m.funcs.getD q Enc.d) b i).length Enc.d=(((m.funcs.getD q Enc.d).blocks.getD b Enc.d).code.getD i Enc.d):=kd_1 hlb hli
    have hmk:=mkN_le (m.funcs.getD q Enc.d) (((m.funcs.getD q Enc.d).blocks.getD b Enc.d).code.getD i Enc.d).reg (codeTo (m.funcs.getD q Enc.d) b i).length
    have hmm:mkM (mkN (m.funcs.getD q Enc.d) (codeTo (m.funcs.getD q Enc.d) b i).length) [(((m.funcs.getD q Enc.d).blocks.getD b Enc.d).code.getD i Enc.d).reg]=mkN (m.funcs.getD q Enc.d) (codeTo (m.funcs.getD q Enc.d) b i).length (((m.funcs.getD q Enc.d).blocks.getD b Enc.d).code.getD i Enc.d).reg:=rfl
    have hE:=ends_iff hB hli
    have h8:=ins_le (m.funcs.getD q Enc.d) b i
    have h9:=to_le (((m.funcs.getD q Enc.d).blocks.getD b Enc.d).code.getD i Enc.d)
    have hri:inI (((m.funcs.getD q Enc.d).blocks.getD b Enc.d).code.getD i Enc.d).reg:=hrg b i
    repeat' first|(refine iG (fun hb hc=>?_) (fun hb hc=>?_)<;>first|exact hc.elim|(exfalso;omega)|conv=>whnf)|(refine gqs ?_;conv=>whnf)|(refine gqc (x:=fun _=>irResult_S _) (k:= ?_);conv=>whnf)|(refine yt ?_;conv=>whnf)|exact⟨_,.keep rfl rfl⟩|fail
    refine And.intro ⟨hri,trivial⟩ ?_
    conv=>whnf
    repeat' first|(refine iG (fun hb hc=>?_) (fun hb hc=>?_)<;>first|exact hc.elim|(exfalso;omega)|conv=>whnf)|(refine gqs ?_;conv=>whnf)|(refine yt ?_;conv=>whnf)|exact⟨_,.keep rfl rfl⟩|fail
    refine And.intro ⟨by omega,⟨hri,trivial⟩,by show-9223372036854775808<=mkN (m.funcs.getD q Enc.d) (codeTo (m.funcs.getD q Enc.d) b i).length (((m.funcs.getD q Enc.d).blocks.getD b Enc.d).code.getD i Enc.d).reg+1;omega,by show mkN (m.funcs.getD q Enc.d) (codeTo (m.funcs.getD q Enc.d) b i).length (((m.funcs.getD q Enc.d).blocks.getD b Enc.d).code.getD i Enc.d).reg+1<=9223372036854775807;omega⟩ ?_
    conv=>whnf
    repeat' first|(refine iG (fun hb hc=>?_) (fun hb hc=>?_)<;>first|exact hc.elim|(exfalso;omega)|conv=>whnf)|(refine gqs ?_;conv=>whnf)|(refine yt ?_;conv=>whnf)|exact⟨_,.keep rfl rfl⟩|fail
    all_goals
     repeat' first|(refine iG (fun hb hc=>?_) (fun hb hc=>?_)<;>first|exact hc.elim|(exfalso;omega)|conv=>whnf)|(refine gqs ?_;conv=>whnf)|(refine gqc (x:=fun _=>irEnds_S _) (k:= ?_);conv=>whnf)|(refine yt ?_;conv=>whnf)|exact⟨_,.keep rfl rfl⟩|fail
     ·exfalso
      apply hc
      show Ends (iAt (m.funcs.getD q Enc.d) b i).op=_
      by_cases e:i=iLen (m.funcs.getD q Enc.d) b-1
      ·rw[hE.2 e,decide_eq_true (by omega)]
      ·rw[Bool.eq_false_iff.2 fun g=>e (hE.1 g),decide_eq_false (by omega)]
     ·refine lp [87] (fun k:Nat=>[.i .i64 k]) (fun k=>[(39,(.mp (mapX Tryz.prog 3 3 false ((m.funcs.getD q Enc.d).params.length+(codeTo (m.funcs.getD q Enc.d) b (i+1)).length) (mkM (mkN (m.funcs.getD q Enc.d) (codeTo (m.funcs.getD q Enc.d) b (i+1)).length))) (0) ((m.funcs.getD q Enc.d).params.length+(codeTo (m.funcs.getD q Enc.d) b (i+1)).length) (mkM (mkN (m.funcs.getD q Enc.d) (codeTo (m.funcs.getD q Enc.d) b (i+1)).length)))),(12,bx (((m.funcs.getD q Enc.d).blocks.getD b Enc.d).code.getD i Enc.d)),(10,bx ((m.funcs.getD q Enc.d).blocks.getD b Enc.d)),(6,bx (m.funcs.getD q Enc.d)),(1,bx m)]) (fun k=>k<=(((m.funcs.getD q Enc.d).blocks.getD b Enc.d).code.getD i Enc.d).to.length) (fun k=>(((m.funcs.getD q Enc.d).blocks.getD b Enc.d).code.getD i Enc.d).to.length-k) 0 (Nat.zero_le _) ?_ fun k hk=>?_
      ·refine eP [] [] ?_ ?_<;>repeat' first|exact eN|refine And.intro ?_ ?_
       first
        |exact mapX_le (by omega) fun zs=>by rw[hkn];exact mkN_put hk1 (by assumption) zs
        |exact mapX_le (by omega) fun zs=>by rw[hkn];exact mkN_no hk1 (by assumption) zs
      conv=>whnf
      repeat' first|(refine iG (fun hb hc=>?_) (fun hb hc=>?_)<;>first|exact hc.elim|(exfalso;omega)|conv=>whnf)|(refine gqs ?_;conv=>whnf)|(refine yt ?_;conv=>whnf)|exact⟨_,.keep rfl rfl⟩|fail
      ·exfalso
       have:=to_ok hok hlb hli (k:=k) (by show k<(((m.funcs.getD q Enc.d).blocks.getD b Enc.d).code.getD i Enc.d).to.length;omega) hc.1
       unfold iAt at this
       rcases hc.2 with h|h<;>omega
      ·refine .mk (k+1) (by omega) (by omega) ?_
       refine eP [] [] ?_ ?_<;>repeat' first|exact eN|refine And.intro ?_ ?_
       exact fun _ h=>h
      ·refine .mk (i+1) (by omega) (by omega) ?_
       refine eP [] [] ?_ ?_<;>repeat' first|exact eN|refine And.intro ?_ ?_
       exact fun _ h=>h
   ·obtain rfl:i=iLen (m.funcs.getD q Enc.d) b:=by omega
    repeat' first|(refine iG (fun hb hc=>?_) (fun hb hc=>?_)<;>first|exact hc.elim|(exfalso;omega)|conv=>whnf)|(refine gqs ?_;conv=>whnf)|(refine yt ?_;conv=>whnf)|exact⟨_,.keep rfl rfl⟩|fail
    refine .mk (b+1) (by omega) (by omega) ?_
    refine eP [] [] ?_ ?_<;>repeat' first|exact eN|refine And.intro ?_ ?_
    exact mapX_le (Nat.le_of_eq (by rw[kd_nx])) fun zs=>by rw[kd_nx]
  ·obtain rfl:b=(m.funcs.getD q Enc.d).blocks.length:=by omega
   repeat' first|(refine iG (fun hb hc=>?_) (fun hb hc=>?_)<;>first|exact hc.elim|(exfalso;omega)|conv=>whnf)|(refine gqs ?_;conv=>whnf)|(refine yt ?_;conv=>whnf)|exact⟨_,.keep rfl rfl⟩|fail
   refine lp [115] (fun b:Nat=>[.i .i64 b]) (fun b=>[(39,(.mp (mapX Tryz.prog 3 3 false ((m.funcs.getD q Enc.d).params.length+(Code (m.funcs.getD q Enc.d)).length) (mkM (mkN (m.funcs.getD q Enc.d) (Code (m.funcs.getD q Enc.d)).length))) (0) ((m.funcs.getD q Enc.d).params.length+(Code (m.funcs.getD q Enc.d)).length) (mkM (mkN (m.funcs.getD q Enc.d) (Code (m.funcs.getD q Enc.d)).length)))),(6,bx (m.funcs.getD q Enc.d)),(1,bx m)]) (fun b=>b<=(m.funcs.getD q Enc.d).blocks.length) (fun b=>(m.funcs.getD q Enc.d).blocks.length-b) 0 (Nat.zero_le _) ?_ fun b hb=>?_
   ·refine eP [] [] ?_ ?_<;>repeat' first|exact eN|refine And.intro ?_ ?_
    exact fun _ h=>h
   conv=>whnf
   rcases Nat.lt_or_ge b (m.funcs.getD q Enc.d).blocks.length with hlb|hgb
   ·have h5:=code_le (m.funcs.getD q Enc.d) b
    have e5:iLen (m.funcs.getD q Enc.d) b=((m.funcs.getD q Enc.d).blocks.getD b Enc.d).code.length:=rfl
    repeat' first|(refine iG (fun hb hc=>?_) (fun hb hc=>?_)<;>first|exact hc.elim|(exfalso;omega)|conv=>whnf)|(refine gqs ?_;conv=>whnf)|(refine yt ?_;conv=>whnf)|exact⟨_,.keep rfl rfl⟩|fail
    refine lp [122] (fun i:Nat=>[.i .i64 i]) (fun i=>[(16,bx ((m.funcs.getD q Enc.d).blocks.getD b Enc.d)),(39,(.mp (mapX Tryz.prog 3 3 false ((m.funcs.getD q Enc.d).params.length+(Code (m.funcs.getD q Enc.d)).length) (mkM (mkN (m.funcs.getD q Enc.d) (Code (m.funcs.getD q Enc.d)).length))) (0) ((m.funcs.getD q Enc.d).params.length+(Code (m.funcs.getD q Enc.d)).length) (mkM (mkN (m.funcs.getD q Enc.d) (Code (m.funcs.getD q Enc.d)).length)))),(6,bx (m.funcs.getD q Enc.d)),(1,bx m)]) (fun i=>i<=iLen (m.funcs.getD q Enc.d) b) (fun i=>iLen (m.funcs.getD q Enc.d) b-i) 0 (Nat.zero_le _) ?_ fun i hi=>?_
    ·refine eP [] [] ?_ ?_<;>repeat' first|exact eN|refine And.intro ?_ ?_
     exact fun _ h=>h
    conv=>whnf
    rcases Nat.lt_or_ge i (iLen (m.funcs.getD q Enc.d) b) with hli|hgi
    ·have hri:inI (((m.funcs.getD q Enc.d).blocks.getD b Enc.d).code.getD i Enc.d).reg:=hrg b i
     have h8:=ins_le (m.funcs.getD q Enc.d) b i
     have h9:=args_le (((m.funcs.getD q Enc.d).blocks.getD b Enc.d).code.getD i Enc.d)
     repeat' first|(refine iG (fun hb hc=>?_) (fun hb hc=>?_)<;>first|exact hc.elim|(exfalso;omega)|conv=>whnf)|(refine gqs ?_;conv=>whnf)|(refine gqc (x:=fun _=>irResult_S _) (k:= ?_);conv=>whnf)|(refine yt ?_;conv=>whnf)|exact⟨_,.keep rfl rfl⟩|fail
     refine And.intro (fun _=>⟨hri,trivial⟩) ?_
     conv=>whnf
     repeat' first|(refine iG (fun hb hc=>?_) (fun hb hc=>?_)<;>first|exact hc.elim|(exfalso;omega)|conv=>whnf)|(refine gqs ?_;conv=>whnf)|(refine yt ?_;conv=>whnf)|exact⟨_,.keep rfl rfl⟩|fail
     ·exact absurd (made_reg hok hlb hli hc.1) hc.2
     ·refine lp [139] (fun k:Nat=>[.i .i64 k]) (fun k=>[(18,bx (((m.funcs.getD q Enc.d).blocks.getD b Enc.d).code.getD i Enc.d)),(16,bx ((m.funcs.getD q Enc.d).blocks.getD b Enc.d)),(39,(.mp (mapX Tryz.prog 3 3 false ((m.funcs.getD q Enc.d).params.length+(Code (m.funcs.getD q Enc.d)).length) (mkM (mkN (m.funcs.getD q Enc.d) (Code (m.funcs.getD q Enc.d)).length))) (0) ((m.funcs.getD q Enc.d).params.length+(Code (m.funcs.getD q Enc.d)).length) (mkM (mkN (m.funcs.getD q Enc.d) (Code (m.funcs.getD q Enc.d)).length)))),(6,bx (m.funcs.getD q Enc.d)),(1,bx m)]) (fun k=>k<=(((m.funcs.getD q Enc.d).blocks.getD b Enc.d).code.getD i Enc.d).args.length) (fun k=>(((m.funcs.getD q Enc.d).blocks.getD b Enc.d).code.getD i Enc.d).args.length-k) 0 (Nat.zero_le _) ?_ fun k hk=>?_
      ·refine eP [] [] ?_ ?_<;>repeat' first|exact eN|refine And.intro ?_ ?_
       exact fun _ h=>h
      conv=>whnf
      have hai:=har b i k
      repeat' first|(refine iG (fun hb hc=>?_) (fun hb hc=>?_)<;>first|exact hc.elim|(exfalso;omega)|conv=>whnf)|(refine gqs ?_;conv=>whnf)|(refine yt ?_;conv=>whnf)|exact⟨_,.keep rfl rfl⟩|fail
      ·refine And.intro (fun _=>⟨hai,trivial⟩) ?_
       conv=>whnf
       repeat' first|(refine iG (fun hb hc=>?_) (fun hb hc=>?_)<;>first|exact hc.elim|(exfalso;omega)|conv=>whnf)|(refine gqs ?_;conv=>whnf)|(refine yt ?_;conv=>whnf)|exact⟨_,.keep rfl rfl⟩|fail
       ·exact absurd (made_opr hok hlb hli (k:=k) (by show k<(((m.funcs.getD q Enc.d).blocks.getD b Enc.d).code.getD i Enc.d).args.length;omega) hc.1) hc.2
       ·refine .mk (k+1) (by omega) (by omega) ?_
        refine eP [] [] ?_ ?_<;>repeat' first|exact eN|refine And.intro ?_ ?_
        exact fun _ h=>h
      ·refine .mk (i+1) (by omega) (by omega) ?_
       refine eP [] [] ?_ ?_<;>repeat' first|exact eN|refine And.intro ?_ ?_
       exact fun _ h=>h
    ·obtain rfl:i=iLen (m.funcs.getD q Enc.d) b:=by omega
     repeat' first|(refine iG (fun hb hc=>?_) (fun hb hc=>?_)<;>first|exact hc.elim|(exfalso;omega)|conv=>whnf)|(refine gqs ?_;conv=>whnf)|(refine yt ?_;conv=>whnf)|exact⟨_,.keep rfl rfl⟩|fail
     refine .mk (b+1) (by omega) (by omega) ?_
     refine eP [] [] ?_ ?_<;>repeat' first|exact eN|refine And.intro ?_ ?_
     exact fun _ h=>h
   ·obtain rfl:b=(m.funcs.getD q Enc.d).blocks.length:=by omega
    repeat' first|(refine iG (fun hb hc=>?_) (fun hb hc=>?_)<;>first|exact hc.elim|(exfalso;omega)|conv=>whnf)|(refine gqs ?_;conv=>whnf)|(refine yt ?_;conv=>whnf)|exact⟨_,.keep rfl rfl⟩|fail
    refine .mk (q+1) (by omega) (by omega) ?_
    refine eP [] [] ?_ ?_<;>repeat' first|exact eN|refine And.intro ?_ ?_
 ·repeat' first|(refine iG (fun hb hc=>?_) (fun hb hc=>?_)<;>first|exact hc.elim|(exfalso;omega)|conv=>whnf)|(refine gqs ?_;conv=>whnf)|(refine yt ?_;conv=>whnf)|exact⟨_,.keep rfl rfl⟩|fail
theorem doorOwn:ownKnob Tryz.prog.godebug=none:=by kernel_rfl
theorem doorLaidOut:laidOutB Tryz.prog=true:=by kernel_rfl
def doorLaid:List (String×DataW Unit):=[("math/bits.deBruijn32tab",Rows.laid_math_bits_deBruijn32tab),("math/bits.deBruijn64tab",Rows.laid_math_bits_deBruijn64tab),("internal/strconv.uint64pow10",Rows.laid_internal_strconv_uint64pow10),("strconv.ErrRange",Rows.laid_strconv_ErrRange),("strconv.ErrSyntax",Rows.laid_strconv_ErrSyntax),("unicode.White_Space",Rows.laid_unicode_White_Space),("strings.asciiSpace",Rows.laid_strings_asciiSpace)]
theorem vars_of {w:World} (h:laidMetH Tryz.prog doorLaid w):Vr w:=by
 have hL:laidMet Tryz.prog doorLaid w:=h
 have e1:(Rows.laid_internal_strconv_uint64pow10:DataW Unit)=Lib.tabData .u64 Lib.pow10Tab:=by kernel_rfl
 have e2:(Rows.laid_strings_asciiSpace:DataW Unit)=Lib.tabData .u8 Lib.asciiSpaceTab:=by kernel_rfl
 unfold doorLaid at hL
 rw[e1,e2] at hL
 refine⟨?_,?_⟩
 ·exact Lib.tabIs_of_head (g:=5) (by kernel_rfl) (by kernel_rfl) Tryz.underlying223 Tryz.underlying54 (by kernel_rfl) (by kernel_rfl) hL.tail.tail
 ·exact Lib.tabIs_of_head (g:=1) (by kernel_rfl) (by kernel_rfl) Tryz.underlying201 Tryz.underlying5 (by kernel_rfl) (by kernel_rfl) hL.tail.tail.tail.tail.tail.tail
theorem vars_stay {w:World} (h:Vr w):Rob allS w Vr:=fun w' hs hq=>by
 have hb: ∀ {g:Nat} {n:String} {k:IntKind} {zs:List Int},Tryz.prog.globalNamed n=some g->Lib.TabIs Tryz.prog w n k zs->Lib.TabIs Tryz.prog w' n k zs:=fun {g n k zs} hg ht=>by
  unfold Lib.TabIs World.var? at ht⊢
  rw[hg,Option.bind_some] at ht⊢
  have hlt:g<w.heap.size:=by
   rcases Nat.lt_or_ge g w.heap.size with q|q
   ·exact q
   ·rw[Array.getElem?_eq_none q] at ht;cases ht
  rw[hq g hlt trivial];exact ht
 exact⟨hb (g:=5) (by kernel_rfl) h.1,hb (g:=1) (by kernel_rfl) h.2⟩
theorem laid_met (os:Go.Os) (args:Array Value):laidMet Tryz.prog doorLaid ((World.laidAll Tryz.prog os doorLaid).forCall (fun _ _=>0) ⟨#[],args,[]⟩).memory:=
 laidMet_laidAll args (by kernel_rfl) (by kernel_rfl)
end Go.Proofs.YtnfdieeaelhpbaaGreatDoor
