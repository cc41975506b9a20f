/- The engine and the contracts of the functions that the statement reaches, part 4. -/
import Derived.Test.YtnfdieeaelhpbaaGreatDoorMc
import Derived.Test.YtnfdieeaelhpbaaGreatDoorProg
import Derived.ScopeJumps
set_option linter.unusedVariables false
set_option linter.unusedSimpArgs false
set_option maxRecDepth 100000
set_option maxHeartbeats 8000000
namespace Go.Proofs.YtnfdieeaelhpbaaGreatDoor
open Go.RowKit
theorem tk {P:Program} {t:Nat} {i:TI} (agg: ∀w,(isAgg t).run P w= .ok i.agg w) (sz: ∀w,(sizeOf t).run P w= .ok i.sz w) (zero:i.zero≠[]->(∃z:Value,(∀w,(zeroValue t).run P w= .ok z w)/\z.cells.toList=i.zero)/\i.zero.length=i.sz/\i.zero.all (·.oneCell')=true)
  (offs: ∀f j n,i.offs[f]?=some (j,n)-> ∀a w,(Instr.fieldAt t (.pointer (some a)) f).run P w= .ok (.pointer (some (a.add j))) w:=by intro f j n h;cases f<;>cases h)
  (el: ∀e n b,i.el=some (e,n,b)->P.underlying t=some (.slice e)/\(∀w,(sizeOf e).run P w= .ok n w)/\ ∃inf z,P.info? e=some inf/\inf.size=n/\inf.bytes=b/\inf.zero=some z/\z.cells.size=n/\z.cells.toList.all (·.oneCell')=true:=by intro e n b h;cases h)
  (ik: ∀k,i.ik=some k->P.underlying t=some (.int k):=by intro k h;cases h)
  (str:i.str=true->P.underlying t=some .string:=by intro h;cases h)
  (bld:i.bld=true-> ∀(ps:List (Nat×Value)) (cs:List Value),fills (fun j=>i.offs[j]?) i.zero ps=some cs-> ∀w,(Instr.build t ps.toArray).run P w= .ok (.agg cs.toArray) w:=by intro h;cases h)
  (mp: ∀k e ks m,i.mp=some (k,e,ks,m)->MapOk P t k e ks m:=by intro k e ks m h;cases h)
  (ms: ∀k e qs,i.ms=some (k,e,qs)->MapSOk P t k e qs:=by intro k e qs h;cases h)
  (bo:i.bo=true->P.underlying t=some .bool:=by intro h;cases h)
  (ifc:i.ifc=true-> ∃ms,P.underlying t=some (.interface ms):=by intro h;cases h)
  (fv: ∀f j,lk i.fv f=some j-> ∀(cs:List Value) (x:Value) (w:World),cs[j]?=some x->(Instr.field t (.agg cs.toArray) f).run P w= .ok x w:=by intro f j h;cases h)
  (cmp:i.cmp=true-> ∀us vs:List Value,shp i.zero us=true->shp i.zero vs=true-> ∀x y w,(do eqGuard .eql t x y (.agg us.toArray) (.agg vs.toArray);binOp .eql t (.agg us.toArray) (.agg vs.toArray)).run P w= .ok (.bool (scEqs us vs)) w/\(do eqGuard .neq t x y (.agg us.toArray) (.agg vs.toArray);binOp .neq t (.agg us.toArray) (.agg vs.toArray)).run P w= .ok (.bool (!scEqs us vs)) w:=by intro h;cases h):TIok P t i:=⟨agg,sz,offs,el,zero,ik,str,bld,mp,ms,bo,ifc,fv,cmp⟩
theorem laidOut:laidOutB Tryz.prog=true:=by kernel_rfl
theorem el_ok {P:Program} {e n b:Nat} (h:(P.info? e).map (fun i=>(i.size,i.bytes,i.zero.map fun z=>(z.cells.size,z.cells.toList.all (·.oneCell'))))=some (n,b,some (n,true))): ∃inf z,P.info? e=some inf/\inf.size=n/\inf.bytes=b/\inf.zero=some z/\z.cells.size=n/\z.cells.toList.all (·.oneCell')=true:=by
 obtain⟨i,h1,h2⟩:=Option.map_eq_some_iff.1 h
 simp only[Prod.mk.injEq] at h2
 obtain⟨h3,h4,h5⟩:=h2
 obtain⟨z,h6,h7⟩:=Option.map_eq_some_iff.1 h5
 simp only[Prod.mk.injEq] at h7
 exact⟨i,z,h1,h3,h4,h6,h7.1,h7.2⟩
theorem shp_int {k:IntKind} {z:Int} {zs us:List Value} (h:shp (.int k z::zs) us=true): ∃a us',us= .int k a::us'/\shp zs us'=true:=by
 cases us with
 |nil=>cases h
 |cons u us=>cases u<;>simp[shp] at h;obtain⟨rfl,h⟩:=h;exact⟨_,_,rfl,h⟩
theorem shp_bool {z:Bool} {zs us:List Value} (h:shp (.bool z::zs) us=true): ∃a us',us= .bool a::us'/\shp zs us'=true:=by
 cases us with
 |nil=>cases h
 |cons u us=>cases u<;>simp[shp] at h;exact⟨_,_,rfl,h⟩
theorem shp_string {z:ByteArray} {zs us:List Value} (h:shp (.string z::zs) us=true): ∃a us',us= .string a::us'/\shp zs us'=true:=by
 cases us with
 |nil=>cases h
 |cons u us=>cases u<;>simp[shp] at h;exact⟨_,_,rfl,h⟩
theorem shp_nil {us:List Value} (h:shp [] us=true):us=[]:=by cases us<;>first|rfl|cases h
def ti_2:TI:=⟨1,false,[],none,[.int .i64 0],some .i64,false,false,false,false,none,none,false,[]⟩
theorem tiok_2:TIok Tryz.prog 2 ti_2:=tk (agg:=Tryz.isAgg2) (sz:=Tryz.sizeOf2) (zero:=fun _=>⟨⟨_,Tryz.zeroValue2,rfl⟩,rfl,rfl⟩) (ik:=fun k h=>by cases h;exact Tryz.underlying2)
def ti_3:TI:=⟨1,false,[],none,[.int .i64 0],some .i64,false,false,false,false,none,none,false,[]⟩
theorem tiok_3:TIok Tryz.prog 3 ti_3:=tk (agg:=Tryz.isAgg3) (sz:=Tryz.sizeOf3) (zero:=fun _=>⟨⟨_,Tryz.zeroValue3,rfl⟩,rfl,rfl⟩) (ik:=fun k h=>by cases h;exact Tryz.underlying3)
def ti_4:TI:=⟨1,false,[],none,[.bool false],none,false,true,false,false,none,none,false,[]⟩
theorem tiok_4:TIok Tryz.prog 4 ti_4:=tk (agg:=Tryz.isAgg4) (sz:=Tryz.sizeOf4) (zero:=fun _=>⟨⟨_,Tryz.zeroValue4,rfl⟩,rfl,rfl⟩) (bo:=fun _=>Tryz.underlying4)
def ti_5:TI:=⟨1,false,[],none,[.int .u8 0],some .u8,false,false,false,false,none,none,false,[]⟩
theorem tiok_5:TIok Tryz.prog 5 ti_5:=tk (agg:=Tryz.isAgg5) (sz:=Tryz.sizeOf5) (zero:=fun _=>⟨⟨_,Tryz.zeroValue5,rfl⟩,rfl,rfl⟩) (ik:=fun k h=>by cases h;exact Tryz.underlying5)
def ti_9:TI:=⟨1,false,[],none,[.string ⟨#[]⟩],none,true,false,false,false,none,none,false,[]⟩
theorem tiok_9:TIok Tryz.prog 9 ti_9:=tk (agg:=Tryz.isAgg9) (sz:=Tryz.sizeOf9) (zero:=fun _=>⟨⟨_,Tryz.zeroValue9,rfl⟩,rfl,rfl⟩) (str:=fun _=>Tryz.underlying9)
def ti_20:TI:=⟨1,false,[],none,[],none,false,false,false,false,none,none,true,[]⟩
theorem tiok_20:TIok Tryz.prog 20 ti_20:=tk (agg:=Tryz.isAgg20) (sz:=Tryz.sizeOf20) (zero:=fun h=>absurd rfl h) (ifc:=fun _=>⟨_,Tryz.underlying20⟩)
def ti_21:TI:=⟨1,false,[],none,[.int .i32 0],some .i32,false,false,false,false,none,none,false,[]⟩
theorem tiok_21:TIok Tryz.prog 21 ti_21:=tk (agg:=Tryz.isAgg21) (sz:=Tryz.sizeOf21) (zero:=fun _=>⟨⟨_,Tryz.zeroValue21,rfl⟩,rfl,rfl⟩) (ik:=fun k h=>by cases h;exact Tryz.underlying21)
def ti_22:TI:=⟨1,false,[],some (82,2,24),[.slice none 0 0],none,false,false,false,false,none,none,false,[]⟩
theorem tiok_22:TIok Tryz.prog 22 ti_22:=tk (agg:=Tryz.isAgg22) (sz:=Tryz.sizeOf22) (zero:=fun _=>⟨⟨_,Tryz.zeroValue22,rfl⟩,rfl,rfl⟩) (el:=fun e n b h=>by cases h;exact⟨Tryz.underlying22,Tryz.sizeOf82,el_ok (by kernel_rfl)⟩)
def ti_23:TI:=⟨1,false,[],some (69,3,48),[.slice none 0 0],none,false,false,false,false,none,none,false,[]⟩
theorem tiok_23:TIok Tryz.prog 23 ti_23:=tk (agg:=Tryz.isAgg23) (sz:=Tryz.sizeOf23) (zero:=fun _=>⟨⟨_,Tryz.zeroValue23,rfl⟩,rfl,rfl⟩) (el:=fun e n b h=>by cases h;exact⟨Tryz.underlying23,Tryz.sizeOf69,el_ok (by kernel_rfl)⟩)
def ti_24:TI:=⟨1,false,[],some (42,4,72),[.slice none 0 0],none,false,false,false,false,none,none,false,[]⟩
theorem tiok_24:TIok Tryz.prog 24 ti_24:=tk (agg:=Tryz.isAgg24) (sz:=Tryz.sizeOf24) (zero:=fun _=>⟨⟨_,Tryz.zeroValue24,rfl⟩,rfl,rfl⟩) (el:=fun e n b h=>by cases h;exact⟨Tryz.underlying24,Tryz.sizeOf42,el_ok (by kernel_rfl)⟩)
def ti_26:TI:=⟨3,true,[(0,1),(1,1),(2,1)],none,[.slice none 0 0,.slice none 0 0,.slice none 0 0],none,false,false,false,true,none,none,false,[]⟩
theorem tiok_26:TIok Tryz.prog 26 ti_26:=tk (agg:=Tryz.isAgg26) (sz:=Tryz.sizeOf26) (zero:=fun _=>⟨⟨_,Tryz.zeroValue26,rfl⟩,rfl,rfl⟩) (offs:=fun f j n h=>match f,j,n,h with
  |0,_,_,h=>by cases h;intro a w;simp[Instr.fieldAt,run_underlying Tryz.underlying26,Instr.sureAddr,fieldPlace,Tryz.sizeOf22]
  |1,_,_,h=>by cases h;intro a w;simp[Instr.fieldAt,run_underlying Tryz.underlying26,Instr.sureAddr,fieldPlace,Tryz.sizeOf23]
  |2,_,_,h=>by cases h;intro a w;simp[Instr.fieldAt,run_underlying Tryz.underlying26,Instr.sureAddr,fieldPlace,Tryz.sizeOf24]
  |_+3,_,_,h=>by simp[ti_26] at h) (bld:=fun _ ps cs hf w=>by
  have hp: ∀ {fs:Array Field},Tryz.prog.underlying 26=some (.struct fs)-> ∀w,(fs.mapM fun f=>(do pure (f.offset,<-sizeOf f.type):Sem (Nat×Nat))).run Tryz.prog w= .ok #[(0,1),(1,1),(2,1)] w:=fun {fs} h=>by
   rw[Tryz.underlying26] at h;cases h;intro w;kernel_rfl
  have hf1:fills (fun(j:Nat)=>([(0,1),(1,1),(2,1)]:List (Nat×Nat))[j]?) [.slice none 0 0,.slice none 0 0,.slice none 0 0] ps=some cs:=hf
  have hf':=fills_eq _ _ _ _ hf1
  unfold Instr.build
  simp only[Sem.run_bind,Tryz.zeroValue26,Result.andThen,Value.cells,run_underlying Tryz.underlying26,hp Tryz.underlying26]
  have e:(fun(j:Nat)=>(#[(0,1),(1,1),(2,1)]:Array (Nat×Nat))[j]?)=fun(j:Nat)=>([(0,1),(1,1),(2,1)]:List (Nat×Nat))[j]?:=by funext j;simp
  rw[e,hf'];rfl)
def ti_30:TI:=⟨1,false,[],none,[.int .i64 0],some .i64,false,false,false,false,none,none,false,[]⟩
theorem tiok_30:TIok Tryz.prog 30 ti_30:=tk (agg:=Tryz.isAgg30) (sz:=Tryz.sizeOf30) (zero:=fun _=>⟨⟨_,Tryz.zeroValue30,rfl⟩,rfl,rfl⟩) (ik:=fun k h=>by cases h;exact Tryz.underlying30)
def ti_32:TI:=⟨3,true,[(0,1),(1,1),(2,1)],none,[.int .i64 0,.int .i64 0,.int .i64 0],none,false,false,true,true,none,none,false,[]⟩
theorem tiok_32:TIok Tryz.prog 32 ti_32:=tk (agg:=Tryz.isAgg32) (sz:=Tryz.sizeOf32) (zero:=fun _=>⟨⟨_,Tryz.zeroValue32,rfl⟩,rfl,rfl⟩) (offs:=fun f j n h=>match f,j,n,h with
  |0,_,_,h=>by cases h;intro a w;simp[Instr.fieldAt,run_underlying Tryz.underlying32,Instr.sureAddr,fieldPlace,Tryz.sizeOf3]
  |1,_,_,h=>by cases h;intro a w;simp[Instr.fieldAt,run_underlying Tryz.underlying32,Instr.sureAddr,fieldPlace,Tryz.sizeOf3]
  |2,_,_,h=>by cases h;intro a w;simp[Instr.fieldAt,run_underlying Tryz.underlying32,Instr.sureAddr,fieldPlace,Tryz.sizeOf3]
  |_+3,_,_,h=>by simp[ti_32] at h) (bld:=fun _ ps cs hf w=>by
  have hp: ∀ {fs:Array Field},Tryz.prog.underlying 32=some (.struct fs)-> ∀w,(fs.mapM fun f=>(do pure (f.offset,<-sizeOf f.type):Sem (Nat×Nat))).run Tryz.prog w= .ok #[(0,1),(1,1),(2,1)] w:=fun {fs} h=>by
   rw[Tryz.underlying32] at h;cases h;intro w;kernel_rfl
  have hf1:fills (fun(j:Nat)=>([(0,1),(1,1),(2,1)]:List (Nat×Nat))[j]?) [.int .i64 0,.int .i64 0,.int .i64 0] ps=some cs:=hf
  have hf':=fills_eq _ _ _ _ hf1
  unfold Instr.build
  simp only[Sem.run_bind,Tryz.zeroValue32,Result.andThen,Value.cells,run_underlying Tryz.underlying32,hp Tryz.underlying32]
  have e:(fun(j:Nat)=>(#[(0,1),(1,1),(2,1)]:Array (Nat×Nat))[j]?)=fun(j:Nat)=>([(0,1),(1,1),(2,1)]:List (Nat×Nat))[j]?:=by funext j;simp
  rw[e,hf'];rfl) (cmp:=fun _ us vs hu hv x y w=>by
  obtain⟨u0,_,rfl,hu0⟩:=shp_int hu
  obtain⟨u1,_,rfl,hu1⟩:=shp_int hu0
  obtain⟨u2,_,rfl,hu2⟩:=shp_int hu1
  obtain rfl:=shp_nil hu2
  obtain⟨v0,_,rfl,hv0⟩:=shp_int hv
  obtain⟨v1,_,rfl,hv1⟩:=shp_int hv0
  obtain⟨v2,_,rfl,hv2⟩:=shp_int hv1
  obtain rfl:=shp_nil hv2
  constructor<;>(simp[go_sem,scEqs,scEq];repeat' split)<;>simp_all)
def ti_39:TI:=⟨1,false,[],some (3,1,8),[.slice none 0 0],none,false,false,false,false,none,none,false,[]⟩
theorem tiok_39:TIok Tryz.prog 39 ti_39:=tk (agg:=Tryz.isAgg39) (sz:=Tryz.sizeOf39) (zero:=fun _=>⟨⟨_,Tryz.zeroValue39,rfl⟩,rfl,rfl⟩) (el:=fun e n b h=>by cases h;exact⟨Tryz.underlying39,Tryz.sizeOf3,el_ok (by kernel_rfl)⟩)
def ti_40:TI:=⟨1,false,[],some (50,1,24),[.slice none 0 0],none,false,false,false,false,none,none,false,[]⟩
theorem tiok_40:TIok Tryz.prog 40 ti_40:=tk (agg:=Tryz.isAgg40) (sz:=Tryz.sizeOf40) (zero:=fun _=>⟨⟨_,Tryz.zeroValue40,rfl⟩,rfl,rfl⟩) (el:=fun e n b h=>by cases h;exact⟨Tryz.underlying40,Tryz.sizeOf50,el_ok (by kernel_rfl)⟩)
def ti_42:TI:=⟨4,true,[(0,1),(1,1),(2,1),(3,1)],none,[.string ⟨#[]⟩,.slice none 0 0,.int .i64 0,.slice none 0 0],none,false,false,false,true,none,none,false,[]⟩
theorem tiok_42:TIok Tryz.prog 42 ti_42:=tk (agg:=Tryz.isAgg42) (sz:=Tryz.sizeOf42) (zero:=fun _=>⟨⟨_,Tryz.zeroValue42,rfl⟩,rfl,rfl⟩) (offs:=fun f j n h=>match f,j,n,h with
  |0,_,_,h=>by cases h;intro a w;simp[Instr.fieldAt,run_underlying Tryz.underlying42,Instr.sureAddr,fieldPlace,Tryz.sizeOf9]
  |1,_,_,h=>by cases h;intro a w;simp[Instr.fieldAt,run_underlying Tryz.underlying42,Instr.sureAddr,fieldPlace,Tryz.sizeOf39]
  |2,_,_,h=>by cases h;intro a w;simp[Instr.fieldAt,run_underlying Tryz.underlying42,Instr.sureAddr,fieldPlace,Tryz.sizeOf3]
  |3,_,_,h=>by cases h;intro a w;simp[Instr.fieldAt,run_underlying Tryz.underlying42,Instr.sureAddr,fieldPlace,Tryz.sizeOf40]
  |_+4,_,_,h=>by simp[ti_42] at h) (bld:=fun _ ps cs hf w=>by
  have hp: ∀ {fs:Array Field},Tryz.prog.underlying 42=some (.struct fs)-> ∀w,(fs.mapM fun f=>(do pure (f.offset,<-sizeOf f.type):Sem (Nat×Nat))).run Tryz.prog w= .ok #[(0,1),(1,1),(2,1),(3,1)] w:=fun {fs} h=>by
   rw[Tryz.underlying42] at h;cases h;intro w;kernel_rfl
  have hf1:fills (fun(j:Nat)=>([(0,1),(1,1),(2,1),(3,1)]:List (Nat×Nat))[j]?) [.string ⟨#[]⟩,.slice none 0 0,.int .i64 0,.slice none 0 0] ps=some cs:=hf
  have hf':=fills_eq _ _ _ _ hf1
  unfold Instr.build
  simp only[Sem.run_bind,Tryz.zeroValue42,Result.andThen,Value.cells,run_underlying Tryz.underlying42,hp Tryz.underlying42]
  have e:(fun(j:Nat)=>(#[(0,1),(1,1),(2,1),(3,1)]:Array (Nat×Nat))[j]?)=fun(j:Nat)=>([(0,1),(1,1),(2,1),(3,1)]:List (Nat×Nat))[j]?:=by funext j;simp
  rw[e,hf'];rfl)
def ti_47:TI:=⟨1,false,[],none,[.int .u64 0],some .u64,false,false,false,false,none,none,false,[]⟩
theorem tiok_47:TIok Tryz.prog 47 ti_47:=tk (agg:=Tryz.isAgg47) (sz:=Tryz.sizeOf47) (zero:=fun _=>⟨⟨_,Tryz.zeroValue47,rfl⟩,rfl,rfl⟩) (ik:=fun k h=>by cases h;exact Tryz.underlying47)
def ti_48:TI:=⟨1,false,[],some (53,7,88),[.slice none 0 0],none,false,false,false,false,none,none,false,[]⟩
theorem tiok_48:TIok Tryz.prog 48 ti_48:=tk (agg:=Tryz.isAgg48) (sz:=Tryz.sizeOf48) (zero:=fun _=>⟨⟨_,Tryz.zeroValue48,rfl⟩,rfl,rfl⟩) (el:=fun e n b h=>by cases h;exact⟨Tryz.underlying48,Tryz.sizeOf53,el_ok (by kernel_rfl)⟩)
def ti_50:TI:=⟨1,true,[(0,1)],none,[.slice none 0 0],none,false,false,false,true,none,none,false,[]⟩
theorem tiok_50:TIok Tryz.prog 50 ti_50:=tk (agg:=Tryz.isAgg50) (sz:=Tryz.sizeOf50) (zero:=fun _=>⟨⟨_,Tryz.zeroValue50,rfl⟩,rfl,rfl⟩) (offs:=fun f j n h=>match f,j,n,h with
  |0,_,_,h=>by cases h;intro a w;simp[Instr.fieldAt,run_underlying Tryz.underlying50,Instr.sureAddr,fieldPlace,Tryz.sizeOf48]
  |_+1,_,_,h=>by simp[ti_50] at h) (bld:=fun _ ps cs hf w=>by
  have hp: ∀ {fs:Array Field},Tryz.prog.underlying 50=some (.struct fs)-> ∀w,(fs.mapM fun f=>(do pure (f.offset,<-sizeOf f.type):Sem (Nat×Nat))).run Tryz.prog w= .ok #[(0,1)] w:=fun {fs} h=>by
   rw[Tryz.underlying50] at h;cases h;intro w;kernel_rfl
  have hf1:fills (fun(j:Nat)=>([(0,1)]:List (Nat×Nat))[j]?) [.slice none 0 0] ps=some cs:=hf
  have hf':=fills_eq _ _ _ _ hf1
  unfold Instr.build
  simp only[Sem.run_bind,Tryz.zeroValue50,Result.andThen,Value.cells,run_underlying Tryz.underlying50,hp Tryz.underlying50]
  have e:(fun(j:Nat)=>(#[(0,1)]:Array (Nat×Nat))[j]?)=fun(j:Nat)=>([(0,1)]:List (Nat×Nat))[j]?:=by funext j;simp
  rw[e,hf'];rfl)
def ti_51:TI:=⟨1,false,[],some (56,3,24),[.slice none 0 0],none,false,false,false,false,none,none,false,[]⟩
theorem tiok_51:TIok Tryz.prog 51 ti_51:=tk (agg:=Tryz.isAgg51) (sz:=Tryz.sizeOf51) (zero:=fun _=>⟨⟨_,Tryz.zeroValue51,rfl⟩,rfl,rfl⟩) (el:=fun e n b h=>by cases h;exact⟨Tryz.underlying51,Tryz.sizeOf56,el_ok (by kernel_rfl)⟩)
def ti_53:TI:=⟨7,true,[(0,1),(1,1),(2,1),(3,1),(4,1),(5,1),(6,1)],none,[.int .i64 0,.int .i64 0,.int .i64 0,.int .i64 0,.int .i64 0,.slice none 0 0,.slice none 0 0],none,false,false,false,true,none,none,false,[]⟩
theorem tiok_53:TIok Tryz.prog 53 ti_53:=tk (agg:=Tryz.isAgg53) (sz:=Tryz.sizeOf53) (zero:=fun _=>⟨⟨_,Tryz.zeroValue53,rfl⟩,rfl,rfl⟩) (offs:=fun f j n h=>match f,j,n,h with
  |0,_,_,h=>by cases h;intro a w;simp[Instr.fieldAt,run_underlying Tryz.underlying53,Instr.sureAddr,fieldPlace,Tryz.sizeOf3]
  |1,_,_,h=>by cases h;intro a w;simp[Instr.fieldAt,run_underlying Tryz.underlying53,Instr.sureAddr,fieldPlace,Tryz.sizeOf3]
  |2,_,_,h=>by cases h;intro a w;simp[Instr.fieldAt,run_underlying Tryz.underlying53,Instr.sureAddr,fieldPlace,Tryz.sizeOf3]
  |3,_,_,h=>by cases h;intro a w;simp[Instr.fieldAt,run_underlying Tryz.underlying53,Instr.sureAddr,fieldPlace,Tryz.sizeOf3]
  |4,_,_,h=>by cases h;intro a w;simp[Instr.fieldAt,run_underlying Tryz.underlying53,Instr.sureAddr,fieldPlace,Tryz.sizeOf3]
  |5,_,_,h=>by cases h;intro a w;simp[Instr.fieldAt,run_underlying Tryz.underlying53,Instr.sureAddr,fieldPlace,Tryz.sizeOf51]
  |6,_,_,h=>by cases h;intro a w;simp[Instr.fieldAt,run_underlying Tryz.underlying53,Instr.sureAddr,fieldPlace,Tryz.sizeOf39]
  |_+7,_,_,h=>by simp[ti_53] at h) (bld:=fun _ ps cs hf w=>by
  have hp: ∀ {fs:Array Field},Tryz.prog.underlying 53=some (.struct fs)-> ∀w,(fs.mapM fun f=>(do pure (f.offset,<-sizeOf f.type):Sem (Nat×Nat))).run Tryz.prog w= .ok #[(0,1),(1,1),(2,1),(3,1),(4,1),(5,1),(6,1)] w:=fun {fs} h=>by
   rw[Tryz.underlying53] at h;cases h;intro w;kernel_rfl
  have hf1:fills (fun(j:Nat)=>([(0,1),(1,1),(2,1),(3,1),(4,1),(5,1),(6,1)]:List (Nat×Nat))[j]?) [.int .i64 0,.int .i64 0,.int .i64 0,.int .i64 0,.int .i64 0,.slice none 0 0,.slice none 0 0] ps=some cs:=hf
  have hf':=fills_eq _ _ _ _ hf1
  unfold Instr.build
  simp only[Sem.run_bind,Tryz.zeroValue53,Result.andThen,Value.cells,run_underlying Tryz.underlying53,hp Tryz.underlying53]
  have e:(fun(j:Nat)=>(#[(0,1),(1,1),(2,1),(3,1),(4,1),(5,1),(6,1)]:Array (Nat×Nat))[j]?)=fun(j:Nat)=>([(0,1),(1,1),(2,1),(3,1),(4,1),(5,1),(6,1)]:List (Nat×Nat))[j]?:=by funext j;simp
  rw[e,hf'];rfl)
def ti_54:TI:=⟨1,false,[],none,[.int .u64 0],some .u64,false,false,false,false,none,none,false,[]⟩
theorem tiok_54:TIok Tryz.prog 54 ti_54:=tk (agg:=Tryz.isAgg54) (sz:=Tryz.sizeOf54) (zero:=fun _=>⟨⟨_,Tryz.zeroValue54,rfl⟩,rfl,rfl⟩) (ik:=fun k h=>by cases h;exact Tryz.underlying54)
def ti_56:TI:=⟨3,true,[(0,1),(1,1),(2,1)],none,[.int .i64 0,.int .i64 0,.int .u64 0],none,false,false,false,true,none,none,false,[]⟩
theorem tiok_56:TIok Tryz.prog 56 ti_56:=tk (agg:=Tryz.isAgg56) (sz:=Tryz.sizeOf56) (zero:=fun _=>⟨⟨_,Tryz.zeroValue56,rfl⟩,rfl,rfl⟩) (offs:=fun f j n h=>match f,j,n,h with
  |0,_,_,h=>by cases h;intro a w;simp[Instr.fieldAt,run_underlying Tryz.underlying56,Instr.sureAddr,fieldPlace,Tryz.sizeOf3]
  |1,_,_,h=>by cases h;intro a w;simp[Instr.fieldAt,run_underlying Tryz.underlying56,Instr.sureAddr,fieldPlace,Tryz.sizeOf3]
  |2,_,_,h=>by cases h;intro a w;simp[Instr.fieldAt,run_underlying Tryz.underlying56,Instr.sureAddr,fieldPlace,Tryz.sizeOf54]
  |_+3,_,_,h=>by simp[ti_56] at h) (bld:=fun _ ps cs hf w=>by
  have hp: ∀ {fs:Array Field},Tryz.prog.underlying 56=some (.struct fs)-> ∀w,(fs.mapM fun f=>(do pure (f.offset,<-sizeOf f.type):Sem (Nat×Nat))).run Tryz.prog w= .ok #[(0,1),(1,1),(2,1)] w:=fun {fs} h=>by
   rw[Tryz.underlying56] at h;cases h;intro w;kernel_rfl
  have hf1:fills (fun(j:Nat)=>([(0,1),(1,1),(2,1)]:List (Nat×Nat))[j]?) [.int .i64 0,.int .i64 0,.int .u64 0] ps=some cs:=hf
  have hf':=fills_eq _ _ _ _ hf1
  unfold Instr.build
  simp only[Sem.run_bind,Tryz.zeroValue56,Result.andThen,Value.cells,run_underlying Tryz.underlying56,hp Tryz.underlying56]
  have e:(fun(j:Nat)=>(#[(0,1),(1,1),(2,1)]:Array (Nat×Nat))[j]?)=fun(j:Nat)=>([(0,1),(1,1),(2,1)]:List (Nat×Nat))[j]?:=by funext j;simp
  rw[e,hf'];rfl)
def ti_58:TI:=⟨1,false,[],none,[.map none],none,false,false,false,false,some (3,3,false,1),none,false,[]⟩
theorem tiok_58:TIok Tryz.prog 58 ti_58:=tk (agg:=Tryz.isAgg58) (sz:=Tryz.sizeOf58) (zero:=fun _=>⟨⟨_,Tryz.zeroValue58,rfl⟩,rfl,rfl⟩) (mp:=fun k e ks m h=>by cases h;exact⟨Tryz.underlying58,Go.Maps.int_keyed Tryz.underlying3,Tryz.underlying3,Tryz.zeroValue3,fun _=>rfl,fun zs hl hz=>by
  match zs,hl with
  |[z],_=>exact⟨_,Go.Maps.keyOf_int_mk Tryz.underlying3 (by unfold Lit.wf;simp only[Bool.and_eq_true,decide_eq_true_eq];exact hz z (by simp))⟩⟩)
def ti_65:TI:=⟨3,true,[(0,1),(1,1),(2,1)],none,[.int .i64 0,.int .i64 0,.int .i64 0],none,false,false,false,true,none,none,false,[]⟩
theorem tiok_65:TIok Tryz.prog 65 ti_65:=tk (agg:=Tryz.isAgg65) (sz:=Tryz.sizeOf65) (zero:=fun _=>⟨⟨_,Tryz.zeroValue65,rfl⟩,rfl,rfl⟩) (offs:=fun f j n h=>match f,j,n,h with
  |0,_,_,h=>by cases h;intro a w;simp[Instr.fieldAt,run_underlying Tryz.underlying65,Instr.sureAddr,fieldPlace,Tryz.sizeOf30]
  |1,_,_,h=>by cases h;intro a w;simp[Instr.fieldAt,run_underlying Tryz.underlying65,Instr.sureAddr,fieldPlace,Tryz.sizeOf3]
  |2,_,_,h=>by cases h;intro a w;simp[Instr.fieldAt,run_underlying Tryz.underlying65,Instr.sureAddr,fieldPlace,Tryz.sizeOf3]
  |_+3,_,_,h=>by simp[ti_65] at h) (bld:=fun _ ps cs hf w=>by
  have hp: ∀ {fs:Array Field},Tryz.prog.underlying 65=some (.struct fs)-> ∀w,(fs.mapM fun f=>(do pure (f.offset,<-sizeOf f.type):Sem (Nat×Nat))).run Tryz.prog w= .ok #[(0,1),(1,1),(2,1)] w:=fun {fs} h=>by
   rw[Tryz.underlying65] at h;cases h;intro w;kernel_rfl
  have hf1:fills (fun(j:Nat)=>([(0,1),(1,1),(2,1)]:List (Nat×Nat))[j]?) [.int .i64 0,.int .i64 0,.int .i64 0] ps=some cs:=hf
  have hf':=fills_eq _ _ _ _ hf1
  unfold Instr.build
  simp only[Sem.run_bind,Tryz.zeroValue65,Result.andThen,Value.cells,run_underlying Tryz.underlying65,hp Tryz.underlying65]
  have e:(fun(j:Nat)=>(#[(0,1),(1,1),(2,1)]:Array (Nat×Nat))[j]?)=fun(j:Nat)=>([(0,1),(1,1),(2,1)]:List (Nat×Nat))[j]?:=by funext j;simp
  rw[e,hf'];rfl)
def ti_69:TI:=⟨3,true,[(0,1),(1,1),(2,1)],none,[.string ⟨#[]⟩,.slice none 0 0,.int .i64 0],none,false,false,false,true,none,none,false,[]⟩
theorem tiok_69:TIok Tryz.prog 69 ti_69:=tk (agg:=Tryz.isAgg69) (sz:=Tryz.sizeOf69) (zero:=fun _=>⟨⟨_,Tryz.zeroValue69,rfl⟩,rfl,rfl⟩) (offs:=fun f j n h=>match f,j,n,h with
  |0,_,_,h=>by cases h;intro a w;simp[Instr.fieldAt,run_underlying Tryz.underlying69,Instr.sureAddr,fieldPlace,Tryz.sizeOf9]
  |1,_,_,h=>by cases h;intro a w;simp[Instr.fieldAt,run_underlying Tryz.underlying69,Instr.sureAddr,fieldPlace,Tryz.sizeOf39]
  |2,_,_,h=>by cases h;intro a w;simp[Instr.fieldAt,run_underlying Tryz.underlying69,Instr.sureAddr,fieldPlace,Tryz.sizeOf3]
  |_+3,_,_,h=>by simp[ti_69] at h) (bld:=fun _ ps cs hf w=>by
  have hp: ∀ {fs:Array Field},Tryz.prog.underlying 69=some (.struct fs)-> ∀w,(fs.mapM fun f=>(do pure (f.offset,<-sizeOf f.type):Sem (Nat×Nat))).run Tryz.prog w= .ok #[(0,1),(1,1),(2,1)] w:=fun {fs} h=>by
   rw[Tryz.underlying69] at h;cases h;intro w;kernel_rfl
  have hf1:fills (fun(j:Nat)=>([(0,1),(1,1),(2,1)]:List (Nat×Nat))[j]?) [.string ⟨#[]⟩,.slice none 0 0,.int .i64 0] ps=some cs:=hf
  have hf':=fills_eq _ _ _ _ hf1
  unfold Instr.build
  simp only[Sem.run_bind,Tryz.zeroValue69,Result.andThen,Value.cells,run_underlying Tryz.underlying69,hp Tryz.underlying69]
  have e:(fun(j:Nat)=>(#[(0,1),(1,1),(2,1)]:Array (Nat×Nat))[j]?)=fun(j:Nat)=>([(0,1),(1,1),(2,1)]:List (Nat×Nat))[j]?:=by funext j;simp
  rw[e,hf'];rfl)
def ti_72:TI:=⟨4,true,[(0,1),(1,3)],none,[.int .i64 0,.int .i64 0,.int .i64 0,.int .i64 0],none,false,false,false,true,none,none,false,[]⟩
theorem tiok_72:TIok Tryz.prog 72 ti_72:=tk (agg:=Tryz.isAgg72) (sz:=Tryz.sizeOf72) (zero:=fun _=>⟨⟨_,Tryz.zeroValue72,rfl⟩,rfl,rfl⟩) (offs:=fun f j n h=>match f,j,n,h with
  |0,_,_,h=>by cases h;intro a w;simp[Instr.fieldAt,run_underlying Tryz.underlying72,Instr.sureAddr,fieldPlace,Tryz.sizeOf30]
  |1,_,_,h=>by cases h;intro a w;simp[Instr.fieldAt,run_underlying Tryz.underlying72,Instr.sureAddr,fieldPlace,Tryz.sizeOf32]
  |_+2,_,_,h=>by simp[ti_72] at h) (bld:=fun _ ps cs hf w=>by
  have hp: ∀ {fs:Array Field},Tryz.prog.underlying 72=some (.struct fs)-> ∀w,(fs.mapM fun f=>(do pure (f.offset,<-sizeOf f.type):Sem (Nat×Nat))).run Tryz.prog w= .ok #[(0,1),(1,3)] w:=fun {fs} h=>by
   rw[Tryz.underlying72] at h;cases h;intro w;kernel_rfl
  have hf1:fills (fun(j:Nat)=>([(0,1),(1,3)]:List (Nat×Nat))[j]?) [.int .i64 0,.int .i64 0,.int .i64 0,.int .i64 0] ps=some cs:=hf
  have hf':=fills_eq _ _ _ _ hf1
  unfold Instr.build
  simp only[Sem.run_bind,Tryz.zeroValue72,Result.andThen,Value.cells,run_underlying Tryz.underlying72,hp Tryz.underlying72]
  have e:(fun(j:Nat)=>(#[(0,1),(1,3)]:Array (Nat×Nat))[j]?)=fun(j:Nat)=>([(0,1),(1,3)]:List (Nat×Nat))[j]?:=by funext j;simp
  rw[e,hf'];rfl)
def ti_74:TI:=⟨1,false,[],none,[.pointer none],none,false,false,false,false,none,none,false,[]⟩
theorem tiok_74:TIok Tryz.prog 74 ti_74:=tk (agg:=Tryz.isAgg74) (sz:=Tryz.sizeOf74) (zero:=fun _=>⟨⟨_,Tryz.zeroValue74,rfl⟩,rfl,rfl⟩)
def ti_76:TI:=⟨9,true,[(0,3),(3,4),(7,1),(8,1)],none,[.slice none 0 0,.slice none 0 0,.slice none 0 0,.string ⟨#[]⟩,.slice none 0 0,.int .i64 0,.slice none 0 0,.int .i64 0,.slice none 0 0],none,false,false,false,true,none,none,false,[]⟩
theorem tiok_76:TIok Tryz.prog 76 ti_76:=tk (agg:=Tryz.isAgg76) (sz:=Tryz.sizeOf76) (zero:=fun _=>⟨⟨_,Tryz.zeroValue76,rfl⟩,rfl,rfl⟩) (offs:=fun f j n h=>match f,j,n,h with
  |0,_,_,h=>by cases h;intro a w;simp[Instr.fieldAt,run_underlying Tryz.underlying76,Instr.sureAddr,fieldPlace,Tryz.sizeOf26]
  |1,_,_,h=>by cases h;intro a w;simp[Instr.fieldAt,run_underlying Tryz.underlying76,Instr.sureAddr,fieldPlace,Tryz.sizeOf42]
  |2,_,_,h=>by cases h;intro a w;simp[Instr.fieldAt,run_underlying Tryz.underlying76,Instr.sureAddr,fieldPlace,Tryz.sizeOf3]
  |3,_,_,h=>by cases h;intro a w;simp[Instr.fieldAt,run_underlying Tryz.underlying76,Instr.sureAddr,fieldPlace,Tryz.sizeOf39]
  |_+4,_,_,h=>by simp[ti_76] at h) (bld:=fun _ ps cs hf w=>by
  have hp: ∀ {fs:Array Field},Tryz.prog.underlying 76=some (.struct fs)-> ∀w,(fs.mapM fun f=>(do pure (f.offset,<-sizeOf f.type):Sem (Nat×Nat))).run Tryz.prog w= .ok #[(0,3),(3,4),(7,1),(8,1)] w:=fun {fs} h=>by
   rw[Tryz.underlying76] at h;cases h;intro w;kernel_rfl
  have hf1:fills (fun(j:Nat)=>([(0,3),(3,4),(7,1),(8,1)]:List (Nat×Nat))[j]?) [.slice none 0 0,.slice none 0 0,.slice none 0 0,.string ⟨#[]⟩,.slice none 0 0,.int .i64 0,.slice none 0 0,.int .i64 0,.slice none 0 0] ps=some cs:=hf
  have hf':=fills_eq _ _ _ _ hf1
  unfold Instr.build
  simp only[Sem.run_bind,Tryz.zeroValue76,Result.andThen,Value.cells,run_underlying Tryz.underlying76,hp Tryz.underlying76]
  have e:(fun(j:Nat)=>(#[(0,3),(3,4),(7,1),(8,1)]:Array (Nat×Nat))[j]?)=fun(j:Nat)=>([(0,3),(3,4),(7,1),(8,1)]:List (Nat×Nat))[j]?:=by funext j;simp
  rw[e,hf'];rfl)
def ti_78:TI:=⟨1,false,[],none,[],none,false,false,false,false,none,none,false,[]⟩
theorem tiok_78:TIok Tryz.prog 78 ti_78:=tk (agg:=Tryz.isAgg78) (sz:=Tryz.sizeOf78) (zero:=fun h=>absurd rfl h)
def ti_82:TI:=⟨2,true,[(0,1),(1,1)],none,[.string ⟨#[]⟩,.int .i64 0],none,false,false,false,false,none,none,false,[]⟩
theorem tiok_82:TIok Tryz.prog 82 ti_82:=tk (agg:=Tryz.isAgg82) (sz:=Tryz.sizeOf82) (zero:=fun _=>⟨⟨_,Tryz.zeroValue82,rfl⟩,rfl,rfl⟩) (offs:=fun f j n h=>match f,j,n,h with
  |0,_,_,h=>by cases h;intro a w;simp[Instr.fieldAt,run_underlying Tryz.underlying82,Instr.sureAddr,fieldPlace,Tryz.sizeOf9]
  |1,_,_,h=>by cases h;intro a w;simp[Instr.fieldAt,run_underlying Tryz.underlying82,Instr.sureAddr,fieldPlace,Tryz.sizeOf3]
  |_+2,_,_,h=>by simp[ti_82] at h)
def ti_84:TI:=⟨1,false,[],some (32,3,24),[.slice none 0 0],none,false,false,false,false,none,none,false,[]⟩
theorem tiok_84:TIok Tryz.prog 84 ti_84:=tk (agg:=Tryz.isAgg84) (sz:=Tryz.sizeOf84) (zero:=fun _=>⟨⟨_,Tryz.zeroValue84,rfl⟩,rfl,rfl⟩) (el:=fun e n b h=>by cases h;exact⟨Tryz.underlying84,Tryz.sizeOf32,el_ok (by kernel_rfl)⟩)
def ti_87:TI:=⟨1,false,[],none,[.pointer none],none,false,false,false,false,none,none,false,[]⟩
theorem tiok_87:TIok Tryz.prog 87 ti_87:=tk (agg:=Tryz.isAgg87) (sz:=Tryz.sizeOf87) (zero:=fun _=>⟨⟨_,Tryz.zeroValue87,rfl⟩,rfl,rfl⟩)
def ti_88:TI:=⟨1,false,[],some (93,4,40),[.slice none 0 0],none,false,false,false,false,none,none,false,[]⟩
theorem tiok_88:TIok Tryz.prog 88 ti_88:=tk (agg:=Tryz.isAgg88) (sz:=Tryz.sizeOf88) (zero:=fun _=>⟨⟨_,Tryz.zeroValue88,rfl⟩,rfl,rfl⟩) (el:=fun e n b h=>by cases h;exact⟨Tryz.underlying88,Tryz.sizeOf93,el_ok (by kernel_rfl)⟩)
def ti_91:TI:=⟨1,false,[],none,[.pointer none],none,false,false,false,false,none,none,false,[]⟩
theorem tiok_91:TIok Tryz.prog 91 ti_91:=tk (agg:=Tryz.isAgg91) (sz:=Tryz.sizeOf91) (zero:=fun _=>⟨⟨_,Tryz.zeroValue91,rfl⟩,rfl,rfl⟩)
def ti_93:TI:=⟨4,true,[(0,1),(1,1),(2,1),(3,1)],none,[.int .i64 0,.string ⟨#[]⟩,.int .i64 0,.int .i64 0],none,false,false,false,true,none,none,false,[(0,0)]⟩
theorem tiok_93:TIok Tryz.prog 93 ti_93:=tk (agg:=Tryz.isAgg93) (sz:=Tryz.sizeOf93) (zero:=fun _=>⟨⟨_,Tryz.zeroValue93,rfl⟩,rfl,rfl⟩) (offs:=fun f j n h=>match f,j,n,h with
  |0,_,_,h=>by cases h;intro a w;simp[Instr.fieldAt,run_underlying Tryz.underlying93,Instr.sureAddr,fieldPlace,Tryz.sizeOf3]
  |1,_,_,h=>by cases h;intro a w;simp[Instr.fieldAt,run_underlying Tryz.underlying93,Instr.sureAddr,fieldPlace,Tryz.sizeOf9]
  |2,_,_,h=>by cases h;intro a w;simp[Instr.fieldAt,run_underlying Tryz.underlying93,Instr.sureAddr,fieldPlace,Tryz.sizeOf3]
  |3,_,_,h=>by cases h;intro a w;simp[Instr.fieldAt,run_underlying Tryz.underlying93,Instr.sureAddr,fieldPlace,Tryz.sizeOf3]
  |_+4,_,_,h=>by simp[ti_93] at h) (bld:=fun _ ps cs hf w=>by
  have hp: ∀ {fs:Array Field},Tryz.prog.underlying 93=some (.struct fs)-> ∀w,(fs.mapM fun f=>(do pure (f.offset,<-sizeOf f.type):Sem (Nat×Nat))).run Tryz.prog w= .ok #[(0,1),(1,1),(2,1),(3,1)] w:=fun {fs} h=>by
   rw[Tryz.underlying93] at h;cases h;intro w;kernel_rfl
  have hf1:fills (fun(j:Nat)=>([(0,1),(1,1),(2,1),(3,1)]:List (Nat×Nat))[j]?) [.int .i64 0,.string ⟨#[]⟩,.int .i64 0,.int .i64 0] ps=some cs:=hf
  have hf':=fills_eq _ _ _ _ hf1
  unfold Instr.build
  simp only[Sem.run_bind,Tryz.zeroValue93,Result.andThen,Value.cells,run_underlying Tryz.underlying93,hp Tryz.underlying93]
  have e:(fun(j:Nat)=>(#[(0,1),(1,1),(2,1),(3,1)]:Array (Nat×Nat))[j]?)=fun(j:Nat)=>([(0,1),(1,1),(2,1),(3,1)]:List (Nat×Nat))[j]?:=by funext j;simp
  rw[e,hf'];rfl) (fv:=fun f j h=>match f,j,h with
  |0,_,h=>by cases h;intro cs x w hx;simp[Instr.field,run_underlying Tryz.underlying93,asAgg,part,Tryz.isAgg3,hx]
  |_+1,_,h=>by cases h)
def ti_95:TI:=⟨1,false,[],some (138,8,72),[.slice none 0 0],none,false,false,false,false,none,none,false,[]⟩
theorem tiok_95:TIok Tryz.prog 95 ti_95:=tk (agg:=Tryz.isAgg95) (sz:=Tryz.sizeOf95) (zero:=fun _=>⟨⟨_,Tryz.zeroValue95,rfl⟩,rfl,rfl⟩) (el:=fun e n b h=>by cases h;exact⟨Tryz.underlying95,Tryz.sizeOf138,el_ok (by kernel_rfl)⟩)
def ti_97:TI:=⟨14,true,[(0,1),(1,1),(2,3),(5,4),(9,3),(12,1),(13,1)],none,[.slice none 0 0,.int .i64 0,.slice none 0 0,.slice none 0 0,.slice none 0 0,.int .i64 0,.string ⟨#[]⟩,.int .i64 0,.int .i64 0,.int .i64 0,.int .i64 0,.int .i64 0,.slice none 0 0,.int .i64 0],none,false,false,false,true,none,none,false,[]⟩
theorem tiok_97:TIok Tryz.prog 97 ti_97:=tk (agg:=Tryz.isAgg97) (sz:=Tryz.sizeOf97) (zero:=fun _=>⟨⟨_,Tryz.zeroValue97,rfl⟩,rfl,rfl⟩) (offs:=fun f j n h=>match f,j,n,h with
  |0,_,_,h=>by cases h;intro a w;simp[Instr.fieldAt,run_underlying Tryz.underlying97,Instr.sureAddr,fieldPlace,Tryz.sizeOf88]
  |1,_,_,h=>by cases h;intro a w;simp[Instr.fieldAt,run_underlying Tryz.underlying97,Instr.sureAddr,fieldPlace,Tryz.sizeOf3]
  |2,_,_,h=>by cases h;intro a w;simp[Instr.fieldAt,run_underlying Tryz.underlying97,Instr.sureAddr,fieldPlace,Tryz.sizeOf26]
  |3,_,_,h=>by cases h;intro a w;simp[Instr.fieldAt,run_underlying Tryz.underlying97,Instr.sureAddr,fieldPlace,Tryz.sizeOf93]
  |4,_,_,h=>by cases h;intro a w;simp[Instr.fieldAt,run_underlying Tryz.underlying97,Instr.sureAddr,fieldPlace,Tryz.sizeOf65]
  |5,_,_,h=>by cases h;intro a w;simp[Instr.fieldAt,run_underlying Tryz.underlying97,Instr.sureAddr,fieldPlace,Tryz.sizeOf95]
  |6,_,_,h=>by cases h;intro a w;simp[Instr.fieldAt,run_underlying Tryz.underlying97,Instr.sureAddr,fieldPlace,Tryz.sizeOf3]
  |_+7,_,_,h=>by simp[ti_97] at h) (bld:=fun _ ps cs hf w=>by
  have hp: ∀ {fs:Array Field},Tryz.prog.underlying 97=some (.struct fs)-> ∀w,(fs.mapM fun f=>(do pure (f.offset,<-sizeOf f.type):Sem (Nat×Nat))).run Tryz.prog w= .ok #[(0,1),(1,1),(2,3),(5,4),(9,3),(12,1),(13,1)] w:=fun {fs} h=>by
   rw[Tryz.underlying97] at h;cases h;intro w;kernel_rfl
  have hf1:fills (fun(j:Nat)=>([(0,1),(1,1),(2,3),(5,4),(9,3),(12,1),(13,1)]:List (Nat×Nat))[j]?) [.slice none 0 0,.int .i64 0,.slice none 0 0,.slice none 0 0,.slice none 0 0,.int .i64 0,.string ⟨#[]⟩,.int .i64 0,.int .i64 0,.int .i64 0,.int .i64 0,.int .i64 0,.slice none 0 0,.int .i64 0] ps=some cs:=hf
  have hf':=fills_eq _ _ _ _ hf1
  unfold Instr.build
  simp only[Sem.run_bind,Tryz.zeroValue97,Result.andThen,Value.cells,run_underlying Tryz.underlying97,hp Tryz.underlying97]
  have e:(fun(j:Nat)=>(#[(0,1),(1,1),(2,3),(5,4),(9,3),(12,1),(13,1)]:Array (Nat×Nat))[j]?)=fun(j:Nat)=>([(0,1),(1,1),(2,3),(5,4),(9,3),(12,1),(13,1)]:List (Nat×Nat))[j]?:=by funext j;simp
  rw[e,hf'];rfl)
def ti_101:TI:=⟨1,false,[],some (9,1,16),[.slice none 0 0],none,false,false,false,false,none,none,false,[]⟩
theorem tiok_101:TIok Tryz.prog 101 ti_101:=tk (agg:=Tryz.isAgg101) (sz:=Tryz.sizeOf101) (zero:=fun _=>⟨⟨_,Tryz.zeroValue101,rfl⟩,rfl,rfl⟩) (el:=fun e n b h=>by cases h;exact⟨Tryz.underlying101,Tryz.sizeOf9,el_ok (by kernel_rfl)⟩)
def ti_110:TI:=⟨1,false,[],some (39,1,24),[.slice none 0 0],none,false,false,false,false,none,none,false,[]⟩
theorem tiok_110:TIok Tryz.prog 110 ti_110:=tk (agg:=Tryz.isAgg110) (sz:=Tryz.sizeOf110) (zero:=fun _=>⟨⟨_,Tryz.zeroValue110,rfl⟩,rfl,rfl⟩) (el:=fun e n b h=>by cases h;exact⟨Tryz.underlying110,Tryz.sizeOf39,el_ok (by kernel_rfl)⟩)
def ti_112:TI:=⟨1,false,[],some (4,1,1),[.slice none 0 0],none,false,false,false,false,none,none,false,[]⟩
theorem tiok_112:TIok Tryz.prog 112 ti_112:=tk (agg:=Tryz.isAgg112) (sz:=Tryz.sizeOf112) (zero:=fun _=>⟨⟨_,Tryz.zeroValue112,rfl⟩,rfl,rfl⟩) (el:=fun e n b h=>by cases h;exact⟨Tryz.underlying112,Tryz.sizeOf4,el_ok (by kernel_rfl)⟩)
def ti_114:TI:=⟨1,false,[],none,[.map none],none,false,false,false,false,none,some (3,32,[.i64,.i64,.i64]),false,[]⟩
theorem tiok_114:TIok Tryz.prog 114 ti_114:=tk (agg:=Tryz.isAgg114) (sz:=Tryz.sizeOf114) (zero:=fun _=>⟨⟨_,Tryz.zeroValue114,rfl⟩,rfl,rfl⟩) (ms:=fun k e qs h=>by cases h;exact⟨Tryz.underlying114,Go.Maps.int_keyed Tryz.underlying3,Tryz.zeroValue32,fun z hz=>⟨_,Go.Maps.keyOf_int_mk Tryz.underlying3 (by unfold Lit.wf;simp only[Bool.and_eq_true,decide_eq_true_eq];exact hz)⟩⟩)
def ti_126:TI:=⟨1,false,[],none,[.pointer none],none,false,false,false,false,none,none,false,[]⟩
theorem tiok_126:TIok Tryz.prog 126 ti_126:=tk (agg:=Tryz.isAgg126) (sz:=Tryz.sizeOf126) (zero:=fun _=>⟨⟨_,Tryz.zeroValue126,rfl⟩,rfl,rfl⟩)
def ti_128:TI:=⟨6,true,[(0,1),(1,1),(2,1),(3,1),(4,1),(5,1)],none,[.string ⟨#[]⟩,.int .i64 0,.int .i64 0,.int .i64 0,.slice none 0 0,.int .i64 0],none,false,false,false,true,none,none,false,[]⟩
theorem tiok_128:TIok Tryz.prog 128 ti_128:=tk (agg:=Tryz.isAgg128) (sz:=Tryz.sizeOf128) (zero:=fun _=>⟨⟨_,Tryz.zeroValue128,rfl⟩,rfl,rfl⟩) (offs:=fun f j n h=>match f,j,n,h with
  |0,_,_,h=>by cases h;intro a w;simp[Instr.fieldAt,run_underlying Tryz.underlying128,Instr.sureAddr,fieldPlace,Tryz.sizeOf9]
  |1,_,_,h=>by cases h;intro a w;simp[Instr.fieldAt,run_underlying Tryz.underlying128,Instr.sureAddr,fieldPlace,Tryz.sizeOf3]
  |2,_,_,h=>by cases h;intro a w;simp[Instr.fieldAt,run_underlying Tryz.underlying128,Instr.sureAddr,fieldPlace,Tryz.sizeOf3]
  |3,_,_,h=>by cases h;intro a w;simp[Instr.fieldAt,run_underlying Tryz.underlying128,Instr.sureAddr,fieldPlace,Tryz.sizeOf3]
  |4,_,_,h=>by cases h;intro a w;simp[Instr.fieldAt,run_underlying Tryz.underlying128,Instr.sureAddr,fieldPlace,Tryz.sizeOf88]
  |5,_,_,h=>by cases h;intro a w;simp[Instr.fieldAt,run_underlying Tryz.underlying128,Instr.sureAddr,fieldPlace,Tryz.sizeOf30]
  |_+6,_,_,h=>by simp[ti_128] at h) (bld:=fun _ ps cs hf w=>by
  have hp: ∀ {fs:Array Field},Tryz.prog.underlying 128=some (.struct fs)-> ∀w,(fs.mapM fun f=>(do pure (f.offset,<-sizeOf f.type):Sem (Nat×Nat))).run Tryz.prog w= .ok #[(0,1),(1,1),(2,1),(3,1),(4,1),(5,1)] w:=fun {fs} h=>by
   rw[Tryz.underlying128] at h;cases h;intro w;kernel_rfl
  have hf1:fills (fun(j:Nat)=>([(0,1),(1,1),(2,1),(3,1),(4,1),(5,1)]:List (Nat×Nat))[j]?) [.string ⟨#[]⟩,.int .i64 0,.int .i64 0,.int .i64 0,.slice none 0 0,.int .i64 0] ps=some cs:=hf
  have hf':=fills_eq _ _ _ _ hf1
  unfold Instr.build
  simp only[Sem.run_bind,Tryz.zeroValue128,Result.andThen,Value.cells,run_underlying Tryz.underlying128,hp Tryz.underlying128]
  have e:(fun(j:Nat)=>(#[(0,1),(1,1),(2,1),(3,1),(4,1),(5,1)]:Array (Nat×Nat))[j]?)=fun(j:Nat)=>([(0,1),(1,1),(2,1),(3,1),(4,1),(5,1)]:List (Nat×Nat))[j]?:=by funext j;simp
  rw[e,hf'];rfl)
def ti_138:TI:=⟨8,true,[(0,4),(4,1),(5,1),(6,1),(7,1)],none,[.int .i64 0,.string ⟨#[]⟩,.int .i64 0,.int .i64 0,.int .i64 0,.int .i64 0,.int .i64 0,.int .i64 0],none,false,false,false,true,none,none,false,[]⟩
theorem tiok_138:TIok Tryz.prog 138 ti_138:=tk (agg:=Tryz.isAgg138) (sz:=Tryz.sizeOf138) (zero:=fun _=>⟨⟨_,Tryz.zeroValue138,rfl⟩,rfl,rfl⟩) (offs:=fun f j n h=>match f,j,n,h with
  |0,_,_,h=>by cases h;intro a w;simp[Instr.fieldAt,run_underlying Tryz.underlying138,Instr.sureAddr,fieldPlace,Tryz.sizeOf93]
  |1,_,_,h=>by cases h;intro a w;simp[Instr.fieldAt,run_underlying Tryz.underlying138,Instr.sureAddr,fieldPlace,Tryz.sizeOf3]
  |2,_,_,h=>by cases h;intro a w;simp[Instr.fieldAt,run_underlying Tryz.underlying138,Instr.sureAddr,fieldPlace,Tryz.sizeOf3]
  |3,_,_,h=>by cases h;intro a w;simp[Instr.fieldAt,run_underlying Tryz.underlying138,Instr.sureAddr,fieldPlace,Tryz.sizeOf3]
  |4,_,_,h=>by cases h;intro a w;simp[Instr.fieldAt,run_underlying Tryz.underlying138,Instr.sureAddr,fieldPlace,Tryz.sizeOf3]
  |_+5,_,_,h=>by simp[ti_138] at h) (bld:=fun _ ps cs hf w=>by
  have hp: ∀ {fs:Array Field},Tryz.prog.underlying 138=some (.struct fs)-> ∀w,(fs.mapM fun f=>(do pure (f.offset,<-sizeOf f.type):Sem (Nat×Nat))).run Tryz.prog w= .ok #[(0,4),(4,1),(5,1),(6,1),(7,1)] w:=fun {fs} h=>by
   rw[Tryz.underlying138] at h;cases h;intro w;kernel_rfl
  have hf1:fills (fun(j:Nat)=>([(0,4),(4,1),(5,1),(6,1),(7,1)]:List (Nat×Nat))[j]?) [.int .i64 0,.string ⟨#[]⟩,.int .i64 0,.int .i64 0,.int .i64 0,.int .i64 0,.int .i64 0,.int .i64 0] ps=some cs:=hf
  have hf':=fills_eq _ _ _ _ hf1
  unfold Instr.build
  simp only[Sem.run_bind,Tryz.zeroValue138,Result.andThen,Value.cells,run_underlying Tryz.underlying138,hp Tryz.underlying138]
  have e:(fun(j:Nat)=>(#[(0,4),(4,1),(5,1),(6,1),(7,1)]:Array (Nat×Nat))[j]?)=fun(j:Nat)=>([(0,4),(4,1),(5,1),(6,1),(7,1)]:List (Nat×Nat))[j]?:=by funext j;simp
  rw[e,hf'];rfl)
def ti_158:TI:=⟨1,false,[],none,[.pointer none],none,false,false,false,false,none,none,false,[]⟩
theorem tiok_158:TIok Tryz.prog 158 ti_158:=tk (agg:=Tryz.isAgg158) (sz:=Tryz.sizeOf158) (zero:=fun _=>⟨⟨_,Tryz.zeroValue158,rfl⟩,rfl,rfl⟩)
def ti_166:TI:=⟨2,true,[(0,1),(1,1)],none,[.int .i64 0,.slice none 0 0],none,false,false,false,true,none,none,false,[]⟩
theorem tiok_166:TIok Tryz.prog 166 ti_166:=tk (agg:=Tryz.isAgg166) (sz:=Tryz.sizeOf166) (zero:=fun _=>⟨⟨_,Tryz.zeroValue166,rfl⟩,rfl,rfl⟩) (offs:=fun f j n h=>match f,j,n,h with
  |0,_,_,h=>by cases h;intro a w;simp[Instr.fieldAt,run_underlying Tryz.underlying166,Instr.sureAddr,fieldPlace,Tryz.sizeOf3]
  |1,_,_,h=>by cases h;intro a w;simp[Instr.fieldAt,run_underlying Tryz.underlying166,Instr.sureAddr,fieldPlace,Tryz.sizeOf39]
  |_+2,_,_,h=>by simp[ti_166] at h) (bld:=fun _ ps cs hf w=>by
  have hp: ∀ {fs:Array Field},Tryz.prog.underlying 166=some (.struct fs)-> ∀w,(fs.mapM fun f=>(do pure (f.offset,<-sizeOf f.type):Sem (Nat×Nat))).run Tryz.prog w= .ok #[(0,1),(1,1)] w:=fun {fs} h=>by
   rw[Tryz.underlying166] at h;cases h;intro w;kernel_rfl
  have hf1:fills (fun(j:Nat)=>([(0,1),(1,1)]:List (Nat×Nat))[j]?) [.int .i64 0,.slice none 0 0] ps=some cs:=hf
  have hf':=fills_eq _ _ _ _ hf1
  unfold Instr.build
  simp only[Sem.run_bind,Tryz.zeroValue166,Result.andThen,Value.cells,run_underlying Tryz.underlying166,hp Tryz.underlying166]
  have e:(fun(j:Nat)=>(#[(0,1),(1,1)]:Array (Nat×Nat))[j]?)=fun(j:Nat)=>([(0,1),(1,1)]:List (Nat×Nat))[j]?:=by funext j;simp
  rw[e,hf'];rfl)
def ti_167:TI:=⟨1,false,[],some (166,2,32),[.slice none 0 0],none,false,false,false,false,none,none,false,[]⟩
theorem tiok_167:TIok Tryz.prog 167 ti_167:=tk (agg:=Tryz.isAgg167) (sz:=Tryz.sizeOf167) (zero:=fun _=>⟨⟨_,Tryz.zeroValue167,rfl⟩,rfl,rfl⟩) (el:=fun e n b h=>by cases h;exact⟨Tryz.underlying167,Tryz.sizeOf166,el_ok (by kernel_rfl)⟩)
def ti_177:TI:=⟨1,false,[],none,[],none,false,false,false,false,none,none,true,[]⟩
theorem tiok_177:TIok Tryz.prog 177 ti_177:=tk (agg:=Tryz.isAgg177) (sz:=Tryz.sizeOf177) (zero:=fun h=>absurd rfl h) (ifc:=fun _=>⟨_,Tryz.underlying177⟩)
def ti_189:TI:=⟨1,false,[],none,[.int .u32 0],some .u32,false,false,false,false,none,none,false,[]⟩
theorem tiok_189:TIok Tryz.prog 189 ti_189:=tk (agg:=Tryz.isAgg189) (sz:=Tryz.sizeOf189) (zero:=fun _=>⟨⟨_,Tryz.zeroValue189,rfl⟩,rfl,rfl⟩) (ik:=fun k h=>by cases h;exact Tryz.underlying189)
def ti_203:TI:=⟨1,false,[],none,[],none,false,false,false,false,none,none,false,[]⟩
theorem tiok_203:TIok Tryz.prog 203 ti_203:=tk (agg:=Tryz.isAgg203) (sz:=Tryz.sizeOf203) (zero:=fun h=>absurd rfl h)
def ti_206:TI:=⟨3,true,[(0,1),(1,1),(2,1)],none,[],none,false,false,false,false,none,none,false,[]⟩
theorem tiok_206:TIok Tryz.prog 206 ti_206:=tk (agg:=Tryz.isAgg206) (sz:=Tryz.sizeOf206) (zero:=fun h=>absurd rfl h) (offs:=fun f j n h=>match f,j,n,h with
  |0,_,_,h=>by cases h;intro a w;simp[Instr.fieldAt,run_underlying Tryz.underlying206,Instr.sureAddr,fieldPlace,Tryz.sizeOf9]
  |1,_,_,h=>by cases h;intro a w;simp[Instr.fieldAt,run_underlying Tryz.underlying206,Instr.sureAddr,fieldPlace,Tryz.sizeOf9]
  |2,_,_,h=>by cases h;intro a w;simp[Instr.fieldAt,run_underlying Tryz.underlying206,Instr.sureAddr,fieldPlace,Tryz.sizeOf177]
  |_+3,_,_,h=>by simp[ti_206] at h)
def ti_213:TI:=⟨1,false,[],some (215,2,16),[.slice none 0 0],none,false,false,false,false,none,none,false,[]⟩
theorem tiok_213:TIok Tryz.prog 213 ti_213:=tk (agg:=Tryz.isAgg213) (sz:=Tryz.sizeOf213) (zero:=fun _=>⟨⟨_,Tryz.zeroValue213,rfl⟩,rfl,rfl⟩) (el:=fun e n b h=>by cases h;exact⟨Tryz.underlying213,Tryz.sizeOf215,el_ok (by kernel_rfl)⟩)
def ti_215:TI:=⟨2,true,[(0,1),(1,1)],none,[.int .i64 0,.int .i64 0],none,false,false,false,true,none,none,false,[]⟩
theorem tiok_215:TIok Tryz.prog 215 ti_215:=tk (agg:=Tryz.isAgg215) (sz:=Tryz.sizeOf215) (zero:=fun _=>⟨⟨_,Tryz.zeroValue215,rfl⟩,rfl,rfl⟩) (offs:=fun f j n h=>match f,j,n,h with
  |0,_,_,h=>by cases h;intro a w;simp[Instr.fieldAt,run_underlying Tryz.underlying215,Instr.sureAddr,fieldPlace,Tryz.sizeOf3]
  |1,_,_,h=>by cases h;intro a w;simp[Instr.fieldAt,run_underlying Tryz.underlying215,Instr.sureAddr,fieldPlace,Tryz.sizeOf3]
  |_+2,_,_,h=>by simp[ti_215] at h) (bld:=fun _ ps cs hf w=>by
  have hp: ∀ {fs:Array Field},Tryz.prog.underlying 215=some (.struct fs)-> ∀w,(fs.mapM fun f=>(do pure (f.offset,<-sizeOf f.type):Sem (Nat×Nat))).run Tryz.prog w= .ok #[(0,1),(1,1)] w:=fun {fs} h=>by
   rw[Tryz.underlying215] at h;cases h;intro w;kernel_rfl
  have hf1:fills (fun(j:Nat)=>([(0,1),(1,1)]:List (Nat×Nat))[j]?) [.int .i64 0,.int .i64 0] ps=some cs:=hf
  have hf':=fills_eq _ _ _ _ hf1
  unfold Instr.build
  simp only[Sem.run_bind,Tryz.zeroValue215,Result.andThen,Value.cells,run_underlying Tryz.underlying215,hp Tryz.underlying215]
  have e:(fun(j:Nat)=>(#[(0,1),(1,1)]:Array (Nat×Nat))[j]?)=fun(j:Nat)=>([(0,1),(1,1)]:List (Nat×Nat))[j]?:=by funext j;simp
  rw[e,hf'];rfl)
def ti_217:TI:=⟨1,false,[],none,[.pointer none],none,false,false,false,false,none,none,false,[]⟩
theorem tiok_217:TIok Tryz.prog 217 ti_217:=tk (agg:=Tryz.isAgg217) (sz:=Tryz.sizeOf217) (zero:=fun _=>⟨⟨_,Tryz.zeroValue217,rfl⟩,rfl,rfl⟩)
def ti_226:TI:=⟨1,false,[],some (232,3,6),[.slice none 0 0],none,false,false,false,false,none,none,false,[]⟩
theorem tiok_226:TIok Tryz.prog 226 ti_226:=tk (agg:=Tryz.isAgg226) (sz:=Tryz.sizeOf226) (zero:=fun _=>⟨⟨_,Tryz.zeroValue226,rfl⟩,rfl,rfl⟩) (el:=fun e n b h=>by cases h;exact⟨Tryz.underlying226,Tryz.sizeOf232,el_ok (by kernel_rfl)⟩)
def ti_227:TI:=⟨1,false,[],some (235,3,12),[.slice none 0 0],none,false,false,false,false,none,none,false,[]⟩
theorem tiok_227:TIok Tryz.prog 227 ti_227:=tk (agg:=Tryz.isAgg227) (sz:=Tryz.sizeOf227) (zero:=fun _=>⟨⟨_,Tryz.zeroValue227,rfl⟩,rfl,rfl⟩) (el:=fun e n b h=>by cases h;exact⟨Tryz.underlying227,Tryz.sizeOf235,el_ok (by kernel_rfl)⟩)
def ti_229:TI:=⟨3,true,[(0,1),(1,1),(2,1)],none,[.slice none 0 0,.slice none 0 0,.int .i64 0],none,false,false,false,false,none,none,false,[]⟩
theorem tiok_229:TIok Tryz.prog 229 ti_229:=tk (agg:=Tryz.isAgg229) (sz:=Tryz.sizeOf229) (zero:=fun _=>⟨⟨_,Tryz.zeroValue229,rfl⟩,rfl,rfl⟩) (offs:=fun f j n h=>match f,j,n,h with
  |0,_,_,h=>by cases h;intro a w;simp[Instr.fieldAt,run_underlying Tryz.underlying229,Instr.sureAddr,fieldPlace,Tryz.sizeOf226]
  |1,_,_,h=>by cases h;intro a w;simp[Instr.fieldAt,run_underlying Tryz.underlying229,Instr.sureAddr,fieldPlace,Tryz.sizeOf227]
  |2,_,_,h=>by cases h;intro a w;simp[Instr.fieldAt,run_underlying Tryz.underlying229,Instr.sureAddr,fieldPlace,Tryz.sizeOf3]
  |_+3,_,_,h=>by simp[ti_229] at h)
def ti_230:TI:=⟨1,false,[],none,[.int .u16 0],some .u16,false,false,false,false,none,none,false,[]⟩
theorem tiok_230:TIok Tryz.prog 230 ti_230:=tk (agg:=Tryz.isAgg230) (sz:=Tryz.sizeOf230) (zero:=fun _=>⟨⟨_,Tryz.zeroValue230,rfl⟩,rfl,rfl⟩) (ik:=fun k h=>by cases h;exact Tryz.underlying230)
def ti_232:TI:=⟨3,true,[(0,1),(1,1),(2,1)],none,[.int .u16 0,.int .u16 0,.int .u16 0],none,false,false,false,false,none,none,false,[]⟩
theorem tiok_232:TIok Tryz.prog 232 ti_232:=tk (agg:=Tryz.isAgg232) (sz:=Tryz.sizeOf232) (zero:=fun _=>⟨⟨_,Tryz.zeroValue232,rfl⟩,rfl,rfl⟩) (offs:=fun f j n h=>match f,j,n,h with
  |0,_,_,h=>by cases h;intro a w;simp[Instr.fieldAt,run_underlying Tryz.underlying232,Instr.sureAddr,fieldPlace,Tryz.sizeOf230]
  |1,_,_,h=>by cases h;intro a w;simp[Instr.fieldAt,run_underlying Tryz.underlying232,Instr.sureAddr,fieldPlace,Tryz.sizeOf230]
  |2,_,_,h=>by cases h;intro a w;simp[Instr.fieldAt,run_underlying Tryz.underlying232,Instr.sureAddr,fieldPlace,Tryz.sizeOf230]
  |_+3,_,_,h=>by simp[ti_232] at h)
def ti_235:TI:=⟨3,true,[(0,1),(1,1),(2,1)],none,[.int .u32 0,.int .u32 0,.int .u32 0],none,false,false,false,false,none,none,false,[]⟩
theorem tiok_235:TIok Tryz.prog 235 ti_235:=tk (agg:=Tryz.isAgg235) (sz:=Tryz.sizeOf235) (zero:=fun _=>⟨⟨_,Tryz.zeroValue235,rfl⟩,rfl,rfl⟩) (offs:=fun f j n h=>match f,j,n,h with
  |0,_,_,h=>by cases h;intro a w;simp[Instr.fieldAt,run_underlying Tryz.underlying235,Instr.sureAddr,fieldPlace,Tryz.sizeOf189]
  |1,_,_,h=>by cases h;intro a w;simp[Instr.fieldAt,run_underlying Tryz.underlying235,Instr.sureAddr,fieldPlace,Tryz.sizeOf189]
  |2,_,_,h=>by cases h;intro a w;simp[Instr.fieldAt,run_underlying Tryz.underlying235,Instr.sureAddr,fieldPlace,Tryz.sizeOf189]
  |_+3,_,_,h=>by simp[ti_235] at h)
def TY:TT:=[(2,⟨1,false,[],none,[.int .i64 0],some .i64,false,false,false,false,none,none,false,[]⟩),(3,⟨1,false,[],none,[.int .i64 0],some .i64,false,false,false,false,none,none,false,[]⟩),(4,⟨1,false,[],none,[.bool false],none,false,true,false,false,none,none,false,[]⟩),(5,⟨1,false,[],none,[.int .u8 0],some .u8,false,false,false,false,none,none,false,[]⟩),(9,⟨1,false,[],none,[.string ⟨#[]⟩],none,true,false,false,false,none,none,false,[]⟩),(20,⟨1,false,[],none,[],none,false,false,false,false,none,none,true,[]⟩),(21,⟨1,false,[],none,[.int .i32 0],some .i32,false,false,false,false,none,none,false,[]⟩),(22,⟨1,false,[],some (82,2,24),[.slice none 0 0],none,false,false,false,false,none,none,false,[]⟩),(23,⟨1,false,[],some (69,3,48),[.slice none 0 0],none,false,false,false,false,none,none,false,[]⟩),(24,⟨1,false,[],some (42,4,72),[.slice none 0 0],none,false,false,false,false,none,none,false,[]⟩),(26,⟨3,true,[(0,1),(1,1),(2,1)],none,[.slice none 0 0,.slice none 0 0,.slice none 0 0],none,false,false,false,true,none,none,false,[]⟩),(30,⟨1,false,[],none,[.int .i64 0],some .i64,false,false,false,false,none,none,false,[]⟩),(32,⟨3,true,[(0,1),(1,1),(2,1)],none,[.int .i64 0,.int .i64 0,.int .i64 0],none,false,false,true,true,none,none,false,[]⟩),(39,⟨1,false,[],some (3,1,8),[.slice none 0 0],none,false,false,false,false,none,none,false,[]⟩),(40,⟨1,false,[],some (50,1,24),[.slice none 0 0],none,false,false,false,false,none,none,false,[]⟩),(42,⟨4,true,[(0,1),(1,1),(2,1),(3,1)],none,[.string ⟨#[]⟩,.slice none 0 0,.int .i64 0,.slice none 0 0],none,false,false,false,true,none,none,false,[]⟩),(47,⟨1,false,[],none,[.int .u64 0],some .u64,false,false,false,false,none,none,false,[]⟩),(48,⟨1,false,[],some (53,7,88),[.slice none 0 0],none,false,false,false,false,none,none,false,[]⟩),(50,⟨1,true,[(0,1)],none,[.slice none 0 0],none,false,false,false,true,none,none,false,[]⟩),(51,⟨1,false,[],some (56,3,24),[.slice none 0 0],none,false,false,false,false,none,none,false,[]⟩),(53,⟨7,true,[(0,1),(1,1),(2,1),(3,1),(4,1),(5,1),(6,1)],none,[.int .i64 0,.int .i64 0,.int .i64 0,.int .i64 0,.int .i64 0,.slice none 0 0,.slice none 0 0],none,false,false,false,true,none,none,false,[]⟩),(54,⟨1,false,[],none,[.int .u64 0],some .u64,false,false,false,false,none,none,false,[]⟩),(56,⟨3,true,[(0,1),(1,1),(2,1)],none,[.int .i64 0,.int .i64 0,.int .u64 0],none,false,false,false,true,none,none,false,[]⟩),(58,⟨1,false,[],none,[.map none],none,false,false,false,false,some (3,3,false,1),none,false,[]⟩),(65,⟨3,true,[(0,1),(1,1),(2,1)],none,[.int .i64 0,.int .i64 0,.int .i64 0],none,false,false,false,true,none,none,false,[]⟩),(69,⟨3,true,[(0,1),(1,1),(2,1)],none,[.string ⟨#[]⟩,.slice none 0 0,.int .i64 0],none,false,false,false,true,none,none,false,[]⟩),(72,⟨4,true,[(0,1),(1,3)],none,[.int .i64 0,.int .i64 0,.int .i64 0,.int .i64 0],none,false,false,false,true,none,none,false,[]⟩),(74,⟨1,false,[],none,[.pointer none],none,false,false,false,false,none,none,false,[]⟩),(76,⟨9,true,[(0,3),(3,4),(7,1),(8,1)],none,[.slice none 0 0,.slice none 0 0,.slice none 0 0,.string ⟨#[]⟩,.slice none 0 0,.int .i64 0,.slice none 0 0,.int .i64 0,.slice none 0 0],none,false,false,false,true,none,none,false,[]⟩),(78,⟨1,false,[],none,[],none,false,false,false,false,none,none,false,[]⟩),(82,⟨2,true,[(0,1),(1,1)],none,[.string ⟨#[]⟩,.int .i64 0],none,false,false,false,false,none,none,false,[]⟩),(84,⟨1,false,[],some (32,3,24),[.slice none 0 0],none,false,false,false,false,none,none,false,[]⟩),(87,⟨1,false,[],none,[.pointer none],none,false,false,false,false,none,none,false,[]⟩),(88,⟨1,false,[],some (93,4,40),[.slice none 0 0],none,false,false,false,false,none,none,false,[]⟩),(91,⟨1,false,[],none,[.pointer none],none,false,false,false,false,none,none,false,[]⟩),(93,⟨4,true,[(0,1),(1,1),(2,1),(3,1)],none,[.int .i64 0,.string ⟨#[]⟩,.int .i64 0,.int .i64 0],none,false,false,false,true,none,none,false,[(0,0)]⟩),(95,⟨1,false,[],some (138,8,72),[.slice none 0 0],none,false,false,false,false,none,none,false,[]⟩),(97,⟨14,true,[(0,1),(1,1),(2,3),(5,4),(9,3),(12,1),(13,1)],none,[.slice none 0 0,.int .i64 0,.slice none 0 0,.slice none 0 0,.slice none 0 0,.int .i64 0,.string ⟨#[]⟩,.int .i64 0,.int .i64 0,.int .i64 0,.int .i64 0,.int .i64 0,.slice none 0 0,.int .i64 0],none,false,false,false,true,none,none,false,[]⟩),(101,⟨1,false,[],some (9,1,16),[.slice none 0 0],none,false,false,false,false,none,none,false,[]⟩),(110,⟨1,false,[],some (39,1,24),[.slice none 0 0],none,false,false,false,false,none,none,false,[]⟩),(112,⟨1,false,[],some (4,1,1),[.slice none 0 0],none,false,false,false,false,none,none,false,[]⟩),(114,⟨1,false,[],none,[.map none],none,false,false,false,false,none,some (3,32,[.i64,.i64,.i64]),false,[]⟩),(126,⟨1,false,[],none,[.pointer none],none,false,false,false,false,none,none,false,[]⟩),(128,⟨6,true,[(0,1),(1,1),(2,1),(3,1),(4,1),(5,1)],none,[.string ⟨#[]⟩,.int .i64 0,.int .i64 0,.int .i64 0,.slice none 0 0,.int .i64 0],none,false,false,false,true,none,none,false,[]⟩),(138,⟨8,true,[(0,4),(4,1),(5,1),(6,1),(7,1)],none,[.int .i64 0,.string ⟨#[]⟩,.int .i64 0,.int .i64 0,.int .i64 0,.int .i64 0,.int .i64 0,.int .i64 0],none,false,false,false,true,none,none,false,[]⟩),(158,⟨1,false,[],none,[.pointer none],none,false,false,false,false,none,none,false,[]⟩),(166,⟨2,true,[(0,1),(1,1)],none,[.int .i64 0,.slice none 0 0],none,false,false,false,true,none,none,false,[]⟩),(167,⟨1,false,[],some (166,2,32),[.slice none 0 0],none,false,false,false,false,none,none,false,[]⟩),(177,⟨1,false,[],none,[],none,false,false,false,false,none,none,true,[]⟩),(189,⟨1,false,[],none,[.int .u32 0],some .u32,false,false,false,false,none,none,false,[]⟩),(203,⟨1,false,[],none,[],none,false,false,false,false,none,none,false,[]⟩),(206,⟨3,true,[(0,1),(1,1),(2,1)],none,[],none,false,false,false,false,none,none,false,[]⟩),(213,⟨1,false,[],some (215,2,16),[.slice none 0 0],none,false,false,false,false,none,none,false,[]⟩),(215,⟨2,true,[(0,1),(1,1)],none,[.int .i64 0,.int .i64 0],none,false,false,false,true,none,none,false,[]⟩),(217,⟨1,false,[],none,[.pointer none],none,false,false,false,false,none,none,false,[]⟩),(226,⟨1,false,[],some (232,3,6),[.slice none 0 0],none,false,false,false,false,none,none,false,[]⟩),(227,⟨1,false,[],some (235,3,12),[.slice none 0 0],none,false,false,false,false,none,none,false,[]⟩),(229,⟨3,true,[(0,1),(1,1),(2,1)],none,[.slice none 0 0,.slice none 0 0,.int .i64 0],none,false,false,false,false,none,none,false,[]⟩),(230,⟨1,false,[],none,[.int .u16 0],some .u16,false,false,false,false,none,none,false,[]⟩),(232,⟨3,true,[(0,1),(1,1),(2,1)],none,[.int .u16 0,.int .u16 0,.int .u16 0],none,false,false,false,false,none,none,false,[]⟩),(235,⟨3,true,[(0,1),(1,1),(2,1)],none,[.int .u32 0,.int .u32 0,.int .u32 0],none,false,false,false,false,none,none,false,[]⟩)]
theorem TYok:TTok Tryz.prog TY:=TTok.cons tiok_2 (TTok.cons tiok_3 (TTok.cons tiok_4 (TTok.cons tiok_5 (TTok.cons tiok_9 (TTok.cons tiok_20 (TTok.cons tiok_21 (TTok.cons tiok_22 (TTok.cons tiok_23 (TTok.cons tiok_24 (TTok.cons tiok_26 (TTok.cons tiok_30 (TTok.cons tiok_32 (TTok.cons tiok_39 (TTok.cons tiok_40 (TTok.cons tiok_42 (TTok.cons tiok_47 (TTok.cons tiok_48 (TTok.cons tiok_50 (TTok.cons tiok_51 (TTok.cons tiok_53 (TTok.cons tiok_54 (TTok.cons tiok_56 (TTok.cons tiok_58 (TTok.cons tiok_65 (TTok.cons tiok_69 (TTok.cons tiok_72 (TTok.cons tiok_74 (TTok.cons tiok_76 (TTok.cons tiok_78 (TTok.cons tiok_82 (TTok.cons tiok_84 (TTok.cons tiok_87 (TTok.cons tiok_88 (TTok.cons tiok_91 (TTok.cons tiok_93 (TTok.cons tiok_95 (TTok.cons tiok_97 (TTok.cons tiok_101 (TTok.cons tiok_110 (TTok.cons tiok_112 (TTok.cons tiok_114 (TTok.cons tiok_126 (TTok.cons tiok_128 (TTok.cons tiok_138 (TTok.cons tiok_158 (TTok.cons tiok_166 (TTok.cons tiok_167 (TTok.cons tiok_177 (TTok.cons tiok_189 (TTok.cons tiok_203 (TTok.cons tiok_206 (TTok.cons tiok_213 (TTok.cons tiok_215 (TTok.cons tiok_217 (TTok.cons tiok_226 (TTok.cons tiok_227 (TTok.cons tiok_229 (TTok.cons tiok_230 (TTok.cons tiok_232 (TTok.cons tiok_235 (TTok.nil)))))))))))))))))))))))))))))))))))))))))))))))))))))))))))))
theorem mixed:Tryz.prog.follows .mixedOrders=true:=by kernel_rfl
class Enc (α:Type) where
 enc:α->List AV
 sz:Nat
 d:α
def eL {α:Type} [Enc α] (l:List α):AV:= .row none (Enc.sz α) l.length fun i=>Enc.enc (l.getD i Enc.d)
def oL {α:Type} [Enc α] (l:List α):Obj:= .row none (Enc.sz α) l.length fun i=>Enc.enc (l.getD i Enc.d)
instance:Enc Int:=⟨fun x=>[.i .i64 x],1,0⟩
instance:Enc Bool:=⟨fun x=>[.b x],1,false⟩
instance:Enc ByteArray:=⟨fun x=>[.s x],1,⟨#[]⟩⟩
instance {α:Type} [Enc α]:Enc (List α):=⟨fun l=>[eL l],1,[]⟩
structure Plc where
 f:Int
 b:Int
 i:Int
 deriving DecidableEq
instance:Enc Plc:=⟨fun x=>[.i .i64 x.f,.i .i64 x.b,.i .i64 x.i],3,⟨0,0,0⟩⟩
structure Opd where
 k:Int
 n:Int
 b:Int
 deriving DecidableEq
instance:Enc Opd:=⟨fun x=>[.i .i64 x.k,.i .i64 x.n,.i .u64 x.b],3,⟨0,0,0⟩⟩
structure InsE where
 op:Int
 reg:Int
 t:Int
 n:Int
 f:Int
 args:List Opd
 to:List Int
 deriving DecidableEq
instance:Enc InsE:=⟨fun x=>[.i .i64 x.op,.i .i64 x.reg,.i .i64 x.t,.i .i64 x.n,.i .i64 x.f,eL x.args,eL x.to],7,⟨0,0,0,0,0,[],[]⟩⟩
structure BlkE where
 code:List InsE
 deriving DecidableEq
instance:Enc BlkE:=⟨fun x=>[eL x.code],1,⟨[]⟩⟩
structure FnE where
 name:ByteArray
 params:List Int
 ret:Int
 blocks:List BlkE
 deriving DecidableEq
instance:Enc FnE:=⟨fun x=>[.s x.name,eL x.params,.i .i64 x.ret,eL x.blocks],4,⟨⟨#[]⟩,[],0,[]⟩⟩
structure VarE where
 name:ByteArray
 size:Int
 deriving DecidableEq
instance:Enc VarE:=⟨fun x=>[.s x.name,.i .i64 x.size],2,⟨⟨#[]⟩,0⟩⟩
structure ExtE where
 name:ByteArray
 params:List Int
 ret:Int
 deriving DecidableEq
instance:Enc ExtE:=⟨fun x=>[.s x.name,eL x.params,.i .i64 x.ret],3,⟨⟨#[]⟩,[],0⟩⟩
structure ModE where
 vars:List VarE
 exts:List ExtE
 funcs:List FnE
 deriving DecidableEq
instance:Enc ModE:=⟨fun x=>[eL x.vars,eL x.exts,eL x.funcs],3,⟨[],[],[]⟩⟩
def eS {α:Type} [Enc α] (x:α):AV:= .agg (Enc.enc x)
theorem catF_snoc {α:Type} [Enc α] (l:List α) (x:α): ∀i,i<(l++[x]).length->catF l.length (fun i=>Enc.enc (l.getD i Enc.d)) (fun _=>Enc.enc x) i=Enc.enc ((l++[x]).getD i Enc.d):=fun i hi=>by
 unfold catF
 rw[List.length_append,List.length_singleton] at hi
 split
 ·rename_i h;show Enc.enc (l.getD i Enc.d)=_;congr 1;rw[List.getD_eq_getElem?_getD,List.getD_eq_getElem?_getD,List.getElem?_append_left h]
 ·rename_i h
  obtain rfl:i=l.length:=by omega
  show Enc.enc x=_
  congr 1;rw[List.getD_eq_getElem?_getD,List.getElem?_append_right (Nat.le_refl _),Nat.sub_self];rfl
mutual
theorem noOwn_men {id:Nat}: ∀ {x:AV},noOwn x=true->men id x=false
 | .i k z,_=>rfl
 | .b t,_=>rfl
 | .s t,_=>rfl
 | .v t,_=>rfl
 | .nil,_=>rfl
 | .row nz e n g,_=>rfl
 | .cp cs,_=>rfl
 | .op _ _,h=>nomatch h
 | .orow _ _ _ _,h=>nomatch h
 | .rp _ _ _ _,h=>nomatch h
 | .omap _,h=>nomatch h
 | .agg cs,h=>noOwns_mens (x:=cs) h
 | .tup cs,h=>noOwns_mens (x:=cs) h
 | .clo f cs,h=>noOwns_mens (x:=cs) h
 | .ifc t x,h=>noOwn_men (x:=x) h
 | .any,_=>rfl
 | .pth _ _ _ _ _,h=>nomatch h
 | .pp _ _ _ _ _,h=>nomatch h
theorem noOwns_mens {id:Nat}: ∀ {x:List AV},noOwns x=true->mens id x=false
 |[],_=>rfl
 |x::xs,h=>by
  simp only[noOwns,Bool.and_eq_true] at h
  simp only[mens,noOwn_men h.1,noOwns_mens h.2,Bool.or_false]
end
theorem Clo.one {r:AV} (h:noOwn r=true):Clo r []:=⟨fun id hm=>(Bool.noConfusion ((noOwn_men h).symm.trans hm)),fun i ob h=>nomatch h⟩
theorem wr64 {b:Bool} {z:Int} (h1: -9223372036854775808<=z) (h2:z<=9223372036854775807):b=true->z=IntKind.i64.wrap z:=fun _=>by
 rw[IntKind.wrap_i64];omega
theorem wru64 {b:Bool} {z:Int} (h1:0<=z) (h2:z<=18446744073709551615):b=true->z=IntKind.u64.wrap z:=fun _=>by
 rw[IntKind.wrap_u64];omega
class Siz (α:Type) [Enc α] where
 sizF:α->Nat
 z:sizF Enc.d=0
abbrev siz {α:Type} [Enc α] [Siz α] (x:α):Nat:=Siz.sizF x
instance:Siz Int:=⟨fun _=>0,rfl⟩
instance:Siz Bool:=⟨fun _=>0,rfl⟩
instance:Siz ByteArray:=⟨fun x=>x.size,rfl⟩
instance:Siz Opd:=⟨fun _=>0,rfl⟩
instance {α:Type} [Enc α] [Siz α]:Siz (List α):=⟨fun l=>l.length+(l.map siz).sum,rfl⟩
instance:Siz InsE:=⟨fun x=>siz x.args+siz x.to,rfl⟩
instance:Siz BlkE:=⟨fun x=>siz x.code,rfl⟩
instance:Siz FnE:=⟨fun x=>siz x.name+siz x.params+siz x.blocks,rfl⟩
instance:Siz VarE:=⟨fun x=>siz x.name,rfl⟩
instance:Siz ExtE:=⟨fun x=>siz x.name+siz x.params,rfl⟩
instance:Siz ModE:=⟨fun x=>siz x.vars+siz x.exts+siz x.funcs,rfl⟩
theorem len_siz {α:Type} [Enc α] [Siz α] (l:List α):l.length<=siz l:=Nat.le_add_right _ _
theorem siz_mem {α:Type} [Enc α] [Siz α]: ∀ {l:List α} {x:α},x∈l->siz x+l.length<=siz l
 |y::l,x,h=>by
  have e:siz (y::l)=l.length+1+(siz y+(l.map siz).sum):=rfl
  have e2:siz l=l.length+(l.map siz).sum:=rfl
  rw[e,List.length_cons]
  cases h with
  |head=>omega
  |tail _ h=>have:=siz_mem h;omega
theorem siz_at {α:Type} [Enc α] [Siz α] (l:List α) (i:Nat):siz (l.getD i Enc.d)<=siz l:=by
 rw[List.getD_eq_getElem?_getD]
 rcases Nat.lt_or_ge i l.length with h|h
 ·rw[List.getElem?_eq_getElem h];exact Nat.le_trans (Nat.le_add_right _ _) (siz_mem (List.getElem_mem h))
 ·rw[List.getElem?_eq_none h];show Siz.sizF Enc.d<=_;rw[Siz.z];exact Nat.zero_le _
theorem foldl_take {α β:Type} {f:β->α->β} {b:β} {l:List α} {q:Nat} {d:α} (h:q<l.length):(l.take (q+1)).foldl f b=f ((l.take q).foldl f b) (l.getD q d):=by
 rw[List.take_add_one,List.foldl_append,List.getD_eq_getElem?_getD,List.getElem?_eq_getElem h];rfl
def bx {α:Type} [Enc α] (x:α):Obj:= .box none none (Enc.enc x)
theorem pickB_or {c q:Bool} {y:Operand} {u:Bool}:pickB c (.const (.bool true)) y u q=(c||q):=by cases c<;>cases y<;>first|rfl|(rename_i v;cases v<;>rfl)
theorem pickB_and {c q:Bool} {n:Nat} {u:Bool}:pickB c (.tmp n) (.const (.bool false)) q u=(c&&q):=rfl
theorem Clo.row {d e off n e' n':Nat} {g:Nat->List AV}:Clo (.orow d e off n) [(d,.row none e' n' g)]:=by
 refine⟨fun id hm=>?_,fun i ob h id hm=>?_⟩
 ·simp only[men] at hm;have:=Nat.eq_of_beq_eq_true hm;subst this;rw[lk_cons,if_pos rfl];rfl
 ·rw[lk_cons] at h
  split at h
  ·cases h;cases hm
  ·simp[lk] at h
theorem nd1 (d:Nat):[d].Nodup:=by simp
theorem nd2 {d d':Nat} (h:d≠d'):[d,d'].Nodup:=by simp[h]
theorem blocks_le (f:FnE):f.blocks.length<=siz f:=by have:=len_siz f.blocks;have e:siz f=siz f.name+siz f.params+siz f.blocks:=rfl;omega
theorem params_le (f:FnE):f.params.length<=siz f:=by have:=len_siz f.params;have e:siz f=siz f.name+siz f.params+siz f.blocks:=rfl;omega
theorem codes_le (f:FnE) (b:Nat):siz (f.blocks.getD b Enc.d).code<=siz f:=by have:=siz_at f.blocks b;have e:siz f=siz f.name+siz f.params+siz f.blocks:=rfl;have e2:siz (f.blocks.getD b Enc.d)=siz (f.blocks.getD b Enc.d).code:=rfl;omega
theorem code_le (f:FnE) (b:Nat):(f.blocks.getD b Enc.d).code.length<=siz f:=Nat.le_trans (len_siz _) (codes_le f b)
theorem ins_le (f:FnE) (b i:Nat):siz ((f.blocks.getD b Enc.d).code.getD i Enc.d)<=siz f:=Nat.le_trans (siz_at _ _) (codes_le f b)
theorem to_le (x:InsE):x.to.length<=siz x:=by have:=len_siz x.to;have e:siz x=siz x.args+siz x.to:=rfl;omega
theorem args_le (x:InsE):x.args.length<=siz x:=by have:=len_siz x.args;have e:siz x=siz x.args+siz x.to:=rfl;omega
theorem snoc_len {α:Type} {l l':List α} {x:α} (e:l'=l++[x]):l.length+1=l'.length:=by rw[e,List.length_append];rfl
theorem snoc_get {α:Type} [Enc α] {l l':List α} {x:α} {cs:List AV} (e:l'=l++[x]) (hc:cs=Enc.enc x): ∀i,i<l'.length->catF l.length (offF 0 fun i=>Enc.enc (l.getD i Enc.d)) (litF [cs]) i=(fun i=>Enc.enc (l'.getD i Enc.d)) i:=fun i hi=>by
 subst e hc;exact catF_snoc l x i hi
theorem pow_lt {n:Nat} (h:n<64):(0:Int)<2^n/\(2:Int)^n<18446744073709551616:=by
 have h2:(2:Nat)^n<2^64:=Nat.pow_lt_pow_right (by decide) h
 have h3:0<(2:Nat)^n:=Nat.pow_pos (by decide)
 have e:(2:Int)^n=((2^n:Nat):Int):=by rw[Int.natCast_pow];rfl
 rw[e];omega
theorem shl1 {b:Bool} {n:Nat} (h:n<64):b=true->(2:Int)^n=IntKind.u64.wrap (1*2^min n IntKind.u64.bits):=fun _=>by
 have hp:=pow_lt h
 rw[show min n IntKind.u64.bits=n from Nat.min_eq_left (Nat.le_of_lt h),Int.one_mul,IntKind.wrap_u64,Int.emod_eq_of_lt (by omega) (by omega)]
theorem snoc_fun {g:Nat->List AV} {k:Nat} {cs:List AV} (h:cs=g k): ∀i,i<k+1->catF k (offF 0 g) (litF [cs]) i=g i:=fun i hi=>by
 show catF k g (fun _=>cs) i=g i
 unfold catF;split
 ·rfl
 ·obtain rfl:i=k:=by omega
  exact h
theorem tg_nil {c:Nat}:tg [] c=true:=rfl
theorem tg_ite {c' p c:Nat} {b:Bool} {tb:Tb}:tg ((c',p,b)::tb) c=if c'=c then b else tg tb c:=by
 unfold tg;rw[lk_cons]
 by_cases h:c'=c
 ·rw[if_pos h,if_pos h]
 ·rw[if_neg h,if_neg h]
theorem size_mk (l:List UInt8):ByteArray.size ⟨l.toArray⟩=l.length:=rfl
theorem ti {p:Prop} (h:p:=by first|omega|(simp only[Int.toNat_natCast,Int.reduceToNat];omega)):p:=h
theorem si {p:Prop} (h:p:=by first|omega|(simp only[Int.toNat_natCast,Int.reduceToNat,addZ];omega)|(simp only[ByteArray.size_append,size_mk,List.length_cons,List.length_nil,Int.toNat_natCast,Int.reduceToNat];omega)|exact⟨rfl,by omega⟩|exact⟨Nat.le_refl _,by omega⟩|(simp only[addZ_eq,Nat.zero_add,Int.toNat_natCast,Int.reduceToNat];omega)|((repeat' apply And.intro)<;>first|exact trivial|omega)|exact rfl|decide+kernel):p:=h
theorem tgi {t:Tb} {c:Nat} {p:Prop} (h:tg t c=true->p:=by intro ht;simp only[tg_ite,tg_nil,cn,Nat.reduceMul,Nat.reduceAdd,Nat.reduceEqDiff,↓reduceIte,pickB_or,pickB_and,Bool.and_eq_true,Bool.or_eq_true,Bool.or_eq_false_iff,Bool.and_eq_false_iff,Bool.not_eq_true',Bool.not_eq_false',decide_eq_true_eq,decide_eq_false_iff_not,Int.toNat_natCast,Int.reduceToNat,ne_eq] at ht⊢;first|omega|(simp only[Int.toNat_natCast,Int.reduceToNat];omega)):tg t c=true->p:=h
theorem sB:(∀n:Nat,((n:Int)).toNat=n)/\(∀x y:Bool,((x||y)=false)=(x=false/\y=false))/\(∀x y:Bool,((x&&y)=false)=(x=false\/y=false))/\(∀b:Bool,((!b)=false)=(b=true))/\(∀b:Bool,((!b)=true)=(b=false))/\(∀a b:Bool,((a&&b)=true)=(a=true/\b=true))/\(∀a b:Bool,((a||b)=true)=(a=true\/b=true))/\(∀(p:Prop) [Decidable p],(decide p=true)=p)/\(∀(p:Prop) [Decidable p],(decide p=false)= ¬p):=
 ⟨fun _=>rfl,fun x y=>by cases x<;>cases y<;>simp,fun x y=>by cases x<;>cases y<;>simp,fun b=>by cases b<;>simp,fun b=>by cases b<;>simp,fun a b=>by cases a<;>cases b<;>simp,fun a b=>by cases a<;>cases b<;>simp,fun p _=>propext decide_eq_true_iff,fun p _=>propext decide_eq_false_iff_not⟩
theorem dD {p A q B r C u D v F:Prop} (k:A) (h:p:=by decide+kernel):Drw p A q B r C u D v F:= .d h k
theorem dF {p A q B r C u D v F:Prop} (k:B) (h:q:=by decide+kernel):Drw p A q B r C u D v F:= .f h k
theorem dL {p A q B r C u D v F:Prop} (k:C) (h:r:=by decide+kernel):Drw p A q B r C u D v F:= .l h k
theorem dP {p A q B r C u D v F:Prop} (k:D) (h:u:=by decide+kernel):Drw p A q B r C u D v F:= .p h k
theorem dE {p A q B r C u D v F:Prop} (k:F) (h:v:=by decide+kernel):Drw p A q B r C u D v F:= .e h k
theorem d0 {p A q B:Prop} (k:A) (h:p:=by decide+kernel):Drw0 p A q B:= .d h k
theorem d1 {p A q B:Prop} (k:B) (h:q:=by decide+kernel):Drw0 p A q B:= .f h k
theorem cK {P:Program} {tb:Tb} {c:Nat} {f:FuncId} {vs:List AV} {K:AV->Os->Prop} {r:AV} {no:Os} (h:tg tb c=true->ASpec P f vs r no) (k:K r no):CallK P tb c f vs K:= .mk r no h k
theorem cL {P:Program} {tb:Tb} {c:Nat} {f:FuncId} {vs:List AV} {K:AV->Os->Prop} {r:AV} (h:tg tb c=true->ASpec P f vs r []) (k:K r []) (hr:noFz r=true:=by rfl):CallL P tb c f vs K:= .mk r [] h hr (fun _ _ h=>nomatch h) k
theorem cM {fx:Fx} {P:Program} {s:Sl} {o:Os} {f:FuncId} {vs:List AV} {K:AV->Os->Prop} {os:Os} {r:AV} {no:Os} (h:ASpecF fx P f vs os r no) (k:K r (rePin fx o os no++dropO os o)) (hs:subP o os:=by repeat' first|exact trivial|exact⟨_,rfl⟩|exact rfl|refine And.intro ?_ ?_) (hc:(nodN os&&(chkW fx s (dropO os o) no os&&chkB s (dropO os o) os no))=true:=by exact rfl):CallM P s o f vs K:= .mk os r no hs hc h k
theorem cP {fx:Fx} {P:Program} {s:Sl} {o:Os} {f:FuncId} {vs:List AV} {K:AV->Os->Prop} {Z:AV->Sl->Os->Prop} {os:Os} {t:Prop} {r:AV} {no:Os} {v:AV} {no':Os} (h:ASpecO fx P f vs os t r no v no') (k:t->K r (rePin fx o os no++dropO os o)) (k': ¬t->Z v (slP s os) (rePin fx o os no'++dropO os o)) (hs:subP o os:=by repeat' first|exact trivial|exact⟨_,rfl⟩|exact rfl|refine And.intro ?_ ?_) (hc:(nodN os&&((chkW fx s (dropO os o) no os&&chkB s (dropO os o) os no)&&(chkW fx (slP s os) (dropO os o) no' os&&chkB (slP s os) (dropO os o) os no')))=true:=by exact rfl):CallP P s o f vs K Z:= .mk os t r no v no' hs hc h k k'
theorem eN {p:Prop} (h:p:=by first|exact trivial|rfl|exact fun _ _=>rfl|omega|(show(_:Int)=_;first|omega|(simp only[Int.toNat_natCast];omega))):p:=h
theorem cQ {P:Program} {s:Sl} {o:Os} {f:FuncId} {vs:List AV} {K:AV->Prop} {Z:AV->Sl->Os->Prop} {fx:Fx} {t:Prop} {r v:AV} (h:ASpecO fx P f vs [] t r [] v []) (k:t->K r) (k': ¬t->Z v s o) (hr:(flatI r&&flatI v)=true:=by exact rfl):CallQ P s o f vs K Z:= .mk t r v h hr k k'
theorem eP (ρ:List (Nat×Nat)) (nl:List Nat) {ch:List Nat} {vs:List AV} {U s:Sl} {o o':Os} (hch:entS ρ nl s (zipS ch vs)) (ho:entO ρ nl o o') (hU:lkU s U=valU U:=by rfl) (hs:safeU ρ nl U=true:=by rfl) (hn:(nodupB (srcs ρ nl o')&&nodupB (keysN o'))=true:=by rfl):Ent s o (zipS ch vs++U) o':=Ent.lp ρ nl hU hs hn hch ho
theorem iG {t:Bool} {A B p q p' q':Prop} (h1:p->q->A) (h2:p'->q'->B) (e1:t=true->p/\q:=by first|(intro hb;(try simp only[pickB_or,pickB_and] at hb);have hc:=hb;(try simp only[sB,Int.reduceToNat] at hc);(try simp only[addZ0] at hc);exact⟨hb,hc⟩)|(intro hb;refine(?_:False/\False);exfalso;(try simp only[pickB_or,pickB_and] at hb);have hc:=hb;(try simp only[sB,Int.reduceToNat] at hc);(try simp only[addZ0] at hc))) (e2:t=false->p'/\q':=by first|(intro hb;(try simp only[pickB_or,pickB_and] at hb);have hc:=hb;(try simp only[sB,Int.reduceToNat] at hc);(try simp only[addZ0] at hc);exact⟨hb,hc⟩)|(intro hb;refine(?_:False/\False);exfalso;(try simp only[pickB_or,pickB_and] at hb);have hc:=hb;(try simp only[sB,Int.reduceToNat] at hc);(try simp only[addZ0] at hc))):(t=true->A)/\(t=false->B):=⟨fun h=>h1 (e1 h).1 (e1 h).2,fun h=>h2 (e2 h).1 (e2 h).2⟩
theorem gqs {P Q:Prop} (k:Q) (h:Q->P:=by first|exact fun k=>⟨_,wr64 ti ti,k⟩|exact fun k=>And.intro si k|exact fun k=>LitW.frz k|exact fun k=>PreW.frz k|exact fun k=>StN.a k|exact fun k=>AppW.cp k|exact fun k=>TakW.row k|exact fun k=>dD k|exact fun k=>dF k|exact fun k=>d0 k|exact fun k=>d1 k|exact fun k=>dL k|exact fun k=>dP k|exact fun k=>And.intro tgi k|exact fun k=>⟨_,shl1 (by omega),k⟩|exact fun k=>⟨_,wru64 ti ti,k⟩|exact fun k=>⟨_,fun _=>(IntKind.wrap_u64 _).symm,k⟩):P:=h k
theorem gqt {P Q:Prop} (k:Q) (h:Q->P:=by first|exact fun k=>⟨_,wr64 ti ti,k⟩|exact fun k=>And.intro si k|exact fun k=>And.intro ⟨rfl,fun _ _=>rfl⟩ k|exact fun k=>And.intro (⟨⟨rfl,rfl⟩,by omega⟩:(_=_/\_=_)/\_) k|exact fun k=>And.intro (⟨rfl,by omega⟩:_=_/\_) k|exact fun k=>LitW.frz k|exact fun k=>PreW.own k|exact fun k=>StN.a k|exact fun k=>AppW.mv k|exact fun k=>TakW.tree k|exact fun k=>dD k|exact fun k=>dF k|exact fun k=>d0 k|exact fun k=>d1 k|exact fun k=>dL k|exact fun k=>dP k|exact fun k=>And.intro tgi k|exact fun k=>⟨_,shl1 (by omega),k⟩|exact fun k=>⟨_,wru64 ti ti,k⟩|exact fun k=>⟨_,fun _=>(IntKind.wrap_u64 _).symm,k⟩):P:=h k
theorem gqp {P Q:Prop} (k:Q) (h:Q->P:=by first|exact fun k=>⟨_,wr64 ti ti,k⟩|exact fun k=>And.intro si k|exact fun k=>And.intro ⟨rfl,fun _ _=>rfl⟩ k|exact fun k=>And.intro (⟨⟨rfl,rfl⟩,by omega⟩:(_=_/\_=_)/\_) k|exact fun k=>And.intro (⟨rfl,by omega⟩:_=_/\_) k|exact fun k=>LitW.frz k|exact fun k=>PreW.own k|exact fun k=>StN.a k|exact fun k=>AppW.mv k|exact fun k=>TakW.tree k|exact fun k=>dE k|exact fun k=>dD k|exact fun k=>dF k|exact fun k=>d0 k|exact fun k=>d1 k|exact fun k=>dL k|exact fun k=>dP k|exact fun k=>And.intro tgi k|exact fun k=>⟨_,shl1 (by omega),k⟩|exact fun k=>⟨_,wru64 ti ti,k⟩|exact fun k=>⟨_,fun _=>(IntKind.wrap_u64 _).symm,k⟩):P:=h k
theorem gqw {P Q:Prop} (k:Q) (h:Q->P:=by first|exact fun k=>⟨_,wr64 ti ti,k⟩|exact fun k=>And.intro si k|exact fun k=>LitW.frz k|exact fun k=>PreW.frz k|exact fun k=>StN.a k|exact fun k=>AppW.cp k|exact fun k=>TakW.row k|exact fun k=>dD k|exact fun k=>dF k|exact fun k=>d0 k|exact fun k=>d1 k|exact fun k=>dL k|exact fun k=>dP k|exact fun k=>And.intro tgi k|exact fun k=>⟨_,shl1 (by omega),k⟩|exact fun k=>⟨_,fun _=>rfl,k⟩):P:=h k
structure Wr (Q:Prop):Prop where k:Q
theorem gqc {S B Q P:Prop} (h:(B->S)->Wr Q->P:=by intro x k;first|exact cK x k.k|((try(refine CallW.lent ?_;(conv=>whnf);repeat(refine And.intro si ?_;(conv=>whnf))));exact cL x k.k)|(refine CallG.add ?_;(conv=>whnf);(repeat(refine And.intro si ?_;(conv=>whnf)));first|exact cK x k.k|exact cL x k.k)) (x:B->S) (k:Q):P:=h x ⟨k⟩
theorem gqm {S Q P:Prop} (h:S->Wr Q->P:=by intro x k;refine CallW.chg ?_;(conv=>whnf);exact cM x k.k) (x:S) (k:Q):P:=h x ⟨k⟩
theorem yb {p q:Prop} (k:q) (h:p:=by first|omega|(simp only[Int.toNat_natCast,Int.reduceToNat,addZ];omega)|(simp only[ByteArray.size_append,size_mk,List.length_cons,List.length_nil,Int.toNat_natCast,Int.reduceToNat];omega)|exact⟨rfl,by omega⟩|exact⟨Nat.le_refl _,by omega⟩|(simp only[addZ_eq,Nat.zero_add,Int.toNat_natCast,Int.reduceToNat];omega)|((repeat' apply And.intro)<;>first|exact trivial|omega)|exact rfl|decide+kernel):p/\q:=⟨h,k⟩
theorem yi {A B:Prop} (h:B):AppW A B:= .mv h
theorem yt {A B C:Prop} (h:A):CallV A B C:= .ret h
theorem yE {p:Prop} (h:False:=by first|assumption|omega):p:=h.elim
theorem yK {o:Os} {v r:AV} (h:v=r:=by rfl) (hn:noOwn v=true:=by rfl): ∃o',Gives o v o' r []:=⟨_,.keep h hn⟩
theorem zi {a b:Prop} (h:a) (k:b):a/\b:=⟨h,k⟩
def pinO (pin:Nat->Nat):Os->Os
 |[]=>[]
 |(i,.box _ q cs)::o=>(i,.box (some (pin i)) q cs)::pinO pin o
 |(i,.row q e n g)::o=>(i,.row q e n g)::pinO pin o
 |(i,.tree e n g)::o=>(i,.tree e n g)::pinO pin o
 |(i,.mp e n g fF)::o=>(i,.mp e (pin i+1) g fF)::pinO pin o
def pinN (pin:Nat->Nat) (os:Os):Os->Os
 |[]=>[]
 |(i,.box _ q cs)::o=>match lk os i with
  |some (.box _ _ _)=>(i,.box (some (pin i)) q cs)::pinN pin os o
  |_=>(i,.box none q cs)::pinN pin os o
 |(i,.row q e n g)::o=>(i,.row q e n g)::pinN pin os o
 |(i,.tree e n g)::o=>(i,.tree e n g)::pinN pin os o
 |(i,.mp e n g fF)::o=>match lk os i with
  |some (.mp _ _ _ _)=>(i,.mp e (pin i+1) g fF)::pinN pin os o
  |_=>(i,.mp e 0 g fF)::pinN pin os o
theorem pinO_keys {pin:Nat->Nat}: ∀ {o:Os},(pinO pin o).map (·.1)=o.map (·.1)
 |[]=>rfl
 |(i,.box _ _ cs)::o=>by simp only[pinO,List.map_cons,pinO_keys]
 |(i,.row q e n g)::o=>by simp only[pinO,List.map_cons,pinO_keys]
 |(i,.tree e n g)::o=>by simp only[pinO,List.map_cons,pinO_keys]
 |(i,.mp e n g fF)::o=>by simp only[pinO,List.map_cons,pinO_keys]
theorem pinN_keys {pin:Nat->Nat} {os:Os}: ∀ {o:Os},(pinN pin os o).map (·.1)=o.map (·.1)
 |[]=>rfl
 |(i,.box _ _ cs)::o=>by
  simp only[pinN]
  split<;>simp only[List.map_cons,pinN_keys]
 |(i,.row q e n g)::o=>by simp only[pinN,List.map_cons,pinN_keys]
 |(i,.tree e n g)::o=>by simp only[pinN,List.map_cons,pinN_keys]
 |(i,.mp e n g fF)::o=>by
  simp only[pinN]
  split<;>simp only[List.map_cons,pinN_keys]
theorem lk_pinO {pin:Nat->Nat} {i:Nat} {ob:Obj}: ∀ {o:Os},lk (pinO pin o) i=some ob->(∃p q cs,lk o i=some (.box p q cs)/\ob= .box (some (pin i)) q cs)\/(∃Φ k n F,lk o i=some (.mp Φ k n F)/\ob= .mp Φ (pin i+1) n F)\/(lk o i=some ob/\isBox ob=false)
 |[],h=>by simp[pinO,lk] at h
 |(j,.box p q cs)::o,h=>by
  simp only[pinO] at h
  rw[lk_cons] at h⊢
  split at h
  ·rename_i e;cases h;subst e;rw[if_pos rfl];exact .inl ⟨p,q,cs,rfl,rfl⟩
  ·rename_i e;rw[if_neg e];exact lk_pinO h
 |(j,.row q e n g)::o,h=>by
  simp only[pinO] at h
  rw[lk_cons] at h⊢
  split at h
  ·rename_i e;cases h;subst e;rw[if_pos rfl];exact .inr (.inr ⟨rfl,rfl⟩)
  ·rename_i e;rw[if_neg e];exact lk_pinO h
 |(j,.tree e n g)::o,h=>by
  simp only[pinO] at h
  rw[lk_cons] at h⊢
  split at h
  ·rename_i e;cases h;subst e;rw[if_pos rfl];exact .inr (.inr ⟨rfl,rfl⟩)
  ·rename_i e;rw[if_neg e];exact lk_pinO h
 |(j,.mp e n g fF)::o,h=>by
  simp only[pinO] at h
  rw[lk_cons] at h⊢
  split at h
  ·rename_i e';cases h;subst e';rw[if_pos rfl];exact .inr (.inl ⟨e,n,g,fF,rfl,rfl⟩)
  ·rename_i e;rw[if_neg e];exact lk_pinO h
theorem lk_pinN {pin:Nat->Nat} {os:Os} {i:Nat} {ob:Obj}: ∀ {o:Os},lk o i=some ob->(∃p q cs,ob= .box p q cs/\((∃p' q' cs',lk os i=some (.box p' q' cs'))/\lk (pinN pin os o) i=some (.box (some (pin i)) q cs)\/(∀p' q' cs',lk os i≠some (.box p' q' cs'))/\lk (pinN pin os o) i=some (.box none q cs)))\/
  (∃Φ k n F,ob= .mp Φ k n F/\((∃a b c d,lk os i=some (.mp a b c d))/\lk (pinN pin os o) i=some (.mp Φ (pin i+1) n F)\/(∀a b c d,lk os i≠some (.mp a b c d))/\lk (pinN pin os o) i=some (.mp Φ 0 n F)))\/((isBox ob=false/\ ∀a b c d,ob≠ .mp a b c d)/\lk (pinN pin os o) i=some ob)
 |[],h=>by simp[lk] at h
 |(j,.box p q cs)::o,h=>by
  rw[lk_cons] at h
  split at h
  ·rename_i e;cases h;subst e
   refine .inl ⟨p,q,cs,rfl,?_⟩
   simp only[pinN]
   split
   ·rename_i p' q' cs' hq;exact .inl ⟨⟨p',q',cs',hq⟩,by rw[lk_cons,if_pos rfl]⟩
   ·rename_i hq;exact .inr ⟨fun p' q' cs' e=>hq p' q' cs' e,by rw[lk_cons,if_pos rfl]⟩
  ·rename_i e
   have:=lk_pinN (pin:=pin) (os:=os) h
   simp only[pinN]
   split<;>(rw[lk_cons,if_neg e];exact this)
 |(j,.row q e n g)::o,h=>by
  rw[lk_cons] at h
  split at h
  ·rename_i e;cases h;subst e
   exact .inr (.inr ⟨⟨rfl,fun _ _ _ _ h=>nomatch h⟩,by simp only[pinN];rw[lk_cons,if_pos rfl]⟩)
  ·rename_i e
   have:=lk_pinN (pin:=pin) (os:=os) h
   simp only[pinN]
   rw[lk_cons,if_neg e];exact this
 |(j,.tree e n g)::o,h=>by
  rw[lk_cons] at h
  split at h
  ·rename_i e;cases h;subst e
   exact .inr (.inr ⟨⟨rfl,fun _ _ _ _ h=>nomatch h⟩,by simp only[pinN];rw[lk_cons,if_pos rfl]⟩)
  ·rename_i e
   have:=lk_pinN (pin:=pin) (os:=os) h
   simp only[pinN]
   rw[lk_cons,if_neg e];exact this
 |(j,.mp Φ k n F)::o,h=>by
  rw[lk_cons] at h
  split at h
  ·rename_i e;cases h;subst e
   refine .inr (.inl ⟨Φ,k,n,F,rfl,?_⟩)
   simp only[pinN]
   split
   ·rename_i a b c d hq;exact .inl ⟨⟨a,b,c,d,hq⟩,by rw[lk_cons,if_pos rfl]⟩
   ·rename_i hq;exact .inr ⟨fun a b c d e=>hq a b c d e,by rw[lk_cons,if_pos rfl]⟩
  ·rename_i e
   have:=lk_pinN (pin:=pin) (os:=os) h
   simp only[pinN]
   split<;>(rw[lk_cons,if_neg e];exact this)
def fixB (no:Os):Os->Bool
 |[]=>true
 |(_,.box _ _ _)::o=>fixB no o
 |(i,.mp _ _ _ _)::o=>(match lk no i with
  |some (.mp _ _ _ _)=>true
  |none=>true
  |_=>false)&&fixB no o
 |(_,.row _ _ _ _)::_=>false
 |(_,.tree _ _ _)::_=>false
theorem fixB_at {no:Os} {i:Nat} {ob:Obj}: ∀ {o:Os},fixB no o=true->lk o i=some ob->isBox ob=true\/((∃a b c d,ob= .mp a b c d)/\ ∀ob',lk no i=some ob'-> ∃a b c d,ob'= .mp a b c d)
 |[],_,h=>by simp[lk] at h
 |(j,.box p q cs)::o,hk,h=>by
  rw[lk_cons] at h
  split at h
  ·cases h;exact .inl rfl
  ·simp only[fixB] at hk;exact fixB_at hk h
 |(j,.mp a b c d)::o,hk,h=>by
  simp only[fixB,Bool.and_eq_true] at hk
  rw[lk_cons] at h
  split at h
  ·rename_i e;cases h;subst e
   refine .inr ⟨⟨a,b,c,d,rfl⟩,fun ob' h'=>?_⟩
   have:=hk.1
   rw[h'] at this
   cases ob' with
   |mp a b c d=>exact⟨a,b,c,d,rfl⟩
   |box _ _ _=>cases this
   |row _ _ _ _=>cases this
   |tree _ _ _=>cases this
  ·exact fixB_at hk.2 h
 |(j,.row q e n g)::o,hk,h=>nomatch hk
 |(j,.tree e n g)::o,hk,h=>nomatch hk
def okNo (os:Os):Os->Bool
 |[]=>true
 |(_,.box none _ _)::o=>okNo os o
 |(_,.box (some _) _ _)::_=>false
 |(i,.row _ _ _ _)::o=>(match lk os i with
  |some (.box _ _ _)=>false
  |_=>true)&&okNo os o
 |(i,.tree _ _ _)::o=>(match lk os i with
  |some (.box _ _ _)=>false
  |_=>true)&&okNo os o
 |(i,.mp _ k _ _)::o=>(match lk os i,Nat.beq k 0 with
  |some (.box _ _ _),_=>false
  |_,b=>b)&&okNo os o
theorem okNo_at {os:Os} {i:Nat} {ob:Obj}: ∀ {o:Os},okNo os o=true->lk o i=some ob->(∃q cs,ob= .box none q cs)\/(isBox ob=false/\(∀a b c d,ob= .mp a b c d->b=0)/\ ∀p q cs,lk os i≠some (.box p q cs))
 |[],_,h=>by simp[lk] at h
 |(j,.box none q cs)::o,hk,h=>by
  rw[lk_cons] at h
  split at h
  ·cases h;exact .inl ⟨_,_,rfl⟩
  ·simp only[okNo] at hk;exact okNo_at hk h
 |(j,.box (some p) q cs)::o,hk,h=>nomatch hk
 |(j,.row q e n g)::o,hk,h=>by
  simp only[okNo,Bool.and_eq_true] at hk
  rw[lk_cons] at h
  split at h
  ·rename_i e;cases h;subst e
   refine .inr ⟨rfl,(fun _ _ _ _ h=>nomatch h),fun p q cs e=>?_⟩
   have:=hk.1
   rw[e] at this;cases this
  ·exact okNo_at hk.2 h
 |(j,.tree e n g)::o,hk,h=>by
  simp only[okNo,Bool.and_eq_true] at hk
  rw[lk_cons] at h
  split at h
  ·rename_i e;cases h;subst e
   refine .inr ⟨rfl,(fun _ _ _ _ h=>nomatch h),fun p q cs e=>?_⟩
   have:=hk.1
   rw[e] at this;cases this
  ·exact okNo_at hk.2 h
 |(j,.mp e n g fF)::o,hk,h=>by
  simp only[okNo,Bool.and_eq_true] at hk
  rw[lk_cons] at h
  split at h
  ·rename_i e;cases h;subst e
   have h1:=hk.1
   split at h1
   ·cases h1
   ·rename_i hq
    refine .inr ⟨rfl,(fun a b c d e=>?_),fun p q cs e=>hq p q cs e⟩
    cases e;exact Nat.eq_of_beq_eq_true h1
  ·exact okNo_at hk.2 h
def RetM (T:TT) (rs:List ResultVar) (pin:Nat->Nat) (os:Os) (s:Sl) (o:Os) (r:AV) (no:Os):Prop:=
 retA T s o rs fun v=>∃ρ nl,mat ρ nl v r/\entO ρ nl o (pinN pin os no)/\(nodupB (srcs ρ nl (pinN pin os no))&&nodupB (keysN no))=true
def endM (T:TT) (rs:List ResultVar) (pin:Nat->Nat) (os:Os) (r:AV) (no:Os):Ex->Sl->Os->Prop
 | .r,s,o=>RetM T rs pin os s o r no
 | .n,s,o=>RetM T rs pin os s o r no
 | .x _,_,_=>False
def fxB (fx:Fx) (no os:Os):Bool:=match fx with
 | .b t=>!t||fixB no os
 | .l [] _=>true
 | .l (_::_) _=>false
theorem fxB_at {fx:Fx} {no os:Os} {d:Nat} (h:fxB fx no os=true) (hk:kpF fx d=true):fixB no os=true:=by
 unfold fxB at h
 split at h
 ·rename_i t
  rw[show t=true from hk] at h;exact h
 ·cases hk
 ·cases h
theorem end_key {fx:Fx} {pv:Nat->Option Value} {os no:Os} {v r:AV} {m:Nat} {ds:List Deferred} {S:Nat->Prop} {β β1:Nat->Wt} {w w':World} {hvr:Rob S w Vr} {hap: ∀k,S k->k∉feet os β} {s':Sl} {o':Os} {a:Act} {u:Value} {ρ:List (Nat×Nat)} {nl:List Nat} (hob:OB S β w os) (hok:okNo os no=true) (hfx:fxB fx no os=true)
  (hg:Gam ⟨m,S,w,feet os β,hvr,hap,ds,pv⟩ [] s' o' β1 a w') (hmat:mat ρ nl v r) (hent:entO ρ nl o' (pinN (fun i=>(β i).foot.headD 0) os no)) (hn:(nodupB (srcs ρ nl (pinN (fun i=>(β i).foot.headD 0) os no))&&nodupB (keysN no))=true) (hrel:rel (Env.good ⟨m,S,w,feet os β,hvr,hap,ds,pv⟩ o' β1) β1 w' v u)
  (htop: ∀id ob,lk os id=some ob->kpT fx id=true->(lk no id).isSome=true->(remap ρ nl β1 id).a=(β id).a/\(remap ρ nl β1 id).ok=(β id).ok):
  ∃β',BelowX (feet os β) w w'/\(∀id ob,lk no id=some ob->orel (fun k=>(S k\/w.heap.size<=k\/k∈feet os β)/\k∉feet no β') β' w' (β' id) ob)/\(∀k∈feet no β',(w.heap.size<=k\/k∈feet os β)/\k<w'.heap.size)/\(feet no β').Nodup/\(no.map (·.1)).Nodup/\
    Kept fx os no β β'/\rel (fun k=>(S k\/w.heap.size<=k\/k∈feet os β)/\k∉feet no β') β' w' r u:=by
 let pin:Nat->Nat:=fun i=>(β i).foot.headD 0
 have hβ: ∀i p q cs,lk os i=some (.box p q cs)->β i=⟨some ⟨pin i,0,none⟩,0,[pin i],true,sub0⟩:=fun i p q cs hl=>by
  obtain⟨b,us,ty,h1,h2,h3,h4,h5,h6,h7⟩:=hob.objs i _ hl
  have hp:pin i=b:=by show(β i).foot.headD 0=b;rw[h2];rfl
  rw[hp]
  cases hq:β i with
  |mk a cap foot ok sub=>rw[hq] at h1 h2 h5 h6;simp only at h1 h2 h5 h6;rw[h1,h2,h5,h6.1,h6.2]
 have hβm: ∀i a b c d,lk os i=some (.mp a b c d)->β i=⟨some ⟨pin i,0,none⟩,0,[pin i],true,sub0⟩:=fun i a b c d hl=>by
  obtain⟨⟨h1,h2,h3⟩,b,x,h4,h5,_⟩:=hob.objs i _ hl
  have hp:pin i=b:=by show(β i).foot.headD 0=b;rw[h5];rfl
  rw[hp]
  cases hq:β i with
  |mk a cap foot ok sub=>rw[hq] at h1 h2 h3 h4 h5;simp only at h1 h2 h3 h4 h5;rw[h1,h2,h3,h4,h5]
 simp only[Bool.and_eq_true] at hn
 have hfn:feet (pinN pin os no) (remap ρ nl β1)=feet no (remap ρ nl β1):=feet_keys pinN_keys
 obtain⟨hf1,hf2⟩:=entO_feet hg.nodup hg.keys hent (nodupB_ok hn.1)
 rw[hfn] at hf1 hf2
 have hsub: ∀k∈feet no (remap ρ nl β1),k∈feet o' β1:=fun k hk=>by
  obtain⟨i,_,hki,hi⟩:=hf2 k hk
  obtain⟨ob,hob⟩:=Option.isSome_iff_exists.1 hi
  exact foot_feet hob k hki
 have hc:Comp (Env.good ⟨m,S,w,feet os β,hvr,hap,ds,pv⟩ o' β1) w' (fun k=>(S k\/w.heap.size<=k\/k∈feet os β)/\k∉feet no (remap ρ nl β1)) w':=⟨Nat.le_refl _,fun k _ hg=>⟨⟨hg.1,fun q=>hg.2 (hsub k q)⟩,rfl⟩⟩
 have hob': ∀id ob',lk (pinN pin os no) id=some ob'->orel (fun k=>(S k\/w.heap.size<=k\/k∈feet os β)/\k∉feet no (remap ρ nl β1)) (remap ρ nl β1) w' (remap ρ nl β1 id) ob':=fun id ob' hl=>by
  rcases entO_at hent hl with⟨hm,⟨q,e,g,rfl⟩|⟨e,g,rfl⟩⟩|⟨hm,ob,h1,h2⟩
  ·unfold remap
   rw[hm]
   exact⟨Nat.le_refl _,Nat.zero_le _,.inl ⟨rfl,rfl,rfl⟩⟩
  ·unfold remap
   rw[hm]
   exact orel_nilT
  ·have e1:remap ρ nl β1 id=β1 (rho ρ id):=by unfold remap;rw[hm];rfl
   rw[e1]
   exact matO_ok hc ob ob' h2 (hg.objs _ _ h1)
 refine⟨remap ρ nl β1,hg.below,fun id ob hl=>?_,fun k hk=>⟨(hg.new k (hsub k hk)).1,(hg.new k (hsub k hk)).2⟩,hf1,by rw[<-keysN_eq];exact nodupB_ok hn.2,⟨fun id ob hl hbx hs=>?_,htop⟩,mat_ok hc _ _ _ hmat hrel⟩
 ·rcases lk_pinN (pin:=pin) (os:=os) hl with⟨p,q0,cs,rfl,⟨_,h2⟩|⟨_,h2⟩⟩|⟨Φ,k0,n0,F0,rfl,⟨_,h2⟩|⟨_,h2⟩⟩|⟨_,h2⟩
  ·obtain⟨b,us,ty,g1,g2,g3,g4,g5,g6,g7⟩:=hob' _ _ h2
   cases p with
   |none=>exact⟨b,us,ty,g1,g2,g3,g4,g5,g6,(fun _ h=>nomatch h),g7.2⟩
   |some q=>rcases okNo_at hok hl with⟨_,_,e⟩|⟨e,_⟩<;>cases e
  ·obtain⟨b,us,ty,g1,g2,g3,g4,g5,g6,g7⟩:=hob' _ _ h2
   cases p with
   |none=>exact⟨b,us,ty,g1,g2,g3,g4,g5,g6,(fun _ h=>nomatch h),g7.2⟩
   |some q=>rcases okNo_at hok hl with⟨_,_,e⟩|⟨e,_⟩<;>cases e
  ·have hk0:k0=0:=by
    rcases okNo_at hok hl with⟨_,_,e⟩|⟨_,e,_⟩
    ·cases e
    ·exact e _ _ _ _ rfl
   subst hk0
   obtain⟨g1,b,x,g2,g3,g4,g5,g6⟩:=hob' _ _ h2
   exact⟨g1,b,x,g2,g3,g4,g5,fun _ h=>nomatch h⟩
  ·have hk0:k0=0:=by
    rcases okNo_at hok hl with⟨_,_,e⟩|⟨_,e,_⟩
    ·cases e
    ·exact e _ _ _ _ rfl
   subst hk0
   exact hob' _ _ h2
  ·exact hob' _ _ h2
 ·obtain⟨ob',hob2⟩:=Option.isSome_iff_exists.1 hs
  have hcase:isBox ob=true\/((∃a b c d,ob= .mp a b c d)/\ ∀ob',lk no id=some ob'-> ∃a b c d,ob'= .mp a b c d):=by
   cases hbb:isBox ob with
   |true=>exact .inl rfl
   |false=>
    rw[hbb,Bool.or_false] at hbx
    have:=fixB_at (fxB_at hfx hbx) hl
    rw[hbb] at this
    exact .inr (this.resolve_left (fun h=>nomatch h))
  rcases hcase with hbx|⟨⟨a1,a2,a3,a4,rfl⟩,hmp⟩
  ·cases ob with
   |row q e n g=>cases hbx
   |tree e n g=>cases hbx
   |mp _ _ _ _=>cases hbx
   |box p q0 cs=>
    rcases lk_pinN (pin:=pin) (os:=os) hob2 with⟨p',q',cs',rfl,⟨_,h2⟩|⟨h1,h2⟩⟩|⟨Φ,k0,n0,F0,rfl,_⟩|⟨h1,h2⟩
    ·obtain⟨b,us,ty,g1,g2,g3,g4,g5,g6,g7⟩:=hob' _ _ h2
     rw[hβ _ _ _ _ hl]
     have hb:=g7.1 _ rfl
     subst hb
     cases hq:remap ρ nl β1 id with
     |mk a cap foot ok sub=>rw[hq] at g1 g2 g5 g6;simp only at g1 g2 g5 g6;rw[g1,g2,g5,g6.1,g6.2]
    ·exact absurd hl (h1 _ _ _)
    ·rcases okNo_at hok hob2 with⟨_,_,e⟩|⟨_,_,e⟩
     ·cases e
     ·exact absurd hl (e _ _ _)
    ·rcases okNo_at hok hob2 with⟨_,_,rfl⟩|⟨_,_,e⟩
     ·cases h1.1
     ·exact absurd hl (e _ _ _)
  ·obtain⟨b1,b2,b3,b4,rfl⟩:=hmp _ hob2
   rcases lk_pinN (pin:=pin) (os:=os) hob2 with⟨p',q',cs',e,_⟩|⟨Φ,k0,n0,F0,e,⟨_,h2⟩|⟨h1,_⟩⟩|⟨h1,_⟩
   ·cases e
   ·obtain⟨⟨g1,g2,g3⟩,b,x,g4,g5,_,_,g6⟩:=hob' _ _ h2
    rw[hβm _ _ _ _ _ hl]
    have hb:=g6 _ rfl
    subst hb
    cases hq:remap ρ nl β1 id with
    |mk a cap foot ok sub=>rw[hq] at g1 g2 g3 g4 g5;simp only at g1 g2 g3 g4 g5;rw[g1,g2,g3,g4,g5]
   ·exact absurd hl (h1 _ _ _ _)
   ·exact absurd rfl (h1.2 _ _ _ _)
theorem start_gam {args:List AV} {os:Os} {n:Nat} {ds:List Deferred} {S:Nat->Prop} {β:Nat->Wt} {w:World} {hvr:Rob S w Vr} {hap: ∀k,S k->k∉feet os β} {us:List Value} {a:Act} {N:Nat} {pv:Nat->Option Value} (hob:OB S β w os) (hus:rels S β w args us) (hN:Nat.mod N 1048576=n) (hpv: ∀d,d<Nat.div N 1048576->d<us.length/\us[d]?=pv d) (hlen:args.length<=n) (ha:a.tmps=us.toArray++Array.replicate (n-us.toArray.size) undef) (hd:a.defers=ds):
  Gam ⟨N,S,w,feet os β,hvr,hap,ds,pv⟩ [] (startA args 0) (pinO (fun i=>(β i).foot.headD 0) os) β a w:=by
 let pin:Nat->Nat:=fun i=>(β i).foot.headD 0
 have hl:=rels_len hus
 have hfe:feet (pinO pin os) β=feet os β:=feet_keys pinO_keys
 refine⟨⟨by rw[ha];simp;omega,fun d hd'=>by
  obtain⟨g1,g2⟩:=hpv d hd'
  rw[ha,Array.getElem?_append_left (by simpa using g1)];exact(by simp:us.toArray[d]?=us[d]?).trans g2⟩,hd,TbOk.nil,fun d c v hl'=>?_,fun id ob hl'=>?_,BelowX.refl _ _,fun k hk=>?_,by rw[hfe];exact hob.nodup,by rw[pinO_keys];exact hob.keys⟩
 ·obtain⟨rfl,_,h3⟩:=lk_startA hl'
  obtain⟨u,e1,e2⟩:=rels_get hus h3
  refine⟨u,?_,fun _=>?_⟩
  ·have hd:d<us.length:=(List.getElem?_eq_some_iff.1 (by simpa using e1)).1
   rw[tg_zero TbOk.nil]
   show a.tmps[d]?=some u
   rw[ha,Array.getElem?_append_left (by simpa using hd)]
   simpa using e1
  ·refine rel_mono ?_ _ _ e2
   refine⟨Nat.le_refl _,fun k hk hs=>⟨⟨.inl hs,?_⟩,rfl⟩⟩
   rw[hfe];exact hap k hs
 ·have hc2:Comp S w (Env.good ⟨N,S,w,feet os β,hvr,hap,ds,pv⟩ (pinO pin os) β) w:=⟨Nat.le_refl _,fun k hk hs=>⟨⟨.inl hs,by rw[hfe];exact hap k hs⟩,rfl⟩⟩
  rcases lk_pinO hl' with⟨p,q0,cs,h1,rfl⟩|⟨Φ,k0,n0,F0,h1,rfl⟩|⟨h1,h2⟩
  ·obtain⟨b,us,ty,g1,g2,g3,g4,g5,g6,g7⟩:=hob.objs _ _ h1
   have hp:pin id=b:=by show(β id).foot.headD 0=b;rw[g2];rfl
   exact⟨b,us,ty,g1,g2,g3,rels_mono hc2 _ _ g4,g5,g6,(fun b0 e=>by cases e;exact hp.symm),g7.2⟩
  ·obtain⟨g1,b,x,g2,g3,g4,g5,g6⟩:=hob.objs _ _ h1
   have hp:pin id=b:=by show(β id).foot.headD 0=b;rw[g3];rfl
   exact⟨g1,b,x,g2,g3,g4,g5,fun b0 e=>hp.symm.trans (Nat.succ.inj e)⟩
  ·exact orel_mono hc2 (fun _ _=>rfl) (hob.objs _ _ h1)
 ·rw[hfe] at hk;exact⟨.inr hk,hob.lt k hk⟩
theorem ret_key {fx:Bool} {pv:Nat->Option Value} {P:Program} {T:TT} {fn:Func} {rs:List ResultVar} {os no:Os} {r:AV} {m:Nat} {ds:List Deferred} {S:Nat->Prop} {β β1:Nat->Wt} {w w':World} {hvr:Rob S w Vr} {hap: ∀k,S k->k∉feet os β} {s':Sl} {o':Os} {a:Act} (hT:TTok P T) (hr:fn.results=rs.toArray) (hob:OB S β w os) (hok:okNo os no=true) (hfx:(!fx||fixB no os)=true)
  (hg:Gam ⟨m,S,w,feet os β,hvr,hap,ds,pv⟩ [] s' o' β1 a w') (hR:RetM T rs (fun i=>(β i).foot.headD 0) os s' o' r no):
  ∃u β',(results fn a.tmps).run P w'= .ok u w'/\BelowX (feet os β) w w'/\(∀id ob,lk no id=some ob->orel (fun k=>(S k\/w.heap.size<=k\/k∈feet os β)/\k∉feet no β') β' w' (β' id) ob)/\(∀k∈feet no β',(w.heap.size<=k\/k∈feet os β)/\k<w'.heap.size)/\(feet no β').Nodup/\(no.map (·.1)).Nodup/\
    Kept (.b fx) os no β β'/\rel (fun k=>(S k\/w.heap.size<=k\/k∈feet os β)/\k∉feet no β') β' w' r u:=by
 obtain⟨v,⟨ρ,nl,hmat,hent,hn⟩,hv⟩:=retA_ok (P:=P) hT hr hR
 obtain⟨u,hrun,hrel⟩:=hv _ β1 a w' hg
 obtain⟨β',h1⟩:=end_key (fx:= .b fx) hob hok hfx hg hmat hent hn hrel (fun _ _ _ h=>nomatch h)
 exact⟨u,β',hrun,h1⟩
theorem small_n {n:Nat} (h:Nat.blt n 1048576=true):Nat.mod n 1048576=n/\Nat.div n 1048576=0:=by
 have h:n<1048576:=by simpa[Nat.blt_eq] using h
 exact⟨Nat.mod_eq_of_lt h,Nat.div_eq_of_lt h⟩
theorem ASpecM.enter {fx:Bool} {P:Program} {T:TT} {n:Nat} {keep:List Nat} {f:FuncId} {fn:Func} {c:Code} {args:List AV} {os:Os} {r:AV} {no:Os} {rs:List ResultVar} (hT:TTok P T) (hm:P.follows .mixedOrders=true) (hf:P.funcs[f]?=some fn) (hb:fn.body=some c) (hcall: ∀args w,(callFunc f args).run P w= .ok (.enter f args) w)
  (hnt:fn.ntmps=n) (hlen:Nat.ble args.length n=true) (hr:fn.results=rs.toArray) (hclo:Clo r no) (hok:okNo os no=true) (h: ∀pin,runC P T n noZ keep c (startA args 0) (pinO pin os) (endM T rs pin os r no)) (hfx:(!fx||fixB no os)=true:=by rfl) (hn20:Nat.blt n 1048576=true:=by rfl):ASpecF (.b fx) P f args os r no:=by
 subst hnt
 obtain⟨hn20,hn21⟩:=small_n hn20
 refine⟨hcall,hclo,fun S β w us hob hap hus hvr=>?_⟩
 have hlen:=Nat.le_of_ble_eq_true hlen
 refine calls_of_wp hf hb (runC_ok (E:=⟨fn.ntmps,S,w,feet os β,hvr,hap,[],fun _=>none⟩) (Q:=bodyPost P fn _) hT hm (h _) rfl noZ_ok (fun e s' o' hk' β1 a w' hg=>?_) β _ w (start_gam hob hus hn20 (fun d hd=>by rw[hn21] at hd;cases hd) hlen rfl rfl))
 cases e with
 |n=>obtain⟨u,β',h1,h2⟩:=ret_key hT hr hob hok hfx hg hk';exact⟨hg.defers,u,h1,u,β',rfl,h2⟩
 |r=>obtain⟨u,β',h1,h2⟩:=ret_key hT hr hob hok hfx hg hk';exact⟨hg.defers,u,h1,u,β',rfl,h2⟩
 |x i=>cases hk'
def endT (T:TT) (rs:List ResultVar) (pin:Nat->Nat) (os:Os) (t:Prop) (r:AV) (no:Os):Ex->Sl->Os->Prop
 | .r,s,o=>t/\RetM T rs pin os s o r no
 | .n,s,o=>t/\RetM T rs pin os s o r no
 | .x _,_,_=>False
def endZ (pin:Nat->Nat) (os:Os) (t:Prop) (r:AV) (no:Os) (v:AV) (_:Sl) (o:Os):Prop:= ¬t/\ ∃ρ nl,mat ρ nl v r/\entO ρ nl o (pinN pin os no)/\(nodupB (srcs ρ nl (pinN pin os no))&&nodupB (keysN no))=true
theorem ASpecO.enter {fx:Bool} {P:Program} {T:TT} {n:Nat} {keep:List Nat} {f:FuncId} {fn:Func} {c:Code} {args:List AV} {os:Os} {t:Prop} {r:AV} {no:Os} {v:AV} {no':Os} {rs:List ResultVar} (hT:TTok P T) (hm:P.follows .mixedOrders=true) (hf:P.funcs[f]?=some fn) (hb:fn.body=some c) (hcall: ∀args w,(callFunc f args).run P w= .ok (.enter f args) w)
  (hnt:fn.ntmps=n) (hlen:Nat.ble args.length n=true) (hr:fn.results=rs.toArray) (hclo:Clo r no) (hclo':Clo v no') (hok:(okNo os no&&okNo os no')=true) (h: ∀pin,runC P T n (endZ pin os t v no') keep c (startA args 0) (pinO pin os) (endT T rs pin os t r no)) (hfx:(!fx||(fixB no os&&fixB no' os))=true:=by rfl) (hn20:Nat.blt n 1048576=true:=by rfl):ASpecO (.b fx) P f args os t r no v no':=by
 subst hnt
 obtain⟨hn20,hn21⟩:=small_n hn20
 have hlen:=Nat.le_of_ble_eq_true hlen
 rw[Bool.and_eq_true] at hok
 have hfx1:(!fx||fixB no os)=true:=by cases fx;rfl;exact(Bool.and_eq_true _ _▸hfx:_/\_).1
 have hfx2:(!fx||fixB no' os)=true:=by cases fx;rfl;exact(Bool.and_eq_true _ _▸hfx:_/\_).2
 refine⟨fun ht=>⟨hcall,hclo,fun S β w us hob hap hus hvr=>?_⟩,fun ht=>⟨hcall,hclo',fun S β w us hob hap hus hvr=>?_⟩⟩
 ·refine calls_of_wp hf hb (runC_ok (E:=⟨fn.ntmps,S,w,feet os β,hvr,hap,[],fun _=>none⟩) (Q:=bodyPost P fn _) hT hm (h _) rfl (fun v s o hz=>absurd ht hz.1) (fun e s' o' hk' β1 a w' hg=>?_) β _ w (start_gam hob hus hn20 (fun d hd=>by rw[hn21] at hd;cases hd) hlen rfl rfl))
  cases e with
  |n=>obtain⟨u,β',h1,h2⟩:=ret_key hT hr hob hok.1 hfx1 hg hk'.2;exact⟨hg.defers,u,h1,u,β',rfl,h2⟩
  |r=>obtain⟨u,β',h1,h2⟩:=ret_key hT hr hob hok.1 hfx1 hg hk'.2;exact⟨hg.defers,u,h1,u,β',rfl,h2⟩
  |x i=>cases hk'
 ·refine calls_of_wp hf hb (runC_ok (E:=⟨fn.ntmps,S,w,feet os β,hvr,hap,[],fun _=>none⟩) (Q:=bodyPost P fn _) hT hm (h _) rfl (fun v s o hz tb1 β1 a w' u hg hrel=>?_) (fun e s' o' hk' β1 a w' hg=>?_) β _ w (start_gam hob hus hn20 (fun d hd=>by rw[hn21] at hd;cases hd) hlen rfl rfl))
  ·obtain⟨_,ρ,nl,hmat,hent,hn⟩:=hz
   obtain⟨β',h1⟩:=end_key (fx:= .b fx) hob hok.2 hfx2 (hg.slotsTo (s':=[]) TbOk.nil fun d c v hl=>by simp[lk] at hl) hmat hent hn hrel (fun _ _ _ h=>nomatch h)
   exact⟨hg.defers,u,β',rfl,h1⟩
  ·cases e with
   |n=>exact absurd hk'.1 ht
   |r=>exact absurd hk'.1 ht
   |x i=>cases hk'
def topP (ρ:List (Nat×Nat)) (nl:List Nat) (s:Sl) (args:List AV):List Nat->Prop
 |[]=>True
 |id::l=>(∃p e i j,args[p]?=some (.rp id e i j)/\lk s p=some (0,.rp (rho ρ id) e i j))/\memN id nl=false/\topP ρ nl s args l
theorem topP_at {ρ:List (Nat×Nat)} {nl:List Nat} {s:Sl} {args:List AV} {d:Nat}: ∀ {l:List Nat},topP ρ nl s args l->memX d l=true->(∃p e i j,args[p]?=some (.rp d e i j)/\lk s p=some (0,.rp (rho ρ d) e i j))/\memN d nl=false
 |[],_,h=>nomatch h
 |x::l,h,hm=>by
  simp only[memX,Bool.or_eq_true] at hm
  rcases hm with hm|hm
  ·obtain rfl:=Nat.eq_of_beq_eq_true hm
   exact⟨h.1,h.2.1⟩
  ·exact topP_at h.2.2 hm
def endTp (T:TT) (rs:List ResultVar) (pin:Nat->Nat) (os:Os) (r:AV) (no:Os) (args:List AV) (tops:List Nat):Ex->Sl->Os->Prop
 | .x _,_,_=>False
 |_,s,o=>retA T s o rs fun v=>∃ρ nl,mat ρ nl v r/\entO ρ nl o (pinN pin os no)/\(nodupB (srcs ρ nl (pinN pin os no))&&nodupB (keysN no))=true/\topP ρ nl s args tops
theorem addr_inj {a b:Addr} {k:Nat} (ha:a.spot=none) (hb:b.spot=none) (h:a.add k=b.add k):a=b:=by
 obtain⟨a1,a2,a3⟩:=a
 obtain⟨b1,b2,b3⟩:=b
 simp only at ha hb
 subst ha hb
 by_cases hk:k=0
 ·simpa[Addr.add,hk] using h
 ·simp only[Addr.add,hk,if_false,Addr.mk.injEq] at h⊢
  exact⟨h.1,by omega,trivial⟩
theorem orel_spot {S:Nat->Prop} {β:Nat->Wt} {w:World} {W:Wt} {ad:Addr}: ∀ {ob:Obj},orel S β w W ob->W.a=some ad->ad.spot=none
 | .box p q cs,⟨b,us,ty,h1,h2⟩,e=>by rw[h1] at e;cases e;rfl
 | .row q e' n get,⟨h1,h2,h3⟩,e=>by
  rcases h3 with⟨h3,_⟩|⟨b,off,cells,ty,us,h3,_⟩
  ·rw[h3] at e;cases e
  ·rw[h3] at e;cases e;rfl
 | .tree e' n get,⟨h1,h2⟩,e=>by
  unfold treeD at h2
  rcases h2.2.2.2 with⟨h3,_⟩|⟨b,off,cells,ty,us,FS,h3,_⟩
  ·rw[show(rsub W []).1=W.a from rfl] at h3;rw[h3] at e;cases e
  ·rw[show(rsub W []).1=W.a from rfl] at h3;rw[h3] at e;cases e;rfl
 | .mp Φ k n F,⟨_,b,x,h1,h2⟩,e=>by rw[h1] at e;cases e;rfl
theorem ASpecF.enterT {P:Program} {T:TT} {n:Nat} {keep:List Nat} {f:FuncId} {fn:Func} {c:Code} {args:List AV} {os:Os} {r:AV} {no:Os} {rs:List ResultVar} {tops:List Nat} (hT:TTok P T) (hm:P.follows .mixedOrders=true) (hf:P.funcs[f]?=some fn) (hb:fn.body=some c) (hcall: ∀args w,(callFunc f args).run P w= .ok (.enter f args) w)
  (hnt:fn.ntmps=n) (hlen:Nat.ble args.length n=true) (hr:fn.results=rs.toArray) (hclo:Clo r no) (hok:okNo os no=true) (N:Nat) (hN1:Nat.mod N 1048576=n) (hN2:Nat.div N 1048576=args.length) (h: ∀pin,runC P T N noZ keep c (startA args 0) (pinO pin os) (endTp T rs pin os r no args tops)):ASpecF (.l [] tops) P f args os r no:=by
 subst hnt
 refine⟨hcall,hclo,fun S β w us hob hap hus hvr=>?_⟩
 have hlen:=Nat.le_of_ble_eq_true hlen
 have hul:=rels_len hus
 refine calls_of_wp hf hb (runC_ok (E:=⟨N,S,w,feet os β,hvr,hap,[],fun d=>us[d]?⟩) (Q:=bodyPost P fn _) hT hm (h _) rfl noZ_ok (fun e s' o' hk' β1 a w' hg=>?_) β _ w (start_gam hob hus hN1 (fun d hd=>by rw[hN2] at hd;exact⟨by omega,rfl⟩) hlen rfl rfl))
 have key:(retA T s' o' rs fun v=>∃ρ nl,mat ρ nl v r/\entO ρ nl o' (pinN (fun i=>(β i).foot.headD 0) os no)/\(nodupB (srcs ρ nl (pinN (fun i=>(β i).foot.headD 0) os no))&&nodupB (keysN no))=true/\topP ρ nl s' args tops)->bodyPost P fn (fun e w'=>∃v β',e= .returned v/\BelowX (feet os β) w w'/\
  (∀id ob,lk no id=some ob->orel (fun k=>(S k\/w.heap.size<=k\/k∈feet os β)/\k∉feet no β') β' w' (β' id) ob)/\(∀k∈feet no β',(w.heap.size<=k\/k∈feet os β)/\k<w'.heap.size)/\(feet no β').Nodup/\(no.map (·.1)).Nodup/\
  Kept (.l [] tops) os no β β'/\rel (fun k=>(S k\/w.heap.size<=k\/k∈feet os β)/\k∉feet no β') β' w' r v) .ret a w':=fun hR=>by
  obtain⟨v,⟨ρ,nl,hmat,hent,hn,htp⟩,hv⟩:=retA_ok (P:=P) hT hr hR
  obtain⟨u,hrun,hrel⟩:=hv _ β1 a w' hg
  obtain⟨β',h1⟩:=end_key (fx:= .l [] tops) hob hok rfl hg hmat hent hn hrel (fun id ob hl hk hs=>by
   obtain⟨⟨p,e,i,j,q1,q2⟩,q3⟩:=topP_at htp hk
   have hrm:remap ρ nl β1 id=β1 (rho ρ id):=by unfold remap;rw[q3];rfl
   rw[hrm]
   obtain⟨u1,k1,k2⟩:=rels_get hus q1
   obtain⟨u2,k3,k4⟩:=hg.slots _ _ _ q2
   have hp:p<args.length:=(List.getElem?_eq_some_iff.1 q1).1
   have k5:a.tmps[p]?=us[p]?:=hg.size.2 p (by show p<Nat.div N 1048576;rw[hN2];exact hp)
   have k4:=k4 (tg_zero TbOk.nil)
   rw[tg_zero TbOk.nil] at k3
   rw[k3,k1] at k5
   obtain rfl:u2=u1:=Option.some.inj k5
   obtain⟨m1,ad1,m2,m3⟩:=k2
   obtain⟨m4,ad2,m5,m6⟩:=k4
   rw[m3] at m6
   have hsp:ad2.spot=none:=by
    obtain⟨ob0,hob0⟩:=Option.isSome_iff_exists.1 hs
    have hp2: ∃ob',lk (pinN (fun i=>(β i).foot.headD 0) os no) id=some ob':=by
     rcases lk_pinN (pin:=fun i=>(β i).foot.headD 0) (os:=os) hob0 with⟨_,_,_,_,⟨_,h2⟩|⟨_,h2⟩⟩|⟨_,_,_,_,_,⟨_,h2⟩|⟨_,h2⟩⟩|⟨_,h2⟩<;>exact⟨_,h2⟩
    obtain⟨ob',hp3⟩:=hp2
    rcases entO_at hent hp3 with⟨hm,_⟩|⟨hm,ob2,h1,h2⟩
    ·rw[q3] at hm;cases hm
    ·exact orel_spot (hg.objs _ _ h1) m5
   have:ad1=ad2:=addr_inj (orel_spot (hob.objs _ _ hl) m2) hsp (Option.some.inj (Value.pointer.inj m6))
   exact⟨by rw[m5,m2,this],by rw[m4,m1]⟩)
  exact⟨hg.defers,u,hrun,u,β',rfl,h1⟩
 cases e with
 |n=>exact key hk'
 |r=>exact key hk'
 |x i=>cases hk'
section
variable {P:Program} {Q:Exit->Act->World->Prop}
theorem jump_mono {n:Nat} {J J':Act->World->Prop} (h: ∀a w,J a w->J' a w): ∀(e:Exit) (a:Act) (w:World),Exit.jump n J Q e a w->Exit.jump n J' Q e a w:=fun e a w hq=>by
 cases e<;>first|exact⟨hq.1,h _ _ hq.2⟩|exact hq
def GU (P:Program) (Q:Exit->Act->World->Prop) (b:Code) (l:Nat):Nat->Act->World->Prop
 |0=>fun _ _=>False
 |k+1=>fun a w=>b.wp P (Exit.jump l (GU P Q b l k) Q) a w
theorem GU_mono {b:Code} {l:Nat}: ∀ {k:Nat} {a:Act} {w:World},GU P Q b l k a w->GU P Q b l (k+1) a w
 |0,_,_,h=>h.elim
 |k+1,a,w,h=>Code.wp_mono (jump_mono fun a w h=>GU_mono h) h
theorem GU_le {b:Code} {l k k':Nat} (h:k<=k') {a:Act} {w:World} (hg:GU P Q b l k a w):GU P Q b l k' a w:=by
 induction h with
 |refl=>exact hg
 |step _ ih=>exact GU_mono ih
theorem wp_scope_GU {c b:Code} {l:Nat} (hf:findLabel c l=some (.seq .skip b)) {a:Act} {w:World} (first:c.wp P (Exit.jump l (fun a w=>∃k,GU P Q b l k a w) Q) a w):(Code.scope c).wp P Q a w:=by
 classical
 have least: ∀a w,(∃k,GU P Q b l k a w)-> ∃k,GU P Q b l k a w/\ ∀j,GU P Q b l j a w->k<=j:=fun a w h=>by
  obtain⟨k,hk⟩:=h
  induction k using Nat.strongRecOn with
  |_ k ih=>
   by_cases hj: ∃j,j<k/\GU P Q b l j a w
   ·obtain⟨j,h1,h2⟩:=hj;exact ih j h1 h2
   ·exact⟨k,hk,fun j hg=>Nat.le_of_not_lt fun hlt=>hj ⟨j,hlt,hg⟩⟩
 let m:Act->World->Nat:=fun a w=>if h: ∃k,GU P Q b l k a w then(least a w h).choose else 0
 refine wp_scope_jumps l (fun a w=>∃k,GU P Q b l k a w) m hf first fun a w hJ=>?_
 have hm:m a w=(least a w hJ).choose:=dif_pos hJ
 have hk:=(least a w hJ).choose_spec.1
 rw[<-hm] at hk
 refine wp_seq (wp_skip ?_)
 cases he:m a w with
 |zero=>rw[he] at hk;exact hk.elim
 |succ k=>
  rw[he] at hk
  refine Code.wp_mono (jump_mono fun a' w' h=>⟨⟨k,h⟩,?_⟩) hk
  have hJ': ∃k,GU P Q b l k a' w':=⟨k,h⟩
  have hm':m a' w'=(least a' w' hJ').choose:=dif_pos hJ'
  have:=(least a' w' hJ').choose_spec.2 k h
  omega
end
def Goes (P:Program) (n:Nat) (Z:AV->Sl->Os->Prop) (c:Code) (s:Sl) (o:Os) (K:Ex->Sl->Os->Prop):Prop:= ∀ {E:Env} {Q:Exit->Act->World->Prop},E.n=n->ZOk Z E Q->(∀e s' o',K e s' o'-> ∀β a w,Gam E [] s' o' β a w->Q e.out a w)-> ∀β a w,Gam E [] s o β a w->c.wp P Q a w
section
variable {P:Program} {T:TT} {n:Nat} {Z:AV->Sl->Os->Prop} {keep:List Nat}
def noLab:Code->Bool
 | .seq a b=>noLab a&&noLab b
 | .label _=>false
 |_=>true
theorem noLab_ok {l:Nat}: ∀ {c:Code},noLab c=true->findLabel c l=none:=by
 intro c
 induction c with
 |seq a b iha ihb=>
  intro h
  simp only[noLab,Bool.and_eq_true] at h
  simp only[findLabel,iha h.1,ihb h.2]
 |_=>intro h;first|rfl|cases h
theorem ZOk.jump {E:Env} {Q:Exit->Act->World->Prop} {l:Nat} {J:Act->World->Prop} (h:ZOk Z E Q):ZOk Z E (Exit.jump l J Q):=fun v s o h1 tb β a w u h2 h3=>h v s o h1 tb β a w u h2 h3
inductive GEnd (l:Nat):Code->Code->Prop
 |base (a:Code):GEnd l (.seq a (.goto l)) a
 |step (a:Code) {r b:Code} (h:GEnd l r b):GEnd l (.seq a r) (.seq a b)
theorem GEnd.ok (hT:TTok P T) (hm:P.follows .mixedOrders=true) {l:Nat} {E:Env} {Q:Exit->Act->World->Prop} (hn:E.n=n) (hZ:ZOk Z E Q) {r b:Code} (hg:GEnd l r b): ∀ {s:Sl} {o:Os} {K:Ex->Sl->Os->Prop},runC P T n Z keep b s o K->
  (∀e s' o',K e s' o'-> ∀β a w,Gam E [] s' o' β a w->match e with
   | .n=>Q (.goto l) a w
   |e=>Q e.out a w)-> ∀β a w,Gam E [] s o β a w->r.wp P Q a w:=by
 induction hg with
 |base c=>
  intro s o K h hQ β a w hg
  refine wp_seq_k fun K' hK'=>?_
  refine runC_ok hT hm h hn hZ.then (fun e s' o' hk β a w hg=>?_) β a w hg
  have:=hQ e s' o' hk β a w hg
  cases e with
  |n=>exact hK' _ _ (wp_goto this)
  |x i=>exact this
  |r=>exact this
 |step a _ ih=>
  intro s o K h hQ β x w hg
  simp only[runC] at h
  refine wp_seq_k fun K' hK'=>?_
  refine runC_ok hT hm h hn hZ.then (fun e s' o' hk β a w hg=>?_) β x w hg
  cases e with
  |n=>exact hK' _ _ (ih hk hQ β a w hg)
  |x i=>exact hQ (.x i) _ _ hk β a w hg
  |r=>exact hQ .r _ _ hk β a w hg
theorem scope_ok (hT:TTok P T) (hm:P.follows .mixedOrders=true) {a1 a2 b r:Code} {l:Nat} {s:Sl} {o:Os} {K:Ex->Sl->Os->Prop} (hl:(noLab a1&&noLab a2)=true) (hr:GEnd l r b) (h:runC P T n Z keep (.seq a1 (.seq a2 (.loop b))) s o K):Goes P n Z (.scope (.seq a1 (.seq a2 (.seq (.label l) r)))) s o K:=by
 intro E Q hn hZ hQ β a w hg
 simp only[Bool.and_eq_true] at hl
 have hf:findLabel (.seq a1 (.seq a2 (.seq (.label l) r))) l=some (.seq .skip r):=by
  simp only[findLabel,noLab_ok hl.1,noLab_ok hl.2,BEq.rfl,if_true]
 simp only[runC] at h
 refine wp_scope_GU hf ?_
 refine wp_seq_k fun K1 h1=>runC_ok hT hm h hn hZ.jump.then (fun e s' o' hk β a w hg=>?_) β a w hg
 cases e with
 |x i=>exact hQ (.x i) _ _ hk β a w hg
 |r=>exact hQ .r _ _ hk β a w hg
 |n=>
  refine h1 _ _ (wp_seq_k fun K2 h2=>runC_ok hT hm hk hn hZ.jump.then (fun e s' o' hk β a w hg=>?_) β a w hg)
  cases e with
  |x i=>exact hQ (.x i) _ _ hk β a w hg
  |r=>exact hQ .r _ _ hk β a w hg
  |n=>
   obtain⟨α,M,I,μ,i,hi,hent,hround⟩:=hk
   have key: ∀m i,μ i=m->I i-> ∀β a w,Gam E [] (M i).1 (M i).2 β a w->GU P Q r l (m+1) a w:=by
    intro m
    induction m using Nat.strongRecOn with
    |_ m ih=>
     intro i hmi hi β a w hg
     refine hr.ok hT hm hn hZ.jump (hround i hi) (fun e s' o' hk β a w hg=>?_) β a w hg
     cases e with
     |x k=>exact hQ (.x k) _ _ hk β a w hg
     |r=>exact hQ .r _ _ hk β a w hg
     |n=>
      obtain⟨j,hj,hlt,hent⟩:=hk
      obtain⟨β',hg'⟩:=hent E β a w hg
      exact⟨rfl,GU_le (by omega) (ih _ (by omega) j rfl hj β' a w hg')⟩
   obtain⟨β',hg'⟩:=hent E β a w hg
   have:=key _ i rfl hi β' a w hg'
   exact h2 _ _ (wp_seq (wp_label (Code.wp_mono (jump_mono fun a w h=>⟨_,h⟩) this)))
theorem ASpec.enterR {f:FuncId} {fn:Func} {c:Code} {args:List AV} {r:AV} {no:Os} {rs:List ResultVar} (hT:TTok P T) (hf:P.funcs[f]?=some fn) (hb:fn.body=some c) (hcall: ∀args w,(callFunc f args).run P w= .ok (.enter f args) w)
  (hnt:fn.ntmps=n) (hlen:Nat.ble args.length n=true) (hr:fn.results=rs.toArray) (hk:(no.map (·.1)).Nodup) (hclo:Clo r no) (h:Goes P n noZ c (startA args 0) [] (endK T rs r no)) (hn20:Nat.blt n 1048576=true:=by rfl):ASpec P f args r no:=by
 subst hnt
 have hs:fn.ntmps<1048576:=by simpa[Nat.blt_eq] using hn20
 refine⟨hcall,hclo,fun S w us hus hvr=>?_⟩
 have hl:=rels_len hus
 have hlen:=Nat.le_of_ble_eq_true hlen
 refine calls_of_wp hf hb (h (E:=⟨fn.ntmps,S,w,[],hvr,fun _ _=>by simp,[],fun _=>none⟩) (Q:=bodyPost P fn _) rfl noZ_ok (fun e s' o' hk' β a w' hg=>?_) W0 _ w ⟨⟨by rw[show Nat.mod fn.ntmps 1048576=fn.ntmps from Nat.mod_eq_of_lt hs];simp;omega,fun d hd=>by rw[show Nat.div fn.ntmps 1048576=0 from Nat.div_eq_of_lt hs] at hd;cases hd⟩,rfl,TbOk.nil,fun d c v hl'=>?_,fun id ob hl'=>by simp[lk] at hl',BelowX.refl _ _,(fun k hk=>by simp[feet] at hk),by simp[feet],by simp⟩)
 ·have key:RetK T rs s' o' r no->bodyPost P fn (fun e w'=>∃v β',e= .returned v/\Below w.heap.size w w'/\
    (∀id ob,lk no id=some ob->orel (fun k=>(S k\/w.heap.size<=k)/\k∉feet no β') β' w' (β' id) ob)/\(∀k∈feet no β',w.heap.size<=k/\k<w'.heap.size)/\(feet no β').Nodup/\(no.map (·.1)).Nodup/\rel (fun k=>(S k\/w.heap.size<=k)/\k∉feet no β') β' w' r v) .ret a w':=fun hR=>by
   obtain⟨v,⟨o2,hsub,hgv⟩,hv⟩:=retA_ok (P:=P) hT hr hR
   obtain⟨u,hrun,hrel⟩:=hv _ β a w' hg
   obtain⟨β1,g1,g2,g3⟩:=hgv _ β w' u ⟨hg.objs,hg.nodup,hg.keys,fun k hk=>(hg.new k hk).2⟩ hrel
   have hnew: ∀k∈feet o' β,w.heap.size<=k:=fun k hk=>by
    rcases(hg.new k hk).1 with q|q
    ·exact q
    ·cases q
   obtain⟨g4,g5⟩:=g3 (fun k=>(S k\/w.heap.size<=k)/\k∉feet no β1) β1 (fun _ _=>rfl) (fun k _ hk=>⟨(by
     rcases hk.1 with q|q|q
     ·exact .inl q
     ·exact .inr q
     ·cases q),fun hq=>hk.2 (g2 k hq).1⟩) fun k h1 h2 h3=>⟨.inr (hnew k h1),h3⟩
   exact⟨hg.defers,u,hrun,u,β1,rfl,hg.below.below,g5,fun k hk=>⟨hnew k (g2 k hk).1,(hg.new k (g2 k hk).1).2⟩,g1,hk,g4⟩
  cases e with
  |n=>exact key hk'
  |r=>exact key hk'
  |x i=>cases hk'
 ·obtain⟨rfl,_,h3⟩:=lk_startA hl'
  obtain⟨u,e1,e2⟩:=rels_get hus h3
  refine⟨u,?_,fun _=>?_⟩
  ·have hd:d<us.length:=(List.getElem?_eq_some_iff.1 (by simpa using e1)).1
   rw[tg_zero TbOk.nil]
   show(us.toArray++Array.replicate (fn.ntmps-us.toArray.size) undef)[d]?=some u
   rw[Array.getElem?_append_left (by simpa using hd)]
   simpa using e1
  ·exact rel_mono (S:=S) ⟨Nat.le_refl _,fun k hk hs=>⟨⟨.inl hs,by simp[feet]⟩,rfl⟩⟩ _ _ e2
def remG (l:Nat):Code->Option Code
 | .seq a (.goto l')=>bif Nat.beq l' l then some a else none
 | .seq a r=>match remG l r with
  |some r=>some (.seq a r)
  |none=>none
 |_=>none
theorem remG_ok {l:Nat}: ∀ {c b:Code},remG l c=some b->GEnd l c b
 |c,b,h=>by
  unfold remG at h
  split at h
  ·rename_i a l'
   cases hb:Nat.beq l' l with
   |false=>rw[hb] at h;cases h
   |true=>
    rw[hb] at h
    obtain rfl:=Nat.eq_of_beq_eq_true hb
    cases h
    exact .base _
  ·rename_i a r _
   split at h
   ·rename_i r' hr
    cases h
    exact .step _ (remG_ok hr)
   ·cases h
  ·cases h
def splitS:Code->Option (Code×Code)
 | .seq a0 (.scope (.seq a1 (.seq a2 (.seq (.label l) r))))=>match noLab a1&&noLab a2,remG l r with
  |true,some b=>some (a0,.seq a1 (.seq a2 (.loop b)))
  |_,_=>none
 |_=>none
theorem ASpec.enterS {f:FuncId} {fn:Func} {c:Code} {args:List AV} {r:AV} {no:Os} {rs:List ResultVar} (hT:TTok P T) (hm:P.follows .mixedOrders=true) (hf:P.funcs[f]?=some fn) (hb:fn.body=some c) (hcall: ∀args w,(callFunc f args).run P w= .ok (.enter f args) w)
  (hnt:fn.ntmps=n) (hlen:Nat.ble args.length n=true) (hr:fn.results=rs.toArray) (hk:(no.map (·.1)).Nodup) (hclo:Clo r no) (h:match splitS c with
   |some (a,b)=>runC P T n noZ keep (.seq a b) (startA args 0) [] (endK T rs r no)
   |none=>False) (hn20:Nat.blt n 1048576=true:=by rfl):ASpec P f args r no:=by
 refine ASpec.enterR hT hf hb hcall hnt hlen hr hk hclo (fun {E Q} hn hZ hQ β a w hg=>?_) hn20
 split at h
 ·rename_i a b hs
  unfold splitS at hs
  split at hs
  ·rename_i a0 a1 a2 l r
   split at hs
   ·rename_i b' hl hb'
    cases hs
    rw[runC] at h
    refine wp_seq_k fun K' hK'=>runC_ok hT hm h hn hZ.then (fun e s' o' hk β a w hg=>?_) β _ w hg
    cases e with
    |n=>exact hK' _ _ (scope_ok hT hm hl (remG_ok hb') hk hn hZ hQ β a w hg)
    |x i=>exact hQ (.x i) _ _ hk β a w hg
    |r=>exact hQ .r _ _ hk β a w hg
   ·cases hs
  ·cases hs
 ·exact h.elim
end
end Go.Proofs.YtnfdieeaelhpbaaGreatDoor
