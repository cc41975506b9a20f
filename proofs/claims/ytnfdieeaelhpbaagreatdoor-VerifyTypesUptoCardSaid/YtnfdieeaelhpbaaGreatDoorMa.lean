/- The engine and the contracts of the functions that the statement reaches, part 1. -/
import Derived.Test.YtnfdieeaelhpbaaGreatDoorProg
import Derived.Lib.LaidTab
import Derived.Lib.ItoaNum
import Derived.Lib.Space
import Derived.WalkKit
import Derived.Below
import Derived.WalkLawsBesides
import Derived.WalkSpells
import Derived.KernelRfl
import Derived.OrdersHeld
import Derived.StillTail
import Derived.Laws.IdiomCopy
import Derived.Laws.Cells
import Derived.Deep.AppendSrc
import Derived.Laws.AppendOwn
import Derived.Maps.OwnOps
import Derived.Maps.Views
import Derived.Lib.MinMax
import Derived.Laws.IdiomStrings
import Derived.Laws.Slices
set_option linter.unusedVariables false
set_option linter.unusedSimpArgs false
set_option maxRecDepth 100000
set_option maxHeartbeats 8000000
namespace Go.Proofs.YtnfdieeaelhpbaaGreatDoor
open Go.RowKit
def Vr (w:World):Prop:=Lib.TabIs Tryz.prog w "internal/strconv.uint64pow10" .u64 Lib.pow10Tab/\Lib.TabIs Tryz.prog w "strings.asciiSpace" .u8 Lib.asciiSpaceTab
inductive AV where
 |i (k:IntKind) (z:Int)
 |b (t:Bool)
 |s (x:ByteArray)
 |v (x:Value)
 |nil
 |row (nz:Option Bool) (e n:Nat) (get:Nat->List AV)
 |agg (cs:List AV)
 |tup (cs:List AV)
 |cp (cs:List AV)
 |op (id off:Nat)
 |orow (id e off n:Nat)
 |rp (id e i j:Nat)
 |clo (f:FuncId) (cs:List AV)
 |omap (id:Nat)
 |ifc (t:TypeId) (x:AV)
 |any
 |pth (id:Nat) (p:List (Nat×Nat)) (e off n:Nat)
 |pp (id:Nat) (p:List (Nat×Nat)) (e i j:Nat)
inductive Obj where
 |box (p q:Option Nat) (cs:List AV)
 |row (q:Option Nat) (e n:Nat) (get:Nat->List AV)
 |tree (e n:Nat) (get:Nat->List AV)
 |mp (Φ:Go.Obj->Prop) (k n:Nat) (F:List Int->Int)
abbrev Pth:=List (Nat×Nat)
abbrev Sub:=Pth->Option Addr×Nat
structure Wt where
 a:Option Addr
 cap:Nat
 foot:List Nat
 ok:Bool
 sub:Sub
def sub0:Sub:=fun _=>(none,0)
def rsub (W:Wt):Sub
 |[]=>(W.a,W.cap)
 |x::p=>W.sub (x::p)
def W0:Nat->Wt:=fun _=>⟨none,0,[],false,sub0⟩
def maxLen:Nat:=9223372036854775807
def Rob (S:Nat->Prop) (w:World) (φ:World->Prop):Prop:=
 ∀w':World,w.heap.size<=w'.heap.size->(∀k,k<w.heap.size->S k->w'.heap[k]?=w.heap[k]?)->φ w'
theorem Rob.now {S:Nat->Prop} {w:World} {φ:World->Prop} (h:Rob S w φ):φ w:=h w (Nat.le_refl _) fun _ _ _=>rfl
def cloF (f:Nat):Nat:=f % 1048576
def cloK (f:Nat):Nat:=f/1048576
theorem cloF_eq {f:Nat} (h:Nat.ble 1048576 f=false):cloF f=f/\cloK f=0:=by
 have h: ¬1048576<=f:=fun q=>by rw[Nat.ble_eq_true_of_le q] at h;cases h
 exact⟨Nat.mod_eq_of_lt (by omega),Nat.div_eq_of_lt (by omega)⟩
def cellsAt (ad:Addr) (us:List Value) (w:World):Prop:= ∀j u,us[j]?=some u->w.cell? (ad.add j)=some u
mutual
def rel (S:Nat->Prop) (β:Nat->Wt) (w:World):AV->Value->Prop
 | .i k z,u=>u= .int k z
 | .b t,u=>u= .bool t
 | .s x,u=>u= .string x
 | .v x,u=>u=x
 | .nil,u=>u= .slice none 0 0
 | .row nz e n get,u=>∃(a:Option Addr) (cap:Nat) (us:Nat->List Value),u= .slice a n cap/\(∀z,nz=some z->a.isSome=z)/\(n<=cap/\n<=maxLen)/\
   ∀i,i<n->(∃ad,a=some ad/\Rob S w (cellsAt (ad.add (i*e)) (us i)))/\((us i).length=e/\(us i).all (·.oneCell')=true)/\rels S W0 w (get i) (us i)
 | .agg cs,u=>∃us,u= .agg us.toArray/\rels S β w cs us
 | .tup cs,u=>∃us,u= .tuple us.toArray/\rels S β w cs us
 | .cp cs,u=>∃ad us,u= .pointer (some ad)/\Rob S w (cellsAt ad us)/\rels S W0 w cs us
 | .op id off,u=>(β id).ok=true/\ ∃b,(β id).a=some ⟨b,0,none⟩/\u= .pointer (some ⟨b,off,none⟩)
 | .orow id e off n,u=>(β id).ok=true/\u= .slice ((β id).a.map (·.add (off*e))) n ((β id).cap-off)
 | .rp id e i j,u=>(β id).ok=true/\ ∃ad,(β id).a=some ad/\u= .pointer (some (ad.add (i*e+j)))
 | .clo f cs,u=>∃us,u= .func (.func (cloF f)) (us.take (cloK f)).toArray (us.drop (cloK f)).toArray/\rels S β w cs us
 | .omap id,u=>(β id).ok=true/\ ∃b,(β id).a=some ⟨b,0,none⟩/\u= .map (some b)
 | .ifc t x,u=>∃u',u= .iface t u'/\rel S β w x u'
 | .any,u=>u.oneCell'=true
 | .pth id p e off n,u=>(β id).ok=true/\u= .slice ((rsub (β id) p).1.map (·.add (off*e))) n ((rsub (β id) p).2-off)
 | .pp id p e i j,u=>(β id).ok=true/\ ∃ad,(rsub (β id) p).1=some ad/\u= .pointer (some (ad.add (i*e+j)))
def rels (S:Nat->Prop) (β:Nat->Wt) (w:World):List AV->List Value->Prop
 |[],us=>us=[]
 |v::vs,us=>∃u us',us=u::us'/\rel S β w v u/\rels S β w vs us'
end
def Comp (S:Nat->Prop) (w:World) (S':Nat->Prop) (w':World):Prop:=w.heap.size<=w'.heap.size/\ ∀k,k<w.heap.size->S k->S' k/\w'.heap[k]?=w.heap[k]?
theorem Comp.refl {S:Nat->Prop} {w:World}:Comp S w S w:=⟨Nat.le_refl _,fun _ _ h=>⟨h,rfl⟩⟩
theorem Rob.comp {S S':Nat->Prop} {w w':World} {φ:World->Prop} (h:Rob S w φ) (hc:Comp S w S' w'):Rob S' w' φ:=
 fun w'' h1 h2=>h w'' (Nat.le_trans hc.1 h1) fun k hk hs=>(h2 k (Nat.lt_of_lt_of_le hk hc.1) (hc.2 k hk hs).1).trans (hc.2 k hk hs).2
mutual
theorem rel_mono {S S':Nat->Prop} {β:Nat->Wt} {w w':World} (hc:Comp S w S' w'): ∀(x:AV) (u:Value),rel S β w x u->rel S' β w' x u
 | .i k z,u,h=>h
 | .b t,u,h=>h
 | .s x,u,h=>h
 | .v x,u,h=>h
 | .nil,u,h=>h
 | .row nz e n get,u,⟨a,cap,us,h1,h2,h3,h4⟩=>⟨a,cap,us,h1,h2,h3,fun i hi=>⟨by obtain⟨ad,e,r⟩:=(h4 i hi).1;exact⟨ad,e,r.comp hc⟩,(h4 i hi).2.1,rels_mono hc (get i) (us i) (h4 i hi).2.2⟩⟩
 | .agg cs,u,⟨us,h1,h2⟩=>⟨us,h1,rels_mono hc cs us h2⟩
 | .tup cs,u,⟨us,h1,h2⟩=>⟨us,h1,rels_mono hc cs us h2⟩
 | .cp cs,u,⟨ad,us,h1,h2,h3⟩=>⟨ad,us,h1,h2.comp hc,rels_mono hc cs us h3⟩
 | .op id off,u,h=>h
 | .orow id e off n,u,h=>h
 | .rp id e i j,u,h=>h
 | .clo f cs,u,⟨us,h1,h2⟩=>⟨us,h1,rels_mono hc cs us h2⟩
 | .omap id,u,h=>h
 | .ifc t x,u,⟨u',h1,h2⟩=>⟨u',h1,rel_mono hc x u' h2⟩
 | .any,u,h=>h
 | .pth id p e off n,u,h=>h
 | .pp id p e i j,u,h=>h
theorem rels_mono {S S':Nat->Prop} {β:Nat->Wt} {w w':World} (hc:Comp S w S' w'): ∀(x:List AV) (u:List Value),rels S β w x u->rels S' β w' x u
 |[],us,h=>h
 |v::vs,us,⟨u,us',h1,h2,h3⟩=>⟨u,us',h1,rel_mono hc v u h2,rels_mono hc vs us' h3⟩
end
mutual
def men (d:Nat):AV->Bool
 | .op id _=>Nat.beq id d
 | .orow id _ _ _=>Nat.beq id d
 | .rp id _ _ _=>Nat.beq id d
 | .pth id _ _ _ _=>Nat.beq id d
 | .pp id _ _ _ _=>Nat.beq id d
 | .omap id=>Nat.beq id d
 | .agg cs=>mens d cs
 | .tup cs=>mens d cs
 | .clo _ cs=>mens d cs
 | .ifc _ x=>men d x
 |_=>false
def mens (d:Nat):List AV->Bool
 |[]=>false
 |x::xs=>men d x||mens d xs
end
mutual
theorem rel_agr {S:Nat->Prop} {β β':Nat->Wt} {w:World}: ∀(x:AV) (u:Value),(∀id,men id x=true->β' id=β id)->rel S β w x u->rel S β' w x u
 | .i k z,u,hm,h=>h
 | .b t,u,hm,h=>h
 | .s x,u,hm,h=>h
 | .v x,u,hm,h=>h
 | .nil,u,hm,h=>h
 | .row nz e n get,u,hm,h=>h
 | .agg cs,u,hm,⟨us,h1,h2⟩=>⟨us,h1,rels_agr cs us hm h2⟩
 | .tup cs,u,hm,⟨us,h1,h2⟩=>⟨us,h1,rels_agr cs us hm h2⟩
 | .cp cs,u,hm,h=>h
 | .op id off,u,hm,⟨h0,b,h1,h2⟩=>⟨by rw[hm id (by simp[men])];exact h0,b,by rw[hm id (by simp[men])];exact h1,h2⟩
 | .orow id e off n,u,hm,h=>by
  have:=hm id (by simp[men])
  unfold rel at h⊢
  rw[this];exact h
 | .rp id e i j,u,hm,⟨h0,ad,h1,h2⟩=>⟨by rw[hm id (by simp[men])];exact h0,ad,by rw[hm id (by simp[men])];exact h1,h2⟩
 | .clo f cs,u,hm,⟨us,h1,h2⟩=>⟨us,h1,rels_agr cs us hm h2⟩
 | .omap id,u,hm,⟨h0,b,h1,h2⟩=>⟨by rw[hm id (by simp[men])];exact h0,b,by rw[hm id (by simp[men])];exact h1,h2⟩
 | .ifc t x,u,hm,⟨u',h1,h2⟩=>⟨u',h1,rel_agr x u' hm h2⟩
 | .any,u,hm,h=>h
 | .pth id p e off n,u,hm,h=>by
  have:=hm id (by simp[men])
  unfold rel at h⊢
  rw[this];exact h
 | .pp id p e i j,u,hm,h=>by
  have:=hm id (by simp[men])
  unfold rel at h⊢
  rw[this];exact h
theorem rels_agr {S:Nat->Prop} {β β':Nat->Wt} {w:World}: ∀(x:List AV) (u:List Value),(∀id,mens id x=true->β' id=β id)->rels S β w x u->rels S β' w x u
 |[],us,hm,h=>h
 |v::vs,us,hm,⟨u,us',h1,h2,h3⟩=>⟨u,us',h1,rel_agr v u (fun id h=>hm id (by simp[mens,h])) h2,rels_agr vs us' (fun id h=>hm id (by simp[mens,h])) h3⟩
end
mutual
theorem rel_W0 {S:Nat->Prop} {β:Nat->Wt} {w:World}: ∀ {x:AV} {u:Value},rel S W0 w x u->rel S β w x u
 | .i k z,u,h=>h
 | .b t,u,h=>h
 | .s x,u,h=>h
 | .v x,u,h=>h
 | .nil,u,h=>h
 | .row nz e n get,u,h=>h
 | .agg cs,u,⟨us,h1,h2⟩=>⟨us,h1,rels_W0 h2⟩
 | .tup cs,u,⟨us,h1,h2⟩=>⟨us,h1,rels_W0 h2⟩
 | .cp cs,u,h=>h
 | .op id off,u,h=>nomatch h.1
 | .orow id e off n,u,h=>nomatch h.1
 | .rp id e i j,u,h=>nomatch h.1
 | .clo f cs,u,⟨us,h1,h2⟩=>⟨us,h1,rels_W0 h2⟩
 | .omap id,u,h=>nomatch h.1
 | .ifc t x,u,⟨u',h1,h2⟩=>⟨u',h1,rel_W0 h2⟩
 | .any,u,h=>h
 | .pth id p e off n,u,h=>nomatch h.1
 | .pp id p e i j,u,h=>nomatch h.1
theorem rels_W0 {S:Nat->Prop} {β:Nat->Wt} {w:World}: ∀ {x:List AV} {u:List Value},rels S W0 w x u->rels S β w x u
 |[],us,h=>h
 |v::vs,us,⟨u,us',h1,h2,h3⟩=>⟨u,us',h1,rel_W0 h2,rels_W0 h3⟩
end
theorem rels_len {S:Nat->Prop} {β:Nat->Wt} {w:World}: ∀ {x:List AV} {u:List Value},rels S β w x u->u.length=x.length
 |[],us,h=>by unfold rels at h;subst h;rfl
 |v::vs,us,h=>by
  unfold rels at h
  obtain⟨u,us',rfl,h2,h3⟩:=h
  simp[rels_len h3]
def AV.one:AV->Bool
 | .agg _=>false
 | .tup _=>false
 | .v x=>x.oneCell'
 |_=>true
theorem rel_one {S:Nat->Prop} {β:Nat->Wt} {w:World} {x:AV} {u:Value} (h:rel S β w x u) (ho:x.one=true):u.oneCell'=true:=by
 cases x<;>simp only[AV.one] at ho<;>unfold rel at h
 case agg=>cases ho
 case tup=>cases ho
 case v=>subst h;exact ho
 case row=>obtain⟨a,cap,us,rfl,_⟩:=h;rfl
 case cp=>obtain⟨ad,us,rfl,_⟩:=h;rfl
 case op=>obtain⟨_,b,_,rfl⟩:=h;rfl
 case rp=>obtain⟨_,ad,_,rfl⟩:=h;rfl
 case orow=>obtain⟨_,rfl⟩:=h;rfl
 case clo=>obtain⟨us,rfl,_⟩:=h;rfl
 case omap=>obtain⟨_,b,_,rfl⟩:=h;rfl
 case ifc=>obtain⟨u',rfl,_⟩:=h;rfl
 case any=>exact h
 case pth=>obtain⟨_,rfl⟩:=h;rfl
 case pp=>obtain⟨_,ad,_,rfl⟩:=h;rfl
 all_goals subst h;rfl
theorem rels_one {S:Nat->Prop} {β:Nat->Wt} {w:World}: ∀ {x:List AV} {u:List Value},rels S β w x u->x.all AV.one=true->u.all (·.oneCell')=true
 |[],us,h,_=>by unfold rels at h;subst h;rfl
 |v::vs,us,h,ho=>by
  unfold rels at h
  obtain⟨u,us',rfl,h2,h3⟩:=h
  simp only[List.all_cons,Bool.and_eq_true] at ho⊢
  exact⟨rel_one h2 ho.1,rels_one h3 ho.2⟩
theorem rels_drop {S:Nat->Prop} {β:Nat->Wt} {w:World}: ∀ {n:Nat} {x:List AV} {u:List Value},rels S β w x u->rels S β w (x.drop n) (u.drop n)
 |0,_,_,h=>h
 |n+1,[],us,h=>by unfold rels at h;subst h;simp[rels]
 |n+1,v::vs,us,h=>by
  unfold rels at h
  obtain⟨u,us',rfl,h2,h3⟩:=h
  exact rels_drop (n:=n) h3
theorem rels_take {S:Nat->Prop} {β:Nat->Wt} {w:World}: ∀ {n:Nat} {x:List AV} {u:List Value},rels S β w x u->rels S β w (x.take n) (u.take n)
 |0,_,_,h=>by simp[rels]
 |n+1,[],us,h=>by unfold rels at h;subst h;simp[rels]
 |n+1,v::vs,us,h=>by
  unfold rels at h
  obtain⟨u,us',rfl,h2,h3⟩:=h
  rw[List.take_succ_cons,List.take_succ_cons]
  exact⟨u,_,rfl,h2,rels_take (n:=n) h3⟩
theorem rels_app {S:Nat->Prop} {β:Nat->Wt} {w:World}: ∀ {x y:List AV} {u v:List Value},rels S β w x u->rels S β w y v->rels S β w (x++y) (u++v)
 |[],y,us,v,h,h'=>by unfold rels at h;subst h;exact h'
 |a::x,y,us,v,h,h'=>by
  unfold rels at h
  obtain⟨u,us',rfl,h2,h3⟩:=h
  exact⟨u,_,rfl,h2,rels_app h3 h'⟩
theorem rels_get {S:Nat->Prop} {β:Nat->Wt} {w:World}: ∀ {x:List AV} {u:List Value} {i:Nat} {v:AV},rels S β w x u->x[i]?=some v-> ∃a,u[i]?=some a/\rel S β w v a
 |[],us,i,v,h,hi=>by simp at hi
 |a::x,us,i,v,h,hi=>by
  unfold rels at h
  obtain⟨u,us',rfl,h2,h3⟩:=h
  cases i with
  |zero=>simp at hi;subst hi;exact⟨u,rfl,h2⟩
  |succ i=>simpa using rels_get h3 (by simpa using hi)
abbrev Sl:=List (Nat×Nat×AV)
abbrev Os:=List (Nat×Obj)
abbrev Tb:=List (Nat×Nat×Bool)
def lk {α:Type}:List (Nat×α)->Nat->Option α
 |[],_=>none
 |(s,x)::l,i=>bif Nat.beq s i then some x else lk l i
def gv (b:Bool) (v:Value):Value:=bif b then v else undef
def tg (tb:Tb) (c:Nat):Bool:=match lk tb c with
 |some (_,x)=>x
 |none=>true
structure TbOk (tb:Tb):Prop where
 up: ∀c p x,lk tb c=some (p,x)->x=true->tg tb p=true
 old:lk tb 0=none
 par: ∀c p x,lk tb c=some (p,x)->p=0\/ ∃q y,lk tb p=some (q,y)
structure BelowX (X:List Nat) (w w':World):Prop where
 os:w'.os=w.os
 tape:w'.tape=w.tape
 output:w'.output=w.output
 size:w.heap.size<=w'.heap.size
 block: ∀k,k<w.heap.size->k∉X->w'.heap[k]?=w.heap[k]?
theorem BelowX.refl (X:List Nat) (w:World):BelowX X w w:=⟨rfl,rfl,rfl,Nat.le_refl _,fun _ _ _=>rfl⟩
theorem BelowX.below {a b:World} (h:BelowX [] a b):Below a.heap.size a b:=⟨h.os,h.tape,h.output,h.size,fun k hk=>h.block k hk (by simp)⟩
def OkD (n d:Nat):Prop:=Nat.div n 1048576<=d/\d<Nat.mod n 1048576
def okD (n d:Nat):Bool:=Nat.ble (Nat.div n 1048576) d&&Nat.blt d (Nat.mod n 1048576)
theorem okD_ok {n d:Nat} (h:okD n d=true):OkD n d:=by
 simp only[okD,Bool.and_eq_true,Nat.blt_eq] at h
 exact⟨Nat.le_of_ble_eq_true h.1,h.2⟩
structure Env where
 n:Nat
 S:Nat->Prop
 w0:World
 X:List Nat
 vars:Rob S w0 Vr
 apart: ∀k,S k->k∉X
 ds:List Deferred
 pv:Nat->Option Value
def feet (o:Os) (β:Nat->Wt):List Nat:=o.flatMap fun p=>(β p.1).foot
def Env.good (E:Env) (o:Os) (β:Nat->Wt) (k:Nat):Prop:=(E.S k\/E.w0.heap.size<=k\/k∈E.X)/\k∉feet o β
def rowAt (cells:List Value) (off e:Nat) (us:Nat->List Value) (i:Nat):Prop:=((us i).length=e/\(us i).all (·.oneCell')=true)/\ ∀j u,(us i)[j]?=some u->cells[off+i*e+j]?=some u
mutual
def treeD (S : Nat → Prop) (w : World) (sb : Sub) : AV → Pth → Value → List Nat → Prop
  | .row nz e n get, p, u, F => u = .slice (sb p).1 n (sb p).2 ∧ (∀ z, nz = some z → (sb p).1.isSome = z) ∧ (n ≤ (sb p).2 ∧ n ≤ maxLen) ∧
      (((sb p).1 = none ∧ (sb p).2 = 0 ∧ F = []) ∨
        ∃ b off cells ty us FS, (sb p).1 = some ⟨b, off, none⟩ ∧ F = b :: (List.range n).flatMap FS ∧ w.heap[b]? = some (.cells (cells : List Value).toArray ty (0, 0)) ∧ off + (sb p).2 * e ≤ cells.length ∧
          ∀ i, i < n → rowAt cells off e us i ∧ treeDs S w sb (get i) p i 0 (us i) (FS i))
  | .nil, p, u, F => F = [] ∧ rel S W0 w .nil u ∧ sb p = (none, 0)
  | x, p, u, F => F = [] ∧ rel S W0 w x u
def treeDs (S:Nat->Prop) (w:World) (sb:Sub):List AV->Pth->Nat->Nat->List Value->List Nat->Prop
 |[],p,i,j,us,F=>us=[]/\F=[]
 |v::vs,p,i,j,us,F=>∃u us' F1 F2,us=u::us'/\F=F1++F2/\treeD S w sb v (p++[(i,j)]) u F1/\treeDs S w sb vs p i (j+1) us' F2
end
def isRow:AV->Bool
 | .row _ _ _ _=>true
 | .nil=>true
 |_=>false
theorem treeD_flat {S:Nat->Prop} {w:World} {sb:Sub} {x:AV} {p:Pth} {u:Value} {F:List Nat} (hx:isRow x=false):treeD S w sb x p u F↔F=[]/\rel S W0 w x u:=by
 cases x<;>first|rfl|exact Iff.rfl|cases hx
mutual
theorem treeD_mono {S S':Nat->Prop} {w w':World} {sb sb':Sub} (hc:Comp S w S' w'): ∀(x:AV) (p:Pth) (u:Value) (F:List Nat),(∀k∈F,w'.heap[k]?=w.heap[k]?)->(∀r,sb' (p++r)=sb (p++r))->treeD S w sb x p u F->treeD S' w' sb' x p u F
 | .row nz e n get,p,u,F,hF,hs,h=>by
  unfold treeD at h⊢
  have hp:sb' p=sb p:=by have:=hs [];rwa [List.append_nil] at this
  obtain⟨h1,h2,h3,h4⟩:=h
  rw[hp]
  refine⟨h1,h2,h3,h4.imp id ?_⟩
  rintro ⟨b,off,cells,ty,us,FS,g1,rfl,g3,g4,g5⟩
  refine⟨b,off,cells,ty,us,FS,g1,rfl,(hF b (by simp)).trans g3,g4,fun i hi=>⟨(g5 i hi).1,?_⟩⟩
  exact treeDs_mono hc (get i) p i 0 (us i) (FS i) (fun k hk=>hF k (List.mem_cons_of_mem _ (List.mem_flatMap.2 ⟨i,List.mem_range.2 hi,hk⟩))) (fun c r _=>hs _) (g5 i hi).2
 | .i k z,p,u,F,hF,hs,h=>⟨h.1,rel_mono hc _ _ h.2⟩
 | .b t,p,u,F,hF,hs,h=>⟨h.1,rel_mono hc _ _ h.2⟩
 | .s x,p,u,F,hF,hs,h=>⟨h.1,rel_mono hc _ _ h.2⟩
 | .v x,p,u,F,hF,hs,h=>⟨h.1,rel_mono hc _ _ h.2⟩
 | .nil,p,u,F,hF,hs,h=>by
  unfold treeD at h⊢
  exact⟨h.1,rel_mono hc _ _ h.2.1,by have:=hs [];rw[List.append_nil] at this;rw[this];exact h.2.2⟩
 | .agg cs,p,u,F,hF,hs,h=>⟨h.1,rel_mono hc _ _ h.2⟩
 | .tup cs,p,u,F,hF,hs,h=>⟨h.1,rel_mono hc _ _ h.2⟩
 | .cp cs,p,u,F,hF,hs,h=>⟨h.1,rel_mono hc _ _ h.2⟩
 | .op id off,p,u,F,hF,hs,h=>⟨h.1,rel_mono hc _ _ h.2⟩
 | .orow id e off n,p,u,F,hF,hs,h=>⟨h.1,rel_mono hc _ _ h.2⟩
 | .rp id e i j,p,u,F,hF,hs,h=>⟨h.1,rel_mono hc _ _ h.2⟩
 | .clo f cs,p,u,F,hF,hs,h=>⟨h.1,rel_mono hc _ _ h.2⟩
 | .omap id,p,u,F,hF,hs,h=>⟨h.1,rel_mono hc _ _ h.2⟩
 | .ifc t x,p,u,F,hF,hs,h=>⟨h.1,rel_mono hc _ _ h.2⟩
 | .any,p,u,F,hF,hs,h=>⟨h.1,rel_mono hc _ _ h.2⟩
 | .pth _ _ _ _ _,p,u,F,hF,hs,h=>⟨h.1,rel_mono hc _ _ h.2⟩
 | .pp _ _ _ _ _,p,u,F,hF,hs,h=>⟨h.1,rel_mono hc _ _ h.2⟩
theorem treeDs_mono {S S':Nat->Prop} {w w':World} {sb sb':Sub} (hc:Comp S w S' w'): ∀(xs:List AV) (p:Pth) (i j:Nat) (us:List Value) (F:List Nat),(∀k∈F,w'.heap[k]?=w.heap[k]?)->(∀c r,j<=c->sb' (p++(i,c)::r)=sb (p++(i,c)::r))->treeDs S w sb xs p i j us F->treeDs S' w' sb' xs p i j us F
 |[],p,i,j,us,F,hF,hs,h=>h
 |v::vs,p,i,j,us,F,hF,hs,h=>by
  unfold treeDs at h⊢
  obtain⟨u,us',F1,F2,rfl,rfl,h1,h2⟩:=h
  exact⟨u,us',F1,F2,rfl,rfl,treeD_mono hc v _ u F1 (fun k hk=>hF k (by simp[hk])) (fun r=>by rw[List.append_assoc];exact hs j r (Nat.le_refl _)) h1,treeDs_mono hc vs p i (j+1) us' F2 (fun k hk=>hF k (by simp[hk])) (fun c r hcj=>hs c r (by omega)) h2⟩
end
def orel (S:Nat->Prop) (β:Nat->Wt) (w:World) (W:Wt):Obj->Prop
 | .box p q cs=>∃b us ty,W.a=some ⟨b,0,none⟩/\W.foot=[b]/\w.heap[b]?=some (.cells (us:List Value).toArray ty (0,0))/\rels S β w cs us/\(W.cap=0/\(W.ok=true/\W.sub=sub0)/\(∀b0,p=some b0->b=b0)/\ ∀t0,q=some t0->ty=t0)
 | .row q e n get=>n<=W.cap/\n<=maxLen/\((W.a=none/\W.cap=0/\W.foot=[])\/
   ∃b off cells ty us,W.a=some ⟨b,off,none⟩/\W.foot=[b]/\w.heap[b]?=some (.cells (cells:List Value).toArray ty (0,0))/\(off+W.cap*e<=cells.length/\ ∀t0,q=some t0->ty=t0)/\ ∀i,i<n->rowAt cells off e us i/\rels S W0 w (get i) (us i))
 | .tree e n get=>W.ok=true/\treeD S w (rsub W) (.row none e n get) [] (.slice W.a n W.cap) W.foot
 | .mp Φ k n F=>(W.ok=true/\W.cap=0/\W.sub=sub0)/\ ∃b x,W.a=some ⟨b,0,none⟩/\W.foot=[b]/\w.heap[b]?=some x/\Φ x/\ ∀b0,k=b0+1->b=b0
def omen (d:Nat):Obj->Bool
 | .box _ _ cs=>mens d cs
 | .row _ _ _ _=>false
 | .tree _ _ _=>false
 | .mp _ _ _ _=>false
theorem orel_agr {S:Nat->Prop} {β β':Nat->Wt} {w:World} {W:Wt}: ∀ {ob:Obj},(∀id,omen id ob=true->β' id=β id)->orel S β w W ob->orel S β' w W ob
 | .box p q cs,hm,⟨b,us,ty,h1,h2,h3,h4,h5⟩=>⟨b,us,ty,h1,h2,h3,rels_agr cs us hm h4,h5⟩
 | .row q e n get,hm,h=>h
 | .tree e n get,hm,h=>h
 | .mp Φ k n F,hm,h=>h
theorem orel_mono {S S':Nat->Prop} {β:Nat->Wt} {w w':World} {W:Wt} (hc:Comp S w S' w') (hf: ∀k∈W.foot,w'.heap[k]?=w.heap[k]?): ∀ {ob:Obj},orel S β w W ob->orel S' β w' W ob
 | .box p q cs,⟨b,us,ty,h1,h2,h3,h4,h5⟩=>⟨b,us,ty,h1,h2,(hf b (by rw[h2];simp)).trans h3,rels_mono hc cs us h4,h5⟩
 | .row q e n get,⟨h1,h2,h3⟩=>⟨h1,h2,h3.imp id fun⟨b,off,cells,ty,us,a1,a2,a3,a4,a5⟩=>⟨b,off,cells,ty,us,a1,a2,(hf b (by rw[a2];simp)).trans a3,a4,fun i hi=>⟨(a5 i hi).1,rels_mono hc _ _ (a5 i hi).2⟩⟩⟩
 | .tree e n get,⟨h1,h2⟩=>⟨h1,treeD_mono hc _ _ _ _ hf (fun _=>rfl) h2⟩
 | .mp Φ k n F,⟨h1,b,x,h2,h3,h4,h5⟩=>⟨h1,b,x,h2,h3,(hf b (by rw[h3];simp)).trans h4,h5⟩
structure Gam (E:Env) (tb:Tb) (s:Sl) (o:Os) (β:Nat->Wt) (a:Act) (w:World):Prop where
 size:a.tmps.size=Nat.mod E.n 1048576/\ ∀d,d<Nat.div E.n 1048576->a.tmps[d]?=E.pv d
 defers:a.defers=E.ds
 tbok:TbOk tb
 slots: ∀d c v,lk s d=some (c,v)-> ∃u,a.tmps[d]?=some (gv (tg tb c) u)/\(tg tb c=true->rel (E.good o β) β w v u)
 objs: ∀id ob,lk o id=some ob->orel (E.good o β) β w (β id) ob
 below:BelowX E.X E.w0 w
 new: ∀k∈feet o β,(E.w0.heap.size<=k\/k∈E.X)/\k<w.heap.size
 nodup:(feet o β).Nodup
 keys:(o.map (·.1)).Nodup
theorem feet_cons {id:Nat} {ob:Obj} {o:Os} {β:Nat->Wt}:feet ((id,ob)::o) β=(β id).foot++feet o β:=by unfold feet;rw[List.flatMap_cons]
theorem feet_app {o o':Os} {β:Nat->Wt}:feet (o++o') β=feet o β++feet o' β:=by unfold feet;rw[List.flatMap_append]
theorem lk_mem {α:Type} {x:α} {i:Nat}: ∀ {l:List (Nat×α)},lk l i=some x->(i,x)∈l
 |[],h=>by simp[lk] at h
 |(s,y)::l,h=>by
  simp only[lk] at h
  cases hb:Nat.beq s i with
  |true=>
   rw[hb,cond_true] at h
   cases h
   rw[Nat.eq_of_beq_eq_true hb];exact List.mem_cons_self
  |false=>rw[hb,cond_false] at h;exact List.mem_cons_of_mem _ (lk_mem h)
theorem lk_cons {α:Type} {x:α} {i s:Nat} {l:List (Nat×α)}:lk ((s,x)::l) i=if s=i then some x else lk l i:=by
 simp only[lk]
 by_cases h:s=i
 ·subst h;simp
 ·have:Nat.beq s i=false:=by rw[<-Bool.not_eq_true];simpa using h
  rw[this,cond_false,if_neg h]
theorem lk_app {α:Type} {i:Nat}: ∀ {l l':List (Nat×α)},lk (l++l') i=(lk l i).or (lk l' i)
 |[],l'=>by simp[lk]
 |(s,x)::l,l'=>by
  rw[List.cons_append,lk_cons,lk_cons]
  split
  ·rfl
  ·exact lk_app
theorem foot_feet {o:Os} {β:Nat->Wt} {id:Nat} {ob:Obj} (h:lk o id=some ob): ∀k∈(β id).foot,k∈feet o β:=fun k hk=>List.mem_flatMap.2 ⟨_,lk_mem h,hk⟩
section
variable {E:Env} {tb:Tb} {s:Sl} {o:Os} {β:Nat->Wt} {a:Act} {w w':World}
theorem Gam.slotsTo {s':Sl} {tb':Tb} (h:Gam E tb s o β a w) (ht:TbOk tb') (hs: ∀d c v,lk s' d=some (c,v)-> ∃u,a.tmps[d]?=some (gv (tg tb' c) u)/\(tg tb' c=true->rel (E.good o β) β w v u)):Gam E tb' s' o β a w:=
 ⟨h.size,h.defers,ht,hs,h.objs,h.below,h.new,h.nodup,h.keys⟩
theorem tmps_put {a:Act} {d n:Nat} {v:Value} (hs:a.tmps.size=n) (hd:d<n) (i:Nat):(a.put (some d) v).tmps[i]?=if d=i then some v else a.tmps[i]?:=by
 simp only[Act.put]
 by_cases hi:d=i
 ·subst hi;rw[if_pos rfl,Array.getElem?_setIfInBounds_self_of_lt (by omega)]
 ·rw[if_neg hi,Array.getElem?_setIfInBounds_ne hi]
theorem Gam.put {d c:Nat} {v:AV} {u:Value} (h:Gam E tb s o β a w) (hd:OkD E.n d) (hv:tg tb c=true->rel (E.good o β) β w v u):Gam E tb ((d,c,v)::s) o β (a.put (some d) (gv (tg tb c) u)) w:=by
 refine⟨⟨by simpa[Act.put] using h.size.1,fun i hi=>(tmps_put h.size.1 hd.2 i).trans ((if_neg fun e=>by have:=hd.1;omega).trans (h.size.2 i hi))⟩,h.defers,h.tbok,fun i c' v' hl=>?_,h.objs,h.below,h.new,h.nodup,h.keys⟩
 rw[lk_cons] at hl
 rw[tmps_put h.size.1 hd.2]
 by_cases hi:d=i
 ·subst hi
  rw[if_pos rfl] at hl⊢
  cases hl
  exact⟨u,rfl,hv⟩
 ·rw[if_neg hi] at hl⊢
  exact h.slots i c' v' hl
theorem Gam.world (h:Gam E tb s o β a w) (hos:w'.os=w.os) (ht:w'.tape=w.tape) (ho:w'.output=w.output) (hz:w.heap.size<=w'.heap.size) (hb: ∀k,k<w.heap.size->w'.heap[k]?=w.heap[k]?):Gam E tb s o β a w':=by
 have hc:Comp (E.good o β) w (E.good o β) w':=⟨hz,fun k hk hg=>⟨hg,hb k hk⟩⟩
 refine⟨h.size,h.defers,h.tbok,fun d c v hl=>?_,fun id ob hl=>?_,⟨hos.trans h.below.os,ht.trans h.below.tape,ho.trans h.below.output,Nat.le_trans h.below.size hz,fun k hk hx=>(hb k (Nat.lt_of_lt_of_le hk h.below.size)).trans (h.below.block k hk hx)⟩,fun k hk=>⟨(h.new k hk).1,Nat.lt_of_lt_of_le (h.new k hk).2 hz⟩,h.nodup,h.keys⟩
 ·obtain⟨u,h1,h2⟩:=h.slots d c v hl
  exact⟨u,h1,fun hg=>rel_mono hc _ _ (h2 hg)⟩
 ·exact orel_mono hc (fun k hk=>hb k (h.new k (foot_feet hl k hk)).2) (h.objs id ob hl)
theorem Gam.drew (h:Gam E tb s o β a w):Gam E tb s o β a w.drew:=h.world rfl rfl rfl (Nat.le_refl _) fun _ _=>rfl
def setB (β:Nat->Wt) (d:Nat) (W:Wt):Nat->Wt:=fun i=>if i=d then W else β i
theorem setB_self {d:Nat} {W:Wt}:setB β d W d=W:=if_pos rfl
theorem setB_ne {d i:Nat} {W:Wt} (h:i≠d):setB β d W i=β i:=if_neg h
def smen (d:Nat):Sl->Bool
 |[]=>false
 |(_,_,v)::l=>men d v||smen d l
def omens (d:Nat):Os->Bool
 |[]=>false
 |(i,ob)::l=>Nat.beq i d||omen d ob||omens d l
def fresh (d:Nat) (s:Sl) (o:Os):Bool:= !smen d s&& !omens d o
theorem smen_lk {d i c:Nat} {v:AV}: ∀ {s:Sl},lk s i=some (c,v)->smen d s=false->men d v=false
 |[],h,_=>by simp[lk] at h
 |(j,c',v')::s,h,hm=>by
  simp only[smen,Bool.or_eq_false_iff] at hm
  rw[lk_cons] at h
  split at h
  ·cases h;exact hm.1
  ·exact smen_lk h hm.2
theorem omens_lk {d i:Nat} {ob:Obj}: ∀ {o:Os},lk o i=some ob->omens d o=false->omen d ob=false/\i≠d
 |[],h,_=>by simp[lk] at h
 |(j,ob')::o,h,hm=>by
  simp only[omens,Bool.or_eq_false_iff] at hm
  rw[lk_cons] at h
  split at h
  ·rename_i hji
   cases h
   refine⟨hm.1.2,fun e=>?_⟩
   have:=hm.1.1
   rw[hji,e] at this
   simp at this
  ·exact omens_lk h hm.2
theorem omens_keys {d:Nat}: ∀ {o:Os},omens d o=false-> ∀p∈o,p.1≠d
 |[],_,p,hp=>nomatch hp
 |(j,ob)::o,hm,p,hp=>by
  simp only[omens,Bool.or_eq_false_iff] at hm
  rcases List.mem_cons.1 hp with rfl|hp
  ·intro e;have:=hm.1.1;rw[show j=d from e] at this;simp at this
  ·exact omens_keys hm.2 p hp
theorem feet_setB {d:Nat} {W:Wt}: ∀ {o:Os},(∀p∈o,p.1≠d)->feet o (setB β d W)=feet o β
 |[],_=>rfl
 |(j,ob)::o,h=>by rw[feet_cons,feet_cons,feet_setB fun p hp=>h p (List.mem_cons_of_mem _ hp),setB_ne (h (j,ob) List.mem_cons_self)]
theorem Gam.add {d:Nat} {W:Wt} {ob:Obj} (h:Gam E tb s o β a w) (hf:fresh d s o=true) (hW: ∀k∈W.foot,w.heap.size<=k/\k<w'.heap.size) (hn:W.foot.Nodup)
  (hos:w'.os=w.os) (ht:w'.tape=w.tape) (ho:w'.output=w.output) (hz:w.heap.size<=w'.heap.size) (hb: ∀k,k<w.heap.size->w'.heap[k]?=w.heap[k]?)
  (hob:Comp (E.good o β) w (E.good ((d,ob)::o) (setB β d W)) w'->orel (E.good ((d,ob)::o) (setB β d W)) (setB β d W) w' W ob):Gam E tb s ((d,ob)::o) (setB β d W) a w':=by
 simp only[fresh,Bool.and_eq_true,Bool.not_eq_true'] at hf
 have hfe:feet ((d,ob)::o) (setB β d W)=W.foot++feet o β:=by rw[feet_cons,setB_self,feet_setB (omens_keys hf.2)]
 have hc:Comp (E.good o β) w (E.good ((d,ob)::o) (setB β d W)) w':=by
  refine⟨hz,fun k hk hg=>⟨⟨hg.1,fun hm=>?_⟩,hb k hk⟩⟩
  rw[hfe] at hm
  rcases List.mem_append.1 hm with q|q
  ·have:=(hW k q).1;omega
  ·exact hg.2 q
 refine⟨h.size,h.defers,h.tbok,fun i c v hl=>?_,fun id ob' hl=>?_,⟨hos.trans h.below.os,ht.trans h.below.tape,ho.trans h.below.output,Nat.le_trans h.below.size hz,fun k hk hx=>(hb k (Nat.lt_of_lt_of_le hk h.below.size)).trans (h.below.block k hk hx)⟩,fun k hk=>?_,?_,?_⟩
 ·obtain⟨u,h1,h2⟩:=h.slots i c v hl
  refine⟨u,h1,fun hg=>rel_agr _ _ (fun id hid=>?_) (rel_mono hc _ _ (h2 hg))⟩
  exact setB_ne fun e=>by subst e;rw[smen_lk hl hf.1] at hid;cases hid
 ·rw[lk_cons] at hl
  split at hl
  ·rename_i e
   cases hl;subst e
   rw[setB_self];exact hob hc
  ·rename_i e
   obtain⟨q1,q2⟩:=omens_lk hl hf.2
   rw[setB_ne q2]
   refine orel_agr (fun id' hid=>?_) (orel_mono hc (fun k hk=>hb k (h.new k (foot_feet hl k hk)).2) (h.objs id ob' hl))
   exact setB_ne fun e=>by subst e;rw[q1] at hid;cases hid
 ·rw[hfe] at hk
  rcases List.mem_append.1 hk with q|q
  ·exact⟨.inl (Nat.le_trans h.below.size (hW k q).1),(hW k q).2⟩
  ·exact⟨(h.new k q).1,Nat.lt_of_lt_of_le (h.new k q).2 hz⟩
 ·rw[hfe]
  refine List.nodup_append.2 ⟨hn,h.nodup,fun x hx y hy e=>?_⟩
  subst e
  have:=(hW x hx).1;have:=(h.new x hy).2;omega
 ·rw[List.map_cons,List.nodup_cons]
  refine⟨fun hm=>?_,h.keys⟩
  obtain⟨p,hp,e⟩:=List.mem_map.1 hm
  exact omens_keys hf.2 p hp e
theorem Gam.vars (h:Gam E tb s o β a w):Rob (E.good o β) w Vr:=by
 intro w' hz hb
 refine E.vars w' (Nat.le_trans h.below.size hz) fun k hk hs=>?_
 have hx:k∉E.X:=E.apart k hs
 have hf:k∉feet o β:=fun hm=>by
  rcases(h.new k hm).1 with q|q
  ·omega
  ·exact hx q
 exact(hb k (Nat.lt_of_lt_of_le hk h.below.size) ⟨.inl hs,hf⟩).trans (h.below.block k hk hx)
end
variable {P:Program}
theorem add_none (b o j:Nat):(⟨b,o,none⟩:Addr).add j=⟨b,o+j,none⟩:=by unfold Addr.add;split<;>simp_all
theorem cell_blk {w:World} {b i:Nat} {cs:List Value} {t:TypeId} {fr:Nat×Nat} (h:w.heap[b]?=some (.cells cs.toArray t fr)):w.cell? ⟨b,i,none⟩=cs[i]?:=by
 simp[World.cell?,h]
def splice {α:Type}:List α->Nat->List α->List α
 |zs,0,[]=>zs
 |_::zs,0,v::vs=>v::splice zs 0 vs
 |z::zs,n+1,vs=>z::splice zs n vs
 |[],_,_=>[]
theorem splice_nil {α:Type}: ∀(zs:List α) (n:Nat),splice zs n []=zs
 |[],0=>rfl
 |[],_+1=>rfl
 |_::_,0=>rfl
 |z::zs,n+1=>by rw[splice,splice_nil zs n]
theorem splice_length {α:Type}: ∀(zs:List α) (n:Nat) (vs:List α),(splice zs n vs).length=zs.length
 |[],0,[]=>rfl
 |[],0,_::_=>rfl
 |[],_+1,[]=>rfl
 |[],_+1,_::_=>rfl
 |_::_,0,[]=>rfl
 |_::zs,0,v::vs=>by rw[splice,List.length_cons,splice_length zs 0 vs,List.length_cons]
 |z::zs,n+1,vs=>by rw[splice,List.length_cons,splice_length zs n vs,List.length_cons]
theorem splice_cons {α:Type}: ∀(zs:List α) (n:Nat) (v:α) (vs:List α),splice zs n (v::vs)=splice (zs.set n v) (n+1) vs
 |[],0,v,[]=>rfl
 |[],0,v,_::_=>rfl
 |[],_+1,v,[]=>rfl
 |[],_+1,v,_::_=>rfl
 |_::zs,0,v,vs=>by rw[splice,List.set_cons_zero,splice]
 |z::zs,n+1,v,vs=>by rw[splice,splice_cons zs n v vs,List.set_cons_succ,splice]
theorem splice_append {α:Type}: ∀(as0 zs vs:List α),splice (as0++zs) as0.length vs=as0++splice zs 0 vs
 |[],zs,vs=>rfl
 |a::as0,zs,vs=>by rw[List.cons_append,List.length_cons,splice,splice_append as0 zs vs,List.cons_append]
def fills (place:Nat->Option (Nat×Nat)):List Value->List (Nat×Value)->Option (List Value)
 |cs,[]=>some cs
 |cs,(i,v)::r=>
  match place i with
  |none=>none
  |some (off,size)=>bif Nat.beq v.cells.size size&&Nat.ble (off+size) cs.length then fills place (splice cs off v.cells.toList) r else none
theorem splice_fold (off:Nat): ∀(vs:List Value) (k:Nat) (cs:List Value),(vs.zipIdx k).foldl (fun(cs:Array Value) (p:Value×Nat)=>cs.setIfInBounds (off+p.2) p.1) cs.toArray=(splice cs (off+k) vs).toArray
 |[],k,cs=>by simp[splice_nil]
 |v::vs,k,cs=>by
  rw[List.zipIdx_cons,List.foldl_cons]
  simp only[List.setIfInBounds_toArray]
  rw[splice_fold off vs (k+1),splice_cons,Nat.add_assoc]
theorem fills_eq (place:Nat->Option (Nat×Nat)): ∀(parts:List (Nat×Value)) (cs cs':List Value),fills place cs parts=some cs'->Instr.fill place cs.toArray parts=some cs'.toArray
 |[],cs,cs',h=>by simp only[fills,Option.some.injEq] at h;subst h;rfl
 |(i,v)::r,cs,cs',h=>by
  simp only[fills] at h
  unfold Instr.fill
  cases hp:place i with
  |none=>simp[hp] at h
  |some p=>
   obtain⟨off,size⟩:=p
   simp only[hp] at h⊢
   cases hb:(Nat.beq v.cells.size size&&Nat.ble (off+size) cs.length) with
   |false=>simp[hb] at h
   |true=>
    simp only[hb,cond_true] at h
    simp only[Bool.and_eq_true] at hb
    have h1:v.cells.size=size:=Nat.eq_of_beq_eq_true hb.1
    have h2:off+size<=cs.length:=Nat.le_of_ble_eq_true hb.2
    have hif:(decide (v.cells.size≠size)||decide (off+v.cells.size>cs.toArray.size))=false:=by simp[h1];omega
    simp only[hif,Bool.false_eq_true,if_false]
    have:=splice_fold off v.cells.toList 0 cs
    rw[Nat.add_zero] at this
    rw[<-fills_eq place r _ _ h,<-this]
    congr 1
    rw[<-Array.foldl_toList,Array.toList_zipIdx]
def dense (sz:Nat):Nat->List (Nat×Value)->List Value->Prop
 |_,[],[]=>True
 |k,(i,v)::r,cs=>i=k/\v.cells.size=sz/\ ∃cs',cs=v.cells.toList++cs'/\dense sz (k+1) r cs'
 |_,_,_=>False
theorem splice_zero {α:Type}: ∀(zs vs:List α),vs.length<=zs.length->splice zs 0 vs=vs++zs.drop vs.length
 |zs,[],_=>by simp[splice_nil]
 |[],v::vs,h=>by simp at h
 |z::zs,v::vs,h=>by rw[splice,splice_zero zs vs (by simpa using h)];simp
theorem dense_fill {sz:Nat}: ∀(us:List (Nat×Value)) (k:Nat) (cs pre zs:List Value),dense sz k us cs->pre.length=k*sz->zs.length=us.length*sz->
  fills (fun i=>some (i*sz,sz)) (pre++zs) us=some (pre++cs)
 |[],k,[],pre,zs,_,_,hz=>by
  have:zs=[]:=List.eq_nil_of_length_eq_zero (by simpa using hz)
  subst this;rfl
 |(i,v)::r,k,cs,pre,zs,⟨hi,hv,cs',hcs,hr⟩,hp,hz=>by
  subst hi hcs
  have hl:v.cells.toList.length=sz:=by simpa using hv
  have hzl:zs.length=r.length*sz+sz:=by rw[hz,List.length_cons,Nat.add_mul,Nat.one_mul]
  have c1:Nat.beq v.cells.size sz=true:=by rw[hv];exact Nat.beq_refl _
  have c2:Nat.ble (i*sz+sz) (pre++zs).length=true:=Nat.ble_eq_true_of_le (by rw[List.length_append,hp,hzl];omega)
  simp only[fills,c1,c2,Bool.and_self,cond_true]
  rw[<-hp,splice_append,splice_zero _ _ (by rw[hl,hzl];omega),<-List.append_assoc,<-List.append_assoc]
  exact dense_fill r (i+1) cs' (pre++v.cells.toList) _ hr (by rw[List.length_append,hp,hl,Nat.add_mul,Nat.one_mul]) (by rw[List.length_drop,hl,hzl];omega)
theorem setCell_blk {w:World} {b o:Nat} {cs:List Value} {t:TypeId} (v:Value) (h:w.heap[b]?=some (.cells cs.toArray t (0,0))):(w.setCell ⟨b,o,none⟩ v).heap[b]?=some (.cells (cs.set o v).toArray t (0,0)):=by
 simp[World.setCell,Array.getElem?_modify,h]
theorem run_storeCells_blk (b t:Nat): ∀(vs:List Value) (i o:Nat) (cs:List Value) (w:World),w.heap[b]?=some (.cells cs.toArray t (0,0))->o+i+vs.length<=cs.length->vs.all (·.oneCell')=true->
  ∃w',(storeCells ⟨b,o,none⟩ vs i).run P w= .ok () w'/\w'.os=w.os/\w'.tape=w.tape/\w'.output=w.output/\w'.heap.size=w.heap.size/\w'.heap[b]?=some (.cells (splice cs (o+i) vs).toArray t (0,0))/\ ∀j,j≠b->w'.heap[j]?=w.heap[j]?
 |[],i,o,cs,w,h,_,_=>⟨w,rfl,rfl,rfl,rfl,rfl,by rw[splice_nil];exact h,fun _ _=>rfl⟩
 |v::r,i,o,cs,w,h,hl,h1=>by
  simp only[List.all_cons,Bool.and_eq_true] at h1
  have hl':o+i<cs.length:=by simp only[List.length_cons] at hl;omega
  have hcell:w.cell? ⟨b,o+i,none⟩=some cs[o+i]:=by rw[cell_blk h];exact List.getElem?_eq_getElem hl'
  have hfr:w.frozen? ⟨b,o+i,none⟩=false:=by simp[World.frozen?,h]
  obtain⟨w',hr,e1,e2,e3,e4,e5,e6⟩:=run_storeCells_blk b t r (i+1) o (cs.set (o+i) v) (w.setCell ⟨b,o+i,none⟩ v) (setCell_blk v h) (by simp only[List.length_cons,List.length_set] at*;omega) h1.2
  refine⟨w',?_,e1,e2,e3,by rw[e4];simp[World.setCell],by rw[splice_cons];exact e5,fun j hj=>(e6 j hj).trans (Below.heap_setCell _ _ _ _ hj)⟩
  unfold storeCells
  have hs:(store ⟨b,o+i,none⟩ v).run P w= .ok () (w.setCell ⟨b,o+i,none⟩ v):=by
   have h2:=h1.1
   cases v<;>first|(simp[Value.oneCell'] at h2;done)|simp[store,Sem.run,hcell,hfr]
  rw[add_none,Sem.run_bind,hs]
  exact hr
theorem growBy_le (need:Nat): ∀(r c:Nat),c<2*need+192->Builtin.growBy need r c<=2*need+192
 |0,c,h=>by unfold Builtin.growBy;omega
 |r+1,c,h=>by
  unfold Builtin.growBy
  split
  ·omega
  ·exact growBy_le need r _ (by omega)
theorem nextslicecap_le {need cap:Nat} (h:cap<need):Builtin.nextslicecap need cap<=2*need+192:=by
 unfold Builtin.nextslicecap
 split
 ·omega
 ·split
  ·omega
  ·exact growBy_le need 4 cap (by omega)
theorem zeroCells_size (z:Array Value) (n:Nat):(Builtin.zeroCells z n).size=n*z.size:=by unfold Builtin.zeroCells;simp
def inI (z:Int):Prop:= -9223372036854775808<=z/\z<=9223372036854775807
def keyV (ks:Bool) (zs:List Int):Value:=match ks with
 |true=>.agg (zs.map fun z=>Value.int .i64 z).toArray
 |false=>match zs with
  |[z]=>.int .i64 z
  |_=>undef
def kval0:List IntKind->List Value
 |[]=>[]
 |q::qs=>.int q 0::kval0 qs
structure MapOk (P:Program) (t k e:Nat) (ks:Bool) (m:Nat):Prop where
 und:P.underlying t=some (.map k e)
 kd:Go.Maps.Keyed P k
 el:P.underlying e=some (.int .i64)
 zr: ∀w,(zeroValue e).run P w= .ok (.int .i64 0) w
 one:ks=false->m=1
 key: ∀zs:List Int,zs.length=m->(∀z∈zs,inI z)-> ∃kl,keyOf P k (keyV ks zs)=some kl
structure MapSOk (P:Program) (t k e:Nat) (qs:List IntKind):Prop where
 und:P.underlying t=some (.map k e)
 kd:Go.Maps.Keyed P k
 zr: ∀w,(zeroValue e).run P w= .ok (.agg (kval0 qs).toArray) w
 key: ∀z:Int,inI z-> ∃kl,keyOf P k (.int .i64 z)=some kl
structure TI where
 sz:Nat
 agg:Bool
 offs:List (Nat×Nat)
 el:Option (Nat×Nat×Nat)
 zero:List Value
 ik:Option IntKind
 str:Bool
 bo:Bool
 cmp:Bool
 bld:Bool
 mp:Option (Nat×Nat×Bool×Nat)
 ms:Option (Nat×Nat×List IntKind)
 ifc:Bool
 fv:List (Nat×Nat)
def shp:List Value->List Value->Bool
 |[],[]=>true
 | .int k _::zs,.int k' _::us=>decide (k=k')&&shp zs us
 | .bool _::zs,.bool _::us=>shp zs us
 | .string _::zs,.string _::us=>shp zs us
 |_,_=>false
def scEq:Value->Value->Bool
 | .int _ a,.int _ b=>a==b
 | .bool a,.bool b=>a==b
 | .string a,.string b=>a.toList==b.toList
 |_,_=>false
def scEqs:List Value->List Value->Bool
 |[],[]=>true
 |x::xs,y::ys=>scEq x y&&scEqs xs ys
 |_,_=>false
structure TIok (P:Program) (t:Nat) (i:TI):Prop where
 agg: ∀w,(isAgg t).run P w= .ok i.agg w
 sz: ∀w,(sizeOf t).run P w= .ok i.sz w
 offs: ∀f j n,i.offs[f]?=some (j,n)-> ∀a w,(Instr.fieldAt t (.pointer (some a)) f).run P w= .ok (.pointer (some (a.add j))) w
 el: ∀e n b,i.el=some (e,n,b)->P.underlying t=some (.slice e)/\(∀w,(sizeOf e).run P w= .ok n w)/\ ∃inf z,P.info? e=some inf/\inf.size=n/\inf.bytes=b/\inf.zero=some z/\z.cells.size=n/\z.cells.toList.all (·.oneCell')=true
 zero:i.zero≠[]->(∃z:Value,(∀w,(zeroValue t).run P w= .ok z w)/\z.cells.toList=i.zero)/\i.zero.length=i.sz/\i.zero.all (·.oneCell')=true
 ik: ∀k,i.ik=some k->P.underlying t=some (.int k)
 str:i.str=true->P.underlying t=some .string
 bld:i.bld=true-> ∀(ps:List (Nat×Value)) (cs:List Value),fills (fun j=>i.offs[j]?) i.zero ps=some cs-> ∀w,(Instr.build t ps.toArray).run P w= .ok (.agg cs.toArray) w
 mp: ∀k e ks m,i.mp=some (k,e,ks,m)->MapOk P t k e ks m
 ms: ∀k e qs,i.ms=some (k,e,qs)->MapSOk P t k e qs
 bo:i.bo=true->P.underlying t=some .bool
 ifc:i.ifc=true-> ∃ms,P.underlying t=some (.interface ms)
 fv: ∀f j,lk i.fv f=some j-> ∀(cs:List Value) (x:Value) (w:World),cs[j]?=some x->(Instr.field t (.agg cs.toArray) f).run P w= .ok x w
 cmp:i.cmp=true-> ∀us vs:List Value,shp i.zero us=true->shp i.zero vs=true-> ∀x y w,(do eqGuard .eql t x y (.agg us.toArray) (.agg vs.toArray);binOp .eql t (.agg us.toArray) (.agg vs.toArray)).run P w= .ok (.bool (scEqs us vs)) w/\(do eqGuard .neq t x y (.agg us.toArray) (.agg vs.toArray);binOp .neq t (.agg us.toArray) (.agg vs.toArray)).run P w= .ok (.bool (!scEqs us vs)) w
abbrev TT:=List (Nat×TI)
def TTok (P:Program) (T:TT):Prop:= ∀t i,lk T t=some i->TIok P t i
theorem TTok.nil {P:Program}:TTok P []:=fun t i h=>by simp[lk] at h
theorem TTok.cons {P:Program} {T:TT} {t:Nat} {i:TI} (h:TIok P t i) (hT:TTok P T):TTok P ((t,i)::T):=fun t' i' hl=>by
 rw[lk_cons] at hl
 split at hl
 ·rename_i e;cases hl;exact e▸h
 ·exact hT t' i' hl
def constC:Value->AV
 | .int k n=>.i k n
 | .bool t=>.b t
 | .string x=>.s x
 | .slice none 0 0=>.nil
 |v=>.v v
def constA:Value->AV
 | .agg cs=>.agg (cs.toList.map constC)
 |v=>constC v
theorem constC_rel {S:Nat->Prop} {β:Nat->Wt} {w:World} (v:Value):rel S β w (constC v) v:=by
 unfold constC
 split<;>simp[rel]
theorem constCs_rel {S:Nat->Prop} {β:Nat->Wt} {w:World}: ∀l:List Value,rels S β w (l.map constC) l
 |[]=>by simp[rels]
 |v::l=>⟨v,l,rfl,constC_rel v,constCs_rel l⟩
theorem constA_rel {S:Nat->Prop} {β:Nat->Wt} {w:World} (v:Value):rel S β w (constA v) v:=by
 unfold constA
 split
 ·rename_i cs;exact⟨cs.toList,by simp,constCs_rel _⟩
 ·exact constC_rel _
def opA (s:Sl):Operand->Option (Nat×AV)
 | .tmp t=>lk s t
 | .const v=>some (0,constA v)
 | .func f=>match Nat.ble 1048576 f with
  |false=>some (0,.clo f [])
  |true=>none
 | .global g=>some (0,.v (.pointer (some ⟨g,0,none⟩)))
def anc (tb:Tb):Nat->Nat->Nat->Bool
 |0,_,c'=>Nat.beq c' 0
 |f+1,c,c'=>bif Nat.beq c' 0 then true else bif Nat.beq c c' then true else match lk tb c with
  |some (p,_)=>anc tb f p c'
  |none=>false
theorem tg_zero {tb:Tb} (h:TbOk tb):tg tb 0=true:=by unfold tg;rw[h.old]
theorem anc_tg {tb:Tb} (h:TbOk tb): ∀ {f c c':Nat},anc tb f c c'=true->tg tb c=true->tg tb c'=true
 |0,c,c',ha,hc=>by
  have:c'=0:=by simpa[anc] using ha
  rw[this];exact tg_zero h
 |f+1,c,c',ha,hc=>by
  simp only[anc] at ha
  cases h0:Nat.beq c' 0 with
  |true=>rw[Nat.eq_of_beq_eq_true h0];exact tg_zero h
  |false=>
   rw[h0,cond_false] at ha
   cases h1:Nat.beq c c' with
   |true=>rw[<-Nat.eq_of_beq_eq_true h1];exact hc
   |false=>
    rw[h1,cond_false] at ha
    cases hl:lk tb c with
    |none=>rw[hl] at ha;cases ha
    |some p=>
     obtain⟨p,x⟩:=p
     rw[hl] at ha
     refine anc_tg h ha (h.up c p x hl ?_)
     unfold tg at hc;rw[hl] at hc;exact hc
def Opn (tb:Tb) (s:Sl) (c:Nat) (x:Operand) (v:AV):Prop:= ∃c',opA s x=some (c',v)/\anc tb 9 c c'=true
def get (tb:Tb) (s:Sl) (c:Nat) (x:Operand) (K:AV->Prop):Prop:=match opA s x with
 |some (c',v)=>match anc tb 9 c c' with
  |true=>K v
  |false=>False
 |none=>False
theorem get_ok {tb:Tb} {s:Sl} {c:Nat} {x:Operand} {K:AV->Prop} (h:get tb s c x K): ∃v,K v/\Opn tb s c x v:=by
 unfold get at h
 split at h
 ·rename_i c' v e
  split at h
  ·rename_i e';exact⟨v,h,c',e,e'⟩
  ·cases h
 ·cases h
theorem Opn.eval {E:Env} {tb:Tb} {s:Sl} {o:Os} {β:Nat->Wt} {a:Act} {w:World} {c:Nat} {x:Operand} {v:AV} (h:Opn tb s c x v) (hg:Gam E tb s o β a w) (hc:tg tb c=true):rel (E.good o β) β w v (a.eval x):=by
 obtain⟨c',h1,h2⟩:=h
 cases x with
 |tmp t=>
  obtain⟨u,e1,e2⟩:=hg.slots t c' v h1
  have hc':=anc_tg hg.tbok h2 hc
  rw[hc'] at e1
  have:a.eval (.tmp t)=u:=by
   simp only[gv,cond_true] at e1
   simp only[Act.eval,Array.getD_eq_getD_getElem?,e1,Option.getD_some]
  rw[this];exact e2 hc'
 |const u=>
  simp only[opA,Option.some.injEq,Prod.mk.injEq] at h1
  rw[<-h1.2];exact constA_rel u
 |func f=>
  simp only[opA] at h1
  split at h1
  ·rename_i hb
   simp only[Option.some.injEq,Prod.mk.injEq] at h1
   rw[<-h1.2];exact⟨[],by rw[(cloF_eq hb).1,(cloF_eq hb).2];rfl,rfl⟩
  ·cases h1
 |global g=>
  simp only[opA,Option.some.injEq,Prod.mk.injEq] at h1
  rw[<-h1.2];rfl
def tmpO:Operand->List Nat
 | .tmp t=>[t]
 |_=>[]
def Ext (tb tb':Tb):Prop:= ∀c x,lk tb c=some x->lk tb' c=some x
theorem Ext.refl (tb:Tb):Ext tb tb:=fun _ _ h=>h
theorem Ext.trans {a b c:Tb} (h:Ext a b) (h':Ext b c):Ext a c:=fun i x hi=>h' i x (h i x hi)
theorem anc_ext {tb tb':Tb} (h:Ext tb tb'): ∀ {f c c':Nat},anc tb f c c'=true->anc tb' f c c'=true
 |0,c,c',ha=>ha
 |f+1,c,c',ha=>by
  simp only[anc] at ha⊢
  cases h0:Nat.beq c' 0 with
  |true=>rfl
  |false=>
   rw[h0,cond_false] at ha
   cases h1:Nat.beq c c' with
   |true=>rfl
   |false=>
    rw[h1,cond_false] at ha
    cases hl:lk tb c with
    |none=>rw[hl] at ha;cases ha
    |some p=>
     obtain⟨p,x⟩:=p
     rw[hl] at ha
     simp only[cond_false,h _ _ hl]
     exact anc_ext h ha
theorem Opn.to {tb tb':Tb} {s s':Sl} {c:Nat} {x:Operand} {v:AV} (h:Opn tb s c x v) (he:Ext tb tb') (hs: ∀t∈tmpO x,lk s' t=lk s t):Opn tb' s' c x v:=by
 obtain⟨c',h1,h2⟩:=h
 refine⟨c',?_,anc_ext he h2⟩
 cases x with
 |tmp t=>simp only[opA] at h1⊢;rw[hs t (by simp[tmpO])];exact h1
 |_=>exact h1
def Val (P:Program) (tb:Tb) (s:Sl) (o:Os) (c:Nat) (op:Op) (v:AV):Prop:=
 ∀(E:Env) (tb':Tb) (s':Sl) (o':Os) (β:Nat->Wt) (a:Act) (w:World),Ext tb tb'->(∀x∈op.operands,∀t∈tmpO x,lk s' t=lk s t)->(∀id ob,lk o id=some ob->lk o' id=some ob)->Gam E tb' s' o' β a w->tg tb c=true->tg tb' c=true->
  ∀d ty pos after gu,∃u,(execOp a.eval ⟨d,op,ty,pos,after,gu⟩).run P w= .ok (.value u) w/\rel (E.good o' β) β w v u
def need (tb:Tb) (c:Nat) (p q:Prop):Prop:=match c with
 |0=>p/\q
 |c=>(tg tb c=true->p)/\q
theorem need_ok {tb:Tb} {c:Nat} {p q:Prop} (h:need tb c p q):(tg tb c=true->p)/\q:=by
 unfold need at h
 split at h
 ·exact⟨fun _=>h.1,h.2⟩
 ·exact h
def forceK:AV->(AV->Prop)->Prop
 | .i k z,K=>K (.i k z)
 | .b z,K=>K (.b z)
 | .s z,K=>K (.s z)
 | .v z,K=>K (.v z)
 | .nil,K=>K .nil
 | .row nz e n g,K=>K (.row nz e n g)
 | .agg n,K=>K (.agg n)
 | .tup n,K=>K (.tup n)
 | .cp n,K=>K (.cp n)
 | .op n m,K=>K (.op n m)
 | .orow a b c d,K=>K (.orow a b c d)
 | .rp a b c d,K=>K (.rp a b c d)
 | .clo f c,K=>K (.clo f c)
 | .omap a,K=>K (.omap a)
 | .ifc t x,K=>K (.ifc t x)
 | .any,K=>K .any
 | .pth a b c d e,K=>K (.pth a b c d e)
 | .pp a b c d e,K=>K (.pp a b c d e)
theorem force_ok {v:AV} {K:AV->Prop} (h:forceK v K):K v:=by cases v<;>exact h
def wrp (tb:Tb) (c:Nat) (k:IntKind) (z:Int) (K:AV->Prop):Prop:= ∃r,(tg tb c=true->r=k.wrap z)/\K (.i k r)
def binI (tb:Tb) (c:Nat) (bo:BinOp) (k:IntKind) (m n:Int) (K:AV->Prop):Prop:=match bo with
 | .add=>wrp tb c k (m+n) K
 | .sub=>wrp tb c k (m-n) K
 | .mul=>wrp tb c k (m*n) K
 | .lss=>K (.b (decide (m<n)))
 | .leq=>K (.b (decide (m<=n)))
 | .gtr=>K (.b (decide (n<m)))
 | .geq=>K (.b (decide (n<=m)))
 | .eql=>K (.b (decide (m=n)))
 | .neq=>K (.b (!decide (m=n)))
 | .and=>K (.i k (bits .and k m n))
 | .or=>K (.i k (bits .or k m n))
 | .xor=>K (.i k (bits .xor k m n))
 | .andNot=>K (.i k (bits .andNot k m n))
 | .quo=>need tb c (n≠0) (wrp tb c k (m.tdiv n) K)
 | .rem=>need tb c (n≠0) (K (.i k (m.tmod n)))
 | .shl=>need tb c (0<=n) (wrp tb c k (m*2^(min n.toNat k.bits)) K)
 | .shr=>need tb c (0<=n) (K (.i k (m/2^(min n.toNat k.bits))))
def sameK:IntKind->IntKind->Bool
 | .i64,.i64=>true
 | .u64,.u64=>true
 | .u8,.u8=>true
 | .i32,.i32=>true
 | .i8,.i8=>true
 | .i16,.i16=>true
 | .u16,.u16=>true
 | .u32,.u32=>true
 |_,_=>false
theorem sameK_ok {a b:IntKind} (h:sameK a b=true):a=b:=by cases a<;>cases b<;>first|rfl|cases h
def shiftB:BinOp->Bool
 | .shl=>true
 | .shr=>true
 |_=>false
def eq1:AV->AV->(Bool->Prop)->Prop
 | .i k a,.i k' b,K=>match sameK k k' with
  |true=>K (decide (a=b))
  |false=>False
 | .b a,.b b,K=>K (decide (a=b))
 | .s a,.s b,K=>K (decide (a=b))
 |_,_,_=>False
def eqs:List AV->List AV->(Bool->Prop)->Prop
 |[],[],K=>K true
 |[x],[y],K=>eq1 x y K
 |x::xs,y::ys,K=>eq1 x y fun t=>eqs xs ys fun r=>K (t&&r)
 |_,_,_=>False
theorem beq_dec {α:Type} [DecidableEq α] (a b:α):(a==b)=decide (a=b):=by
 by_cases h:a=b<;>simp[h]
theorem str_dec (a b:ByteArray):(a.toList==b.toList)=decide (a=b):=by
 rw[Bool.eq_iff_iff,beq_iff_eq,decide_eq_true_eq]
 refine⟨fun h=>?_,fun h=>h▸rfl⟩
 rw[ByteArray.toList_eq,ByteArray.toList_eq] at h
 cases a;cases b
 simpa using Array.ext' h
theorem run_equalIn_bool {P:Program} (d:Nat) {t:TypeId} (hu:P.underlying t=some .bool) (p q:Bool) (w:World):(Op.equalIn (d+1) t (.bool p) (.bool q)).run P w= .ok (p==q) w:=by
 rw[Op.equalIn.eq_2]
 simp[run_underlying hu]
def shpA:List Value->List AV->Bool
 |[],[]=>true
 | .int k _::zs,.i k' _::us=>sameK k k'&&shpA zs us
 | .bool _::zs,.b _::us=>shpA zs us
 | .string _::zs,.s _::us=>shpA zs us
 |_,_=>false
theorem eq1_ok {S:Nat->Prop} {β:Nat->Wt} {w:World} {x y:AV} {u v:Value} {K:Bool->Prop} (hx:rel S β w x u) (hy:rel S β w y v) (h:eq1 x y K): ∃r,K r/\r=scEq u v:=by
 unfold eq1 at h
 split at h
 ·split at h
  ·unfold rel at hx hy;subst hx hy;exact⟨_,h,by simp only[scEq,beq_dec]⟩
  ·cases h
 ·unfold rel at hx hy;subst hx hy;exact⟨_,h,by simp only[scEq,beq_dec]⟩
 ·unfold rel at hx hy;subst hx hy;exact⟨_,h,by simp only[scEq,str_dec]⟩
 ·cases h
theorem eqs_ok {S:Nat->Prop} {β:Nat->Wt} {w:World}: ∀ {xs ys:List AV} {us vs:List Value} {K:Bool->Prop},rels S β w xs us->rels S β w ys vs->eqs xs ys K-> ∃r,K r/\r=scEqs us vs
 |[],[],us,vs,K,hx,hy,h=>by
  unfold rels at hx hy;subst hx hy;exact⟨true,h,rfl⟩
 |[x],[y],us,vs,K,hx,hy,h=>by
  unfold rels at hx hy
  obtain⟨u,us',rfl,h1,h2⟩:=hx
  obtain⟨v,vs',rfl,h3,h4⟩:=hy
  unfold rels at h2 h4;subst h2 h4
  obtain⟨r,hr,e⟩:=eq1_ok h1 h3 h
  exact⟨r,hr,by simp[scEqs,e]⟩
 |x::x'::xs,y::ys,us,vs,K,hx,hy,h=>by
  unfold rels at hx hy
  obtain⟨u,us',rfl,h1,h2⟩:=hx
  obtain⟨v,vs',rfl,h3,h4⟩:=hy
  have h:eq1 x y fun t=>eqs (x'::xs) ys fun r=>K (t&&r):=by cases ys<;>exact h
  obtain⟨t,ht,e⟩:=eq1_ok h1 h3 h
  obtain⟨r,hr,e'⟩:=eqs_ok h2 h4 ht
  exact⟨_,hr,by simp[scEqs,e,e']⟩
 |[x],y::y'::ys,us,vs,K,hx,hy,h=>by
  unfold rels at hx hy
  obtain⟨u,us',rfl,h1,h2⟩:=hx
  obtain⟨v,vs',rfl,h3,h4⟩:=hy
  have h:eq1 x y fun t=>eqs [] (y'::ys) fun r=>K (t&&r):=h
  obtain⟨t,ht,e⟩:=eq1_ok h1 h3 h
  cases ht
 |[],_::_,_,_,_,_,_,h=>nomatch h
 |_::_,[],_,_,_,_,_,h=>by rename_i xs _ _ _ _ _;cases xs<;>exact nomatch h
theorem shpA_ok {S:Nat->Prop} {β:Nat->Wt} {w:World}: ∀ {zs:List Value} {xs:List AV} {us:List Value},rels S β w xs us->shpA zs xs=true->shp zs us=true:=by
 intro zs
 induction zs with
 |nil=>intro xs us hx h;cases xs<;>simp[shpA] at h;unfold rels at hx;subst hx;rfl
 |cons z zs ih=>
  intro xs us hx h
  cases xs with
  |nil=>cases z<;>simp[shpA] at h
  |cons x xs=>
   unfold rels at hx
   obtain⟨u,us',rfl,h1,h2⟩:=hx
   cases z<;>cases x<;>simp only[shpA,Bool.and_eq_true] at h<;>first|(cases h;done)|skip
   ·unfold rel at h1;subst h1;exact ih h2 h
   ·unfold rel at h1;subst h1
    have:=sameK_ok h.1
    subst this
    simp only[shp,decide_true,Bool.true_and];exact ih h2 h.2
   ·unfold rel at h1;subst h1;exact ih h2 h
def binA (T:TT) (tb:Tb) (c:Nat) (bo:BinOp) (ty:Nat) (u v:AV) (K:AV->Prop):Prop:=match u,v with
 | .i k m,.i k' n=>match sameK k k'||shiftB bo with
  |true=>binI tb c bo k m n K
  |false=>False
 | .b x,.b y=>match lk T ty with
  |some ti=>match ti.bo with
   |true=>match bo with
    | .eql=>K (.b (decide (x=y)))
    | .neq=>K (.b (!decide (x=y)))
    |_=>False
   |false=>False
  |none=>False
 | .agg xs,.agg ys=>match lk T ty with
  |some ti=>match ti.cmp&&shpA ti.zero xs&&shpA ti.zero ys with
   |true=>match bo with
    | .eql=>eqs xs ys fun r=>K (.b r)
    | .neq=>eqs xs ys fun r=>K (.b (!r))
    |_=>False
   |false=>False
  |none=>False
 | .s x,.s y=>match bo with
  | .eql=>K (.b (decide (x=y)))
  | .neq=>K (.b (!decide (x=y)))
  | .add=>need tb c (x.size+y.size<=9223372036854775807) (K (.s (x++y)))
  |_=>False
 |_,_=>False
theorem run_next {P:Program} {v:Value} {w w':World} {s:Sem Value} (h:s.run P w= .ok v w'):Sem.run P (do let x<-s;pure (Next.value x)) w= .ok (.value v) w':=by
 simp[h]
theorem run_shl {P:Program} {k k':IntKind} {m n:Int} {T:TypeId} {x y:Operand} {w:World} (hn:0<=n):
  Sem.run P (do let __do_lift<-(do eqGuard .shl T x y (.int k m) (.int k' n);binOp .shl T (.int k m) (.int k' n));pure (Next.value __do_lift)) w= .ok (.value (.int k (k.wrap (m*2^(min n.toNat k.bits))))) w:=by
 have: ¬n<0:=by omega
 simp[eqGuard,binOp,Op.shift,this]
theorem run_shr {P:Program} {k k':IntKind} {m n:Int} {T:TypeId} {x y:Operand} {w:World} (hn:0<=n):
  Sem.run P (do let __do_lift<-(do eqGuard .shr T x y (.int k m) (.int k' n);binOp .shr T (.int k m) (.int k' n));pure (Next.value __do_lift)) w= .ok (.value (.int k (m/2^(min n.toNat k.bits)))) w:=by
 have: ¬n<0:=by omega
 simp[eqGuard,binOp,Op.shift,this]
 rw[Int.fdiv_eq_ediv_of_nonneg]
 exact Int.le_of_lt (Int.pow_pos (by decide))
theorem run_quo {P:Program} {k:IntKind} {m n:Int} {T:TypeId} {x y:Operand} {w:World} (hn:n≠0):
  Sem.run P (do let __do_lift<-(do eqGuard .quo T x y (.int k m) (.int k n);binOp .quo T (.int k m) (.int k n));pure (Next.value __do_lift)) w= .ok (.value (.int k (k.wrap (m.tdiv n)))) w:=by
 simp[eqGuard,binOp,Op.intDiv,hn]
theorem run_rem {P:Program} {k:IntKind} {m n:Int} {T:TypeId} {x y:Operand} {w:World} (hn:n≠0):
  Sem.run P (do let __do_lift<-(do eqGuard .rem T x y (.int k m) (.int k n);binOp .rem T (.int k m) (.int k n));pure (Next.value __do_lift)) w= .ok (.value (.int k (m.tmod n))) w:=by
 simp[eqGuard,binOp,Op.intDiv,hn]
theorem Val.two {P:Program} {tb:Tb} {s:Sl} {o:Os} {c:Nat} {op:Op} {v u1 u2:AV} {x y:Operand} (hx:Opn tb s c x u1) (hy:Opn tb s c y u2) (hm:x∈op.operands/\y∈op.operands)
  (h: ∀(S:Nat->Prop) (β:Nat->Wt) (w:World) (a:Act),tg tb c=true->rel S β w u1 (a.eval x)->rel S β w u2 (a.eval y)-> ∀d ty pos after gu,∃u,(execOp a.eval ⟨d,op,ty,pos,after,gu⟩).run P w= .ok (.value u) w/\rel S β w v u):Val P tb s o c op v:=
 fun E tb' s' o' β a w he hs ho hg hc hc' d ty pos after gu=>h _ _ _ _ hc ((hx.to he (hs x hm.1)).eval hg hc') ((hy.to he (hs y hm.2)).eval hg hc') d ty pos after gu
theorem Val.un {P:Program} {tb:Tb} {s:Sl} {o:Os} {c:Nat} {op:Op} {v u1:AV} {x:Operand} (hx:Opn tb s c x u1) (hm:x∈op.operands)
  (h: ∀(S:Nat->Prop) (β:Nat->Wt) (w:World) (a:Act),tg tb c=true->rel S β w u1 (a.eval x)-> ∀d ty pos after gu,∃u,(execOp a.eval ⟨d,op,ty,pos,after,gu⟩).run P w= .ok (.value u) w/\rel S β w v u):Val P tb s o c op v:=
 fun E tb' s' o' β a w he hs ho hg hc hc' d ty pos after gu=>h _ _ _ _ hc ((hx.to he (hs x hm)).eval hg hc') d ty pos after gu
theorem binA_ok {P:Program} {T:TT} {tb:Tb} {s:Sl} {o:Os} {c:Nat} {bo:BinOp} {t t':TypeId} {x y:Operand} {u v:AV} {K:AV->Prop} (hT:TTok P T) (hx:Opn tb s c x u) (hy:Opn tb s c y v) (h:binA T tb c bo t u v K): ∃r,K r/\Val P tb s o c (.binOp bo t x y t') r:=by
 have hm:x∈(Op.binOp bo t x y t').operands/\y∈(Op.binOp bo t x y t').operands:=by simp[Op.operands]
 unfold binA at h
 split at h
 ·rename_i k m k' n
  split at h
  ·rename_i hk
   have key: ∀r:AV,(∀(S:Nat->Prop) (β:Nat->Wt) (w:World),tg tb c=true-> ∃q,Sem.run P (do let l<-(do eqGuard bo t x y (.int k m) (.int k' n);binOp bo t (.int k m) (.int k' n));pure (Next.value l)) w= .ok (.value q) w/\rel S β w r q)->Val P tb s o c (.binOp bo t x y t') r:=fun r hr=>by
    refine Val.two hx hy hm fun S β w a hc h1 h2 d ty pos after gu=>?_
    unfold rel at h1 h2
    obtain⟨q,h3,h4⟩:=hr S β w hc
    exact⟨q,by simp only[execOp,h1,h2];exact h3,h4⟩
   have same:shiftB bo=false->k'=k:=fun hb=>(sameK_ok (by rw[hb,Bool.or_false] at hk;exact hk)).symm
   unfold binI at h
   split at h
   all_goals (try(obtain rfl:=same rfl))
   case h_14=>obtain⟨hn,r,hr,h⟩:=need_ok h;exact⟨_,h,key _ fun S β w hc=>⟨_,run_quo (hn hc),by rw[hr hc];rfl⟩⟩
   case h_15=>obtain⟨hn,h⟩:=need_ok h;exact⟨_,h,key _ fun S β w hc=>⟨_,run_rem (hn hc),rfl⟩⟩
   case h_16=>obtain⟨hn,r,hr,h⟩:=need_ok h;exact⟨_,h,key _ fun S β w hc=>⟨_,run_shl (hn hc),by rw[hr hc];rfl⟩⟩
   case h_17=>obtain⟨hn,h⟩:=need_ok h;exact⟨_,h,key _ fun S β w hc=>⟨_,run_shr (hn hc),rfl⟩⟩
   case h_1=>obtain⟨r,hr,h⟩:=h;exact⟨_,h,key _ fun S β w hc=>⟨.int k' (k'.wrap (m+n)),by simp[go_sem],by rw[hr hc];rfl⟩⟩
   case h_2=>obtain⟨r,hr,h⟩:=h;exact⟨_,h,key _ fun S β w hc=>⟨.int k' (k'.wrap (m-n)),by simp[go_sem],by rw[hr hc];rfl⟩⟩
   case h_3=>obtain⟨r,hr,h⟩:=h;exact⟨_,h,key _ fun S β w hc=>⟨.int k' (k'.wrap (m*n)),by simp[go_sem],by rw[hr hc];rfl⟩⟩
   case h_8=>exact⟨_,h,key _ fun S β w hc=>⟨.bool (m==n),by simp[go_sem],by simp only[rel,beq_dec]⟩⟩
   case h_9=>exact⟨_,h,key _ fun S β w hc=>⟨.bool (m !=n),by simp[go_sem],by simp only[rel,bne,beq_dec]⟩⟩
   all_goals exact⟨_,h,key _ fun S β w hc=>⟨_,by first|(simp[go_sem];done)|(simp[go_sem];rfl),rfl⟩⟩
  ·cases h
 ·rename_i p q
  have key: ∀r:Bool,(∀w:World,Sem.run P (do let l<-(do eqGuard bo t x y (.bool p) (.bool q);binOp bo t (.bool p) (.bool q));pure (Next.value l)) w= .ok (.value (.bool r)) w)->Val P tb s o c (.binOp bo t x y t') (.b r):=fun r hr=>by
   refine Val.two hx hy hm fun S β w a hc h1 h2 d ty pos after gu=>?_
   unfold rel at h1 h2
   exact⟨_,by simp only[execOp,h1,h2];exact hr w,rfl⟩
  split at h
  ·rename_i ti hti
   split at h
   ·rename_i hbo
    have hu:=(hT _ _ hti).bo hbo
    have he: ∀w:World,(Op.equal t (.bool p) (.bool q)).run P w= .ok (p==q) w:=fun w=>by
     simp only[Op.equal,Op.maxDepth];exact run_equalIn_bool 9999 hu p q w
    split at h
    ·exact⟨_,h,key _ fun w=>by simp[eqGuard,binOp,he,beq_dec]⟩
    ·exact⟨_,h,key _ fun w=>by simp[eqGuard,binOp,he,beq_dec]⟩
    ·cases h
   ·cases h
  ·cases h
 ·rename_i xs ys
  split at h
  ·rename_i ti hti
   split at h
   ·rename_i hb
    simp only[Bool.and_eq_true] at hb
    have hcmp:=(hT _ _ hti).cmp hb.1.1
    have key: ∀r:Bool,(∀(us vs:List Value) (w:World),shp ti.zero us=true->shp ti.zero vs=true->(∀(S:Nat->Prop) (β:Nat->Wt),rels S β w xs us->rels S β w ys vs->Sem.run P (do let l<-(do eqGuard bo t x y (.agg us.toArray) (.agg vs.toArray);binOp bo t (.agg us.toArray) (.agg vs.toArray));pure (Next.value l)) w= .ok (.value (.bool r)) w))->Val P tb s o c (.binOp bo t x y t') (.b r):=fun r hr=>by
     refine Val.two hx hy hm fun S β w a hc h1 h2 d ty pos after gu=>?_
     unfold rel at h1 h2
     obtain⟨us,e1,r1⟩:=h1
     obtain⟨vs,e2,r2⟩:=h2
     exact⟨_,by simp only[execOp,e1,e2];exact hr us vs w (shpA_ok r1 hb.1.2) (shpA_ok r2 hb.2) S β r1 r2,rfl⟩
    have val: ∀ {K:Bool->Prop},eqs xs ys K-> ∃r,K r/\ ∀(S:Nat->Prop) (β:Nat->Wt) (w:World) (us vs:List Value),rels S β w xs us->rels S β w ys vs->r=scEqs us vs:=fun {K} hK=>by
     have aux: ∀ {xs ys:List AV} {K:Bool->Prop},eqs xs ys K-> ∃r,K r/\ ∀(K':Bool->Prop),K' r->eqs xs ys K':=by
      intro xs
      induction xs with
      |nil=>intro ys K h;cases ys with
       |nil=>exact⟨true,h,fun _ h=>h⟩
       |cons y ys=>cases h
      |cons x xs ih=>
       intro ys K h
       cases ys with
       |nil=>cases xs<;>cases h
       |cons y ys=>
        have one: ∀ {K:Bool->Prop},eq1 x y K-> ∃r,K r/\ ∀(K':Bool->Prop),K' r->eq1 x y K':=fun {K} h=>by
         unfold eq1 at h⊢
         split at h
         ·split at h
          ·exact⟨_,h,fun K' h'=>h'⟩
          ·cases h
         ·exact⟨_,h,fun K' h'=>h'⟩
         ·exact⟨_,h,fun K' h'=>h'⟩
         ·cases h
        cases xs with
        |nil=>
         cases ys with
         |nil=>exact one h
         |cons y' ys=>obtain⟨r,h1,h2⟩:=one (K:=fun t=>eqs [] (y'::ys) fun r=>K (t&&r)) h;cases h1
        |cons x' xs=>
         have h:eq1 x y fun t=>eqs (x'::xs) ys fun r=>K (t&&r):=by cases ys<;>exact h
         obtain⟨t,h1,h2⟩:=one h
         obtain⟨r,h3,h4⟩:=ih h1
         refine⟨t&&r,h3,fun K' h'=>?_⟩
         have:eq1 x y fun t=>eqs (x'::xs) ys fun r=>K' (t&&r):=h2 _ (h4 _ h')
         cases ys<;>exact this
     obtain⟨r,h1,h2⟩:=aux hK
     refine⟨r,h1,fun S β w us vs e1 e2=>?_⟩
     obtain⟨r',h3,h4⟩:=eqs_ok (K:=fun q=>q=r) e1 e2 (h2 _ rfl)
     rw[<-h3];exact h4
    split at h
    ·obtain⟨r,h1,h2⟩:=val h
     exact⟨_,h1,key _ fun us vs w hs1 hs2 S β r1 r2=>by
      rw[h2 S β w us vs r1 r2]
      exact run_next (hcmp us vs hs1 hs2 x y w).1⟩
    ·obtain⟨r,h1,h2⟩:=val h
     exact⟨_,h1,key _ fun us vs w hs1 hs2 S β r1 r2=>by
      rw[h2 S β w us vs r1 r2]
      exact run_next (hcmp us vs hs1 hs2 x y w).2⟩
    ·cases h
   ·cases h
  ·cases h
 ·rename_i p q
  have key: ∀r:AV,(∀(S:Nat->Prop) (β:Nat->Wt) (w:World),tg tb c=true-> ∃u,Sem.run P (do let l<-(do eqGuard bo t x y (.string p) (.string q);binOp bo t (.string p) (.string q));pure (Next.value l)) w= .ok (.value u) w/\rel S β w r u)->Val P tb s o c (.binOp bo t x y t') r:=fun r hr=>by
   refine Val.two hx hy hm fun S β w a hc h1 h2 d ty pos after gu=>?_
   unfold rel at h1 h2
   obtain⟨u,h3,h4⟩:=hr S β w hc
   exact⟨u,by simp only[execOp,h1,h2];exact h3,h4⟩
  split at h
  ·exact⟨_,h,key _ fun S β w hc=>⟨.bool (decide (p=q)),by simp[go_sem];rw[<-beq_dec];exact str_dec p q,rfl⟩⟩
  ·exact⟨_,h,key _ fun S β w hc=>⟨.bool (!decide (p=q)),by simp[go_sem];rw[<-str_dec p q],rfl⟩⟩
  ·obtain⟨hn,h⟩:=need_ok h;exact⟨_,h,key _ fun S β w hc=>⟨.string (p++q),by simp[go_sem];exact hn hc,rfl⟩⟩
  ·cases h
 ·cases h
def revK:List AV->List AV->(List AV->Prop)->Prop
 |[],acc,K=>K acc
 |x::l,acc,K=>revK l (x::acc) K
theorem revK_ok: ∀ {l acc:List AV} {K:List AV->Prop},revK l acc K->K (l.reverse++acc)
 |[],acc,K,h=>h
 |x::l,acc,K,h=>by have:=revK_ok (l:=l) h;simpa using this
def dropK:Nat->List AV->(List AV->Prop)->Prop
 |0,l,K=>K l
 |n+1,_::l,K=>dropK n l K
 |_+1,[],_=>False
theorem dropK_ok: ∀ {n:Nat} {l:List AV} {K:List AV->Prop},dropK n l K->n<=l.length/\K (l.drop n)
 |0,l,K,h=>⟨Nat.zero_le _,h⟩
 |n+1,x::l,K,h=>by have:=dropK_ok (n:=n) (l:=l) h;exact⟨Nat.succ_le_succ this.1,this.2⟩
def takeK:Nat->List AV->List AV->(List AV->Prop)->Prop
 |0,acc,_,K=>revK acc [] K
 |n+1,acc,x::l,K=>takeK n (x::acc) l K
 |_+1,_,[],_=>False
theorem takeK_ok: ∀ {n:Nat} {acc l:List AV} {K:List AV->Prop},takeK n acc l K->n<=l.length/\K (acc.reverse++l.take n)
 |0,acc,l,K,h=>⟨Nat.zero_le _,by have:=revK_ok h;simpa using this⟩
 |n+1,acc,x::l,K,h=>by have:=takeK_ok (n:=n) (l:=l) h;exact⟨Nat.succ_le_succ this.1,by simpa using this.2⟩
def exactK:Nat->List AV->List AV->(List AV->Prop)->Prop
 |0,acc,[],K=>revK acc [] K
 |n+1,acc,x::l,K=>exactK n (x::acc) l K
 |_,_,_,_=>False
theorem exactK_ok: ∀ {n:Nat} {acc l:List AV} {K:List AV->Prop},exactK n acc l K->n=l.length/\K (acc.reverse++l)
 |0,acc,[],K,h=>⟨rfl,by have:=revK_ok h;simpa using this⟩
 |n+1,acc,x::l,K,h=>by have:=exactK_ok (n:=n) (l:=l) h;exact⟨by simp[this.1],by simpa using this.2⟩
def nthK:Nat->List AV->(AV->Prop)->Prop
 |0,x::_,K=>forceK x K
 |n+1,_::l,K=>nthK n l K
 |_,[],_=>False
theorem nthK_ok: ∀ {n:Nat} {l:List AV} {K:AV->Prop},nthK n l K-> ∃x,l[n]?=some x/\K x
 |0,x::l,K,h=>⟨x,rfl,force_ok h⟩
 |n+1,x::l,K,h=>nthK_ok (n:=n) (l:=l) h
 |0,[],_,h=>nomatch h
 |_+1,[],_,h=>nomatch h
def nthN {α:Type}:Nat->List α->Option α
 |0,x::_=>some x
 |n+1,_::l=>nthN n l
 |_,[]=>none
theorem nthN_eq {α:Type}: ∀(n:Nat) (l:List α),nthN n l=l[n]?
 |0,[]=>rfl
 |0,x::l=>rfl
 |n+1,[]=>rfl
 |n+1,x::l=>by rw[nthN,nthN_eq n l];simp
theorem add_add (a:Addr) (i j:Nat):(a.add i).add j=a.add (i+j):=by
 unfold Addr.add
 by_cases hi:i=0<;>by_cases hj:j=0<;>simp[hi,hj,Nat.add_assoc]
theorem cellsAt_drop {ad:Addr} {us:List Value} {w:World} (n:Nat) (h:cellsAt ad us w):cellsAt (ad.add n) (us.drop n) w:=fun j u hu=>by
 rw[add_add]
 rw[List.getElem?_drop] at hu
 exact h _ u hu
theorem Rob.imp {S:Nat->Prop} {w:World} {φ ψ:World->Prop} (h:Rob S w φ) (hi: ∀w,φ w->ψ w):Rob S w ψ:=fun w' h1 h2=>hi w' (h w' h1 h2)
section
variable {P:Program} {T:TT} {tb:Tb} {s:Sl} {o:Os} {c:Nat} {t:TypeId} {ti:TI} {x y:Operand} {v u:AV} {K:AV->Prop}
theorem move_ok (hx:Opn tb s c x v):Val P tb s o c (.move x) v:=Val.un hx (by simp[Op.operands]) fun S β w a hc h d ty pos after gu=>⟨_,rfl,h⟩
theorem assign_ok (hx:Opn tb s c x v):Val P tb s o c (.assign x) v:=Val.un hx (by simp[Op.operands]) fun S β w a hc h d ty pos after gu=>⟨_,rfl,h⟩
def unA (tb:Tb) (c:Nat) (un:UnOp) (v:AV) (K:AV->Prop):Prop:=match un,v with
 | .not,.b t=>K (.b (!t))
 | .neg,.i k z=>wrp tb c k (0-z) K
 | .xor,.i .i64 z=>need tb c (-9223372036854775808<=z/\z<=9223372036854775807) (K (.i .i64 (-1-z)))
 |_,_=>False
theorem not_i64 {z:Int} (h: -9223372036854775808<=z/\z<=9223372036854775807):IntKind.i64.wrap ((BitVec.ofInt 64 (-1)^^^BitVec.ofInt 64 z).toNat:Int)= -1-z:=by
 have e:BitVec.ofInt 64 (-1)=BitVec.allOnes 64:=by decide
 rw[e,BitVec.allOnes_xor,BitVec.toNat_not,BitVec.toNat_ofInt,IntKind.wrap_i64]
 have h2:(z % ((2^64:Nat):Int)).toNat=(z % 18446744073709551616).toNat:=rfl
 rw[h2]
 omega
theorem unA_ok {un:UnOp} (hx:Opn tb s c x v) (h:unA tb c un v K): ∃r,K r/\Val P tb s o c (.unOp un t x) r:=by
 unfold unA at h
 split at h
 ·refine⟨_,h,Val.un hx (by simp[Op.operands]) fun S β w a hc h d ty pos after gu=>?_⟩
  unfold rel at h
  exact⟨_,by simp only[execOp,h];simp[go_sem],rfl⟩
 ·obtain⟨r,hr,h⟩:=h
  refine⟨_,h,Val.un hx (by simp[Op.operands]) fun S β w a hc h d ty pos after gu=>?_⟩
  unfold rel at h
  exact⟨_,by simp only[execOp,h];rfl,by rw[hr hc];rfl⟩
 ·obtain⟨hz,h⟩:=need_ok h
  refine⟨_,h,Val.un hx (by simp[Op.operands]) fun S β w a hc h d ty pos after gu=>?_⟩
  unfold rel at h
  exact⟨_,by simp only[execOp,h];rfl,congrArg (Value.int IntKind.i64) (not_i64 (hz hc))⟩
 ·cases h
def fldA (ti:TI) (f:Nat) (v:AV) (K:AV->Prop):Prop:=match nthN f ti.offs with
 |none=>False
 |some (j,_)=>match v with
  | .op id off=>K (.op id (off+j))
  | .cp cs=>dropK j cs fun cs=>K (.cp cs)
  | .rp id e i j'=>K (.rp id e i (j'+j))
  |_=>False
theorem fldA_ok {f:Nat} (hti:TIok P t ti) (hx:Opn tb s c x v) (h:fldA ti f v K): ∃r,K r/\Val P tb s o c (.fieldAddr t x f) r:=by
 unfold fldA at h
 split at h
 ·cases h
 ·rename_i j jn hj
  rw[nthN_eq] at hj
  have hf:=hti.offs f j jn hj
  split at h
  ·refine⟨_,h,Val.un hx (by simp[Op.operands]) fun S β w a hc h d ty pos after gu=>?_⟩
   unfold rel at h
   obtain⟨h0,b,h1,h2⟩:=h
   exact⟨_,by simp only[execOp,h2];exact run_next (hf _ w),h0,b,h1,by rw[add_none]⟩
  ·have:=dropK_ok h
   refine⟨_,this.2,Val.un hx (by simp[Op.operands]) fun S β w a hc h d ty pos after gu=>?_⟩
   unfold rel at h
   obtain⟨ad,us,h1,h2,h3⟩:=h
   exact⟨_,by simp only[execOp,h1];exact run_next (hf _ w),_,_,rfl,h2.imp fun w=>cellsAt_drop j,rels_drop h3⟩
  ·refine⟨_,h,Val.un hx (by simp[Op.operands]) fun S β w a hc h d ty pos after gu=>?_⟩
   unfold rel at h
   obtain⟨h0,b,h1,h2⟩:=h
   exact⟨_,by simp only[execOp,h2];exact run_next (hf _ w),h0,b,h1,by rw[add_add,Nat.add_assoc]⟩
  ·cases h
def addZ (a b:Nat):Nat:=match a with
 |0=>b
 |a=>a+b
theorem addZ0 (n:Nat):addZ 0 n=n:=rfl
theorem addZ_eq (a b:Nat):addZ a b=a+b:=by unfold addZ;split<;>omega
def idxA (tb:Tb) (c:Nat) (ti:TI) (o:Os) (u v:AV) (K:AV->Prop):Prop:=match ti.el,v with
 |some (_,e,_),.i _ m=>match u with
  | .row nz e' n get=>match Nat.beq e e' with
   |true=>need tb c (0<=m/\m<n) (exactK e [] (get m.toNat) fun cs=>K (.cp cs))
   |false=>False
  | .orow id e' off n=>match lk o id with
   |some (.row _ e'' N get)=>match Nat.beq e e'&&Nat.beq e e'' with
    |true=>need tb c (0<=m/\m<n/\addZ off m.toNat<N) (K (.rp id e (addZ off m.toNat) 0))
    |false=>False
   |_=>False
  |_=>False
 |_,_=>False
theorem run_index {e sz n cap:Nat} {a:Addr} {kk:IntKind} {m:Int} (hT:P.underlying t=some (.slice e)) (hs: ∀w,(sizeOf e).run P w= .ok sz w) (hm:0<=m/\m<n) (w:World):
  (Instr.indexAt t (.slice (some a) n cap) (.int kk m)).run P w= .ok (.pointer (some (a.add (m.toNat*sz)))) w:=by
 simp[Instr.indexAt,asIntOf,run_underlying hT,hs,hm.1,hm.2]
theorem toNat_lt {m:Int} {n:Nat} (h:0<=m/\m<n):m.toNat<n:=by omega
theorem idxA_ok (hti:TIok P t ti) (hx:Opn tb s c x u) (hy:Opn tb s c y v) (h:idxA tb c ti o u v K): ∃r,K r/\Val P tb s o c (.indexAddr t x y) r:=by
 unfold idxA at h
 split at h
 ·rename_i e0 e bb kk m hel
  obtain⟨hu,hs,_⟩:=hti.el _ _ _ hel
  split at h
  ·rename_i nz e' n get
   split at h
   ·rename_i hb
    have hb:=Nat.eq_of_beq_eq_true hb
    subst hb
    obtain⟨hn,h⟩:=need_ok h
    obtain⟨he,h⟩:=exactK_ok h
    refine⟨_,h,Val.two hx hy (by simp[Op.operands]) fun S β w a hc h1 h2 d ty pos after gu=>?_⟩
    unfold rel at h1 h2
    obtain⟨ao,cap,us,e1,e2,e3,e4⟩:=h1
    obtain⟨⟨ad,e5,e6⟩,e8,e7⟩:=e4 m.toNat (toNat_lt (hn hc))
    subst e5
    exact⟨_,by simp only[execOp,e1,h2];exact run_next (run_index hu hs (hn hc) w),ad.add (m.toNat*e),us m.toNat,rfl,e6,by simpa using e7⟩
   ·cases h
  ·rename_i id e' off n
   split at h
   ·rename_i e'' N get hlk
    split at h
    ·rename_i hb
     simp only[Bool.and_eq_true] at hb
     have hb1:=Nat.eq_of_beq_eq_true hb.1
     have hb2:=Nat.eq_of_beq_eq_true hb.2
     subst hb1 hb2
     obtain⟨hn,h⟩:=need_ok h
     refine⟨_,h,fun E tb' s' o' β a w he' hs' ho' hg hc hc' d ty pos after gu=>?_⟩
     have h1:=(hx.to he' (hs' x (by simp[Op.operands]))).eval hg hc'
     have h2:=(hy.to he' (hs' y (by simp[Op.operands]))).eval hg hc'
     have hob:=hg.objs id _ (ho' _ _ hlk)
     unfold rel at h1 h2
     obtain⟨q1,q2,q3⟩:=hob
     have hn:=hn hc
     rw[addZ_eq] at hn⊢
     rcases q3 with⟨z1,z2,z3⟩|⟨b,off',cells,ty',us,z1,z2,z3,z4,z5⟩
     ·omega
     ·obtain⟨h0,h1⟩:=h1
      rw[z1] at h1
      refine⟨_,by simp only[execOp,h1,h2];exact run_next (run_index hu hs ⟨hn.1,hn.2.1⟩ w),h0,⟨b,off',none⟩,z1,?_⟩
      rw[add_add,Nat.add_mul,Nat.add_zero]
    ·cases h
   ·cases h
  ·cases h
 ·cases h
def ldK (ti:TI) (cs:List AV) (K:AV->Prop):Prop:=match ti.agg with
 |true=>takeK ti.sz [] cs fun cs=>K (.agg cs)
 |false=>nthK 0 cs K
def loadA (tb:Tb) (c:Nat) (ti:TI) (o:Os) (v:AV) (K:AV->Prop):Prop:=match v with
 | .cp cs=>ldK ti cs K
 | .op id off=>match lk o id with
  |some (.box _ _ cs)=>dropK off cs fun cs=>ldK ti cs K
  |_=>False
 | .rp id e i j=>match lk o id with
  |some (.row _ e' n get)=>match Nat.beq e e' with
   |true=>need tb c (i<n) (exactK e [] (get i) fun cs=>dropK j cs fun cs=>ldK ti cs K)
   |false=>False
  |_=>False
 |_=>False
theorem run_load1 {a:Addr} {v:Value} {w:World} (hT: ∀w,(isAgg t).run P w= .ok false w) (h:w.cell? a=some v):(Instr.loadAt t (.pointer (some a))).run P w= .ok v w:=by
 simp[Instr.loadAt,Instr.sureAddr,loadVar,hT,load,Sem.run,h]
theorem run_loadN {a:Addr} {vs:List Value} {w:World} (hT: ∀w,(isAgg t).run P w= .ok true w) (hn: ∀w,(sizeOf t).run P w= .ok vs.length w) (h: ∀j v,vs[j]?=some v->w.cell? (a.add j)=some v):
  (Instr.loadAt t (.pointer (some a))).run P w= .ok (.agg vs.toArray) w:=by
 have:=run_loadCells_list (P:=P) w a vs h
 simp[Instr.loadAt,Instr.sureAddr,loadVar,hT,hn,this]
theorem ldK_ok {cs:List AV} (hti:TIok P t ti) (h:ldK ti cs K): ∃r,K r/\ ∀(S:Nat->Prop) (β:Nat->Wt) (w:World) (ad:Addr) (us:List Value),cellsAt ad us w->rels S β w cs us-> ∃q,(Instr.loadAt t (.pointer (some ad))).run P w= .ok q w/\rel S β w r q:=by
 unfold ldK at h
 split at h
 ·rename_i ha
  obtain⟨hl,h⟩:=takeK_ok h
  refine⟨_,h,fun S β w ad us hc hr=>?_⟩
  have hlen:=rels_len hr
  refine⟨.agg (us.take ti.sz).toArray,run_loadN (fun w=>by rw[hti.agg w,ha]) (fun w=>by rw[hti.sz w,List.length_take,hlen,Nat.min_eq_left hl]) fun j v hj=>hc j v ?_,us.take ti.sz,rfl,by simpa using rels_take hr⟩
  rw[List.getElem?_take] at hj
  split at hj
  ·exact hj
  ·cases hj
 ·rename_i ha
  obtain⟨r,hr1,hr2⟩:=nthK_ok h
  refine⟨r,hr2,fun S β w ad us hc hr=>?_⟩
  obtain⟨q,e1,e2⟩:=rels_get hr hr1
  refine⟨q,run_load1 (fun w=>by rw[hti.agg w,ha]) ?_,e2⟩
  have:=hc 0 q e1
  rwa [show ad.add 0=ad from rfl] at this
theorem cellsAt_blk {w:World} {b:Nat} {cs:List Value} {ty:TypeId} {fr:Nat×Nat} (h:w.heap[b]?=some (.cells cs.toArray ty fr)) (n:Nat):cellsAt ⟨b,n,none⟩ (cs.drop n) w:=fun j u hu=>by
 rw[add_none,cell_blk h];rw[List.getElem?_drop] at hu;exact hu
theorem loadA_ok (hti:TIok P t ti) (hx:Opn tb s c x v) (h:loadA tb c ti o v K): ∃r,K r/\Val P tb s o c (.load t x) r:=by
 unfold loadA at h
 split at h
 ·obtain⟨r,h1,h2⟩:=ldK_ok hti h
  refine⟨r,h1,Val.un hx (by simp[Op.operands]) fun S β w a hc h d ty pos after gu=>?_⟩
  unfold rel at h
  obtain⟨ad,us,e1,e2,e3⟩:=h
  obtain⟨q,e4,e5⟩:=h2 S W0 w ad us e2.now e3
  refine⟨q,by simp only[execOp,e1];exact run_next e4,?_⟩
  exact rel_W0 e5
 ·rename_i id off
  split at h
  ·rename_i cs hlk
   obtain⟨_,h⟩:=dropK_ok h
   obtain⟨r,h1,h2⟩:=ldK_ok hti h
   refine⟨r,h1,fun E tb' s' o' β a w he' hs' ho' hg hc hc' d ty pos after gu=>?_⟩
   have hv:=(hx.to he' (hs' x (by simp[Op.operands]))).eval hg hc'
   have hob:=hg.objs id _ (ho' _ _ hlk)
   unfold rel at hv
   obtain⟨_,b,e1,e2⟩:=hv
   obtain⟨b',us,ty',e3,e4,e5,e6,_⟩:=hob
   rw[e3] at e1
   cases e1
   obtain⟨q,e7,e8⟩:=h2 _ _ w ⟨b,off,none⟩ _ (cellsAt_blk e5 off) (rels_drop e6)
   exact⟨q,by simp only[execOp,e2];exact run_next e7,e8⟩
  ·cases h
 ·rename_i id e i j
  split at h
  ·rename_i e' n get hlk
   split at h
   ·rename_i hb
    have hb:=Nat.eq_of_beq_eq_true hb
    subst hb
    obtain⟨hn,h⟩:=need_ok h
    obtain⟨he,h⟩:=exactK_ok h
    obtain⟨_,h⟩:=dropK_ok h
    obtain⟨r,h1,h2⟩:=ldK_ok hti h
    refine⟨r,h1,fun E tb' s' o' β a w he' hs' ho' hg hc hc' d ty pos after gu=>?_⟩
    have hv:=(hx.to he' (hs' x (by simp[Op.operands]))).eval hg hc'
    have hob:=hg.objs id _ (ho' _ _ hlk)
    unfold rel at hv
    obtain⟨_,ad,e1,e2⟩:=hv
    obtain⟨q1,q2,q3⟩:=hob
    have hn:=hn hc
    rcases q3 with⟨z1,z2,z3⟩|⟨b,off',cells,ty',us,z1,z2,z3,z4,z5⟩
    ·omega
    ·rw[z1] at e1
     cases e1
     obtain⟨⟨y1,y2⟩,y3⟩:=z5 i hn
     obtain⟨q,e7,e8⟩:=h2 (E.good o' β) W0 w ((⟨b,off',none⟩:Addr).add (i*e+j)) ((us i).drop j) (fun k u hu=>by
      rw[List.getElem?_drop] at hu
      rw[add_none,add_none,cell_blk z3,<-Nat.add_assoc,Nat.add_assoc _ j k,<-y2 _ u hu,<-Nat.add_assoc]) (rels_drop (by simpa using y3))
     exact⟨q,by simp only[execOp,e2];exact run_next e7,rel_W0 e8⟩
   ·cases h
  ·cases h
 ·cases h
end
section
variable {P:Program} {T:TT} {tb:Tb} {s:Sl} {o:Os} {c:Nat} {t:TypeId} {ti:TI} {x y:Operand} {v u:AV} {K:AV->Prop}
def lenA (ti:TI) (v:AV) (K:AV->Prop):Prop:=match v with
 | .nil=>match ti.el with
  |some _=>K (.i .i64 0)
  |none=>False
 | .row _ _ n _=>match ti.el with
  |some _=>K (.i .i64 n)
  |none=>False
 | .orow _ _ _ n=>match ti.el with
  |some _=>K (.i .i64 n)
  |none=>False
 | .s x=>match ti.str with
  |true=>K (.i .i64 x.size)
  |false=>False
 |_=>False
theorem run_len {e n cap:Nat} {A:Option Addr} {ρ:Operand->Value} (hT:P.underlying t=some (.slice e)) (hx:ρ x= .slice A n cap) (w:World) {d ty pos after gu}:(execOp ρ ⟨d,.call ⟨.builtin .len,#[x],#[t]⟩,ty,pos,after,gu⟩).run P w= .ok (.value (.int .i64 n)) w:=by
 simp[execOp,resolve,invoke,builtin,Builtin.len_,hx,run_underlying hT,goInt]
theorem run_lenS {q:ByteArray} {ρ:Operand->Value} (hT:P.underlying t=some .string) (hx:ρ x= .string q) (w:World) {d ty pos after gu}:(execOp ρ ⟨d,.call ⟨.builtin .len,#[x],#[t]⟩,ty,pos,after,gu⟩).run P w= .ok (.value (.int .i64 q.size)) w:=by
 simp[execOp,resolve,invoke,builtin,Builtin.len_,hx,run_underlying hT,goInt]
theorem lenA_ok (hti:TIok P t ti) (hx:Opn tb s c x v) (h:lenA ti v K): ∃r,K r/\Val P tb s o c (.call ⟨.builtin .len,#[x],#[t]⟩) r:=by
 have hm:x∈(Op.call ⟨.builtin .len,#[x],#[t]⟩).operands:=by simp[Op.operands,Call.operands]
 unfold lenA at h
 split at h
 ·split at h
  ·rename_i q hel
   refine⟨_,h,Val.un hx hm fun S β w a hc h d ty pos after gu=>?_⟩
   unfold rel at h
   exact⟨_,run_len (hti.el q.1 q.2.1 q.2.2 hel).1 h w,rfl⟩
  ·cases h
 ·split at h
  ·rename_i q hel
   refine⟨_,h,Val.un hx hm fun S β w a hc h d ty pos after gu=>?_⟩
   unfold rel at h
   obtain⟨A,cap,us,h,_⟩:=h
   exact⟨_,run_len (hti.el q.1 q.2.1 q.2.2 hel).1 h w,rfl⟩
  ·cases h
 ·split at h
  ·rename_i q hel
   refine⟨_,h,Val.un hx hm fun S β w a hc h d ty pos after gu=>?_⟩
   unfold rel at h
   exact⟨_,run_len (hti.el q.1 q.2.1 q.2.2 hel).1 h.2 w,rfl⟩
  ·cases h
 ·split at h
  ·rename_i hst
   refine⟨_,h,Val.un hx hm fun S β w a hc h d ty pos after gu=>?_⟩
   unfold rel at h
   exact⟨_,run_lenS (hti.str hst) h w,rfl⟩
  ·cases h
 ·cases h
def extA (i:Nat) (v:AV) (K:AV->Prop):Prop:=match v with
 | .tup cs=>nthK i cs K
 |_=>False
theorem extA_ok {i:Nat} (hx:Opn tb s c x v) (h:extA i v K): ∃r,K r/\Val P tb s o c (.extract x i) r:=by
 unfold extA at h
 split at h
 ·obtain⟨r,h1,h2⟩:=nthK_ok h
  refine⟨r,h2,Val.un hx (by simp[Op.operands]) fun S β w a hc h d ty pos after gu=>?_⟩
  unfold rel at h
  obtain⟨us,e1,e2⟩:=h
  obtain⟨q,e3,e4⟩:=rels_get e2 h1
  exact⟨q,by simp only[execOp,e1];simp[Instr.extract,e3],e4⟩
 ·cases h
def fvA (ti:TI) (f:Nat) (v:AV) (K:AV->Prop):Prop:=match v with
 | .agg cs=>match lk ti.fv f with
  |some j=>nthK j cs K
  |none=>False
 |_=>False
theorem fvA_ok {f:Nat} (hti:TIok P t ti) (hx:Opn tb s c x v) (h:fvA ti f v K): ∃r,K r/\Val P tb s o c (.field t x f) r:=by
 unfold fvA at h
 split at h
 ·split at h
  ·rename_i cs j hj
   obtain⟨r,h1,h2⟩:=nthK_ok h
   refine⟨r,h2,Val.un hx (by simp[Op.operands]) fun S β w a hc h d ty pos after gu=>?_⟩
   unfold rel at h
   obtain⟨us,e1,e2⟩:=h
   obtain⟨q,e3,e4⟩:=rels_get e2 h1
   exact⟨q,by simp only[execOp,e1];exact run_next (hti.fv f j hj us q w e3),e4⟩
  ·cases h
 ·cases h
def byteAt (q:ByteArray) (i:Int):Int:=((q.data.toList.getD i.toNat 0).toNat:Int)
theorem byteAt_get {q:ByteArray} {i:Nat} (h:i<q.size):((q[i]'h).toNat:Int)=byteAt q i:=by
 unfold byteAt
 have hs:i<q.data.toList.length:=by simpa using h
 rw[Int.toNat_natCast,List.getD_eq_getElem?_getD,List.getElem?_eq_getElem hs]
 rfl
def chrA (tb:Tb) (c:Nat) (ti:TI) (u v:AV) (K:AV->Prop):Prop:=match ti.str,u,v with
 |true,.s q,.i _ m=>need tb c (0<=m/\m<q.size) (K (.i .u8 (byteAt q m)))
 |_,_,_=>False
theorem chrA_ok (hti:TIok P t ti) (hx:Opn tb s c x u) (hy:Opn tb s c y v) (h:chrA tb c ti u v K): ∃r,K r/\Val P tb s o c (.index t x y) r:=by
 unfold chrA at h
 split at h
 ·rename_i q kk m hst
  obtain⟨hn,h⟩:=need_ok h
  refine⟨_,h,Val.two hx hy (by simp[Op.operands]) fun S β w a hc h1 h2 d ty pos after gu=>?_⟩
  unfold rel at h1 h2
  have hm:=hn hc
  have hq:m.toNat<q.size:=by omega
  refine⟨_,?_,rfl⟩
  simp only[execOp,h1,h2]
  refine run_next ?_
  simp only[Instr.index,asIntOf,Sem.run_bind,Sem.run_pure,Result.andThen,run_underlying (hti.str hst),hm.1,if_true]
  rw[getElem?_pos q m.toNat hq]
  simp only[Sem.run_pure]
  rw[byteAt_get hq,Int.toNat_of_nonneg hm.1]
 ·cases h
theorem run_conv {k k':IntKind} {m:Int} {T T':TypeId} {w:World} (hT:P.underlying T=some (.int k)) (hT':P.underlying T'=some (.int k')):
  Sem.run P (do let __do_lift<-convert T T' (.int k m);pure (Next.value __do_lift)) w= .ok (.value (.int k' (k'.wrap m))) w:=by
 simp[convert,run_underlying hT,run_underlying hT',Conv.intToInt]
def cnvA (tb:Tb) (c:Nat) (ti ti':TI) (v:AV) (K:AV->Prop):Prop:=match ti.ik,ti'.ik,v with
 |some k,some k',.i k'' z=>match sameK k k'' with
  |true=>wrp tb c k' z K
  |false=>False
 |_,_,_=>False
theorem cnvA_ok {t':TypeId} {ti':TI} (hti:TIok P t ti) (hti':TIok P t' ti') (hx:Opn tb s c x v) (h:cnvA tb c ti ti' v K): ∃r,K r/\Val P tb s o c (.convert t t' x) r:=by
 unfold cnvA at h
 split at h
 ·rename_i k k' k'' z h1 h2
  split at h
  ·rename_i hk
   obtain rfl:=sameK_ok hk
   obtain⟨r,hr,h⟩:=h
   refine⟨_,h,Val.un hx (by simp[Op.operands]) fun S β w a hc h d ty pos after gu=>?_⟩
   unfold rel at h
   exact⟨_,by simp only[execOp,h];exact run_conv (hti.ik _ h1) (hti'.ik _ h2),by rw[hr hc];rfl⟩
  ·cases h
 ·cases h
def cnvS (T:TT) (tb:Tb) (c:Nat) (ti:TI) (v:AV) (K:AV->Prop):Prop:=match ti.el,v with
 |some (e,_,_),.row _ 1 1 get=>match lk T e with
  |some te=>match te.ik,get 0 with
   |some .u8,[.i .u8 z]=>need tb c (0<=z/\z<256) (K (.s ⟨#[z.toNat.toUInt8]⟩))
   |_,_=>False
  |none=>False
 |_,_=>False
theorem cnvS_ok {t':TypeId} {ti':TI} (hT:TTok P T) (hti:TIok P t ti) (hti':TIok P t' ti') (hst:ti'.str=true) (hx:Opn tb s c x v) (h:cnvS T tb c ti v K): ∃r,K r/\Val P tb s o c (.convert t t' x) r:=by
 unfold cnvS at h
 split at h
 ·rename_i e n b nz get hel
  split at h
  ·rename_i te hte
   split at h
   ·rename_i z hik hget
    obtain⟨hz,h⟩:=need_ok h
    refine⟨_,h,Val.un hx (by simp[Op.operands]) fun S β w a hc h d ty pos after gu=>?_⟩
    have hz:=hz hc
    unfold rel at h
    obtain⟨ao,cap,us,h1,h2,h3,h4⟩:=h
    obtain⟨⟨ad,rfl,hr⟩,h5,h6⟩:=h4 0 (Nat.zero_lt_one)
    rw[hget] at h6
    obtain⟨u,us',e1,e2,e3⟩:=h6
    unfold rels at e3;subst e3
    unfold rel at e2;subst e2
    have hcell:w.cell? ad=some (.int .u8 z):=by
     have:=hr.now 0 (.int .u8 z) (by rw[e1];rfl)
     rw[Nat.zero_mul] at this
     simpa[Addr.add] using this
    have hzz:((z.toNat.toUInt8.toNat:Nat):Int)=z:=by
     have:z.toNat.toUInt8.toNat=z.toNat:=by
      simp[Nat.toUInt8,UInt8.toNat_ofNat']
      omega
     rw[this];omega
    have hrun:=run_convert_bytes_back (P:=P) w t t' e ad cap [z.toNat.toUInt8] (hti.el _ _ _ hel).1 ((hT _ _ hte).ik _ hik) (hti'.str hst) (fun j hj=>by
     have hj0:j=0:=by simpa using hj
     subst hj0
     rw[show ad.add 0=ad by simp[Addr.add],hcell]
     exact congrArg (fun q=>some (Value.int .u8 q)) hzz.symm)
    exact⟨_,by simp only[execOp,h1];exact run_next hrun,rfl⟩
   ·cases h
  ·cases h
 ·cases h
def minA (u v:AV) (K:AV->Prop):Prop:=match u,v with
 | .i k m,.i _ n=>K (.i k (min m n))
 |_,_=>False
theorem minA_ok {t':TypeId} (hx:Opn tb s c x u) (hy:Opn tb s c y v) (h:minA u v K): ∃r,K r/\Val P tb s o c (.call ⟨.builtin .min,#[x,y],#[t,t']⟩) r:=by
 unfold minA at h
 split at h
 ·rename_i k m k' n
  have hm:x∈(Op.call ⟨.builtin .min,#[x,y],#[t,t']⟩).operands/\y∈(Op.call ⟨.builtin .min,#[x,y],#[t,t']⟩).operands:=by simp[Op.operands,Call.operands]
  refine⟨_,h,fun E tb' s' o' β a w he hs ho hg hc hc' d ty pos after gu=>?_⟩
  have h1:=(hx.to he (hs x hm.1)).eval hg hc'
  have h2:=(hy.to he (hs y hm.2)).eval hg hc'
  unfold rel at h1 h2
  refine⟨.int k (min m n),?_,rfl⟩
  have:=Lib.run_min_ints (P:=P) w #[t,t'] ty k k' m n
  simp[execOp,resolve,invoke,builtin,h1,h2,this]
 ·cases h
theorem run_eqN {e n cap:Nat} {A:Option Addr} {y:Operand} {w:World} (hT:P.underlying t=some (.slice e)):
  (do eqGuard .eql t x y (.slice A n cap) (.slice none 0 0);binOp .eql t (.slice A n cap) (.slice none 0 0)).run P w= .ok (.bool A.isNone) w/\(do eqGuard .neq t x y (.slice A n cap) (.slice none 0 0);binOp .neq t (.slice A n cap) (.slice none 0 0)).run P w= .ok (.bool (!A.isNone)) w:=by
 have h:(Op.equal t (.slice A n cap) (.slice none 0 0)).run P w= .ok A.isNone w:=by
  simp only[Op.equal,Op.maxDepth]
  exact Lib.run_equalIn_slice_nil w 9999 t e A n cap 0 0 hT
 refine⟨?_,?_⟩
 ·have h2:(binOp .eql t (.slice A n cap) (.slice none 0 0)).run P w= .ok (.bool A.isNone) w:=by
   simp only[binOp,Sem.run_bind,h];rfl
  have hg:(eqGuard .eql t x y (.slice A n cap) (.slice none 0 0)).run P w= .ok () w:=rfl
  rw[Sem.run_bind,hg];exact h2
 ·have h2:(binOp .neq t (.slice A n cap) (.slice none 0 0)).run P w= .ok (.bool (!A.isNone)) w:=by
   simp only[binOp,Sem.run_bind,h];rfl
  have hg:(eqGuard .neq t x y (.slice A n cap) (.slice none 0 0)).run P w= .ok () w:=rfl
  rw[Sem.run_bind,hg];exact h2
def nilI (bo:BinOp) (u:AV) (K:AV->Prop):Prop:=match u with
 | .v .nilIface=>match bo with
  | .eql=>K (.b true)
  | .neq=>K (.b false)
  |_=>False
 | .ifc _ _=>match bo with
  | .eql=>K (.b false)
  | .neq=>K (.b true)
  |_=>False
 |_=>False
theorem run_eqII {b:Bool} {ms:Array (String×TypeId)} {u:Value} {w:World} (d:Nat) (hT:P.underlying t=some (.interface ms)) (hu:if b then u= .nilIface else∃p q,u= .iface p q):(Op.equalIn (d+1) t u .nilIface).run P w= .ok b w:=by
 cases b with
 |true=>obtain rfl:u= .nilIface:=hu;simp[Op.equalIn,run_underlying hT]
 |false=>obtain⟨p,q,rfl⟩: ∃p q,u= .iface p q:=hu;simp[Op.equalIn,run_underlying hT]
theorem run_eqI {b:Bool} {ms:Array (String×TypeId)} {u:Value} {w:World} (hT:P.underlying t=some (.interface ms)) (hu:if b then u= .nilIface else∃p q,u= .iface p q):
  (do eqGuard .eql t x (.const .nilIface) u .nilIface;binOp .eql t u .nilIface).run P w= .ok (.bool b) w/\(do eqGuard .neq t x (.const .nilIface) u .nilIface;binOp .neq t u .nilIface).run P w= .ok (.bool (!b)) w:=by
 have h:(Op.equal t u .nilIface).run P w= .ok b w:=by
  simp only[Op.equal,Op.maxDepth]
  exact run_eqII 9999 hT hu
 have hg: ∀op:BinOp,(op= .eql\/op= .neq)->(eqGuard op t x (.const .nilIface) u .nilIface).run P w= .ok () w:=fun op ho=>by
  cases b with
  |true=>obtain rfl:u= .nilIface:=hu;rcases ho with rfl|rfl<;>simp[eqGuard]
  |false=>obtain⟨p,q,rfl⟩: ∃p q,u= .iface p q:=hu;rcases ho with rfl|rfl<;>rfl
 refine⟨?_,?_⟩
 ·have h2:(binOp .eql t u .nilIface).run P w= .ok (.bool b) w:=by
   cases b with
   |true=>obtain rfl:u= .nilIface:=hu;simp only[binOp,Sem.run_bind,h];rfl
   |false=>obtain⟨p,q,rfl⟩: ∃p q,u= .iface p q:=hu;simp only[binOp,Sem.run_bind,h];rfl
  rw[Sem.run_bind,hg _ (.inl rfl)];exact h2
 ·have h2:(binOp .neq t u .nilIface).run P w= .ok (.bool (!b)) w:=by
   cases b with
   |true=>obtain rfl:u= .nilIface:=hu;simp only[binOp,Sem.run_bind,h];rfl
   |false=>obtain⟨p,q,rfl⟩: ∃p q,u= .iface p q:=hu;simp only[binOp,Sem.run_bind,h];rfl
  rw[Sem.run_bind,hg _ (.inr rfl)];exact h2
theorem nilI_ok {bo:BinOp} {t':TypeId} (hti:TIok P t ti) (hi:ti.ifc=true) (hx:Opn tb s c x u) (h:nilI bo u K) (hy:y= .const .nilIface): ∃r,K r/\Val P tb s o c (.binOp bo t x y t') r:=by
 subst hy
 have hm:x∈(Op.binOp bo t x (.const .nilIface) t').operands/\(.const .nilIface:Operand)∈(Op.binOp bo t x (.const .nilIface) t').operands:=by simp[Op.operands]
 have hy:Opn tb s c (.const .nilIface) (.v .nilIface):=⟨0,rfl,rfl⟩
 obtain⟨ms,hT⟩:=hti.ifc hi
 unfold nilI at h
 split at h
 ·split at h
  ·refine⟨_,h,Val.two hx hy hm fun S β w a hc h1 h2 d ty pos after gu=>?_⟩
   unfold rel at h1 h2
   exact⟨_,by simp only[execOp,h1,h2];exact run_next (run_eqI (b:=true) hT rfl).1,rfl⟩
  ·refine⟨_,h,Val.two hx hy hm fun S β w a hc h1 h2 d ty pos after gu=>?_⟩
   unfold rel at h1 h2
   exact⟨_,by simp only[execOp,h1,h2];exact run_next (run_eqI (b:=true) hT rfl).2,rfl⟩
  ·cases h
 ·split at h
  ·refine⟨_,h,Val.two hx hy hm fun S β w a hc h1 h2 d ty pos after gu=>?_⟩
   unfold rel at h1 h2
   obtain⟨q,h1,_⟩:=h1
   exact⟨_,by simp only[execOp,h1,h2];exact run_next (run_eqI (b:=false) hT ⟨_,_,rfl⟩).1,rfl⟩
  ·refine⟨_,h,Val.two hx hy hm fun S β w a hc h1 h2 d ty pos after gu=>?_⟩
   unfold rel at h1 h2
   obtain⟨q,h1,_⟩:=h1
   exact⟨_,by simp only[execOp,h1,h2];exact run_next (run_eqI (b:=false) hT ⟨_,_,rfl⟩).2,rfl⟩
  ·cases h
 ·cases h
def nilA (ti:TI) (bo:BinOp) (u v:AV) (K:AV->Prop):Prop:=match ti.el,v with
 |some _,.nil=>match u with
  | .nil=>match bo with
   | .eql=>K (.b true)
   | .neq=>K (.b false)
   |_=>False
  | .row (some nz) _ _ _=>match bo with
   | .eql=>K (.b (!nz))
   | .neq=>K (.b nz)
   |_=>False
  |_=>False
 |_,_=>False
theorem nilA_ok {bo:BinOp} {t':TypeId} (hti:TIok P t ti) (hx:Opn tb s c x u) (hy:Opn tb s c y v) (h:nilA ti bo u v K): ∃r,K r/\Val P tb s o c (.binOp bo t x y t') r:=by
 have hm:x∈(Op.binOp bo t x y t').operands/\y∈(Op.binOp bo t x y t').operands:=by simp[Op.operands]
 unfold nilA at h
 split at h
 ·rename_i q hel
  have hu:=(hti.el q.1 q.2.1 q.2.2 hel).1
  split at h
  ·split at h
   ·refine⟨_,h,Val.two hx hy hm fun S β w a hc h1 h2 d ty pos after gu=>?_⟩
    unfold rel at h1 h2
    exact⟨_,by simp only[execOp,h1,h2];exact run_next (run_eqN hu).1,rfl⟩
   ·refine⟨_,h,Val.two hx hy hm fun S β w a hc h1 h2 d ty pos after gu=>?_⟩
    unfold rel at h1 h2
    exact⟨_,by simp only[execOp,h1,h2];exact run_next (run_eqN hu).2,rfl⟩
   ·cases h
  ·split at h
   ·refine⟨_,h,Val.two hx hy hm fun S β w a hc h1 h2 d ty pos after gu=>?_⟩
    unfold rel at h1 h2
    obtain⟨A,cap,us,e1,e2,_⟩:=h1
    exact⟨_,by simp only[execOp,e1,h2];exact run_next (run_eqN hu).1,by have:=e2 _ rfl;subst this;cases A<;>rfl⟩
   ·refine⟨_,h,Val.two hx hy hm fun S β w a hc h1 h2 d ty pos after gu=>?_⟩
    unfold rel at h1 h2
    obtain⟨A,cap,us,e1,e2,_⟩:=h1
    exact⟨_,by simp only[execOp,e1,h2];exact run_next (run_eqN hu).2,by have:=e2 _ rfl;subst this;cases A<;>rfl⟩
   ·cases h
  ·cases h
 ·cases h
def cn (j:Nat) (w:Bool):Nat:=2*j+(match w with
 |true=>1
 |false=>2)
def GI (ops:Array Oper) (tb:Tb) (s:Sl):Prop:= ∀j w p q,lk tb (cn j w)=some (p,q)-> ∃t b,(ops[j]?).bind (·.dst)=some t/\lk s t=some (p,.b b)/\q=((b==w)&&tg tb p)
def dstIs (ops:Array Oper) (j t:Nat):Bool:=match ops[j]? with
 |some p=>match p.dst with
  |some t'=>Nat.beq t t'
  |none=>false
 |none=>false
def lkS (tb:Tb) (c:Nat):Bool:=match lk tb c with
 |some _=>true
 |none=>false
def getW (ops:Array Oper) (tb:Tb) (s:Sl) (c tc:Nat) (w:Bool) (x:Operand) (K:AV->Prop):Prop:=match opA s x with
 |some (c',v)=>match anc tb 9 c c' with
  |true=>K v
  |false=>match Nat.beq (cn ((c'-1)/2) w) c'&&dstIs ops ((c'-1)/2) tc&&lkS tb c' with
   |true=>K v
   |false=>False
 |none=>False
def OpnW (ops:Array Oper) (tb:Tb) (s:Sl) (c tc:Nat) (w:Bool) (x:Operand) (v:AV):Prop:= ∃c',opA s x=some (c',v)/\(anc tb 9 c c'=true\/ ∃j p q,c'=cn j w/\(ops[j]?).bind (·.dst)=some tc/\lk tb c'=some (p,q))
theorem getW_ok {ops:Array Oper} {tc:Nat} {w:Bool} (h:getW ops tb s c tc w x K): ∃v,K v/\OpnW ops tb s c tc w x v:=by
 unfold getW at h
 split at h
 ·rename_i c' v e
  split at h
  ·rename_i e';exact⟨v,h,c',e,.inl e'⟩
  ·split at h
   ·rename_i e'
    simp only[Bool.and_eq_true] at e'
    have h3:=e'.2
    unfold lkS at h3
    split at h3
    ·rename_i pq hpq
     refine⟨v,h,c',e,.inr ⟨(c'-1)/2,pq.1,pq.2,(Nat.eq_of_beq_eq_true e'.1.1).symm,?_,hpq⟩⟩
     have h2:=e'.1.2
     unfold dstIs at h2
     split at h2
     ·rename_i p hp
      split at h2
      ·rename_i t' ht
       rw[hp];simp only[Option.bind_some,ht];rw[Nat.eq_of_beq_eq_true h2]
      ·cases h2
     ·cases h2
    ·cases h3
   ·cases h
 ·cases h
theorem OpnW.eval {ops:Array Oper} {tb':Tb} {s':Sl} {o':Os} {E:Env} {β:Nat->Wt} {a:Act} {w:World} {tc cc:Nat} {b:Bool} (ht:TbOk tb) (hgi:GI ops tb s) (hb:lk s tc=some (cc,.b b)) (hcc:anc tb 9 c cc=true) (h:OpnW ops tb s c tc b x v) (he:Ext tb tb')
  (hs: ∀t∈tmpO x,lk s' t=lk s t) (hg:Gam E tb' s' o' β a w) (hc0:tg tb c=true) (hc:tg tb' c=true):rel (E.good o' β) β w v (a.eval x):=by
 obtain⟨c',h1,h2⟩:=h
 have key:tg tb' c'=true:=by
  rcases h2 with h2|⟨j,p,q,rfl,h2,h3⟩
  ·exact anc_tg hg.tbok (anc_ext he h2) hc
  ·unfold tg
   rw[he _ _ h3]
   obtain⟨t,b',e1,e2,e3⟩:=hgi _ _ _ _ h3
   rw[h2] at e1
   cases e1
   rw[hb] at e2
   cases e2
   rw[e3,anc_tg ht hcc hc0];simp
 cases x with
 |tmp t=>
  simp only[opA] at h1
  obtain⟨u,e1,e2⟩:=hg.slots t c' v (by rw[hs t (by simp[tmpO])];exact h1)
  rw[key] at e1
  have:a.eval (.tmp t)=u:=by
   simp only[gv,cond_true] at e1
   simp only[Act.eval,Array.getD_eq_getD_getElem?,e1,Option.getD_some]
  rw[this];exact e2 key
 |const u=>
  simp only[opA,Option.some.injEq,Prod.mk.injEq] at h1
  rw[<-h1.2];exact constA_rel u
 |func f=>
  simp only[opA] at h1
  split at h1
  ·rename_i hb
   simp only[Option.some.injEq,Prod.mk.injEq] at h1
   rw[<-h1.2];exact⟨[],by rw[(cloF_eq hb).1,(cloF_eq hb).2];rfl,rfl⟩
  ·cases h1
 |global g=>
  simp only[opA,Option.some.injEq,Prod.mk.injEq] at h1
  rw[<-h1.2];rfl
def pickB (t:Bool) (a b:Operand) (p q:Bool):Bool:=match a,b with
 | .const (.bool true),_=>t||q
 |_,.const (.bool false)=>t&&p
 |_,_=>bif t then p else q
def pickA (ops:Array Oper) (tb:Tb) (s:Sl) (c:Nat) (z a b:Operand) (K:AV->Prop):Prop:=match z with
 | .tmp tc=>match lk s tc with
  |some (cc,.b t)=>match anc tb 9 c cc with
   |true=>getW ops tb s c tc true a fun u=>getW ops tb s c tc false b fun v=>match u,v with
    | .b p,.b q=>K (.b (pickB t a b p q))
    |_,_=>False
   |false=>False
  |_=>False
 |_=>False
theorem OpnW.const {ops:Array Oper} {tc:Nat} {w:Bool} {p q:Bool} (h:OpnW ops tb s c tc w (.const (.bool q)) (.b p)):p=q:=by
 obtain⟨c',h1,_⟩:=h
 simp[opA,constA,constC] at h1
 exact h1.2.symm
theorem pickA_ok {ops : Array Oper} {z a b : Operand} (ht : TbOk tb) (hgi : GI ops tb s) (h : pickA ops tb s c z a b K) : ∃ r, K r ∧ Val P tb s o c (.pick z a b) r := by
  unfold pickA at h
  split at h
  · rename_i tc
    split at h
    · rename_i cc t hl
      split at h
      · rename_i hcc
        obtain ⟨u, h, ha⟩ := getW_ok h
        obtain ⟨v, h, hb⟩ := getW_ok h
        cases u with
        | b p =>
         cases v with
         | b q =>
          have hz : Opn tb s c (.tmp tc) (.b t) := ⟨cc, hl, hcc⟩
          refine ⟨_, h, fun E tb' s' o' β ac w he hs ho hg hc hc' d ty pos after gu => ?_⟩
          have e1 := (hz.to he (hs _ (by simp [Op.operands]))).eval hg hc'
          unfold rel at e1
          cases t with
          | true =>
            have e2 := ha.eval ht hgi hl hcc he (hs a (by simp [Op.operands])) hg hc hc'
            refine ⟨_, by simp only [execOp, e1]; rfl, ?_⟩
            have e3 : pickB true a b p q = p := by
              unfold pickB
              split
              · rw [ha.const]; rfl
              · rfl
              · rfl
            rw [e3]; exact e2
          | false =>
            have e2 := hb.eval ht hgi hl hcc he (hs b (by simp [Op.operands])) hg hc hc'
            refine ⟨_, by simp only [execOp, e1]; rfl, ?_⟩
            have e3 : pickB false a b p q = q := by
              unfold pickB
              split
              · rfl
              · rw [hb.const]; rfl
              · rfl
            rw [e3]; exact e2
         | _ => cases h
        | _ => cases h
      · cases h
    · cases h
  · cases h
def Add (P:Program) (tb:Tb) (s:Sl) (o:Os) (c:Nat) (dst:Option Nat) (op:Op) (v:AV) (no:Os):Prop:=
 ∀(E:Env) (tb':Tb) (s':Sl) (o':Os) (β:Nat->Wt) (a:Act) (w:World),Ext tb tb'->(∀x∈op.operands,∀t∈tmpO x,lk s' t=lk s t)->(∀id ob,lk o id=some ob->lk o' id=some ob)->(∀p∈no,fresh p.1 s' o'=true)->
  Gam E tb' s' o' β a w->tg tb c=true->tg tb' c=true-> ∀(ty:TypeId) (pos:String) (after:Array Edge) (gu:Option (Nat×Bool)) (K:Act->World->Prop) (Q:Exit->Act->World->Prop),
  (∀u w' β',Gam E tb' s' (no++o') β' a w'->rel (E.good (no++o') β') β' w' v u->K (a.put dst u) w')->(⟨dst,op,ty,pos,after,gu⟩:Oper).wp P a w K Q
theorem Val.add {op:Op} {dst:Option Nat} {r:AV} (h:Val P tb s o c op r):Add P tb s o c dst op r []:=fun E tb' s' o' β a w he hs ho hf hg hc hc' ty pos after gu K Q hK=>by
 obtain⟨u,h1,h2⟩:=h E tb' s' o' β a w he hs ho hg hc hc' dst ty pos after gu
 unfold Oper.wp
 rw[h1,Oper.upon_value]
 exact hK u w β hg h2
theorem heap_push (w:World) (ob:Go.Obj):(w.alloc ob).heap.size=w.heap.size+1:=by
 show(w.heap.push _).size=_
 simp
theorem Gam.alloc {E:Env} {β:Nat->Wt} {a:Act} {w:World} {d:Nat} {cs:List AV} {us:List Value} {e:TypeId} (h:Gam E tb s o β a w) (hf:fresh d s o=true) (hr:rels (E.good o β) β w cs us) (hm:mens d cs=false):
  Gam E tb s ((d,.box none (some e) cs)::o) (setB β d ⟨some ⟨w.heap.size,0,none⟩,0,[w.heap.size],true,sub0⟩) a (w.alloc (.cells us.toArray e)):=by
 refine h.add hf (fun k hk=>?_) (by simp) rfl rfl rfl (by rw[heap_push];omega) (fun k hk=>Below.heap_alloc w _ k hk) fun hc=>⟨w.heap.size,us,e,rfl,rfl,heap_alloc_new w _,?_,rfl,⟨rfl,rfl⟩,(fun _ h=>nomatch h),fun _ h=>by cases h;rfl⟩
 ·simp only[List.mem_singleton] at hk
  subst hk
  exact⟨Nat.le_refl _,by rw[heap_push];omega⟩
 ·exact rels_agr _ _ (fun id hid=>setB_ne fun e=>by subst e;rw[hm] at hid;cases hid) (rels_mono hc _ _ hr)
def cellsK:AV->(List AV->Prop)->Prop
 | .agg cs,K=>K cs
 |v,K=>K [v]
theorem cellsK_ok {v:AV} {K:List AV->Prop} (h:cellsK v K): ∃cs,K cs/\ ∀(S:Nat->Prop) (β:Nat->Wt) (w:World) (u:Value),rel S β w v u->v.one=true\/(∃cs',v= .agg cs')->rels S β w cs u.cells.toList:=by
 cases v<;>refine⟨_,h,fun S β w u hr ho=>?_⟩
 case agg cs=>
  unfold rel at hr
  obtain⟨us,rfl,h2⟩:=hr
  simpa[Value.cells] using h2
 all_goals
  have h1:u.oneCell'=true:=by
   rcases ho with ho|⟨cs',ho⟩
   ·exact rel_one hr ho
   ·cases ho
  have h2:u.cells= #[u]:=by cases u<;>first|rfl|cases h1
  rw[h2]
  exact⟨u,[],rfl,hr,rfl⟩
def stor:AV->Bool
 | .agg cs=>cs.all AV.one
 |v=>v.one
def boxA (t:TypeId) (d:Nat) (v:AV) (K:AV->Os->Prop):Prop:=match stor v with
 |true=>cellsK v fun cs=>match mens d cs with
  |false=>K (.op d 0) [(d,.box none (some t) cs)]
  |true=>False
 |false=>False
theorem stor_or {v:AV} (h:stor v=true):v.one=true\/ ∃cs',v= .agg cs':=by
 cases v<;>first|exact .inr ⟨_,rfl⟩|exact .inl h
theorem boxA_ok {d:Nat} {dst:Option Nat} {K:AV->Os->Prop} (hx:Opn tb s c x v) (h:boxA t d v K): ∃r no,K r no/\Add P tb s o c dst (.box t x) r no:=by
 unfold boxA at h
 split at h
 ·rename_i hb
  obtain⟨cs,h,hcs⟩:=cellsK_ok h
  split at h
  ·rename_i hm
   refine⟨_,_,h,fun E tb' s' o' β a w he hs ho hf hg hc hc' ty pos after gu K Q hK=>?_⟩
   have hr:=(hx.to he (hs x (by simp[Op.operands]))).eval hg hc'
   have hrun:(execOp a.eval ⟨dst,.box t x,ty,pos,after,gu⟩).run P w= .ok (.value (.pointer (some ⟨w.heap.size,0,none⟩))) (w.alloc (.cells (a.eval x).cells t)):=by
    simp only[execOp]
    refine run_next ?_
    simp only[Instr.box,Sem.run_bind,Result.andThen,newVar,newRow,run_newObj_alloc]
    rfl
   unfold Oper.wp
   rw[hrun,Oper.upon_value]
   have:=hg.alloc (e:=t) (hf (d,_) (List.mem_singleton.2 rfl)) (hcs _ _ _ _ hr (stor_or hb)) hm
   rw[Array.toArray_toList] at this
   exact hK _ _ _ this ⟨by rw[setB_self],w.heap.size,by rw[setB_self],rfl⟩
  ·cases h
 ·cases h
def allA (t:TypeId) (ti:TI) (d:Nat) (K:AV->Os->Prop):Prop:=match ti.zero with
 |[]=>False
 |z::zs=>K (.op d 0) [(d,.box none (some t) ((z::zs).map constC))]
theorem constC_men (d:Nat) (v:Value):men d (constC v)=false:=by
 unfold constC;split<;>rfl
theorem constCs_mens (d:Nat): ∀l:List Value,mens d (l.map constC)=false
 |[]=>rfl
 |v::l=>by rw[List.map_cons,mens,constC_men,constCs_mens d l];rfl
theorem allA_ok {d:Nat} {dst:Option Nat} {K:AV->Os->Prop} (hti:TIok P t ti) (h:allA t ti d K): ∃r no,K r no/\Add P tb s o c dst (.alloc t) r no:=by
 unfold allA at h
 split at h
 ·cases h
 ·rename_i z zs hz
  ·refine⟨_,_,h,fun E tb' s' o' β a w he hs ho hf hg hc hc' ty pos after gu K Q hK=>?_⟩
   obtain⟨⟨q,hq,hq2⟩,_⟩:=hti.zero (by rw[hz];simp)
   have hrun:(execOp a.eval ⟨dst,.alloc t,ty,pos,after,gu⟩).run P w= .ok (.value (.pointer (some ⟨w.heap.size,0,none⟩))) (w.alloc (.cells q.cells t)):=by
    simp only[execOp]
    refine run_next ?_
    simp only[Instr.alloc,Sem.run_bind,hq,Result.andThen,newVar,newRow,run_newObj_alloc]
    rfl
   unfold Oper.wp
   rw[hrun,Oper.upon_value]
   have:=hg.alloc (e:=t) (hf (d,_) (List.mem_singleton.2 rfl)) (constCs_rel (z::zs)) (constCs_mens d _)
   rw[<-hz,<-hq2,Array.toArray_toList] at this
   rw[<-hz,<-hq2] at hK
   exact hK _ _ _ this ⟨by rw[setB_self],w.heap.size,by rw[setB_self],rfl⟩
end
def rem:Os->Nat->Os
 |[],_=>[]
 |(i,ob)::o,c=>bif Nat.beq i c then o else(i,ob)::rem o c
theorem lk_rem {o:Os} {c i:Nat} (hi:i≠c):lk (rem o c) i=lk o i:=by
 induction o with
 |nil=>rfl
 |cons p o ih=>
  obtain⟨j,ob⟩:=p
  simp only[rem]
  cases hb:Nat.beq j c with
  |true=>
   rw[cond_true,lk_cons,if_neg (by rw[Nat.eq_of_beq_eq_true hb];exact fun e=>hi e.symm)]
  |false=>rw[cond_false,lk_cons,lk_cons,ih]
theorem rem_sub: ∀ {o:Os} {c:Nat},(rem o c).Sublist o
 |[],_=>List.Sublist.refl _
 |(j,ob)::o,c=>by
  simp only[rem]
  cases Nat.beq j c with
  |true=>exact List.Sublist.cons _ (List.Sublist.refl _)
  |false=>exact List.Sublist.cons_cons _ rem_sub
theorem feet_sub {a b:Os} {β:Nat->Wt} (hs:a.Sublist b):(feet a β).Sublist (feet b β):=by
 unfold feet
 induction hs with
 |slnil=>exact List.Sublist.refl _
 |cons a _ ih=>rw[List.flatMap_cons];exact ih.trans (List.sublist_append_right _ _)
 |cons_cons a _ ih=>rw[List.flatMap_cons,List.flatMap_cons];exact(List.Sublist.refl _).append ih
theorem lk_key {α:Type} {x:α} {i:Nat}: ∀ {l:List (Nat×α)},(i,x)∈l->(l.map (·.1)).Nodup->lk l i=some x
 |[],h,_=>nomatch h
 |(j,y)::l,h,hn=>by
  rw[lk_cons]
  rw[List.map_cons,List.nodup_cons] at hn
  rcases List.mem_cons.1 h with e|h
  ·cases e;rw[if_pos rfl]
  ·rw[if_neg fun e=>hn.1 (List.mem_map.2 ⟨_,h,e.symm⟩)]
   exact lk_key h hn.2
theorem lk_none {α:Type} {i:Nat}: ∀ {l:List (Nat×α)},i∉l.map (·.1)->lk l i=none
 |[],_=>rfl
 |(j,y)::l,h=>by
  rw[List.map_cons,List.mem_cons,not_or] at h
  rw[lk_cons,if_neg fun e=>h.1 e.symm];exact lk_none h.2
theorem rem_keys {o:Os} {c:Nat} (hn:(o.map (·.1)).Nodup):c∉(rem o c).map (·.1):=by
 induction o with
 |nil=>exact fun h=>nomatch h
 |cons p o ih=>
  obtain⟨j,ob⟩:=p
  rw[List.map_cons,List.nodup_cons] at hn
  simp only[rem]
  cases hb:Nat.beq j c with
  |true=>rw[cond_true,<-Nat.eq_of_beq_eq_true hb];exact hn.1
  |false=>
   rw[cond_false,List.map_cons,List.mem_cons,not_or]
   exact⟨fun e=>by rw[e] at hb;simp at hb,ih hn.2⟩
theorem feet_rem {o:Os} {β:Nat->Wt} {c:Nat} {ob:Obj} (hl:lk o c=some ob) (hn:(feet o β).Nodup):(∀k∈(β c).foot,k∉feet (rem o c) β)/\ ∀k∈feet o β,k∈(β c).foot\/k∈feet (rem o c) β:=by
 induction o with
 |nil=>cases hl
 |cons p o ih=>
  obtain⟨j,ob'⟩:=p
  rw[feet_cons,List.nodup_append] at hn
  rw[lk_cons] at hl
  simp only[rem]
  cases hb:Nat.beq j c with
  |true=>
   have e:=Nat.eq_of_beq_eq_true hb
   subst e
   rw[cond_true]
   refine⟨fun k hk hk'=>hn.2.2 k hk k hk' rfl,fun k hk=>?_⟩
   rw[feet_cons] at hk
   exact List.mem_append.1 hk
  |false=>
   rw[if_neg (fun e=>by rw[e] at hb;simp at hb)] at hl
   obtain⟨h1,h2⟩:=ih hl hn.2.1
   rw[cond_false,feet_cons]
   refine⟨fun k hk hk'=>?_,fun k hk=>?_⟩
   ·rcases List.mem_append.1 hk' with q|q
    ·exact hn.2.2 k q k (foot_feet hl k hk) rfl
    ·exact h1 k hk q
   ·rw[feet_cons] at hk
    rcases List.mem_append.1 hk with q|q
    ·exact .inr (List.mem_append_left _ q)
    ·exact(h2 k q).imp id (List.mem_append_right _)
section
variable {P:Program} {T:TT} {E:Env} {tb:Tb} {s:Sl} {o:Os} {β:Nat->Wt} {a:Act} {w w':World} {c d:Nat} {ob:Obj} {W:Wt}
theorem Gam.delC (h:Gam E tb s o β a w):Comp (E.good o β) w (E.good (rem o c) β) w:=⟨Nat.le_refl _,fun k hk hg=>⟨⟨hg.1,fun q=>hg.2 ((feet_sub rem_sub).subset q)⟩,rfl⟩⟩
theorem Gam.del (h:Gam E tb s o β a w):Gam E tb s (rem o c) β a w:=by
 have hc:=h.delC (c:=c)
 refine⟨h.size,h.defers,h.tbok,fun i c' v hl=>?_,fun id ob' hl=>?_,h.below,fun k hk=>h.new k ((feet_sub rem_sub).subset hk),h.nodup.sublist (feet_sub rem_sub),h.keys.sublist (rem_sub.map _)⟩
 ·obtain⟨u,h1,h2⟩:=h.slots i c' v hl
  exact⟨u,h1,fun hg=>rel_mono hc _ _ (h2 hg)⟩
 ·have hid:id≠c:=fun e=>by
   subst e
   rw[lk_none (rem_keys h.keys)] at hl;cases hl
  rw[lk_rem hid] at hl
  exact orel_mono hc (fun _ _=>rfl) (h.objs id ob' hl)
theorem Gam.move {ob':Obj} (h:Gam E tb s o β a w) (hl:lk o c=some ob) (hf:fresh d s o=true) (hW: ∀k∈W.foot,(k∈(β c).foot\/w.heap.size<=k)/\k<w'.heap.size) (hn:W.foot.Nodup)
  (hos:w'.os=w.os) (ht:w'.tape=w.tape) (ho:w'.output=w.output) (hz:w.heap.size<=w'.heap.size) (hb: ∀k,k<w.heap.size->k∉(β c).foot->w'.heap[k]?=w.heap[k]?)
  (hob:Comp (E.good o β) w (E.good ((d,ob')::rem o c) (setB β d W)) w'->orel (E.good ((d,ob')::rem o c) (setB β d W)) (setB β d W) w' W ob'):Gam E tb s ((d,ob')::rem o c) (setB β d W) a w':=by
 simp only[fresh,Bool.and_eq_true,Bool.not_eq_true'] at hf
 obtain⟨hr1,hr2⟩:=feet_rem hl h.nodup
 have hkey: ∀p∈rem o c,p.1≠d:=fun p hp=>omens_keys hf.2 p (rem_sub.subset hp)
 have hfe:feet ((d,ob')::rem o c) (setB β d W)=W.foot++feet (rem o c) β:=by rw[feet_cons,setB_self,feet_setB hkey]
 have hsub:=feet_sub (β:=β) (rem_sub (o:=o) (c:=c))
 have hc:Comp (E.good o β) w (E.good ((d,ob')::rem o c) (setB β d W)) w':=by
  refine⟨hz,fun k hk hg=>⟨⟨hg.1,fun hm=>?_⟩,hb k hk fun q=>hg.2 (foot_feet hl k q)⟩⟩
  rw[hfe] at hm
  rcases List.mem_append.1 hm with q|q
  ·rcases(hW k q).1 with z|z
   ·exact hg.2 (foot_feet hl k z)
   ·omega
  ·exact hg.2 (hsub.subset q)
 refine⟨h.size,h.defers,h.tbok,fun i c' v hl'=>?_,fun id ob'' hl'=>?_,⟨hos.trans h.below.os,ht.trans h.below.tape,ho.trans h.below.output,Nat.le_trans h.below.size hz,fun k hk hx=>(hb k (Nat.lt_of_lt_of_le hk h.below.size) fun q=>?_).trans (h.below.block k hk hx)⟩,fun k hk=>?_,?_,?_⟩
 ·obtain⟨u,h1,h2⟩:=h.slots i c' v hl'
  refine⟨u,h1,fun hg=>rel_agr _ _ (fun id hid=>?_) (rel_mono hc _ _ (h2 hg))⟩
  exact setB_ne fun e=>by subst e;rw[smen_lk hl' hf.1] at hid;cases hid
 ·rw[lk_cons] at hl'
  split at hl'
  ·rename_i e
   cases hl';subst e
   rw[setB_self];exact hob hc
  ·rename_i e
   have hid:id≠c:=fun e=>by
    subst e
    rw[lk_none (rem_keys h.keys)] at hl';cases hl'
   have hl0:=hl'
   rw[lk_rem hid] at hl'
   obtain⟨q1,q2⟩:=omens_lk hl' hf.2
   rw[setB_ne q2]
   refine orel_agr (fun id' hid'=>?_) (orel_mono hc (fun k hk=>hb k (h.new k (foot_feet hl' k hk)).2 fun z=>hr1 k z (foot_feet hl0 k hk)) (h.objs id ob'' hl'))
   exact setB_ne fun e=>by subst e;rw[q1] at hid';cases hid'
 ·rcases(h.new k (foot_feet hl k q)).1 with z|z
  ·omega
  ·exact hx z
 ·rw[hfe] at hk
  rcases List.mem_append.1 hk with q|q
  ·refine⟨?_,(hW k q).2⟩
   rcases(hW k q).1 with z|z
   ·exact(h.new k (foot_feet hl k z)).1
   ·exact .inl (Nat.le_trans h.below.size z)
  ·exact⟨(h.new k (hsub.subset q)).1,Nat.lt_of_lt_of_le (h.new k (hsub.subset q)).2 hz⟩
 ·rw[hfe]
  refine List.nodup_append.2 ⟨hn,h.nodup.sublist hsub,fun x hx y hy e=>?_⟩
  subst e
  rcases(hW x hx).1 with z|z
  ·exact hr1 x z hy
  ·have:=(h.new x (hsub.subset hy)).2;omega
 ·rw[List.map_cons,List.nodup_cons]
  refine⟨fun hm=>?_,h.keys.sublist (rem_sub.map _)⟩
  obtain⟨p,hp,e⟩:=List.mem_map.1 hm
  exact hkey p hp e
def upO:Os->Nat->Obj->Os
 |[],_,_=>[]
 |(i,ob)::o,c,ob'=>bif Nat.beq i c then(i,ob')::o else(i,ob)::upO o c ob'
theorem lk_upO {o:Os} {c i:Nat} {ob ob':Obj} (hl:lk o c=some ob):lk (upO o c ob') i=if i=c then some ob' else lk o i:=by
 induction o with
 |nil=>cases hl
 |cons p o ih=>
  obtain⟨j,ob''⟩:=p
  rw[lk_cons] at hl
  simp only[upO]
  cases hb:Nat.beq j c with
  |true=>
   have e:=Nat.eq_of_beq_eq_true hb
   subst e
   rw[cond_true,lk_cons,lk_cons]
   by_cases h:j=i
   ·subst h;rw[if_pos rfl,if_pos rfl]
   ·rw[if_neg h,if_neg h,if_neg fun e=>h e.symm]
  |false=>
   have e:j≠c:=fun e=>by rw[e] at hb;simp at hb
   rw[if_neg e] at hl
   rw[cond_false,lk_cons,lk_cons,ih hl]
   by_cases h:j=i
   ·subst h;rw[if_pos rfl,if_pos rfl,if_neg e]
   ·rw[if_neg h,if_neg h]
theorem upO_keys {ob':Obj}: ∀ {o:Os} {c:Nat},(upO o c ob').map (·.1)=o.map (·.1)
 |[],_=>rfl
 |(j,ob)::o,c=>by
  simp only[upO]
  cases Nat.beq j c with
  |true=>rfl
  |false=>rw[cond_false,List.map_cons,List.map_cons,upO_keys]
theorem upO_feet {ob':Obj} {β:Nat->Wt}: ∀ {o:Os} {c:Nat},feet (upO o c ob') β=feet o β
 |[],_=>rfl
 |(j,ob)::o,c=>by
  simp only[upO]
  cases Nat.beq j c with
  |true=>rfl
  |false=>rw[cond_false,feet_cons,feet_cons,upO_feet]
theorem foot_disj {o:Os} {β:Nat->Wt} {c i:Nat} {ob ob':Obj} (hl:lk o c=some ob) (hi:lk o i=some ob') (hne:i≠c) (hn:(feet o β).Nodup): ∀k∈(β i).foot,k∉(β c).foot:=fun k hk hk'=>by
 have:=(feet_rem hl hn).1 k hk'
 exact this (foot_feet (by rw[lk_rem hne];exact hi) k hk)
theorem Gam.setO {ob':Obj} (h:Gam E tb s o β a w) (hl:lk o c=some ob) (hos:w'.os=w.os) (ht:w'.tape=w.tape) (ho:w'.output=w.output) (hz:w'.heap.size=w.heap.size) (hb: ∀k,k∉(β c).foot->w'.heap[k]?=w.heap[k]?)
  (hob:Comp (E.good o β) w (E.good o β) w'->orel (E.good o β) β w' (β c) ob'):Gam E tb s (upO o c ob') β a w':=by
 have hfe:feet (upO o c ob') β=feet o β:=upO_feet
 have hg:E.good (upO o c ob') β=E.good o β:=by unfold Env.good;rw[hfe]
 have hc:Comp (E.good o β) w (E.good o β) w':=⟨by omega,fun k hk hg=>⟨hg,hb k fun q=>hg.2 (foot_feet hl k q)⟩⟩
 refine⟨h.size,h.defers,h.tbok,fun i c' v hl'=>?_,fun id ob'' hl'=>?_,⟨hos.trans h.below.os,ht.trans h.below.tape,ho.trans h.below.output,by rw[hz];exact h.below.size,fun k hk hx=>(hb k fun q=>?_).trans (h.below.block k hk hx)⟩,fun k hk=>?_,by rw[hfe];exact h.nodup,by rw[upO_keys];exact h.keys⟩
 ·obtain⟨u,h1,h2⟩:=h.slots i c' v hl'
  exact⟨u,h1,fun hg'=>by rw[hg];exact rel_mono hc _ _ (h2 hg')⟩
 ·rw[lk_upO hl] at hl'
  rw[hg]
  split at hl'
  ·rename_i e
   cases hl';subst e
   exact hob hc
  ·rename_i e
   exact orel_mono hc (fun k hk=>hb k (foot_disj hl hl' e h.nodup k hk)) (h.objs id ob'' hl')
 ·rcases(h.new k (foot_feet hl k q)).1 with z|z
  ·omega
  ·exact hx z
 ·rw[hfe] at hk;rw[hz];exact h.new k hk
theorem Gam.freeze {e N:Nat} {get:Nat->List AV} {off n:Nat} (h:Gam E tb s o β a w) {q:Option Nat} (hl:lk o c=some (.row q e N get)) (hn:off+n<=N):
  rel (E.good (rem o c) β) β w (.row none e n fun i=>get (off+i)) (.slice ((β c).a.map (·.add (off*e))) n ((β c).cap-off)):=by
 obtain⟨h1,h2,h3⟩:=h.objs c _ hl
 have hc:=h.delC (c:=c)
 rcases h3 with⟨z1,z2,z3⟩|⟨b,off',cells,ty,us,z1,z2,z3,z4,z5⟩
 ·exact⟨_,_,fun _=>[],rfl,(fun z hz=>by cases hz),by omega,fun i hi=>by omega⟩
 ·rw[z1]
  refine⟨_,_,fun i=>us (off+i),rfl,(fun z hz=>by cases hz),by omega,fun i hi=>⟨⟨_,rfl,?_⟩,(z5 (off+i) (by omega)).1.1,rels_mono hc _ _ (z5 (off+i) (by omega)).2⟩⟩
  have hb:b<w.heap.size:=(h.new b (foot_feet hl b (by rw[z2];simp))).2
  have hg:E.good (rem o c) β b:=⟨by rcases(h.new b (foot_feet hl b (by rw[z2];simp))).1 with q|q;exact .inr (.inl q);exact .inr (.inr q),(feet_rem hl h.nodup).1 b (by rw[z2];simp)⟩
  intro w'' hs hq j u hu
  have hb'':=(hq b hb hg).trans z3
  have:=(z5 (off+i) (by omega)).1.2 j u hu
  show w''.cell? ((((⟨b,off',none⟩:Addr).add (off*e)).add (i*e)).add j)=some u
  rw[add_none,add_none,add_none,cell_blk hb'',<-this]
  congr 1
  rw[Nat.add_mul];omega
end
mutual
def noOwn:AV->Bool
 | .op _ _=>false
 | .orow _ _ _ _=>false
 | .rp _ _ _ _=>false
 | .pth _ _ _ _ _=>false
 | .pp _ _ _ _ _=>false
 | .omap _=>false
 | .agg cs=>noOwns cs
 | .tup cs=>noOwns cs
 | .clo _ cs=>noOwns cs
 | .ifc _ x=>noOwn x
 |_=>true
def noOwns:List AV->Bool
 |[]=>true
 |x::xs=>noOwn x&&noOwns xs
end
mutual
theorem noOwn_rel {S:Nat->Prop} {β:Nat->Wt} {w:World}: ∀ {x:AV} {u:Value},noOwn x=true->rel S β w x u->rel S W0 w x u
 | .i k z,u,_,h=>h
 | .b t,u,_,h=>h
 | .s x,u,_,h=>h
 | .v x,u,_,h=>h
 | .nil,u,_,h=>h
 | .row nz e n get,u,_,h=>h
 | .agg cs,u,hn,⟨us,h1,h2⟩=>⟨us,h1,noOwns_rel hn h2⟩
 | .tup cs,u,hn,⟨us,h1,h2⟩=>⟨us,h1,noOwns_rel hn h2⟩
 | .cp cs,u,_,h=>h
 | .op id off,u,hn,h=>nomatch hn
 | .orow id e off n,u,hn,h=>nomatch hn
 | .rp id e i j,u,hn,h=>nomatch hn
 | .clo f cs,u,hn,⟨us,h1,h2⟩=>⟨us,h1,noOwns_rel hn h2⟩
 | .omap id,u,hn,h=>nomatch hn
 | .ifc t x,u,hn,⟨u',h1,h2⟩=>⟨u',h1,noOwn_rel hn h2⟩
 | .any,u,_,h=>h
 | .pth _ _ _ _ _,u,hn,h=>nomatch hn
 | .pp _ _ _ _ _,u,hn,h=>nomatch hn
theorem noOwns_rel {S:Nat->Prop} {β:Nat->Wt} {w:World}: ∀ {x:List AV} {u:List Value},noOwns x=true->rels S β w x u->rels S W0 w x u
 |[],us,_,h=>h
 |v::vs,us,hn,⟨u,us',h1,h2,h3⟩=>by
  simp only[noOwns,Bool.and_eq_true] at hn
  exact⟨u,us',h1,noOwn_rel hn.1 h2,noOwns_rel hn.2 h3⟩
end
theorem rels_splice {S:Nat->Prop} {β:Nat->Wt} {w:World}: ∀ {xs vs:List AV} {us ws:List Value} {n:Nat},rels S β w xs us->rels S β w vs ws->n+vs.length<=xs.length->rels S β w (splice xs n vs) (splice us n ws)
 |xs,[],us,ws,n,h1,h2,_=>by
  unfold rels at h2;subst h2
  rw[splice_nil,splice_nil];exact h1
 |[],v::vs,us,ws,n,h1,h2,h=>by simp at h
 |x::xs,v::vs,us,ws,0,h1,h2,h=>by
  unfold rels at h1 h2
  obtain⟨u,us',rfl,a1,a2⟩:=h1
  obtain⟨q,ws',rfl,b1,b2⟩:=h2
  rw[splice,splice]
  exact⟨q,_,rfl,b1,rels_splice a2 b2 (by simp only[List.length_cons] at h;omega)⟩
 |x::xs,v::vs,us,ws,n+1,h1,h2,h=>by
  unfold rels at h1
  obtain⟨u,us',rfl,a1,a2⟩:=h1
  have hw:ws.length=vs.length+1:=rels_len h2
  cases ws with
  |nil=>cases hw
  |cons q ws=>
   rw[splice,splice]
   exact⟨u,_,rfl,a1,rels_splice a2 h2 (by simp only[List.length_cons] at h⊢;omega)⟩
theorem splice_get {α:Type}: ∀(l:List α) (n:Nat) (vs:List α) (q:Nat),n+vs.length<=l.length->(splice l n vs)[q]?=if n<=q/\q<n+vs.length then vs[q-n]? else l[q]?
 |l,n,[],q,_=>by rw[splice_nil,if_neg (by simp)]
 |[],n,v::vs,q,h=>by simp at h
 |x::l,0,v::vs,q,h=>by
  rw[splice]
  cases q with
  |zero=>simp
  |succ q=>
   rw[List.getElem?_cons_succ,splice_get l 0 vs q (by simp at h;omega)]
   simp
 |x::l,n+1,v::vs,q,h=>by
  rw[splice]
  cases q with
  |zero=>simp
  |succ q=>
   rw[List.getElem?_cons_succ,splice_get l n (v::vs) q (by simp at h⊢;omega)]
   by_cases hq:n<=q/\q<n+(v::vs).length
   ·rw[if_pos hq,if_pos (by omega),show q+1-(n+1)=q-n by omega]
   ·rw[if_neg hq,if_neg (by omega)];rfl
theorem splice_all {α:Type} {p:α->Bool}: ∀ {l vs:List α} {n:Nat},l.all p=true->vs.all p=true->(splice l n vs).all p=true
 |l,[],n,h,_=>by rw[splice_nil];exact h
 |[],_::_,0,h,_=>rfl
 |[],_::_,_+1,h,_=>rfl
 |x::l,v::vs,0,h,h'=>by
  simp only[List.all_cons,Bool.and_eq_true] at h h'
  rw[splice,List.all_cons,h'.1,splice_all h.2 h'.2];rfl
 |x::l,v::vs,n+1,h,h'=>by
  simp only[List.all_cons,Bool.and_eq_true] at h
  rw[splice,List.all_cons,h.1,splice_all h.2 h'];rfl
def upK:Os->Nat->Obj->(Os->Prop)->Prop
 |[],_,_,_=>False
 |(i,ob)::o,c,ob',K=>match Nat.beq i c with
  |true=>K ((i,ob')::o)
  |false=>upK o c ob' fun r=>K ((i,ob)::r)
theorem upK_ok {ob':Obj} {c:Nat}: ∀ {o:Os} {K:Os->Prop},upK o c ob' K->K (upO o c ob')
 |[],_,h=>nomatch h
 |(i,ob)::o,K,h=>by
  simp only[upK] at h
  simp only[upO]
  split at h
  ·rename_i e;rw[e];exact h
  ·rename_i e;rw[e];exact upK_ok h
def remK:Os->Nat->(Os->Prop)->Prop
 |[],_,_=>False
 |(i,ob)::o,c,K=>match Nat.beq i c with
  |true=>K o
  |false=>remK o c fun r=>K ((i,ob)::r)
theorem remK_ok {c:Nat}: ∀ {o:Os} {K:Os->Prop},remK o c K->K (rem o c)
 |[],_,h=>nomatch h
 |(i,ob)::o,K,h=>by
  simp only[remK] at h
  simp only[rem]
  split at h
  ·rename_i e;rw[e];exact h
  ·rename_i e;rw[e];exact remK_ok h
def setF (get:Nat->List AV) (i:Nat) (cs:List AV):Nat->List AV:=fun k=>if k=i then cs else get k
section
variable {P:Program} {T:TT} {tb:Tb} {s:Sl} {o:Os} {c d:Nat} {t:TypeId} {ti:TI} {x y:Operand} {v u p:AV}
def Mut (P:Program) (tb:Tb) (s:Sl) (o:Os) (opr:Oper) (s':Sl) (o':Os):Prop:=
 ∀(E:Env) (β:Nat->Wt) (a:Act) (w:World),Gam E tb s o β a w->(∀d,opr.dst=some d->OkD E.n d)-> ∀(K:Act->World->Prop) (Q:Exit->Act->World->Prop),(∀a' w' β',Gam E tb s' o' β' a' w'->K a' w')->opr.wp P a w K Q
def storeA (ti:TI) (o:Os) (p v:AV) (K:Os->Prop):Prop:=match stor v with
 |true=>cellsK v fun vs=>match Nat.beq vs.length ti.sz with
  |true=>match p with
   | .op id off=>match lk o id with
    |some (.box q r cs)=>match Nat.ble (off+vs.length) cs.length with
     |true=>exactK cs.length [] (splice cs off vs) fun cs'=>upK o id (.box q r cs') K
     |false=>False
    |_=>False
   | .rp id e i j=>match lk o id with
    |some (.row q e' n get)=>match Nat.beq e e'&&Nat.ble (j+vs.length) e&&noOwns vs with
     |true=>i<n/\exactK e [] (splice (get i) j vs) fun cs'=>upK o id (.row q e' n (setF get i cs')) K
     |false=>False
    |_=>False
   |_=>False
  |false=>False
 |false=>False
theorem run_store {b off ty:Nat} {q:Value} {cs:List Value} {w:World} (hti:TIok P t ti) (hb:w.heap[b]?=some (.cells cs.toArray ty (0,0))) (hle:off+ti.sz<=cs.length) (hq:q.cells.size=ti.sz) (hone:q.cells.toList.all (·.oneCell')=true):
  ∃w',(Instr.storeAt t (.pointer (some ⟨b,off,none⟩)) q).run P w= .ok () w'/\w'.os=w.os/\w'.tape=w.tape/\w'.output=w.output/\w'.heap.size=w.heap.size/\w'.heap[b]?=some (.cells (splice cs off q.cells.toList).toArray ty (0,0))/\ ∀j,j≠b->w'.heap[j]?=w.heap[j]?:=by
 obtain⟨w',hr,e1,e2,e3,e4,e5,e6⟩:=run_storeCells_blk (P:=P) b ty q.cells.toList 0 off cs w hb (by rw[Array.length_toList];omega) hone
 refine⟨w',?_,e1,e2,e3,e4,e5,e6⟩
 unfold Instr.storeAt storeVar
 simp only[Instr.sureAddr,Sem.run_bind,Sem.run_pure,Result.andThen,hti.sz,hq,ne_eq,not_true_eq_false,if_false]
 exact hr
theorem stor_one {S:Nat->Prop} {β:Nat->Wt} {w:World} {q:Value} (h:stor v=true) (hr:rel S β w v q):q.cells.toList.all (·.oneCell')=true:=by
 cases v
 case agg cs=>
  unfold rel at hr
  obtain⟨us,rfl,h2⟩:=hr
  have:=rels_one h2 h
  simpa[Value.cells] using this
 all_goals
  have h1:q.oneCell'=true:=rel_one hr h
  have h2:q.cells= #[q]:=by cases q<;>first|rfl|cases h1
  rw[h2];simp[h1]
theorem storeA_ok {K:Os->Prop} {ty:TypeId} {pos:String} {after:Array Edge} {gu:Option (Nat×Bool)} (hti:TIok P t ti) (hx:Opn tb s 0 x p) (hy:Opn tb s 0 y v) (h:storeA ti o p v K): ∃o',K o'/\Mut P tb s o ⟨none,.store t x y,ty,pos,after,gu⟩ s o':=by
 unfold storeA at h
 split at h
 ·rename_i hst
  obtain⟨vs,h,hvs⟩:=cellsK_ok h
  split at h
  ·rename_i hlen
   have hlen:=Nat.eq_of_beq_eq_true hlen
   cases p with
   |op id off=>
    simp only at h
    split at h
    ·rename_i cs hlk
     split at h
     ·rename_i hle
      have hle:=Nat.le_of_ble_eq_true hle
      obtain⟨_,h⟩:=exactK_ok h
      have h:=upK_ok h
      refine⟨_,h,fun E β a w hg _ K Q hK=>?_⟩
      have hc:=tg_zero hg.tbok
      have h1:=hx.eval hg hc
      have h2:=hy.eval hg hc
      unfold rel at h1
      obtain⟨h0,b,e1,e2⟩:=h1
      obtain⟨b',us,ty',e3,e4,e5,e6,e6'⟩:=hg.objs id _ hlk
      rw[e3] at e1
      cases e1
      have hr:=hvs _ _ _ _ h2 (stor_or hst)
      have hsz:(a.eval y).cells.size=ti.sz:=by rw[<-hlen,<-rels_len hr];simp
      obtain⟨w',hrun,q1,q2,q3,q4,q5,q6⟩:=run_store hti e5 (off:=off) (by rw[rels_len e6,<-hlen];exact hle) hsz (stor_one hst h2)
      have hex:(execOp a.eval ⟨none,.store t x y,ty,pos,after,gu⟩).run P w= .ok .skip w':=by
       simp only[execOp,e2]
       rw[Sem.run_bind,hrun];rfl
      unfold Oper.wp
      rw[hex,Oper.upon_skip]
      refine hK _ _ β (hg.setO hlk q1 q2 q3 q4 (fun k hk=>q6 k fun e=>hk (by rw[e4,e];simp)) fun hc=>⟨b,_,ty',e3,e4,q5,?_,e6'⟩)
      have:=rels_mono hc _ _ (rels_splice e6 hr hle)
      simpa using this
     ·cases h
    ·cases h
   |rp id e i j=>
    simp only at h
    split at h
    ·rename_i e' n get hlk
     split at h
     ·rename_i hb
      simp only[Bool.and_eq_true] at hb
      obtain⟨⟨hb1,hb2⟩,hb3⟩:=hb
      have hb1:=Nat.eq_of_beq_eq_true hb1
      subst hb1
      have hb2:=Nat.le_of_ble_eq_true hb2
      obtain⟨hin,h⟩:=h
      obtain⟨hel,h⟩:=exactK_ok h
      have h:=upK_ok h
      refine⟨_,h,fun E β a w hg _ K Q hK=>?_⟩
      have hc:=tg_zero hg.tbok
      have h1:=hx.eval hg hc
      have h2:=hy.eval hg hc
      unfold rel at h1
      obtain⟨h0,ad,e1,e2⟩:=h1
      obtain⟨z1,z2,z3⟩:=hg.objs id _ hlk
      rcases z3 with⟨y1,y2,y3⟩|⟨b,off',cells,ty',us,y1,y2,y3,y4,y5⟩
      ·omega
      ·rw[y1] at e1
       cases e1
       have hr:=hvs _ _ _ _ h2 (stor_or hst)
       have hwl:=rels_len hr
       have hsz:(a.eval y).cells.size=ti.sz:=by rw[<-hlen,<-hwl];simp
       rw[add_none] at e2
       have hroom:off'+(i*e+j)+ti.sz<=cells.length:=by
        have h3:=Nat.mul_le_mul_right e (show i+1<=(β id).cap by omega)
        rw[Nat.add_mul,Nat.one_mul] at h3
        omega
       obtain⟨w',hrun,q1,q2,q3,q4,q5,q6⟩:=run_store hti y3 (off:=off'+(i*e+j)) hroom hsz (stor_one hst h2)
       have hex:(execOp a.eval ⟨none,.store t x y,ty,pos,after,gu⟩).run P w= .ok .skip w':=by
        simp only[execOp,e2]
        rw[Sem.run_bind,hrun];rfl
       unfold Oper.wp
       rw[hex,Oper.upon_skip]
       refine hK _ _ β (hg.setO hlk q1 q2 q3 q4 (fun k hk=>q6 k fun e=>hk (by rw[y2,e];simp)) fun hc=>?_)
       have hws:(a.eval y).cells.toList.length=ti.sz:=by rw[hwl,hlen]
       have hsp:=splice_get cells (off'+(i*e+j)) (a.eval y).cells.toList
       refine⟨z1,z2,.inr ⟨b,off',splice cells (off'+(i*e+j)) (a.eval y).cells.toList,ty',fun k=>if k=i then splice (us i) j (a.eval y).cells.toList else us k,y1,y2,q5,by rw[splice_length];exact y4,fun k hk=>?_⟩⟩
       obtain⟨⟨r1,r2⟩,r3⟩:=y5 i hin
       obtain⟨⟨p1,p2⟩,p3⟩:=y5 k hk
       by_cases hki:k=i
       ·subst hki
        simp only[setF,if_true,rowAt]
        refine⟨⟨⟨by rw[splice_length];exact r1.1,splice_all r1.2 (stor_one hst h2)⟩,fun q f hf=>?_⟩,?_⟩
        ·rw[splice_get _ _ _ _ (by rw[r1.1,hws];omega)] at hf
         rw[hsp _ (by rw[hws];exact hroom)]
         by_cases hq:j<=q/\q<j+(a.eval y).cells.toList.length
         ·rw[if_pos hq] at hf
          rw[if_pos (by omega),<-hf];congr 1;omega
         ·rw[if_neg hq] at hf
          rw[if_neg (by omega)];exact r2 q f hf
        ·have:=rels_mono hc _ _ (rels_splice r3 (noOwns_rel hb3 hr) (by rw[<-rels_len r3,r1.1];exact hb2))
         simpa using this
       ·simp only[setF,if_neg hki,rowAt]
        refine⟨⟨p1,fun q f hf=>?_⟩,rels_mono hc _ _ p3⟩
        have hql:q<e:=by have:=(List.getElem?_eq_some_iff.1 hf).1;omega
        rw[hsp _ (by rw[hws];exact hroom),if_neg (fun hq=>hki ?_)]
        ·exact p2 q f hf
        ·rw[hws] at hq
         have h5:i*e<=k*e+q:=by omega
         have h6:k*e+q<i*e+e:=by omega
         have h7:i<k+1:=by
          rcases Nat.lt_or_ge i (k+1) with z|z
          ·exact z
          ·have:=Nat.mul_le_mul_right e z;rw[Nat.add_mul,Nat.one_mul] at this;omega
         have h8:k<i+1:=by
          rcases Nat.lt_or_ge k (i+1) with z|z
          ·exact z
          ·have:=Nat.mul_le_mul_right e z;rw[Nat.add_mul,Nat.one_mul] at this;omega
         omega
     ·cases h
    ·cases h
   |_=>cases h
  ·cases h
 ·cases h
end
def catF (n:Nat) (g1 g2:Nat->List AV):Nat->List AV:=fun i=>if i<n then g1 i else g2 (i-n)
def offF (off:Nat) (get:Nat->List AV):Nat->List AV:=match off with
 |0=>get
 |off=>fun i=>get (off+i)
theorem offF_eq (off:Nat) (get:Nat->List AV) (i:Nat):offF off get i=get (off+i):=by
 unfold offF;split
 ·rw[Nat.zero_add]
 ·rfl
def flatN (us:Nat->List Value) (m:Nat):List Value:=(List.range m).flatMap us
theorem flatN_succ (us:Nat->List Value) (m:Nat):flatN us (m+1)=flatN us m++us m:=by
 unfold flatN;rw[List.range_succ,List.flatMap_append];simp
theorem flatN_len {us:Nat->List Value} {e:Nat}: ∀ {m:Nat},(∀i,i<m->(us i).length=e)->(flatN us m).length=m*e
 |0,_=>by simp[flatN]
 |m+1,h=>by rw[flatN_succ,List.length_append,flatN_len fun i hi=>h i (by omega),h m (by omega),Nat.add_mul,Nat.one_mul]
theorem flatN_get {us:Nat->List Value} {e:Nat}: ∀ {m:Nat},(∀i,i<m->(us i).length=e)-> ∀ {q:Nat} {u:Value},(flatN us m)[q]?=some u-> ∃i r,i<m/\q=i*e+r/\(us i)[r]?=some u
 |0,_,q,u,h=>by simp[flatN] at h
 |m+1,hl,q,u,h=>by
  have hm:=flatN_len (us:=us) (e:=e) (m:=m) fun i hi=>hl i (by omega)
  rw[flatN_succ,List.getElem?_append] at h
  split at h
  ·obtain⟨i,r,h1,h2,h3⟩:=flatN_get (m:=m) (fun i hi=>hl i (by omega)) h
   exact⟨i,r,by omega,h2,h3⟩
  ·exact⟨m,q-m*e,by omega,by omega,by rw[hm] at h;exact h⟩
theorem flatN_at {us:Nat->List Value} {e:Nat}: ∀ {m:Nat},(∀i,i<m->(us i).length=e)-> ∀ {i r:Nat} {u:Value},i<m->(us i)[r]?=some u->(flatN us m)[i*e+r]?=some u
 |0,_,i,r,u,hi,h=>by omega
 |m+1,hl,i,r,u,hi,h=>by
  have hm:=flatN_len (us:=us) (e:=e) (m:=m) fun i hi=>hl i (by omega)
  have hr:r<e:=by have:=(List.getElem?_eq_some_iff.1 h).1;rw[hl i hi] at this;exact this
  rw[flatN_succ]
  rcases Nat.lt_or_ge i m with q|q
  ·rw[List.getElem?_append_left]
   ·exact flatN_at (m:=m) (fun i hi=>hl i (by omega)) q h
   ·rw[hm]
    have:=Nat.mul_le_mul_right e (show i+1<=m by omega)
    rw[Nat.add_mul,Nat.one_mul] at this;omega
  ·obtain rfl:i=m:=by omega
   rw[List.getElem?_append_right (by rw[hm];omega),hm,show i*e+r-i*e=r by omega];exact h
theorem flatN_one {us:Nat->List Value} {p:Value->Bool}: ∀ {m:Nat},(∀i,i<m->(us i).all p=true)->(flatN us m).all p=true
 |0,_=>by simp[flatN]
 |m+1,h=>by rw[flatN_succ,List.all_append,flatN_one fun i hi=>h i (by omega),h m (by omega)];rfl
section
variable {P:Program} {T:TT} {tb:Tb} {s:Sl} {o:Os} {c d:Nat} {t t':TypeId} {ti:TI} {x y:Operand} {v u p:AV}
theorem Gam.put0 {E:Env} {β:Nat->Wt} {a:Act} {w:World} {q:Value} (h:Gam E tb s o β a w) (hd:OkD E.n d) (hv:rel (E.good o β) β w v q):Gam E tb ((d,0,v)::s) o β (a.put (some d) q) w:=by
 have:=h.put (c:=0) hd fun _=>hv
 rw[tg_zero h.tbok] at this
 exact this
def srcN (e:Nat) (o:Os) (v:AV) (K:Nat->(Nat->List AV)->Prop):Prop:=match v with
 | .nil=>K 0 (fun _=>[])
 | .row _ e' m get=>match Nat.beq e e' with
  |true=>K m get
  |false=>False
 | .orow c e' off m=>match lk o c with
  |some (.row _ e'' N get)=>match Nat.beq e e'&&Nat.beq e e'' with
   |true=>off+m<=N/\K m (offF off get)
   |false=>False
  |_=>False
 |_=>False
theorem srcN_ok {e:Nat} {K:Nat->(Nat->List AV)->Prop} (h:srcN e o v K): ∃m get,K m get/\ ∀(E:Env) (β:Nat->Wt) (a:Act) (w:World) (q:Value) (e0:Nat),Gam E tb s o β a w->rel (E.good o β) β w v q->P.underlying t'=some (.slice e0)->
  ∃us:Nat->List Value,Src P e t' q m (flatN us m) w/\ ∀i,i<m->((us i).length=e/\(us i).all (·.oneCell')=true)/\rels (E.good o β) W0 w (get i) (us i):=by
 unfold srcN at h
 cases v with
 |nil=>
  refine⟨_,_,h,fun E β a w q e0 hg hr hu=>⟨fun _=>[],?_,fun i hi=>by omega⟩⟩
  unfold rel at hr;subst hr
  exact Src.ofNil w hu 0
 |row nz e' m get=>
  simp only at h
  split at h
  ·rename_i hb
   have hb:=Nat.eq_of_beq_eq_true hb
   subst hb
   refine⟨_,_,h,fun E β a w q e0 hg hr hu=>?_⟩
   unfold rel at hr
   obtain⟨ao,cap,us,rfl,h2,h3,h4⟩:=hr
   refine⟨us,?_,fun i hi=>(h4 i hi).2⟩
   cases ao with
   |none=>
    have:m=0:=by
     rcases Nat.eq_zero_or_pos m with q|q
     ·exact q
     ·obtain⟨⟨ad,z,_⟩,_⟩:=h4 0 q;cases z
    subst this
    exact Src.ofNil w hu cap
   |some ad=>
    refine Src.ofSlice w hu ad m cap _ (flatN_len fun i hi=>(h4 i hi).2.1.1) (fun j u hj=>?_) (List.all_eq_true.1 (flatN_one fun i hi=>(h4 i hi).2.1.2))
    obtain⟨i,r,g1,rfl,g3⟩:=flatN_get (fun i hi=>(h4 i hi).2.1.1) hj
    obtain⟨⟨ad',z1,z2⟩,_⟩:=h4 i g1
    cases z1
    have:=z2.now r u g3
    rwa [add_add] at this
  ·cases h
 |orow c e' off m=>
  simp only at h
  split at h
  ·rename_i e'' N get hlk
   split at h
   ·rename_i hb
    simp only[Bool.and_eq_true] at hb
    have hb1:=Nat.eq_of_beq_eq_true hb.1
    have hb2:=Nat.eq_of_beq_eq_true hb.2
    subst hb1 hb2
    refine⟨_,_,h.2,fun E β a w q e0 hg hr hu=>?_⟩
    unfold rel at hr
    obtain⟨h0,rfl⟩:=hr
    obtain⟨z1,z2,z3⟩:=hg.objs c _ hlk
    rcases z3 with⟨y1,y2,y3⟩|⟨b,off',cells,ty',us,y1,y2,y3,y4,y5⟩
    ·have:m=0:=by have:=h.1;omega
     subst this
     rw[y1]
     exact⟨fun _=>[],Src.ofNil w hu _,fun i hi=>by omega⟩
    ·have hlt: ∀i,i<m->off+i<N:=fun i hi=>by have:=h.1;omega
     refine⟨fun i=>us (off+i),?_,fun i hi=>⟨(y5 _ (hlt i hi)).1.1,by rw[offF_eq];exact(y5 _ (hlt i hi)).2⟩⟩
     rw[y1]
     refine Src.ofSlice w hu _ m _ _ (flatN_len fun i hi=>(y5 _ (hlt i hi)).1.1.1) (fun j u hj=>?_) (List.all_eq_true.1 (flatN_one fun i hi=>(y5 _ (hlt i hi)).1.1.2))
     obtain⟨i,r,g1,rfl,g3⟩:=flatN_get (fun i hi=>(y5 _ (hlt i hi)).1.1.1) hj
     show w.cell? (((⟨b,off',none⟩:Addr).add (off*e)).add (i*e+r))=some u
     rw[add_none,add_none,cell_blk y3,<-(y5 _ (hlt i g1)).1.2 r u g3]
     congr 1
     rw[Nat.add_mul];omega
   ·cases h
  ·cases h
 |_=>cases h
def qJ (q:Option Nat) (e0:Nat):Option Nat:=match q with
 |none=>none
 |some t=>bif Nat.beq t e0 then some e0 else none
theorem qJ_some {q:Option Nat} {e0 t0:Nat} (h:qJ q e0=some t0):q=some t0/\e0=t0:=by
 unfold qJ at h
 split at h
 ·cases h
 ·rename_i t
  cases hb:Nat.beq t e0 with
  |true=>
   rw[hb,cond_true] at h
   cases h
   exact⟨congrArg some (Nat.eq_of_beq_eq_true hb),rfl⟩
  |false=>rw[hb] at h;cases h
def srcA (str:Bool) (e:Nat) (o:Os) (v:AV) (K:Nat->(Nat->List AV)->Prop):Prop:=match str with
 |true=>match v with
  | .s q=>match Nat.beq e 1 with
   |true=>K q.size (fun i=>[.i .u8 (byteAt q i)])
   |false=>False
  |_=>False
 |false=>srcN e o v K
def kindS (P:Program) (t':TypeId):Bool->Prop
 |true=>P.underlying t'=some .string
 |false=>∃e0,P.underlying t'=some (.slice e0)
theorem srcA_ok {str:Bool} {e:Nat} {K:Nat->(Nat->List AV)->Prop} (h:srcA str e o v K): ∃m get,K m get/\ ∀(E:Env) (β:Nat->Wt) (a:Act) (w:World) (q:Value),Gam E tb s o β a w->rel (E.good o β) β w v q->kindS P t' str->
  ∃us:Nat->List Value,Src P e t' q m (flatN us m) w/\ ∀i,i<m->((us i).length=e/\(us i).all (·.oneCell')=true)/\rels (E.good o β) W0 w (get i) (us i):=by
 unfold srcA at h
 split at h
 ·split at h
  ·rename_i q
   split at h
   ·rename_i hb
    obtain rfl:=Nat.eq_of_beq_eq_true hb
    refine⟨_,_,h,fun E β a w q' hg hr hk=>?_⟩
    unfold rel at hr
    subst hr
    refine⟨fun i=>[.int .u8 (byteAt q i)],?_,fun i hi=>⟨⟨rfl,rfl⟩,_,_,rfl,rfl,rfl⟩⟩
    have e:flatN (fun i=>[.int .u8 (byteAt q i)]) q.size=byteCells q:=by
     refine List.ext_getElem? fun j=>?_
     have e1:flatN (fun i=>[Value.int .u8 (byteAt q i)]) q.size=(List.range q.size).map fun i:Nat=>Value.int .u8 (byteAt q i):=by
      unfold flatN
      rw[List.map_eq_flatMap]
     have e2:q.data.toList.length=q.size:=Array.length_toList
     rw[e1,byteCells,List.getElem?_map,List.getElem?_map]
     rcases Nat.lt_or_ge j q.size with h|h
     ·rw[List.getElem?_range h,List.getElem?_eq_getElem (by rw[e2];exact h)]
      simp only[Option.map_some,byteAt,Int.toNat_natCast]
      rw[List.getD_eq_getElem?_getD,List.getElem?_eq_getElem (by rw[e2];exact h)];rfl
     ·rw[List.getElem?_eq_none (by simpa using h),List.getElem?_eq_none (by rw[e2];exact h)];rfl
    rw[e]
    exact Src.ofString w hk q
   ·cases h
  ·cases h
 ·obtain⟨m,get,h1,h2⟩:=srcN_ok (P:=P) (tb:=tb) (s:=s) (t':=t') h
  exact⟨m,get,h1,fun E β a w q hg hr ⟨e0,hk⟩=>h2 E β a w q e0 hg hr hk⟩
def appA (str:Bool) (ti:TI) (s:Sl) (o:Os) (d:Nat) (u v:AV) (K:AV->Os->Prop):Prop:=match ti.el,fresh d s o with
 |some (e0,e,B),true=>match Nat.ble 1 B with
  |true=>srcA str e o v fun m get2=>match u with
   | .nil=>(2*m+192)*B<=281474976710656/\K (.orow d e 0 m) ((d,.row (some e0) e m get2)::o)
   | .orow c e' off n=>match lk o c with
    |some (.row q e'' N get)=>match Nat.beq e e'&&Nat.beq e e'' with
     |true=>(addZ off n<=N/\(2*(n+m)+192)*B<=281474976710656)/\remK o c fun o'=>K (.orow d e 0 (n+m)) ((d,.row (qJ q e0) e (n+m) (catF n (offF off get) get2))::o')
     |false=>False
    |_=>False
   |_=>False
  |false=>False
 |_,_=>False
theorem run_callApp {ρ:Operand->Value} {ats:Array TypeId} {v u r:Value} {w w':World} {ty:TypeId} {pos:String} {after:Array Edge} {gu:Option (Nat×Bool)} {d:Nat} (hx:ρ x=v) (hy:ρ y=u) (h:(Builtin.append_ ats ty #[v,u]).run P w= .ok r w'):
  (execOp ρ ⟨some d,.call ⟨.builtin .append,#[x,y],ats⟩,ty,pos,after,gu⟩).run P w= .ok (.value r) w':=by
 simp[execOp,resolve,invoke,builtin,hx,hy,h]
theorem grown_row {S:Nat->Prop} {β:Nat->Wt} {w:World} {W:Wt} {e n m cap' b ty:Nat} {us us2:Nat->List Value} {g g2:Nat->List AV} {z:Array Value} (hz:z.size=e) (hc:n+m<=cap') (hm:n+m<=maxLen) (hW:W.a=some ⟨b,0,none⟩) (hcap:W.cap=cap') (hf:W.foot=[b])
  (hb:w.heap[b]?=some (.cells ((flatN us n++flatN us2 m).toArray++Builtin.zeroCells z (cap'-(n+m))) ty (0,0)))
  (h1: ∀i,i<n->((us i).length=e/\(us i).all (·.oneCell')=true)/\rels S W0 w (g i) (us i)) (h2: ∀i,i<m->((us2 i).length=e/\(us2 i).all (·.oneCell')=true)/\rels S W0 w (g2 i) (us2 i)) (q:Option Nat) (hq: ∀t0,q=some t0->ty=t0):orel S β w W (.row q e (n+m) (catF n g g2)):=by
 have l1:=flatN_len (us:=us) (e:=e) fun i hi=>(h1 i hi).1.1
 have l2:=flatN_len (us:=us2) (e:=e) fun i hi=>(h2 i hi).1.1
 refine⟨by rw[hcap];exact hc,hm,.inr ⟨b,0,flatN us n++flatN us2 m++(Builtin.zeroCells z (cap'-(n+m))).toList,ty,fun i=>if i<n then us i else us2 (i-n),hW,hf,?_,?_,fun i hi=>?_⟩⟩
 ·rw[hb]
  congr 2
  apply Array.ext'
  simp
 ·refine⟨?_,hq⟩
  rw[List.length_append,List.length_append,l1,l2,Array.length_toList,zeroCells_size,hz,hcap,Nat.sub_mul,Nat.add_mul]
  have:=Nat.mul_le_mul_right e hc
  rw[Nat.add_mul] at this
  omega
 ·rcases Nat.lt_or_ge i n with q|q
  ·simp only[if_pos q,catF,rowAt]
   refine⟨⟨(h1 i q).1,fun j f hf=>?_⟩,(h1 i q).2⟩
   rw[Nat.zero_add,List.append_assoc,List.getElem?_append_left]
   ·exact flatN_at (fun i hi=>(h1 i hi).1.1) q hf
   ·have hj:j<e:=by have:=(List.getElem?_eq_some_iff.1 hf).1;rw[(h1 i q).1.1] at this;exact this
    rw[l1]
    have:=Nat.mul_le_mul_right e (show i+1<=n by omega)
    rw[Nat.add_mul,Nat.one_mul] at this;omega
  ·have q': ¬i<n:=by omega
   simp only[if_neg q',catF,rowAt]
   have hlt:i-n<m:=by omega
   refine⟨⟨(h2 _ hlt).1,fun j f hf=>?_⟩,(h2 _ hlt).2⟩
   have hj:j<e:=by have:=(List.getElem?_eq_some_iff.1 hf).1;rw[(h2 _ hlt).1.1] at this;exact this
   have e1:i*e=n*e+(i-n)*e:=by rw[<-Nat.add_mul];congr 1;omega
   rw[Nat.zero_add,List.append_assoc,List.getElem?_append_right (by rw[l1];omega),l1,List.getElem?_append_left]
   ·rw[show i*e+j-n*e=(i-n)*e+j by omega]
    exact flatN_at (fun i hi=>(h2 i hi).1.1) hlt hf
   ·rw[l2]
    have:=Nat.mul_le_mul_right e (show i-n+1<=m by omega)
    rw[Nat.add_mul,Nat.one_mul] at this;omega
theorem appA_ok {str:Bool} {K:AV->Os->Prop} {ty:TypeId} {pos:String} {after:Array Edge} {gu:Option (Nat×Bool)} (hti:TIok P t ti) (hti':kindS P t' str) (hx:Opn tb s 0 x u) (hy:Opn tb s 0 y v) (h:appA str ti s o d u v K):
  ∃r o',K r o'/\Mut P tb s o ⟨some d,.call ⟨.builtin .append,#[x,y],#[t,t']⟩,ty,pos,after,gu⟩ ((d,0,r)::s) o':=by
 unfold appA at h
 split at h
 ·rename_i e0 e B hel hfr
  obtain⟨hu,hs,inf,z,i1,i2,i3,i4,i5,i6⟩:=hti.el _ _ _ hel
  subst i2 i3
  split at h
  ·rename_i hB
   have hB:=Nat.le_of_ble_eq_true hB
   have h':=srcA_ok (P:=P) (tb:=tb) (s:=s) (t':=t') h
   clear h
   obtain⟨m,get2,h,hsrc⟩:=h'
   cases u with
   |nil=>
    refine⟨_,_,h.2,fun E β a w hg hd K Q hK=>?_⟩
    have hc:=tg_zero hg.tbok
    have h1:=hx.eval hg hc
    obtain⟨us2,hsr,hus⟩:=hsrc E β a w _ hg (hy.eval hg hc) hti'
    unfold rel at h1
    have hbig:=h.1
    have hmx:m<=maxLen:=by
     have:=Nat.mul_le_mul_left (2*m+192) hB
     unfold maxLen;omega
    rcases Nat.eq_zero_or_pos m with hm0|hm0
    ·subst hm0
     have hrun:(Builtin.append_ #[t,t'] ty #[.slice none 0 0,a.eval y]).run P w= .ok (.slice none 0 0) w:=by
      have hcells:=hsr.cells
      rcases hsr.kind with⟨e',hk'⟩|hk'<;>simp[Builtin.append_,run_underlying hu,run_underlying hk',sizeOf,typeInfo,i1,hsr.len]<;>(have hcells':(Builtin.firstCells inf.size 0 (a.eval y)).run P w= .ok #[] w:=by simpa[flatN] using hcells)<;>simp[hcells']
     unfold Oper.wp
     rw[run_callApp (d:=d) (pos:=pos) (after:=after) (gu:=gu) h1 rfl hrun,Oper.upon_value]
     have hadd:=hg.add (W:=⟨none,0,[],true,sub0⟩) (ob:= .row (some e0) inf.size 0 get2) (w':=w) hfr (fun k hk=>nomatch hk) List.nodup_nil rfl rfl rfl (Nat.le_refl _) (fun _ _=>rfl) fun hc=>⟨Nat.le_refl _,by omega,.inl ⟨rfl,rfl,rfl⟩⟩
     exact hK _ _ _ (hadd.put0 (d:=d) (v:= .orow d inf.size 0 0) (q:= .slice none 0 0) (hd d rfl) ⟨by rw[setB_self],by rw[setB_self];rfl⟩)
    ·have hold:(Builtin.firstCells inf.size 0 (.slice none 0 0)).run P w.drew= .ok ([]:List Value).toArray w.drew:=run_firstCells_none w.drew inf.size 0 0 0
     have hfit:Builtin.nextslicecap (0+m) 0*inf.bytes<=281474976710656:=Nat.le_trans (Nat.mul_le_mul_right _ (nextslicecap_le (by omega))) (by rw[Nat.zero_add];exact hbig)
     have hrun:=run_append_grow_src w t t' ty _ inf z hu i1 i4 none 0 0 [] hold (a.eval y) m _ hsr (by omega) (by unfold maxLen at hmx;omega) hfit
     rw[Nat.zero_add] at hrun
     unfold Oper.wp
     rw[run_callApp (d:=d) (pos:=pos) (after:=after) (gu:=gu) h1 rfl hrun,Oper.upon_value]
     have hcap:=grownCap_ge w m 0 e0
     generalize grownCap w m 0 e0=cap' at*
     have hadd:=hg.drew.add (W:=⟨some ⟨w.heap.size,0,none⟩,cap',[w.heap.size],true,sub0⟩) (ob:= .row (some e0) inf.size m get2) (w':=w.drew.alloc (.cells (([]++flatN us2 m).toArray++Builtin.zeroCells z.cells (cap'-m)) e0)) hfr
      (fun k hk=>by simp only[List.mem_singleton] at hk;subst hk;exact⟨Nat.le_refl _,by rw[heap_push];exact Nat.lt_succ_self _⟩) (by simp) rfl rfl rfl (by rw[heap_push];omega) (fun k hk=>Below.heap_alloc w.drew _ k hk)
      fun hc=>by
       have hcat:catF 0 (fun _=>[]) get2=get2:=by funext i;simp[catF]
       have:=grown_row (S:=E.good ((d,.row (some e0) inf.size m get2)::o) (setB β d ⟨some ⟨w.heap.size,0,none⟩,cap',[w.heap.size],true,sub0⟩)) (β:=setB β d ⟨some ⟨w.heap.size,0,none⟩,cap',[w.heap.size],true,sub0⟩) (W:=⟨some ⟨w.heap.size,0,none⟩,cap',[w.heap.size],true,sub0⟩) (n:=0) (m:=m) (b:=w.heap.size) (ty:=e0) (us:=fun _=>[]) (us2:=us2) (g:=fun _=>[]) (g2:=get2) (w:=w.drew.alloc (.cells (([]++flatN us2 m).toArray++Builtin.zeroCells z.cells (cap'-m)) e0)) i5 (by rw[Nat.zero_add];exact hcap) (by omega) rfl rfl rfl (by
        have:=heap_alloc_new w.drew (.cells (([]++flatN us2 m).toArray++Builtin.zeroCells z.cells (cap'-m)) e0)
        rw[Nat.zero_add];exact this) (fun i hi=>by omega) (fun i hi=>⟨(hus i hi).1,rels_mono hc _ _ (rels_mono (w:=w) (w':=w.drew) ⟨Nat.le_refl _,fun _ _ h=>⟨h,rfl⟩⟩ _ _ (hus i hi).2)⟩) (some e0) fun t0 ht=>by cases ht;rfl
       rw[hcat,Nat.zero_add] at this
       exact this
     exact hK _ _ _ (hadd.put0 (d:=d) (v:= .orow d inf.size 0 m) (q:= .slice (some ⟨w.heap.size,0,none⟩) m cap') (hd d rfl) ⟨by rw[setB_self],by rw[setB_self,Nat.zero_mul];rfl⟩)
   |orow c' e' off n=>
    simp only at h
    split at h
    ·rename_i q0 e'' N get hlk
     split at h
     ·rename_i hb
      simp only[Bool.and_eq_true] at hb
      have hb1:=Nat.eq_of_beq_eq_true hb.1
      have hb2:=Nat.eq_of_beq_eq_true hb.2
      subst hb1 hb2
      obtain⟨⟨hN,hbig⟩,h⟩:=h
      rw[addZ_eq] at hN
      refine⟨_,_,remK_ok (K:=fun o'=>K (.orow d inf.size 0 (n+m)) ((d,.row (qJ q0 e0) inf.size (n+m) (catF n (offF off get) get2))::o')) h,fun E β a w hg hd K Q hK=>?_⟩
      have hc:=tg_zero hg.tbok
      have h1:=hx.eval hg hc
      obtain⟨us2,hsr,hus⟩:=hsrc E β a w _ hg (hy.eval hg hc) hti'
      unfold rel at h1
      obtain⟨h0,h1⟩:=h1
      have hmx:n+m<=maxLen:=by
       have:=Nat.mul_le_mul_left (2*(n+m)+192) hB
       unfold maxLen;omega
      obtain⟨z1,z2,z3⟩:=hg.objs c' _ hlk
      have hrow: ∃us:Nat->List Value,(Builtin.firstCells inf.size n (.slice ((β c').a.map (·.add (off*inf.size))) n ((β c').cap-off))).run P w.drew= .ok (flatN us n).toArray w.drew/\(∀i,i<n->((us i).length=inf.size/\(us i).all (·.oneCell')=true)/\rels (E.good o β) W0 w (offF off get i) (us i)):=by
       rcases z3 with⟨y1,y2,y3⟩|⟨b,off',cells,ty',us,y1,y2,y3,y4,y5⟩
       ·have:n=0:=by omega
        subst this
        rw[y1]
        exact⟨fun _=>[],run_firstCells_none w.drew inf.size 0 0 _,fun i hi=>by omega⟩
       ·have hlt: ∀i,i<n->off+i<N:=fun i hi=>by omega
        refine⟨fun i=>us (off+i),?_,fun i hi=>⟨(y5 _ (hlt i hi)).1.1,by rw[offF_eq];exact(y5 _ (hlt i hi)).2⟩⟩
        rw[y1]
        refine(Src.ofSlice w hu _ n _ _ (flatN_len fun i hi=>(y5 _ (hlt i hi)).1.1.1) (fun j u hj=>?_) (List.all_eq_true.1 (flatN_one fun i hi=>(y5 _ (hlt i hi)).1.1.2))).cellsD
        obtain⟨i,r,g1,rfl,g3⟩:=flatN_get (fun i hi=>(y5 _ (hlt i hi)).1.1.1) hj
        show w.cell? (((⟨b,off',none⟩:Addr).add (off*inf.size)).add (i*inf.size+r))=some u
        rw[add_none,add_none,cell_blk y3,<-(y5 _ (hlt i g1)).1.2 r u g3]
        congr 1
        rw[Nat.add_mul];omega
      rcases Nat.lt_or_ge ((β c').cap-off) (n+m) with hgrow|hroom
      ·obtain⟨us,hold,husr⟩:=hrow
       have hfit:Builtin.nextslicecap (n+m) ((β c').cap-off)*inf.bytes<=281474976710656:=Nat.le_trans (Nat.mul_le_mul_right _ (nextslicecap_le hgrow)) hbig
       have hrun:=run_append_grow_src w t t' ty _ inf z hu i1 i4 ((β c').a.map (·.add (off*inf.size))) n ((β c').cap-off) _ hold (a.eval y) m _ hsr hgrow (by unfold maxLen at hmx;omega) hfit
       unfold Oper.wp
       rw[run_callApp (d:=d) (pos:=pos) (after:=after) (gu:=gu) h1 rfl hrun,Oper.upon_value]
       have hcap:=grownCap_ge w (n+m) ((β c').cap-off) e0
       generalize grownCap w (n+m) ((β c').cap-off) e0=cap' at*
       have hadd:=hg.drew.move (c:=c') (d:=d) (W:=⟨some ⟨w.heap.size,0,none⟩,cap',[w.heap.size],true,sub0⟩) (ob':= .row (qJ q0 e0) inf.size (n+m) (catF n (offF off get) get2)) (w':=w.drew.alloc (.cells ((flatN us n++flatN us2 m).toArray++Builtin.zeroCells z.cells (cap'-(n+m))) e0)) hlk hfr
        (fun k hk=>by simp only[List.mem_singleton] at hk;subst hk;exact⟨.inr (Nat.le_refl _),by rw[heap_push];exact Nat.lt_succ_self _⟩) (by simp) rfl rfl rfl (by rw[heap_push];omega) (fun k hk _=>Below.heap_alloc w.drew _ k hk)
        fun hc=>grown_row (b:=w.heap.size) (ty:=e0) (us:=us) (us2:=us2) i5 hcap hmx rfl rfl rfl (by
         have:=heap_alloc_new w.drew (.cells ((flatN us n++flatN us2 m).toArray++Builtin.zeroCells z.cells (cap'-(n+m))) e0)
         exact this) (fun i hi=>⟨(husr i hi).1,rels_mono hc _ _ (rels_mono (w:=w) (w':=w.drew) ⟨Nat.le_refl _,fun _ _ h=>⟨h,rfl⟩⟩ _ _ (husr i hi).2)⟩) (fun i hi=>⟨(hus i hi).1,rels_mono hc _ _ (rels_mono (w:=w) (w':=w.drew) ⟨Nat.le_refl _,fun _ _ h=>⟨h,rfl⟩⟩ _ _ (hus i hi).2)⟩) _ fun t0 ht=>(qJ_some ht).2
       exact hK _ _ _ (hadd.put0 (d:=d) (v:= .orow d inf.size 0 (n+m)) (q:= .slice (some ⟨w.heap.size,0,none⟩) (n+m) cap') (hd d rfl) ⟨by rw[setB_self],by rw[setB_self,Nat.zero_mul];rfl⟩)
      ·rcases z3 with⟨y1,y2,y3⟩|⟨b,off',cells,ty',us,y1,y2,y3,y4,y5⟩
       ·have hn0:n=0:=by omega
        have hm0:m=0:=by omega
        subst hn0 hm0
        rw[y1,y2] at h1
        have h1:a.eval x= .slice none 0 0:=by simpa using h1
        have hrun:(Builtin.append_ #[t,t'] ty #[.slice none 0 0,a.eval y]).run P w= .ok (.slice none 0 0) w:=by
         have hcells:=hsr.cells
         rcases hsr.kind with⟨e',hk'⟩|hk'<;>simp[Builtin.append_,run_underlying hu,run_underlying hk',sizeOf,typeInfo,i1,hsr.len]<;>(have hcells':(Builtin.firstCells inf.size 0 (a.eval y)).run P w= .ok #[] w:=by simpa[flatN] using hcells)<;>simp[hcells']
        unfold Oper.wp
        rw[run_callApp (d:=d) (pos:=pos) (after:=after) (gu:=gu) h1 rfl hrun,Oper.upon_value]
        have hadd:=hg.move (c:=c') (d:=d) (W:=⟨none,0,[],true,sub0⟩) (ob':= .row (qJ q0 e0) inf.size (0+0) (catF 0 (offF off get) get2)) (w':=w) hlk hfr (fun k hk=>nomatch hk) List.nodup_nil rfl rfl rfl (Nat.le_refl _) (fun _ _ _=>rfl) fun hc=>⟨Nat.le_refl _,by omega,.inl ⟨rfl,rfl,rfl⟩⟩
        exact hK _ _ _ (hadd.put0 (d:=d) (v:= .orow d inf.size 0 (0+0)) (q:= .slice none 0 0) (hd d rfl) ⟨by rw[setB_self],by rw[setB_self];rfl⟩)
       ·rw[y1] at h1
        have h1:a.eval x= .slice (some ⟨b,off'+off*inf.size,none⟩) n ((β c').cap-off):=by rw[h1];show Value.slice (some ((⟨b,off',none⟩:Addr).add (off*inf.size))) _ _=_;rw[add_none]
        have hone':(flatN us2 m).all (·.oneCell')=true:=flatN_one fun i hi=>(hus i hi).1.2
        have l2:=flatN_len (us:=us2) (e:=inf.size) fun i hi=>(hus i hi).1.1
        have hfits:off'+off*inf.size+n*inf.size+m*inf.size<=cells.length:=by
         have:=Nat.mul_le_mul_right inf.size (show off+n+m<=(β c').cap by omega)
         rw[Nat.add_mul,Nat.add_mul] at this
         omega
        obtain⟨w',hr,e1,e2,e3,e4,e5,e6⟩:=run_storeCells_blk (P:=P) b ty' (flatN us2 m) 0 (off'+off*inf.size+n*inf.size) cells w y3 (by rw[l2];omega) hone'
        have hrun:(Builtin.append_ #[t,t'] ty #[.slice (some ⟨b,off'+off*inf.size,none⟩) n ((β c').cap-off),a.eval y]).run P w= .ok (.slice (some ⟨b,off'+off*inf.size,none⟩) (n+m) ((β c').cap-off)) w':=by
         rcases hsr.kind with⟨e',hk'⟩|hk'<;>simp[Builtin.append_,run_underlying hu,run_underlying hk',sizeOf,typeInfo,i1,hsr.len,hroom,hsr.cells,Addr.add_lit,hr]
        unfold Oper.wp
        rw[run_callApp (d:=d) (pos:=pos) (after:=after) (gu:=gu) h1 rfl hrun,Oper.upon_value]
        have hfoot: ∀k,k∈[b]->k=b:=fun k hk=>by simpa using hk
        have hadd:=hg.move (c:=c') (d:=d) (W:=⟨some ⟨b,off'+off*inf.size,none⟩,(β c').cap-off,[b],true,sub0⟩) (ob':= .row (qJ q0 e0) inf.size (n+m) (catF n (offF off get) get2)) (w':=w') hlk hfr
         (fun k hk=>by
          have hkb:=hfoot k hk
          have hbf:b∈(β c').foot:=by rw[y2];simp
          subst hkb
          exact⟨.inl hbf,by rw[e4];exact(hg.new k (foot_feet hlk k hbf)).2⟩) (by simp) e1 e2 e3 (by omega) (fun k hk hnk=>e6 k fun e=>hnk (by rw[y2,e];simp))
         fun hc=>by
          have hsp:=splice_get cells (off'+off*inf.size+n*inf.size+0) (flatN us2 m)
          refine⟨hroom,hmx,.inr ⟨b,off'+off*inf.size,splice cells (off'+off*inf.size+n*inf.size+0) (flatN us2 m),ty',fun i=>if i<n then us (off+i) else us2 (i-n),rfl,rfl,e5,?_,fun i hi=>?_⟩⟩
          ·refine⟨?_,fun t0 ht=>y4.2 t0 (qJ_some ht).1⟩
           rw[splice_length,Nat.sub_mul]
           have y41:=y4.1
           have:=Nat.mul_le_mul_right inf.size (show off<=(β c').cap by omega)
           omega
          ·rcases Nat.lt_or_ge i n with q|q
           ·simp only[if_pos q,catF,rowAt]
            obtain⟨⟨r1,r2⟩,r3⟩:=y5 (off+i) (by omega)
            refine⟨⟨r1,fun j f hf=>?_⟩,by rw[offF_eq];exact rels_mono hc _ _ r3⟩
            have hj:j<inf.size:=by have:=(List.getElem?_eq_some_iff.1 hf).1;rw[r1.1] at this;exact this
            have h9:=Nat.mul_le_mul_right inf.size (show i+1<=n by omega)
            rw[Nat.add_mul,Nat.one_mul] at h9
            rw[hsp _ (by rw[l2];omega),if_neg (by omega),<-r2 j f hf]
            congr 1
            rw[Nat.add_mul];omega
           ·have q': ¬i<n:=by omega
            simp only[if_neg q',catF,rowAt]
            have hlt:i-n<m:=by omega
            refine⟨⟨(hus _ hlt).1,fun j f hf=>?_⟩,rels_mono hc _ _ (hus _ hlt).2⟩
            have hj:j<inf.size:=by have:=(List.getElem?_eq_some_iff.1 hf).1;rw[(hus _ hlt).1.1] at this;exact this
            have e7:i*inf.size=n*inf.size+(i-n)*inf.size:=by rw[<-Nat.add_mul];congr 1;omega
            have h9:=Nat.mul_le_mul_right inf.size (show i-n+1<=m by omega)
            rw[Nat.add_mul,Nat.one_mul] at h9
            rw[hsp _ (by rw[l2];omega),if_pos (by rw[l2];omega)]
            rw[show off'+off*inf.size+i*inf.size+j-(off'+off*inf.size+n*inf.size+0)=(i-n)*inf.size+j by omega]
            exact flatN_at (fun i hi=>(hus i hi).1.1) hlt hf
        exact hK _ _ _ (hadd.put0 (d:=d) (v:= .orow d inf.size 0 (n+m)) (q:= .slice (some ⟨b,off'+off*inf.size,none⟩) (n+m) ((β c').cap-off)) (hd d rfl) ⟨by rw[setB_self],by rw[setB_self,Nat.zero_mul];rfl⟩)
     ·cases h
    ·cases h
   |_=>cases h
  ·cases h
 ·cases h
end
section
variable {P:Program} {T:TT} {tb:Tb} {s:Sl} {o:Os} {c d:Nat} {t t':TypeId} {ti:TI} {x y:Operand} {v u p:AV}
def bldK (tb:Tb) (s:Sl) (c:Nat) (offs:List (Nat×Nat)):List (Nat×Operand)->List AV->(List AV->Prop)->Prop
 |[],cs,K=>K cs
 |(i,x)::ps,cs,K=>match nthN i offs with
  |some (off,sz)=>get tb s c x fun v=>match stor v with
   |true=>cellsK v fun vs=>match Nat.beq vs.length sz&&Nat.ble (off+sz) cs.length with
    |true=>exactK cs.length [] (splice cs off vs) fun cs=>bldK tb s c offs ps cs K
    |false=>False
   |false=>False
  |none=>False
theorem bldK_ok {offs:List (Nat×Nat)}: ∀ {ps:List (Nat×Operand)} {cs:List AV} {K:List AV->Prop},bldK tb s c offs ps cs K-> ∃cs',K cs'/\ ∀(S:Nat->Prop) (β:Nat->Wt) (w:World) (a:Act) (us:List Value),(∀x v,x∈ps.map (·.2)->Opn tb s c x v->rel S β w v (a.eval x))->rels S β w cs us->
   ∃us',fills (fun j=>offs[j]?) us (ps.map fun q=>(q.1,a.eval q.2))=some us'/\rels S β w cs' us'
 |[],cs,K,h=>⟨cs,h,fun S β w a us _ hr=>⟨us,rfl,hr⟩⟩
 |(i,x)::ps,cs,K,h=>by
  simp only[bldK] at h
  split at h
  ·rename_i off sz hn
   rw[nthN_eq] at hn
   obtain⟨v,h,hx⟩:=get_ok h
   split at h
   ·rename_i hst
    obtain⟨vs,h,hvs⟩:=cellsK_ok h
    split at h
    ·rename_i hb
     simp only[Bool.and_eq_true] at hb
     have hb1:=Nat.eq_of_beq_eq_true hb.1
     have hb2:=Nat.le_of_ble_eq_true hb.2
     obtain⟨_,h⟩:=exactK_ok h
     obtain⟨cs',h1,h2⟩:=bldK_ok (ps:=ps) h
     refine⟨cs',h1,fun S β w a us ha hr=>?_⟩
     have hv:=ha x v (by simp) hx
     have hvr:=hvs _ _ _ _ hv (stor_or hst)
     have hlen:=rels_len hvr
     have e1:(a.eval x).cells.size=sz:=by rw[<-hb1,<-hlen];simp
     obtain⟨us',h3,h4⟩:=h2 S β w a (splice us off (a.eval x).cells.toList) (fun x' v' hx'=>ha x' v' (by simp at hx'⊢;exact .inr hx')) (by
      have:=rels_splice (n:=off) hr hvr (by rw[hb1];exact hb2)
      simpa using this)
     refine⟨us',?_,h4⟩
     rw[List.map_cons]
     simp only[fills,hn]
     have c1:Nat.beq (a.eval x).cells.size sz=true:=by rw[e1];exact Nat.beq_refl _
     have c2:Nat.ble (off+sz) us.length=true:=Nat.ble_eq_true_of_le (by rw[rels_len hr];exact hb2)
     rw[c1,c2]
     exact h3
    ·cases h
   ·cases h
  ·cases h
def bldA (ti:TI) (tb:Tb) (s:Sl) (c:Nat) (ps:List (Nat×Operand)) (K:AV->Prop):Prop:=match ti.bld with
 |true=>bldK tb s c ti.offs ps (ti.zero.map constC) fun cs=>K (.agg cs)
 |false=>False
theorem bldA_ok {ps:List (Nat×Operand)} {K:AV->Prop} (hti:TIok P t ti) (h:bldA ti tb s c ps K): ∃r,K r/\Val P tb s o c (.build t ps.toArray) r:=by
 unfold bldA at h
 split at h
 ·rename_i hb
  obtain⟨cs',h1,h2⟩:=bldK_ok h
  refine⟨_,h1,fun E tb' s' o' β a w he hs ho hg hc hc' d ty pos after gu=>?_⟩
  obtain⟨us',h3,h4⟩:=h2 (E.good o' β) β w a ti.zero (fun x v hx hv=>(hv.to he (hs x (by simp[Op.operands];simpa using hx))).eval hg hc') (constCs_rel _)
  refine⟨_,?_,us',rfl,h4⟩
  simp only[execOp]
  refine run_next ?_
  have:=hti.bld hb _ _ h3 w
  simpa using this
 ·cases h
def capK (tb:Tb) (s:Sl) (c:Nat):List Operand->(List AV->Prop)->Prop
 |[],K=>K []
 |x::xs,K=>get tb s c x fun v=>forceK v fun v=>capK tb s c xs fun vs=>K (v::vs)
theorem capK_ok: ∀ {xs:List Operand} {K:List AV->Prop},capK tb s c xs K-> ∃vs,K vs/\ ∀(S:Nat->Prop) (β:Nat->Wt) (w:World) (a:Act),(∀x v,x∈xs->Opn tb s c x v->rel S β w v (a.eval x))->rels S β w vs (xs.map a.eval)
 |[],K,h=>⟨[],h,fun S β w a _=>rfl⟩
 |x::xs,K,h=>by
  simp only[capK] at h
  obtain⟨v,h,hx⟩:=get_ok h
  have h:=force_ok h
  obtain⟨vs,h1,h2⟩:=capK_ok (xs:=xs) h
  exact⟨_,h1,fun S β w a ha=>⟨_,_,rfl,ha x v (by simp) hx,h2 S β w a fun x' v' hx'=>ha x' v' (List.mem_cons_of_mem _ hx')⟩⟩
def funA (tb:Tb) (s:Sl) (c:Nat) (fn:Fn) (first:List Operand) (caps:List Operand) (K:AV->Prop):Prop:=match fn with
 | .func f=>match Nat.ble 1048576 f with
  |true=>False
  |false=>match first with
   |[]=>capK tb s c caps fun vs=>K (.clo f vs)
   |x::xs=>capK tb s c (x::xs) fun bs=>capK tb s c caps fun vs=>K (.clo (Nat.add f (Nat.mul 1048576 bs.length)) (bs++vs))
 |_=>False
theorem funA_ok {fn:Fn} {first caps:List Operand} {K:AV->Prop} (h:funA tb s c fn first caps K): ∃r,K r/\Val P tb s o c (.makeFunc fn first.toArray caps.toArray) r:=by
 unfold funA at h
 split at h
 ·rename_i f
  split at h
  ·cases h
  ·rename_i hb
   have hlt:f<1048576:=Nat.lt_of_not_le fun q=>by rw[Nat.ble_eq_true_of_le q] at hb;cases hb
   split at h
   ·obtain⟨vs,h1,h2⟩:=capK_ok h
    refine⟨_,h1,fun E tb' s' o' β a w he hs ho hg hc hc' d ty pos after gu=>?_⟩
    have:=h2 (E.good o' β) β w a fun x v hx hv=>(hv.to he (hs x (by simp[Op.operands];exact hx))).eval hg hc'
    refine⟨.func (.func f) #[] (caps.map a.eval).toArray,?_,caps.map a.eval,?_,this⟩
    ·simp[execOp,Instr.makeFunc]
    ·rw[(cloF_eq hb).1,(cloF_eq hb).2];rfl
   ·rename_i x xs
    obtain⟨bs,h,h3⟩:=capK_ok h
    obtain⟨vs,h1,h2⟩:=capK_ok h
    refine⟨_,h1,fun E tb' s' o' β a w he hs ho hg hc hc' d ty pos after gu=>?_⟩
    have q3:=h3 (E.good o' β) β w a fun y v hx hv=>(hv.to he (hs y (by simp only[Op.operands,List.mem_append,Array.mem_toList_iff,Array.toList_append,Array.mem_append,List.mem_toArray];exact .inl hx))).eval hg hc'
    have q2:=h2 (E.good o' β) β w a fun y v hx hv=>(hv.to he (hs y (by simp only[Op.operands,List.mem_append,Array.mem_toList_iff,Array.toList_append,Array.mem_append,List.mem_toArray];exact .inr hx))).eval hg hc'
    have hl:=rels_len q3
    refine⟨.func (.func f) ((x::xs).map a.eval).toArray (caps.map a.eval).toArray,?_,(x::xs).map a.eval++caps.map a.eval,?_,rels_app q3 q2⟩
    ·simp[execOp,Instr.makeFunc]
    ·have key: ∀a b:Nat,a<1048576->(a+1048576*b) % 1048576=a/\(a+1048576*b)/1048576=b:=fun a b h=>by omega
     have e1:cloF (f+1048576*bs.length)=f:=(key _ _ hlt).1
     have e2:cloK (f+1048576*bs.length)=bs.length:=(key _ _ hlt).2
     show _=Value.func (.func (cloF (f+1048576*bs.length))) (List.take (cloK (f+1048576*bs.length)) _).toArray (List.drop (cloK (f+1048576*bs.length)) _).toArray
     rw[e1,e2,List.take_left' hl,List.drop_left' hl]
 ·cases h
def chkA (v:AV) (K:AV->Prop):Prop:=match v with
 | .cp cs=>K (.cp cs)
 | .op a b=>K (.op a b)
 | .rp a b c d=>K (.rp a b c d)
 | .pp a b c d e=>K (.pp a b c d e)
 | .clo f cs=>K (.clo f cs)
 |_=>False
theorem chkA_ok {K:AV->Prop} (hx:Opn tb s c x v) (h:chkA v K):K v/\Val P tb s o c (.nilCheck x) v:=by
 have hm:x∈(Op.nilCheck x).operands:=by simp[Op.operands]
 cases v with
 |cp cs=>
  refine⟨h,Val.un hx hm fun S β w a hc h d ty pos after gu=>?_⟩
  have h':=h
  unfold rel at h
  obtain⟨ad,us,e,_⟩:=h
  exact⟨_,by simp only[execOp,e];rfl,by rw[<-e];exact h'⟩
 |op id off=>
  refine⟨h,Val.un hx hm fun S β w a hc h d ty pos after gu=>?_⟩
  have h':=h
  unfold rel at h
  obtain⟨_,b,_,e⟩:=h
  exact⟨_,by simp only[execOp,e];rfl,by rw[<-e];exact h'⟩
 |rp id e i j=>
  refine⟨h,Val.un hx hm fun S β w a hc h d ty pos after gu=>?_⟩
  have h':=h
  unfold rel at h
  obtain⟨_,b,_,e⟩:=h
  exact⟨_,by simp only[execOp,e];rfl,by rw[<-e];exact h'⟩
 |pp id p e i j=>
  refine⟨h,Val.un hx hm fun S β w a hc h d ty pos after gu=>?_⟩
  have h':=h
  unfold rel at h
  obtain⟨_,b,_,e⟩:=h
  exact⟨_,by simp only[execOp,e];rfl,by rw[<-e];exact h'⟩
 |clo f cs=>
  refine⟨h,Val.un hx hm fun S β w a hc h d ty pos after gu=>?_⟩
  have h':=h
  unfold rel at h
  obtain⟨us,e,_⟩:=h
  exact⟨_,by simp only[execOp,e];rfl,by rw[<-e];exact h'⟩
 |_=>cases h
def lAt:List (List AV)->Nat->List AV
 |[],_=>[]
 |x::_,0=>x
 |_::l,i+1=>lAt l i
theorem lAt_eq: ∀(l:List (List AV)) (i:Nat),lAt l i=l.getD i []
 |[],_=>rfl
 |_::_,0=>rfl
 |x::l,i+1=>by rw[lAt,lAt_eq l i];simp
def litF (l:List (List AV)):Nat->List AV:=match l with
 |[x]=>fun _=>x
 |l=>lAt l
def litK (tb:Tb) (s:Sl) (c e:Nat):Nat->List (Nat×Operand)->(List (List AV)->Prop)->Prop
 |_,[],K=>K []
 |k,(i,x)::ps,K=>match Nat.beq i k with
  |true=>get tb s c x fun v=>match stor v&&noOwn v with
   |true=>cellsK v fun vs=>exactK e [] vs fun vs=>litK tb s c e (k+1) ps fun r=>K (vs::r)
   |false=>False
  |false=>False
theorem litK_ok {e:Nat}: ∀ {ps:List (Nat×Operand)} {k:Nat} {K:List (List AV)->Prop},litK tb s c e k ps K-> ∃cs,K cs/\cs.length=ps.length/\ ∀(S:Nat->Prop) (β:Nat->Wt) (w:World) (a:Act),(∀x v,x∈ps.map (·.2)->Opn tb s c x v->rel S β w v (a.eval x))->
   ∃us:List (List Value),us.length=cs.length/\dense e k (ps.map fun q=>(q.1,a.eval q.2)) us.flatten/\ ∀i,i<cs.length->((us.getD i []).length=e/\(us.getD i []).all (·.oneCell')=true)/\rels S W0 w (cs.getD i []) (us.getD i [])
 |[],k,K,h=>⟨[],h,rfl,fun S β w a _=>⟨[],rfl,by simp[dense],fun i hi=>by simp at hi⟩⟩
 |(i,x)::ps,k,K,h=>by
  simp only[litK] at h
  split at h
  ·rename_i hk
   have hk:=Nat.eq_of_beq_eq_true hk
   obtain⟨v,h,hx⟩:=get_ok h
   split at h
   ·rename_i hb
    simp only[Bool.and_eq_true] at hb
    obtain⟨vs,h,hvs⟩:=cellsK_ok h
    obtain⟨he,h⟩:=exactK_ok h
    obtain⟨cs,h1,hl,h2⟩:=litK_ok (ps:=ps) h
    refine⟨_,h1,by simp[hl],fun S β w a ha=>?_⟩
    have hv:=ha x v (by simp) hx
    have hvr:=hvs _ _ _ _ (noOwn_rel hb.2 hv) (stor_or hb.1)
    obtain⟨us,g1,g2,g3⟩:=h2 S β w a fun x' v' hx'=>ha x' v' (by simp at hx'⊢;exact .inr hx')
    have hlen:=rels_len hvr
    refine⟨(a.eval x).cells.toList::us,by simp[g1],⟨hk,by rw[he,<-hlen];simp,_,rfl,g2⟩,fun j hj=>?_⟩
    cases j with
    |zero=>
     simp only[List.getD_cons_zero]
     exact⟨⟨by rw[hlen,he],stor_one hb.1 hv⟩,by simpa using hvr⟩
    |succ j=>
     simp only[List.getD_cons_succ]
     exact g3 j (by simp at hj⊢;omega)
   ·cases h
  ·cases h
def litA (ti:TI) (tb:Tb) (s:Sl) (c n:Nat) (ps:List (Nat×Operand)) (K:AV->Prop):Prop:=match ti.el with
 |some (_,e,_)=>match Nat.beq ps.length n&&Nat.ble (n*e) 16777216&&Nat.ble n 16777216 with
  |true=>litK tb s c e 0 ps fun cs=>K (.row (some true) e n (litF cs))
  |false=>False
 |none=>False
theorem flat_eq: ∀us:List (List Value),us.flatten=flatN (fun i=>us.getD i []) us.length:=fun us=>by
 unfold flatN
 rw[List.flatMap_def]
 congr 1
 refine List.ext_getElem (by simp) fun i h1 h2=>?_
 simp[h1]
theorem litF_eq (l:List (List AV)) (i:Nat) (hi:i<l.length):litF l i=l.getD i []:=by
 unfold litF
 split
 ·have:i=0:=by simp at hi;omega
  subst this;rfl
 ·exact lAt_eq _ _
theorem run_lit {e e0 B n:Nat} {ps:List (Nat×Operand)} {ρ:Operand->Value} {us:List (List Value)} (hti:TIok P t ti) (hel:ti.el=some (e0,e,B)) (hn:ps.length=n) (hl:n*e<=16777216) (hd:dense e 0 (ps.map fun q=>(q.1,ρ q.2)) us.flatten) (w:World) {d ty pos after gu}:
  (execOp ρ ⟨d,.buildSlice t n ps.toArray,ty,pos,after,gu⟩).run P w= .ok (.value (.slice (some ⟨w.heap.size,0,none⟩) n n)) (w.alloc (.cells us.flatten.toArray e0)):=by
 obtain⟨hu,hs,inf,z,i1,i2,i3,i4,i5,i6⟩:=hti.el _ _ _ hel
 subst i2
 have hz: ∀w,(zeroValue e0).run P w= .ok z w:=fun w=>by simp[zeroValue,typeInfo,i1,i4]
 have key: ∀zs:Array Value,zs.size=n*inf.size->Instr.fill (fun i=>some (i*inf.size,inf.size)) zs (ps.map fun q=>(q.1,ρ q.2))=some us.flatten.toArray:=fun zs h=>by
  have:=dense_fill _ 0 _ [] zs.toList hd (by simp) (by simpa[hn] using h)
  simpa using fills_eq _ _ _ _ this
 simp only[execOp]
 refine run_next ?_
 unfold Instr.buildSlice
 have hlim': ¬(n*inf.size>2^24):=by omega
 have hm:(ps.toArray.map fun(i,x)=>(i,ρ x)).toList=ps.map fun q=>(q.1,ρ q.2):=by simp
 simp only[Sem.run_bind,Result.andThen,run_underlying hu,hs,hlim',if_false]
 split
 ·simp only[Sem.run_bind,Sem.run_pure,Result.andThen]
  rw[hm,key _ (by simp)]
  simp only[Sem.run_bind,Result.andThen,newRow,run_newObj_alloc]
  rfl
 ·simp only[Sem.run_bind,Sem.run_pure,Result.andThen,hz]
  rw[hm,key _ (by simp)]
  simp only[Sem.run_bind,Result.andThen,newRow,run_newObj_alloc]
  rfl
theorem litA_ok {n:Nat} {dst:Option Nat} {ps:List (Nat×Operand)} {K:AV->Prop} (hti:TIok P t ti) (h:litA ti tb s c n ps K): ∃r,K r/\Add P tb s o c dst (.buildSlice t n ps.toArray) r []:=by
 unfold litA at h
 split at h
 ·rename_i e0 e B hel
  split at h
  ·rename_i hb
   simp only[Bool.and_eq_true] at hb
   have hb1:=Nat.eq_of_beq_eq_true hb.1.1
   have hb2:=Nat.le_of_ble_eq_true hb.1.2
   have hb3:=Nat.le_of_ble_eq_true hb.2
   obtain⟨cs,h1,hl,h2⟩:=litK_ok h
   refine⟨_,h1,fun E tb' s' o' β a w he hs ho hf hg hc hc' ty pos after gu K Q hK=>?_⟩
   obtain⟨us,g1,g2,g3⟩:=h2 (E.good o' β) β w a fun x v hx hv=>(hv.to he (hs x (by simp[Op.operands];simpa using hx))).eval hg hc'
   have hrun:=run_lit (d:=dst) (ty:=ty) (pos:=pos) (after:=after) (gu:=gu) hti hel hb1 hb2 g2 w
   unfold Oper.wp
   rw[hrun,Oper.upon_value]
   have hw':=hg.world (w':=w.alloc (.cells us.flatten.toArray e0)) rfl rfl rfl (by rw[heap_push];omega) fun k hk=>Below.heap_alloc w _ k hk
   refine hK _ _ β hw' ⟨_,_,fun i=>us.getD i [],rfl,(fun z hz=>by cases hz;rfl),?_,fun i hi=>⟨⟨_,rfl,?_⟩,(g3 i (by omega)).1,?_⟩⟩
   ·unfold maxLen;omega
   ·intro w'' hz hq j u hj
    have hgood:E.good o' β w.heap.size:=⟨.inr (.inl hg.below.size),fun hm=>by have:=(hg.new _ hm).2;omega⟩
    have hb:=(hq w.heap.size (by rw[heap_push];omega) hgood).trans (heap_alloc_new w _)
    rw[add_none,add_none,cell_blk hb,flat_eq,Nat.zero_add]
    exact flatN_at (fun i hi=>(g3 i (by omega)).1.1) (by omega) hj
   ·rw[litF_eq _ _ (by omega)]
    exact rels_mono (S:=E.good o' β) (w:=w) ⟨by rw[heap_push];omega,fun k hk hg=>⟨hg,Below.heap_alloc w _ k hk⟩⟩ _ _ (g3 i (by omega)).2
  ·cases h
 ·cases h
def makA (ti:TI) (d:Nat) (zero:List AV) (u v:AV) (K:AV->Os->Prop):Prop:=match ti.el,u,v with
 |some (_,e,B),.i _ m,.i _ m'=>(0<=m/\m'=m/\B*m.toNat<=281474976710656/\m<=9223372036854775807)/\K (.orow d e 0 m.toNat) [(d,.row none e m.toNat fun _=>zero)]
 |_,_,_=>False
theorem zeros_at (zs:List Value) (c:Nat) {i j:Nat} {u:Value} (hi:i<c) (hj:zs[j]?=some u):(madeCells zs.toArray (c*zs.length)).toList[i*zs.length+j]?=some u:=by
 have hjl:j<zs.length:=(List.getElem?_eq_some_iff.1 hj).1
 have hlt:i*zs.length+j<c*zs.length:=by
  have:=Nat.mul_le_mul_right zs.length (show i+1<=c by omega)
  rw[Nat.add_mul,Nat.one_mul] at this;omega
 have hm:(i*zs.length+j) % zs.length=j:=by
  rw[Nat.add_comm,Nat.add_mul_mod_self_right];exact Nat.mod_eq_of_lt hjl
 have e:zs[j]'hjl=u:=by rw[List.getElem?_eq_getElem hjl] at hj;exact Option.some.inj hj
 simp[madeCells,hlt,hm,hjl,e]
theorem makA_ok {d:Nat} {dst:Option Nat} {ti':TI} {K:AV->Os->Prop} (hti:TIok P t ti) (hti': ∀e n b,ti.el=some (e,n,b)->TIok P e ti') (hz':ti'.zero≠[]) (hx:Opn tb s c x u) (hy:Opn tb s c y v) (h:makA ti d (ti'.zero.map constC) u v K): ∃r no,K r no/\Add P tb s o c dst (.makeSlice t x y) r no:=by
 unfold makA at h
 split at h
 ·rename_i e0 e B k m k' m' hel
  obtain⟨⟨h0,rfl,hB,h63⟩,h⟩:=h
  refine⟨_,_,h,fun E tb' s' o' β a w he hs ho hf hg hc hc' ty pos after gu K Q hK=>?_⟩
  obtain⟨hu,hs',inf,z,i1,i2,i3,i4,i5,i6⟩:=hti.el _ _ _ hel
  subst i2 i3
  obtain⟨⟨z',q1,q2⟩,q3,q4⟩:=(hti' _ _ _ hel).zero hz'
  have hzz:z'=z:=by
   have:=q1 w
   simp[zeroValue,typeInfo,i1,i4] at this
   exact this.symm
  subst hzz
  have h1:=(hx.to he (hs x (by simp[Op.operands]))).eval hg hc'
  have h2:=(hy.to he (hs y (by simp[Op.operands]))).eval hg hc'
  unfold rel at h1 h2
  have hlen:ti'.zero.length=inf.size:=by rw[<-q2,<-i5];simp
  have hrun:(execOp a.eval ⟨dst,.makeSlice t x y,ty,pos,after,gu⟩).run P w= .ok (.value (.slice (some ⟨w.heap.size,0,none⟩) m'.toNat m'.toNat)) (w.alloc (.cells (madeCells z'.cells (m'.toNat*inf.size)) e0)):=by
   simp only[execOp,h1,h2]
   refine run_next (run_make w t e0 inf z' hu i1 i4 k k' m' m' h0 (Int.le_refl _) ?_ h63)
   have:((inf.bytes*m'.toNat:Nat):Int)<=((281474976710656:Nat):Int):=Int.ofNat_le.2 hB
   rw[Int.natCast_mul,Int.toNat_of_nonneg h0] at this
   exact this
  unfold Oper.wp
  rw[hrun,Oper.upon_value]
  have hadd:=hg.add (d:=d) (W:=⟨some ⟨w.heap.size,0,none⟩,m'.toNat,[w.heap.size],true,sub0⟩) (ob:= .row none inf.size m'.toNat fun _=>ti'.zero.map constC) (w':=w.alloc (.cells (madeCells z'.cells (m'.toNat*inf.size)) e0)) (hf (d,_) (List.mem_singleton.2 rfl))
   (fun k hk=>by simp only[List.mem_singleton] at hk;subst hk;exact⟨Nat.le_refl _,by rw[heap_push];exact Nat.lt_succ_self _⟩) (by simp) rfl rfl rfl (by rw[heap_push];omega) (fun k hk=>Below.heap_alloc w _ k hk)
   fun hc=>⟨Nat.le_refl _,by unfold maxLen;omega,.inr ⟨w.heap.size,0,(madeCells z'.cells (m'.toNat*inf.size)).toList,e0,fun _=>ti'.zero,rfl,rfl,by
    rw[Array.toArray_toList];exact heap_alloc_new w _,by simp[size_madeCells],fun i hi=>⟨⟨⟨hlen,q4⟩,fun j u hj=>by
     rw[Nat.zero_add,<-hlen,show z'.cells=ti'.zero.toArray by rw[<-q2]]
     exact zeros_at _ _ hi hj⟩,constCs_rel _⟩⟩⟩
  exact hK _ _ _ hadd ⟨by rw[setB_self],by rw[setB_self,Nat.zero_mul];rfl⟩
 ·cases h
end
theorem treeDs_at {S:Nat->Prop} {w:World} {sb:Sub} {p:Pth} {i:Nat} {x:AV}: ∀ {cs:List AV} {j0 j:Nat} {us:List Value} {F:List Nat},treeDs S w sb cs p i j0 us F->cs[j]?=some x->
  ∃ux Fx A B,us[j]?=some ux/\F=A++(Fx++B)/\treeD S w sb x (p++[(i,j0+j)]) ux Fx/\
   ∀(S':Nat->Prop) (w':World) (sb':Sub) (x':AV) (ux':Value) (Fx':List Nat),Comp S w S' w'->(∀k∈A++B,w'.heap[k]?=w.heap[k]?)->(∀c r,c≠j0+j->sb' (p++(i,c)::r)=sb (p++(i,c)::r))->
    treeD S' w' sb' x' (p++[(i,j0+j)]) ux' Fx'->treeDs S' w' sb' (cs.set j x') p i j0 (us.set j ux') (A++(Fx'++B))
 |[],j0,j,us,F,h,hx=>by simp at hx
 |v::vs,j0,0,us,F,h,hx=>by
  unfold treeDs at h
  obtain⟨u,us',F1,F2,rfl,rfl,h1,h2⟩:=h
  simp only[List.getElem?_cons_zero,Option.some.injEq] at hx
  subst hx
  refine⟨u,F1,[],F2,rfl,rfl,h1,fun S' w' sb' x' ux' Fx' hc hF hs hx'=>?_⟩
  exact⟨ux',us',Fx',F2,rfl,rfl,hx',treeDs_mono hc vs p i (j0+1) us' F2 hF (fun c r hcj=>hs c r (by omega)) h2⟩
 |v::vs,j0,j+1,us,F,h,hx=>by
  unfold treeDs at h
  obtain⟨u,us',F1,F2,rfl,rfl,h1,h2⟩:=h
  obtain⟨ux,Fx,A,B,g1,rfl,g3,g4⟩:=treeDs_at h2 (by simpa using hx)
  refine⟨ux,Fx,F1++A,B,by simpa using g1,by simp[List.append_assoc],by rw[show j0+(j+1)=j0+1+j by omega];exact g3,fun S' w' sb' x' ux' Fx' hc hF hs hx'=>?_⟩
  refine⟨u,us'.set j ux',F1,A++(Fx'++B),rfl,by simp[List.append_assoc],?_,?_⟩
  ·exact treeD_mono hc v _ u F1 (fun k hk=>hF k (by simp[hk])) (fun r=>by rw[List.append_assoc];exact hs j0 r (by omega)) h1
  ·refine g4 S' w' sb' x' ux' Fx' hc (fun k hk=>hF k (by simp at hk⊢;rcases hk with hk|hk<;>simp[hk])) (fun c r hcj=>hs c r (by omega)) ?_
   rw[show j0+1+j=j0+(j+1) by omega];exact hx'
theorem treeDs_len {S:Nat->Prop} {w:World} {sb:Sub} {p:Pth} {i:Nat}: ∀ {cs:List AV} {j:Nat} {us:List Value} {F:List Nat},treeDs S w sb cs p i j us F->us.length=cs.length
 |[],j,us,F,h=>by unfold treeDs at h;rw[h.1];rfl
 |v::vs,j,us,F,h=>by
  unfold treeDs at h
  obtain⟨u,us',F1,F2,rfl,rfl,h1,h2⟩:=h
  simp[treeDs_len h2]
def setC (get:Nat->List AV) (i j:Nat) (x:AV):Nat->List AV:=fun k=>if k=i then(get i).set j x else get k
theorem idx_ne {e a b i j:Nat} (ha:a<e) (hb:b<e) (h:i≠j\/a≠b):i*e+a≠j*e+b:=by
 rcases Nat.lt_trichotomy i j with q|q|q
 ·have:(i+1)*e<=j*e:=Nat.mul_le_mul_right e q
  rw[Nat.succ_mul] at this;omega
 ·subst q;omega
 ·have:(j+1)*e<=i*e:=Nat.mul_le_mul_right e q
  rw[Nat.succ_mul] at this;omega
theorem node_at {S:Nat->Prop} {w:World} {sb:Sub} {p:Pth} {nz:Option Bool} {e n:Nat} {get:Nat->List AV} {u:Value} {F:List Nat} {i j:Nat} {x:AV} (h:treeD S w sb (.row nz e n get) p u F) (hi:i<n) (hx:(get i)[j]?=some x):
  ∃b off cells ty ux Fx A B,(sb p).1=some ⟨b,off,none⟩/\w.heap[b]?=some (.cells (cells:List Value).toArray ty (0,0))/\off+(sb p).2*e<=cells.length/\j<e/\i<(sb p).2/\cells[off+i*e+j]?=some ux/\ux.oneCell'=true/\F=b::(A++(Fx++B))/\treeD S w sb x (p++[(i,j)]) ux Fx/\
   ∀(S':Nat->Prop) (w':World) (sb':Sub) (x':AV) (ux':Value) (Fx':List Nat),Comp S w S' w'->(∀k∈A++B,w'.heap[k]?=w.heap[k]?)->w'.heap[b]?=some (.cells (cells.set (off+i*e+j) ux').toArray ty (0,0))->ux'.oneCell'=true->sb' p=sb p->
    (∀i' c r,i'≠i\/c≠j->sb' (p++(i',c)::r)=sb (p++(i',c)::r))->treeD S' w' sb' x' (p++[(i,j)]) ux' Fx'->treeD S' w' sb' (.row nz e n (setC get i j x')) p u (b::(A++(Fx'++B))):=by
 unfold treeD at h
 obtain⟨h1,h2,h3,h4⟩:=h
 rcases h4 with⟨g1,g2,g3⟩|⟨b,off,cells,ty,us,FS,g1,rfl,g3,g4,g5⟩
 ·omega
 obtain⟨⟨⟨r1,r2⟩,r3⟩,r4⟩:=g5 i hi
 obtain⟨ux,Fx,A,B,a1,a2,a3,a4⟩:=treeDs_at r4 hx
 rw[Nat.zero_add] at a3 a4
 have hjl:j<(us i).length:=(List.getElem?_eq_some_iff.1 a1).1
 have hje:j<e:=by omega
 have hsplit:(List.range n).flatMap FS=(List.range i).flatMap FS++(FS i++(List.range (n-(i+1))).flatMap fun k=>FS (i+1+k)):=by
  have e1:n=i+(1+(n-(i+1))):=by omega
  conv=>lhs;rw[e1,List.range_add,List.flatMap_append]
  congr 1
  rw[List.flatMap_map,Nat.add_comm 1,List.range_succ_eq_map,List.flatMap_cons,List.flatMap_map]
  rw[Nat.add_zero]
  congr 1
  refine congrArg (fun f=>List.flatMap f _) (funext fun k=>?_)
  show FS (i+(k+1))=_
  congr 1;omega
 have hone:ux.oneCell'=true:=by
  rw[List.all_eq_true] at r2
  exact r2 ux (List.mem_of_getElem? a1)
 refine⟨b,off,cells,ty,ux,Fx,(List.range i).flatMap FS++A,B++(List.range (n-(i+1))).flatMap (fun k=>FS (i+1+k)),g1,g3,g4,hje,by omega,r3 j ux a1,hone,?_,a3,fun S' w' sb' x' ux' Fx' hc hF hb hone' hsp hsq hx'=>?_⟩
 ·rw[hsplit,a2];simp only[List.append_assoc]
 unfold treeD
 rw[hsp]
 refine⟨h1,h2,h3,.inr ⟨b,off,cells.set (off+i*e+j) ux',ty,fun k=>if k=i then(us i).set j ux' else us k,fun k=>if k=i then A++(Fx'++B) else FS k,g1,?_,hb,by rw[List.length_set];exact g4,fun k hk=>?_⟩⟩
 ·have e0:(List.range n).flatMap (fun k=>if k=i then A++(Fx'++B) else FS k)=(List.range i).flatMap FS++((A++(Fx'++B))++(List.range (n-(i+1))).flatMap fun k=>FS (i+1+k)):=by
   have e1:n=i+(1+(n-(i+1))):=by omega
   conv=>lhs;rw[e1,List.range_add,List.flatMap_append]
   have c1:(List.range i).flatMap (fun k=>if k=i then A++(Fx'++B) else FS k)=(List.range i).flatMap FS:=by
    rw[List.flatMap_def,List.flatMap_def]
    congr 1
    exact List.map_congr_left fun k hk=>by rw[if_neg (by have:=List.mem_range.1 hk;omega)]
   rw[c1]
   congr 1
   rw[List.flatMap_map,Nat.add_comm 1,List.range_succ_eq_map,List.flatMap_cons,List.flatMap_map]
   rw[Nat.add_zero,if_pos rfl]
   congr 1
   refine congrArg (fun f=>List.flatMap f _) (funext fun k=>?_)
   show(if i+(k+1)=i then _ else FS (i+(k+1)))=_
   rw[if_neg (by omega)]
   congr 1;omega
  rw[e0];simp only[List.append_assoc]
 ·by_cases hki:k=i
  ·subst hki
   unfold rowAt
   simp only[↓reduceIte]
   refine⟨⟨⟨by rw[List.length_set];exact r1,?_⟩,fun j' v hv=>?_⟩,?_⟩
   ·rw[List.all_eq_true] at r2⊢
    intro y hy
    rcases List.mem_or_eq_of_mem_set hy with q|q
    ·exact r2 y q
    ·rw[q];exact hone'
   ·rw[List.getElem?_set] at hv⊢
    by_cases hjj:j=j'
    ·subst hjj
     rw[if_pos rfl,if_pos hjl] at hv
     rw[if_pos rfl,if_pos (List.getElem?_eq_some_iff.1 (r3 j ux a1)).1]
     exact hv
    ·rw[if_neg hjj] at hv
     rw[if_neg (by omega)]
     exact r3 j' v hv
   ·have:=a4 S' w' sb' x' ux' Fx' hc (fun q hq=>hF q (by simp only[List.mem_append] at hq⊢;rcases hq with hq|hq<;>simp[hq])) (fun c r hcj=>hsq _ c r (.inr hcj)) hx'
    simpa[setC] using this
  ·obtain⟨⟨q1,q3⟩,q4⟩:=g5 k hk
   unfold rowAt
   simp only[if_neg hki]
   refine⟨⟨q1,fun j' v hv=>?_⟩,?_⟩
   ·have hj':j'<e:=by have:=(List.getElem?_eq_some_iff.1 hv).1;omega
    rw[List.getElem?_set_ne (by have:=idx_ne (e:=e) hje hj' (.inl (Ne.symm hki));omega)]
    exact q3 j' v hv
   ·have e1:setC get i j x' k=get k:=if_neg hki
    rw[e1]
    refine treeDs_mono hc _ _ _ _ _ _ (fun q hq=>hF q ?_) (fun c r _=>hsq k c r (.inl hki)) q4
    have hq2:q∈(List.range n).flatMap FS:=List.mem_flatMap.2 ⟨k,List.mem_range.2 hk,hq⟩
    rcases Nat.lt_or_ge k i with z|z
    ·have:q∈(List.range i).flatMap FS:=List.mem_flatMap.2 ⟨k,List.mem_range.2 z,hq⟩
     simp only[List.mem_append];exact .inl (.inl this)
    ·have:q∈(List.range (n-(i+1))).flatMap (fun k=>FS (i+1+k)):=List.mem_flatMap.2 ⟨k-(i+1),List.mem_range.2 (by omega),by rw[show i+1+(k-(i+1))=k by omega];exact hq⟩
     simp only[List.mem_append];exact .inr (.inr this)
def subR:AV->Pth->AV->Prop
 |x,[],y=>x=y
 | .row _ _ n get,(a,c)::p,y=>a<n/\ ∃x',(get a)[c]?=some x'/\subR x' p y
 |_,_::_,_=>False
def setR (y:AV):AV->Pth->AV
 |_,[]=>y
 | .row nz e n get,(a,c)::p=>.row nz e n (setC get a c (setR y ((get a)[c]?.getD .nil) p))
 |x,_::_=>x
theorem focus {S:Nat->Prop} {w:World} {sb:Sub} {y:AV}: ∀ {q:Pth} {x:AV} {p:Pth} {u:Value} {F:List Nat},treeD S w sb x p u F->subR x q y->
  ∃uy Fy A B,F=A++(Fy++B)/\treeD S w sb y (p++q) uy Fy/\
   ∀(S':Nat->Prop) (w':World) (sb':Sub) (y':AV) (Fy':List Nat),Comp S w S' w'->(∀k∈A++B,w'.heap[k]?=w.heap[k]?)->(∀r,(∀t,r≠q++t)->sb' (p++r)=sb (p++r))->treeD S' w' sb' y' (p++q) uy Fy'->treeD S' w' sb' (setR y' x q) p u (A++(Fy'++B))
 |[],x,p,u,F,h,hs=>by
  simp only[subR] at hs
  subst hs
  exact⟨u,F,[],[],by simp,by simpa using h,fun S' w' sb' y' Fy' hc hF hb hy=>by simpa[setR] using hy⟩
 |(a,c)::q,x,p,u,F,h,hs=>by
  cases x with
  |row nz e n get=>
   simp only[subR] at hs
   obtain⟨ha,x',hx',hs⟩:=hs
   obtain⟨b,off,cells,ty,ux,Fx,A,B,z1,z2,z3,z4,z5,z6,z7,rfl,z8,z9⟩:=node_at h ha hx'
   obtain⟨uy,Fy,A',B',rfl,y1,y2⟩:=focus z8 hs
   rw[List.append_assoc] at y1
   refine⟨uy,Fy,b::(A++A'),B'++B,by simp[List.append_assoc],y1,fun S' w' sb' y' Fy' hc hF hb hy=>?_⟩
   have hs0:=hb [] (fun t=>by simp)
   rw[List.append_nil] at hs0
   have hset:cells.set (off+a*e+c) ux=cells:=by
    obtain⟨hl,he⟩:=List.getElem?_eq_some_iff.1 z6
    rw[<-he];exact List.set_getElem_self hl
   have hsub:=y2 S' w' sb' y' Fy' hc (fun k hk=>hF k (by simp only[List.mem_append,List.mem_cons] at hk⊢;rcases hk with hk|hk<;>simp[hk])) (fun r hr=>by
    rw[List.append_assoc]
    exact hb _ (fun t ht=>hr t (by simpa using ht))) (by rw[List.append_assoc];exact hy)
   have hres:=z9 S' w' sb' (setR y' x' q) ux (A'++(Fy'++B')) hc (fun k hk=>hF k (by simp only[List.mem_append,List.mem_cons] at hk⊢;rcases hk with hk|hk<;>simp[hk])) (by rw[hset];exact(hF b (by simp)).trans z2) z7 hs0 (fun i' c' r hne=>hb _ (fun t ht=>by
    simp only[List.cons_append,List.cons.injEq,Prod.mk.injEq] at ht
    rcases hne with h1|h1
    ·exact h1 ht.1.1
    ·exact h1 ht.1.2)) hsub
   have e1:setR y' (.row nz e n get) ((a,c)::q)= .row nz e n (setC get a c (setR y' x' q)):=by
    rw[setR,hx'];rfl
   rw[e1]
   simpa[List.append_assoc] using hres
  |_=>simp only[subR] at hs
structure Cfg where
 T:TT
 keep:List Nat
theorem flatMap_congr {α β:Type} {f g:α->List β}: ∀ {l:List α},(∀x∈l,f x=g x)->l.flatMap f=l.flatMap g
 |[],_=>rfl
 |x::l,h=>by rw[List.flatMap_cons,List.flatMap_cons,h x List.mem_cons_self,flatMap_congr fun y hy=>h y (List.mem_cons_of_mem _ hy)]
def Clo (r:AV) (no:Os):Prop:=(∀id,men id r=true->(lk no id).isSome=true)/\ ∀i ob,lk no i=some ob-> ∀id,omen id ob=true->(lk no id).isSome=true
def ASpec (P:Program) (f:FuncId) (args:List AV) (r:AV) (no:Os):Prop:=
 (∀args w,(callFunc f args).run P w= .ok (.enter f args) w)/\Clo r no/\ ∀(S:Nat->Prop) (w:World) (us:List Value),rels S W0 w args us->Rob S w Vr->Calls P f us.toArray w fun e w'=>∃v β',e= .returned v/\Below w.heap.size w w'/\
  (∀id ob,lk no id=some ob->orel (fun k=>(S k\/w.heap.size<=k)/\k∉feet no β') β' w' (β' id) ob)/\(∀k∈feet no β',w.heap.size<=k/\k<w'.heap.size)/\(feet no β').Nodup/\(no.map (·.1)).Nodup/\rel (fun k=>(S k\/w.heap.size<=k)/\k∉feet no β') β' w' r v
def freshs:Os->Sl->Os->Bool
 |[],_,_=>true
 |(d,_)::no,s,o=>fresh d s o&&freshs no s o
inductive CallK (P:Program) (tb:Tb) (c:Nat) (f:FuncId) (vs:List AV) (K:AV->Os->Prop):Prop
 |mk (r:AV) (no:Os) (h:tg tb c=true->ASpec P f vs r no) (k:K r no)
mutual
def flat:AV->Bool
 | .i _ _=>true
 | .b _=>true
 | .s _=>true
 | .v _=>true
 | .nil=>true
 | .agg cs=>flats cs
 | .tup cs=>flats cs
 |_=>false
def flats:List AV->Bool
 |[]=>true
 |x::xs=>flat x&&flats xs
end
mutual
theorem flat_rel {S S':Nat->Prop} {β β':Nat->Wt} {w w':World}: ∀ {x:AV} {u:Value},flat x=true->rel S β w x u->rel S' β' w' x u
 | .i k z,u,_,h=>h
 | .b t,u,_,h=>h
 | .s x,u,_,h=>h
 | .v x,u,_,h=>h
 | .nil,u,_,h=>h
 | .agg cs,u,hn,⟨us,h1,h2⟩=>⟨us,h1,flats_rel hn h2⟩
 | .tup cs,u,hn,⟨us,h1,h2⟩=>⟨us,h1,flats_rel hn h2⟩
 | .row nz e n get,u,hn,h=>nomatch hn
 | .cp cs,u,hn,h=>nomatch hn
 | .op id off,u,hn,h=>nomatch hn
 | .orow id e off n,u,hn,h=>nomatch hn
 | .rp id e i j,u,hn,h=>nomatch hn
 | .clo f cs,u,hn,h=>nomatch hn
 | .omap id,u,hn,h=>nomatch hn
 | .ifc t x,u,hn,h=>nomatch hn
 | .any,u,hn,h=>nomatch hn
 | .pth _ _ _ _ _,u,hn,h=>nomatch hn
 | .pp _ _ _ _ _,u,hn,h=>nomatch hn
theorem flats_rel {S S':Nat->Prop} {β β':Nat->Wt} {w w':World}: ∀ {x:List AV} {u:List Value},flats x=true->rels S β w x u->rels S' β' w' x u
 |[],us,_,h=>h
 |v::vs,us,hn,⟨u,us',h1,h2,h3⟩=>by
  simp only[flats,Bool.and_eq_true] at hn
  exact⟨u,us',h1,flat_rel hn.1 h2,flats_rel hn.2 h3⟩
end
mutual
def noFz:AV->Bool
 | .row _ _ _ _=>false
 | .cp _=>false
 | .clo _ _=>false
 | .ifc _ _=>false
 | .agg cs=>noFzs cs
 | .tup cs=>noFzs cs
 |_=>true
def noFzs:List AV->Bool
 |[]=>true
 |x::xs=>noFz x&&noFzs xs
end
mutual
theorem noFz_rel {S S':Nat->Prop} {β:Nat->Wt} {w w':World}: ∀ {x:AV} {u:Value},noFz x=true->rel S β w x u->rel S' β w' x u
 | .i k z,u,_,h=>h
 | .b t,u,_,h=>h
 | .s x,u,_,h=>h
 | .v x,u,_,h=>h
 | .nil,u,_,h=>h
 | .agg cs,u,hn,⟨us,h1,h2⟩=>⟨us,h1,noFzs_rel hn h2⟩
 | .tup cs,u,hn,⟨us,h1,h2⟩=>⟨us,h1,noFzs_rel hn h2⟩
 | .row nz e n get,u,hn,h=>nomatch hn
 | .cp cs,u,hn,h=>nomatch hn
 | .op id off,u,hn,h=>h
 | .orow id e off n,u,hn,h=>h
 | .rp id e i j,u,hn,h=>h
 | .clo f cs,u,hn,h=>nomatch hn
 | .omap id,u,hn,h=>h
 | .ifc t x,u,hn,h=>nomatch hn
 | .any,u,hn,h=>h
 | .pth _ _ _ _ _,u,hn,h=>h
 | .pp _ _ _ _ _,u,hn,h=>h
theorem noFzs_rel {S S':Nat->Prop} {β:Nat->Wt} {w w':World}: ∀ {x:List AV} {u:List Value},noFzs x=true->rels S β w x u->rels S' β w' x u
 |[],us,_,h=>h
 |v::vs,us,hn,⟨u,us',h1,h2,h3⟩=>by
  simp only[noFzs,Bool.and_eq_true] at hn
  exact⟨u,us',h1,noFz_rel hn.1 h2,noFzs_rel hn.2 h3⟩
end
mutual
def tflat:AV->Prop
 | .row _ _ n get=>∀i,i<n->tflats (get i)
 |x=>flat x=true
def tflats:List AV->Prop
 |[]=>True
 |x::xs=>tflat x/\tflats xs
end
mutual
theorem tflat_rel {S S':Nat->Prop} {w:World} {sb:Sub}: ∀(x:AV) (p:Pth) (u:Value) (F:List Nat),tflat x->treeD S w sb x p u F->treeD S' w sb x p u F
 | .row nz e n get,p,u,F,hf,h=>by
  unfold treeD at h⊢
  obtain⟨h1,h2,h3,h4⟩:=h
  refine⟨h1,h2,h3,h4.imp id ?_⟩
  rintro ⟨b,off,cells,ty,us,FS,g1,rfl,g3,g4,g5⟩
  exact⟨b,off,cells,ty,us,FS,g1,rfl,g3,g4,fun i hi=>⟨(g5 i hi).1,tflats_rel (get i) p i 0 (us i) (FS i) (by unfold tflat at hf;exact hf i hi) (g5 i hi).2⟩⟩
 | .i k z,p,u,F,hf,h=>⟨h.1,flat_rel hf h.2⟩
 | .b t,p,u,F,hf,h=>⟨h.1,flat_rel hf h.2⟩
 | .s x,p,u,F,hf,h=>⟨h.1,flat_rel hf h.2⟩
 | .v x,p,u,F,hf,h=>⟨h.1,flat_rel hf h.2⟩
 | .nil,p,u,F,hf,h=>⟨h.1,flat_rel hf h.2.1,h.2.2⟩
 | .agg cs,p,u,F,hf,h=>⟨h.1,flat_rel hf h.2⟩
 | .tup cs,p,u,F,hf,h=>⟨h.1,flat_rel hf h.2⟩
 | .cp cs,p,u,F,hf,h=>nomatch hf
 | .op id off,p,u,F,hf,h=>nomatch hf
 | .orow id e off n,p,u,F,hf,h=>nomatch hf
 | .rp id e i j,p,u,F,hf,h=>nomatch hf
 | .clo f cs,p,u,F,hf,h=>nomatch hf
 | .omap id,p,u,F,hf,h=>nomatch hf
 | .ifc t x,p,u,F,hf,h=>nomatch hf
 | .any,p,u,F,hf,h=>nomatch hf
 | .pth _ _ _ _ _,p,u,F,hf,h=>nomatch hf
 | .pp _ _ _ _ _,p,u,F,hf,h=>nomatch hf
theorem tflats_rel {S S':Nat->Prop} {w:World} {sb:Sub}: ∀(xs:List AV) (p:Pth) (i j:Nat) (us:List Value) (F:List Nat),tflats xs->treeDs S w sb xs p i j us F->treeDs S' w sb xs p i j us F
 |[],p,i,j,us,F,hf,h=>h
 |v::vs,p,i,j,us,F,hf,h=>by
  unfold treeDs at h⊢
  unfold tflats at hf
  obtain⟨u,us',F1,F2,rfl,rfl,h1,h2⟩:=h
  exact⟨u,us',F1,F2,rfl,rfl,tflat_rel v _ u F1 hf.1 h1,tflats_rel vs p i (j+1) us' F2 hf.2 h2⟩
end
def flatO:Obj->Prop
 | .box _ _ cs=>noFzs cs=true
 | .row _ _ n get=>∀i,i<n->flats (get i)=true
 | .tree e n get=>tflat (.row none e n get)
 | .mp _ _ _ _=>True
theorem flatO_rel {S S':Nat->Prop} {β:Nat->Wt} {w:World} {W:Wt}: ∀ {ob:Obj},flatO ob->orel S β w W ob->orel S' β w W ob
 | .box p q cs,hf,⟨b,us,ty,h1,h2,h3,h4,h5⟩=>⟨b,us,ty,h1,h2,h3,noFzs_rel hf h4,h5⟩
 | .row q e n get,hf,⟨h1,h2,h3⟩=>⟨h1,h2,h3.imp id fun⟨b,off,cells,ty,us,a1,a2,a3,a4,a5⟩=>⟨b,off,cells,ty,us,a1,a2,a3,a4,fun i hi=>⟨(a5 i hi).1,flats_rel (hf i hi) (a5 i hi).2⟩⟩⟩
 | .tree e n get,hf,⟨h1,h2⟩=>⟨h1,tflat_rel _ _ _ _ hf h2⟩
 | .mp Φ k n F,hf,h=>h
inductive CallL (P:Program) (tb:Tb) (c:Nat) (f:FuncId) (vs:List AV) (K:AV->Os->Prop):Prop
 |mk (r:AV) (no:Os) (h:tg tb c=true->ASpec P f vs r no) (hr:noFz r=true) (ho: ∀i ob,lk no i=some ob->flatO ob) (k:K r no)
def selfK (id:Nat):List AV->(List AV->Prop)->Prop
 |[],K=>K []
 | .op i off::l,K=>match Nat.beq i id with
  |true=>selfK id l fun r=>K (.any::r)
  |false=>selfK id l fun r=>K (.op i off::r)
 |v::l,K=>selfK id l fun r=>K (v::r)
theorem selfK_ok {id:Nat}: ∀ {l:List AV} {K:List AV->Prop},selfK id l K-> ∃r,K r/\ ∀(S:Nat->Prop) (β:Nat->Wt) (w:World) (us:List Value),rels S β w l us->rels S β w r us
 |[],K,h=>⟨[],h,fun S β w us h=>h⟩
 |v::l,K,h=>by
  unfold selfK at h
  split at h
  ·cases ‹_=[]›
  ·rename_i i off l' e
   cases e
   split at h
   ·obtain⟨r,h1,h2⟩:=selfK_ok h
    refine⟨_,h1,fun S β w us ⟨u,us',e1,e2,e3⟩=>⟨u,us',e1,?_,h2 _ _ _ _ e3⟩⟩
    unfold rel at e2⊢
    obtain⟨_,b,_,rfl⟩:=e2
    rfl
   ·obtain⟨r,h1,h2⟩:=selfK_ok h
    exact⟨_,h1,fun S β w us ⟨u,us',e1,e2,e3⟩=>⟨u,us',e1,e2,h2 _ _ _ _ e3⟩⟩
  ·rename_i v' l' _ e
   cases e
   obtain⟨r,h1,h2⟩:=selfK_ok h
   exact⟨_,h1,fun S β w us ⟨u,us',e1,e2,e3⟩=>⟨u,us',e1,e2,h2 _ _ _ _ e3⟩⟩
def navK (tb:Tb) (c:Nat):Pth->Nat->Nat->(Nat->List AV)->(Nat->Nat->(Nat->List AV)->Prop)->Prop
 |[],e,n,get,K=>K e n get
 |(a,j)::p,e,n,get,K=>need tb c (a<n) (nthK j (get a) fun x=>match x with
  | .row _ e' n' g=>navK tb c p e' n' g K
  |_=>False)
theorem navK_ok {tb:Tb} {c:Nat}: ∀ {p:Pth} {e n:Nat} {get:Nat->List AV} {K:Nat->Nat->(Nat->List AV)->Prop},navK tb c p e n get K-> ∃e' n' g,K e' n' g/\(tg tb c=true-> ∀nz,∃nz',subR (.row nz e n get) p (.row nz' e' n' g))
 |[],e,n,get,K,h=>⟨e,n,get,h,fun _ nz=>⟨nz,rfl⟩⟩
 |(a,j)::p,e,n,get,K,h=>by
  simp only[navK] at h
  obtain⟨ha,h⟩:=need_ok h
  obtain⟨x,hx,h⟩:=nthK_ok h
  split at h
  ·rename_i nz1 e1 n1 g1
   obtain⟨e',n',g,hk,hs⟩:=navK_ok h
   refine⟨e',n',g,hk,fun hc nz=>?_⟩
   obtain⟨nz',h2⟩:=hs hc nz1
   exact⟨nz',ha hc,_,hx,h2⟩
  ·cases h
theorem tree_node {E:Env} {tb:Tb} {s:Sl} {o:Os} {β:Nat->Wt} {a:Act} {w:World} {id e n:Nat} {get:Nat->List AV} (hg:Gam E tb s o β a w) (hl:lk o id=some (.tree e n get)) {p:Pth} {nz':Option Bool} {e' n':Nat} {g:Nat->List AV} (hs:subR (.row none e n get) p (.row nz' e' n' g)):
  (β id).ok=true/\ ∃u F,treeD (E.good o β) w (rsub (β id)) (.row nz' e' n' g) p u F:=by
 obtain⟨h1,h2⟩:=hg.objs id _ hl
 obtain⟨uy,Fy,A,B,e1,e2,_⟩:=focus h2 hs
 exact⟨h1,uy,Fy,by simpa using e2⟩
mutual
def lendK (tb:Tb) (c:Nat) (o:Os):Nat->AV->(AV->Prop)->Prop
 |0,_,_=>False
 |f+1,.orow id e off n,K=>match lk o id with
  |some (.row _ e' N get)=>match Nat.beq e e' with
   |true=>need tb c (off+n<=N) (K (.row none e n (offF off get)))
   |false=>False
  |some (.tree e' N get)=>match Nat.beq e e' with
   |true=>need tb c (off+n<=N) (K (.row none e n (offF off get)))
   |false=>False
  |_=>False
 |f+1,.op id off,K=>match lk o id with
  |some (.box _ _ cs)=>selfK id cs fun cs=>dropK off cs fun cs=>lendsK tb c o f cs fun cs=>K (.cp cs)
  |_=>False
 |f+1,.agg cs,K=>lendsK tb c o f cs fun cs=>K (.agg cs)
 |f+1,.tup cs,K=>lendsK tb c o f cs fun cs=>K (.tup cs)
 |f+1,.clo g cs,K=>lendsK tb c o f cs fun cs=>K (.clo g cs)
 |_+1,.rp _ _ _ _,_=>False
 |_+1,.omap _,_=>False
 |_+1,.ifc _ _,_=>False
 |f+1,.pth id p e off n,K=>match lk o id with
  |some (.tree e0 N get)=>navK tb c p e0 N get fun e' n' g=>match Nat.beq e e' with
   |true=>need tb c (off+n<=n') (K (.row none e n (offF off g)))
   |false=>False
  |_=>False
 |_+1,.pp _ _ _ _ _,_=>False
 |_+1,v,K=>K v
def lendsK (tb:Tb) (c:Nat) (o:Os):Nat->List AV->(List AV->Prop)->Prop
 |_,[],K=>K []
 |0,_::_,_=>False
 |f+1,v::vs,K=>lendK tb c o f v fun v=>lendsK tb c o f vs fun vs=>K (v::vs)
end
section
variable {P:Program} {C:Cfg} {ops:Array Oper} {tb:Tb} {s:Sl} {o:Os} {c d:Nat}
theorem freshs_all: ∀ {no:Os},freshs no s o=true-> ∀p∈no,fresh p.1 s o=true
 |[],_,p,hp=>nomatch hp
 |(d,ob)::no,h,p,hp=>by
  simp only[freshs,Bool.and_eq_true] at h
  rcases List.mem_cons.1 hp with rfl|hp
  ·exact h.1
  ·exact freshs_all h.2 p hp
theorem Gam.called {E:Env} {β β':Nat->Wt} {a:Act} {w w':World} {no:Os} {r:AV} {v:Value} (h:Gam E tb s o β a w) (hf: ∀p∈no,fresh p.1 s o=true) (hb:Below w.heap.size w w')
  (h1: ∀id ob,lk no id=some ob->orel (fun k=>(E.good o β k\/w.heap.size<=k)/\k∉feet no β') β' w' (β' id) ob) (h2: ∀k∈feet no β',w.heap.size<=k/\k<w'.heap.size) (h3:(feet no β').Nodup) (h4:(no.map (·.1)).Nodup)
  (h5:rel (fun k=>(E.good o β k\/w.heap.size<=k)/\k∉feet no β') β' w' r v) (hm: ∀id,men id r=true->(lk no id).isSome=true) (hm2: ∀i ob,lk no i=some ob-> ∀id,omen id ob=true->(lk no id).isSome=true):
  ∃β2,Gam E tb s (no++o) β2 a w'/\rel (E.good (no++o) β2) β2 w' r v:=by
 let β2:Nat->Wt:=fun i=>if(lk no i).isSome then β' i else β i
 have hnew: ∀id,(lk no id).isSome=true->β2 id=β' id:=fun id h=>if_pos h
 have hold: ∀id,lk no id=none->β2 id=β id:=fun id h=>if_neg (by rw[h];simp)
 have hkey: ∀p∈no,(lk no p.1).isSome=true:=fun p hp=>by rw[lk_key hp h4];rfl
 have hdis: ∀p∈o,lk no p.1=none:=fun p hp=>by
  cases hq:lk no p.1 with
  |none=>rfl
  |some ob=>
   have:=hf _ (lk_mem hq)
   simp only[fresh,Bool.and_eq_true,Bool.not_eq_true'] at this
   exact absurd rfl (omens_keys this.2 p hp)
 have f1:feet no β2=feet no β':=by
  unfold feet
  exact flatMap_congr fun p hp=>by rw[hnew _ (hkey p hp)]
 have f2:feet o β2=feet o β:=by
  unfold feet
  exact flatMap_congr fun p hp=>by rw[hold _ (hdis p hp)]
 have hfe:feet (no++o) β2=feet no β'++feet o β:=by rw[feet_app,f1,f2]
 have hgood: ∀k,((E.good o β k\/w.heap.size<=k)/\k∉feet no β')->E.good (no++o) β2 k:=fun k ⟨hk,hn⟩=>by
  refine⟨?_,fun hm=>?_⟩
  ·rcases hk with hk|hk
   ·exact hk.1
   ·exact .inr (.inl (Nat.le_trans h.below.size hk))
  ·rw[hfe] at hm
   rcases List.mem_append.1 hm with q|q
   ·exact hn q
   ·rcases hk with hk|hk
    ·exact hk.2 q
    ·have:=(h.new k q).2;omega
 have hc:Comp (E.good o β) w (E.good (no++o) β2) w':=⟨hb.size,fun k hk hg=>⟨hgood k ⟨.inl hg,fun q=>by have:=(h2 k q).1;omega⟩,hb.block k hk⟩⟩
 have hc':Comp (fun k=>(E.good o β k\/w.heap.size<=k)/\k∉feet no β') w' (E.good (no++o) β2) w':=⟨Nat.le_refl _,fun k _ hk=>⟨hgood k hk,rfl⟩⟩
 have hmo: ∀id,(∃x,smen id s=true\/omens id o=true\/x=0)->True:=fun _ _=>trivial
 have hst: ∀id,(lk no id).isSome=true->smen id s=false/\omens id o=false:=fun id hid=>by
  obtain⟨ob,hob⟩:=Option.isSome_iff_exists.1 hid
  have:=hf _ (lk_mem hob)
  simpa only[fresh,Bool.and_eq_true,Bool.not_eq_true'] using this
 refine⟨β2,⟨h.size,h.defers,h.tbok,fun i c v hl=>?_,fun id ob hl=>?_,?_,fun k hk=>?_,?_,?_⟩,?_⟩
 ·obtain⟨u,e1,e2⟩:=h.slots i c v hl
  refine⟨u,e1,fun hg=>rel_agr _ _ (fun id hid=>?_) (rel_mono hc _ _ (e2 hg))⟩
  cases hq:lk no id with
  |none=>exact hold id hq
  |some ob=>
   have:=smen_lk hl (hst id (by rw[hq];rfl)).1
   rw[this] at hid;cases hid
 ·rw[lk_app] at hl
  cases hq:lk no id with
  |some ob'=>
   rw[hq] at hl
   cases hl
   rw[hnew id (by rw[hq];rfl)]
   refine orel_agr (fun id' hid=>?_) (orel_mono hc' (fun _ _=>rfl) (h1 id ob hq))
   exact hnew id' (hm2 id ob hq id' hid)
  |none=>
   rw[hq] at hl
   rw[hold id hq]
   refine orel_agr (fun id' hid=>?_) (orel_mono hc (fun k hk=>hb.block k (h.new k (foot_feet hl k hk)).2) (h.objs id ob hl))
   cases hq':lk no id' with
   |none=>exact hold id' hq'
   |some ob'=>
    have:=(omens_lk hl (hst id' (by rw[hq'];rfl)).2).1
    rw[this] at hid;cases hid
 ·exact⟨hb.os.trans h.below.os,hb.tape.trans h.below.tape,hb.output.trans h.below.output,Nat.le_trans h.below.size hb.size,fun k hk hx=>(hb.block k (Nat.lt_of_lt_of_le hk h.below.size)).trans (h.below.block k hk hx)⟩
 ·rw[hfe] at hk
  rcases List.mem_append.1 hk with q|q
  ·exact⟨.inl (Nat.le_trans h.below.size (h2 k q).1),(h2 k q).2⟩
  ·exact⟨(h.new k q).1,Nat.lt_of_lt_of_le (h.new k q).2 hb.size⟩
 ·rw[hfe]
  refine List.nodup_append.2 ⟨h3,h.nodup,fun x hx y hy e=>?_⟩
  subst e
  have:=(h2 x hx).1;have:=(h.new x hy).2;omega
 ·rw[List.map_append]
  refine List.nodup_append.2 ⟨h4,h.keys,fun x hx y hy e=>?_⟩
  subst e
  obtain⟨p,hp,rfl⟩:=List.mem_map.1 hx
  obtain⟨q,hq,e⟩:=List.mem_map.1 hy
  have:=hdis q hq
  rw[e] at this
  have h6:=hkey p hp
  rw[this] at h6;cases h6
 ·exact rel_agr _ _ (fun id hid=>hnew id (hm id hid)) (rel_mono hc' _ _ h5)
mutual
theorem treeD_rel {S S':Nat->Prop} {w:World} {sb:Sub} (hc:Comp S w S' w): ∀(x:AV) (p:Pth) (u:Value) (F:List Nat),(∀k∈F,S' k/\k<w.heap.size)->treeD S w sb x p u F->rel S' W0 w x u
 | .row nz e n get,p,u,F,hF,h=>by
  unfold treeD at h
  obtain⟨rfl,h2,h3,h4⟩:=h
  rcases h4 with⟨g1,g2,rfl⟩|⟨b,off,cells,ty,us,FS,g1,rfl,g3,g4,g5⟩
  ·exact⟨_,_,fun _=>[],rfl,h2,h3,fun i hi=>by omega⟩
  ·refine⟨_,_,us,rfl,h2,h3,fun i hi=>⟨⟨_,g1,?_⟩,(g5 i hi).1.1,?_⟩⟩
   ·intro w'' hs hq j u hu
    have hb'':=(hq b (hF b (by simp)).2 (hF b (by simp)).1).trans g3
    have:=(g5 i hi).1.2 j u hu
    show w''.cell? (((⟨b,off,none⟩:Addr).add (i*e)).add j)=some u
    rw[add_none,add_none,cell_blk hb'',<-this]
   ·exact treeDs_rel hc (get i) p i 0 (us i) (FS i) (fun k hk=>hF k (List.mem_cons_of_mem _ (List.mem_flatMap.2 ⟨i,List.mem_range.2 hi,hk⟩))) (g5 i hi).2
 | .i k z,p,u,F,hF,h=>rel_mono hc _ _ h.2
 | .b t,p,u,F,hF,h=>rel_mono hc _ _ h.2
 | .s x,p,u,F,hF,h=>rel_mono hc _ _ h.2
 | .v x,p,u,F,hF,h=>rel_mono hc _ _ h.2
 | .nil,p,u,F,hF,h=>rel_mono hc _ _ h.2.1
 | .agg cs,p,u,F,hF,h=>rel_mono hc _ _ h.2
 | .tup cs,p,u,F,hF,h=>rel_mono hc _ _ h.2
 | .cp cs,p,u,F,hF,h=>rel_mono hc _ _ h.2
 | .op id off,p,u,F,hF,h=>rel_mono hc _ _ h.2
 | .orow id e off n,p,u,F,hF,h=>rel_mono hc _ _ h.2
 | .rp id e i j,p,u,F,hF,h=>rel_mono hc _ _ h.2
 | .clo f cs,p,u,F,hF,h=>rel_mono hc _ _ h.2
 | .omap id,p,u,F,hF,h=>rel_mono hc _ _ h.2
 | .ifc t x,p,u,F,hF,h=>rel_mono hc _ _ h.2
 | .any,p,u,F,hF,h=>rel_mono hc _ _ h.2
 | .pth _ _ _ _ _,p,u,F,hF,h=>rel_mono hc _ _ h.2
 | .pp _ _ _ _ _,p,u,F,hF,h=>rel_mono hc _ _ h.2
theorem treeDs_rel {S S':Nat->Prop} {w:World} {sb:Sub} (hc:Comp S w S' w): ∀(xs:List AV) (p:Pth) (i j:Nat) (us:List Value) (F:List Nat),(∀k∈F,S' k/\k<w.heap.size)->treeDs S w sb xs p i j us F->rels S' W0 w xs us
 |[],p,i,j,us,F,hF,h=>h.1
 |v::vs,p,i,j,us,F,hF,h=>by
  unfold treeDs at h
  obtain⟨u,us',F1,F2,rfl,rfl,h1,h2⟩:=h
  exact⟨u,us',rfl,treeD_rel hc v _ u F1 (fun k hk=>hF k (by simp[hk])) h1,treeDs_rel hc vs p i (j+1) us' F2 (fun k hk=>hF k (by simp[hk])) h2⟩
end
theorem rel_part {S:Nat->Prop} {w:World} {e N off n cap:Nat} {A:Option Addr} {get:Nat->List AV} (h:rel S W0 w (.row none e N get) (.slice A N cap)) (hn:off+n<=N):rel S W0 w (.row none e n (offF off get)) (.slice (A.map (·.add (off*e))) n (cap-off)):=by
 unfold rel at h⊢
 obtain⟨a,cap',us,h1,h2,h3,h4⟩:=h
 cases h1
 refine⟨_,_,fun i=>us (off+i),rfl,(fun z hz=>by cases hz),by omega,fun i hi=>?_⟩
 obtain⟨⟨ad,r1,r2⟩,r3,r4⟩:=h4 (off+i) (by omega)
 subst r1
 refine⟨⟨_,rfl,?_⟩,r3,by rw[offF_eq];exact r4⟩
 rw[add_add,<-Nat.add_mul];exact r2
mutual
theorem lendK_ok: ∀ {f:Nat} {v:AV} {K:AV->Prop},lendK tb c o f v K-> ∃v',K v'/\ ∀(E:Env) (tb':Tb) (s':Sl) (o':Os) (β:Nat->Wt) (a:Act) (w:World) (u:Value),tg tb c=true->(∀id ob,lk o id=some ob->lk o' id=some ob)->Gam E tb' s' o' β a w->rel (E.good o' β) β w v u->rel (fun _=>True) W0 w v' u
 |0,_,_,h=>nomatch h
 |f+1,.orow id e off n,K,h=>by
  simp only[lendK] at h
  split at h
  ·rename_i e' N get hl
   split at h
   ·rename_i he
    have he:=Nat.eq_of_beq_eq_true he
    subst he
    obtain⟨hn,h⟩:=need_ok h
    refine⟨_,h,fun E tb' s' o' β a w u hc ho hg hr=>?_⟩
    obtain⟨h1,h2,h3⟩:=hg.objs id _ (ho _ _ hl)
    unfold rel at hr
    obtain⟨_,rfl⟩:=hr
    have hn:=hn hc
    rcases h3 with⟨z1,z2,z3⟩|⟨b,off',cells,ty,us,z1,z2,z3,z4,z5⟩
    ·exact⟨_,_,fun _=>[],rfl,(fun z hz=>by cases hz),by omega,fun i hi=>by omega⟩
    ·rw[z1]
     refine⟨_,_,fun i=>us (off+i),rfl,(fun z hz=>by cases hz),by omega,fun i hi=>⟨⟨_,rfl,?_⟩,(z5 (off+i) (by omega)).1.1,?_⟩⟩
     ·have hb:b<w.heap.size:=(hg.new b (foot_feet (ho _ _ hl) b (by rw[z2];simp))).2
      intro w'' hs hq j u hu
      have hb'':=(hq b hb trivial).trans z3
      have:=(z5 (off+i) (by omega)).1.2 j u hu
      show w''.cell? ((((⟨b,off',none⟩:Addr).add (off*e)).add (i*e)).add j)=some u
      rw[add_none,add_none,add_none,cell_blk hb'',<-this]
      congr 1
      rw[Nat.add_mul];omega
     ·rw[offF_eq]
      exact rels_mono (S:=E.good o' β) ⟨Nat.le_refl _,fun _ _ _=>⟨trivial,rfl⟩⟩ _ _ (z5 (off+i) (by omega)).2
   ·cases h
  ·rename_i e' N get hl
   split at h
   ·rename_i he
    have he:=Nat.eq_of_beq_eq_true he
    subst he
    obtain⟨hn,h⟩:=need_ok h
    refine⟨_,h,fun E tb' s' o' β a w u hc ho hg hr=>?_⟩
    obtain⟨h1,h2⟩:=hg.objs id _ (ho _ _ hl)
    unfold rel at hr
    obtain⟨_,rfl⟩:=hr
    refine rel_W0 (rel_part (treeD_rel (S:=E.good o' β) ⟨Nat.le_refl _,fun _ _ _=>⟨trivial,rfl⟩⟩ _ _ _ _ (fun k hk=>⟨trivial,(hg.new k (foot_feet (ho _ _ hl) k hk)).2⟩) h2) (hn hc))
   ·cases h
  ·cases h
 |f+1,.op id off,K,h=>by
  simp only[lendK] at h
  split at h
  ·rename_i cs0 hl
   obtain⟨cs,h,hself⟩:=selfK_ok h
   obtain⟨_,h⟩:=dropK_ok h
   obtain⟨cs',h,hcs⟩:=lendsK_ok h
   refine⟨_,h,fun E tb' s' o' β a w u hc ho hg hr=>?_⟩
   obtain⟨b,us,ty,e1,e2,e3,e4,_⟩:=hg.objs id _ (ho _ _ hl)
   unfold rel at hr
   obtain⟨_,b',e5,rfl⟩:=hr
   rw[e1] at e5
   cases e5
   refine⟨_,us.drop off,rfl,?_,hcs E tb' s' o' β a w _ hc ho hg (rels_drop (hself _ _ _ _ e4))⟩
   have hb:b<w.heap.size:=(hg.new b (foot_feet (ho _ _ hl) b (by rw[e2];simp))).2
   intro w'' hs hq
   exact cellsAt_blk ((hq b hb trivial).trans e3) off
  ·cases h
 |f+1,.agg cs,K,h=>by
  simp only[lendK] at h
  obtain⟨cs',h,hcs⟩:=lendsK_ok h
  exact⟨_,h,fun E tb' s' o' β a w u hc ho hg ⟨us,h1,h2⟩=>⟨us,h1,hcs E tb' s' o' β a w _ hc ho hg h2⟩⟩
 |f+1,.tup cs,K,h=>by
  simp only[lendK] at h
  obtain⟨cs',h,hcs⟩:=lendsK_ok h
  exact⟨_,h,fun E tb' s' o' β a w u hc ho hg ⟨us,h1,h2⟩=>⟨us,h1,hcs E tb' s' o' β a w _ hc ho hg h2⟩⟩
 |f+1,.clo g cs,K,h=>by
  simp only[lendK] at h
  obtain⟨cs',h,hcs⟩:=lendsK_ok h
  exact⟨_,h,fun E tb' s' o' β a w u hc ho hg ⟨us,h1,h2⟩=>⟨us,h1,hcs E tb' s' o' β a w _ hc ho hg h2⟩⟩
 |f+1,.i k z,K,h=>⟨_,h,fun E tb' s' o' β a w u hc ho hg hr=>hr⟩
 |f+1,.b t,K,h=>⟨_,h,fun E tb' s' o' β a w u hc ho hg hr=>hr⟩
 |f+1,.s x,K,h=>⟨_,h,fun E tb' s' o' β a w u hc ho hg hr=>hr⟩
 |f+1,.v x,K,h=>⟨_,h,fun E tb' s' o' β a w u hc ho hg hr=>hr⟩
 |f+1,.nil,K,h=>⟨_,h,fun E tb' s' o' β a w u hc ho hg hr=>hr⟩
 |f+1,.row nz e n get,K,h=>⟨_,h,fun E tb' s' o' β a w u hc ho hg hr=>rel_mono (S:=E.good o' β) (x:= .row nz e n get) ⟨Nat.le_refl _,fun _ _ _=>⟨trivial,rfl⟩⟩ _ hr⟩
 |f+1,.cp cs,K,h=>⟨_,h,fun E tb' s' o' β a w u hc ho hg hr=>rel_mono (S:=E.good o' β) (x:= .cp cs) ⟨Nat.le_refl _,fun _ _ _=>⟨trivial,rfl⟩⟩ _ hr⟩
 |f+1,.rp _ _ _ _,K,h=>nomatch h
 |f+1,.omap _,K,h=>nomatch h
 |f+1,.pth id p e off n,K,h=>by
  simp only[lendK] at h
  split at h
  ·rename_i e0 N get hl
   obtain⟨e',n',g,h,hsub⟩:=navK_ok h
   split at h
   ·rename_i he
    have he:=Nat.eq_of_beq_eq_true he
    subst he
    obtain⟨hn,h⟩:=need_ok h
    refine⟨_,h,fun E tb' s' o' β a w u hc ho hg hr=>?_⟩
    obtain⟨nz',hs2⟩:=hsub hc none
    obtain⟨h1,h2⟩:=hg.objs id _ (ho _ _ hl)
    obtain⟨uy,Fy,A,B,e1,e2,_⟩:=focus h2 hs2
    rw[List.nil_append] at e2
    have hrel:=treeD_rel (S:=E.good o' β) ⟨Nat.le_refl _,fun _ _ _=>⟨trivial,rfl⟩⟩ _ _ _ _ (fun k hk=>⟨trivial,(hg.new k (foot_feet (ho _ _ hl) k (by rw[e1];simp[hk]))).2⟩) e2
    unfold treeD at e2
    obtain⟨rfl,_⟩:=e2
    unfold rel at hr
    obtain⟨_,rfl⟩:=hr
    refine rel_part (N:=n') ?_ (hn hc)
    unfold rel at hrel⊢
    obtain⟨a',cap',us',q1,_,q3,q4⟩:=hrel
    exact⟨a',cap',us',q1,(fun z hz=>by cases hz),q3,q4⟩
   ·cases h
  ·cases h
 |f+1,.pp _ _ _ _ _,K,h=>nomatch h
 |f+1,.ifc _ _,K,h=>nomatch h
 |f+1,.any,K,h=>⟨_,h,fun E tb' s' o' β a w u hc ho hg hr=>hr⟩
theorem lendsK_ok: ∀ {f:Nat} {v:List AV} {K:List AV->Prop},lendsK tb c o f v K-> ∃v',K v'/\ ∀(E:Env) (tb':Tb) (s':Sl) (o':Os) (β:Nat->Wt) (a:Act) (w:World) (u:List Value),tg tb c=true->(∀id ob,lk o id=some ob->lk o' id=some ob)->Gam E tb' s' o' β a w->rels (E.good o' β) β w v u->rels (fun _=>True) W0 w v' u
 |0,[],K,h=>⟨_,h,fun E tb' s' o' β a w u hc ho hg hr=>hr⟩
 |_+1,[],K,h=>⟨_,h,fun E tb' s' o' β a w u hc ho hg hr=>hr⟩
 |0,_::_,_,h=>nomatch h
 |f+1,v::vs,K,h=>by
  simp only[lendsK] at h
  obtain⟨v',h,h1⟩:=lendK_ok h
  obtain⟨vs',h,h2⟩:=lendsK_ok h
  exact⟨_,h,fun E tb' s' o' β a w u hc ho hg ⟨q,us,e1,e2,e3⟩=>⟨q,us,e1,h1 E tb' s' o' β a w q hc ho hg e2,h2 E tb' s' o' β a w us hc ho hg e3⟩⟩
end
end
def getO (tb:Tb) (s:Sl) (c:Nat) (x:Option Operand) (K:Option AV->Prop):Prop:=match x with
 |none=>K none
 |some x=>get tb s c x fun v=>K (some v)
def OpnO (tb:Tb) (s:Sl) (c:Nat):Option Operand->Option AV->Prop
 |none,none=>True
 |some x,some v=>Opn tb s c x v
 |_,_=>False
theorem getO_ok {tb:Tb} {s:Sl} {c:Nat} {x:Option Operand} {K:Option AV->Prop} (h:getO tb s c x K): ∃v,K v/\OpnO tb s c x v:=by
 cases x with
 |none=>exact⟨none,h,trivial⟩
 |some x=>obtain⟨v,h,hx⟩:=get_ok h;exact⟨some v,h,hx⟩
def numO (d:Int) (v:Option AV) (K:Int->Prop):Prop:=match v with
 |none=>K d
 |some (.i _ z)=>K z
 |_=>False
def offO (v:Option AV) (l:Int) (get:Nat->List AV):Nat->List AV:=match v with
 |none=>get
 |some _=>fun i=>get (l.toNat+i)
def lenO (v:Option AV) (l h:Int):Nat:=match v with
 |none=>h.toNat
 |some _=>(h-l).toNat
def slcA (tb:Tb) (c:Nat) (ti:TI) (o:Os) (v:AV) (lo hi:Option AV) (K:AV->Prop):Prop:=match v with
 | .s x=>match ti.str with
  |true=>numO 0 lo fun l=>numO x.size hi fun h=>need tb c (0<=l/\l<=h/\h<=x.size) (K (.s (x.extract l.toNat h.toNat)))
  |false=>False
 | .row _ e n get=>match ti.el with
  |some (_,e',_)=>match Nat.beq e' e with
   |true=>numO 0 lo fun l=>numO n hi fun h=>need tb c (0<=l/\l<=h/\h<=n) (K (.row none e (lenO lo l h) (offO lo l get)))
   |false=>False
  |none=>False
 | .orow id e off n=>match lo with
  |none=>match ti.el with
   |some (_,e',_)=>match lk o id with
    |some (.row _ e'' N _)=>match Nat.beq e' e&&Nat.beq e'' e with
     |true=>numO n hi fun h=>need tb c (0<=h/\(off:Int)+h<=N/\(off:Int)+n<=N) (K (.orow id e off h.toNat))
     |false=>False
    |_=>False
   |none=>False
  |some _=>False
 | .pth id p e off n=>match ti.el with
  |some (_,e',_)=>match lk o id with
   |some (.tree e0 N get)=>navK tb c p e0 N get fun e'' n' _=>match Nat.beq e' e&&Nat.beq e'' e with
    |true=>numO 0 lo fun l=>numO n hi fun h=>need tb c (0<=l/\l<h/\(off:Int)+h<=n') (K (.pth id p e (off+l.toNat) (h-l).toNat))
    |false=>False
   |_=>False
  |none=>False
 |_=>False
def bndO (v:Option Value) (d:Nat) (l:Nat):Prop:=(v=none/\l=d)\/ ∃k m,v=some (.int k m)/\m=(l:Int)
theorem numO_ok {tb:Tb} {s:Sl} {c:Nat} {x:Option Operand} {v:Option AV} {d:Int} {K:Int->Prop} (h:numO d v K): ∃z,K z/\((v=none/\z=d)\/ ∃k,v=some (.i k z)):=by
 unfold numO at h
 split at h
 ·exact⟨d,h,.inl ⟨rfl,rfl⟩⟩
 ·exact⟨_,h,.inr ⟨_,rfl⟩⟩
 ·cases h
section
variable {P:Program} {t:TypeId} {w:World}
theorem run_slcS {q:ByteArray} {lo hi:Option Value} {L H:Nat} (hT:P.underlying t=some .string) (hl:bndO lo 0 L) (hh:bndO hi q.size H) (h1:L<=H) (h2:H<=q.size):
  (Instr.sliceAt t (.string q) lo hi none).run P w= .ok (.string (q.extract L H)) w:=by
 rcases hl with⟨rfl,rfl⟩|⟨k,m,rfl,rfl⟩<;>rcases hh with⟨rfl,rfl⟩|⟨k',m',rfl,rfl⟩<;>
  simp[Instr.sliceAt,Instr.slice,run_underlying hT,Instr.sliceBounds,run_sliceBound,h1,h2]
theorem run_slcR {e sz n cap:Nat} {A:Option Addr} {lo hi:Option Value} {L H:Nat} (hT:P.underlying t=some (.slice e)) (hs: ∀w,(sizeOf e).run P w= .ok sz w) (hl:bndO lo 0 L) (hh:bndO hi n H) (h1:L<=H) (h2:H<=cap):
  (Instr.sliceAt t (.slice A n cap) lo hi none).run P w= .ok (.slice (if cap=L then A else A.map (·.add (L*sz))) (H-L) (cap-L)) w:=by
 rcases hl with⟨rfl,rfl⟩|⟨k,m,rfl,rfl⟩<;>rcases hh with⟨rfl,rfl⟩|⟨k',m',rfl,rfl⟩<;>
  simp[Instr.sliceAt,Instr.slice,run_underlying hT,Instr.sliceBounds,run_sliceBound,hs,h1,h2]
end
section
variable {P:Program} {T:TT} {tb:Tb} {s:Sl} {o:Os} {c:Nat} {t:TypeId} {ti:TI} {x:Operand} {lo hi:Option Operand} {v:AV} {l h:Option AV} {K:AV->Prop}
theorem bnd_of {E:Env} {tb':Tb} {s':Sl} {o':Os} {β:Nat->Wt} {a:Act} {w:World} {y:Option Operand} {u:Option AV} {d z:Nat} {zi:Int} (hy:OpnO tb s c y u) (hz:(u=none/\zi=d)\/ ∃k,u=some (.i k zi)) (e:zi=z) (he:Ext tb tb') (hs': ∀q∈y.toList,∀t∈tmpO q,lk s' t=lk s t) (hg:Gam E tb' s' o' β a w) (hc':tg tb' c=true):bndO (y.map a.eval) d z:=by
 subst e
 rcases hz with⟨rfl,h⟩|⟨k,rfl⟩
 ·cases y with
  |none=>exact .inl ⟨rfl,by omega⟩
  |some y=>exact hy.elim
 ·cases y with
  |none=>exact hy.elim
  |some y=>
   have:=(Opn.to (s:=s) hy he (hs' y (by simp))).eval hg hc'
   unfold rel at this
   exact .inr ⟨k,z,by rw[Option.map_some,this],rfl⟩
theorem slcA_ok (hti:TIok P t ti) (hx:Opn tb s c x v) (hlo:OpnO tb s c lo l) (hhi:OpnO tb s c hi h) (hk:slcA tb c ti o v l h K): ∃r,K r/\Val P tb s o c (.slice t x lo hi none) r:=by
 unfold slcA at hk
 split at hk
 ·rename_i q
  split at hk
  ·rename_i hst
   obtain⟨L,hk,hL⟩:=numO_ok (tb:=tb) (s:=s) (c:=c) (x:=lo) hk
   obtain⟨H,hk,hH⟩:=numO_ok (tb:=tb) (s:=s) (c:=c) (x:=hi) hk
   obtain⟨hn,hk⟩:=need_ok hk
   refine⟨_,hk,fun E tb' s' o' β a w he hs' ho' hg hc hc' d ty pos after gu=>?_⟩
   have hx1:=(hx.to he (hs' x (by simp[Op.operands]))).eval hg hc'
   unfold rel at hx1
   obtain⟨n1,n2,n3⟩:=hn hc
   have b1:=bnd_of (d:=0) (z:=L.toNat) hlo hL (by omega) he (fun y hy=>hs' y (by simp[Op.operands] at hy⊢;simp[hy])) hg hc'
   have b2:=bnd_of (d:=q.size) (z:=H.toNat) hhi hH (by omega) he (fun y hy=>hs' y (by simp[Op.operands] at hy⊢;simp[hy])) hg hc'
   exact⟨_,by simp only[execOp,hx1,Option.map_none];exact run_next (run_slcS (hti.str hst) b1 b2 (by omega) (by omega)),rfl⟩
  ·cases hk
 ·rename_i nz e n get
  split at hk
  ·rename_i e0 e' bb hel
   obtain⟨hu,hs,_⟩:=hti.el _ _ _ hel
   split at hk
   ·rename_i hb
    have hb:=Nat.eq_of_beq_eq_true hb
    subst hb
    obtain⟨L,hk,hL⟩:=numO_ok (tb:=tb) (s:=s) (c:=c) (x:=lo) hk
    obtain⟨H,hk,hH⟩:=numO_ok (tb:=tb) (s:=s) (c:=c) (x:=hi) hk
    obtain⟨hn,hk⟩:=need_ok hk
    refine⟨_,hk,fun E tb' s' o' β a w he hs' ho' hg hc hc' d ty pos after gu=>?_⟩
    have hx1:=(hx.to he (hs' x (by simp[Op.operands]))).eval hg hc'
    unfold rel at hx1
    obtain⟨A,cap,us,e1,e2,e3,e4⟩:=hx1
    obtain⟨n1,n2,n3⟩:=hn hc
    have b1:=bnd_of (d:=0) (z:=L.toNat) hlo hL (by omega) he (fun y hy=>hs' y (by simp[Op.operands] at hy⊢;simp[hy])) hg hc'
    have b2:=bnd_of (d:=n) (z:=H.toNat) hhi hH (by omega) he (fun y hy=>hs' y (by simp[Op.operands] at hy⊢;simp[hy])) hg hc'
    refine⟨_,by simp only[execOp,e1,Option.map_none];exact run_next (run_slcR hu hs b1 b2 (by omega) (by omega)),?_⟩
    have z1:lenO l L H=H.toNat-L.toNat:=by
     unfold lenO;split
     ·rcases hL with⟨_,hL⟩|⟨k,hL⟩
      ·omega
      ·cases hL
     ·omega
    have z2: ∀i,offO l L get i=get (L.toNat+i):=fun i=>by
     unfold offO;split
     ·rcases hL with⟨_,hL⟩|⟨k,hL⟩
      ·rw[show L.toNat+i=i by omega]
      ·cases hL
     ·rfl
    rw[z1]
    refine⟨_,_,fun i=>us (L.toNat+i),rfl,(fun z hz=>by cases hz),⟨by omega,by omega⟩,fun i hi=>?_⟩
    obtain⟨⟨ad,r1,r2⟩,r3,r4⟩:=e4 (L.toNat+i) (by omega)
    subst r1
    rw[if_neg (by omega),z2]
    refine⟨⟨_,rfl,?_⟩,r3,r4⟩
    rw[add_add,<-Nat.add_mul];exact r2
   ·cases hk
  ·cases hk
 ·rename_i id e off n
  split at hk
  ·split at hk
   ·rename_i e0 e' bb hel
    obtain⟨hu,hs,_⟩:=hti.el _ _ _ hel
    split at hk
    ·rename_i e'' N get hlk
     split at hk
     ·rename_i hb
      simp only[Bool.and_eq_true] at hb
      have hb1:=Nat.eq_of_beq_eq_true hb.1
      have hb2:=Nat.eq_of_beq_eq_true hb.2
      subst hb1 hb2
      obtain⟨H,hk,hH⟩:=numO_ok (tb:=tb) (s:=s) (c:=c) (x:=hi) hk
      obtain⟨hn,hk⟩:=need_ok hk
      refine⟨_,hk,fun E tb' s' o' β a w he hs' ho' hg hc hc' d ty pos after gu=>?_⟩
      have hx1:=(hx.to he (hs' x (by simp[Op.operands]))).eval hg hc'
      unfold rel at hx1
      obtain⟨h0,h1⟩:=hx1
      obtain⟨n1,n2,n3⟩:=hn hc
      have hob:=hg.objs id _ (ho' _ _ hlk)
      have b1:bndO (lo.map a.eval) 0 0:=by
       cases lo with
       |none=>exact .inl ⟨rfl,rfl⟩
       |some y=>exact hlo.elim
      have b2:=bnd_of (d:=n) (z:=H.toNat) hhi hH (by omega) he (fun y hy=>hs' y (by simp[Op.operands] at hy⊢;simp[hy])) hg hc'
      refine⟨_,by simp only[execOp,h1,Option.map_none];exact run_next (run_slcR hu hs b1 b2 (by omega) (by have:=hob.1;omega)),h0,?_⟩
      rw[Nat.sub_zero,Nat.sub_zero,Nat.zero_mul]
      congr 1
      split
      ·rfl
      ·cases(β id).a with
       |none=>rfl
       |some ad=>simp only[Option.map_some,add_add,Nat.add_zero]
     ·cases hk
    ·cases hk
   ·cases hk
  ·cases hk
 ·rename_i id p e off n
  split at hk
  ·rename_i e0 e' bb hel
   obtain⟨hu,hs,_⟩:=hti.el _ _ _ hel
   split at hk
   ·rename_i e0' N get hlk
    obtain⟨e'',n',g,hk2,hnav⟩:=navK_ok hk
    clear hk
    have hk:=hk2
    clear hk2
    split at hk
    ·rename_i hb
     simp only[Bool.and_eq_true] at hb
     have hb1:=Nat.eq_of_beq_eq_true hb.1
     have hb2:=Nat.eq_of_beq_eq_true hb.2
     subst hb1 hb2
     obtain⟨L,hk,hL⟩:=numO_ok (tb:=tb) (s:=s) (c:=c) (x:=lo) hk
     obtain⟨H,hk,hH⟩:=numO_ok (tb:=tb) (s:=s) (c:=c) (x:=hi) hk
     obtain⟨hn,hk⟩:=need_ok hk
     refine⟨_,hk,fun E tb' s' o' β a w he hs' ho' hg hc hc' d ty pos after gu=>?_⟩
     have hx1:=(hx.to he (hs' x (by simp[Op.operands]))).eval hg hc'
     unfold rel at hx1
     obtain⟨h0,h1⟩:=hx1
     obtain⟨n1,n2,n3⟩:=hn hc
     obtain⟨nz',hsub⟩:=hnav hc none
     obtain⟨_,u,F,ht⟩:=tree_node hg (ho' _ _ hlk) hsub
     unfold treeD at ht
     have hcap:n'<=(rsub (β id) p).2:=ht.2.2.1.1
     have b1:=bnd_of (d:=0) (z:=L.toNat) hlo hL (by omega) he (fun y hy=>hs' y (by simp[Op.operands] at hy⊢;simp[hy])) hg hc'
     have b2:=bnd_of (d:=n) (z:=H.toNat) hhi hH (by omega) he (fun y hy=>hs' y (by simp[Op.operands] at hy⊢;simp[hy])) hg hc'
     refine⟨_,by simp only[execOp,h1,Option.map_none];exact run_next (run_slcR hu hs b1 b2 (by omega) (by omega)),h0,?_⟩
     rw[if_neg (by omega),show(H-L).toNat=H.toNat-L.toNat by omega,Nat.sub_sub]
     congr 1
     cases(rsub (β id) p).1 with
     |none=>rfl
     |some ad=>simp only[Option.map_some,add_add,<-Nat.add_mul]
    ·cases hk
   ·cases hk
  ·cases hk
 ·cases hk
end
def sloA (ti:TI) (s:Sl) (o:Os) (d:Nat) (v lo:AV) (hi:Option AV) (K:AV->Os->Prop):Prop:=match v with
 | .orow c e off n=>match ti.el with
  |some (_,e',_)=>match fresh d s o with
   |true=>match lk o c with
    |some (.row q e'' N get)=>match Nat.beq e' e&&Nat.beq e'' e with
     |true=>numO 0 (some lo) fun l=>numO n hi fun h=>(0<=l/\l<=h/\(off:Int)+h<=N)/\remK o c fun o'=>K (.orow d e 0 (h-l).toNat) ((d,.row q e (h-l).toNat (offF (addZ off l.toNat) get))::o')
     |false=>False
    |_=>False
   |false=>False
  |none=>False
 |_=>False
section
variable {P:Program} {tb:Tb} {s:Sl} {o:Os} {d:Nat} {t:TypeId} {ti:TI} {x lo:Operand} {hi:Option Operand} {v lv:AV} {hv:Option AV} {K:AV->Os->Prop}
theorem sloA_ok {ty:TypeId} {pos:String} {after:Array Edge} {gu:Option (Nat×Bool)} (hti:TIok P t ti) (hx:Opn tb s 0 x v) (hlo:Opn tb s 0 lo lv) (hhi:OpnO tb s 0 hi hv) (h:sloA ti s o d v lv hv K):
  ∃r o',K r o'/\Mut P tb s o ⟨some d,.slice t x (some lo) hi none,ty,pos,after,gu⟩ ((d,0,r)::s) o':=by
 unfold sloA at h
 split at h
 ·rename_i c e off n
  split at h
  ·rename_i e0 e' B hel
   obtain⟨hu,hs,_⟩:=hti.el _ _ _ hel
   split at h
   ·rename_i hfr
    split at h
    ·rename_i q e'' N get hlk
     split at h
     ·rename_i hb
      simp only[Bool.and_eq_true] at hb
      have hb1:=Nat.eq_of_beq_eq_true hb.1
      have hb2:=Nat.eq_of_beq_eq_true hb.2
      subst hb1 hb2
      obtain⟨L,h,hL⟩:=numO_ok (tb:=tb) (s:=s) (c:=0) (x:=some lo) h
      obtain⟨H,h,hH⟩:=numO_ok (tb:=tb) (s:=s) (c:=0) (x:=hi) h
      obtain⟨⟨n1,n2,n3⟩,h⟩:=h
      refine⟨_,_,remK_ok (K:=fun o'=>K (.orow d e'' 0 (H-L).toNat) ((d,.row q e'' (H-L).toNat (offF (addZ off L.toNat) get))::o')) h,fun E β a w hg hd K Q hK=>?_⟩
      have hc:=tg_zero hg.tbok
      have h1:=hx.eval hg hc
      unfold rel at h1
      obtain⟨h0,h1⟩:=h1
      have b1:=bnd_of (d:=0) (z:=L.toNat) (show OpnO tb s 0 (some lo) (some lv) from hlo) hL (by omega) (Ext.refl _) (fun _ _ _ _=>rfl) hg hc
      have b2:=bnd_of (d:=n) (z:=H.toNat) hhi hH (by omega) (Ext.refl _) (fun _ _ _ _=>rfl) hg hc
      obtain⟨z1,z2,z3⟩:=hg.objs c _ hlk
      have hcap:H.toNat<=(β c).cap-off:=by omega
      have hrun:=run_slcR (P:=P) (w:=w) hu hs b1 b2 (by omega) hcap (A:=(β c).a.map (·.add (off*e'')))
      rw[addZ_eq] at hK
      have hex:(execOp a.eval ⟨some d,.slice t x (some lo) hi none,ty,pos,after,gu⟩).run P w= .ok (.value (.slice (if(β c).cap-off=L.toNat then(β c).a.map (·.add (off*e'')) else((β c).a.map (·.add (off*e''))).map (·.add (L.toNat*e''))) (H.toNat-L.toNat) ((β c).cap-off-L.toNat))) w:=by
       simp only[execOp,h1,Option.map_none];exact run_next hrun
      unfold Oper.wp
      rw[hex,Oper.upon_value]
      have hlen:(H-L).toNat=H.toNat-L.toNat:=by omega
      rw[hlen] at hK
      have hmx:H.toNat-L.toNat<=maxLen:=by omega
      have key: ∀p',p'=(if(β c).cap-off=L.toNat then(β c).a.map (·.add (off*e'')) else((β c).a.map (·.add (off*e''))).map (·.add (L.toNat*e'')))->Gam E tb s ((d,.row q e'' (H.toNat-L.toNat) (offF (off+L.toNat) get))::rem o c) (setB β d ⟨p',(β c).cap-off-L.toNat,(β c).foot,true,sub0⟩) a w:=fun p' hp'=>by
       refine hg.move (c:=c) (d:=d) (W:=⟨p',(β c).cap-off-L.toNat,(β c).foot,true,sub0⟩) (w':=w) hlk hfr (fun k hk=>⟨.inl hk,(hg.new k (foot_feet hlk k hk)).2⟩) (by rcases z3 with⟨_,_,y3⟩|⟨b,_,_,_,_,_,y2,_⟩;(show(β c).foot.Nodup;rw[y3];exact List.nodup_nil);(show(β c).foot.Nodup;rw[y2];simp)) rfl rfl rfl (Nat.le_refl _) (fun _ _ _=>rfl) fun hc=>?_
       refine⟨by show H.toNat-L.toNat<=(β c).cap-off-L.toNat;omega,hmx,?_⟩
       rcases z3 with⟨y1,y2,y3⟩|⟨b,off',cells,ty',us,y1,y2,y3,y4,y5⟩
       ·refine .inl ⟨?_,by show(β c).cap-off-L.toNat=0;omega,y3⟩
        show p'=none
        rw[hp',y1];split<;>rfl
       ·right
        have y41:=y4.1
        have m1:=Nat.mul_le_mul_right e'' (show off<=(β c).cap by omega)
        by_cases hz:(β c).cap-off=L.toNat
        ·rw[if_pos hz,y1] at hp'
         refine⟨b,off'+off*e'',cells,ty',us,?_,y2,y3,⟨?_,y4.2⟩,fun i hi=>?_⟩
         ·show p'=_
          rw[hp'];show some ((⟨b,off',none⟩:Addr).add (off*e''))=_;rw[add_none]
         ·show off'+off*e''+((β c).cap-off-L.toNat)*e''<=cells.length
          rw[show(β c).cap-off-L.toNat=0 by omega,Nat.zero_mul];omega
         ·omega
        ·rw[if_neg hz,y1] at hp'
         refine⟨b,off'+off*e''+L.toNat*e'',cells,ty',fun i=>us (off+L.toNat+i),?_,y2,y3,⟨?_,y4.2⟩,fun i hi=>?_⟩
         ·show p'=_
          rw[hp'];show some (((⟨b,off',none⟩:Addr).add (off*e'')).add (L.toNat*e''))=_;rw[add_none,add_none]
         ·show off'+off*e''+L.toNat*e''+((β c).cap-off-L.toNat)*e''<=cells.length
          have m2:off*e''+L.toNat*e''+((β c).cap-off-L.toNat)*e''=(β c).cap*e'':=by
           rw[<-Nat.add_mul,<-Nat.add_mul];congr 1;omega
          omega
         ·obtain⟨⟨r1,r2⟩,r3⟩:=y5 (off+L.toNat+i) (by omega)
          refine⟨⟨r1,fun j f hf=>?_⟩,by rw[offF_eq];exact rels_mono hc _ _ r3⟩
          rw[<-r2 j f hf]
          congr 1
          rw[Nat.add_mul,Nat.add_mul];omega
      exact hK _ _ _ ((key _ rfl).put0 (d:=d) (v:= .orow d e'' 0 (H.toNat-L.toNat)) (hd d rfl) ⟨by rw[setB_self],by
       rw[setB_self,Nat.zero_mul]
       show Value.slice _ _ _=Value.slice (Option.map _ (if _ then _ else _)) _ _
       congr 1
       split<;>cases(β c).a<;>rfl⟩)
     ·cases h
    ·cases h
   ·cases h
  ·cases h
 ·cases h
end
def pthC (id:Nat) (p:Pth):AV->AV
 | .row _ e n _=>.pth id p e 0 n
 |x=>x
def pthCs (id:Nat) (p:Pth) (i:Nat):Nat->List AV->List AV
 |_,[]=>[]
 |j,x::xs=>pthC id (p++[(i,j)]) x::pthCs id p i (j+1) xs
theorem treeD_read {S:Nat->Prop} {β:Nat->Wt} {w:World} {id:Nat} (hok:(β id).ok=true) {x:AV} {p:Pth} {u:Value} {F:List Nat} (h:treeD S w (rsub (β id)) x p u F):rel S β w (pthC id p x) u:=by
 cases x
 case row nz e n get=>
  unfold treeD at h
  refine⟨hok,?_⟩
  rw[h.1,Nat.zero_mul,Nat.sub_zero]
  congr 1
  cases(rsub (β id) p).1 with
  |none=>rfl
  |some ad=>rfl
 case nil=>unfold treeD at h;exact rel_W0 h.2.1
 all_goals exact rel_W0 h.2
theorem treeDs_read {S:Nat->Prop} {β:Nat->Wt} {w:World} {id:Nat} (hok:(β id).ok=true) {p:Pth} {i:Nat}: ∀ {cs:List AV} {j:Nat} {us:List Value} {F:List Nat},treeDs S w (rsub (β id)) cs p i j us F->rels S β w (pthCs id p i j cs) us
 |[],j,us,F,h=>h.1
 |x::xs,j,us,F,h=>by
  unfold treeDs at h
  obtain⟨u,us',F1,F2,rfl,rfl,h1,h2⟩:=h
  exact⟨u,us',rfl,treeD_read hok h1,treeDs_read hok h2⟩
def isTree:Option Obj->Bool
 |some (.tree _ _ _)=>true
 |_=>false
def treeV (o:Os):AV->Bool
 | .pth _ _ _ _ _=>true
 | .pp _ _ _ _ _=>true
 | .orow id _ _ _=>isTree (lk o id)
 | .rp id _ _ _=>isTree (lk o id)
 |_=>false
section
variable {P:Program} {T:TT} {tb:Tb} {s:Sl} {o:Os} {c:Nat} {t:TypeId} {ti:TI} {x y:Operand} {u v:AV} {K:AV->Prop}
def lenT (ti:TI) (v:AV) (K:AV->Prop):Prop:=match v with
 | .pth _ _ _ _ n=>match ti.el with
  |some _=>K (.i .i64 n)
  |none=>False
 | .orow _ _ _ n=>match ti.el with
  |some _=>K (.i .i64 n)
  |none=>False
 |_=>False
theorem lenT_ok (hti:TIok P t ti) (hx:Opn tb s c x v) (h:lenT ti v K): ∃r,K r/\Val P tb s o c (.call ⟨.builtin .len,#[x],#[t]⟩) r:=by
 have hm:x∈(Op.call ⟨.builtin .len,#[x],#[t]⟩).operands:=by simp[Op.operands,Call.operands]
 unfold lenT at h
 split at h
 ·split at h
  ·rename_i q hel
   refine⟨_,h,Val.un hx hm fun S β w a hc h d ty pos after gu=>?_⟩
   unfold rel at h
   exact⟨_,run_len (hti.el q.1 q.2.1 q.2.2 hel).1 h.2 w,rfl⟩
  ·cases h
 ·split at h
  ·rename_i q hel
   refine⟨_,h,Val.un hx hm fun S β w a hc h d ty pos after gu=>?_⟩
   unfold rel at h
   exact⟨_,run_len (hti.el q.1 q.2.1 q.2.2 hel).1 h.2 w,rfl⟩
  ·cases h
 ·cases h
def fldT (ti:TI) (f:Nat) (v:AV) (K:AV->Prop):Prop:=match nthN f ti.offs with
 |none=>False
 |some (j,_)=>match v with
  | .rp id e i j'=>K (.rp id e i (j'+j))
  | .pp id p e i j'=>K (.pp id p e i (j'+j))
  |_=>False
theorem fldT_ok {f:Nat} (hti:TIok P t ti) (hx:Opn tb s c x v) (h:fldT ti f v K): ∃r,K r/\Val P tb s o c (.fieldAddr t x f) r:=by
 unfold fldT at h
 split at h
 ·cases h
 ·rename_i j jn hj
  rw[nthN_eq] at hj
  have hf:=hti.offs f j jn hj
  split at h
  ·refine⟨_,h,Val.un hx (by simp[Op.operands]) fun S β w a hc h d ty pos after gu=>?_⟩
   unfold rel at h
   obtain⟨h0,b,h1,h2⟩:=h
   exact⟨_,by simp only[execOp,h2];exact run_next (hf _ w),h0,b,h1,by rw[add_add,Nat.add_assoc]⟩
  ·refine⟨_,h,Val.un hx (by simp[Op.operands]) fun S β w a hc h d ty pos after gu=>?_⟩
   unfold rel at h
   obtain⟨h0,b,h1,h2⟩:=h
   exact⟨_,by simp only[execOp,h2];exact run_next (hf _ w),h0,b,h1,by rw[add_add,Nat.add_assoc]⟩
  ·cases h
def idxT (tb:Tb) (c:Nat) (ti:TI) (o:Os) (u v:AV) (K:AV->Prop):Prop:=match ti.el,v with
 |some (_,e,_),.i _ m=>match u with
  | .orow id e' off n=>match lk o id with
   |some (.tree e'' N get)=>match Nat.beq e e'&&Nat.beq e e'' with
    |true=>need tb c (0<=m/\m<n/\addZ off m.toNat<N) (K (.rp id e (addZ off m.toNat) 0))
    |false=>False
   |_=>False
  | .pth id p e' off n=>match lk o id with
   |some (.tree e0 N get)=>navK tb c p e0 N get fun e'' n' g=>match Nat.beq e e'&&Nat.beq e e'' with
    |true=>need tb c (0<=m/\m<n/\addZ off m.toNat<n') (K (.pp id p e (addZ off m.toNat) 0))
    |false=>False
   |_=>False
  |_=>False
 |_,_=>False
theorem idxT_ok (hti:TIok P t ti) (hx:Opn tb s c x u) (hy:Opn tb s c y v) (h:idxT tb c ti o u v K): ∃r,K r/\Val P tb s o c (.indexAddr t x y) r:=by
 unfold idxT at h
 split at h
 ·rename_i e0 e bb kk m hel
  obtain⟨hu,hs,_⟩:=hti.el _ _ _ hel
  split at h
  ·rename_i id e' off n
   split at h
   ·rename_i e'' N get hlk
    split at h
    ·rename_i hb
     simp only[Bool.and_eq_true] at hb
     have hb1:=Nat.eq_of_beq_eq_true hb.1
     have hb2:=Nat.eq_of_beq_eq_true hb.2
     subst hb1 hb2
     obtain⟨hn,h⟩:=need_ok h
     refine⟨_,h,fun E tb' s' o' β a w he' hs' ho' hg hc hc' d ty pos after gu=>?_⟩
     have h1:=(hx.to he' (hs' x (by simp[Op.operands]))).eval hg hc'
     have h2:=(hy.to he' (hs' y (by simp[Op.operands]))).eval hg hc'
     obtain⟨q0,q1⟩:=hg.objs id _ (ho' _ _ hlk)
     unfold rel at h1 h2
     have hn:=hn hc
     rw[addZ_eq] at hn⊢
     unfold treeD at q1
     obtain⟨_,_,q2,q3⟩:=q1
     rcases q3 with⟨z1,z2,z3⟩|⟨b,off',cells,ty',us,FS,z1,_⟩
     ·omega
     ·obtain⟨h0,h1⟩:=h1
      simp only[rsub] at z1
      rw[z1] at h1
      refine⟨_,by simp only[execOp,h1,h2];exact run_next (run_index hu hs ⟨hn.1,hn.2.1⟩ w),h0,⟨b,off',none⟩,z1,?_⟩
      rw[add_add,Nat.add_mul,Nat.add_zero]
    ·cases h
   ·cases h
  ·rename_i id p e' off n
   split at h
   ·rename_i e00 N get hlk
    obtain⟨e'',n',g,hk,hnav⟩:=navK_ok h
    clear h
    have h:=hk
    clear hk
    split at h
    ·rename_i hb
     simp only[Bool.and_eq_true] at hb
     have hb1:=Nat.eq_of_beq_eq_true hb.1
     have hb2:=Nat.eq_of_beq_eq_true hb.2
     subst hb1 hb2
     obtain⟨hn,h⟩:=need_ok h
     refine⟨_,h,fun E tb' s' o' β a w he' hs' ho' hg hc hc' d ty pos after gu=>?_⟩
     have h1:=(hx.to he' (hs' x (by simp[Op.operands]))).eval hg hc'
     have h2:=(hy.to he' (hs' y (by simp[Op.operands]))).eval hg hc'
     obtain⟨nz',hsub⟩:=hnav hc none
     obtain⟨hok,u',F',q1⟩:=tree_node hg (ho' _ _ hlk) hsub
     unfold rel at h1 h2
     have hn:=hn hc
     rw[addZ_eq] at hn⊢
     unfold treeD at q1
     obtain⟨_,_,q2,q3⟩:=q1
     rcases q3 with⟨z1,z2,z3⟩|⟨b,off',cells,ty',us,FS,z1,_⟩
     ·omega
     ·obtain⟨h0,h1⟩:=h1
      rw[z1] at h1
      refine⟨_,by simp only[execOp,h1,h2];exact run_next (run_index hu hs ⟨hn.1,hn.2.1⟩ w),h0,⟨b,off',none⟩,z1,?_⟩
      rw[add_add,Nat.add_mul,Nat.add_zero]
    ·cases h
   ·cases h
  ·cases h
 ·cases h
def loadT (tb:Tb) (c:Nat) (ti:TI) (o:Os) (v:AV) (K:AV->Prop):Prop:=match v with
 | .rp id e i j=>match lk o id with
  |some (.tree e' n get)=>match Nat.beq e e' with
   |true=>need tb c (i<n) (dropK j (pthCs id [] i 0 (get i)) fun cs=>ldK ti cs K)
   |false=>False
  |_=>False
 | .pp id p e i j=>match lk o id with
  |some (.tree e0 N get)=>navK tb c p e0 N get fun e' n g=>match Nat.beq e e' with
   |true=>need tb c (i<n) (dropK j (pthCs id p i 0 (g i)) fun cs=>ldK ti cs K)
   |false=>False
  |_=>False
 |_=>False
theorem node_cells {S:Nat->Prop} {β:Nat->Wt} {w:World} {id:Nat} (hok:(β id).ok=true) {nz:Option Bool} {e n:Nat} {g:Nat->List AV} {p:Pth} {u:Value} {F:List Nat} (h:treeD S w (rsub (β id)) (.row nz e n g) p u F) {i:Nat} (hi:i<n) (j:Nat):
  ∃ad us,(rsub (β id) p).1=some ad/\cellsAt (ad.add (i*e+j)) (us.drop j) w/\rels S β w (pthCs id p i 0 (g i)) us:=by
 unfold treeD at h
 obtain⟨_,_,q2,q3⟩:=h
 rcases q3 with⟨z1,z2,z3⟩|⟨b,off',cells,ty',us,FS,z1,_,z3,z4,z5⟩
 ·omega
 ·obtain⟨⟨y1,y2⟩,y3⟩:=z5 i hi
  refine⟨_,us i,z1,fun k u hu=>?_,treeDs_read hok y3⟩
  rw[List.getElem?_drop] at hu
  rw[add_none,add_none,cell_blk z3,<-Nat.add_assoc,Nat.add_assoc _ j k,<-y2 _ u hu,<-Nat.add_assoc]
theorem loadT_ok (hti:TIok P t ti) (hx:Opn tb s c x v) (h:loadT tb c ti o v K): ∃r,K r/\Val P tb s o c (.load t x) r:=by
 unfold loadT at h
 split at h
 ·rename_i id e i j
  split at h
  ·rename_i e' n get hlk
   split at h
   ·rename_i hb
    have hb:=Nat.eq_of_beq_eq_true hb
    subst hb
    obtain⟨hn,h⟩:=need_ok h
    obtain⟨_,h⟩:=dropK_ok h
    obtain⟨r,h1,h2⟩:=ldK_ok hti h
    refine⟨r,h1,fun E tb' s' o' β a w he' hs' ho' hg hc hc' d ty pos after gu=>?_⟩
    have hv:=(hx.to he' (hs' x (by simp[Op.operands]))).eval hg hc'
    obtain⟨q0,q1⟩:=hg.objs id _ (ho' _ _ hlk)
    unfold rel at hv
    obtain⟨_,ad,e1,e2⟩:=hv
    obtain⟨ad',us,z1,z2,z3⟩:=node_cells q0 q1 (hn hc) j
    simp only[rsub] at z1
    rw[z1] at e1
    cases e1
    obtain⟨q,e7,e8⟩:=h2 _ _ w _ _ z2 (rels_drop z3)
    exact⟨q,by simp only[execOp,e2];exact run_next e7,e8⟩
   ·cases h
  ·cases h
 ·rename_i id p e i j
  split at h
  ·rename_i e0 N get hlk
   obtain⟨e',n,g,hk,hnav⟩:=navK_ok h
   clear h
   have h:=hk
   clear hk
   split at h
   ·rename_i hb
    have hb:=Nat.eq_of_beq_eq_true hb
    subst hb
    obtain⟨hn,h⟩:=need_ok h
    obtain⟨_,h⟩:=dropK_ok h
    obtain⟨r,h1,h2⟩:=ldK_ok hti h
    refine⟨r,h1,fun E tb' s' o' β a w he' hs' ho' hg hc hc' d ty pos after gu=>?_⟩
    have hv:=(hx.to he' (hs' x (by simp[Op.operands]))).eval hg hc'
    obtain⟨nz',hsub⟩:=hnav hc none
    obtain⟨hok,u',F',q1⟩:=tree_node hg (ho' _ _ hlk) hsub
    unfold rel at hv
    obtain⟨_,ad,e1,e2⟩:=hv
    obtain⟨ad',us,z1,z2,z3⟩:=node_cells hok q1 (hn hc) j
    rw[z1] at e1
    cases e1
    obtain⟨q,e7,e8⟩:=h2 _ _ w _ _ z2 (rels_drop z3)
    exact⟨q,by simp only[execOp,e2];exact run_next e7,e8⟩
   ·cases h
  ·cases h
 ·cases h
end
end Go.Proofs.YtnfdieeaelhpbaaGreatDoor
