/- The engine and the contracts of the functions that the statement reaches, part 2. -/
import Derived.Test.YtnfdieeaelhpbaaGreatDoorMa
set_option linter.unusedVariables false
set_option linter.unusedSimpArgs false
set_option maxRecDepth 100000
set_option maxHeartbeats 8000000
namespace Go.Proofs.YtnfdieeaelhpbaaGreatDoor
open Go.RowKit
mutual
def menP (d:Nat):AV->Bool
 | .pth id _ _ _ _=>Nat.beq id d
 | .pp id _ _ _ _=>Nat.beq id d
 | .agg cs=>menPs d cs
 | .tup cs=>menPs d cs
 | .clo _ cs=>menPs d cs
 | .ifc _ x=>menP d x
 |_=>false
def menPs (d:Nat):List AV->Bool
 |[]=>false
 |x::xs=>menP d x||menPs d xs
end
def Core (W W':Wt):Prop:=W'.a=W.a/\W'.cap=W.cap/\W'.ok=W.ok
theorem Core.refl (W:Wt):Core W W:=⟨rfl,rfl,rfl⟩
mutual
theorem rel_core {S:Nat->Prop} {β β':Nat->Wt} {w:World}: ∀(x:AV) (u:Value),(∀id,men id x=true->Core (β id) (β' id))->(∀id,menP id x=true-> ∀p,rsub (β' id) p=rsub (β id) p)->rel S β w x u->rel S β' w x u
 | .i k z,u,hm,hp,h=>h
 | .b t,u,hm,hp,h=>h
 | .s x,u,hm,hp,h=>h
 | .v x,u,hm,hp,h=>h
 | .nil,u,hm,hp,h=>h
 | .row nz e n get,u,hm,hp,h=>h
 | .agg cs,u,hm,hp,⟨us,h1,h2⟩=>⟨us,h1,rels_core cs us hm hp h2⟩
 | .tup cs,u,hm,hp,⟨us,h1,h2⟩=>⟨us,h1,rels_core cs us hm hp h2⟩
 | .cp cs,u,hm,hp,h=>h
 | .op id off,u,hm,hp,h=>by
  obtain⟨c1,c2,c3⟩:=hm id (by simp[men])
  unfold rel at h⊢
  rw[c1,c3];exact h
 | .orow id e off n,u,hm,hp,h=>by
  obtain⟨c1,c2,c3⟩:=hm id (by simp[men])
  unfold rel at h⊢
  rw[c1,c2,c3];exact h
 | .rp id e i j,u,hm,hp,h=>by
  obtain⟨c1,c2,c3⟩:=hm id (by simp[men])
  unfold rel at h⊢
  rw[c1,c3];exact h
 | .clo f cs,u,hm,hp,⟨us,h1,h2⟩=>⟨us,h1,rels_core cs us hm hp h2⟩
 | .omap id,u,hm,hp,h=>by
  obtain⟨c1,c2,c3⟩:=hm id (by simp[men])
  unfold rel at h⊢
  rw[c1,c3];exact h
 | .ifc t x,u,hm,hp,⟨u',h1,h2⟩=>⟨u',h1,rel_core x u' hm hp h2⟩
 | .any,u,hm,hp,h=>h
 | .pth id p e off n,u,hm,hp,h=>by
  obtain⟨c1,c2,c3⟩:=hm id (by simp[men])
  unfold rel at h⊢
  rw[hp id (by simp[menP]),c3];exact h
 | .pp id p e i j,u,hm,hp,h=>by
  obtain⟨c1,c2,c3⟩:=hm id (by simp[men])
  unfold rel at h⊢
  rw[hp id (by simp[menP]),c3];exact h
theorem rels_core {S:Nat->Prop} {β β':Nat->Wt} {w:World}: ∀(x:List AV) (u:List Value),(∀id,mens id x=true->Core (β id) (β' id))->(∀id,menPs id x=true-> ∀p,rsub (β' id) p=rsub (β id) p)->rels S β w x u->rels S β' w x u
 |[],us,hm,hp,h=>h
 |v::vs,us,hm,hp,⟨u,us',h1,h2,h3⟩=>⟨u,us',h1,rel_core v u (fun id h=>hm id (by simp[mens,h])) (fun id h=>hp id (by simp[menPs,h])) h2,rels_core vs us' (fun id h=>hm id (by simp[mens,h])) (fun id h=>hp id (by simp[menPs,h])) h3⟩
end
mutual
def atP (d:Nat) (q:Pth):AV->Prop
 | .pth id p _ _ _=>id=d/\p=q
 | .pp id p _ _ _=>id=d/\p=q
 | .agg cs=>atPs d q cs
 | .tup cs=>atPs d q cs
 | .clo _ cs=>atPs d q cs
 | .ifc _ x=>atP d q x
 |_=>False
def atPs (d:Nat) (q:Pth):List AV->Prop
 |[]=>False
 |x::xs=>atP d q x\/atPs d q xs
end
mutual
theorem rel_coreQ {S:Nat->Prop} {β β':Nat->Wt} {w:World}: ∀(x:AV) (u:Value),(∀id,men id x=true->Core (β id) (β' id))->(∀id p,atP id p x->rsub (β' id) p=rsub (β id) p)->rel S β w x u->rel S β' w x u
 | .i k z,u,hm,hp,h=>h
 | .b t,u,hm,hp,h=>h
 | .s x,u,hm,hp,h=>h
 | .v x,u,hm,hp,h=>h
 | .nil,u,hm,hp,h=>h
 | .row nz e n get,u,hm,hp,h=>h
 | .agg cs,u,hm,hp,⟨us,h1,h2⟩=>⟨us,h1,rels_coreQ cs us hm hp h2⟩
 | .tup cs,u,hm,hp,⟨us,h1,h2⟩=>⟨us,h1,rels_coreQ cs us hm hp h2⟩
 | .cp cs,u,hm,hp,h=>h
 | .op id off,u,hm,hp,h=>by
  obtain⟨c1,c2,c3⟩:=hm id (by simp[men])
  unfold rel at h⊢
  rw[c1,c3];exact h
 | .orow id e off n,u,hm,hp,h=>by
  obtain⟨c1,c2,c3⟩:=hm id (by simp[men])
  unfold rel at h⊢
  rw[c1,c2,c3];exact h
 | .rp id e i j,u,hm,hp,h=>by
  obtain⟨c1,c2,c3⟩:=hm id (by simp[men])
  unfold rel at h⊢
  rw[c1,c3];exact h
 | .clo f cs,u,hm,hp,⟨us,h1,h2⟩=>⟨us,h1,rels_coreQ cs us hm hp h2⟩
 | .omap id,u,hm,hp,h=>by
  obtain⟨c1,c2,c3⟩:=hm id (by simp[men])
  unfold rel at h⊢
  rw[c1,c3];exact h
 | .ifc t x,u,hm,hp,⟨u',h1,h2⟩=>⟨u',h1,rel_coreQ x u' hm hp h2⟩
 | .any,u,hm,hp,h=>h
 | .pth id p e off n,u,hm,hp,h=>by
  obtain⟨c1,c2,c3⟩:=hm id (by simp[men])
  unfold rel at h⊢
  rw[hp id p ⟨rfl,rfl⟩,c3];exact h
 | .pp id p e i j,u,hm,hp,h=>by
  obtain⟨c1,c2,c3⟩:=hm id (by simp[men])
  unfold rel at h⊢
  rw[hp id p ⟨rfl,rfl⟩,c3];exact h
theorem rels_coreQ {S:Nat->Prop} {β β':Nat->Wt} {w:World}: ∀(x:List AV) (u:List Value),(∀id,mens id x=true->Core (β id) (β' id))->(∀id p,atPs id p x->rsub (β' id) p=rsub (β id) p)->rels S β w x u->rels S β' w x u
 |[],us,hm,hp,h=>h
 |v::vs,us,hm,hp,⟨u,us',h1,h2,h3⟩=>⟨u,us',h1,rel_coreQ v u (fun id h=>hm id (by simp[mens,h])) (fun id p h=>hp id p (.inl h)) h2,rels_coreQ vs us' (fun id h=>hm id (by simp[mens,h])) (fun id p h=>hp id p (.inr h)) h3⟩
end
theorem treeDs_pre {S:Nat->Prop} {w:World} {sb:Sub} {p:Pth} {i:Nat}: ∀ {k:Nat} {cs:List AV} {j0:Nat} {us:List Value} {F:List Nat},treeDs S w sb cs p i j0 us F->k<=cs.length->
  ∃M B,F=M++B/\ ∀(S':Nat->Prop) (w':World) (sb':Sub) (xs:List AV) (vs:List Value) (Fx':List Nat),xs.length=k->Comp S w S' w'->(∀q∈B,w'.heap[q]?=w.heap[q]?)->(∀c r,j0+k<=c->sb' (p++(i,c)::r)=sb (p++(i,c)::r))->
   treeDs S' w' sb' xs p i j0 vs Fx'->treeDs S' w' sb' (splice cs 0 xs) p i j0 (splice us 0 vs) (Fx'++B)
 |0,cs,j0,us,F,h,hk=>by
  refine⟨[],F,rfl,fun S' w' sb' xs vs Fx' hl hc hF hs hx=>?_⟩
  have:xs=[]:=List.eq_nil_of_length_eq_zero hl
  subst this
  unfold treeDs at hx
  obtain⟨rfl,rfl⟩:=hx
  rw[splice_nil,splice_nil]
  exact treeDs_mono hc _ _ _ _ _ _ hF (fun c r hcj=>hs c r (by omega)) h
 |k+1,[],j0,us,F,h,hk=>by simp at hk
 |k+1,v::cs,j0,us,F,h,hk=>by
  unfold treeDs at h
  obtain⟨u,us',F1,F2,rfl,rfl,h1,h2⟩:=h
  obtain⟨M,B,rfl,h3⟩:=treeDs_pre (k:=k) h2 (by simpa using hk)
  refine⟨F1++M,B,by simp[List.append_assoc],fun S' w' sb' xs vs Fx' hl hc hF hs hx=>?_⟩
  cases xs with
  |nil=>simp at hl
  |cons x xs=>
   unfold treeDs at hx
   obtain⟨y,ys,G1,G2,rfl,rfl,g1,g2⟩:=hx
   have:=h3 S' w' sb' xs ys G2 (by simpa using hl) hc hF (fun c r hcj=>hs c r (by omega)) g2
   simp only[splice]
   exact⟨y,_,G1,_,rfl,by simp[List.append_assoc],g1,this⟩
theorem treeDs_seg {S:Nat->Prop} {w:World} {sb:Sub} {p:Pth} {i:Nat}: ∀ {j k:Nat} {cs:List AV} {j0:Nat} {us:List Value} {F:List Nat},treeDs S w sb cs p i j0 us F->j+k<=cs.length->
  ∃A M B,F=A++(M++B)/\ ∀(S':Nat->Prop) (w':World) (sb':Sub) (xs:List AV) (vs:List Value) (Fx':List Nat),xs.length=k->Comp S w S' w'->(∀q∈A++B,w'.heap[q]?=w.heap[q]?)->(∀c r,c<j0+j\/j0+j+k<=c->sb' (p++(i,c)::r)=sb (p++(i,c)::r))->
   treeDs S' w' sb' xs p i (j0+j) vs Fx'->treeDs S' w' sb' (splice cs j xs) p i j0 (splice us j vs) (A++(Fx'++B))
 |0,k,cs,j0,us,F,h,hk=>by
  obtain⟨M,B,rfl,h3⟩:=treeDs_pre (k:=k) h (by omega)
  exact⟨[],M,B,rfl,fun S' w' sb' xs vs Fx' hl hc hF hs hx=>h3 S' w' sb' xs vs Fx' hl hc hF (fun c r hcj=>hs c r (.inr (by omega))) hx⟩
 |j+1,k,[],j0,us,F,h,hk=>by simp at hk
 |j+1,k,v::cs,j0,us,F,h,hk=>by
  unfold treeDs at h
  obtain⟨u,us',F1,F2,rfl,rfl,h1,h2⟩:=h
  obtain⟨A,M,B,rfl,h3⟩:=treeDs_seg (j:=j) (k:=k) h2 (by simp at hk;omega)
  refine⟨F1++A,M,B,by simp[List.append_assoc],fun S' w' sb' xs vs Fx' hl hc hF hs hx=>?_⟩
  simp only[splice]
  refine⟨u,_,F1,A++(Fx'++B),rfl,by simp[List.append_assoc],?_,?_⟩
  ·exact treeD_mono hc v _ u F1 (fun q hq=>hF q (by simp[hq])) (fun r=>by rw[List.append_assoc];exact hs j0 r (.inl (by omega))) h1
  ·refine h3 S' w' sb' xs vs Fx' hl hc (fun q hq=>hF q (by simp at hq⊢;rcases hq with hq|hq<;>simp[hq])) (fun c r hcj=>hs c r (by omega)) ?_
   rw[show j0+1+j=j0+(j+1) by omega];exact hx
def setG (get:Nat->List AV) (i j:Nat) (xs:List AV):Nat->List AV:=fun k=>if k=i then splice (get i) j xs else get k
theorem node_seg {S:Nat->Prop} {w:World} {sb:Sub} {p:Pth} {nz:Option Bool} {e n:Nat} {get:Nat->List AV} {u:Value} {F:List Nat} {i j k:Nat} (h:treeD S w sb (.row nz e n get) p u F) (hi:i<n) (hj:j+k<=e):
  ∃b off cells ty A M B,(sb p).1=some ⟨b,off,none⟩/\w.heap[b]?=some (.cells (cells:List Value).toArray ty (0,0))/\off+(sb p).2*e<=cells.length/\i<(sb p).2/\F=b::(A++(M++B))/\
   ∀(S':Nat->Prop) (w':World) (sb':Sub) (xs:List AV) (vs:List Value) (Fx':List Nat),xs.length=k->Comp S w S' w'->(∀q∈A++B,w'.heap[q]?=w.heap[q]?)->w'.heap[b]?=some (.cells (splice cells (off+(i*e+j)) vs).toArray ty (0,0))->vs.all (·.oneCell')=true->sb' p=sb p->
    (∀i' c r,i'≠i\/c<j\/j+k<=c->sb' (p++(i',c)::r)=sb (p++(i',c)::r))->treeDs S' w' sb' xs p i j vs Fx'->treeD S' w' sb' (.row nz e n (setG get i j xs)) p u (b::(A++(Fx'++B))):=by
 unfold treeD at h
 obtain⟨h1,h2,h3,h4⟩:=h
 rcases h4 with⟨g1,g2,g3⟩|⟨b,off,cells,ty,us,FS,g1,rfl,g3,g4,g5⟩
 ·omega
 obtain⟨⟨⟨r1,r2⟩,r3⟩,r4⟩:=g5 i hi
 have hlen:=treeDs_len r4
 obtain⟨A,M,B,a2,a4⟩:=treeDs_seg (j:=j) (k:=k) r4 (by omega)
 rw[Nat.zero_add] at a4
 have hsplit: ∀f:Nat->List Nat,(List.range n).flatMap f=(List.range i).flatMap f++(f i++(List.range (n-(i+1))).flatMap fun k=>f (i+1+k)):=fun f=>by
  have e1:n=i+(1+(n-(i+1))):=by omega
  conv=>lhs;rw[e1,List.range_add,List.flatMap_append]
  congr 1
  rw[List.flatMap_map,Nat.add_comm 1,List.range_succ_eq_map,List.flatMap_cons,List.flatMap_map]
  rw[Nat.add_zero]
  congr 1
  refine congrArg (fun f=>List.flatMap f _) (funext fun k=>?_)
  show f (i+(k+1))=_
  congr 1;omega
 refine⟨b,off,cells,ty,(List.range i).flatMap FS++A,M,B++(List.range (n-(i+1))).flatMap (fun k=>FS (i+1+k)),g1,g3,g4,by omega,?_,fun S' w' sb' xs vs Fx' hl hc hF hb hone' hsp hsq hx'=>?_⟩
 ·rw[hsplit,a2];simp only[List.append_assoc]
 have hvl:vs.length=k:=by rw[<-hl];exact treeDs_len hx'
 have hroom:off+(i*e+j)+vs.length<=cells.length:=by
  have:=Nat.mul_le_mul_right e (show i+1<=(sb p).2 by omega)
  rw[Nat.add_mul,Nat.one_mul] at this
  omega
 unfold treeD
 rw[hsp]
 refine⟨h1,h2,h3,.inr ⟨b,off,splice cells (off+(i*e+j)) vs,ty,fun k=>if k=i then splice (us i) j vs else us k,fun k=>if k=i then A++(Fx'++B) else FS k,g1,?_,hb,by rw[splice_length];exact g4,fun q hq=>?_⟩⟩
 ·rw[hsplit fun k=>if k=i then A++(Fx'++B) else FS k]
  have c1:(List.range i).flatMap (fun k=>if k=i then A++(Fx'++B) else FS k)=(List.range i).flatMap FS:=by
   rw[List.flatMap_def,List.flatMap_def]
   congr 1
   exact List.map_congr_left fun k hk=>by rw[if_neg (by have:=List.mem_range.1 hk;omega)]
  have c2:(fun k=>(fun k=>if k=i then A++(Fx'++B) else FS k) (i+1+k))=fun k=>FS (i+1+k):=funext fun k=>by simp only;rw[if_neg (by omega)]
  rw[c1,c2];simp only[↓reduceIte,List.append_assoc]
 ·by_cases hki:q=i
  ·subst hki
   unfold rowAt
   simp only[↓reduceIte]
   refine⟨⟨⟨by rw[splice_length];exact r1,splice_all r2 hone'⟩,fun j' v hv=>?_⟩,?_⟩
   ·rw[splice_get _ _ _ _ (by omega)] at hv
    rw[splice_get _ _ _ _ hroom]
    split at hv
    ·rename_i hz
     rw[if_pos (by omega),show off+q*e+j'-(off+(q*e+j))=j'-j by omega];exact hv
    ·rename_i hz
     rw[if_neg (by omega)]
     exact r3 j' v hv
   ·have:=a4 S' w' sb' xs vs Fx' hl hc (fun z hz=>hF z (by simp only[List.mem_append] at hz⊢;rcases hz with hz|hz<;>simp[hz])) (fun c r hcj=>hsq _ c r (.inr hcj)) hx'
    simpa[setG] using this
  ·obtain⟨⟨q1,q3⟩,q4⟩:=g5 q hq
   unfold rowAt
   simp only[if_neg hki]
   refine⟨⟨q1,fun j' v hv=>?_⟩,?_⟩
   ·have hj':j'<e:=by have:=(List.getElem?_eq_some_iff.1 hv).1;omega
    rw[splice_get _ _ _ _ hroom,if_neg (fun hz=>hki ?_)]
    ·exact q3 j' v hv
    ·have h7:i<q+1:=by
      rcases Nat.lt_or_ge i (q+1) with z|z
      ·exact z
      ·have:=Nat.mul_le_mul_right e z;rw[Nat.add_mul,Nat.one_mul] at this;omega
     have h8:q<i+1:=by
      rcases Nat.lt_or_ge q (i+1) with z|z
      ·exact z
      ·have:=Nat.mul_le_mul_right e z;rw[Nat.add_mul,Nat.one_mul] at this;omega
     omega
   ·have e1:setG get i j xs q=get q:=if_neg hki
    rw[e1]
    refine treeDs_mono hc _ _ _ _ _ _ (fun z hz=>hF z ?_) (fun c r _=>hsq q c r (.inl hki)) q4
    rcases Nat.lt_or_ge q i with y|y
    ·have:z∈(List.range i).flatMap FS:=List.mem_flatMap.2 ⟨q,List.mem_range.2 y,hz⟩
     simp only[List.mem_append];exact .inl (.inl this)
    ·have:z∈(List.range (n-(i+1))).flatMap (fun k=>FS (i+1+k)):=List.mem_flatMap.2 ⟨q-(i+1),List.mem_range.2 (by omega),by rw[show i+1+(q-(i+1))=q by omega];exact hz⟩
     simp only[List.mem_append];exact .inr (.inr this)
theorem Gam.to {E:Env} {tb:Tb} {s s':Sl} {o o':Os} {β β':Nat->Wt} {a:Act} {w w':World} (h:Gam E tb s o β a w)
  (hs: ∀d c v,lk s' d=some (c,v)->lk s d=some (c,v)/\(∀id,men id v=true->Core (β id) (β' id))/\ ∀id,menP id v=true-> ∀p,rsub (β' id) p=rsub (β id) p)
  (hf: ∀k∈feet o' β',k∈feet o β) (hn:(feet o' β').Nodup) (hk:(o'.map (·.1)).Nodup) (hos:w'.os=w.os) (ht:w'.tape=w.tape) (ho:w'.output=w.output) (hz:w.heap.size<=w'.heap.size) (hb: ∀k,k<w.heap.size->k∉feet o β->w'.heap[k]?=w.heap[k]?)
  (hob:Comp (E.good o β) w (E.good o' β') w'-> ∀id ob',lk o' id=some ob'->orel (E.good o' β') β' w' (β' id) ob'):Gam E tb s' o' β' a w':=by
 have hc:Comp (E.good o β) w (E.good o' β') w':=⟨hz,fun k hk hg=>⟨⟨hg.1,fun q=>hg.2 (hf k q)⟩,hb k hk hg.2⟩⟩
 refine⟨h.size,h.defers,h.tbok,fun i c' v hl=>?_,hob hc,⟨hos.trans h.below.os,ht.trans h.below.tape,ho.trans h.below.output,Nat.le_trans h.below.size hz,fun k hk hx=>(hb k (Nat.lt_of_lt_of_le hk h.below.size) fun q=>?_).trans (h.below.block k hk hx)⟩,fun k hk=>⟨(h.new k (hf k hk)).1,Nat.lt_of_lt_of_le (h.new k (hf k hk)).2 hz⟩,hn,hk⟩
 ·obtain⟨g1,g2,g3⟩:=hs i c' v hl
  obtain⟨u,h1,h2⟩:=h.slots i c' v g1
  exact⟨u,h1,fun hg=>rel_core _ _ g2 g3 (rel_mono hc _ _ (h2 hg))⟩
 ·rcases(h.new k q).1 with z|z
  ·omega
  ·exact hx z
theorem Gam.toQ {E:Env} {tb:Tb} {s s':Sl} {o o':Os} {β β':Nat->Wt} {a:Act} {w w':World} (h:Gam E tb s o β a w)
  (hs: ∀d c v,lk s' d=some (c,v)->lk s d=some (c,v)/\(∀id,men id v=true->Core (β id) (β' id))/\ ∀id p,atP id p v->rsub (β' id) p=rsub (β id) p)
  (hf: ∀k∈feet o' β',k∈feet o β) (hn:(feet o' β').Nodup) (hk:(o'.map (·.1)).Nodup) (hos:w'.os=w.os) (ht:w'.tape=w.tape) (ho:w'.output=w.output) (hz:w.heap.size<=w'.heap.size) (hb: ∀k,k<w.heap.size->k∉feet o β->w'.heap[k]?=w.heap[k]?)
  (hob:Comp (E.good o β) w (E.good o' β') w'-> ∀id ob',lk o' id=some ob'->orel (E.good o' β') β' w' (β' id) ob'):Gam E tb s' o' β' a w':=by
 have hc:Comp (E.good o β) w (E.good o' β') w':=⟨hz,fun k hk hg=>⟨⟨hg.1,fun q=>hg.2 (hf k q)⟩,hb k hk hg.2⟩⟩
 refine⟨h.size,h.defers,h.tbok,fun i c' v hl=>?_,hob hc,⟨hos.trans h.below.os,ht.trans h.below.tape,ho.trans h.below.output,Nat.le_trans h.below.size hz,fun k hk hx=>(hb k (Nat.lt_of_lt_of_le hk h.below.size) fun q=>?_).trans (h.below.block k hk hx)⟩,fun k hk=>⟨(h.new k (hf k hk)).1,Nat.lt_of_lt_of_le (h.new k (hf k hk)).2 hz⟩,hn,hk⟩
 ·obtain⟨g1,g2,g3⟩:=hs i c' v hl
  obtain⟨u,h1,h2⟩:=h.slots i c' v g1
  exact⟨u,h1,fun hg=>rel_coreQ _ _ g2 g3 (rel_mono hc _ _ (h2 hg))⟩
 ·rcases(h.new k q).1 with z|z
  ·omega
  ·exact hx z
def omenP (d:Nat):Obj->Bool
 | .box _ _ cs=>menPs d cs
 |_=>false
theorem orel_core {S:Nat->Prop} {β β':Nat->Wt} {w:World} {W:Wt}: ∀ {ob:Obj},(∀id,omen id ob=true->Core (β id) (β' id))->(∀id,omenP id ob=true-> ∀p,rsub (β' id) p=rsub (β id) p)->orel S β w W ob->orel S β' w W ob
 | .box p q cs,hm,hp,⟨b,us,ty,h1,h2,h3,h4,h5⟩=>⟨b,us,ty,h1,h2,h3,rels_core cs us hm hp h4,h5⟩
 | .row q e n get,hm,hp,h=>h
 | .tree e n get,hm,hp,h=>h
 | .mp e n get fF,hm,hp,h=>h
def updG:Pth->(Nat->List AV)->Nat->Nat->List AV->(Nat->List AV)
 |[],get,i,j,xs=>setG get i j xs
 |(a,c)::p,get,i,j,xs=>setC get a c (match nthN c (get a) with
  |some (.row nz e n g)=>.row nz e n (updG p g i j xs)
  |_=>.nil)
theorem updG_eq {nz':Option Bool} {e n i j:Nat} {g:Nat->List AV} {xs:List AV}: ∀ {p:Pth} {nz:Option Bool} {e0 N:Nat} {get:Nat->List AV},subR (.row nz e0 N get) p (.row nz' e n g)->setR (.row nz' e n (setG g i j xs)) (.row nz e0 N get) p= .row nz e0 N (updG p get i j xs)
 |[],nz,e0,N,get,h=>by
  simp only[subR,AV.row.injEq] at h
  obtain⟨rfl,rfl,rfl,rfl⟩:=h
  rfl
 |(a,c)::p,nz,e0,N,get,h=>by
  simp only[subR] at h
  obtain⟨ha,x',hx',hs⟩:=h
  rw[setR,updG,nthN_eq,hx']
  cases x' with
  |row nz1 e1 n1 g1=>
   simp only[Option.getD_some]
   rw[updG_eq hs]
  |_=>cases p<;>simp[subR] at hs
theorem tree_write {S:Nat->Prop} {w:World} {sb:Sub} {p:Pth} {nz nz':Option Bool} {e0 N e n:Nat} {get g:Nat->List AV} {u:Value} {F:List Nat} {i j k:Nat} (h:treeD S w sb (.row nz e0 N get) [] u F) (hs:subR (.row nz e0 N get) p (.row nz' e n g)) (hi:i<n) (hj:j+k<=e):
  ∃b off cells ty A M B,(sb p).1=some ⟨b,off,none⟩/\w.heap[b]?=some (.cells (cells:List Value).toArray ty (0,0))/\off+(sb p).2*e<=cells.length/\i<(sb p).2/\F=A++(M++B)/\b∈A/\
   ∀(S':Nat->Prop) (w':World) (sb':Sub) (xs:List AV) (vs:List Value) (Fx':List Nat),xs.length=k->F.Nodup->Comp S w S' w'->(∀q∈A++B,q≠b->w'.heap[q]?=w.heap[q]?)->w'.heap[b]?=some (.cells (splice cells (off+(i*e+j)) vs).toArray ty (0,0))->vs.all (·.oneCell')=true->
    (∀r,(∀c t,j<=c->c<j+k->r≠p++(i,c)::t)->sb' r=sb r)->treeDs S' w' sb' xs p i j vs Fx'->treeD S' w' sb' (.row nz e0 N (updG p get i j xs)) [] u (A++(Fx'++B)):=by
 obtain⟨uy,Fy,A0,B0,rfl,y1,y2⟩:=focus h hs
 rw[List.nil_append] at y1
 obtain⟨b,off,cells,ty,A1,M,B1,z1,z2,z3,z4,rfl,z6⟩:=node_seg y1 hi hj
 refine⟨b,off,cells,ty,A0++b::A1,M,B1++B0,z1,z2,z3,z4,by simp[List.append_assoc],by simp,fun S' w' sb' xs vs Fx' hl hnd hc hF hb hone hsb hx=>?_⟩
 have hbA: ∀q∈A0++B0,q≠b:=fun q hq e=>by
  subst e
  rw[List.nodup_append] at hnd
  obtain⟨_,n2,n3⟩:=hnd
  rcases List.mem_append.1 hq with z|z
  ·exact n3 q z q (by simp) rfl
  ·have n4:=(List.nodup_append.1 n2).2.2
   exact n4 q (by simp) q z rfl
 have hbB: ∀q∈A1++B1,q≠b:=fun q hq e=>by
  subst e
  have n2:=(List.nodup_append.1 hnd).2.1
  have n3:=(List.nodup_append.1 n2).1
  rw[List.nodup_cons] at n3
  exact n3.1 (by simp only[List.mem_append] at hq⊢;rcases hq with hq|hq<;>simp[hq])
 have hnode:=z6 S' w' sb' xs vs Fx' hl hc (fun q hq=>hF q (by simp only[List.mem_append,List.mem_cons] at hq⊢;rcases hq with hq|hq<;>simp[hq]) (hbB q hq)) hb hone
  (hsb p fun c t _ _ hp=>by have:=congrArg List.length hp;simp at this)
  (fun i' c r hne=>hsb _ fun c' t h1 h2 hp=>by
   have:=List.append_cancel_left hp
   simp only[List.cons.injEq,Prod.mk.injEq] at this
   rcases hne with h|h
   ·exact h this.1.1
   ·omega) hx
 have hres:=y2 S' w' sb' (.row nz' e n (setG g i j xs)) (b::(A1++(Fx'++B1))) hc (fun q hq=>hF q (by simp only[List.mem_append,List.mem_cons] at hq⊢;rcases hq with hq|hq<;>simp[hq]) (hbA q hq))
  (fun r hr=>by rw[List.nil_append];exact hsb r fun c t _ _ hp=>hr _ hp) (by rw[List.nil_append];exact hnode)
 rw[updG_eq hs] at hres
 simpa[List.append_assoc] using hres
def leafA:AV->Bool
 | .row _ _ _ _=>false
 | .nil=>false
 | .agg _=>false
 |x=>noOwn x
def leafs:List AV->Bool
 |[]=>true
 |x::xs=>leafA x&&leafs xs
theorem leafA_tree {S:Nat->Prop} {β:Nat->Wt} {w:World} {sb:Sub} {x:AV} {p:Pth} {u:Value} (hl:leafA x=true) (h:rel S β w x u):treeD S w sb x p u []:=by
 have hr:isRow x=false:=by cases x<;>first|rfl|cases hl
 have hn:noOwn x=true:=by cases x<;>first|exact hl|cases hl
 exact(treeD_flat hr).2 ⟨rfl,noOwn_rel hn h⟩
theorem leafs_tree {S:Nat->Prop} {β:Nat->Wt} {w:World} {sb:Sub} {p:Pth} {i:Nat}: ∀ {xs:List AV} {j:Nat} {us:List Value},leafs xs=true->rels S β w xs us->treeDs S w sb xs p i j us []
 |[],j,us,hl,h=>⟨h,rfl⟩
 |x::xs,j,us,hl,h=>by
  simp only[leafs,Bool.and_eq_true] at hl
  obtain⟨u,us',rfl,h1,h2⟩:=h
  exact⟨u,us',[],[],rfl,rfl,leafA_tree hl.1 h1,leafs_tree hl.2 h2⟩
theorem foot_nodup {β:Nat->Wt} {id:Nat} {ob:Obj}: ∀ {o:Os},lk o id=some ob->(feet o β).Nodup->(β id).foot.Nodup
 |[],hl,_=>by simp[lk] at hl
 |(j,ob')::o,hl,hn=>by
  rw[feet_cons,List.nodup_append] at hn
  rw[lk_cons] at hl
  split at hl
  ·rename_i e;subst e;exact hn.1
  ·exact foot_nodup hl hn.2.1
def footW (W:Wt) (F:List Nat):Wt:=⟨W.a,W.cap,F,W.ok,W.sub⟩
theorem footW_core (W:Wt) (F:List Nat):Core W (footW W F):=⟨rfl,rfl,rfl⟩
theorem footW_rsub (W:Wt) (F:List Nat): ∀p,rsub (footW W F) p=rsub W p
 |[]=>rfl
 |_::_=>rfl
section
variable {P:Program} {T:TT} {E:Env} {tb:Tb} {s:Sl} {o:Os} {β:Nat->Wt} {a:Act} {w:World} {t:TypeId} {ti:TI}
theorem objs_beside {o':Os} {w':World} {β':Nat->Wt} {id:Nat} {ob:Obj} (hg:Gam E tb s o β a w) (hlk:lk o id=some ob) (hc:Comp (E.good o β) w (E.good o' β') w') (hβ: ∀i,i≠id->β' i=β i) (hco:Core (β id) (β' id)) (hrs: ∀p,rsub (β' id) p=rsub (β id) p)
  (hb: ∀k,k<w.heap.size->k∉(β id).foot->w'.heap[k]?=w.heap[k]?) {i:Nat} {ob':Obj} (hi:i≠id) (hl:lk o i=some ob'):orel (E.good o' β') β' w' (β' i) ob':=by
 rw[hβ i hi]
 refine orel_core (β:=β) (fun j _=>?_) (fun j _ p=>?_) (orel_mono hc (fun k hk=>hb k (hg.new k (foot_feet hl k hk)).2 (foot_disj hlk hl hi hg.nodup k hk)) (hg.objs i ob' hl))
 ·by_cases hj:j=id
  ·subst hj;exact hco
  ·rw[hβ j hj];exact Core.refl _
 ·by_cases hj:j=id
  ·subst hj;exact hrs p
  ·rw[hβ j hj]
theorem store_tree {id e0 N e n i j:Nat} {get g:Nat->List AV} {q:Pth} {nz':Option Bool} {vs:List AV} {u:Value} {ad:Addr} (hti:TIok P t ti) (hg:Gam E tb s o β a w) (hlk:lk o id=some (.tree e0 N get)) (hsub:subR (.row none e0 N get) q (.row nz' e n g)) (hi:i<n) (hj:j+vs.length<=e) (hlen:vs.length=ti.sz) (hleaf:leafs vs=true)
  (hr:rels (E.good o β) β w vs u.cells.toList) (hone:u.cells.toList.all (·.oneCell')=true) (had:(rsub (β id) q).1=some ad):
  ∃w' β',(Instr.storeAt t (.pointer (some (ad.add (i*e+j)))) u).run P w= .ok () w'/\Gam E tb s ((id,.tree e0 N (updG q get i j vs))::rem o id) β' a w':=by
 obtain⟨hok,ht⟩:=hg.objs id _ hlk
 obtain⟨hr1,hr2⟩:=feet_rem hlk hg.nodup
 have hnd:=foot_nodup hlk hg.nodup
 obtain⟨b,off,cells,ty,A,M,B,z1,z2,z3,z4,z5,z6,z7⟩:=tree_write ht hsub hi hj
 rw[z1] at had
 cases had
 have hrl:=rels_len hr
 have hsz:u.cells.size=ti.sz:=by rw[<-hlen,<-hrl];simp
 have hroom:off+(i*e+j)+ti.sz<=cells.length:=by
  have:=Nat.mul_le_mul_right e (show i+1<=(rsub (β id) q).2 by omega)
  rw[Nat.add_mul,Nat.one_mul] at this
  omega
 obtain⟨w',hrun,q1,q2,q3,q4,q5,q6⟩:=run_store hti z2 hroom hsz hone
 have hbf:b∈(β id).foot:=by rw[z5];simp only[List.mem_append];exact .inl z6
 refine⟨w',setB β id (footW (β id) (A++([]++B))),by rw[add_none];exact hrun,?_⟩
 have hkey: ∀p∈rem o id,p.1≠id:=fun p hp e=>by
  have:=rem_keys (c:=id) hg.keys
  exact this (List.mem_map.2 ⟨p,hp,e⟩)
 have hfe:feet ((id,.tree e0 N (updG q get i j vs))::rem o id) (setB β id (footW (β id) (A++([]++B))))=(A++B)++feet (rem o id) β:=by
  rw[feet_cons,setB_self,feet_setB hkey];rfl
 have hAB:(A++B).Sublist (β id).foot:=by
  rw[z5];exact(List.Sublist.refl A).append (List.sublist_append_right M B)
 have hsubf:=feet_sub (β:=β) (rem_sub (o:=o) (c:=id))
 refine hg.to (fun d c v hl=>⟨hl,fun k _=>?_,fun k _ p=>?_⟩) (fun k hk=>?_) ?_ ?_ q1 q2 q3 (by omega) (fun k hk hx=>q6 k fun e=>hx (by subst e;exact foot_feet hlk k hbf)) fun hc id' ob' hl=>?_
 ·by_cases hk:k=id
  ·subst hk;rw[setB_self];exact footW_core _ _
  ·rw[setB_ne hk];exact Core.refl _
 ·by_cases hk:k=id
  ·subst hk;rw[setB_self];exact footW_rsub _ _ p
  ·rw[setB_ne hk]
 ·rw[hfe] at hk
  rcases List.mem_append.1 hk with z|z
  ·exact foot_feet hlk k (hAB.subset z)
  ·exact hsubf.subset z
 ·rw[hfe]
  exact List.nodup_append.2 ⟨hnd.sublist hAB,hg.nodup.sublist hsubf,fun x hx y hy e=>by subst e;exact hr1 x (hAB.subset hx) hy⟩
 ·rw[List.map_cons,List.nodup_cons]
  exact⟨rem_keys hg.keys,hg.keys.sublist (rem_sub.map _)⟩
 ·rw[lk_cons] at hl
  split at hl
  ·rename_i hid
   cases hl;subst hid
   rw[setB_self]
   refine⟨hok,?_⟩
   have hsb: ∀r,rsub (footW (β id) (A++([]++B))) r=rsub (β id) r:=footW_rsub _ _
   exact z7 _ w' _ vs _ [] rfl hnd hc (fun k hk hkb=>q6 k hkb) q5 hone (fun r _=>hsb r) (leafs_tree (β:=β) hleaf (rels_mono hc _ _ hr))
  ·rename_i hid
   have hne:id'≠id:=fun e=>hid e.symm
   rw[lk_rem hne] at hl
   exact objs_beside hg hlk hc (fun i hi=>setB_ne hi) (by rw[setB_self];exact footW_core _ _) (by rw[setB_self];exact footW_rsub _ _) (fun k _ hk=>q6 k fun e=>hk (by subst e;exact hbf)) hne hl
def anyN:AV->AV
 | .nil=>.any
 |x=>x
def anyK:List AV->(List AV->Prop)->Prop
 |[],K=>K []
 |v::l,K=>match v with
  | .nil=>anyK l fun r=>K (.any::r)
  |v=>anyK l fun r=>K (v::r)
theorem anyK_ok: ∀ {l:List AV} {K:List AV->Prop},anyK l K->K (l.map anyN)
 |[],K,h=>h
 |v::l,K,h=>by
  unfold anyK at h
  split at h
  ·exact anyK_ok (K:=fun r=>K (.any::r)) h
  ·rename_i hn
   have:=anyK_ok (K:=fun r=>K (v::r)) h
   rw[List.map_cons]
   rwa [show anyN v=v from by unfold anyN;split<;>simp_all]
theorem rels_any {S:Nat->Prop} {β:Nat->Wt} {w:World}: ∀ {l:List AV} {us:List Value},rels S β w l us->rels S β w (l.map anyN) us
 |[],us,h=>h
 |v::l,us,⟨u,us',e,h1,h2⟩=>⟨u,us',e,by
  unfold anyN
  split
  ·unfold rel at h1;subst h1;rfl
  ·exact h1,rels_any h2⟩
def storeT (ti:TI) (o:Os) (p v:AV) (K:Os->Prop):Prop:=match stor v with
 |true=>cellsK v fun vs=>anyK vs fun vs=>match Nat.beq vs.length ti.sz&&leafs vs with
  |true=>match p with
   | .rp id e i j=>match lk o id with
    |some (.tree e' n get)=>match Nat.beq e e'&&Nat.ble (j+vs.length) e with
     |true=>i<n/\remK o id fun o1=>K ((id,.tree e' n (setG get i j vs))::o1)
     |false=>False
    |_=>False
   | .pp id q e i j=>match lk o id with
    |some (.tree e0 N get)=>navK [] 0 q e0 N get fun e' n g=>match Nat.beq e e'&&Nat.ble (j+vs.length) e with
     |true=>i<n/\remK o id fun o1=>K ((id,.tree e0 N (updG q get i j vs))::o1)
     |false=>False
    |_=>False
   |_=>False
  |false=>False
 |false=>False
theorem storeT_ok {x y:Operand} {p v:AV} {K:Os->Prop} {ty:TypeId} {pos:String} {after:Array Edge} {gu:Option (Nat×Bool)} (hti:TIok P t ti) (hx:Opn tb s 0 x p) (hy:Opn tb s 0 y v) (h:storeT ti o p v K): ∃o',K o'/\Mut P tb s o ⟨none,.store t x y,ty,pos,after,gu⟩ s o':=by
 unfold storeT at h
 split at h
 ·rename_i hst
  obtain⟨vs0,h,hvs⟩:=cellsK_ok h
  have h:=anyK_ok h
  obtain⟨vs,hvse⟩: ∃vs,vs=vs0.map anyN:=⟨_,rfl⟩
  rw[<-hvse] at h
  split at h
  ·rename_i hlv
   simp only[Bool.and_eq_true] at hlv
   obtain⟨hlen,hleaf⟩:=hlv
   have hlen:=Nat.eq_of_beq_eq_true hlen
   split at h
   ·rename_i id e i j
    split at h
    ·rename_i e' n get hlk
     split at h
     ·rename_i hb
      simp only[Bool.and_eq_true] at hb
      have hb1:=Nat.eq_of_beq_eq_true hb.1
      have hb2:=Nat.le_of_ble_eq_true hb.2
      subst hb1
      obtain⟨hi,h⟩:=h
      have h:=remK_ok h
      refine⟨_,h,fun E β a w hg _ K Q hK=>?_⟩
      have hc:=tg_zero hg.tbok
      have h1:=hx.eval hg hc
      have h2:=hy.eval hg hc
      unfold rel at h1
      obtain⟨h0,ad,e1,e2⟩:=h1
      have hr:=rels_any (hvs _ _ _ _ h2 (stor_or hst))
      rw[<-hvse] at hr
      obtain⟨w',β',hrun,hG⟩:=store_tree (q:=[]) hti hg hlk (nz':=none) rfl hi hb2 hlen hleaf hr (stor_one hst h2) (ad:=ad) e1
      have hex:(execOp a.eval ⟨none,.store t x y,ty,pos,after,gu⟩).run P w= .ok .skip w':=by
       simp only[execOp,e2]
       rw[Sem.run_bind,hrun];rfl
      unfold Oper.wp
      rw[hex,Oper.upon_skip]
      exact hK _ _ _ hG
     ·cases h
    ·cases h
   ·rename_i id q e i j
    split at h
    ·rename_i e0 N get hlk
     obtain⟨e',n,g,hk,hnav⟩:=navK_ok h
     clear h
     have h:=hk
     clear hk
     split at h
     ·rename_i hb
      simp only[Bool.and_eq_true] at hb
      have hb1:=Nat.eq_of_beq_eq_true hb.1
      have hb2:=Nat.le_of_ble_eq_true hb.2
      subst hb1
      obtain⟨hi,h⟩:=h
      have h:=remK_ok h
      refine⟨_,h,fun E β a w hg _ K Q hK=>?_⟩
      have hc:=tg_zero hg.tbok
      have h1:=hx.eval hg hc
      have h2:=hy.eval hg hc
      obtain⟨nz',hsub⟩:=hnav rfl none
      unfold rel at h1
      obtain⟨h0,ad,e1,e2⟩:=h1
      have hr:=rels_any (hvs _ _ _ _ h2 (stor_or hst))
      rw[<-hvse] at hr
      obtain⟨w',β',hrun,hG⟩:=store_tree hti hg hlk hsub hi hb2 hlen hleaf hr (stor_one hst h2) (ad:=ad) e1
      have hex:(execOp a.eval ⟨none,.store t x y,ty,pos,after,gu⟩).run P w= .ok .skip w':=by
       simp only[execOp,e2]
       rw[Sem.run_bind,hrun];rfl
      unfold Oper.wp
      rw[hex,Oper.upon_skip]
      exact hK _ _ _ hG
     ·cases h
    ·cases h
   ·cases h
  ·cases h
 ·cases h
end
mutual
theorem treeD_move {S:Nat->Prop} {w:World} {sb sb':Sub}: ∀(x:AV) (p p':Pth) (u:Value) (F:List Nat),(∀r,sb' (p'++r)=sb (p++r))->treeD S w sb x p u F->treeD S w sb' x p' u F
 | .row nz e n get,p,p',u,F,hs,h=>by
  unfold treeD at h⊢
  have hp:sb' p'=sb p:=by have:=hs [];rwa [List.append_nil,List.append_nil] at this
  obtain⟨h1,h2,h3,h4⟩:=h
  rw[hp]
  refine⟨h1,h2,h3,h4.imp id ?_⟩
  rintro ⟨b,off,cells,ty,us,FS,g1,rfl,g3,g4,g5⟩
  exact⟨b,off,cells,ty,us,FS,g1,rfl,g3,g4,fun i hi=>⟨(g5 i hi).1,treeDs_move (get i) p p' i 0 (us i) (FS i) hs (g5 i hi).2⟩⟩
 | .i k z,p,p',u,F,hs,h=>h
 | .b t,p,p',u,F,hs,h=>h
 | .s x,p,p',u,F,hs,h=>h
 | .v x,p,p',u,F,hs,h=>h
 | .nil,p,p',u,F,hs,h=>by
  unfold treeD at h⊢
  exact⟨h.1,h.2.1,by have:=hs [];rw[List.append_nil,List.append_nil] at this;rw[this];exact h.2.2⟩
 | .agg cs,p,p',u,F,hs,h=>h
 | .tup cs,p,p',u,F,hs,h=>h
 | .cp cs,p,p',u,F,hs,h=>h
 | .op id off,p,p',u,F,hs,h=>h
 | .orow id e off n,p,p',u,F,hs,h=>h
 | .rp id e i j,p,p',u,F,hs,h=>h
 | .clo f cs,p,p',u,F,hs,h=>h
 | .omap id,p,p',u,F,hs,h=>h
 | .ifc t x,p,p',u,F,hs,h=>h
 | .any,p,p',u,F,hs,h=>h
 | .pth _ _ _ _ _,p,p',u,F,hs,h=>h
 | .pp _ _ _ _ _,p,p',u,F,hs,h=>h
theorem treeDs_move {S:Nat->Prop} {w:World} {sb sb':Sub}: ∀(xs:List AV) (p p':Pth) (i j:Nat) (us:List Value) (F:List Nat),(∀r,sb' (p'++r)=sb (p++r))->treeDs S w sb xs p i j us F->treeDs S w sb' xs p' i j us F
 |[],p,p',i,j,us,F,hs,h=>h
 |v::vs,p,p',i,j,us,F,hs,h=>by
  unfold treeDs at h⊢
  obtain⟨u,us',F1,F2,rfl,rfl,h1,h2⟩:=h
  exact⟨u,us',F1,F2,rfl,rfl,treeD_move v _ _ u F1 (fun r=>by rw[List.append_assoc,List.append_assoc];exact hs _) h1,treeDs_move vs p p' i (j+1) us' F2 hs h2⟩
end
def strip:Pth->Pth->Option Pth
 |[],r=>some r
 |_::_,[]=>none
 |x::p,y::r=>if x=y then strip p r else none
theorem strip_app: ∀(p r:Pth),strip p (p++r)=some r
 |[],r=>rfl
 |x::p,r=>by simp[strip,strip_app p r]
theorem strip_some: ∀ {p r t:Pth},strip p r=some t->r=p++t
 |[],r,t,h=>by simp[strip] at h;exact h
 |_::_,[],t,h=>by simp[strip] at h
 |x::p,y::r,t,h=>by
  simp only[strip] at h
  split at h
  ·rename_i e;subst e;rw[strip_some h];rfl
  ·cases h
def graft (W:Wt) (p:Pth) (D:Sub):Sub:=fun r=>match strip p r with
 |some t=>D t
 |none=>W.sub r
theorem graft_in {W W':Wt} {q:Pth} {i j:Nat} {D:Sub} (h:W'.sub=graft W (q++[(i,j)]) D) (r:Pth):rsub W' ((q++[(i,j)])++r)=D r:=by
 cases hq:(q++[(i,j)])++r with
 |nil=>simp at hq
 |cons x t=>
  rw[rsub,h,graft,<-hq,strip_app]
theorem graft_out {W W':Wt} {q:Pth} {i j:Nat} {D:Sub} (h:W'.sub=graft W (q++[(i,j)]) D) (hc:Core W W') {r:Pth} (hr: ∀t,r≠(q++[(i,j)])++t):rsub W' r=rsub W r:=by
 cases r with
 |nil=>rw[rsub,rsub,hc.1,hc.2.1]
 |cons x t=>
  rw[rsub,rsub,h,graft]
  cases hs:strip (q++[(i,j)]) (x::t) with
  |none=>rfl
  |some t'=>exact absurd (strip_some hs) (hr t')
theorem row_tree {S:Nat->Prop} {β:Nat->Wt} {w:World} {W:Wt} {q:Option Nat} {e n:Nat} {g:Nat->List AV} (hl: ∀i,i<n->leafs (g i)=true) (h:orel S β w W (.row q e n g)):treeD S w (rsub W) (.row none e n g) [] (.slice W.a n W.cap) W.foot:=by
 obtain⟨h1,h2,h3⟩:=h
 unfold treeD
 refine⟨rfl,(fun z hz=>by cases hz),⟨h1,h2⟩,?_⟩
 rcases h3 with⟨z1,z2,z3⟩|⟨b,off,cells,ty,us,z1,z2,z3,z4,z5⟩
 ·exact .inl ⟨z1,z2,z3⟩
 ·refine .inr ⟨b,off,cells,ty,us,fun _=>[],z1,?_,z3,z4.1,fun i hi=>⟨(z5 i hi).1,leafs_tree (hl i hi) (z5 i hi).2⟩⟩
  rw[z2]
  have: ∀l:List Nat,l.flatMap (fun _=>([]:List Nat))=[]:=fun l=>by induction l<;>simp_all
  rw[this]
def rowIn:Option Obj->Nat->Nat->((Nat->List AV)->Prop->Prop)->Prop
 |some (.tree e n g),e',n',K=>match Nat.beq e e' with
  |true=>K g (n=n')
  |false=>False
 |some (.row _ e n g),e',n',K=>match Nat.beq e e' with
  |true=>K g (n=n'/\ ∀i,i<n->leafs (g i)=true)
  |false=>False
 |_,_,_,_=>False
theorem rowIn_ok {ob:Option Obj} {e' n':Nat} {K:(Nat->List AV)->Prop->Prop} (h:rowIn ob e' n' K): ∃o g A,ob=some o/\K g A/\ ∀(S:Nat->Prop) (β:Nat->Wt) (w:World) (W:Wt),A->orel S β w W o->treeD S w (rsub W) (.row none e' n' g) [] (.slice W.a n' W.cap) W.foot:=by
 unfold rowIn at h
 split at h
 ·rename_i e n g e1 n1 K1
  split at h
  ·rename_i hb
   have hb:=Nat.eq_of_beq_eq_true hb
   subst hb
   exact⟨_,_,_,rfl,h,fun S β w W hA ho=>by subst hA;exact ho.2⟩
  ·cases h
 ·rename_i q e n g e1 n1 K1
  split at h
  ·rename_i hb
   have hb:=Nat.eq_of_beq_eq_true hb
   subst hb
   exact⟨_,_,_,rfl,h,fun S β w W hA ho=>by obtain⟨rfl,hA⟩:=hA;exact row_tree hA ho⟩
  ·cases h
 ·cases h
def keyP (id d:Nat):Sl->Bool
 |[]=>false
 |(d',_,v)::s=>(Nat.beq d' d&&menP id v)||keyP id d s
def dropP (id:Nat) (s0:Sl):Sl->Sl
 |[]=>[]
 |(d,c,v)::s=>bif keyP id d s0 then dropP id s0 s else(d,c,v)::dropP id s0 s
theorem keyP_lk {id d c:Nat} {v:AV}: ∀ {s:Sl},lk s d=some (c,v)->keyP id d s=false->menP id v=false
 |[],h,_=>by simp[lk] at h
 |(d',c',v')::s,h,hk=>by
  simp only[keyP,Bool.or_eq_false_iff,Bool.and_eq_false_iff] at hk
  rw[lk_cons] at h
  split at h
  ·rename_i e;subst e;cases h
   rcases hk.1 with z|z
   ·simp at z
   ·exact z
  ·exact keyP_lk h hk.2
theorem dropP_lk {id d c:Nat} {v:AV} {s0:Sl}: ∀ {s:Sl},lk (dropP id s0 s) d=some (c,v)->lk s d=some (c,v)/\keyP id d s0=false
 |[],h=>by simp[dropP,lk] at h
 |(d',c',v')::s,h=>by
  simp only[dropP] at h
  cases hb:keyP id d' s0 with
  |true=>
   rw[hb,cond_true] at h
   obtain⟨h1,h2⟩:=dropP_lk h
   have:d'≠d:=fun e=>by subst e;rw[hb] at h2;cases h2
   exact⟨by rw[lk_cons,if_neg this];exact h1,h2⟩
  |false=>
   rw[hb,cond_false,lk_cons] at h
   split at h
   ·rename_i e;subst e;exact⟨by rw[lk_cons,if_pos rfl];exact h,hb⟩
   ·rename_i e
    obtain⟨h1,h2⟩:=dropP_lk h
    exact⟨by rw[lk_cons,if_neg e];exact h1,h2⟩
def wayLe:Pth->Pth->Bool
 |[],_=>true
 |_::_,[]=>false
 |_::a,_::b=>wayLe a b
theorem wayLe_len: ∀ {a b:Pth},wayLe a b=true->a.length<=b.length
 |[],_,_=>Nat.zero_le _
 |_::_,[],h=>nomatch h
 |_::a,_::b,h=>Nat.succ_le_succ (wayLe_len (a:=a) (b:=b) h)
mutual
def menQ (d:Nat) (q:Pth):AV->Bool
 | .pth id p _ _ _=>Nat.beq id d&& !wayLe p q
 | .pp id p _ _ _=>Nat.beq id d&& !wayLe p q
 | .agg cs=>menQs d q cs
 | .tup cs=>menQs d q cs
 | .clo _ cs=>menQs d q cs
 | .ifc _ x=>menQ d q x
 |_=>false
def menQs (d:Nat) (q:Pth):List AV->Bool
 |[]=>false
 |x::xs=>menQ d q x||menQs d q xs
end
mutual
theorem menQ_at {d:Nat} {q p:Pth}: ∀ {x:AV},menQ d q x=false->atP d p x->p.length<=q.length
 | .pth id p' e off n,h,⟨h1,h2⟩=>by
  subst h1 h2
  simp only[menQ,Nat.beq_refl,Bool.true_and,Bool.not_eq_false'] at h
  exact wayLe_len h
 | .pp id p' e i j,h,⟨h1,h2⟩=>by
  subst h1 h2
  simp only[menQ,Nat.beq_refl,Bool.true_and,Bool.not_eq_false'] at h
  exact wayLe_len h
 | .agg cs,h,h2=>menQs_at (x:=cs) h h2
 | .tup cs,h,h2=>menQs_at (x:=cs) h h2
 | .clo f cs,h,h2=>menQs_at (x:=cs) h h2
 | .ifc t x,h,h2=>menQ_at (x:=x) h h2
 | .i _ _,h,h2=>h2.elim
 | .b _,h,h2=>h2.elim
 | .s _,h,h2=>h2.elim
 | .v _,h,h2=>h2.elim
 | .nil,h,h2=>h2.elim
 | .row _ _ _ _,h,h2=>h2.elim
 | .cp _,h,h2=>h2.elim
 | .op _ _,h,h2=>h2.elim
 | .orow _ _ _ _,h,h2=>h2.elim
 | .rp _ _ _ _,h,h2=>h2.elim
 | .omap _,h,h2=>h2.elim
 | .any,h,h2=>h2.elim
theorem menQs_at {d:Nat} {q p:Pth}: ∀ {x:List AV},menQs d q x=false->atPs d p x->p.length<=q.length
 |[],h,h2=>h2.elim
 |y::ys,h,h2=>by
  simp only[menQs,Bool.or_eq_false_iff] at h
  rcases h2 with h2|h2
  ·exact menQ_at h.1 h2
  ·exact menQs_at h.2 h2
end
def keyQ (id:Nat) (q:Pth) (d:Nat):Sl->Bool
 |[]=>false
 |(d',_,v)::s=>(Nat.beq d' d&&menQ id q v)||keyQ id q d s
def dropQ (id:Nat) (q:Pth) (s0:Sl):Sl->Sl
 |[]=>[]
 |(d,c,v)::s=>bif keyQ id q d s0 then dropQ id q s0 s else(d,c,v)::dropQ id q s0 s
theorem keyQ_lk {id d c:Nat} {q:Pth} {v:AV}: ∀ {s:Sl},lk s d=some (c,v)->keyQ id q d s=false->menQ id q v=false
 |[],h,_=>by simp[lk] at h
 |(d',c',v')::s,h,hk=>by
  simp only[keyQ,Bool.or_eq_false_iff,Bool.and_eq_false_iff] at hk
  rw[lk_cons] at h
  split at h
  ·rename_i e;subst e;cases h
   rcases hk.1 with z|z
   ·simp at z
   ·exact z
  ·exact keyQ_lk h hk.2
theorem dropQ_lk {id d c:Nat} {q:Pth} {v:AV} {s0:Sl}: ∀ {s:Sl},lk (dropQ id q s0 s) d=some (c,v)->lk s d=some (c,v)/\keyQ id q d s0=false
 |[],h=>by simp[dropQ,lk] at h
 |(d',c',v')::s,h=>by
  simp only[dropQ] at h
  cases hb:keyQ id q d' s0 with
  |true=>
   rw[hb,cond_true] at h
   obtain⟨h1,h2⟩:=dropQ_lk h
   have:d'≠d:=fun e=>by subst e;rw[hb] at h2;cases h2
   exact⟨by rw[lk_cons,if_neg this];exact h1,h2⟩
  |false=>
   rw[hb,cond_false,lk_cons] at h
   split at h
   ·rename_i e;subst e;exact⟨by rw[lk_cons,if_pos rfl];exact h,hb⟩
   ·rename_i e
    obtain⟨h1,h2⟩:=dropQ_lk h
    exact⟨by rw[lk_cons,if_neg e];exact h1,h2⟩
def noBoxP (id:Nat):Os->Bool
 |[]=>true
 |(_,ob)::o=>!omenP id ob&&noBoxP id o
theorem noBoxP_at {id:Nat}: ∀ {o:Os} {i:Nat} {ob:Obj},noBoxP id o=true->lk o i=some ob->omenP id ob=false
 |[],i,ob,_,h=>by simp[lk] at h
 |(j,ob')::o,i,ob,hb,h=>by
  simp only[noBoxP,Bool.and_eq_true,Bool.not_eq_true'] at hb
  rw[lk_cons] at h
  split at h
  ·cases h;exact hb.1
  ·exact noBoxP_at hb.2 h
section
variable {P:Program} {T:TT} {E:Env} {tb:Tb} {s:Sl} {o:Os} {β:Nat->Wt} {a:Act} {w:World} {t:TypeId} {ti:TI}
theorem store_in {id d e0 N e n i j e' n':Nat} {get g g':Nat->List AV} {q:Pth} {nz':Option Bool} {u:Value} {ad:Addr} {obd:Obj} (hti:TIok P t ti) (hsz:ti.sz=1) (hg:Gam E tb s o β a w) (hlk:lk o id=some (.tree e0 N get)) (hsub:subR (.row none e0 N get) q (.row nz' e n g)) (hi:i<n) (hj:j+1<=e)
  (hne:d≠id) (hld:lk o d=some obd) (htd:treeD (E.good o β) w (rsub (β d)) (.row none e' n' g') [] (.slice (β d).a n' (β d).cap) (β d).foot) (hok':(β d).ok=true) (hu:rel (E.good o β) β w (.orow d e' 0 n') u) (hbx:noBoxP id o=true) (had:(rsub (β id) q).1=some ad):
  ∃w' β',(Instr.storeAt t (.pointer (some (ad.add (i*e+j)))) u).run P w= .ok () w'/\Gam E tb (dropQ id q s s) ((id,.tree e0 N (updG q get i j [.row none e' n' g']))::rem (rem o d) id) β' a w':=by
 obtain⟨hok,ht⟩:=hg.objs id _ hlk
 have hnd:=foot_nodup hlk hg.nodup
 have hndd:=foot_nodup hld hg.nodup
 obtain⟨b,off,cells,ty,A,M,B,z1,z2,z3,z4,z5,z6,z7⟩:=tree_write (k:=1) ht hsub hi hj
 rw[z1] at had
 cases had
 unfold rel at hu
 obtain⟨_,rfl⟩:=hu
 have hu2:Value.slice ((β d).a.map (·.add (0*e'))) n' ((β d).cap-0)= .slice (β d).a n' (β d).cap:=by
  rw[Nat.zero_mul,Nat.sub_zero]
  congr 1
  cases(β d).a<;>rfl
 rw[hu2]
 have hroom:off+(i*e+j)+ti.sz<=cells.length:=by
  have:=Nat.mul_le_mul_right e (show i+1<=(rsub (β id) q).2 by omega)
  rw[Nat.add_mul,Nat.one_mul] at this
  omega
 obtain⟨w',hrun,q1,q2,q3,q4,q5,q6⟩:=run_store (q:= .slice (β d).a n' (β d).cap) hti z2 hroom (by rw[hsz];rfl) rfl
 have hbf:b∈(β id).foot:=by rw[z5];simp only[List.mem_append];exact .inl z6
 have hbd:b∉(β d).foot:=fun hx=>foot_disj hlk hld hne hg.nodup b hx hbf
 let W':Wt:=⟨(β id).a,(β id).cap,A++((β d).foot++B),(β id).ok,graft (β id) (q++[(i,j)]) (rsub (β d))⟩
 have hcore:Core (β id) W':=⟨rfl,rfl,rfl⟩
 have hlk':lk (rem o d) id=some (.tree e0 N get):=by rw[lk_rem (fun e=>hne e.symm)];exact hlk
 obtain⟨hr1,hr2⟩:=feet_rem hlk hg.nodup
 obtain⟨hd1,hd2⟩:=feet_rem hld hg.nodup
 have hsd:=feet_sub (β:=β) (rem_sub (o:=o) (c:=d))
 have hnr:(feet (rem o d) β).Nodup:=hg.nodup.sublist hsd
 obtain⟨hi1,hi2⟩:=feet_rem hlk' hnr
 have hsi:=feet_sub (β:=β) (rem_sub (o:=rem o d) (c:=id))
 have hkr:((rem o d).map (·.1)).Nodup:=hg.keys.sublist (rem_sub.map _)
 have hkey: ∀p∈rem (rem o d) id,p.1≠id:=fun p hp e=>by
  have:=rem_keys (c:=id) hkr
  exact this (List.mem_map.2 ⟨p,hp,e⟩)
 refine⟨w',setB β id W',by rw[add_none];exact hrun,?_⟩
 have hfe:feet ((id,.tree e0 N (updG q get i j [.row none e' n' g']))::rem (rem o d) id) (setB β id W')=(A++((β d).foot++B))++feet (rem (rem o d) id) β:=by
  rw[feet_cons,setB_self,feet_setB hkey]
 have hAB:(A++B).Sublist (β id).foot:=by
  rw[z5];exact(List.Sublist.refl A).append (List.sublist_append_right M B)
 have hout: ∀k,k<w.heap.size->k∉(β id).foot->w'.heap[k]?=w.heap[k]?:=fun k _ hk=>q6 k fun e=>hk (by subst e;exact hbf)
 refine hg.toQ (fun d' c v hl=>?_) (fun k hk=>?_) ?_ ?_ q1 q2 q3 (by omega) (fun k hk hx=>q6 k fun e=>hx (by subst e;exact foot_feet hlk k hbf)) fun hc id' ob' hl=>?_
 ·obtain⟨h1,h2⟩:=dropQ_lk hl
  refine⟨h1,fun k _=>?_,fun k p hk=>?_⟩
  ·by_cases hk:k=id
   ·subst hk;rw[setB_self];exact hcore
   ·rw[setB_ne hk];exact Core.refl _
  ·by_cases hki:k=id
   ·subst hki
    rw[setB_self]
    have hle:=menQ_at (keyQ_lk h1 h2) hk
    exact graft_out rfl hcore fun t ht=>by
     have:=congrArg List.length ht
     simp only[List.length_append,List.length_cons,List.length_nil] at this
     omega
   ·rw[setB_ne hki]
 ·rw[hfe] at hk
  simp only[List.mem_append] at hk
  rcases hk with(z|z|z)|z
  ·exact foot_feet hlk k (hAB.subset (by simp[z]))
  ·exact foot_feet hld k z
  ·exact foot_feet hlk k (hAB.subset (by simp[z]))
  ·exact hsd.subset (hsi.subset z)
 ·rw[hfe]
  refine List.nodup_append.2 ⟨?_,hnr.sublist hsi,fun x hx y hy e=>?_⟩
  ·have n0:=hnd.sublist hAB
   rw[List.nodup_append] at n0
   refine List.nodup_append.2 ⟨n0.1,List.nodup_append.2 ⟨hndd,n0.2.1,fun x hx y hy e=>?_⟩,fun x hx y hy e=>?_⟩
   ·subst e;exact foot_disj hlk hld hne hg.nodup x hx (hAB.subset (by simp[hy]))
   ·subst e
    rcases List.mem_append.1 hy with z|z
    ·exact foot_disj hlk hld hne hg.nodup x z (hAB.subset (by simp[hx]))
    ·exact n0.2.2 x hx x z rfl
  ·subst e
   simp only[List.mem_append] at hx
   rcases hx with z|z|z
   ·exact hi1 x (hAB.subset (by simp[z])) hy
   ·exact hd1 x z (hsi.subset hy)
   ·exact hi1 x (hAB.subset (by simp[z])) hy
 ·rw[List.map_cons,List.nodup_cons]
  exact⟨rem_keys hkr,hkr.sublist (rem_sub.map _)⟩
 ·rw[lk_cons] at hl
  split at hl
  ·rename_i hid
   cases hl;subst hid
   rw[setB_self]
   refine⟨hok,?_⟩
   have hcell:treeD (E.good ((id,.tree e0 N (updG q get i j [.row none e' n' g']))::rem (rem o d) id) (setB β id W')) w' (rsub W') (.row none e' n' g') (q++[(i,j)]) (.slice (β d).a n' (β d).cap) (β d).foot:=
    treeD_move _ [] _ _ _ (fun r=>graft_in (W:=β id) rfl r) (treeD_mono hc _ _ _ _ (fun k hk=>q6 k fun e=>hbd (by subst e;exact hk)) (fun _=>rfl) htd)
   refine z7 _ w' _ [.row none e' n' g'] [.slice (β d).a n' (β d).cap] (β d).foot rfl hnd hc (fun k hk hkb=>q6 k hkb) q5 rfl (fun r hr=>?_) ⟨_,_,_,[],rfl,by simp,hcell,rfl,rfl⟩
   refine graft_out rfl hcore fun t ht=>hr j t (Nat.le_refl _) (by omega) ?_
   rw[ht];simp
  ·rename_i hid
   have hne2:id'≠id:=fun e=>hid e.symm
   rw[lk_rem hne2] at hl
   have hne3:id'≠d:=fun e=>by
    subst e
    rw[lk_none (rem_keys hg.keys)] at hl;cases hl
   rw[lk_rem hne3] at hl
   rw[setB_ne hne2]
   refine orel_core (β:=β) (fun k _=>?_) (fun k hk p=>?_) (orel_mono hc (fun k hk=>hout k (hg.new k (foot_feet hl k hk)).2 (foot_disj hlk hl hne2 hg.nodup k hk)) (hg.objs id' ob' hl))
   ·by_cases hk:k=id
    ·subst hk;rw[setB_self];exact hcore
    ·rw[setB_ne hk];exact Core.refl _
   ·by_cases hki:k=id
    ·subst hki;rw[noBoxP_at hbx hl] at hk;cases hk
    ·rw[setB_ne hki]
end
mutual
theorem menP_men {k:Nat}: ∀ {x:AV},menP k x=true->men k x=true
 | .pth id p e off n,h=>h
 | .pp id p e i j,h=>h
 | .agg cs,h=>menPs_mens (x:=cs) h
 | .tup cs,h=>menPs_mens (x:=cs) h
 | .clo f cs,h=>menPs_mens (x:=cs) h
 | .ifc t x,h=>menP_men (x:=x) h
 | .i _ _,h=>nomatch h
 | .b _,h=>nomatch h
 | .s _,h=>nomatch h
 | .v _,h=>nomatch h
 | .nil,h=>nomatch h
 | .row _ _ _ _,h=>nomatch h
 | .cp _,h=>nomatch h
 | .op _ _,h=>nomatch h
 | .orow _ _ _ _,h=>nomatch h
 | .rp _ _ _ _,h=>nomatch h
 | .omap _,h=>nomatch h
 | .any,h=>nomatch h
theorem menPs_mens {k:Nat}: ∀ {x:List AV},menPs k x=true->mens k x=true
 |[],h=>nomatch h
 |y::ys,h=>by
  simp only[menPs,mens,Bool.or_eq_true] at h⊢
  exact h.imp menP_men menPs_mens
end
def dropPK (id:Nat) (s0:Sl):Sl->(Sl->Prop)->Prop
 |[],K=>K []
 |(d,c,v)::s,K=>match keyP id d s0 with
  |true=>dropPK id s0 s K
  |false=>dropPK id s0 s fun r=>K ((d,c,v)::r)
theorem dropPK_ok {id:Nat} {s0:Sl}: ∀ {s:Sl} {K:Sl->Prop},dropPK id s0 s K->K (dropP id s0 s)
 |[],K,h=>h
 |(d,c,v)::s,K,h=>by
  simp only[dropPK] at h
  simp only[dropP]
  split at h
  ·rename_i hb;rw[hb];exact dropPK_ok h
  ·rename_i hb;rw[hb];exact dropPK_ok (K:=fun r=>K ((d,c,v)::r)) h
def dropQK (id:Nat) (q:Pth) (s0:Sl):Sl->(Sl->Prop)->Prop
 |[],K=>K []
 |(d,c,v)::s,K=>match keyQ id q d s0 with
  |true=>dropQK id q s0 s K
  |false=>dropQK id q s0 s fun r=>K ((d,c,v)::r)
theorem dropQK_ok {id:Nat} {q:Pth} {s0:Sl}: ∀ {s:Sl} {K:Sl->Prop},dropQK id q s0 s K->K (dropQ id q s0 s)
 |[],K,h=>h
 |(d,c,v)::s,K,h=>by
  simp only[dropQK] at h
  simp only[dropQ]
  split at h
  ·rename_i hb;rw[hb];exact dropQK_ok h
  ·rename_i hb;rw[hb];exact dropQK_ok (K:=fun r=>K ((d,c,v)::r)) h
theorem setR_upd {y y':AV} {i j:Nat}: ∀ {p:Pth} {nz:Option Bool} {e0 N:Nat} {get:Nat->List AV},subR (.row nz e0 N get) (p++[(i,j)]) y->setR y' (.row nz e0 N get) (p++[(i,j)])= .row nz e0 N (updG p get i j [y'])
 |[],nz,e0,N,get,h=>by
  simp only[List.nil_append,subR] at h
  obtain⟨ha,x',hx',hs⟩:=h
  simp only[List.nil_append,setR,updG,AV.row.injEq,true_and]
  funext k
  simp only[setC,setG]
  split
  ·have: ∀(l:List AV) (j:Nat) (z:AV),j<l.length->l.set j z=splice l j [z]:=fun l=>by
    induction l with
    |nil=>intro j z h;simp at h
    |cons a l ih=>intro j z h;cases j with
     |zero=>simp[splice,splice_nil]
     |succ j=>simp only[List.set_cons_succ,splice];rw[ih j z (by simpa using h)]
   exact this _ _ _ (List.getElem?_eq_some_iff.1 hx').1
  ·rfl
 |(a,c)::p,nz,e0,N,get,h=>by
  simp only[List.cons_append,subR] at h
  obtain⟨ha,x',hx',hs⟩:=h
  rw[List.cons_append,setR,updG,nthN_eq,hx']
  cases x' with
  |row nz1 e1 n1 g1=>
   simp only[Option.getD_some]
   rw[setR_upd hs]
  |_=>cases p<;>simp[subR] at hs
theorem leafs_rels {S:Nat->Prop} {w:World} {sb:Sub} {p:Pth} {i:Nat}: ∀ {xs:List AV} {j:Nat} {us:List Value} {F:List Nat},leafs xs=true->treeDs S w sb xs p i j us F->F=[]/\rels S W0 w xs us
 |[],j,us,F,hl,h=>⟨h.2,h.1⟩
 |x::xs,j,us,F,hl,h=>by
  simp only[leafs,Bool.and_eq_true] at hl
  unfold treeDs at h
  obtain⟨u,us',F1,F2,rfl,rfl,h1,h2⟩:=h
  have hr:isRow x=false:=by cases x<;>first|rfl|(have:=hl.1;cases this)
  obtain⟨rfl,k1⟩:=(treeD_flat hr).1 h1
  obtain⟨rfl,k2⟩:=leafs_rels hl.2 h2
  exact⟨rfl,u,us',rfl,k1,k2⟩
section
variable {P:Program} {T:TT} {E:Env} {tb:Tb} {s:Sl} {o:Os} {β:Nat->Wt} {a:Act} {w:World} {t:TypeId} {ti:TI}
theorem leaf_orel {S:Nat->Prop} {β:Nat->Wt} {w:World} {W:Wt} {e n:Nat} {g:Nat->List AV} (hleaf: ∀i,i<n->leafs (g i)=true) (h:orel S β w W (.tree e n g)):orel S β w W (.row none e n g):=by
 obtain⟨_,h⟩:=h
 unfold treeD at h
 obtain⟨_,_,hle,hnode⟩:=h
 refine⟨hle.1,hle.2,?_⟩
 rcases hnode with⟨z1,z2,z3⟩|⟨b,off,cells,ty,us,FS,z1,z2,z3,z4,z5⟩
 ·exact .inl ⟨z1,z2,z3⟩
 ·refine .inr ⟨b,off,cells,ty,us,z1,?_,z3,⟨z4,(fun _ h=>nomatch h)⟩,fun k hk=>⟨(z5 k hk).1,(leafs_rels (hleaf k hk) (z5 k hk).2).2⟩⟩
  have: ∀k∈List.range n,FS k=[]:=fun k hk=>(leafs_rels (hleaf k (List.mem_range.1 hk)) (z5 k (List.mem_range.1 hk)).2).1
  rw[z2,List.flatMap_eq_nil_iff.2 this]
theorem nz_none {S:Nat->Prop} {w:World} {sb:Sub} {nz:Option Bool} {e n:Nat} {g:Nat->List AV} {p:Pth} {u:Value} {F:List Nat} (h:treeD S w sb (.row nz e n g) p u F):treeD S w sb (.row none e n g) p u F:=by
 unfold treeD at h⊢
 exact⟨h.1,(fun z hz=>by cases hz),h.2.2⟩
theorem take_out {id q x e0 N e n i j:Nat} {get g2:Nat->List AV} {p0:Pth} {nz2:Option Bool} {obq:Obj} (hg:Gam E tb s o β a w) (hlk:lk o id=some (.tree e0 N get)) (hsub:subR (.row none e0 N get) (p0++[(i,j)]) (.row nz2 e n g2)) (hq: ∀(S:Nat->Prop) (β:Nat->Wt) (W:Wt),orel S β w W (.tree e n g2)->orel S β w W obq) (hfr:fresh q s o=true)
  (hx:lk s x=some (0,.pth id (p0++[(i,j)]) e 0 n)):
  ∃β',Gam E tb ((x,0,.orow q e 0 n)::s) ((q,obq)::(id,.tree e0 N (updG p0 get i j [.any]))::rem o id) β' a w:=by
 obtain⟨hok,ht⟩:=hg.objs id _ hlk
 have hnd:=foot_nodup hlk hg.nodup
 obtain⟨hr1,hr2⟩:=feet_rem hlk hg.nodup
 have hsi:=feet_sub (β:=β) (rem_sub (o:=o) (c:=id))
 simp only[fresh,Bool.and_eq_true,Bool.not_eq_true'] at hfr
 have hqo: ∀p∈o,p.1≠q:=fun p hp=>omens_keys hfr.2 p hp
 have hqid:q≠id:=fun e=>by subst e;exact hqo _ (lk_mem hlk) rfl
 obtain⟨uy,Fy,A,B,e1,y1,y2⟩:=focus ht hsub
 rw[List.nil_append] at y1
 have hsetR:=setR_upd (y':= .any) hsub
 have hu:uy= .slice (rsub (β id) (p0++[(i,j)])).1 n (rsub (β id) (p0++[(i,j)])).2:=by
  unfold treeD at y1;exact y1.1
 let Wq:Wt:=⟨(rsub (β id) (p0++[(i,j)])).1,(rsub (β id) (p0++[(i,j)])).2,Fy,true,fun r=>rsub (β id) (p0++[(i,j)]++r)⟩
 have hWq: ∀r,rsub Wq ([]++r)=rsub (β id) (p0++[(i,j)]++r):=fun r=>by cases r with
  |nil=>rw[@List.append_nil _ (p0++[(i,j)])];rfl
  |cons y r=>rfl
 have hkey: ∀p∈rem o id,p.1≠id:=fun p hp e=>by
  have:=rem_keys (c:=id) hg.keys
  exact this (List.mem_map.2 ⟨p,hp,e⟩)
 have hkq: ∀p∈(id,Obj.tree e0 N (updG p0 get i j [.any]))::rem o id,p.1≠q:=fun p hp e=>by
  rcases List.mem_cons.1 hp with z|z
  ·subst z;exact hqid e.symm
  ·exact hqo p (rem_sub.subset z) e
 have hfe:feet ((q,obq)::(id,.tree e0 N (updG p0 get i j [.any]))::rem o id) (setB (setB β id (footW (β id) (A++([]++B)))) q Wq)=Fy++((A++B)++feet (rem o id) β):=by
  rw[feet_cons,setB_self,feet_setB hkq,feet_cons,setB_self,feet_setB hkey];rfl
 have hnd2:=hnd
 rw[e1] at hnd2
 have hAB:(A++B).Sublist (β id).foot:=by
  rw[e1];exact(List.Sublist.refl A).append (List.sublist_append_right Fy B)
 have hFs: ∀k∈Fy,k∈(β id).foot:=fun k hk=>by rw[e1];simp[hk]
 have hFAB: ∀k∈Fy,k∉A++B:=fun k hk hk2=>by
  rw[List.nodup_append] at hnd2
  rcases List.mem_append.1 hk2 with z|z
  ·exact hnd2.2.2 k z k (by simp[hk]) rfl
  ·exact(List.nodup_append.1 hnd2.2.1).2.2 k hk k z rfl
 have hβ: ∀k,k≠q->Core (β k) (setB (setB β id (footW (β id) (A++([]++B)))) q Wq k)/\ ∀p,rsub (setB (setB β id (footW (β id) (A++([]++B)))) q Wq k) p=rsub (β k) p:=fun k hk=>by
  rw[setB_ne hk]
  by_cases hki:k=id
  ·subst hki;rw[setB_self];exact⟨footW_core _ _,footW_rsub _ _⟩
  ·rw[setB_ne hki];exact⟨Core.refl _,fun _=>rfl⟩
 have hG:Gam E tb s ((q,obq)::(id,.tree e0 N (updG p0 get i j [.any]))::rem o id) (setB (setB β id (footW (β id) (A++([]++B)))) q Wq) a w:=by
  refine hg.to (fun d c v hl=>⟨hl,fun k hk=>?_,fun k hk p=>?_⟩) (fun k hk=>?_) ?_ ?_ rfl rfl rfl (Nat.le_refl _) (fun _ _ _=>rfl) fun hc id' ob' hl=>?_
  ·exact(hβ k fun e=>by subst e;rw[smen_lk hl hfr.1] at hk;cases hk).1
  ·refine(hβ k fun e=>?_).2 p
   subst e
   have h1:=smen_lk hl hfr.1
   rw[menP_men hk] at h1;cases h1
  ·rw[hfe] at hk
   simp only[List.mem_append] at hk
   rcases hk with z|(z|z)|z
   ·exact foot_feet hlk k (hFs k z)
   ·exact foot_feet hlk k (hAB.subset (by simp[z]))
   ·exact foot_feet hlk k (hAB.subset (by simp[z]))
   ·exact hsi.subset z
  ·rw[hfe]
   have n2:=hnd2
   rw[List.nodup_append] at n2
   refine List.nodup_append.2 ⟨(List.nodup_append.1 n2.2.1).1,List.nodup_append.2 ⟨hnd.sublist hAB,hg.nodup.sublist hsi,fun x hx y hy e=>by subst e;exact hr1 x (hAB.subset hx) hy⟩,fun x hx y hy e=>?_⟩
   subst e
   rcases List.mem_append.1 hy with z|z
   ·exact hFAB x hx z
   ·exact hr1 x (hFs x hx) z
  ·rw[List.map_cons,List.map_cons,List.nodup_cons,List.nodup_cons]
   refine⟨fun hm=>?_,rem_keys hg.keys,hg.keys.sublist (rem_sub.map _)⟩
   rw[<-List.map_cons (f:=Prod.fst) (a:=(id,Obj.tree e0 N (updG p0 get i j [.any])))] at hm
   obtain⟨p,hp,e⟩:=List.mem_map.1 hm
   exact hkq p hp e
  ·rw[lk_cons] at hl
   split at hl
   ·rename_i hid
    cases hl;subst hid
    rw[setB_self]
    refine hq _ _ _ ⟨rfl,?_⟩
    have h5:=nz_none (treeD_move _ (p0++[(i,j)]) [] _ _ hWq (treeD_mono (sb':=rsub (β id)) hc _ _ _ _ (fun _ _=>rfl) (fun _=>rfl) y1))
    rw[hu] at h5;exact h5
   ·rename_i hid
    rw[lk_cons] at hl
    split at hl
    ·rename_i hid2
     cases hl;subst hid2
     rw[setB_ne (fun e=>hqid e.symm),setB_self]
     refine⟨hok,?_⟩
     have:=y2 _ w (rsub (footW (β id) (A++([]++B)))) .any [] hc (fun _ _=>rfl) (fun r _=>footW_rsub _ _ _) ⟨rfl,by rw[hu];rfl⟩
     rw[hsetR] at this
     exact this
    ·rename_i hid2
     have hne:id'≠id:=fun e=>hid2 e.symm
     rw[lk_rem hne] at hl
     have hnq:id'≠q:=fun e=>hid e.symm
     rw[setB_ne hnq,setB_ne hne]
     obtain⟨m1,m2⟩:=omens_lk hl hfr.2
     refine orel_core (β:=β) (fun k hk=>(hβ k fun e=>?_).1) (fun k hk p=>(hβ k fun e=>?_).2 p) (orel_mono hc (fun _ _=>rfl) (hg.objs id' ob' hl))
     ·subst e;rw[m1] at hk;cases hk
     ·subst e
      have h2:omen k ob'=true:=by
       cases ob' with
       |box p q cs=>exact menPs_mens hk
       |row=>cases hk
       |tree=>cases hk
       |mp=>cases hk
      rw[m1] at h2;cases h2
 obtain⟨u,s1,s2⟩:=hg.slots x 0 _ hx
 have htg:=tg_zero hg.tbok
 have hru:=s2 htg
 refine⟨setB (setB β id (footW (β id) (A++([]++B)))) q Wq,hG.slotsTo hG.tbok fun d c v hl=>?_⟩
 rw[lk_cons] at hl
 split at hl
 ·rename_i hd
  cases hl;subst hd
  refine⟨u,s1,fun _=>?_⟩
  unfold rel at hru
  obtain⟨_,rfl⟩:=hru
  exact⟨by rw[setB_self],by rw[setB_self]⟩
 ·exact hG.slots d c v hl
end
section
variable {P:Program} {T:TT} {tb:Tb} {s:Sl} {o:Os} {c:Nat} {t:TypeId} {ti:TI} {x y:Operand} {u v p:AV}
def storeO (ti:TI) (s:Sl) (o:Os) (p:AV) (d e' n':Nat) (K:Sl->Os->Prop):Prop:=match Nat.beq ti.sz 1 with
 |true=>match p with
  | .rp id e i j=>match lk o id with
   |some (.tree e1 n get)=>match Nat.beq e e1&&Nat.ble (j+1) e&& !Nat.beq d id&&noBoxP id o with
    |true=>rowIn (lk o d) e' n' fun g A=>(A/\i<n)/\remK o d fun o1=>remK o1 id fun o2=>dropQK id [] s s fun s=>K s ((id,.tree e1 n (setG get i j [.row none e' n' g]))::o2)
    |false=>False
   |_=>False
  | .pp id q e i j=>match lk o id with
   |some (.tree e0 N get)=>navK [] 0 q e0 N get fun e1 n g0=>match Nat.beq e e1&&Nat.ble (j+1) e&& !Nat.beq d id&&noBoxP id o with
    |true=>rowIn (lk o d) e' n' fun g A=>(A/\i<n)/\remK o d fun o1=>remK o1 id fun o2=>dropQK id q s s fun s=>K s ((id,.tree e0 N (updG q get i j [.row none e' n' g]))::o2)
    |false=>False
   |_=>False
  |_=>False
 |false=>False
theorem beq_ne {a b:Nat} (h:(!Nat.beq a b)=true):a≠b:=fun e=>by subst e;simp at h
theorem storeO_ok {d e' n':Nat} {K:Sl->Os->Prop} {ty:TypeId} {pos:String} {after:Array Edge} {gu:Option (Nat×Bool)} (hti:TIok P t ti) (hx:Opn tb s 0 x p) (hy:Opn tb s 0 y (.orow d e' 0 n')) (h:storeO ti s o p d e' n' K): ∃s' o',K s' o'/\(∀i q v',lk s' i=some (q,v')->lk s i=some (q,v'))/\Mut P tb s o ⟨none,.store t x y,ty,pos,after,gu⟩ s' o':=by
 unfold storeO at h
 split at h
 ·rename_i hsz
  have hsz:=Nat.eq_of_beq_eq_true hsz
  split at h
  ·rename_i id e i j
   split at h
   ·rename_i e1 n get hlk
    split at h
    ·rename_i hb
     simp only[Bool.and_eq_true] at hb
     obtain⟨⟨⟨hb1,hb2⟩,hb3⟩,hb4⟩:=hb
     have hb1:=Nat.eq_of_beq_eq_true hb1
     have hb2:=Nat.le_of_ble_eq_true hb2
     have hb3:=beq_ne hb3
     subst hb1
     obtain⟨obd,g,A,hld,⟨⟨hA,hi⟩,hK⟩,hrow⟩:=rowIn_ok h
     have hK:=dropQK_ok (remK_ok (remK_ok hK))
     refine⟨_,_,hK,fun i q v' hl=>(dropQ_lk hl).1,fun E β a w hg _ K' Q hK'=>?_⟩
     have hc:=tg_zero hg.tbok
     have h1:=hx.eval hg hc
     have h2:=hy.eval hg hc
     have hok':(β d).ok=true:=h2.1
     unfold rel at h1
     obtain⟨h0,ad,e1',e2⟩:=h1
     obtain⟨w',β',hrun,hG⟩:=store_in (q:=[]) (nz':=none) hti hsz hg hlk rfl hi hb2 hb3 hld (hrow _ _ _ _ hA (hg.objs d _ hld)) hok' h2 hb4 (ad:=ad) e1'
     have hex:(execOp a.eval ⟨none,.store t x y,ty,pos,after,gu⟩).run P w= .ok .skip w':=by
      simp only[execOp,e2]
      rw[Sem.run_bind,hrun];rfl
     unfold Oper.wp
     rw[hex,Oper.upon_skip]
     exact hK' _ _ _ hG
    ·cases h
   ·cases h
  ·rename_i id q e i j
   split at h
   ·rename_i e0 N get hlk
    obtain⟨e1,n,g0,hk,hnav⟩:=navK_ok h
    clear h
    have h:=hk
    clear hk
    split at h
    ·rename_i hb
     simp only[Bool.and_eq_true] at hb
     obtain⟨⟨⟨hb1,hb2⟩,hb3⟩,hb4⟩:=hb
     have hb1:=Nat.eq_of_beq_eq_true hb1
     have hb2:=Nat.le_of_ble_eq_true hb2
     have hb3:=beq_ne hb3
     subst hb1
     obtain⟨obd,g,A,hld,⟨⟨hA,hi⟩,hK⟩,hrow⟩:=rowIn_ok h
     have hK:=dropQK_ok (remK_ok (remK_ok hK))
     refine⟨_,_,hK,fun i q v' hl=>(dropQ_lk hl).1,fun E β a w hg _ K' Q hK'=>?_⟩
     have hc:=tg_zero hg.tbok
     have h1:=hx.eval hg hc
     have h2:=hy.eval hg hc
     have hok':(β d).ok=true:=h2.1
     obtain⟨nz',hsub⟩:=hnav rfl none
     unfold rel at h1
     obtain⟨h0,ad,e1',e2⟩:=h1
     obtain⟨w',β',hrun,hG⟩:=store_in hti hsz hg hlk hsub hi hb2 hb3 hld (hrow _ _ _ _ hA (hg.objs d _ hld)) hok' h2 hb4 (ad:=ad) e1'
     have hex:(execOp a.eval ⟨none,.store t x y,ty,pos,after,gu⟩).run P w= .ok .skip w':=by
      simp only[execOp,e2]
      rw[Sem.run_bind,hrun];rfl
     unfold Oper.wp
     rw[hex,Oper.upon_skip]
     exact hK' _ _ _ hG
    ·cases h
   ·cases h
  ·cases h
 ·cases h
def lastK:Pth->Pth->(Pth->Nat->Nat->Prop)->Prop
 |[],_,_=>False
 |[(i,j)],acc,K=>K acc i j
 |x::y::r,acc,K=>lastK (y::r) (acc++[x]) K
theorem lastK_ok: ∀ {p acc:Pth} {K:Pth->Nat->Nat->Prop},lastK p acc K-> ∃p0 i j,acc++p=p0++[(i,j)]/\K p0 i j
 |[],_,_,h=>h.elim
 |[(i,j)],acc,K,h=>⟨acc,i,j,rfl,h⟩
 |x::y::r,acc,K,h=>by
  obtain⟨p0,i,j,e,hk⟩:=lastK_ok (p:=y::r) h
  exact⟨p0,i,j,by rw[<-e];simp,hk⟩
def takT (row:Bool) (x id:Nat) (q:Pth) (e n:Nat) (s:Sl) (o:Os) (K:Sl->Os->Prop):Prop:=match lk o id with
 |some (.tree e0 N get)=>navK [] 0 q e0 N get fun e' n' g=>match Nat.beq e e' with
  |true=>match row with
   |true=>(n=n'/\ ∀i,i<n'->leafs (g i)=true)/\lastK q [] fun p0 i j=>match fresh (x+100000) s o with
    |true=>remK o id fun o1=>K ((x,0,.orow (x+100000) e 0 n)::s) ((x+100000,.row none e n g)::(id,.tree e0 N (updG p0 get i j [.any]))::o1)
    |false=>False
   |false=>n=n'/\lastK q [] fun p0 i j=>match fresh (x+100000) s o with
    |true=>remK o id fun o1=>K ((x,0,.orow (x+100000) e 0 n)::s) ((x+100000,.tree e n g)::(id,.tree e0 N (updG p0 get i j [.any]))::o1)
    |false=>False
  |false=>False
 |_=>False
theorem takT_ok {row:Bool} {x id e n:Nat} {q:Pth} {K:Sl->Os->Prop} (hx:lk s x=some (0,.pth id q e 0 n)) (h:takT row x id q e n s o K): ∃s' o',K s' o'/\(∀d q v',lk s' d=some (q,v')-> ∃v,lk s d=some (q,v))/\ ∀(E:Env) (tb:Tb) (β:Nat->Wt) (a:Act) (w:World),Gam E tb s o β a w-> ∃β',Gam E tb s' o' β' a w:=by
 have hs: ∀(d q0:Nat) (v':AV),lk ((x,0,.orow (x+100000) e 0 n)::s) d=some (q0,v')-> ∃v,lk s d=some (q0,v):=fun d q0 v' hl=>by
  rw[lk_cons] at hl
  split at hl
  ·rename_i hd;subst hd;cases hl;exact⟨_,hx⟩
  ·exact⟨v',hl⟩
 unfold takT at h
 split at h
 ·rename_i e0 N get hlk
  obtain⟨e',n',g,hk,hnav⟩:=navK_ok h
  clear h
  have h:=hk
  clear hk
  split at h
  ·rename_i hb
   have hb:=Nat.eq_of_beq_eq_true hb
   subst hb
   split at h
   ·obtain⟨⟨rfl,hleaf⟩,h⟩:=h
    obtain⟨p0,i,j,e1,hk2⟩:=lastK_ok h
    clear h
    have h:=hk2
    clear hk2
    rw[List.nil_append] at e1
    subst e1
    split at h
    ·rename_i hfr
     have hk3:=remK_ok h
     refine⟨_,_,hk3,hs,fun E tb β a w hg=>?_⟩
     obtain⟨nz',hsub⟩:=hnav rfl none
     exact take_out hg hlk hsub (fun _ _ _=>leaf_orel hleaf) hfr hx
    ·cases h
   ·obtain⟨rfl,h⟩:=h
    obtain⟨p0,i,j,e1,hk2⟩:=lastK_ok h
    clear h
    have h:=hk2
    clear hk2
    rw[List.nil_append] at e1
    subst e1
    split at h
    ·rename_i hfr
     have hk3:=remK_ok h
     refine⟨_,_,hk3,hs,fun E tb β a w hg=>?_⟩
     obtain⟨nz',hsub⟩:=hnav rfl none
     exact take_out hg hlk hsub (fun _ _ _ h=>h) hfr hx
    ·cases h
  ·cases h
 ·cases h
inductive TakW (A B:Prop):Prop
 |row (h:A)
 |tree (h:B)
def takK (p:Oper) (s:Sl) (o:Os) (K:Sl->Os->Prop):Prop:=match p.op with
 | .call ⟨.builtin .append,xs,_⟩=>match xs.toList with
  |[.tmp x,_]=>match lk s x with
   |some (0,.pth id q e 0 n)=>TakW (takT true x id q e n s o K) (takT false x id q e n s o K)
   |_=>K s o
  |_=>K s o
 | .call ⟨.value _,xs,_⟩=>match xs.toList with
  | .tmp x::_=>match lk s x with
   |some (0,.pth id q e 0 n)=>takT false x id q e n s o K
   |_=>K s o
  |_=>K s o
 |_=>K s o
theorem takK_ok {p:Oper} {K:Sl->Os->Prop} (h:takK p s o K): ∃s' o',K s' o'/\(∀d q v',lk s' d=some (q,v')-> ∃v,lk s d=some (q,v))/\ ∀(E:Env) (tb:Tb) (β:Nat->Wt) (a:Act) (w:World),Gam E tb s o β a w-> ∃β',Gam E tb s' o' β' a w:=by
 have triv:K s o-> ∃s' o',K s' o'/\(∀d q v',lk s' d=some (q,v')-> ∃v,lk s d=some (q,v))/\ ∀(E:Env) (tb:Tb) (β:Nat->Wt) (a:Act) (w:World),Gam E tb s o β a w-> ∃β',Gam E tb s' o' β' a w:=fun h=>⟨s,o,h,fun d q v hl=>⟨v,hl⟩,fun E tb β a w hg=>⟨β,hg⟩⟩
 unfold takK at h
 split at h
 ·split at h
  ·split at h
   ·rename_i hx
    rcases h with h|h
    ·exact takT_ok hx h
    ·exact takT_ok hx h
   ·exact triv h
  ·exact triv h
 ·split at h
  ·split at h
   ·rename_i hx
    exact takT_ok hx h
   ·exact triv h
  ·exact triv h
 ·exact triv h
def hasNil:List AV->Bool
 |[]=>false
 | .nil::_=>true
 |_::xs=>hasNil xs
def leafN:AV->Bool
 | .nil=>true
 |x=>leafA x
def leafNs:List AV->Bool
 |[]=>true
 |x::xs=>leafN x&&leafNs xs
theorem leafN_tree {S:Nat->Prop} {β:Nat->Wt} {w:World} {sb:Sub} {x:AV} {p:Pth} {u:Value} (hs:sb p=(none,0)) (hl:leafN x=true) (h:rel S β w x u):treeD S w sb x p u []:=by
 cases x
 case nil=>unfold treeD;exact⟨rfl,h,hs⟩
 all_goals first|exact leafA_tree hl h|cases hl
theorem leafNs_tree {S:Nat->Prop} {β:Nat->Wt} {w:World} {sb:Sub} {p:Pth} {i:Nat} (hs: ∀j,sb (p++[(i,j)])=(none,0)): ∀ {xs:List AV} {j:Nat} {us:List Value},leafNs xs=true->rels S β w xs us->treeDs S w sb xs p i j us []
 |[],j,us,hl,h=>⟨h,rfl⟩
 |x::xs,j,us,hl,h=>by
  simp only[leafNs,Bool.and_eq_true] at hl
  obtain⟨u,us',rfl,h1,h2⟩:=h
  exact⟨u,us',[],[],rfl,rfl,leafN_tree (hs j) hl.1 h1,leafNs_tree hs hl.2 h2⟩
def makT (ti:TI) (d:Nat) (zero:List AV) (u v:AV) (K:AV->Os->Prop):Prop:=match ti.el,u,v with
 |some (_,e,B),.i _ m,.i _ m'=>match leafNs zero with
  |true=>(0<=m/\m'=m/\B*m.toNat<=281474976710656/\m<=9223372036854775807)/\K (.orow d e 0 m.toNat) [(d,.tree e m.toNat fun _=>zero)]
  |false=>False
 |_,_,_=>False
theorem makT_ok {d:Nat} {dst:Option Nat} {ti':TI} {K:AV->Os->Prop} (hti:TIok P t ti) (hti': ∀e n b,ti.el=some (e,n,b)->TIok P e ti') (hz':ti'.zero≠[]) (hx:Opn tb s c x u) (hy:Opn tb s c y v) (h:makT ti d (ti'.zero.map constC) u v K): ∃r no,K r no/\Add P tb s o c dst (.makeSlice t x y) r no:=by
 unfold makT at h
 split at h
 ·rename_i e0 e B k m k' m' hel
  split at h
  ·rename_i hleaf
   obtain⟨⟨h0,rfl,hB,h63⟩,h⟩:=h
   refine⟨_,_,h,fun E tb' s' o' β a w he hs ho hf hg hc hc' ty pos after gu K Q hK=>?_⟩
   obtain⟨hu,hs',inf,z,i1,i2,i3,i4,i5,i6⟩:=hti.el _ _ _ hel
   subst i2 i3
   obtain⟨⟨z',q1,q2⟩,q3,q4⟩:=(hti' _ _ _ hel).zero hz'
   have hzz:z'=z:=by
    have:=q1 w
    simp[zeroValue,typeInfo,i1,i4] at this
    exact this.symm
   subst hzz
   have h1:=(hx.to he (hs x (by simp[Op.operands]))).eval hg hc'
   have h2:=(hy.to he (hs y (by simp[Op.operands]))).eval hg hc'
   unfold rel at h1 h2
   have hlen:ti'.zero.length=inf.size:=by rw[<-q2,<-i5];simp
   have hrun:(execOp a.eval ⟨dst,.makeSlice t x y,ty,pos,after,gu⟩).run P w= .ok (.value (.slice (some ⟨w.heap.size,0,none⟩) m'.toNat m'.toNat)) (w.alloc (.cells (madeCells z'.cells (m'.toNat*inf.size)) e0)):=by
    simp only[execOp,h1,h2]
    refine run_next (run_make w t e0 inf z' hu i1 i4 k k' m' m' h0 (Int.le_refl _) ?_ h63)
    have:((inf.bytes*m'.toNat:Nat):Int)<=((281474976710656:Nat):Int):=Int.ofNat_le.2 hB
    rw[Int.natCast_mul,Int.toNat_of_nonneg h0] at this
    exact this
   unfold Oper.wp
   rw[hrun,Oper.upon_value]
   have hadd:=hg.add (d:=d) (W:=⟨some ⟨w.heap.size,0,none⟩,m'.toNat,[w.heap.size],true,sub0⟩) (ob:= .tree inf.size m'.toNat fun _=>ti'.zero.map constC) (w':=w.alloc (.cells (madeCells z'.cells (m'.toNat*inf.size)) e0)) (hf (d,_) (List.mem_singleton.2 rfl))
    (fun k hk=>by simp only[List.mem_singleton] at hk;subst hk;exact⟨Nat.le_refl _,by rw[heap_push];exact Nat.lt_succ_self _⟩) (by simp) rfl rfl rfl (by rw[heap_push];omega) (fun k hk=>Below.heap_alloc w _ k hk)
    fun hc=>⟨rfl,by
     unfold treeD
     refine⟨rfl,(fun z hz=>by cases hz),⟨Nat.le_refl _,by unfold maxLen;omega⟩,.inr ⟨w.heap.size,0,(madeCells z'.cells (m'.toNat*inf.size)).toList,e0,fun _=>ti'.zero,fun _=>[],rfl,?_,?_,?_,fun i hi=>⟨⟨⟨hlen,q4⟩,fun j u hj=>?_⟩,?_⟩⟩⟩
     ·have: ∀l:List Nat,l.flatMap (fun _=>([]:List Nat))=[]:=fun l=>by induction l<;>simp_all
      rw[this]
     ·rw[Array.toArray_toList];exact heap_alloc_new w _
     ·simp[size_madeCells,rsub]
     ·rw[Nat.zero_add,<-hlen,show z'.cells=ti'.zero.toArray by rw[<-q2]]
      exact zeros_at _ _ hi hj
     ·exact leafNs_tree (β:=β) (fun j=>rfl) hleaf (constCs_rel _)⟩
   exact hK _ _ _ hadd ⟨by rw[setB_self],by rw[setB_self,Nat.zero_mul];rfl⟩
  ·cases h
 ·cases h
end
def mapD (P:Program) (k e:Nat) (ks:Bool) (n:Nat) (F:List Int->Int) (D:DataW Unit) (es:Array MapEntry) (clock:Nat):Prop:=
 Go.WideElems.Fit P k (plainElem (H:=Unit) P e) es clock/\es.size<=n/\D= .map ((es.toList.map (Go.WideElems.rg P k (plainElem (H:=Unit) P e))).foldr DataW.insert [])/\
  ∀(zs:List Int) (kl:Lit),keyOf P k (keyV ks zs)=some kl->D.atKey kl (.lit (.int .i64 0))= .lit (.int .i64 (F zs))
def mapX (P:Program) (k e:Nat) (ks:Bool) (n:Nat) (F:List Int->Int) (x:Go.Obj):Prop:= ∃D es clock,x= .map es clock/\mapD P k e ks n F D es clock
def mset (F:List Int->Int) (zs:List Int) (v:Int):List Int->Int:=fun k=>if k=zs then v else F k
theorem mapX_le {P:Program} {k e:Nat} {ks:Bool} {n n':Nat} {F F':List Int->Int} (hn:n<=n') (hF: ∀zs,F zs=F' zs): ∀x,mapX P k e ks n F x->mapX P k e ks n' F' x:=by
 rintro x ⟨D,es,clock,rfl,h1,h2,h3,h4⟩
 exact⟨D,es,clock,rfl,h1,Nat.le_trans h2 hn,h3,fun zs kl hk=>by rw[h4 zs kl hk,hF]⟩
def intsK:List AV->(List Int->Prop)->Prop
 |[],K=>K []
 | .i .i64 z::l,K=>intsK l fun zs=>K (z::zs)
 |_::_,_=>False
def keyK (ks:Bool) (v:AV) (K:List Int->Prop):Prop:=match ks,v with
 |false,.i .i64 z=>K [z]
 |true,.agg cs=>intsK cs K
 |_,_=>False
def inIs:List Int->Prop
 |[]=>True
 |z::zs=>(-9223372036854775808<=z/\z<=9223372036854775807)/\inIs zs
theorem inIs_all: ∀ {zs:List Int},inIs zs-> ∀z∈zs,inI z
 |[],_,z,hz=>nomatch hz
 |x::zs,h,z,hz=>by
  rcases List.mem_cons.1 hz with rfl|hz
  ·exact h.1
  ·exact inIs_all h.2 z hz
theorem intsK_ok: ∀ {l:List AV} {K:List Int->Prop},intsK l K-> ∃zs,K zs/\ ∀(S:Nat->Prop) (β:Nat->Wt) (w:World) (us:List Value),rels S β w l us->us=zs.map fun z=>Value.int .i64 z
 |[],K,h=>⟨[],h,fun S β w us hr=>by unfold rels at hr;subst hr;rfl⟩
 |v::l,K,h=>by
  unfold intsK at h
  split at h
  ·cases ‹_=[]›
  ·rename_i z l' e
   cases e
   obtain⟨zs,h1,h2⟩:=intsK_ok h
   refine⟨_,h1,fun S β w us hr=>?_⟩
   unfold rels at hr
   obtain⟨u,us',rfl,r1,r2⟩:=hr
   unfold rel at r1
   rw[h2 S β w us' r2,r1];rfl
  ·cases h
theorem keyK_ok {ks:Bool} {v:AV} {K:List Int->Prop} (h:keyK ks v K): ∃zs,K zs/\(ks=false->zs.length=1)/\ ∀(S:Nat->Prop) (β:Nat->Wt) (w:World) (u:Value),rel S β w v u->u=keyV ks zs:=by
 unfold keyK at h
 split at h
 ·exact⟨_,h,fun _=>rfl,fun S β w u hr=>by unfold rel at hr;rw[hr];rfl⟩
 ·obtain⟨zs,h1,h2⟩:=intsK_ok h
  refine⟨zs,h1,(fun h=>by cases h),fun S β w u hr=>?_⟩
  unfold rel at hr
  obtain⟨us,rfl,r⟩:=hr
  rw[h2 _ _ _ _ r];rfl
 ·cases h
theorem keyV_inj {ks:Bool} {zs zs':List Int} (h1:ks=false->zs.length=1) (h:keyV ks zs=keyV ks zs'):zs=zs':=by
 cases ks with
 |true=>
  unfold keyV at h
  simp only[Value.agg.injEq] at h
  have h:=congrArg Array.toList h
  simp only at h
  have key: ∀(a b:List Int),a.map (fun z=>Value.int .i64 z)=b.map (fun z=>Value.int .i64 z)->a=b:=by
   intro a
   induction a with
   |nil=>intro b h;cases b with
    |nil=>rfl
    |cons _ _=>cases h
   |cons x a ih=>intro b h;cases b with
    |nil=>cases h
    |cons y b=>
     simp only[List.map_cons,List.cons.injEq,Value.int.injEq] at h
     rw[h.1.2,ih b h.2]
  exact key _ _ h
 |false=>
  have hl:=h1 rfl
  match zs,hl with
  |[z],_=>
   unfold keyV at h
   simp only at h
   split at h
   ·cases h;rfl
   ·cases h
section
variable {P:Program} {tb:Tb} {s:Sl} {o:Os} {c:Nat} {t:Nat} {ti:TI} {x y z:Operand} {u v q:AV}
def mkmA (P:Program) (t d:Nat) (ti:TI) (K:AV->Os->Prop):Prop:=match ti.mp with
 |some (k,e,ks,m)=>K (.omap d) [(d,.mp (mapX P k e ks 0 fun _=>0) 0 0 fun _=>0)]
 |none=>False
theorem mkmA_ok {d:Nat} {dst:Option Nat} {K:AV->Os->Prop} (hti:TIok P t ti) (h:mkmA P t d ti K): ∃r no,K r no/\Add P tb s o c dst (.makeMap t none) r no:=by
 unfold mkmA at h
 split at h
 ·rename_i k e ks m hm
  refine⟨_,_,h,fun E tb' s' o' β a w he hs ho hf hg hc hc' ty pos after gu K Q hK=>?_⟩
  have hrun:(execOp a.eval ⟨dst,.makeMap t none,ty,pos,after,gu⟩).run P w= .ok (.value (.map (some w.heap.size))) (w.alloc (.map #[] 0)):=by
   simp only[execOp]
   exact run_next (run_makeMap t w)
  unfold Oper.wp
  rw[hrun,Oper.upon_value]
  have hadd:=hg.add (d:=d) (W:=⟨some ⟨w.heap.size,0,none⟩,0,[w.heap.size],true,sub0⟩) (ob:= .mp (mapX P k e ks 0 fun _=>0) 0 0 fun _=>0) (w':=w.alloc (.map #[] 0)) (hf (d,_) (List.mem_singleton.2 rfl))
   (fun k hk=>by simp only[List.mem_singleton] at hk;subst hk;exact⟨Nat.le_refl _,by rw[heap_push];exact Nat.lt_succ_self _⟩) (by simp) rfl rfl rfl (by rw[heap_push];omega) (fun k hk=>Below.heap_alloc w _ k hk)
   fun hc=>⟨⟨rfl,rfl,rfl⟩,w.heap.size,_,rfl,rfl,heap_alloc_new w _,⟨.map [],#[],0,rfl,by
    obtain⟨es,clock,h1,h2,h3,h4⟩:=World.ownsMap_made (H:=Unit) w P k (plainElem P e)
    rw[heap_alloc_new] at h1
    cases h1
    exact⟨h2,h3,h4,fun zs kl _=>rfl⟩⟩,fun _ h=>nomatch h⟩
  exact hK _ _ _ hadd ⟨by rw[setB_self],w.heap.size,by rw[setB_self],rfl⟩
 ·cases h
def lokA (P:Program) (tb:Tb) (c:Nat) (ti:TI) (o:Os) (u v:AV) (K:AV->Prop):Prop:=match ti.mp,u with
 |some (k,e,ks,m),.omap id=>match lk o id with
  |some (.mp Φ t' n F)=>keyK ks v fun zs=>match Nat.beq zs.length m with
   |true=>Φ=mapX P k e ks n F/\need tb c (inIs zs) (K (.i .i64 (F zs)))
   |false=>False
  |_=>False
 |_,_=>False
theorem lokA_ok {K:AV->Prop} (hti:TIok P t ti) (hx:Opn tb s c x u) (hy:Opn tb s c y v) (h:lokA P tb c ti o u v K): ∃r,K r/\Val P tb s o c (.lookup t x y false) r:=by
 unfold lokA at h
 split at h
 ·rename_i k e ks m id hm
  have M:=hti.mp _ _ _ _ hm
  split at h
  ·rename_i Φ t' n F hlk
   have h':=keyK_ok h
   clear h
   obtain⟨zs,h,hz1,hz2⟩:=h'
   split at h
   ·rename_i hlen
    have hlen:=Nat.eq_of_beq_eq_true hlen
    obtain⟨rfl,h⟩:=h
    obtain⟨hin,h⟩:=need_ok h
    refine⟨_,h,fun E tb' s' o' β a w he hs ho hg hc hc' d ty pos after gu=>?_⟩
    have h1:=(hx.to he (hs x (by simp[Op.operands]))).eval hg hc'
    have h2:=(hy.to he (hs y (by simp[Op.operands]))).eval hg hc'
    unfold rel at h1
    obtain⟨h0,b,e1,e2⟩:=h1
    obtain⟨r0,b',x',r1,r2,r3,⟨D,es,clock,rfl,f1,f2,f3,f4⟩,r4⟩:=hg.objs id _ (ho _ _ hlk)
    rw[r1] at e1
    cases e1
    have hkv:=hz2 _ _ _ _ h2
    obtain⟨kl,hkl⟩:=M.key zs hlen (inIs_all (hin hc))
    have hown:w.ownsMap P k (plainElem (H:=Unit) P e) b n D:=⟨es,clock,r3,f1,f2,f3⟩
    obtain⟨cc,hrun,hat,_⟩:=hown.lookup_int M.kd M.und M.el (M.zr w) hkl
    rw[f4 zs kl hkl] at hat
    have hcc:F zs=cc:=by simpa using hat
    refine⟨.int .i64 (F zs),?_,by unfold rel;rfl⟩
    simp only[execOp,e2,hkv]
    rw[hcc];exact run_next hrun
   ·cases h
  ·cases h
 ·cases h
def mupA (P:Program) (ti:TI) (o:Os) (u v q:AV) (K:Os->Prop):Prop:=match ti.mp,u,q with
 |some (k,e,ks,m),.omap id,.i .i64 r=>match lk o id with
  |some (.mp Φ t' n F)=>keyK ks v fun zs=>match Nat.beq zs.length m with
   |true=>Φ=mapX P k e ks n F/\(n<9223372036854775807/\inIs zs/\ -9223372036854775808<=r/\r<=9223372036854775807)/\upK o id (.mp (mapX P k e ks (n+1) (mset F zs r)) t' (n+1) (mset F zs r)) K
   |false=>False
  |_=>False
 |_,_,_=>False
theorem mapX_put {k e:Nat} {ks:Bool} {m n:Nat} {F:List Int->Int} {D:DataW Unit} {es:Array MapEntry} {clock b:Nat} {w:World} {zs:List Int} {r:Int} (M:MapOk P t k e ks m) (hb:w.heap[b]?=some (.map es clock)) (f1:Go.WideElems.Fit P k (plainElem (H:=Unit) P e) es clock) (f2:es.size<=n) (f3:D= .map ((es.toList.map (Go.WideElems.rg P k (plainElem (H:=Unit) P e))).foldr DataW.insert []))
  (f4: ∀(zs:List Int) (kl:Lit),keyOf P k (keyV ks zs)=some kl->D.atKey kl (.lit (.int .i64 0))= .lit (.int .i64 (F zs))) (hz1:ks=false->zs.length=1) (hlen:zs.length=m) (hin: ∀z∈zs,inI z) (hn:n<maxLen) (hr:inI r):
  ∃w',(Instr.mapUpdate t (.map (some b)) (keyV ks zs) (.int .i64 r)).run P w= .ok () w'/\w'.os=w.os/\w'.tape=w.tape/\w'.output=w.output/\w'.heap.size=w.heap.size/\(∀j,j≠b->w'.heap[j]?=w.heap[j]?)/\ ∃x,w'.heap[b]?=some x/\mapX P k e ks (n+1) (mset F zs r) x:=by
 obtain⟨kl,hkl⟩:=M.key zs hlen hin
 have hwf:(Lit.int .i64 r).wf=true:=by
  unfold Lit.wf
  simp only[Bool.and_eq_true,decide_eq_true_eq]
  exact hr
 have hv:plainElem (H:=Unit) P e (.int .i64 r)=some (.lit (.int .i64 r),[]):=plainElem_int M.el hwf
 have hown:w.ownsMap P k (plainElem (H:=Unit) P e) b n D:=⟨es,clock,hb,f1,f2,f3⟩
 obtain⟨w',hrun,⟨es',clock',g1,g2,g3,g4⟩,hgr⟩:=hown.update M.kd M.und hn hkl hv
 obtain⟨es2,clock2,hrun2,_⟩:=Go.Maps.fit_store (R':=plainElem (H:=Unit) P e) M.kd M.und hb f1 (Nat.lt_of_le_of_lt f2 hn) (fun _ _ _ _ hz=>hz) hkl hv
 have hw:w'=Go.ChangeMaps.setBlock w b (.map es2 clock2):=by
  rw[hrun2] at hrun
  cases hrun
  rfl
 refine⟨w',hrun,hgr.os,hgr.tape,hgr.output,by rw[hw];simp[Go.ChangeMaps.setBlock],fun j hj=>by rw[hw];exact Go.ChangeMaps.heap_setBlock_other hb _ (fun e=>hj e),_,g1,_,es',clock',rfl,g2,g3,rfl,fun zs' kl' hk'=>?_⟩
 have hD:Go.Maps.IsMap D:=⟨_,f3⟩
 rw[<-g4]
 by_cases e:zs'=zs
 ·subst e
  rw[hkl] at hk'
  cases hk'
  rw[Go.Maps.atKey_put_same hD (M.kd.key hkl)]
  unfold mset;rw[if_pos rfl]
 ·have hne:kl'≠kl:=fun h=>by
   subst h
   exact e (keyV_inj hz1 (M.kd.inj hkl hk')).symm
  rw[Go.Maps.atKey_put_other hne,f4 zs' kl' hk']
  unfold mset;rw[if_neg e]
theorem mupA_ok {op:Op} {K:Os->Prop} {ty:TypeId} {pos:String} {after:Array Edge} {gu:Option (Nat×Bool)} (hop:op= .mapUpdate t x y z\/op= .insert t x y z) (hti:TIok P t ti) (hx:Opn tb s 0 x u) (hy:Opn tb s 0 y v) (hz:Opn tb s 0 z q) (h:mupA P ti o u v q K): ∃o',K o'/\Mut P tb s o ⟨none,op,ty,pos,after,gu⟩ s o':=by
 unfold mupA at h
 split at h
 ·rename_i k e ks m id r hm
  have M:=hti.mp _ _ _ _ hm
  split at h
  ·rename_i Φ t' n F hlk
   have h':=keyK_ok h
   clear h
   obtain⟨zs,h,hz1,hz2⟩:=h'
   split at h
   ·rename_i hlen
    have hlen:=Nat.eq_of_beq_eq_true hlen
    obtain⟨rfl,⟨hn,hin,hr1,hr2⟩,h⟩:=h
    have h:=upK_ok h
    refine⟨_,h,fun E β a w hg _ K Q hK=>?_⟩
    have hc:=tg_zero hg.tbok
    have h1:=hx.eval hg hc
    have h2:=hy.eval hg hc
    have h3:=hz.eval hg hc
    unfold rel at h1 h3
    obtain⟨h0,b,e1,e2⟩:=h1
    obtain⟨r0,b',x',r1,r2,r3,⟨D,es,clock,rfl,f1,f2,f3,f4⟩,r4⟩:=hg.objs id _ hlk
    rw[r1] at e1
    cases e1
    have hkv:=hz2 _ _ _ _ h2
    obtain⟨w',hrun,q1,q2,q3,q4,q5,xx,q6,q7⟩:=mapX_put M r3 f1 f2 f3 f4 hz1 hlen (inIs_all hin) (show n<maxLen by unfold maxLen;omega) ⟨hr1,hr2⟩
    have hex:(execOp a.eval ⟨none,op,ty,pos,after,gu⟩).run P w= .ok .skip w':=by
     rcases hop with rfl|rfl<;>
     ·simp only[execOp,e2,hkv,h3]
      rw[Sem.run_bind,hrun];rfl
    unfold Oper.wp
    rw[hex,Oper.upon_skip]
    exact hK _ _ β (hg.setO hlk q1 q2 q3 q4 (fun k hk=>q5 k fun e=>hk (by rw[r2,e];simp)) fun hc=>⟨r0,b,xx,r1,r2,q6,q7,r4⟩)
   ·cases h
  ·cases h
 ·cases h
def litO (ti:TI) (tb:Tb) (s:Sl) (c d n:Nat) (ps:List (Nat×Operand)) (K:AV->Os->Prop):Prop:=match ti.el with
 |some (_,e,_)=>match Nat.beq ps.length n&&Nat.ble (n*e) 16777216&&Nat.ble n 16777216 with
  |true=>litK tb s c e 0 ps fun cs=>K (.orow d e 0 n) [(d,.row none e n (litF cs))]
  |false=>False
 |none=>False
theorem litO_ok {n d:Nat} {dst:Option Nat} {ps:List (Nat×Operand)} {K:AV->Os->Prop} (hti:TIok P t ti) (h:litO ti tb s c d n ps K): ∃r no,K r no/\Add P tb s o c dst (.buildSlice t n ps.toArray) r no:=by
 unfold litO at h
 split at h
 ·rename_i e0 e B hel
  split at h
  ·rename_i hb
   simp only[Bool.and_eq_true] at hb
   have hb1:=Nat.eq_of_beq_eq_true hb.1.1
   have hb2:=Nat.le_of_ble_eq_true hb.1.2
   have hb3:=Nat.le_of_ble_eq_true hb.2
   obtain⟨cs,h1,hl,h2⟩:=litK_ok h
   refine⟨_,_,h1,fun E tb' s' o' β a w he hs ho hf hg hc hc' ty pos after gu K Q hK=>?_⟩
   obtain⟨us,g1,g2,g3⟩:=h2 (E.good o' β) β w a fun x v hx hv=>(hv.to he (hs x (by simp[Op.operands];simpa using hx))).eval hg hc'
   have hrun:=run_lit (d:=dst) (ty:=ty) (pos:=pos) (after:=after) (gu:=gu) hti hel hb1 hb2 g2 w
   unfold Oper.wp
   rw[hrun,Oper.upon_value]
   have hfl: ∀l:List (List Value),(∀i,i<l.length->(l.getD i []).length=e)->l.flatten.length=l.length*e:=by
    intro l
    induction l with
    |nil=>intro _;simp
    |cons x l ih=>
     intro hx
     have h0:=hx 0 (by simp)
     have:=ih fun i hi=>by have:=hx (i+1) (by simpa using hi);simpa using this
     simp only[List.getD_cons_zero] at h0
     simp only[List.flatten_cons,List.length_append,this,List.length_cons,h0,Nat.add_mul,Nat.one_mul];omega
   have hadd:=hg.add (d:=d) (W:=⟨some ⟨w.heap.size,0,none⟩,n,[w.heap.size],true,sub0⟩) (ob:= .row none e n (litF cs)) (w':=w.alloc (.cells us.flatten.toArray e0)) (hf (d,_) (List.mem_singleton.2 rfl))
    (fun k hk=>by simp only[List.mem_singleton] at hk;subst hk;exact⟨Nat.le_refl _,by rw[heap_push];exact Nat.lt_succ_self _⟩) (by simp) rfl rfl rfl (by rw[heap_push];omega) (fun k hk=>Below.heap_alloc w _ k hk)
    fun hc=>⟨Nat.le_refl _,by unfold maxLen;omega,.inr ⟨w.heap.size,0,us.flatten,e0,fun i=>us.getD i [],rfl,rfl,heap_alloc_new w _,⟨by rw[hfl us fun i hi=>(g3 i (by omega)).1.1,Nat.zero_add,g1,hl,hb1];exact Nat.le_refl _,fun _ h=>by cases h⟩,fun i hi=>⟨⟨(g3 i (by omega)).1,fun j u hj=>by
     rw[Nat.zero_add,flat_eq]
     exact flatN_at (fun i hi=>(g3 i (by omega)).1.1) (by omega) hj⟩,by
     rw[litF_eq _ _ (by omega)]
     exact rels_mono hc _ _ (g3 i (by omega)).2⟩⟩⟩
   exact hK _ _ _ hadd ⟨by rw[setB_self],by rw[setB_self,Nat.zero_mul];rfl⟩
  ·cases h
 ·cases h
def leafNL:List (List AV)->Bool
 |[]=>true
 |x::xs=>leafNs x&&leafNL xs
theorem leafNL_at: ∀ {l:List (List AV)} {i:Nat},leafNL l=true->i<l.length->leafNs (l.getD i [])=true
 |[],i,_,hi=>nomatch hi
 |x::l,0,h,_=>by simp only[leafNL,Bool.and_eq_true] at h;exact h.1
 |x::l,i+1,h,hi=>by
  simp only[leafNL,Bool.and_eq_true] at h
  rw[List.getD_cons_succ];exact leafNL_at h.2 (by simpa using hi)
def litN (ti:TI) (tb:Tb) (s:Sl) (c d n:Nat) (ps:List (Nat×Operand)) (K:AV->Os->Prop):Prop:=match ti.el with
 |some (_,e,_)=>match Nat.beq ps.length n&&Nat.ble (n*e) 16777216&&Nat.ble n 16777216 with
  |true=>litK tb s c e 0 ps fun cs=>match leafNL cs with
   |true=>K (.orow d e 0 n) [(d,.tree e n (litF cs))]
   |false=>False
  |false=>False
 |none=>False
theorem litN_ok {n d:Nat} {dst:Option Nat} {ps:List (Nat×Operand)} {K:AV->Os->Prop} (hti:TIok P t ti) (h:litN ti tb s c d n ps K): ∃r no,K r no/\Add P tb s o c dst (.buildSlice t n ps.toArray) r no:=by
 unfold litN at h
 split at h
 ·rename_i e0 e B hel
  split at h
  ·rename_i hb
   simp only[Bool.and_eq_true] at hb
   have hb1:=Nat.eq_of_beq_eq_true hb.1.1
   have hb2:=Nat.le_of_ble_eq_true hb.1.2
   have hb3:=Nat.le_of_ble_eq_true hb.2
   obtain⟨cs,h1,hl,h2⟩:=litK_ok h
   split at h1
   ·rename_i hleaf
    refine⟨_,_,h1,fun E tb' s' o' β a w he hs ho hf hg hc hc' ty pos after gu K Q hK=>?_⟩
    obtain⟨us,g1,g2,g3⟩:=h2 (E.good o' β) β w a fun x v hx hv=>(hv.to he (hs x (by simp[Op.operands];simpa using hx))).eval hg hc'
    have hrun:=run_lit (d:=dst) (ty:=ty) (pos:=pos) (after:=after) (gu:=gu) hti hel hb1 hb2 g2 w
    unfold Oper.wp
    rw[hrun,Oper.upon_value]
    have hfl: ∀l:List (List Value),(∀i,i<l.length->(l.getD i []).length=e)->l.flatten.length=l.length*e:=by
     intro l
     induction l with
     |nil=>intro _;simp
     |cons x l ih=>
      intro hx
      have h0:=hx 0 (by simp)
      have:=ih fun i hi=>by have:=hx (i+1) (by simpa using hi);simpa using this
      simp only[List.getD_cons_zero] at h0
      simp only[List.flatten_cons,List.length_append,this,List.length_cons,h0,Nat.add_mul,Nat.one_mul];omega
    have hadd:=hg.add (d:=d) (W:=⟨some ⟨w.heap.size,0,none⟩,n,[w.heap.size],true,sub0⟩) (ob:= .tree e n (litF cs)) (w':=w.alloc (.cells us.flatten.toArray e0)) (hf (d,_) (List.mem_singleton.2 rfl))
     (fun k hk=>by simp only[List.mem_singleton] at hk;subst hk;exact⟨Nat.le_refl _,by rw[heap_push];exact Nat.lt_succ_self _⟩) (by simp) rfl rfl rfl (by rw[heap_push];omega) (fun k hk=>Below.heap_alloc w _ k hk)
     fun hc=>⟨rfl,by
      unfold treeD
      refine⟨rfl,(fun z hz=>by cases hz),⟨Nat.le_refl _,by unfold maxLen;omega⟩,.inr ⟨w.heap.size,0,us.flatten,e0,fun i=>us.getD i [],fun _=>[],rfl,?_,heap_alloc_new w _,by rw[hfl us fun i hi=>(g3 i (by omega)).1.1,Nat.zero_add,g1,hl,hb1];exact Nat.le_refl _,fun i hi=>⟨⟨(g3 i (by omega)).1,fun j u hj=>by
       rw[Nat.zero_add,flat_eq]
       exact flatN_at (fun i hi=>(g3 i (by omega)).1.1) (by omega) hj⟩,?_⟩⟩⟩
      ·have: ∀l:List Nat,l.flatMap (fun _=>([]:List Nat))=[]:=fun l=>by induction l<;>simp_all
       rw[this]
      ·rw[litF_eq _ _ (by omega)]
       exact leafNs_tree (fun j=>rfl) (leafNL_at hleaf (by omega)) (rels_mono hc _ _ (g3 i (by omega)).2)⟩
    exact hK _ _ _ hadd ⟨by rw[setB_self],by rw[setB_self,Nat.zero_mul];rfl⟩
   ·cases h1
  ·cases h
 ·cases h
inductive LitW (A B C:Prop):Prop
 |frz (h:A)
 |own (h:B)
 |tre (h:C)
end
section
variable {P:Program} {T:TT} {tb:Tb} {s:Sl} {o:Os} {c d:Nat} {t t':TypeId} {ti:TI} {x y:Operand} {E:Env} {β:Nat->Wt} {a:Act} {w:World}
theorem absorb {id d e0 N e n i j e' n':Nat} {get g g':Nat->List AV} {q:Pth} {nz':Option Bool} {obd:Obj} (hg:Gam E tb s o β a w) (hlk:lk o id=some (.tree e0 N get)) (hsub:subR (.row none e0 N get) q (.row nz' e n g)) (hi:i<n) (hj:j+1<=e)
  (hne:d≠id) (hld:lk o d=some obd) (htd:treeD (E.good o β) w (rsub (β d)) (.row none e' n' g') [] (.slice (β d).a n' (β d).cap) (β d).foot) (hok':(β d).ok=true) (hbx:noBoxP id o=true)
  (hval: ∀b off (cells:List Value) ty,(rsub (β id) q).1=some ⟨b,off,none⟩->w.heap[b]?=some (.cells cells.toArray ty (0,0))->cells[off+(i*e+j)]?=some (.slice (β d).a n' (β d).cap)):
  ∃β',Gam E tb (dropP id s s) ((id,.tree e0 N (updG q get i j [.row none e' n' g']))::rem (rem o d) id) β' a w/\(β' id).a=(β id).a/\(β' id).cap=(β id).cap/\ ∀k,k≠id->β' k=β k:=by
 obtain⟨hok,ht⟩:=hg.objs id _ hlk
 have hnd:=foot_nodup hlk hg.nodup
 have hndd:=foot_nodup hld hg.nodup
 obtain⟨b,off,cells,ty,A,M,B,z1,z2,z3,z4,z5,z6,z7⟩:=tree_write (k:=1) ht hsub hi hj
 have hv:=hval b off cells ty z1 z2
 have hsp:splice cells (off+(i*e+j)) [.slice (β d).a n' (β d).cap]=cells:=by
  refine List.ext_getElem? fun k=>?_
  rw[splice_get _ _ _ k (by
   have:=(List.getElem?_eq_some_iff.1 hv).1
   simp only[List.length_singleton];omega)]
  split
  ·rename_i hk
   simp only[List.length_singleton] at hk
   obtain rfl:k=off+(i*e+j):=by omega
   rw[Nat.sub_self,hv];rfl
  ·rfl
 have hbf:b∈(β id).foot:=by rw[z5];simp only[List.mem_append];exact .inl z6
 have hbd:b∉(β d).foot:=fun hx=>foot_disj hlk hld hne hg.nodup b hx hbf
 let W':Wt:=⟨(β id).a,(β id).cap,A++((β d).foot++B),(β id).ok,graft (β id) (q++[(i,j)]) (rsub (β d))⟩
 have hcore:Core (β id) W':=⟨rfl,rfl,rfl⟩
 have hlk':lk (rem o d) id=some (.tree e0 N get):=by rw[lk_rem (fun e=>hne e.symm)];exact hlk
 obtain⟨hr1,hr2⟩:=feet_rem hlk hg.nodup
 obtain⟨hd1,hd2⟩:=feet_rem hld hg.nodup
 have hsd:=feet_sub (β:=β) (rem_sub (o:=o) (c:=d))
 have hnr:(feet (rem o d) β).Nodup:=hg.nodup.sublist hsd
 obtain⟨hi1,hi2⟩:=feet_rem hlk' hnr
 have hsi:=feet_sub (β:=β) (rem_sub (o:=rem o d) (c:=id))
 have hkr:((rem o d).map (·.1)).Nodup:=hg.keys.sublist (rem_sub.map _)
 have hkey: ∀p∈rem (rem o d) id,p.1≠id:=fun p hp e=>by
  have:=rem_keys (c:=id) hkr
  exact this (List.mem_map.2 ⟨p,hp,e⟩)
 refine⟨setB β id W',?_,by rw[setB_self],by rw[setB_self],fun k hk=>setB_ne hk⟩
 have hfe:feet ((id,.tree e0 N (updG q get i j [.row none e' n' g']))::rem (rem o d) id) (setB β id W')=(A++((β d).foot++B))++feet (rem (rem o d) id) β:=by
  rw[feet_cons,setB_self,feet_setB hkey]
 have hAB:(A++B).Sublist (β id).foot:=by
  rw[z5];exact(List.Sublist.refl A).append (List.sublist_append_right M B)
 refine hg.to (fun d' c v hl=>?_) (fun k hk=>?_) ?_ ?_ rfl rfl rfl (Nat.le_refl _) (fun _ _ _=>rfl) fun hc id' ob' hl=>?_
 ·obtain⟨h1,h2⟩:=dropP_lk hl
  refine⟨h1,fun k _=>?_,fun k hk p=>?_⟩
  ·by_cases hk:k=id
   ·subst hk;rw[setB_self];exact hcore
   ·rw[setB_ne hk];exact Core.refl _
  ·by_cases hki:k=id
   ·subst hki;rw[keyP_lk h1 h2] at hk;cases hk
   ·rw[setB_ne hki]
 ·rw[hfe] at hk
  simp only[List.mem_append] at hk
  rcases hk with(z|z|z)|z
  ·exact foot_feet hlk k (hAB.subset (by simp[z]))
  ·exact foot_feet hld k z
  ·exact foot_feet hlk k (hAB.subset (by simp[z]))
  ·exact hsd.subset (hsi.subset z)
 ·rw[hfe]
  refine List.nodup_append.2 ⟨?_,hnr.sublist hsi,fun x hx y hy e=>?_⟩
  ·have n0:=hnd.sublist hAB
   rw[List.nodup_append] at n0
   refine List.nodup_append.2 ⟨n0.1,List.nodup_append.2 ⟨hndd,n0.2.1,fun x hx y hy e=>?_⟩,fun x hx y hy e=>?_⟩
   ·subst e;exact foot_disj hlk hld hne hg.nodup x hx (hAB.subset (by simp[hy]))
   ·subst e
    rcases List.mem_append.1 hy with z|z
    ·exact foot_disj hlk hld hne hg.nodup x z (hAB.subset (by simp[hx]))
    ·exact n0.2.2 x hx x z rfl
  ·subst e
   simp only[List.mem_append] at hx
   rcases hx with z|z|z
   ·exact hi1 x (hAB.subset (by simp[z])) hy
   ·exact hd1 x z (hsi.subset hy)
   ·exact hi1 x (hAB.subset (by simp[z])) hy
 ·rw[List.map_cons,List.nodup_cons]
  exact⟨rem_keys hkr,hkr.sublist (rem_sub.map _)⟩
 ·rw[lk_cons] at hl
  split at hl
  ·rename_i hid
   cases hl;subst hid
   rw[setB_self]
   refine⟨hok,?_⟩
   have hcell:treeD (E.good ((id,.tree e0 N (updG q get i j [.row none e' n' g']))::rem (rem o d) id) (setB β id W')) w (rsub W') (.row none e' n' g') (q++[(i,j)]) (.slice (β d).a n' (β d).cap) (β d).foot:=
    treeD_move _ [] _ _ _ (fun r=>graft_in (W:=β id) rfl r) (treeD_mono hc _ _ _ _ (fun _ _=>rfl) (fun _=>rfl) htd)
   refine z7 _ w _ [.row none e' n' g'] [.slice (β d).a n' (β d).cap] (β d).foot rfl hnd hc (fun k hk hkb=>rfl) (by rw[hsp];exact z2) rfl (fun r hr=>?_) ⟨_,_,_,[],rfl,by simp,hcell,rfl,rfl⟩
   refine graft_out rfl hcore fun t ht=>hr j t (Nat.le_refl _) (by omega) ?_
   rw[ht];simp
  ·rename_i hid
   have hne2:id'≠id:=fun e=>hid e.symm
   rw[lk_rem hne2] at hl
   have hne3:id'≠d:=fun e=>by
    subst e
    rw[lk_none (rem_keys hg.keys)] at hl;cases hl
   rw[lk_rem hne3] at hl
   rw[setB_ne hne2]
   refine orel_core (β:=β) (fun k _=>?_) (fun k hk p=>?_) (orel_mono hc (fun _ _=>rfl) (hg.objs id' ob' hl))
   ·by_cases hk:k=id
    ·subst hk;rw[setB_self];exact hcore
    ·rw[setB_ne hk];exact Core.refl _
   ·by_cases hki:k=id
    ·subst hki;rw[noBoxP_at hbx hl] at hk;cases hk
    ·rw[setB_ne hki]
theorem dropP_lk' {id x c:Nat} {v:AV} {s0:Sl} (hk: ∀y,keyP id y s0=false): ∀ {s:Sl},lk s x=some (c,v)->lk (dropP id s0 s) x=some (c,v)
 |[],h=>h
 |(y,c',v')::s,h=>by
  rw[dropP,hk y,cond_false,lk_cons]
  rw[lk_cons] at h
  split
  ·rename_i e;rw[if_pos e] at h;exact h
  ·rename_i e;rw[if_neg e] at h;exact dropP_lk' hk h
theorem keyP_no {id:Nat}: ∀ {s:Sl},smen id s=false-> ∀y,keyP id y s=false
 |[],_,y=>rfl
 |(x,c,v)::s,h,y=>by
  simp only[smen,Bool.or_eq_false_iff] at h
  simp only[keyP,Bool.or_eq_false_iff,Bool.and_eq_false_iff]
  refine⟨.inr ?_,keyP_no h.2 y⟩
  cases hm:menP id v with
  |false=>rfl
  |true=>rw[menP_men hm] at h;cases h.1
theorem noBoxP_no {id:Nat}: ∀ {o:Os},(∀i ob,(i,ob)∈o->omen id ob=false)->noBoxP id o=true
 |[],_=>rfl
 |(i,ob)::o,h=>by
  simp only[noBoxP,Bool.and_eq_true,Bool.not_eq_true']
  refine⟨?_,noBoxP_no fun i ob hm=>h i ob (List.mem_cons_of_mem _ hm)⟩
  have h0:=h i ob List.mem_cons_self
  cases ob with
  |box q r cs=>
   cases hm:menPs id cs with
   |false=>exact hm
   |true=>have:=menPs_mens hm;rw[show mens id cs=false from h0] at this;cases this
  |row q e n g=>rfl
  |tree e n g=>rfl
  |mp Φ k n F=>rfl
theorem treeD_congr {S:Nat->Prop} {w:World} {sb:Sub} {nz:Option Bool} {e n:Nat} {g g':Nat->List AV} {p:Pth} {u:Value} {F:List Nat} (h:treeD S w sb (.row nz e n g) p u F) (hg: ∀i,i<n->g i=g' i):treeD S w sb (.row nz e n g') p u F:=by
 unfold treeD at h⊢
 obtain⟨h1,h2,h3,h4⟩:=h
 refine⟨h1,h2,h3,h4.imp id ?_⟩
 rintro ⟨b,off,cells,ty,us,FS,g1,g2,g3,g4,g5⟩
 exact⟨b,off,cells,ty,us,FS,g1,g2,g3,g4,fun i hi=>by rw[<-hg i hi];exact g5 i hi⟩
theorem Gam.retree {id e n:Nat} {g g':Nat->List AV} {o:Os} (h:Gam E tb s ((id,.tree e n g)::o) β a w) (hg: ∀i,i<n->g i=g' i):Gam E tb s ((id,.tree e n g')::o) β a w:=by
 refine⟨h.size,h.defers,h.tbok,fun i c v hl=>h.slots i c v hl,fun i ob hl=>?_,h.below,h.new,h.nodup,h.keys⟩
 rw[lk_cons] at hl
 split at hl
 ·rename_i e1
  cases hl
  have:=h.objs i (.tree e n g) (by rw[lk_cons,if_pos e1])
  exact⟨this.1,treeD_congr this.2 hg⟩
 ·rename_i e1
  exact h.objs i ob (by rw[lk_cons,if_neg e1];exact hl)
def absK (d e:Nat):Nat->List AV->List AV->Os->(List AV->Os->Prop)->Prop
 |_,[],hs,o,K=>K hs o
 |j,v::cs,hs,o,K=>match v with
  | .orow id e' 0 n'=>match Nat.beq id d with
   |true=>False
   |false=>rowIn (lk o id) e' n' fun g A=>A/\remK o id fun o1=>absK d e (j+1) cs (splice hs j [.row none e' n' g]) o1 K
  |_=>absK d e (j+1) cs hs o K
def holeC:AV->AV
 | .orow _ _ _ _=>.any
 |x=>x
def ownV (β:Nat->Wt) (v:AV) (u:Value):Prop:=match v with
 | .orow id e off n=>(β id).ok=true/\u= .slice ((β id).a.map (·.add (off*e))) n ((β id).cap-off)
 |_=>True
def ownAt (β:Nat->Wt):List AV->List Value->Prop
 |[],us=>us=[]
 |v::cs,us=>∃u us',us=u::us'/\ownV β v u/\ownAt β cs us'
theorem ownAt_of {S:Nat->Prop} {β:Nat->Wt} {w:World}: ∀ {cs:List AV} {us:List Value},rels S β w cs us->ownAt β cs us
 |[],us,h=>h
 |v::cs,us,h=>by
  unfold rels at h
  obtain⟨u,us',rfl,h1,h2⟩:=h
  refine⟨u,us',rfl,?_,ownAt_of h2⟩
  cases v<;>first|exact trivial|(unfold rel at h1;exact h1)
theorem ownAt_agr {β β':Nat->Wt}: ∀ {cs:List AV} {us:List Value},(∀id,mens id cs=true->β' id=β id)->ownAt β cs us->ownAt β' cs us
 |[],us,_,h=>h
 |v::cs,us,hm,h=>by
  obtain⟨u,us',rfl,h1,h2⟩:=h
  refine⟨u,us',rfl,?_,ownAt_agr (fun id h=>hm id (by simp[mens,h])) h2⟩
  cases v<;>first|exact trivial|(simp only[ownV] at h1⊢;rw[hm _ (by simp[mens,men])];exact h1)
theorem absK_ok {d e:Nat}: ∀ {cs:List AV} {j:Nat} {hs:List AV} {o:Os} {K:List AV->Os->Prop},absK d e j cs hs o K-> ∃hs' o',K hs' o'/\ ∀(E:Env) (tb:Tb) (s:Sl) (a:Act) (w:World) (β:Nat->Wt) (us:List Value) (cells:List Value) (b:Nat) (ty:TypeId),
  smen d s=false->(∀i ob,lk o i=some ob->i≠d->omen d ob=false)->j+cs.length<=e->hs.length=e->(β d).a=some ⟨b,0,none⟩->w.heap[b]?=some (.cells (cells:List Value).toArray ty (0,0))->mens d cs=false->ownAt β cs us->(∀k,k<us.length->cells[j+k]?=us[k]?)->
  Gam E tb s ((d,.tree e 1 fun _=>hs)::o) β a w-> ∃β',Gam E tb s ((d,.tree e 1 fun _=>hs')::o') β' a w/\(β' d).a=(β d).a/\(β' d).cap=(β d).cap
 |[],j,hs,o,K,h=>⟨hs,o,h,fun E tb s a w β us cells b ty _ _ _ _ _ _ _ _ _ hg=>⟨β,hg,rfl,rfl⟩⟩
 |v::cs,j,hs,o,K,h=>by
  simp only[absK] at h
  have hskip:absK d e (j+1) cs hs o K-> ∃hs' o',K hs' o'/\ ∀(E:Env) (tb:Tb) (s:Sl) (a:Act) (w:World) (β:Nat->Wt) (us:List Value) (cells:List Value) (b:Nat) (ty:TypeId),
    smen d s=false->(∀i ob,lk o i=some ob->i≠d->omen d ob=false)->j+(v::cs).length<=e->hs.length=e->(β d).a=some ⟨b,0,none⟩->w.heap[b]?=some (.cells (cells:List Value).toArray ty (0,0))->mens d (v::cs)=false->ownAt β (v::cs) us->(∀k,k<us.length->cells[j+k]?=us[k]?)->
    Gam E tb s ((d,.tree e 1 fun _=>hs)::o) β a w-> ∃β',Gam E tb s ((d,.tree e 1 fun _=>hs')::o') β' a w/\(β' d).a=(β d).a/\(β' d).cap=(β d).cap:=fun h=>by
   obtain⟨hs',o',h1,h2⟩:=absK_ok h
   refine⟨hs',o',h1,fun E tb s a w β us cells b ty p1 p2 p3 p4 p5 p6 p7 p8 p9 hg=>?_⟩
   obtain⟨u,us',rfl,_,q2⟩:=p8
   simp only[mens,Bool.or_eq_false_iff] at p7
   exact h2 E tb s a w β us' cells b ty p1 p2 (by rw[List.length_cons] at p3;omega) p4 p5 p6 p7.2 q2 (fun k hk=>by have:=p9 (k+1) (by rw[List.length_cons];omega);rw[List.getElem?_cons_succ] at this;rw[<-this];congr 1;omega) hg
  split at h
  ·rename_i id e' n'
   split at h
   ·cases h
   ·rename_i hne
    have hne:id≠d:=fun e=>by subst e;simp at hne
    obtain⟨ob,g,A,hld,⟨hA,hK⟩,hrow⟩:=rowIn_ok h
    have hK:=remK_ok hK
    obtain⟨hs',o',h1,h2⟩:=absK_ok hK
    refine⟨hs',o',h1,fun E tb s a w β us cells b ty p1 p2 p3 p4 p5 p6 p7 p8 p9 hg=>?_⟩
    obtain⟨u,us',rfl,⟨q0,q1⟩,q2⟩:=p8
    have hld':lk ((d,Obj.tree e 1 fun _=>hs)::o) id=some ob:=by rw[lk_cons,if_neg (fun e=>hne e.symm)];exact hld
    have hlkd:lk ((d,Obj.tree e 1 fun _=>hs)::o) d=some (.tree e 1 fun _=>hs):=by rw[lk_cons,if_pos rfl]
    have hbx:noBoxP d ((d,Obj.tree e 1 fun _=>hs)::o)=true:=noBoxP_no fun i ob hm=>by
     rcases List.mem_cons.1 hm with q|q
     ·cases q;rfl
     ·have hnd:=hg.keys
      rw[List.map_cons,List.nodup_cons] at hnd
      have hid:i≠d:=fun e=>hnd.1 (List.mem_map.2 ⟨(i,ob),q,e⟩)
      exact p2 i ob (lk_key q hnd.2) hid
    obtain⟨β',g1,g2,g3,g4⟩:=absorb (q:=[]) (i:=0) (j:=j) (e:=e) (n:=1) (g:=fun _=>hs) (nz':=none) hg hlkd rfl (by omega) (by rw[List.length_cons] at p3;omega) hne hld' (hrow _ _ _ _ hA (hg.objs id _ hld')) q0 hbx (fun b' off' cells' ty' z1 z2=>by
     have z1:(β d).a=some ⟨b',off',none⟩:=z1
     rw[p5] at z1
     simp only[Option.some.injEq,Addr.mk.injEq,and_true] at z1
     obtain⟨rfl,rfl⟩:=z1
     rw[p6] at z2
     simp only[Option.some.injEq] at z2
     have hce:cells=cells':=by
      have:=z2
      injection this with h1 h2
      simpa using h1
     subst hce
     have h0:=p9 0 (by simp)
     rw[show 0+(0*e+j)=j+0 by omega,h0,List.getElem?_cons_zero,q1,Nat.zero_mul,Nat.sub_zero]
     congr 2
     cases(β id).a<;>rfl)
    have g1:=g1.slotsTo g1.tbok (s':=s) fun x c v hl=>by
     have:=dropP_lk' (keyP_no p1) hl
     obtain⟨u,e1,e2⟩:=g1.slots x c v this
     exact⟨u,e1,e2⟩
    have hrm:rem (rem ((d,Obj.tree e 1 fun _=>hs)::o) id) d=rem o id:=by
     have hb1:Nat.beq d id=false:=by
      cases hb:Nat.beq d id with
      |true=>exact absurd (Nat.eq_of_beq_eq_true hb) (fun e=>hne e.symm)
      |false=>rfl
     have hb2:Nat.beq d d=true:=Nat.beq_refl d
     simp only[rem,hb1,cond_false,hb2,cond_true]
    rw[hrm] at g1
    have g1:=g1.retree (g':=fun _=>splice hs j [.row none e' n' g]) fun k hk=>by
     obtain rfl:k=0:=by omega
     rfl
    have hag: ∀k,mens k cs=true->β' k=β k:=fun k hk=>g4 k fun e=>by
     subst e
     simp only[mens,Bool.or_eq_false_iff] at p7
     rw[hk] at p7;cases p7.2
    simp only[mens,Bool.or_eq_false_iff] at p7
    obtain⟨β2,r1,r2,r3⟩:=h2 E tb s a w β' us' cells b ty p1 (fun i ob' hl hi=>by
     have hk:=hg.keys
     rw[List.map_cons,List.nodup_cons] at hk
     by_cases e1:i=id
     ·subst e1;rw[lk_none (rem_keys hk.2)] at hl;cases hl
     ·rw[lk_rem e1] at hl;exact p2 i ob' hl hi) (by rw[List.length_cons] at p3;omega) (by
     rw[splice_length];exact p4) (g2.trans p5) p6 p7.2 (ownAt_agr hag q2) (fun k hk=>by have:=p9 (k+1) (by rw[List.length_cons];omega);rw[List.getElem?_cons_succ] at this;rw[<-this];congr 1;omega) g1
    exact⟨β2,r1,r2.trans g2,r3.trans g3⟩
  ·exact hskip h
end
theorem rels_hole {S:Nat->Prop} {β:Nat->Wt} {w:World}: ∀ {cs:List AV} {us:List Value},rels S β w cs us->leafNs (cs.map holeC)=true->us.all (·.oneCell')=true->rels S W0 w (cs.map holeC) us
 |[],us,h,_,_=>h
 |v::cs,us,h,hl,ho=>by
  unfold rels at h
  obtain⟨u,us',rfl,h1,h2⟩:=h
  simp only[List.map_cons,leafNs,Bool.and_eq_true] at hl
  simp only[List.all_cons,Bool.and_eq_true] at ho
  rw[List.map_cons]
  unfold rels
  refine⟨u,us',rfl,?_,rels_hole h2 hl.2 ho.2⟩
  cases v<;>first|exact ho.1|(have hn:=hl.1;simp only[holeC,leafN,leafA,Bool.false_eq_true] at hn;exact noOwn_rel hn h1)|exact h1|(have hn:=hl.1;cases hn)
section
variable {P:Program} {tb:Tb} {s:Sl} {o:Os} {d:Nat} {t:TypeId} {ti:TI} {x:Operand} {v:AV} {K:AV->Os->Prop}
theorem row_treeN {S:Nat->Prop} {β:Nat->Wt} {w:World} {W:Wt} {q:Option Nat} {e n:Nat} {g:Nat->List AV} (hs: ∀i j,rsub W ([]++[(i,j)])=(none,0)) (hl: ∀i,i<n->leafNs (g i)=true) (h:orel S β w W (.row q e n g)):treeD S w (rsub W) (.row none e n g) [] (.slice W.a n W.cap) W.foot:=by
 obtain⟨h1,h2,h3⟩:=h
 unfold treeD
 refine⟨rfl,(fun z hz=>by cases hz),⟨h1,h2⟩,?_⟩
 rcases h3 with⟨z1,z2,z3⟩|⟨b,off,cells,ty,us,z1,z2,z3,z4,z5⟩
 ·exact .inl ⟨z1,z2,z3⟩
 ·refine .inr ⟨b,off,cells,ty,us,fun _=>[],z1,?_,z3,z4.1,fun i hi=>⟨(z5 i hi).1,leafNs_tree (hs i) (hl i hi) (z5 i hi).2⟩⟩
  rw[z2]
  have: ∀l:List Nat,l.flatMap (fun _=>([]:List Nat))=[]:=fun l=>by induction l<;>simp_all
  rw[this]
def litT (ti:TI) (s:Sl) (o:Os) (d:Nat) (v:AV) (K:AV->Os->Prop):Prop:=match ti.el with
 |some (_,e,_)=>match stor v&&fresh d s o&&Nat.ble e 16777216 with
  |true=>cellsK v fun cs=>match leafNs (cs.map holeC)&&Nat.beq cs.length e&& !mens d cs with
   |true=>absK d e 0 cs (cs.map holeC) o fun hs o=>K (.orow d e 0 1) ((d,.tree e 1 fun _=>hs)::o)
   |false=>False
  |false=>False
 |none=>False
theorem litT_ok {ty:TypeId} {pos:String} {after:Array Edge} {gu:Option (Nat×Bool)} (hti:TIok P t ti) (hx:Opn tb s 0 x v) (h:litT ti s o d v K):
  ∃r o',K r o'/\Mut P tb s o ⟨some d,.buildSlice t 1 #[(0,x)],ty,pos,after,gu⟩ ((d,0,r)::s) o':=by
 unfold litT at h
 split at h
 ·rename_i e0 e B hel
  split at h
  ·rename_i hb
   simp only[Bool.and_eq_true] at hb
   obtain⟨⟨hst,hfr⟩,hle⟩:=hb
   have hle:=Nat.le_of_ble_eq_true hle
   obtain⟨cs,h,hcs⟩:=cellsK_ok h
   split at h
   ·rename_i hb2
    simp only[Bool.and_eq_true,Bool.not_eq_true'] at hb2
    obtain⟨⟨hlf,hln⟩,hmd⟩:=hb2
    have hln:=Nat.eq_of_beq_eq_true hln
    have hfr':=hfr
    simp only[fresh,Bool.and_eq_true,Bool.not_eq_true'] at hfr'
    obtain⟨hs',o',h1,h2⟩:=absK_ok h
    refine⟨_,_,h1,fun E β a w hg hd K' Q hK=>?_⟩
    have hc:=tg_zero hg.tbok
    have hv:=hx.eval hg hc
    have hr:=hcs _ _ _ _ hv (stor_or hst)
    have hone:=stor_one hst hv
    have hlen:=rels_len hr
    have hrun:=run_lit (P:=P) (ρ:=a.eval) (us:=[(a.eval x).cells.toList]) (ps:=[(0,x)]) (n:=1) hti hel rfl (by omega) (by
     refine⟨rfl,?_,[],by simp,trivial⟩
     rw[<-Array.length_toList,hlen,hln]) w (d:=some d) (ty:=ty) (pos:=pos) (after:=after) (gu:=gu)
    generalize (a.eval x).cells.toList=us at*
    have hrun:(execOp a.eval ⟨some d,.buildSlice t 1 #[(0,x)],ty,pos,after,gu⟩).run P w= .ok (.value (.slice (some ⟨w.heap.size,0,none⟩) 1 1)) (w.alloc (.cells us.toArray e0)):=by
     have:([us]:List (List Value)).flatten=us:=by simp
     rw[this] at hrun;exact hrun
    unfold Oper.wp
    rw[hrun,Oper.upon_value]
    have hblk:=heap_alloc_new w (.cells us.toArray e0)
    have hadd:=hg.add (d:=d) (W:=⟨some ⟨w.heap.size,0,none⟩,1,[w.heap.size],true,sub0⟩) (ob:= .tree e 1 fun _=>cs.map holeC) (w':=w.alloc (.cells us.toArray e0)) hfr
     (fun k hk=>by simp only[List.mem_singleton] at hk;subst hk;exact⟨Nat.le_refl _,by rw[heap_push];exact Nat.lt_succ_self _⟩) (by simp) rfl rfl rfl (by rw[heap_push];omega) (fun k hk=>Below.heap_alloc w _ k hk)
     fun hc'=>⟨rfl,row_treeN (q:=none) (fun i j=>rfl) (fun _ _=>hlf) (β:=setB β d ⟨some ⟨w.heap.size,0,none⟩,1,[w.heap.size],true,sub0⟩) ⟨Nat.le_refl _,by unfold maxLen;omega,.inr ⟨w.heap.size,0,us,e0,fun _=>us,rfl,rfl,hblk,⟨by show 0+1*e<=us.length;rw[hlen,hln];omega,fun _ h=>by cases h⟩,fun i hi=>⟨⟨⟨by rw[hlen,hln],hone⟩,fun j u hj=>by
      obtain rfl:i=0:=by omega
      rw[show 0+0*e+j=j by omega];exact hj⟩,rels_mono hc' _ _ (rels_hole hr hlf hone)⟩⟩⟩⟩
    obtain⟨β2,g1,g2,g3⟩:=h2 E tb s a _ _ us us w.heap.size e0 hfr'.1 (fun i ob hl hi=>by
     have:=omens_lk hl hfr'.2
     exact this.1) (by omega) (by rw[List.length_map,hln]) (by rw[setB_self]) hblk hmd (ownAt_agr (fun k hk=>setB_ne fun e=>by subst e;rw[hmd] at hk;cases hk) (ownAt_of hr)) (fun k hk=>by rw[Nat.zero_add]) hadd
    rw[setB_self] at g2 g3
    have hok2:(β2 d).ok=true:=(g1.objs d (.tree e 1 fun _=>hs') (by rw[lk_cons,if_pos rfl])).1
    exact hK _ _ _ (g1.put0 (d:=d) (v:= .orow d e 0 1) (q:= .slice (some ⟨w.heap.size,0,none⟩) 1 1) (hd d rfl) ⟨hok2,by rw[g2,g3,Nat.zero_mul];rfl⟩)
   ·cases h
  ·cases h
 ·cases h
end
theorem treeDs_shift {S:Nat->Prop} {w:World} {sb sb':Sub}: ∀(xs:List AV) (p p':Pth) (i i' j:Nat) (us:List Value) (F:List Nat),(∀c r,sb' (p'++(i',c)::r)=sb (p++(i,c)::r))->treeDs S w sb xs p i j us F->treeDs S w sb' xs p' i' j us F
 |[],p,p',i,i',j,us,F,hs,h=>h
 |v::vs,p,p',i,i',j,us,F,hs,h=>by
  unfold treeDs at h⊢
  obtain⟨u,us',F1,F2,rfl,rfl,h1,h2⟩:=h
  exact⟨u,us',F1,F2,rfl,rfl,treeD_move v _ _ u F1 (fun r=>by rw[List.append_assoc,List.append_assoc];exact hs j r) h1,treeDs_shift vs p p' i i' (j+1) us' F2 hs h2⟩
section
variable {E:Env} {tb:Tb} {s:Sl} {o:Os} {β:Nat->Wt} {a:Act} {w w':World} {c1 c2 d:Nat} {W:Wt}
theorem Gam.move2 {ob1 ob2 ob':Obj} (h:Gam E tb s o β a w) (hl1:lk o c1=some ob1) (hl2:lk o c2=some ob2) (hne:c2≠c1) (hf:fresh d s o=true) (hW: ∀k∈W.foot,(k∈(β c1).foot\/k∈(β c2).foot\/w.heap.size<=k)/\k<w'.heap.size) (hn:W.foot.Nodup)
  (hos:w'.os=w.os) (ht:w'.tape=w.tape) (ho:w'.output=w.output) (hz:w.heap.size<=w'.heap.size) (hb: ∀k,k<w.heap.size->k∉(β c1).foot->w'.heap[k]?=w.heap[k]?)
  (hob:Comp (E.good o β) w (E.good ((d,ob')::rem (rem o c1) c2) (setB β d W)) w'->orel (E.good ((d,ob')::rem (rem o c1) c2) (setB β d W)) (setB β d W) w' W ob'):Gam E tb s ((d,ob')::rem (rem o c1) c2) (setB β d W) a w':=by
 simp only[fresh,Bool.and_eq_true,Bool.not_eq_true'] at hf
 have hl2':lk (rem o c1) c2=some ob2:=by rw[lk_rem hne];exact hl2
 have hsub1:=feet_sub (β:=β) (rem_sub (o:=o) (c:=c1))
 have hnd1:(feet (rem o c1) β).Nodup:=h.nodup.sublist hsub1
 have hkr:((rem o c1).map (·.1)).Nodup:=h.keys.sublist (rem_sub.map _)
 obtain⟨hr1,hr2⟩:=feet_rem hl1 h.nodup
 obtain⟨hq1,hq2⟩:=feet_rem hl2' hnd1
 have hkey: ∀p∈rem (rem o c1) c2,p.1≠d:=fun p hp=>omens_keys hf.2 p (rem_sub.subset (rem_sub.subset hp))
 have hfe:feet ((d,ob')::rem (rem o c1) c2) (setB β d W)=W.foot++feet (rem (rem o c1) c2) β:=by rw[feet_cons,setB_self,feet_setB hkey]
 have hsub2:=feet_sub (β:=β) (rem_sub (o:=rem o c1) (c:=c2))
 have hsub: ∀k∈feet (rem (rem o c1) c2) β,k∈feet o β:=fun k hk=>hsub1.subset (hsub2.subset hk)
 have hc:Comp (E.good o β) w (E.good ((d,ob')::rem (rem o c1) c2) (setB β d W)) w':=by
  refine⟨hz,fun k hk hg=>⟨⟨hg.1,fun hm=>?_⟩,hb k hk fun q=>hg.2 (foot_feet hl1 k q)⟩⟩
  rw[hfe] at hm
  rcases List.mem_append.1 hm with q|q
  ·rcases(hW k q).1 with z|z|z
   ·exact hg.2 (foot_feet hl1 k z)
   ·exact hg.2 (foot_feet hl2 k z)
   ·omega
  ·exact hg.2 (hsub k q)
 refine⟨h.size,h.defers,h.tbok,fun i c' v hl'=>?_,fun id ob'' hl'=>?_,⟨hos.trans h.below.os,ht.trans h.below.tape,ho.trans h.below.output,Nat.le_trans h.below.size hz,fun k hk hx=>(hb k (Nat.lt_of_lt_of_le hk h.below.size) fun q=>?_).trans (h.below.block k hk hx)⟩,fun k hk=>?_,?_,?_⟩
 ·obtain⟨u,h1,h2⟩:=h.slots i c' v hl'
  refine⟨u,h1,fun hg=>rel_agr _ _ (fun id hid=>?_) (rel_mono hc _ _ (h2 hg))⟩
  exact setB_ne fun e=>by subst e;rw[smen_lk hl' hf.1] at hid;cases hid
 ·rw[lk_cons] at hl'
  split at hl'
  ·rename_i e
   cases hl';subst e
   rw[setB_self];exact hob hc
  ·rename_i e
   have hid2:id≠c2:=fun e=>by
    subst e
    rw[lk_none (rem_keys hkr)] at hl';cases hl'
   rw[lk_rem hid2] at hl'
   have hid:id≠c1:=fun e=>by
    subst e
    rw[lk_none (rem_keys h.keys)] at hl';cases hl'
   have hl0:=hl'
   rw[lk_rem hid] at hl'
   obtain⟨q1,q2⟩:=omens_lk hl' hf.2
   rw[setB_ne q2]
   refine orel_agr (fun id' hid'=>?_) (orel_mono hc (fun k hk=>hb k (h.new k (foot_feet hl' k hk)).2 fun z=>hr1 k z (foot_feet hl0 k hk)) (h.objs id ob'' hl'))
   exact setB_ne fun e=>by subst e;rw[q1] at hid';cases hid'
 ·rcases(h.new k (foot_feet hl1 k q)).1 with z|z
  ·omega
  ·exact hx z
 ·rw[hfe] at hk
  rcases List.mem_append.1 hk with q|q
  ·refine⟨?_,(hW k q).2⟩
   rcases(hW k q).1 with z|z|z
   ·exact(h.new k (foot_feet hl1 k z)).1
   ·exact(h.new k (foot_feet hl2 k z)).1
   ·exact .inl (Nat.le_trans h.below.size z)
  ·exact⟨(h.new k (hsub k q)).1,Nat.lt_of_lt_of_le (h.new k (hsub k q)).2 hz⟩
 ·rw[hfe]
  refine List.nodup_append.2 ⟨hn,hnd1.sublist hsub2,fun x hx y hy e=>?_⟩
  subst e
  rcases(hW x hx).1 with z|z|z
  ·exact hr1 x z (hsub2.subset hy)
  ·exact hq1 x z hy
  ·have:=(h.new x (hsub x hy)).2;omega
 ·rw[List.map_cons,List.nodup_cons]
  refine⟨fun hm=>?_,hkr.sublist (rem_sub.map _)⟩
  obtain⟨p,hp,e⟩:=List.mem_map.1 hm
  exact hkey p hp e
end
def catG (n:Nat) (g1 g2:Nat->List AV):Nat->List AV:=fun i=>if i<n then g1 i else g2 (i-n)
def catS (n:Nat) (s1 s2:Sub):Sub:=fun p=>match p with
 |[]=>(none,0)
 |(i,c)::r=>if i<n then s1 ((i,c)::r) else s2 ((i-n,c)::r)
theorem tree_root {S:Nat->Prop} {β:Nat->Wt} {w:World} {W:Wt} {e n:Nat} {g:Nat->List AV} (h:orel S β w W (.tree e n g)):n<=W.cap/\n<=maxLen/\((W.a=none/\W.cap=0/\W.foot=[])\/
  ∃b off cells ty us FS,W.a=some ⟨b,off,none⟩/\W.foot=b::(List.range n).flatMap FS/\w.heap[b]?=some (.cells (cells:List Value).toArray ty (0,0))/\off+W.cap*e<=cells.length/\ ∀i,i<n->rowAt cells off e us i/\treeDs S w (rsub W) (g i) [] i 0 (us i) (FS i)):=by
 obtain⟨_,h⟩:=h
 unfold treeD at h
 obtain⟨_,_,h3,h4⟩:=h
 exact⟨h3.1,h3.2,h4⟩
theorem fm_congr {f g:Nat->List Nat}: ∀ {l:List Nat},(∀x∈l,f x=g x)->l.flatMap f=l.flatMap g
 |[],_=>rfl
 |x::l,h=>by rw[List.flatMap_cons,List.flatMap_cons,h x List.mem_cons_self,fm_congr fun y hy=>h y (List.mem_cons_of_mem _ hy)]
theorem tree_cat {S1 S':Nat->Prop} {β':Nat->Wt} {w w':World} {W1 W2 W:Wt} {e n m b off:Nat} {g1 g2:Nat->List AV} {cells:List Value} {ty:TypeId} {us1 us2:Nat->List Value} {FS1 FS2:Nat->List Nat} (hc:Comp S1 w S' w')
  (h1: ∀i,i<n->((us1 i).length=e/\(us1 i).all (·.oneCell')=true)/\treeDs S1 w (rsub W1) (g1 i) [] i 0 (us1 i) (FS1 i)) (h2: ∀i,i<m->((us2 i).length=e/\(us2 i).all (·.oneCell')=true)/\treeDs S1 w (rsub W2) (g2 i) [] i 0 (us2 i) (FS2 i))
  (k1: ∀i,i<n-> ∀k∈FS1 i,w'.heap[k]?=w.heap[k]?) (k2: ∀i,i<m-> ∀k∈FS2 i,w'.heap[k]?=w.heap[k]?)
  (ha:W.a=some ⟨b,off,none⟩) (hcap:n+m<=W.cap) (hmx:n+m<=maxLen) (hft:W.foot=b::((List.range n).flatMap FS1++(List.range m).flatMap FS2)) (hok:W.ok=true) (hsub:W.sub=catS n (rsub W1) (rsub W2))
  (hb:w'.heap[b]?=some (.cells cells.toArray ty (0,0))) (hlen:off+W.cap*e<=cells.length)
  (c1: ∀i,i<n-> ∀j u,(us1 i)[j]?=some u->cells[off+i*e+j]?=some u) (c2: ∀i,i<m-> ∀j u,(us2 i)[j]?=some u->cells[off+(n+i)*e+j]?=some u):orel S' β' w' W (.tree e (n+m) (catG n g1 g2)):=by
 refine⟨hok,?_⟩
 unfold treeD
 refine⟨rfl,fun z hz=>(by cases hz),⟨hcap,hmx⟩,.inr ⟨b,off,cells,ty,fun i=>if i<n then us1 i else us2 (i-n),fun i=>if i<n then FS1 i else FS2 (i-n),ha,?_,hb,hlen,fun i hi=>?_⟩⟩
 ·rw[hft]
  congr 1
  rw[List.range_add,List.flatMap_append]
  congr 1
  ·refine fm_congr fun i hi=>?_
   rw[if_pos (List.mem_range.1 hi)]
  ·rw[List.flatMap_map]
   refine fm_congr fun i hi=>?_
   rw[if_neg (by omega),show n+i-n=i by omega]
 ·by_cases q:i<n
  ·simp only[if_pos q,catG,rowAt]
   refine⟨⟨(h1 i q).1,c1 i q⟩,?_⟩
   refine treeDs_mono hc _ _ _ _ _ _ (fun k hk=>k1 i q k hk) (fun c r _=>rfl) ?_
   refine treeDs_shift _ [] [] i i 0 _ _ (fun c r=>?_) (h1 i q).2
   show W.sub ((i,c)::r)=W1.sub ((i,c)::r)
   rw[hsub];show(if i<n then rsub W1 ((i,c)::r) else rsub W2 ((i-n,c)::r))=_;rw[if_pos q];rfl
  ·have q':i-n<m:=by omega
   simp only[if_neg q,catG,rowAt]
   refine⟨⟨(h2 _ q').1,fun j u hu=>by have:=c2 _ q' j u hu;rwa [show n+(i-n)=i by omega] at this⟩,?_⟩
   refine treeDs_mono hc _ _ _ _ _ _ (fun k hk=>k2 _ q' k hk) (fun c r _=>rfl) ?_
   refine treeDs_shift _ [] [] (i-n) i 0 _ _ (fun c r=>?_) (h2 _ q').2
   show W.sub ((i,c)::r)=W2.sub ((i-n,c)::r)
   rw[hsub];show(if i<n then rsub W1 ((i,c)::r) else rsub W2 ((i-n,c)::r))=_;rw[if_neg q];rfl
structure RootD (S:Nat->Prop) (w:World) (W:Wt) (e n:Nat) (g:Nat->List AV) (b off:Nat) (cells:List Value) (ty:TypeId) (us:Nat->List Value) (FS:Nat->List Nat):Prop where
 a:W.a=some ⟨b,off,none⟩
 f:W.foot=b::(List.range n).flatMap FS
 h:w.heap[b]?=some (.cells cells.toArray ty (0,0))
 l:off+W.cap*e<=cells.length
 r: ∀i,i<n->rowAt cells off e us i/\treeDs S w (rsub W) (g i) [] i 0 (us i) (FS i)
theorem RootD.cell {S:Nat->Prop} {w:World} {W:Wt} {e n b off:Nat} {g:Nat->List AV} {cells:List Value} {ty:TypeId} {us:Nat->List Value} {FS:Nat->List Nat} (h:RootD S w W e n g b off cells ty us FS) {j:Nat} {u:Value} (hj:(flatN us n)[j]?=some u):w.cell? ((⟨b,off,none⟩:Addr).add j)=some u:=by
 obtain⟨i,r,g1,rfl,g3⟩:=flatN_get (fun i hi=>(h.r i hi).1.1.1) hj
 rw[add_none,cell_blk h.h,<-(h.r i g1).1.2 r u g3]
 congr 1;omega
theorem RootD.src {P:Program} {S:Nat->Prop} {w:World} {W:Wt} {e n b off:Nat} {g:Nat->List AV} {cells:List Value} {ty:TypeId} {us:Nat->List Value} {FS:Nat->List Nat} {t e0:TypeId} (h:RootD S w W e n g b off cells ty us FS) (hu:P.underlying t=some (.slice e0)) (c:Nat):Src P e t (.slice (some ⟨b,off,none⟩) n c) n (flatN us n) w:=
 Src.ofSlice w hu _ n _ _ (flatN_len fun i hi=>(h.r i hi).1.1.1) (fun j u hj=>h.cell hj) (List.all_eq_true.1 (flatN_one fun i hi=>(h.r i hi).1.1.2))
theorem RootD.in {S:Nat->Prop} {w:World} {W:Wt} {e n b off:Nat} {g:Nat->List AV} {cells:List Value} {ty:TypeId} {us:Nat->List Value} {FS:Nat->List Nat} (h:RootD S w W e n g b off cells ty us FS) {i k:Nat} (hi:i<n) (hk:k∈FS i):k∈W.foot:=by
 rw[h.f];exact List.mem_cons_of_mem _ (List.mem_flatMap.2 ⟨i,List.mem_range.2 hi,hk⟩)
section
variable {P:Program} {tb:Tb} {s:Sl} {o:Os} {d:Nat} {t t':TypeId} {ti:TI} {x y:Operand} {u v:AV} {K:AV->Os->Prop}
def appT (ti:TI) (s:Sl) (o:Os) (d:Nat) (u v:AV) (K:AV->Os->Prop):Prop:=match ti.el,fresh d s o with
 |some (_,e,B),true=>match v with
  | .orow c2 e2 0 m=>match lk o c2 with
   |some (.tree e2' N2 g2)=>match Nat.beq e2 e&&Nat.beq e2' e&&Nat.ble 1 m&&Nat.ble 1 B with
    |true=>match u with
     | .nil=>(N2=m/\(2*(0+m)+192)*B<=281474976710656)/\remK o c2 fun o2=>K (.orow d e 0 (0+m)) ((d,.tree e (0+m) (catG 0 g2 g2))::o2)
     | .orow c1 e1 0 n=>match lk o c1 with
      |some (.tree e1' N1 g1)=>match Nat.beq e1 e&&Nat.beq e1' e&& !Nat.beq c2 c1 with
       |true=>((N1=n/\N2=m)/\(2*(n+m)+192)*B<=281474976710656)/\remK o c1 fun o1=>remK o1 c2 fun o2=>K (.orow d e 0 (n+m)) ((d,.tree e (n+m) (catG n g1 g2))::o2)
       |false=>False
      |_=>False
     |_=>False
    |false=>False
   |_=>False
  |_=>False
 |_,_=>False
theorem appT_ok {ty:TypeId} {pos:String} {after:Array Edge} {gu:Option (Nat×Bool)} (hti:TIok P t ti) (hti': ∃e',P.underlying t'=some (.slice e')) (hx:Opn tb s 0 x u) (hy:Opn tb s 0 y v) (h:appT ti s o d u v K):
  ∃r o',K r o'/\Mut P tb s o ⟨some d,.call ⟨.builtin .append,#[x,y],#[t,t']⟩,ty,pos,after,gu⟩ ((d,0,r)::s) o':=by
 unfold appT at h
 split at h
 ·rename_i e0 e B hel hfr
  obtain⟨hu,hs,inf,z,i1,i2,i3,i4,i5,i6⟩:=hti.el _ _ _ hel
  subst i2 i3
  split at h
  ·rename_i c2 e2 m
   split at h
   ·rename_i e2' N2 g2 hl2
    split at h
    ·rename_i hb0
     simp only[Bool.and_eq_true] at hb0
     obtain⟨⟨⟨b1,b2⟩,b3⟩,b4⟩:=hb0
     have b1:=Nat.eq_of_beq_eq_true b1
     have b2:=Nat.eq_of_beq_eq_true b2
     have b3:=Nat.le_of_ble_eq_true b3
     have hB:=Nat.le_of_ble_eq_true b4
     subst b1 b2
     split at h
     ·obtain⟨⟨hN2,hbig⟩,h⟩:=h
      subst hN2
      have h:=remK_ok (K:=fun o2=>K (.orow d inf.size 0 (0+N2)) ((d,.tree inf.size (0+N2) (catG 0 g2 g2))::o2)) h
      refine⟨_,_,h,fun E β a w hg hd K' Q hK=>?_⟩
      have hc:=tg_zero hg.tbok
      have h1:=hx.eval hg hc
      have h2:=hy.eval hg hc
      unfold rel at h1 h2
      obtain⟨h20,h2⟩:=h2
      have hsl: ∀(c n:Nat),Value.slice ((β c).a.map (·.add (0*inf.size))) n ((β c).cap-0)= .slice (β c).a n (β c).cap:=fun c n=>by
       rw[Nat.zero_mul,Nat.sub_zero];congr 1;cases(β c).a<;>rfl
      rw[hsl] at h2
      have ho2:=hg.objs c2 _ hl2
      obtain⟨m1,m2,m3⟩:=tree_root ho2
      have hmx:0+N2<=maxLen:=by omega
      rcases m3 with⟨_,q2,_⟩|⟨bb,off2,cells2,ty2,us2,FS2,q1,q2,q3,q4,q5⟩
      ·omega
      have R2:RootD (E.good o β) w (β c2) inf.size N2 g2 bb off2 cells2 ty2 us2 FS2:=⟨q1,q2,q3,q4,q5⟩
      obtain⟨et,hut⟩:=hti'
      have hsr:=R2.src hut (β c2).cap
      rw[<-q1,<-h2] at hsr
      have l2:=flatN_len (us:=us2) (e:=inf.size) fun i hi=>(q5 i hi).1.1.1
      have nd2:=foot_nodup hl2 hg.nodup
      have hlt2: ∀k∈(β c2).foot,k<w.heap.size:=fun k hk=>(hg.new k (foot_feet hl2 k hk)).2
      have hF2:((List.range N2).flatMap FS2).Sublist (β c2).foot:=by rw[q2];exact List.sublist_cons_self _ _
      have hcd:Comp (E.good o β) w (E.good o β) w.drew:=⟨Nat.le_refl _,fun _ _ h=>⟨h,rfl⟩⟩
      have hgrow:0<0+N2:=by omega
      have hold:=run_firstCells_none (P:=P) w.drew inf.size 0 0 0
      have l1:(flatN (fun _=>([]:List Value)) 0).length=0*inf.size:=by simp[flatN]
      have hfit:Builtin.nextslicecap (0+N2) 0*inf.bytes<=281474976710656:=Nat.le_trans (Nat.mul_le_mul_right _ (nextslicecap_le hgrow)) hbig
      have hrun:=run_append_grow_src w t t' ty _ inf z hu i1 i4 none 0 0 _ hold (a.eval y) N2 _ hsr hgrow (by unfold maxLen at hmx;omega) hfit
      unfold Oper.wp
      rw[run_callApp (d:=d) (pos:=pos) (after:=after) (gu:=gu) h1 rfl hrun,Oper.upon_value]
      have hcap:=grownCap_ge w (0+N2) 0 e0
      generalize grownCap w (0+N2) 0 e0=cap' at*
      have hblk:=heap_alloc_new w.drew (.cells ((flatN (fun _=>[]) 0++flatN us2 N2).toArray++Builtin.zeroCells z.cells (cap'-(0+N2))) e0)
      have hin1: ∀k∈(List.range 0).flatMap (fun _=>([]:List Nat)),False:=fun k hk=>by simp at hk
      have hin2: ∀k∈(List.range N2).flatMap FS2,k∈(β c2).foot:=fun k hk=>hF2.subset hk
      have hadd:=hg.drew.move (c:=c2) (d:=d) (W:=⟨some ⟨w.heap.size,0,none⟩,cap',w.heap.size::((List.range 0).flatMap (fun _=>([]:List Nat))++(List.range N2).flatMap FS2),true,catS 0 (rsub (β c2)) (rsub (β c2))⟩) (ob':= .tree inf.size (0+N2) (catG 0 g2 g2)) (w':=w.drew.alloc (.cells ((flatN (fun _=>[]) 0++flatN us2 N2).toArray++Builtin.zeroCells z.cells (cap'-(0+N2))) e0)) hl2 hfr
       (fun k hk=>by
        rw[heap_push]
        rcases List.mem_cons.1 hk with q|q
        ·subst q;exact⟨.inr (Nat.le_refl _),Nat.lt_succ_self _⟩
        ·rcases List.mem_append.1 q with q|q
         ·exact(hin1 k q).elim
         ·exact⟨.inl (hin2 k q),Nat.lt_succ_of_lt (hlt2 k (hin2 k q))⟩)
       (List.nodup_cons.2 ⟨fun hm=>by
        rcases List.mem_append.1 hm with q|q
        ·exact hin1 _ q
        ·have:=hlt2 _ (hin2 _ q);omega,List.nodup_append.2 ⟨by simp,nd2.sublist hF2,fun k hk=>(hin1 k hk).elim⟩⟩) rfl rfl rfl (by rw[heap_push];omega) (fun k hk _=>Below.heap_alloc w.drew _ k hk)
       fun hc'=>tree_cat (S1:=E.good o β) (w:=w.drew) (W1:=β c2) (W2:=β c2) (us1:=fun _=>[]) (us2:=us2) (FS1:=fun _=>[]) (FS2:=FS2) (cells:=flatN (fun _=>[]) 0++flatN us2 N2++(Builtin.zeroCells z.cells (cap'-(0+N2))).toList) (ty:=e0) (b:=w.heap.size) (off:=0) hc'
        (fun i hi=>absurd hi (Nat.not_lt_zero _)) (fun i hi=>⟨(q5 i hi).1.1,treeDs_mono hcd _ _ _ _ _ _ (fun _ _=>rfl) (fun _ _ _=>rfl) (q5 i hi).2⟩)
        (fun i hi=>absurd hi (Nat.not_lt_zero _)) (fun i hi k hk=>Below.heap_alloc w.drew _ k (hlt2 k (hin2 k (List.mem_flatMap.2 ⟨i,List.mem_range.2 hi,hk⟩))))
        rfl hcap hmx rfl rfl rfl (by
         refine hblk.trans ?_
         congr 2
         apply Array.ext'
         simp) (by
         rw[List.length_append,List.length_append,l1,l2,Array.length_toList,zeroCells_size,i5,Nat.sub_mul,Nat.add_mul]
         have:=Nat.mul_le_mul_right inf.size hcap
         rw[Nat.add_mul] at this
         show 0+cap'*inf.size<=_
         omega) (fun i hi=>absurd hi (Nat.not_lt_zero _)) (fun i hi j f hf=>by
         have hj:j<inf.size:=by have:=(List.getElem?_eq_some_iff.1 hf).1;rw[(q5 i hi).1.1.1] at this;exact this
         have h9:=Nat.mul_le_mul_right inf.size (show i+1<=N2 by omega)
         rw[Nat.add_mul,Nat.one_mul] at h9
         rw[show 0+(0+i)*inf.size+j=(flatN (fun _=>([]:List Value)) 0).length+(i*inf.size+j) by rw[l1,Nat.zero_add i];omega,List.append_assoc,List.getElem?_append_right (Nat.le_add_right _ _),Nat.add_sub_cancel_left,List.getElem?_append_left (by rw[l2];omega)]
         exact flatN_at (fun i hi=>(q5 i hi).1.1.1) hi hf)
      exact hK _ _ _ (hadd.put0 (d:=d) (v:= .orow d inf.size 0 (0+N2)) (q:= .slice (some ⟨w.heap.size,0,none⟩) (0+N2) cap') (hd d rfl) ⟨by rw[setB_self],by rw[setB_self,Nat.zero_mul];rfl⟩)
     ·rename_i c1 e1 n
      split at h
      ·rename_i e1' N1 g1 hl1
       split at h
       ·rename_i hb1
        simp only[Bool.and_eq_true] at hb1
        obtain⟨⟨d1,d2⟩,d3⟩:=hb1
        have d1:=Nat.eq_of_beq_eq_true d1
        have d2:=Nat.eq_of_beq_eq_true d2
        have hne:=beq_ne d3
        subst d1 d2
        obtain⟨⟨⟨hN1,hN2⟩,hbig⟩,h⟩:=h
        subst hN1 hN2
        have h:=remK_ok (K:=fun o2=>K (.orow d inf.size 0 (N1+N2)) ((d,.tree inf.size (N1+N2) (catG N1 g1 g2))::o2)) (remK_ok h)
        refine⟨_,_,h,fun E β a w hg hd K' Q hK=>?_⟩
        have hc:=tg_zero hg.tbok
        have h1:=hx.eval hg hc
        have h2:=hy.eval hg hc
        unfold rel at h1 h2
        obtain⟨h10,h1⟩:=h1
        obtain⟨h20,h2⟩:=h2
        have hsl: ∀(c n:Nat),Value.slice ((β c).a.map (·.add (0*inf.size))) n ((β c).cap-0)= .slice (β c).a n (β c).cap:=fun c n=>by
         rw[Nat.zero_mul,Nat.sub_zero];congr 1;cases(β c).a<;>rfl
        rw[hsl] at h1 h2
        have ho1:=hg.objs c1 _ hl1
        have ho2:=hg.objs c2 _ hl2
        obtain⟨k1,k2,k3⟩:=tree_root ho1
        obtain⟨m1,m2,m3⟩:=tree_root ho2
        have hmx:N1+N2<=maxLen:=by
         have:=Nat.mul_le_mul_left (2*(N1+N2)+192) hB
         unfold maxLen;omega
        rcases m3 with⟨_,q2,_⟩|⟨bb,off2,cells2,ty2,us2,FS2,q1,q2,q3,q4,q5⟩
        ·omega
        have R2:RootD (E.good o β) w (β c2) inf.size N2 g2 bb off2 cells2 ty2 us2 FS2:=⟨q1,q2,q3,q4,q5⟩
        obtain⟨et,hut⟩:=hti'
        have hsr:=R2.src hut (β c2).cap
        rw[<-q1,<-h2] at hsr
        have l2:=flatN_len (us:=us2) (e:=inf.size) fun i hi=>(q5 i hi).1.1.1
        have hone':(flatN us2 N2).all (·.oneCell')=true:=flatN_one fun i hi=>(q5 i hi).1.1.2
        have nd1:=foot_nodup hl1 hg.nodup
        have nd2:=foot_nodup hl2 hg.nodup
        have hdis:=foot_disj hl1 hl2 hne hg.nodup
        have hlt1: ∀k∈(β c1).foot,k<w.heap.size:=fun k hk=>(hg.new k (foot_feet hl1 k hk)).2
        have hlt2: ∀k∈(β c2).foot,k<w.heap.size:=fun k hk=>(hg.new k (foot_feet hl2 k hk)).2
        have hF2:((List.range N2).flatMap FS2).Sublist (β c2).foot:=by rw[q2];exact List.sublist_cons_self _ _
        have hcd:Comp (E.good o β) w (E.good o β) w.drew:=⟨Nat.le_refl _,fun _ _ h=>⟨h,rfl⟩⟩
        rcases Nat.lt_or_ge (β c1).cap (N1+N2) with hgrow|hroom
        ·obtain⟨us1,FS1,hold,hr1,hf1⟩: ∃(us1:Nat->List Value) (FS1:Nat->List Nat),(Builtin.firstCells inf.size N1 (.slice (β c1).a N1 (β c1).cap)).run P w.drew= .ok (flatN us1 N1).toArray w.drew/\(∀i,i<N1->((us1 i).length=inf.size/\(us1 i).all (·.oneCell')=true)/\treeDs (E.good o β) w (rsub (β c1)) (g1 i) [] i 0 (us1 i) (FS1 i))/\((List.range N1).flatMap FS1).Sublist (β c1).foot:=by
          rcases k3 with⟨z1,z2,z3⟩|⟨ba,off1,cells1,ty1,us1,FS1,z1,z2,z3,z4,z5⟩
          ·have:N1=0:=by omega
           subst this
           rw[z1]
           exact⟨fun _=>[],fun _=>[],run_firstCells_none w.drew inf.size 0 0 _,fun i hi=>by omega,by simp⟩
          ·have R1:RootD (E.good o β) w (β c1) inf.size N1 g1 ba off1 cells1 ty1 us1 FS1:=⟨z1,z2,z3,z4,z5⟩
           refine⟨us1,FS1,?_,fun i hi=>⟨(z5 i hi).1.1,(z5 i hi).2⟩,by rw[z2];exact List.sublist_cons_self _ _⟩
           rw[z1];exact(R1.src hut (β c1).cap).cellsD
         have l1:=flatN_len (us:=us1) (e:=inf.size) fun i hi=>(hr1 i hi).1.1
         have hfit:Builtin.nextslicecap (N1+N2) (β c1).cap*inf.bytes<=281474976710656:=Nat.le_trans (Nat.mul_le_mul_right _ (nextslicecap_le hgrow)) hbig
         have hrun:=run_append_grow_src w t t' ty _ inf z hu i1 i4 (β c1).a N1 (β c1).cap _ hold (a.eval y) N2 _ hsr hgrow (by unfold maxLen at hmx;omega) hfit
         unfold Oper.wp
         rw[run_callApp (d:=d) (pos:=pos) (after:=after) (gu:=gu) h1 rfl hrun,Oper.upon_value]
         have hcap:=grownCap_ge w (N1+N2) (β c1).cap e0
         generalize grownCap w (N1+N2) (β c1).cap e0=cap' at*
         have hblk:=heap_alloc_new w.drew (.cells ((flatN us1 N1++flatN us2 N2).toArray++Builtin.zeroCells z.cells (cap'-(N1+N2))) e0)
         have hin1: ∀k∈(List.range N1).flatMap FS1,k∈(β c1).foot:=fun k hk=>hf1.subset hk
         have hin2: ∀k∈(List.range N2).flatMap FS2,k∈(β c2).foot:=fun k hk=>hF2.subset hk
         have hadd:=hg.drew.move2 (c1:=c1) (c2:=c2) (d:=d) (W:=⟨some ⟨w.heap.size,0,none⟩,cap',w.heap.size::((List.range N1).flatMap FS1++(List.range N2).flatMap FS2),true,catS N1 (rsub (β c1)) (rsub (β c2))⟩) (ob':= .tree inf.size (N1+N2) (catG N1 g1 g2)) (w':=w.drew.alloc (.cells ((flatN us1 N1++flatN us2 N2).toArray++Builtin.zeroCells z.cells (cap'-(N1+N2))) e0)) hl1 hl2 hne hfr
          (fun k hk=>by
           rw[heap_push]
           rcases List.mem_cons.1 hk with q|q
           ·subst q;exact⟨.inr (.inr (Nat.le_refl _)),Nat.lt_succ_self _⟩
           ·rcases List.mem_append.1 q with q|q
            ·exact⟨.inl (hin1 k q),Nat.lt_succ_of_lt (hlt1 k (hin1 k q))⟩
            ·exact⟨.inr (.inl (hin2 k q)),Nat.lt_succ_of_lt (hlt2 k (hin2 k q))⟩)
          (List.nodup_cons.2 ⟨fun hm=>by
           rcases List.mem_append.1 hm with q|q
           ·have:=hlt1 _ (hin1 _ q);omega
           ·have:=hlt2 _ (hin2 _ q);omega,List.nodup_append.2 ⟨nd1.sublist hf1,nd2.sublist hF2,fun k hk k' hk' e=>by subst e;exact hdis k (hin2 k hk') (hin1 k hk)⟩⟩) rfl rfl rfl (by rw[heap_push];omega) (fun k hk _=>Below.heap_alloc w.drew _ k hk)
          fun hc'=>tree_cat (S1:=E.good o β) (w:=w.drew) (W1:=β c1) (W2:=β c2) (us1:=us1) (us2:=us2) (FS1:=FS1) (FS2:=FS2) (cells:=flatN us1 N1++flatN us2 N2++(Builtin.zeroCells z.cells (cap'-(N1+N2))).toList) (ty:=e0) (b:=w.heap.size) (off:=0) hc'
           (fun i hi=>⟨(hr1 i hi).1,treeDs_mono hcd _ _ _ _ _ _ (fun _ _=>rfl) (fun _ _ _=>rfl) (hr1 i hi).2⟩) (fun i hi=>⟨(q5 i hi).1.1,treeDs_mono hcd _ _ _ _ _ _ (fun _ _=>rfl) (fun _ _ _=>rfl) (q5 i hi).2⟩)
           (fun i hi k hk=>Below.heap_alloc w.drew _ k (hlt1 k (hin1 k (List.mem_flatMap.2 ⟨i,List.mem_range.2 hi,hk⟩)))) (fun i hi k hk=>Below.heap_alloc w.drew _ k (hlt2 k (hin2 k (List.mem_flatMap.2 ⟨i,List.mem_range.2 hi,hk⟩))))
           rfl hcap hmx rfl rfl rfl (by
            refine hblk.trans ?_
            congr 2
            apply Array.ext'
            simp) (by
            rw[List.length_append,List.length_append,l1,l2,Array.length_toList,zeroCells_size,i5,Nat.sub_mul,Nat.add_mul]
            have:=Nat.mul_le_mul_right inf.size hcap
            rw[Nat.add_mul] at this
            show 0+cap'*inf.size<=_
            omega) (fun i hi j f hf=>by
            have hj:j<inf.size:=by have:=(List.getElem?_eq_some_iff.1 hf).1;rw[(hr1 i hi).1.1] at this;exact this
            have h9:=Nat.mul_le_mul_right inf.size (show i+1<=N1 by omega)
            rw[Nat.add_mul,Nat.one_mul] at h9
            rw[Nat.zero_add,List.append_assoc,List.getElem?_append_left (by rw[l1];omega)]
            exact flatN_at (fun i hi=>(hr1 i hi).1.1) hi hf) (fun i hi j f hf=>by
            have hj:j<inf.size:=by have:=(List.getElem?_eq_some_iff.1 hf).1;rw[(q5 i hi).1.1.1] at this;exact this
            have h9:=Nat.mul_le_mul_right inf.size (show i+1<=N2 by omega)
            rw[Nat.add_mul,Nat.one_mul] at h9
            rw[Nat.zero_add,Nat.add_mul,List.append_assoc,List.getElem?_append_right (by rw[l1];omega),l1,List.getElem?_append_left (by rw[l2];omega),show N1*inf.size+i*inf.size+j-N1*inf.size=i*inf.size+j by omega]
            exact flatN_at (fun i hi=>(q5 i hi).1.1.1) hi hf)
         exact hK _ _ _ (hadd.put0 (d:=d) (v:= .orow d inf.size 0 (N1+N2)) (q:= .slice (some ⟨w.heap.size,0,none⟩) (N1+N2) cap') (hd d rfl) ⟨by rw[setB_self],by rw[setB_self,Nat.zero_mul];rfl⟩)
        ·rcases k3 with⟨_,z2,_⟩|⟨ba,off1,cells1,ty1,us1,FS1,z1,z2,z3,z4,z5⟩
         ·omega
         have R1:RootD (E.good o β) w (β c1) inf.size N1 g1 ba off1 cells1 ty1 us1 FS1:=⟨z1,z2,z3,z4,z5⟩
         rw[z1] at h1
         have hfits:off1+N1*inf.size+N2*inf.size<=cells1.length:=by
          have:=Nat.mul_le_mul_right inf.size hroom
          rw[Nat.add_mul] at this
          omega
         obtain⟨w',hr,e1,e2,e3,e4,e5,e6⟩:=run_storeCells_blk (P:=P) ba ty1 (flatN us2 N2) 0 (off1+N1*inf.size) cells1 w z3 (by rw[l2];omega) hone'
         have hrun:(Builtin.append_ #[t,t'] ty #[.slice (some ⟨ba,off1,none⟩) N1 (β c1).cap,a.eval y]).run P w= .ok (.slice (some ⟨ba,off1,none⟩) (N1+N2) (β c1).cap) w':=by
          rcases hsr.kind with⟨e',hk'⟩|hk'<;>simp[Builtin.append_,run_underlying hu,run_underlying hk',sizeOf,typeInfo,i1,hsr.len,hroom,hsr.cells,Addr.add_lit,hr]
         unfold Oper.wp
         rw[run_callApp (d:=d) (pos:=pos) (after:=after) (gu:=gu) h1 rfl hrun,Oper.upon_value]
         have hf1:((List.range N1).flatMap FS1).Sublist (β c1).foot:=by rw[z2];exact List.sublist_cons_self _ _
         have hin1: ∀k∈(List.range N1).flatMap FS1,k∈(β c1).foot:=fun k hk=>hf1.subset hk
         have hin2: ∀k∈(List.range N2).flatMap FS2,k∈(β c2).foot:=fun k hk=>hF2.subset hk
         have hba:ba∈(β c1).foot:=by rw[z2];exact List.mem_cons_self
         have nd1':=nd1
         rw[z2,List.nodup_cons] at nd1'
         have hsp:=splice_get cells1 (off1+N1*inf.size+0) (flatN us2 N2)
         have hadd:=hg.move2 (c1:=c1) (c2:=c2) (d:=d) (W:=⟨some ⟨ba,off1,none⟩,(β c1).cap,ba::((List.range N1).flatMap FS1++(List.range N2).flatMap FS2),true,catS N1 (rsub (β c1)) (rsub (β c2))⟩) (ob':= .tree inf.size (N1+N2) (catG N1 g1 g2)) (w':=w') hl1 hl2 hne hfr
          (fun k hk=>by
           rw[e4]
           rcases List.mem_cons.1 hk with q|q
           ·subst q;exact⟨.inl hba,hlt1 _ hba⟩
           ·rcases List.mem_append.1 q with q|q
            ·exact⟨.inl (hin1 k q),hlt1 k (hin1 k q)⟩
            ·exact⟨.inr (.inl (hin2 k q)),hlt2 k (hin2 k q)⟩)
          (List.nodup_cons.2 ⟨fun hm=>by
           rcases List.mem_append.1 hm with q|q
           ·exact nd1'.1 q
           ·exact hdis _ (hin2 _ q) hba,List.nodup_append.2 ⟨nd1'.2,nd2.sublist hF2,fun k hk k' hk' e=>by subst e;exact hdis k (hin2 k hk') (hin1 k hk)⟩⟩) e1 e2 e3 (by omega) (fun k hk hnk=>e6 k fun e=>hnk (by rw[e];exact hba))
          fun hc'=>tree_cat (S1:=E.good o β) (w:=w) (W1:=β c1) (W2:=β c2) (us1:=us1) (us2:=us2) (FS1:=FS1) (FS2:=FS2) (cells:=splice cells1 (off1+N1*inf.size+0) (flatN us2 N2)) (ty:=ty1) (b:=ba) (off:=off1) hc'
           (fun i hi=>⟨(z5 i hi).1.1,(z5 i hi).2⟩) (fun i hi=>⟨(q5 i hi).1.1,(q5 i hi).2⟩)
           (fun i hi k hk=>e6 k fun e=>nd1'.1 (by subst e;exact List.mem_flatMap.2 ⟨i,List.mem_range.2 hi,hk⟩)) (fun i hi k hk=>e6 k fun e=>hdis k (hin2 k (List.mem_flatMap.2 ⟨i,List.mem_range.2 hi,hk⟩)) (by rw[e];exact hba))
           rfl hroom hmx rfl rfl rfl e5 (by rw[splice_length];exact z4) (fun i hi j f hf=>by
            have hj:j<inf.size:=by have:=(List.getElem?_eq_some_iff.1 hf).1;rw[(z5 i hi).1.1.1] at this;exact this
            have h9:=Nat.mul_le_mul_right inf.size (show i+1<=N1 by omega)
            rw[Nat.add_mul,Nat.one_mul] at h9
            rw[hsp _ (by rw[l2];omega),if_neg (by omega)]
            exact(z5 i hi).1.2 j f hf) (fun i hi j f hf=>by
            have hj:j<inf.size:=by have:=(List.getElem?_eq_some_iff.1 hf).1;rw[(q5 i hi).1.1.1] at this;exact this
            have h9:=Nat.mul_le_mul_right inf.size (show i+1<=N2 by omega)
            rw[Nat.add_mul,Nat.one_mul] at h9
            rw[hsp _ (by rw[l2];omega),Nat.add_mul,if_pos (by rw[l2];omega),show off1+(N1*inf.size+i*inf.size)+j-(off1+N1*inf.size+0)=i*inf.size+j by omega]
            exact flatN_at (fun i hi=>(q5 i hi).1.1.1) hi hf)
         exact hK _ _ _ (hadd.put0 (d:=d) (v:= .orow d inf.size 0 (N1+N2)) (q:= .slice (some ⟨ba,off1,none⟩) (N1+N2) (β c1).cap) (hd d rfl) ⟨by rw[setB_self],by rw[setB_self,Nat.zero_mul];rfl⟩)
       ·cases h
      ·cases h
     ·cases h
    ·cases h
   ·cases h
  ·cases h
 ·cases h
end
def readI:List IntKind->List Value->Option (List Int)
 |[],[]=>some []
 |q::qs,.int q' z::us=>if q=q' then(readI qs us).map (z:: ·) else none
 |_,_=>none
def kval:List IntKind->List Int->List Value
 |q::qs,z::zs=>.int q z::kval qs zs
 |_,_=>[]
def kdat:List IntKind->List Int->List (DataW Unit)
 |q::qs,z::zs=>.lit (.int q z)::kdat qs zs
 |_,_=>[]
theorem readI_mk: ∀ {qs:List IntKind} {zs:List Int},zs.length=qs.length->readI qs (kval qs zs)=some zs
 |[],[],_=>rfl
 |q::qs,z::zs,h=>by
  simp only[kval,readI,if_true]
  rw[readI_mk (qs:=qs) (zs:=zs) (by simpa using h)];rfl
theorem readI_inv: ∀ {qs:List IntKind} {us:List Value} {zs:List Int},readI qs us=some zs->us=kval qs zs/\zs.length=qs.length
 |[],[],zs,h=>by cases h;exact⟨rfl,rfl⟩
 |[],u::us,zs,h=>by cases u<;>cases h
 |q::qs,[],zs,h=>by cases h
 |q::qs,u::us,zs,h=>by
  cases u<;>simp only[readI] at h<;>try cases h
  rename_i q' z
  split at h
  ·rename_i e
   subst e
   cases hr:readI qs us with
   |none=>rw[hr] at h;cases h
   |some l=>
    rw[hr] at h
    cases h
    obtain⟨h1,h2⟩:=readI_inv hr
    exact⟨by rw[h1];rfl,by simp[h2]⟩
  ·cases h
theorem kdat_inj: ∀ {qs:List IntKind} {zs zs':List Int},zs.length=qs.length->zs'.length=qs.length->kdat qs zs=kdat qs zs'->zs=zs'
 |[],[],[],_,_,_=>rfl
 |q::qs,z::zs,z'::zs',h,h',e=>by
  simp only[kdat,List.cons.injEq,DataW.lit.injEq,Lit.int.injEq] at e
  rw[e.1.2,kdat_inj (by simpa using h) (by simpa using h') e.2]
def aggR (qs:List IntKind):Value->Option (DataW Unit×List MemPlace)
 | .agg us=>(readI qs us.toList).map fun zs=>(.agg (kdat qs zs),[])
 |_=>none
theorem aggR_mk {qs:List IntKind} {zs:List Int} (h:zs.length=qs.length):aggR qs (.agg (kval qs zs).toArray)=some (.agg (kdat qs zs),[]):=by
 unfold aggR
 simp only
 rw[readI_mk h];rfl
theorem aggR_inv {qs:List IntKind} {v:Value} {z:DataW Unit×List MemPlace} (h:aggR qs v=some z): ∃zs,v= .agg (kval qs zs).toArray/\zs.length=qs.length/\z=(.agg (kdat qs zs),[]):=by
 cases v<;>try(cases h)
 rename_i us
 unfold aggR at h
 simp only at h
 cases hr:readI qs us.toList with
 |none=>rw[hr] at h;cases h
 |some zs=>
  rw[hr] at h
  cases h
  obtain⟨h1,h2⟩:=readI_inv hr
  exact⟨zs,by rw[<-h1,Array.toArray_toList],h2,rfl⟩
def fldsF (F:List Int->Int) (z:Int):Nat->List IntKind->List Int
 |_,[]=>[]
 |j,_::qs=>F [(j:Int),z]::fldsF F z (j+1) qs
theorem fldsF_len {F:List Int->Int} {z:Int}: ∀ {j:Nat} {qs:List IntKind},(fldsF F z j qs).length=qs.length
 |_,[]=>rfl
 |j,_::qs=>by simp only[fldsF,List.length_cons,fldsF_len]
def mapS (P:Program) (k e:Nat) (qs:List IntKind) (n:Nat) (F:List Int->Int) (x:Go.Obj):Prop:= ∃(D:DataW Unit) (es:Array MapEntry) (clock:Nat),x= .map es clock/\Go.WideElems.Fit P k (aggR qs) es clock/\es.size<=n/\D= .map ((es.toList.map (Go.WideElems.rg P k (aggR qs))).foldr DataW.insert [])/\
  ∀(z:Int) (kl:Lit),keyOf P k (.int .i64 z)=some kl->D.atKey kl (.agg (kdat qs (fldsF (fun _=>0) z 0 qs)))= .agg (kdat qs (fldsF F z 0 qs))
theorem fldsF_congr {F F':List Int->Int} {z:Int}: ∀ {j:Nat} {qs:List IntKind},(∀i:Nat,F [(i:Int),z]=F' [(i:Int),z])->fldsF F z j qs=fldsF F' z j qs
 |_,[],_=>rfl
 |j,_::qs,h=>by simp only[fldsF];rw[h j,fldsF_congr h]
theorem mapS_le {P:Program} {k e:Nat} {qs:List IntKind} {n n':Nat} {F F':List Int->Int} (hn:n<=n') (hF: ∀(i:Nat) (z:Int),F [(i:Int),z]=F' [(i:Int),z]): ∀x,mapS P k e qs n F x->mapS P k e qs n' F' x:=by
 rintro x ⟨D,es,clock,rfl,h1,h2,h3,h4⟩
 exact⟨D,es,clock,rfl,h1,Nat.le_trans h2 hn,h3,fun z kl hk=>by rw[h4 z kl hk,fldsF_congr fun i=>hF i z]⟩
def msetS (F:List Int->Int) (z:Int) (rs:List Int):List Int->Int:=fun l=>match l with
 |[j,z']=>if z'=z then rs.getD j.toNat 0 else F l
 |_=>F l
theorem fldsF_set {F:List Int->Int} {z:Int} {rs:List Int}: ∀ {j:Nat} {qs:List IntKind} {r1:List Int},rs=r1-> ∀ {r2:List Int},r1.drop j=r2->r2.length=qs.length->fldsF (msetS F z rs) z j qs=r2
 |_,[],_,_,[],_,_=>rfl
 |j,_::qs,r1,h1,r::r2,h2,h3=>by
  subst h1
  simp only[fldsF]
  have hj:rs[j]?=some r:=by
   have:=congrArg (·[0]?) h2
   simpa using this
  have h4:rs.drop (j+1)=r2:=by
   rw[<-List.drop_drop,h2];rfl
  rw[fldsF_set rfl h4 (by simpa using h3)]
  have:msetS F z rs [(j:Int),z]=r:=by
   unfold msetS
   simp only[if_true,Int.toNat_natCast]
   rw[List.getD_eq_getElem?_getD,hj];rfl
  rw[this]
def intsQ:List IntKind->List AV->(List Int->Prop)->Prop
 |[],[],K=>K []
 |q::qs,.i q' z::l,K=>match decide (q=q') with
  |true=>intsQ qs l fun zs=>K (z::zs)
  |false=>False
 |_,_,_=>False
theorem intsQ_ok: ∀ {qs:List IntKind} {l:List AV} {K:List Int->Prop},intsQ qs l K-> ∃zs,K zs/\zs.length=qs.length/\ ∀(S:Nat->Prop) (β:Nat->Wt) (w:World) (us:List Value),rels S β w l us->us=kval qs zs
 |[],[],K,h=>⟨[],h,rfl,fun S β w us hr=>by unfold rels at hr;subst hr;rfl⟩
 |[],v::l,K,h=>by cases v<;>cases h
 |q::qs,[],K,h=>by cases h
 |q::qs,v::l,K,h=>by
  cases v<;>simp only[intsQ] at h<;>try cases h
  rename_i q' z
  split at h
  ·rename_i e
   have e:=of_decide_eq_true e
   subst e
   obtain⟨zs,h1,h2,h3⟩:=intsQ_ok h
   refine⟨_,h1,by simp[h2],fun S β w us hr=>?_⟩
   unfold rels at hr
   obtain⟨u,us',rfl,r1,r2⟩:=hr
   unfold rel at r1
   rw[h3 S β w us' r2,r1];rfl
  ·cases h
def aggF (F:List Int->Int) (z:Int):Nat->List IntKind->List AV
 |_,[]=>[]
 |j,q::qs=>.i q (F [(j:Int),z])::aggF F z (j+1) qs
theorem aggF_rel {S:Nat->Prop} {β:Nat->Wt} {w:World} {F:List Int->Int} {z:Int}: ∀ {j:Nat} {qs:List IntKind},rels S β w (aggF F z j qs) (kval qs (fldsF F z j qs))
 |_,[]=>rfl
 |j,q::qs=>⟨_,_,rfl,rfl,aggF_rel⟩
theorem kval0_eq {z:Int}: ∀ {j:Nat} {qs:List IntKind},kval0 qs=kval qs (fldsF (fun _=>0) z j qs)
 |_,[]=>rfl
 |j,q::qs=>by simp only[kval0,fldsF,kval];rw[kval0_eq (z:=z) (j:=j+1) (qs:=qs)]
section
variable {P:Program} {tb:Tb} {s:Sl} {o:Os} {c:Nat} {t:Nat} {ti:TI} {x y z:Operand} {u v q:AV}
def mkmS (P:Program) (d:Nat) (ti:TI) (K:AV->Os->Prop):Prop:=match ti.ms with
 |some (k,e,qs)=>K (.omap d) [(d,.mp (mapS P k e qs 0 fun _=>0) 0 0 fun _=>0)]
 |none=>False
theorem mkmS_ok {d:Nat} {dst:Option Nat} {K:AV->Os->Prop} (hti:TIok P t ti) (h:mkmS P d ti K): ∃r no,K r no/\Add P tb s o c dst (.makeMap t none) r no:=by
 unfold mkmS at h
 split at h
 ·rename_i k e qs hm
  refine⟨_,_,h,fun E tb' s' o' β a w he hs ho hf hg hc hc' ty pos after gu K Q hK=>?_⟩
  have hrun:(execOp a.eval ⟨dst,.makeMap t none,ty,pos,after,gu⟩).run P w= .ok (.value (.map (some w.heap.size))) (w.alloc (.map #[] 0)):=by
   simp only[execOp]
   exact run_next (run_makeMap t w)
  unfold Oper.wp
  rw[hrun,Oper.upon_value]
  have hadd:=hg.add (d:=d) (W:=⟨some ⟨w.heap.size,0,none⟩,0,[w.heap.size],true,sub0⟩) (ob:= .mp (mapS P k e qs 0 fun _=>0) 0 0 fun _=>0) (w':=w.alloc (.map #[] 0)) (hf (d,_) (List.mem_singleton.2 rfl))
   (fun k hk=>by simp only[List.mem_singleton] at hk;subst hk;exact⟨Nat.le_refl _,by rw[heap_push];exact Nat.lt_succ_self _⟩) (by simp) rfl rfl rfl (by rw[heap_push];omega) (fun k hk=>Below.heap_alloc w _ k hk)
   fun hc=>⟨⟨rfl,rfl,rfl⟩,w.heap.size,_,rfl,rfl,heap_alloc_new w _,⟨.map [],#[],0,rfl,by
    obtain⟨es,clock,h1,h2,h3,h4⟩:=World.ownsMap_made (H:=Unit) w P k (aggR qs)
    rw[heap_alloc_new] at h1
    cases h1
    exact⟨h2,h3,h4,fun zs kl _=>rfl⟩⟩,fun _ h=>nomatch h⟩
  exact hK _ _ _ hadd ⟨by rw[setB_self],w.heap.size,by rw[setB_self],rfl⟩
 ·cases h
def lokS (P:Program) (tb:Tb) (c:Nat) (ti:TI) (o:Os) (u v:AV) (K:AV->Prop):Prop:=match ti.ms,u,v with
 |some (k,e,qs),.omap id,.i .i64 z=>match lk o id with
  |some (.mp Φ t' n F)=>Φ=mapS P k e qs n F/\need tb c (inIs [z]) (K (.agg (aggF F z 0 qs)))
  |_=>False
 |_,_,_=>False
theorem lokS_ok {K:AV->Prop} (hti:TIok P t ti) (hx:Opn tb s c x u) (hy:Opn tb s c y v) (h:lokS P tb c ti o u v K): ∃r,K r/\Val P tb s o c (.lookup t x y false) r:=by
 unfold lokS at h
 split at h
 ·rename_i k e qs id z hm
  have M:=hti.ms _ _ _ hm
  split at h
  ·rename_i Φ t' n F hlk
   obtain⟨rfl,h⟩:=h
   obtain⟨hin,h⟩:=need_ok h
   refine⟨_,h,fun E tb' s' o' β a w he hs ho hg hc hc' d ty pos after gu=>?_⟩
   have h1:=(hx.to he (hs x (by simp[Op.operands]))).eval hg hc'
   have h2:=(hy.to he (hs y (by simp[Op.operands]))).eval hg hc'
   unfold rel at h1 h2
   obtain⟨h0,b,e1,e2⟩:=h1
   obtain⟨r0,b',x',r1,r2,r3,⟨D,es,clock,rfl,f1,f2,f3,f4⟩,r4⟩:=hg.objs id _ (ho _ _ hlk)
   rw[r1] at e1
   cases e1
   obtain⟨kl,hkl⟩:=M.key z (hin hc).1
   have hown:w.ownsMap P k (aggR qs) b n D:=⟨es,clock,r3,f1,f2,f3⟩
   obtain⟨v,ps,hrun,hv⟩:=hown.lookup M.kd M.und (M.zr w) (by rw[kval0_eq (z:=z) (j:=0)];exact aggR_mk fldsF_len) hkl
   rw[f4 z kl hkl] at hv
   obtain⟨zs,rfl,hl,he⟩:=aggR_inv hv
   simp only[Prod.mk.injEq,DataW.agg.injEq] at he
   have he:=kdat_inj fldsF_len hl he.1
   subst he
   refine⟨.agg (kval qs (fldsF F z 0 qs)).toArray,?_,_,rfl,aggF_rel⟩
   simp only[execOp,e2,h2]
   exact run_next hrun
  ·cases h
 ·cases h
def mupS (P:Program) (ti:TI) (o:Os) (u v q:AV) (K:Os->Prop):Prop:=match ti.ms,u,v,q with
 |some (k,e,qs),.omap id,.i .i64 z,.agg cs=>match lk o id with
  |some (.mp Φ t' n F)=>Φ=mapS P k e qs n F/\(n<9223372036854775807/\inIs [z])/\intsQ qs cs fun rs=>upK o id (.mp (mapS P k e qs (n+1) (msetS F z rs)) t' (n+1) (msetS F z rs)) K
  |_=>False
 |_,_,_,_=>False
theorem mapS_put {k e:Nat} {qs:List IntKind} {n:Nat} {F:List Int->Int} {D:DataW Unit} {es:Array MapEntry} {clock b:Nat} {w:World} {z:Int} {rs:List Int} (M:MapSOk P t k e qs) (hb:w.heap[b]?=some (.map es clock)) (f1:Go.WideElems.Fit P k (aggR qs) es clock) (f2:es.size<=n) (f3:D= .map ((es.toList.map (Go.WideElems.rg P k (aggR qs))).foldr DataW.insert []))
  (f4: ∀(z:Int) (kl:Lit),keyOf P k (.int .i64 z)=some kl->D.atKey kl (.agg (kdat qs (fldsF (fun _=>0) z 0 qs)))= .agg (kdat qs (fldsF F z 0 qs))) (hin:inI z) (hn:n<maxLen) (hr:rs.length=qs.length):
  ∃w',(Instr.mapUpdate t (.map (some b)) (.int .i64 z) (.agg (kval qs rs).toArray)).run P w= .ok () w'/\w'.os=w.os/\w'.tape=w.tape/\w'.output=w.output/\w'.heap.size=w.heap.size/\(∀j,j≠b->w'.heap[j]?=w.heap[j]?)/\ ∃x,w'.heap[b]?=some x/\mapS P k e qs (n+1) (msetS F z rs) x:=by
 obtain⟨kl,hkl⟩:=M.key z hin
 have hv:=aggR_mk (zs:=rs) hr
 have hown:w.ownsMap P k (aggR qs) b n D:=⟨es,clock,hb,f1,f2,f3⟩
 obtain⟨w',hrun,⟨es',clock',g1,g2,g3,g4⟩,hgr⟩:=hown.update M.kd M.und hn hkl hv
 obtain⟨es2,clock2,hrun2,_⟩:=Go.Maps.fit_store (R':=aggR qs) M.kd M.und hb f1 (Nat.lt_of_le_of_lt f2 hn) (fun _ _ _ _ hz=>hz) hkl hv
 have hw:w'=Go.ChangeMaps.setBlock w b (.map es2 clock2):=by
  rw[hrun2] at hrun
  cases hrun
  rfl
 refine⟨w',hrun,hgr.os,hgr.tape,hgr.output,by rw[hw];simp[Go.ChangeMaps.setBlock],fun j hj=>by rw[hw];exact Go.ChangeMaps.heap_setBlock_other hb _ (fun e=>hj e),_,g1,_,es',clock',rfl,g2,g3,rfl,fun z' kl' hk'=>?_⟩
 have hD:Go.Maps.IsMap D:=⟨_,f3⟩
 rw[<-g4]
 by_cases e:z'=z
 ·subst e
  rw[hkl] at hk'
  cases hk'
  rw[Go.Maps.atKey_put_same hD (M.kd.key hkl),fldsF_set (r1:=rs) rfl (r2:=rs) rfl hr]
 ·have hne:kl'≠kl:=fun h=>by
   subst h
   have:=M.kd.inj hkl hk'
   cases this
   exact e rfl
  rw[Go.Maps.atKey_put_other hne,f4 z' kl' hk']
  rw[fldsF_congr (F':=msetS F z rs) fun i=>by unfold msetS;simp only;rw[if_neg e]]
theorem mupS_ok {op:Op} {K:Os->Prop} {ty:TypeId} {pos:String} {after:Array Edge} {gu:Option (Nat×Bool)} (hop:op= .mapUpdate t x y z\/op= .insert t x y z) (hti:TIok P t ti) (hx:Opn tb s 0 x u) (hy:Opn tb s 0 y v) (hz:Opn tb s 0 z q) (h:mupS P ti o u v q K): ∃o',K o'/\Mut P tb s o ⟨none,op,ty,pos,after,gu⟩ s o':=by
 unfold mupS at h
 split at h
 ·rename_i k e qs id zk cs hm
  have M:=hti.ms _ _ _ hm
  split at h
  ·rename_i Φ t' n F hlk
   obtain⟨rfl,⟨hn,hin⟩,h⟩:=h
   obtain⟨rs,h,hl,hcs⟩:=intsQ_ok h
   have h:=upK_ok h
   refine⟨_,h,fun E β a w hg _ K Q hK=>?_⟩
   have hc:=tg_zero hg.tbok
   have h1:=hx.eval hg hc
   have h2:=hy.eval hg hc
   have h3:=hz.eval hg hc
   unfold rel at h1 h2 h3
   obtain⟨h0,b,e1,e2⟩:=h1
   obtain⟨us,e3,e4⟩:=h3
   rw[hcs _ _ _ _ e4] at e3
   obtain⟨r0,b',x',r1,r2,r3,⟨D,es,clock,rfl,f1,f2,f3,f4⟩,r4⟩:=hg.objs id _ hlk
   rw[r1] at e1
   cases e1
   obtain⟨w',hrun,q1,q2,q3,q4,q5,xx,q6,q7⟩:=mapS_put M r3 f1 f2 f3 f4 hin.1 (show n<maxLen by unfold maxLen;omega) hl
   have hex:(execOp a.eval ⟨none,op,ty,pos,after,gu⟩).run P w= .ok .skip w':=by
    rcases hop with rfl|rfl<;>
    ·simp only[execOp,e2,h2,e3]
     rw[Sem.run_bind,hrun];rfl
   unfold Oper.wp
   rw[hex,Oper.upon_skip]
   exact hK _ _ β (hg.setO hlk q1 q2 q3 q4 (fun k hk=>q5 k fun e=>hk (by rw[r2,e];simp)) fun hc=>⟨r0,b,xx,r1,r2,q6,q7,r4⟩)
  ·cases h
 ·cases h
def maxA (u v:AV) (K:AV->Prop):Prop:=match u,v with
 | .i k m,.i _ n=>K (.i k (max m n))
 |_,_=>False
theorem maxA_ok {t':TypeId} {K:AV->Prop} (hx:Opn tb s c x u) (hy:Opn tb s c y v) (h:maxA u v K): ∃r,K r/\Val P tb s o c (.call ⟨.builtin .max,#[x,y],#[t,t']⟩) r:=by
 unfold maxA at h
 split at h
 ·rename_i k m k' n
  have hm:x∈(Op.call ⟨.builtin .max,#[x,y],#[t,t']⟩).operands/\y∈(Op.call ⟨.builtin .max,#[x,y],#[t,t']⟩).operands:=by simp[Op.operands,Call.operands]
  refine⟨_,h,fun E tb' s' o' β a w he hs ho hg hc hc' d ty pos after gu=>?_⟩
  have h1:=(hx.to he (hs x hm.1)).eval hg hc'
  have h2:=(hy.to he (hs y hm.2)).eval hg hc'
  unfold rel at h1 h2
  refine⟨.int k (max m n),?_,rfl⟩
  have:=Lib.run_max_ints (P:=P) w #[t,t'] ty k k' m n
  simp[execOp,resolve,invoke,builtin,h1,h2,this]
 ·cases h
end
def withT (T:TT) (t:Nat) (K:TI->Prop):Prop:=match lk T t with
 |some ti=>K ti
 |none=>False
theorem withT_ok {P:Program} {T:TT} {t:Nat} {K:TI->Prop} (hT:TTok P T) (h:withT T t K): ∃ti,K ti/\TIok P t ti:=by
 unfold withT at h
 split at h
 ·rename_i ti e;exact⟨ti,h,hT _ _ e⟩
 ·cases h
def funK (v:AV) (K:FuncId->List AV->List AV->Prop):Prop:=match v with
 | .clo f cs=>match Nat.ble 1048576 f with
  |false=>K f [] cs
  |true=>K (Nat.mod f 1048576) (cs.take (Nat.div f 1048576)) (cs.drop (Nat.div f 1048576))
 |_=>False
def isNilA:AV->Bool
 | .nil=>true
 |_=>false
def isNilI:Operand->Bool
 | .const .nilIface=>true
 |_=>false
theorem isNilI_ok {y:Operand} (h:isNilI y=true):y= .const .nilIface:=by
 unfold isNilI at h
 split at h
 ·rfl
 ·cases h
def add1 (P:Program) (T:TT) (ops:Array Oper) (tb:Tb) (s:Sl) (o:Os) (c d:Nat) (op:Op) (K:AV->Os->Prop):Prop:=match op with
 | .move x=>get tb s c x fun v=>forceK v fun v=>K v []
 | .assign x=>get tb s c x fun v=>forceK v fun v=>K v []
 | .binOp bo t x y _=>get tb s c x fun u=>get tb s c y fun v=>match isNilA v with
  |true=>withT T t fun ti=>nilA ti bo u v fun r=>K r []
  |false=>match isNilI y with
   |true=>withT T t fun ti=>match ti.ifc with
    |true=>nilI bo u fun r=>K r []
    |false=>False
   |false=>binA T tb c bo t u v fun r=>K r []
 | .unOp un _ x=>get tb s c x fun v=>unA tb c un v fun r=>K r []
 | .pick z a b=>pickA ops tb s c z a b fun r=>K r []
 | .convert t t' x=>withT T t fun ti=>withT T t' fun ti'=>get tb s c x fun v=>match ti'.str with
  |true=>cnvS T tb c ti v fun r=>K r []
  |false=>cnvA tb c ti ti' v fun r=>K r []
 | .fieldAddr t x f=>withT T t fun ti=>get tb s c x fun v=>match treeV o v with
  |true=>fldT ti f v fun r=>K r []
  |false=>fldA ti f v fun r=>K r []
 | .indexAddr t x y=>withT T t fun ti=>get tb s c x fun u=>get tb s c y fun v=>match treeV o u with
  |true=>idxT tb c ti o u v fun r=>K r []
  |false=>idxA tb c ti o u v fun r=>K r []
 | .load t x=>withT T t fun ti=>get tb s c x fun v=>match treeV o v with
  |true=>loadT tb c ti o v fun r=>K r []
  |false=>loadA tb c ti o v fun r=>K r []
 | .extract x i=>get tb s c x fun v=>extA i v fun r=>K r []
 | .index t x y=>withT T t fun ti=>get tb s c x fun u=>get tb s c y fun v=>chrA tb c ti u v fun r=>K r []
 | .build t ps=>withT T t fun ti=>bldA ti tb s c ps.toList fun r=>K r []
 | .buildSlice t n ps=>withT T t fun ti=>LitW (litA ti tb s c n ps.toList fun r=>K r []) (litO ti tb s c d n ps.toList K) (litN ti tb s c d n ps.toList K)
 | .makeFunc fn f cs=>funA tb s c fn f.toList cs.toList fun r=>K r []
 | .nilCheck x=>get tb s c x fun v=>chkA v fun r=>K r []
 | .box t x=>get tb s c x fun v=>boxA t d v K
 | .alloc t=>withT T t fun ti=>allA t ti d K
 | .makeSlice t x y=>withT T t fun ti=>match ti.el with
  |some (e,_,_)=>withT T e fun te=>match te.zero with
   |[]=>False
   |z::zs=>get tb s c x fun u=>get tb s c y fun v=>match hasNil (constC z::zs.map constC) with
    |true=>makT ti d (constC z::zs.map constC) u v K
    |false=>makA ti d (constC z::zs.map constC) u v K
  |none=>False
 | .call ⟨.builtin .len,xs,ts⟩=>match xs.toList,ts.toList with
  |[x],[t]=>withT T t fun ti=>get tb s c x fun v=>match treeV o v with
   |true=>lenT ti v fun r=>K r []
   |false=>lenA ti v fun r=>K r []
  |_,_=>False
 | .call ⟨.builtin .min,xs,ts⟩=>match xs.toList,ts.toList with
  |[x,y],[_,_]=>get tb s c x fun u=>get tb s c y fun v=>minA u v fun r=>K r []
  |_,_=>False
 | .slice t x lo hi none=>withT T t fun ti=>get tb s c x fun v=>getO tb s c lo fun l=>getO tb s c hi fun h=>slcA tb c ti o v l h fun r=>K r []
 | .call ⟨.value x,xs,_⟩=>get tb s c x fun v=>funK v fun f bs cs=>capK tb s c xs.toList fun vs=>match noOwns vs&&(noOwns bs&&noOwns cs) with
  |true=>CallK P tb c f (bs++(vs++cs)) K
  |false=>lendsK tb c o 40 (bs++(vs++cs)) fun vs=>CallL P tb c f vs K
 | .makeMap t none=>withT T t fun ti=>match ti.ms with
  |some _=>mkmS P d ti K
  |none=>mkmA P t d ti K
 | .lookup t x y false=>withT T t fun ti=>get tb s c x fun u=>get tb s c y fun v=>match ti.ms with
  |some _=>lokS P tb c ti o u v fun r=>K r []
  |none=>lokA P tb c ti o u v fun r=>K r []
 | .makeInterface t x=>get tb s c x fun v=>forceK v fun v=>P.concrete t=true/\K (.ifc t v) []
 | .call ⟨.builtin .max,xs,ts⟩=>match xs.toList,ts.toList with
  |[x,y],[_,_]=>get tb s c x fun u=>get tb s c y fun v=>maxA u v fun r=>K r []
  |_,_=>False
 | .field t x f=>withT T t fun ti=>get tb s c x fun v=>fvA ti f v fun r=>K r []
 |_=>False
section
variable {P:Program} {T:TT} {ops:Array Oper} {tb:Tb} {s:Sl} {o:Os} {c d:Nat}
theorem run_enter {ρ:Operand->Value} {f:FuncId} {x:Operand} {xs:List Operand} {us bs cs:List Value} {ats:Array TypeId} {d:Option Nat} {ty:TypeId} {pos:String} {after:Array Edge} {gu:Option (Nat×Bool)} {w:World}
  (hf: ∀args w,(callFunc f args).run P w= .ok (.enter f args) w) (hρ:ρ x= .func (.func f) bs.toArray cs.toArray) (hx:xs.map ρ=us):
  (execOp ρ ⟨d,.call ⟨.value x,xs.toArray,ats⟩,ty,pos,after,gu⟩).run P w= .ok (.enter f (bs++(us++cs)).toArray) w:=by
 simp[execOp,resolve,hρ,Deferred.ofValue,invoke,hf,hx,List.map_toArray]
theorem funK_ok {v:AV} {K:FuncId->List AV->List AV->Prop} (h:funK v K): ∃f bs cs,K f bs cs/\ ∀(S:Nat->Prop) (β:Nat->Wt) (w:World) (u:Value),rel S β w v u-> ∃bus cus:List Value,u= .func (.func f) bus.toArray cus.toArray/\rels S β w bs bus/\rels S β w cs cus:=by
 cases v with
 |clo f cs=>
  unfold funK at h
  simp only at h
  split at h
  ·rename_i hb
   refine⟨_,_,_,h,fun S β w u ⟨us,h1,h2⟩=>⟨[],us,?_,rfl,h2⟩⟩
   rw[(cloF_eq hb).1,(cloF_eq hb).2] at h1
   exact h1
  ·exact⟨_,_,_,h,fun S β w u ⟨us,h1,h2⟩=>⟨_,_,h1,rels_take h2,rels_drop h2⟩⟩
 |_=>cases h
theorem toA {α:Type} {xs:Array α}:xs.toList.toArray=xs:=Array.toArray_toList
theorem add1_ok {op:Op} {dst:Option Nat} {K:AV->Os->Prop} (hT:TTok P T) (ht:TbOk tb) (hgi:GI ops tb s) (h:add1 P T ops tb s o c d op K): ∃r no,K r no/\Add P tb s o c dst op r no:=by
 unfold add1 at h
 split at h
 case h_1=>obtain⟨v,h,hx⟩:=get_ok h;exact⟨v,[],force_ok h,(move_ok hx).add⟩
 case h_2=>obtain⟨v,h,hx⟩:=get_ok h;exact⟨v,[],force_ok h,(assign_ok hx).add⟩
 case h_3=>
  obtain⟨u,h,hx⟩:=get_ok h
  obtain⟨v,h,hy⟩:=get_ok h
  split at h
  ·obtain⟨ti,h,hti⟩:=withT_ok hT h
   obtain⟨r,h,hv⟩:=nilA_ok (o:=o) hti hx hy h
   exact⟨r,[],h,hv.add⟩
  ·split at h
   ·rename_i hni
    obtain⟨ti,h,hti⟩:=withT_ok hT h
    split at h
    ·rename_i hi
     obtain⟨r,h,hv⟩:=nilI_ok (o:=o) hti hi hx h (isNilI_ok hni)
     exact⟨r,[],h,hv.add⟩
    ·cases h
   ·obtain⟨r,h,hv⟩:=binA_ok (o:=o) hT hx hy h
    exact⟨r,[],h,hv.add⟩
 case h_4=>obtain⟨v,h,hx⟩:=get_ok h;obtain⟨r,h,hv⟩:=unA_ok (o:=o) hx h;exact⟨r,[],h,hv.add⟩
 case h_5=>obtain⟨r,h,hv⟩:=pickA_ok (o:=o) ht hgi h;exact⟨r,[],h,hv.add⟩
 case h_6=>
  obtain⟨ti,h,hti⟩:=withT_ok hT h
  obtain⟨ti',h,hti'⟩:=withT_ok hT h
  obtain⟨v,h,hx⟩:=get_ok h
  split at h
  ·rename_i hst
   obtain⟨r,h,hv⟩:=cnvS_ok (o:=o) hT hti hti' hst hx h
   exact⟨r,[],h,hv.add⟩
  ·obtain⟨r,h,hv⟩:=cnvA_ok (o:=o) hti hti' hx h
   exact⟨r,[],h,hv.add⟩
 case h_7=>
  obtain⟨ti,h,hti⟩:=withT_ok hT h
  obtain⟨v,h,hx⟩:=get_ok h
  split at h
  ·obtain⟨r,h,hv⟩:=fldT_ok (o:=o) hti hx h;exact⟨r,[],h,hv.add⟩
  ·obtain⟨r,h,hv⟩:=fldA_ok (o:=o) hti hx h;exact⟨r,[],h,hv.add⟩
 case h_8=>
  obtain⟨ti,h,hti⟩:=withT_ok hT h
  obtain⟨u,h,hx⟩:=get_ok h
  obtain⟨v,h,hy⟩:=get_ok h
  split at h
  ·obtain⟨r,h,hv⟩:=idxT_ok hti hx hy h;exact⟨r,[],h,hv.add⟩
  ·obtain⟨r,h,hv⟩:=idxA_ok hti hx hy h;exact⟨r,[],h,hv.add⟩
 case h_9=>
  obtain⟨ti,h,hti⟩:=withT_ok hT h
  obtain⟨v,h,hx⟩:=get_ok h
  split at h
  ·obtain⟨r,h,hv⟩:=loadT_ok hti hx h;exact⟨r,[],h,hv.add⟩
  ·obtain⟨r,h,hv⟩:=loadA_ok hti hx h;exact⟨r,[],h,hv.add⟩
 case h_10=>obtain⟨v,h,hx⟩:=get_ok h;obtain⟨r,h,hv⟩:=extA_ok (o:=o) hx h;exact⟨r,[],h,hv.add⟩
 case h_11=>
  obtain⟨ti,h,hti⟩:=withT_ok hT h
  obtain⟨u,h,hx⟩:=get_ok h
  obtain⟨v,h,hy⟩:=get_ok h
  obtain⟨r,h,hv⟩:=chrA_ok (o:=o) hti hx hy h
  exact⟨r,[],h,hv.add⟩
 case h_12=>obtain⟨ti,h,hti⟩:=withT_ok hT h;obtain⟨r,h,hv⟩:=bldA_ok (o:=o) hti h;rw[toA] at hv;exact⟨r,[],h,hv.add⟩
 case h_13=>
  obtain⟨ti,h,hti⟩:=withT_ok hT h
  rcases h with h|h|h
  ·obtain⟨r,h,hv⟩:=litA_ok (o:=o) (dst:=dst) hti h;rw[toA] at hv;exact⟨r,[],h,hv⟩
  ·obtain⟨r,no,h,hv⟩:=litO_ok (o:=o) (dst:=dst) hti h;rw[toA] at hv;exact⟨r,no,h,hv⟩
  ·obtain⟨r,no,h,hv⟩:=litN_ok (o:=o) (dst:=dst) hti h;rw[toA] at hv;exact⟨r,no,h,hv⟩
 case h_14=>obtain⟨r,h,hv⟩:=funA_ok (P:=P) (o:=o) h;rw[toA,toA] at hv;exact⟨r,[],h,hv.add⟩
 case h_15=>
  obtain⟨v,h,hx⟩:=get_ok h
  have:=chkA_ok (P:=P) (o:=o) hx h
  exact⟨v,[],this.1,this.2.add⟩
 case h_16=>obtain⟨v,h,hx⟩:=get_ok h;exact boxA_ok hx h
 case h_17=>obtain⟨ti,h,hti⟩:=withT_ok hT h;exact allA_ok hti h
 case h_18=>
  obtain⟨ti,h,hti⟩:=withT_ok hT h
  split at h
  ·rename_i e n b hel
   obtain⟨te,h,hte⟩:=withT_ok hT h
   split at h
   ·cases h
   ·rename_i z zs hz
    obtain⟨u,h,hx⟩:=get_ok h
    obtain⟨v,h,hy⟩:=get_ok h
    split at h
    ·refine makT_ok hti (fun e' n' b' he'=>?_) (by rw[hz];simp) hx hy (by rw[hz];exact h)
     rw[hel] at he'
     cases he';exact hte
    ·refine makA_ok hti (fun e' n' b' he'=>?_) (by rw[hz];simp) hx hy (by rw[hz];exact h)
     rw[hel] at he'
     cases he';exact hte
  ·cases h
 case h_19=>
  split at h
  ·rename_i x t hxs hts
   obtain⟨ti,h,hti⟩:=withT_ok hT h
   obtain⟨v,h,hx⟩:=get_ok h
   have e1:=congrArg List.toArray hxs
   have e2:=congrArg List.toArray hts
   rw[toA] at e1 e2
   subst e1 e2
   split at h
   ·obtain⟨r,h,hv⟩:=lenT_ok (o:=o) hti hx h
    exact⟨r,[],h,hv.add⟩
   ·obtain⟨r,h,hv⟩:=lenA_ok (o:=o) hti hx h
    exact⟨r,[],h,hv.add⟩
  ·cases h
 case h_20=>
  split at h
  ·rename_i x y t t' hxs hts
   obtain⟨u,h,hx⟩:=get_ok h
   obtain⟨v,h,hy⟩:=get_ok h
   obtain⟨r,h,hv⟩:=minA_ok (o:=o) (t:=t) (t':=t') hx hy h
   have e1:=congrArg List.toArray hxs
   have e2:=congrArg List.toArray hts
   rw[toA] at e1 e2
   subst e1 e2
   exact⟨r,[],h,hv.add⟩
  ·cases h
 case h_21=>
  obtain⟨ti,h,hti⟩:=withT_ok hT h
  obtain⟨v,h,hx⟩:=get_ok h
  obtain⟨l,h,hl⟩:=getO_ok h
  obtain⟨m,h,hm⟩:=getO_ok h
  obtain⟨r,h,hv⟩:=slcA_ok (o:=o) hti hx hl hm h
  exact⟨r,[],h,hv.add⟩
 case h_22=>
  rename_i x xs ts
  obtain⟨v,h,hx⟩:=get_ok h
  obtain⟨f,bs,cs,h,hfun⟩:=funK_ok h
  obtain⟨vs,h,hvs⟩:=capK_ok h
  split at h
  ·rename_i hno
   simp only[Bool.and_eq_true] at hno
   obtain⟨r,no,hs,k⟩:=h
   refine⟨r,no,k,fun E tb' s' o' β a w he hs' ho hfr hg hc hc' ty pos after gu K' Q hK=>?_⟩
   obtain⟨henter,⟨hm,hm2⟩,hcall⟩:=hs hc
   have hv:=(hx.to he (hs' x (by simp[Op.operands,Call.operands]))).eval hg hc'
   have hargs:=hvs (E.good o' β) β w a fun x' v' hx' hv'=>(hv'.to he (hs' x' (by simp[Op.operands,Call.operands];exact .inr (by simpa using hx')))).eval hg hc'
   obtain⟨bus,cus,e1,e0,e2⟩:=hfun _ _ _ _ hv
   unfold Oper.wp
   rw[<-toA (xs:=xs),run_enter henter e1 rfl,Oper.upon_enter]
   refine(hcall (E.good o' β) w _ (rels_app (noOwns_rel hno.2.1 e0) (rels_app (noOwns_rel hno.1 hargs) (noOwns_rel hno.2.2 e2))) hg.vars).mono ?_
   rintro e w' ⟨q,β',rfl,hb,h1,h2,h3,h4,h5⟩
   obtain⟨β2,g1,g2⟩:=hg.called hfr hb h1 h2 h3 h4 h5 hm hm2
   exact hK q w' β2 g1 g2
  ·obtain⟨vs',h,hl⟩:=lendsK_ok h
   obtain⟨r,no,hs,hr,hfl,k⟩:=h
   refine⟨r,no,k,fun E tb' s' o' β a w he hs' ho hfr hg hc hc' ty pos after gu K' Q hK=>?_⟩
   obtain⟨henter,⟨hm,hm2⟩,hcall⟩:=hs hc
   have hv:=(hx.to he (hs' x (by simp[Op.operands,Call.operands]))).eval hg hc'
   have hargs:=hvs (E.good o' β) β w a fun x' v' hx' hv'=>(hv'.to he (hs' x' (by simp[Op.operands,Call.operands];exact .inr (by simpa using hx')))).eval hg hc'
   obtain⟨bus,cus,e1,e0,e2⟩:=hfun _ _ _ _ hv
   unfold Oper.wp
   rw[<-toA (xs:=xs),run_enter henter e1 rfl,Oper.upon_enter]
   refine(hcall (fun _=>True) w _ (hl E tb' s' o' β a w _ hc ho hg (rels_app e0 (rels_app hargs e2))) (hg.vars.comp ⟨Nat.le_refl _,fun _ _ _=>⟨trivial,rfl⟩⟩)).mono ?_
   rintro e w' ⟨q,β',rfl,hb,h1,h2,h3,h4,h5⟩
   obtain⟨β2,g1,g2⟩:=hg.called hfr hb (fun id ob hl=>flatO_rel (hfl id ob hl) (h1 id ob hl)) h2 h3 h4 (noFz_rel hr h5) hm hm2
   exact hK q w' β2 g1 g2
 case h_23=>
  obtain⟨ti,h,hti⟩:=withT_ok hT h
  split at h
  ·exact mkmS_ok hti h
  ·exact mkmA_ok hti h
 case h_24=>
  obtain⟨ti,h,hti⟩:=withT_ok hT h
  obtain⟨u,h,hx⟩:=get_ok h
  obtain⟨v,h,hy⟩:=get_ok h
  split at h
  ·obtain⟨r,h,hv⟩:=lokS_ok (o:=o) hti hx hy h
   exact⟨r,[],h,hv.add⟩
  ·obtain⟨r,h,hv⟩:=lokA_ok (o:=o) hti hx hy h
   exact⟨r,[],h,hv.add⟩
 case h_25=>
  rename_i t x
  obtain⟨v,h,hx⟩:=get_ok h
  obtain⟨hc,h⟩:=force_ok h
  exact⟨_,[],h,(Val.un hx (by simp[Op.operands]) fun S β w a _ h d ty pos after gu=>⟨_,by simp[execOp,run_makeInterface w t _ hc],_,rfl,h⟩:Val P tb s o c (.makeInterface t x) (.ifc t v)).add⟩
 case h_26=>
  split at h
  ·rename_i x y t t' hxs hts
   obtain⟨u,h,hx⟩:=get_ok h
   obtain⟨v,h,hy⟩:=get_ok h
   obtain⟨r,h,hv⟩:=maxA_ok (o:=o) (t:=t) (t':=t') hx hy h
   have e1:=congrArg List.toArray hxs
   have e2:=congrArg List.toArray hts
   rw[toA] at e1 e2
   subst e1 e2
   exact⟨r,[],h,hv.add⟩
  ·cases h
 case h_27=>
  obtain⟨ti,h,hti⟩:=withT_ok hT h
  obtain⟨v,h,hx⟩:=get_ok h
  obtain⟨r,h,hv⟩:=fvA_ok (o:=o) hti hx h
  exact⟨r,[],h,hv.add⟩
 all_goals cases h
end
def Reg (tb:Tb) (s:Sl):Prop:= ∀d c v,lk s d=some (c,v)->c=0\/lkS tb c=true
def gval (ops:Array Oper) (tb:Tb) (s:Sl):Option (Nat×Bool)->(Tb->Nat->Prop)->Prop
 |none,K=>K tb 0
 |some (j,w),K=>match ops[j]? with
  |some p=>match p.dst with
   |some t=>match lk s t with
    |some (p,.b b)=>match lkS tb (cn j w) with
     |true=>K tb (cn j w)
     |false=>match p with
      |0=>K ((cn j w,0,match w with
       |true=>b
       |false=>!b)::tb) (cn j w)
      |p=>K ((cn j w,p,(match w with
       |true=>b
       |false=>!b)&&tg tb p)::tb) (cn j w)
    |_=>False
   |none=>False
  |none=>False
theorem lkS_iff {tb:Tb} {c:Nat}:lkS tb c=true↔ ∃p q,lk tb c=some (p,q):=by
 unfold lkS
 split
 ·rename_i x h;exact⟨fun _=>⟨x.1,x.2,h⟩,fun _=>rfl⟩
 ·rename_i h;exact⟨(fun h=>by cases h),(fun⟨p,q,h'⟩=>by rw[h] at h';cases h')⟩
theorem cn_pos (j:Nat) (w:Bool):cn j w≠0:=by unfold cn;cases w<;>simp
theorem cn_inj {j j':Nat} {w w':Bool} (h:cn j w=cn j' w'):j=j'/\w=w':=by
 unfold cn at h
 cases w<;>cases w'<;>simp at h⊢ <;>omega
structure Cond (ops:Array Oper) (tb:Tb) (s:Sl) (gu:Option (Nat×Bool)) (c:Nat):Prop where
 read:(gu=none/\c=0)\/ ∃j w,gu=some (j,w)/\c=cn j w/\lkS tb c=true
theorem gval_ok {ops:Array Oper} {tb:Tb} {s:Sl} {gu:Option (Nat×Bool)} {K:Tb->Nat->Prop} (ht:TbOk tb) (hgi:GI ops tb s) (hr:Reg tb s) (h:gval ops tb s gu K):
  ∃tb' c,K tb' c/\Ext tb tb'/\TbOk tb'/\GI ops tb' s/\Reg tb' s/\Cond ops tb' s gu c/\(c=0\/lkS tb' c=true):=by
 cases gu with
 |none=>exact⟨tb,0,h,Ext.refl _,ht,hgi,hr,⟨.inl ⟨rfl,rfl⟩⟩,.inl rfl⟩
 |some jw=>
  obtain⟨j,w⟩:=jw
  simp only[gval] at h
  split at h
  ·rename_i pj hpj
   split at h
   ·rename_i t hd
    split at h
    ·rename_i p b hl
     split at h
     ·rename_i hS
      exact⟨tb,cn j w,h,Ext.refl _,ht,hgi,hr,⟨.inr ⟨j,w,rfl,rfl,hS⟩⟩,.inr hS⟩
     ·rename_i hS
      have hnone:lk tb (cn j w)=none:=by
       cases hq:lk tb (cn j w) with
       |none=>rfl
       |some x=>rw[lkS_iff.2 ⟨x.1,x.2,hq⟩] at hS;cases hS
      have key: ∃q,K ((cn j w,p,q)::tb) (cn j w)/\q=((b==w)&&tg tb p):=by
       split at h
       ·refine⟨_,h,?_⟩
        rw[tg_zero ht]
        cases b<;>cases w<;>rfl
       ·refine⟨_,h,?_⟩
        cases b<;>cases w<;>rfl
      obtain⟨q,h,hq⟩:=key
      have hne:p≠cn j w:=fun e=>by
       rcases hr _ _ _ hl with h0|h0
       ·exact cn_pos j w (e▸h0)
       ·rw[e,hS] at h0;cases h0
      have hext:Ext tb ((cn j w,p,q)::tb):=fun c x hx=>by
       rw[lk_cons]
       split
       ·rename_i e;rw[<-e,hnone] at hx;cases hx
       ·exact hx
      have htg: ∀c,c≠cn j w->tg ((cn j w,p,q)::tb) c=tg tb c:=fun c hc=>by
       unfold tg;rw[lk_cons,if_neg fun e=>hc e.symm]
      have hself:lk ((cn j w,p,q)::tb) (cn j w)=some (p,q):=by rw[lk_cons,if_pos rfl]
      refine⟨_,_,h,hext,⟨fun c p' x hx hxt=>?_,?_,fun c p' x hx=>?_⟩,fun j' w' p' q' hx=>?_,fun d c v hd'=>?_,⟨.inr ⟨j,w,rfl,rfl,lkS_iff.2 ⟨p,q,hself⟩⟩⟩,.inr (lkS_iff.2 ⟨p,q,hself⟩)⟩
      ·rw[lk_cons] at hx
       split at hx
       ·cases hx
        rw[htg _ hne]
        rw[hq] at hxt
        simp only[Bool.and_eq_true] at hxt
        exact hxt.2
       ·have hp':p'≠cn j w\/p'=cn j w:=by by_cases e:p'=cn j w;exact .inr e;exact .inl e
        rcases hp' with e|e
        ·rw[htg _ e];exact ht.up c p' x hx hxt
        ·rw[e];unfold tg;rw[hself]
         have:=ht.up c p' x hx hxt
         exfalso
         rcases ht.par c p' x hx with h0|⟨q1,y1,h0⟩
         ·exact cn_pos j w (by rw[<-e,h0])
         ·rw[e,hnone] at h0;cases h0
      ·rw[lk_cons,if_neg (cn_pos j w)];exact ht.old
      ·rw[lk_cons] at hx
       split at hx
       ·cases hx
        rcases hr _ _ _ hl with h0|h0
        ·exact .inl h0
        ·obtain⟨p',q',h1⟩:=lkS_iff.1 h0
         exact .inr ⟨p',q',hext _ _ h1⟩
       ·rcases ht.par c p' x hx with h0|⟨q1,y1,h0⟩
        ·exact .inl h0
        ·exact .inr ⟨q1,y1,hext _ _ h0⟩
      ·rw[lk_cons] at hx
       split at hx
       ·rename_i e
        cases hx
        obtain⟨rfl,rfl⟩:=cn_inj e
        exact⟨t,b,by rw[hpj];exact hd,hl,by rw[htg _ hne];exact hq⟩
       ·obtain⟨t',b',e1,e2,e3⟩:=hgi j' w' p' q' hx
        refine⟨t',b',e1,e2,?_⟩
        have:p'≠cn j w:=fun e=>by
         rcases hr _ _ _ e2 with h0|h0
         ·exact cn_pos j w (e▸h0)
         ·rw[e,hS] at h0;cases h0
        rw[htg _ this];exact e3
      ·rcases hr d c v hd' with h0|h0
       ·exact .inl h0
       ·obtain⟨p',q',h1⟩:=lkS_iff.1 h0
        exact .inr (lkS_iff.2 ⟨p',q',hext _ _ h1⟩)
    ·cases h
   ·cases h
  ·cases h
mutual
def frz (c e N:Nat) (g:Nat->List AV) (A:Prop):AV->(AV->Prop->Prop)->Prop
 | .orow id e' off n,K=>match Nat.beq id c with
  |true=>match Nat.beq e' e with
   |true=>K (.row none e' n (offF off g)) (off+n<=N/\A)
   |false=>False
  |false=>K (.orow id e' off n) A
 | .agg cs,K=>frzs c e N g A cs fun cs A=>K (.agg cs) A
 | .tup cs,K=>frzs c e N g A cs fun cs A=>K (.tup cs) A
 | .clo f cs,K=>frzs c e N g A cs fun cs A=>K (.clo f cs) A
 | .ifc t x,K=>frz c e N g A x fun x A=>K (.ifc t x) A
 |v,K=>K v A
def frzs (c e N:Nat) (g:Nat->List AV) (A:Prop):List AV->(List AV->Prop->Prop)->Prop
 |[],K=>K [] A
 |x::xs,K=>frz c e N g A x fun x A=>frzs c e N g A xs fun xs A=>K (x::xs) A
end
def Cnv (c e N:Nat) (g:Nat->List AV) (R R':(Nat->Prop)->(Nat->Wt)->World->Prop):Prop:=
 ∀(S S':Nat->Prop) (β:Nat->Wt) (w:World),Comp S w S' w->(∀off n u,off+n<=N->rel S β w (.orow c e off n) u->rel S' β w (.row none e n (offF off g)) u)->R S β w->R' S' β w
mutual
theorem frz_ok {c e N:Nat} {g:Nat->List AV}: ∀ {A:Prop} {v:AV} {K:AV->Prop->Prop},frz c e N g A v K-> ∃v' A',K v' A'/\(A'->A)/\ ∀u,A'->Cnv c e N g (fun S β w=>rel S β w v u) (fun S β w=>rel S β w v' u)
 |A,.orow id e' off n,K,h=>by
  simp only[frz] at h
  split at h
  ·rename_i hb
   obtain rfl:=Nat.eq_of_beq_eq_true hb
   split at h
   ·rename_i hb
    obtain rfl:=Nat.eq_of_beq_eq_true hb
    exact⟨_,_,h,fun h=>h.2,fun u ha S S' β w hc H hr=>H _ _ _ ha.1 hr⟩
   ·cases h
  ·exact⟨_,_,h,fun z=>z,fun u ha S S' β w hc H hr=>rel_mono hc _ _ hr⟩
 |A,.agg cs,K,h=>by
  simp only[frz] at h
  obtain⟨vs,A',h1,h3,h2⟩:=frzs_ok (vs:=cs) h
  refine⟨_,_,h1,h3,fun u ha S S' β w hc H hr=>?_⟩
  obtain⟨us,e1,e2⟩:=hr
  exact⟨us,e1,h2 us ha S S' β w hc H e2⟩
 |A,.tup cs,K,h=>by
  simp only[frz] at h
  obtain⟨vs,A',h1,h3,h2⟩:=frzs_ok (vs:=cs) h
  refine⟨_,_,h1,h3,fun u ha S S' β w hc H hr=>?_⟩
  obtain⟨us,e1,e2⟩:=hr
  exact⟨us,e1,h2 us ha S S' β w hc H e2⟩
 |A,.clo f cs,K,h=>by
  simp only[frz] at h
  obtain⟨vs,A',h1,h3,h2⟩:=frzs_ok (vs:=cs) h
  refine⟨_,_,h1,h3,fun u ha S S' β w hc H hr=>?_⟩
  obtain⟨us,e1,e2⟩:=hr
  exact⟨us,e1,h2 us ha S S' β w hc H e2⟩
 |A,.ifc t x,K,h=>by
  simp only[frz] at h
  obtain⟨v,A',h1,h3,h2⟩:=frz_ok (v:=x) h
  refine⟨_,_,h1,h3,fun u ha S S' β w hc H hr=>?_⟩
  obtain⟨u',e1,e2⟩:=hr
  exact⟨u',e1,h2 u' ha S S' β w hc H e2⟩
 |A,.i k z,K,h=>⟨_,_,h,fun z=>z,fun u ha S S' β w hc H hr=>rel_mono hc _ _ hr⟩
 |A,.b t,K,h=>⟨_,_,h,fun z=>z,fun u ha S S' β w hc H hr=>rel_mono hc _ _ hr⟩
 |A,.s t,K,h=>⟨_,_,h,fun z=>z,fun u ha S S' β w hc H hr=>rel_mono hc _ _ hr⟩
 |A,.v t,K,h=>⟨_,_,h,fun z=>z,fun u ha S S' β w hc H hr=>rel_mono hc _ _ hr⟩
 |A,.nil,K,h=>⟨_,_,h,fun z=>z,fun u ha S S' β w hc H hr=>rel_mono hc _ _ hr⟩
 |A,.row nz e n g,K,h=>⟨_,_,h,fun z=>z,fun u ha S S' β w hc H hr=>rel_mono hc _ _ hr⟩
 |A,.cp cs,K,h=>⟨_,_,h,fun z=>z,fun u ha S S' β w hc H hr=>rel_mono hc _ _ hr⟩
 |A,.op id off,K,h=>⟨_,_,h,fun z=>z,fun u ha S S' β w hc H hr=>rel_mono hc _ _ hr⟩
 |A,.rp id e i j,K,h=>⟨_,_,h,fun z=>z,fun u ha S S' β w hc H hr=>rel_mono hc _ _ hr⟩
 |A,.omap id,K,h=>⟨_,_,h,fun z=>z,fun u ha S S' β w hc H hr=>rel_mono hc _ _ hr⟩
 |A,.any,K,h=>⟨_,_,h,fun z=>z,fun u ha S S' β w hc H hr=>rel_mono hc _ _ hr⟩
 |A,.pth _ _ _ _ _,K,h=>⟨_,_,h,fun z=>z,fun u ha S S' β w hc H hr=>rel_mono hc _ _ hr⟩
 |A,.pp _ _ _ _ _,K,h=>⟨_,_,h,fun z=>z,fun u ha S S' β w hc H hr=>rel_mono hc _ _ hr⟩
theorem frzs_ok {c e N:Nat} {g:Nat->List AV}: ∀ {A:Prop} {vs:List AV} {K:List AV->Prop->Prop},frzs c e N g A vs K-> ∃vs' A',K vs' A'/\(A'->A)/\ ∀us,A'->Cnv c e N g (fun S β w=>rels S β w vs us) (fun S β w=>rels S β w vs' us)
 |A,[],K,h=>⟨_,_,h,id,fun us ha S S' β w hc H hr=>hr⟩
 |A,x::xs,K,h=>by
  simp only[frzs] at h
  obtain⟨v,A1,h,h3,h1⟩:=frz_ok (v:=x) h
  obtain⟨vs,A2,h,h4,h2⟩:=frzs_ok (vs:=xs) h
  refine⟨_,_,h,fun h=>h3 (h4 h),fun us ha S S' β w hc H hr=>?_⟩
  obtain⟨u,us',e1,e2,e3⟩:=hr
  exact⟨u,us',e1,h1 u (h4 ha) S S' β w hc H e2,h2 us' ha S S' β w hc H e3⟩
end
def frzS (c e N:Nat) (g:Nat->List AV) (A:Prop):Sl->(Sl->Prop->Prop)->Prop
 |[],K=>K [] A
 |(d,q,v)::s,K=>frz c e N g A v fun v A=>frzS c e N g A s fun s A=>K ((d,q,v)::s) A
theorem frzS_ok {c e N:Nat} {g:Nat->List AV}: ∀ {A:Prop} {s:Sl} {K:Sl->Prop->Prop},frzS c e N g A s K-> ∃s' A',K s' A'/\(A'->A)/\ ∀d q v',lk s' d=some (q,v')-> ∃v,lk s d=some (q,v)/\ ∀u,A'->Cnv c e N g (fun S β w=>rel S β w v u) (fun S β w=>rel S β w v' u)
 |A,[],K,h=>⟨_,_,h,id,fun d q v hl=>by simp[lk] at hl⟩
 |A,(d,q,v)::s,K,h=>by
  simp only[frzS] at h
  obtain⟨v',A1,h,h3,h1⟩:=frz_ok h
  obtain⟨s',A2,h,h4,h2⟩:=frzS_ok h
  refine⟨_,_,h,fun h=>h3 (h4 h),fun d' q' v2 hl=>?_⟩
  rw[lk_cons] at hl⊢
  split at hl
  ·rename_i hd;rw[if_pos hd];cases hl;exact⟨_,rfl,fun u ha=>h1 u (h4 ha)⟩
  ·rename_i hd;rw[if_neg hd];exact h2 _ _ _ hl
def frzO (c e N:Nat) (g:Nat->List AV) (A:Prop):Os->(Os->Prop->Prop)->Prop
 |[],K=>K [] A
 |(i,.box p q cs)::o,K=>frzs c e N g A cs fun cs A=>frzO c e N g A o fun o A=>K ((i,.box p q cs)::o) A
 |(i,.row q a b f)::o,K=>frzO c e N g A o fun o A=>K ((i,.row q a b f)::o) A
 |(i,.tree a b f)::o,K=>frzO c e N g A o fun o A=>K ((i,.tree a b f)::o) A
 |(i,.mp a b f fF)::o,K=>frzO c e N g A o fun o A=>K ((i,.mp a b f fF)::o) A
theorem frzO_ok {c e N:Nat} {g:Nat->List AV}: ∀ {A:Prop} {o:Os} {K:Os->Prop->Prop},frzO c e N g A o K-> ∃o' A',K o' A'/\(A'->A)/\o'.map (·.1)=o.map (·.1)/\ ∀i ob',lk o' i=some ob'-> ∃ob,lk o i=some ob/\ ∀W,A'->Cnv c e N g (fun S β w=>orel S β w W ob) (fun S β w=>orel S β w W ob')
 |A,[],K,h=>⟨_,_,h,id,rfl,fun i ob hl=>by simp[lk] at hl⟩
 |A,(i,.box p q cs)::o,K,h=>by
  simp only[frzO] at h
  obtain⟨cs',A1,h,h3,h1⟩:=frzs_ok h
  obtain⟨o',A2,h,h4,hk,h2⟩:=frzO_ok h
  refine⟨_,_,h,fun h=>h3 (h4 h),by simp only[List.map_cons,hk],fun j ob hl=>?_⟩
  rw[lk_cons] at hl⊢
  split at hl
  ·rename_i hd;rw[if_pos hd];cases hl
   refine⟨_,rfl,fun W ha S S' β w hc H hr=>?_⟩
   obtain⟨b,us,ty,r1,r2,r3,r4,r5⟩:=hr
   exact⟨b,us,ty,r1,r2,r3,h1 us (h4 ha) S S' β w hc H r4,r5⟩
  ·rename_i hd;rw[if_neg hd];exact h2 _ _ hl
 |A,(i,.row q a b f)::o,K,h=>by
  simp only[frzO] at h
  obtain⟨o',A2,h,h4,hk,h2⟩:=frzO_ok h
  refine⟨_,_,h,h4,by simp only[List.map_cons,hk],fun j ob hl=>?_⟩
  rw[lk_cons] at hl⊢
  split at hl
  ·rename_i hd;rw[if_pos hd];cases hl
   exact⟨_,rfl,fun W ha S S' β w hc H hr=>orel_mono hc (fun _ _=>rfl) hr⟩
  ·rename_i hd;rw[if_neg hd];exact h2 _ _ hl
 |A,(i,.tree a b f)::o,K,h=>by
  simp only[frzO] at h
  obtain⟨o',A2,h,h4,hk,h2⟩:=frzO_ok h
  refine⟨_,_,h,h4,by simp only[List.map_cons,hk],fun j ob hl=>?_⟩
  rw[lk_cons] at hl⊢
  split at hl
  ·rename_i hd;rw[if_pos hd];cases hl
   exact⟨_,rfl,fun W ha S S' β w hc H hr=>orel_mono hc (fun _ _=>rfl) hr⟩
  ·rename_i hd;rw[if_neg hd];exact h2 _ _ hl
 |A,(i,.mp a b f fF)::o,K,h=>by
  simp only[frzO] at h
  obtain⟨o',A2,h,h4,hk,h2⟩:=frzO_ok h
  refine⟨_,_,h,h4,by simp only[List.map_cons,hk],fun j ob hl=>?_⟩
  rw[lk_cons] at hl⊢
  split at hl
  ·rename_i hd;rw[if_pos hd];cases hl
   exact⟨_,rfl,fun W ha S S' β w hc H hr=>orel_mono hc (fun _ _=>rfl) hr⟩
  ·rename_i hd;rw[if_neg hd];exact h2 _ _ hl
theorem feet_keys {β:Nat->Wt}: ∀ {o o':Os},o'.map (·.1)=o.map (·.1)->feet o' β=feet o β
 |[],[],_=>rfl
 |(i,ob)::o,(j,ob')::o',h=>by
  simp only[List.map_cons,List.cons.injEq] at h
  rw[feet_cons,feet_cons,feet_keys h.2,h.1]
 |[],_::_,h=>by cases h
 |_::_,[],h=>by cases h
mutual
def idsA:AV->List Nat
 | .orow id _ _ _=>[id]
 | .agg cs=>idsAs cs
 | .tup cs=>idsAs cs
 | .clo _ cs=>idsAs cs
 | .ifc _ x=>idsA x
 |_=>[]
def idsAs:List AV->List Nat
 |[]=>[]
 |x::xs=>idsA x++idsAs xs
end
def opIds (s:Sl):List Operand->List Nat
 |[]=>[]
 | .tmp t::l=>match lk s t with
  |some (_,v)=>idsA v++opIds s l
  |none=>opIds s l
 |_::l=>opIds s l
def preIds (p:Oper) (s:Sl) (o:Os):List Nat:=match p.op with
 | .buildSlice _ _ ps=>opIds s (ps.toList.map (·.2))
 | .store _ (.tmp t) y=>match lk s t with
  |some (_,.rp id _ _ _)=>match isTree (lk o id) with
   |true=>[]
   |false=>opIds s [y]
  |_=>[]
 |_=>[]
def frzAll:List Nat->Sl->Os->(Sl->Os->Prop)->Prop
 |[],s,o,K=>K s o
 |c::l,s,o,K=>match lk o c with
  |some (.row _ e N g)=>frzS c e N g True s fun s A=>frzO c e N g A (rem o c) fun o A=>A/\frzAll l s o K
  |_=>frzAll l s o K
def forceN:List Nat->(List Nat->Prop)->Prop
 |[],K=>K []
 |x::l,K=>forceN l fun l=>K (x::l)
theorem forceN_ok: ∀ {l:List Nat} {K:List Nat->Prop},forceN l K->K l
 |[],K,h=>h
 |x::l,K,h=>forceN_ok (l:=l) h
inductive PreW (A B:Prop):Prop
 |frz (h:A)
 |own (h:B)
def preW (p:Oper) (l:List Nat) (s:Sl) (o:Os) (K:Sl->Os->Prop):Prop:=match l with
 |[]=>K s o
 |_::_=>match p.op with
  | .buildSlice _ 1 _=>PreW (frzAll l s o K) (K s o)
  |_=>frzAll l s o K
def preK (p:Oper) (tb:Tb) (s:Sl) (o:Os) (K:Sl->Os->Prop):Prop:=match tb with
 |[]=>takK p s o fun s o=>forceN (preIds p s o) fun l=>preW p l s o K
 |_=>K s o
theorem frzAll_ok: ∀ {l:List Nat} {s:Sl} {o:Os} {K:Sl->Os->Prop},frzAll l s o K-> ∃s' o',K s' o'/\(∀d q v',lk s' d=some (q,v')-> ∃v,lk s d=some (q,v))/\ ∀(E:Env) (β:Nat->Wt) (a:Act) (w:World),Gam E [] s o β a w->Gam E [] s' o' β a w
 |[],s,o,K,h=>⟨s,o,h,fun d q v hl=>⟨v,hl⟩,fun E β a w hg=>hg⟩
 |c::l,s,o,K,h=>by
  simp only[frzAll] at h
  split at h
  ·rename_i e N g hl
   obtain⟨s1,A1,h,_,h1⟩:=frzS_ok h
   obtain⟨o1,A2,h,hA,hk,h2⟩:=frzO_ok h
   obtain⟨ha,h⟩:=h
   obtain⟨s2,o2,h,h3,h4⟩:=frzAll_ok h
   refine⟨s2,o2,h,fun d q v' hl=>?_,fun E β a w hg=>h4 E β a w ?_⟩
   ·obtain⟨v,hv⟩:=h3 d q v' hl
    obtain⟨v2,hv2,_⟩:=h1 d q v hv
    exact⟨v2,hv2⟩
   have hf:feet o1 β=feet (rem o c) β:=feet_keys hk
   have hgood:E.good o1 β=E.good (rem o c) β:=by unfold Env.good;rw[hf]
   have hc:=hg.delC (c:=c)
   have H: ∀off n u,off+n<=N->rel (E.good o β) β w (.orow c e off n) u->rel (E.good (rem o c) β) β w (.row none e n (offF off g)) u:=fun off n u hn hr=>by
    unfold rel at hr
    obtain⟨_,rfl⟩:=hr
    have:=hg.freeze hl hn
    rwa [show(fun i=>g (off+i))=offF off g from funext fun i=>(offF_eq off g i).symm] at this
   have hd:=hg.del (c:=c)
   refine⟨hd.size,hd.defers,hd.tbok,fun d q v' hl'=>?_,fun i ob' hl'=>?_,hd.below,by rw[hf];exact hd.new,by rw[hf];exact hd.nodup,by rw[hk];exact hd.keys⟩
   ·obtain⟨v,hv,hcv⟩:=h1 d q v' hl'
    obtain⟨u,e1,e2⟩:=hg.slots d q v hv
    exact⟨u,e1,fun ht=>by rw[hgood];exact hcv u (hA ha) _ _ β w hc H (e2 ht)⟩
   ·obtain⟨ob,hob,hcv⟩:=h2 i ob' hl'
    have hi:i≠c:=fun e=>by subst e;rw[lk_none (rem_keys hg.keys)] at hob;cases hob
    rw[lk_rem hi] at hob
    rw[hgood]
    exact hcv _ ha _ _ β w hc H (hg.objs i ob hob)
  ·exact frzAll_ok h
theorem preW_ok {p:Oper} {l:List Nat} {s:Sl} {o:Os} {K:Sl->Os->Prop} (h:preW p l s o K): ∃s' o',K s' o'/\(∀d q v',lk s' d=some (q,v')-> ∃v,lk s d=some (q,v))/\ ∀(E:Env) (β:Nat->Wt) (a:Act) (w:World),Gam E [] s o β a w->Gam E [] s' o' β a w:=by
 unfold preW at h
 split at h
 ·exact⟨s,o,h,fun d q v hl=>⟨v,hl⟩,fun E β a w hg=>hg⟩
 ·split at h
  ·rcases h with h|h
   ·exact frzAll_ok h
   ·exact⟨s,o,h,fun d q v hl=>⟨v,hl⟩,fun E β a w hg=>hg⟩
  ·exact frzAll_ok h
theorem preK_ok {p:Oper} {tb:Tb} {s:Sl} {o:Os} {K:Sl->Os->Prop} (h:preK p tb s o K): ∃s' o',K s' o'/\(tb≠[]->s'=s)/\(∀d q v',lk s' d=some (q,v')-> ∃v,lk s d=some (q,v))/\ ∀(E:Env) (β:Nat->Wt) (a:Act) (w:World),Gam E tb s o β a w-> ∃β',Gam E tb s' o' β' a w:=by
 unfold preK at h
 split at h
 ·obtain⟨s1,o1,hk,g1,g2⟩:=takK_ok h
  obtain⟨s',o',h,h1,h2⟩:=preW_ok (forceN_ok hk)
  refine⟨s',o',h,fun h=>absurd rfl h,fun d q v' hl=>?_,fun E β a w hg=>?_⟩
  ·obtain⟨v,hv⟩:=h1 d q v' hl
   exact g1 d q v hv
  ·obtain⟨β1,hg1⟩:=g2 E [] β a w hg
   exact⟨β1,h2 E β1 a w hg1⟩
 ·exact⟨s,o,h,fun _=>rfl,fun d q v hl=>⟨v,hl⟩,fun E β a w hg=>⟨β,hg⟩⟩
structure OB (S:Nat->Prop) (β:Nat->Wt) (w:World) (o:Os):Prop where
 objs: ∀id ob,lk o id=some ob->orel S β w (β id) ob
 nodup:(feet o β).Nodup
 keys:(o.map (·.1)).Nodup
 lt: ∀k∈feet o β,k<w.heap.size
def isBox:Obj->Bool
 | .box _ _ _=>true
 |_=>false
inductive Fx where
 |b (t:Bool)
 |l (full top:List Nat)
instance:Coe Bool Fx:=⟨Fx.b⟩
def memX (d:Nat):List Nat->Bool
 |[]=>false
 |x::l=>Nat.beq x d||memX d l
def kpA:Fx->Bool
 | .b t=>t
 | .l _ _=>false
def kpF:Fx->Nat->Bool
 | .b t,_=>t
 | .l f _,d=>memX d f
def kpT:Fx->Nat->Bool
 | .b _,_=>false
 | .l _ t,d=>memX d t
theorem kpA_F {fx:Fx} {d:Nat} (h:kpA fx=true):kpF fx d=true:=by
 cases fx with
 |b t=>exact h
 |l f t=>cases h
def Kept (fx:Fx) (os no:Os) (β β':Nat->Wt):Prop:=
 (∀id ob,lk os id=some ob->(kpF fx id||isBox ob)=true->(lk no id).isSome=true->β' id=β id)/\ ∀id ob,lk os id=some ob->kpT fx id=true->(lk no id).isSome=true->(β' id).a=(β id).a/\(β' id).ok=(β id).ok
def ASpecF (fx:Fx) (P:Program) (f:FuncId) (args:List AV) (os:Os) (r:AV) (no:Os):Prop:=
 (∀args w,(callFunc f args).run P w= .ok (.enter f args) w)/\Clo r no/\ ∀(S:Nat->Prop) (β:Nat->Wt) (w:World) (us:List Value),OB S β w os->(∀k,S k->k∉feet os β)->rels S β w args us->Rob S w Vr->
  Calls P f us.toArray w fun e w'=>∃v β',e= .returned v/\BelowX (feet os β) w w'/\
  (∀id ob,lk no id=some ob->orel (fun k=>(S k\/w.heap.size<=k\/k∈feet os β)/\k∉feet no β') β' w' (β' id) ob)/\(∀k∈feet no β',(w.heap.size<=k\/k∈feet os β)/\k<w'.heap.size)/\(feet no β').Nodup/\(no.map (·.1)).Nodup/\
  Kept fx os no β β'/\rel (fun k=>(S k\/w.heap.size<=k\/k∈feet os β)/\k∉feet no β') β' w' r v
abbrev ASpecM:=ASpecF (Fx.b false)
def ASpecP (fx:Fx) (P:Program) (f:FuncId) (args:List AV) (os:Os) (r:AV) (no:Os):Prop:=
 (∀args w,(callFunc f args).run P w= .ok (.enter f args) w)/\Clo r no/\ ∀(S:Nat->Prop) (β:Nat->Wt) (w:World) (us:List Value),OB S β w os->(∀k,S k->k∉feet os β)->rels S β w args us->Rob S w Vr->
  Calls P f us.toArray w fun e w'=>∃v β',e= .panicked [{ v,recovered:=false}]/\BelowX (feet os β) w w'/\
  (∀id ob,lk no id=some ob->orel (fun k=>(S k\/w.heap.size<=k\/k∈feet os β)/\k∉feet no β') β' w' (β' id) ob)/\(∀k∈feet no β',(w.heap.size<=k\/k∈feet os β)/\k<w'.heap.size)/\(feet no β').Nodup/\(no.map (·.1)).Nodup/\
  Kept fx os no β β'/\rel (fun k=>(S k\/w.heap.size<=k\/k∈feet os β)/\k∉feet no β') β' w' r v
structure ASpecO (fx:Fx) (P:Program) (f:FuncId) (args:List AV) (os:Os) (t:Prop) (r:AV) (no:Os) (v:AV) (no':Os):Prop where
 ret:t->ASpecF fx P f args os r no
 pan: ¬t->ASpecP fx P f args os v no'
def noZ:AV->Sl->Os->Prop:=fun _ _ _=>False
def ZOk (Z:AV->Sl->Os->Prop) (E:Env) (Q:Exit->Act->World->Prop):Prop:= ∀v s o,Z v s o-> ∀tb β a w u,Gam E tb s o β a w->rel (E.good o β) β w v u->Q (.panic [{ v:=u,recovered:=false}]) a w
theorem noZ_ok {E:Env} {Q:Exit->Act->World->Prop}:ZOk noZ E Q:=fun _ _ _ h=>h.elim
def dropO (os:Os):Os->Os
 |[]=>[]
 |(i,ob)::o=>match lk os i with
  |some _=>dropO os o
  |none=>(i,ob)::dropO os o
def subO (o:Os):Os->Prop
 |[]=>True
 |(i,ob)::os=>lk o i=some ob/\subO o os
def chkM (s:Sl) (o1 no:Os):Os->Bool
 |[]=>true
 |(i,.box _ _ _)::os=>(match lk no i with
  |some _=>true
  |none=>fresh i s o1)&&chkM s o1 no os
 |(i,.row _ _ _ _)::os=>fresh i s o1&&chkM s o1 no os
 |(i,.tree _ _ _)::os=>fresh i s o1&&chkM s o1 no os
 |(i,.mp _ _ _ _)::os=>fresh i s o1&&chkM s o1 no os
def chkB (s:Sl) (o1 os:Os):Os->Bool
 |[]=>true
 |(i,_)::no=>(match lk os i with
  |some _=>true
  |none=>fresh i s o1)&&chkB s o1 os no
def keysOf:Os->List Nat
 |[]=>[]
 |(i,_)::o=>i::keysOf o
theorem keysOf_eq: ∀o:Os,keysOf o=o.map (·.1)
 |[]=>rfl
 |(i,ob)::o=>by rw[keysOf,keysOf_eq o];rfl
def subP (o:Os):Os->Prop
 |[]=>True
 |(i,.box none q cs)::os=>(∃p,lk o i=some (.box p q cs))/\subP o os
 |(_,.box (some _) _ _)::_=>False
 |(i,.row q e n g)::os=>lk o i=some (.row q e n g)/\subP o os
 |(i,.tree e n g)::os=>lk o i=some (.tree e n g)/\subP o os
 |(i,.mp e 0 g fF)::os=>(∃k,lk o i=some (.mp e k g fF))/\subP o os
 |(_,.mp _ (_+1) _ _)::_=>False
def rePin (fx:Fx) (o os:Os):Os->Os
 |[]=>[]
 |(i,.box p q cs)::no=>match lk os i,lk o i with
  |some (.box _ _ _),some (.box p' _ _)=>(i,.box p' q cs)::rePin fx o os no
  |_,_=>(i,.box p q cs)::rePin fx o os no
 |(i,.row q e n g)::no=>(i,.row q e n g)::rePin fx o os no
 |(i,.tree e n g)::no=>(i,.tree e n g)::rePin fx o os no
 |(i,.mp e n g fF)::no=>match kpA fx,lk os i,lk o i with
  |true,some _,some (.mp _ k' _ _)=>(i,.mp e k' g fF)::rePin fx o os no
  |_,_,_=>(i,.mp e n g fF)::rePin fx o os no
def unP (os:Os):Os->Os
 |[]=>[]
 |(i,.box p q cs)::o=>match lk os i with
  |some _=>(i,.box none q cs)::unP os o
  |none=>(i,.box p q cs)::unP os o
 |(i,.row q e n g)::o=>(i,.row q e n g)::unP os o
 |(i,.tree e n g)::o=>(i,.tree e n g)::unP os o
 |(i,.mp e n g fF)::o=>match lk os i with
  |some _=>(i,.mp e 0 g fF)::unP os o
  |none=>(i,.mp e n g fF)::unP os o
def memN' (d:Nat):List Nat->Bool
 |[]=>false
 |x::l=>Nat.beq x d||memN' d l
def nodN:Os->Bool
 |[]=>true
 |(i,_)::o=>!memN' i (keysOf o)&&nodN o
theorem memN'_iff {d:Nat}: ∀ {l:List Nat},memN' d l=true↔d∈l
 |[]=>by simp[memN']
 |x::l=>by
  simp only[memN',Bool.or_eq_true,memN'_iff,List.mem_cons,Nat.beq_eq]
  exact⟨fun h=>h.imp Eq.symm id,fun h=>h.imp Eq.symm id⟩
theorem nodN_ok: ∀ {o:Os},nodN o=true->(o.map (·.1)).Nodup
 |[],_=>List.nodup_nil
 |(i,ob)::o,h=>by
  simp only[nodN,Bool.and_eq_true,Bool.not_eq_true'] at h
  rw[List.map_cons,List.nodup_cons,<-keysOf_eq]
  exact⟨(fun hm=>by rw[memN'_iff.2 hm] at h;cases h.1),by rw[keysOf_eq];exact nodN_ok h.2⟩
def chkStay (no:Os):Os->Bool
 |[]=>true
 |(i,_)::os=>(lk no i).isSome&&chkStay no os
def menR (d:Nat):AV->Bool
 | .rp _ _ _ _=>false
 |x=>men d x
def smenR (d:Nat):Sl->Bool
 |[]=>false
 |(_,_,v)::l=>menR d v||smenR d l
def chkT (s:Sl) (o1:Os) (no:Os) (fx:Fx):Os->Bool
 |[]=>true
 |(i,ob)::os=>(bif (kpF fx i||isBox ob) then(match lk no i with
  |some _=>true
  |none=>fresh i s o1) else bif kpT fx i then(match lk no i with
  |some _=>!smenR i s&& !omens i o1
  |none=>fresh i s o1) else fresh i s o1)&&chkT s o1 no fx os
def chkW (fx:Fx) (s:Sl) (o1 no os:Os):Bool:=match fx with
 | .b t=>(t&&chkStay no os)||chkM s o1 no os
 | .l _ _=>chkT s o1 no fx os
theorem chkStay_at {no:Os}: ∀ {os:Os} {i:Nat} {ob:Obj},chkStay no os=true->lk os i=some ob->(lk no i).isSome=true
 |[],i,ob,_,h=>by simp[lk] at h
 |(j,ob')::os,i,ob,h,hl=>by
  simp only[chkStay,Bool.and_eq_true] at h
  rw[lk_cons] at hl
  split at hl
  ·rename_i e;subst e;exact h.1
  ·exact chkStay_at h.2 hl
inductive CallM (P:Program) (s:Sl) (o:Os) (f:FuncId) (vs:List AV) (K:AV->Os->Prop):Prop
 |mk {fx:Fx} (os:Os) (r:AV) (no:Os) (hs:subP o os) (hc:(nodN os&&(chkW fx s (dropO os o) no os&&chkB s (dropO os o) os no))=true) (h:ASpecF fx P f vs os r no) (k:K r (rePin fx o os no++dropO os o))
def slP (s:Sl):Os->Sl
 |[]=>s
 |_::_=>[]
inductive CallP (P:Program) (s:Sl) (o:Os) (f:FuncId) (vs:List AV) (K:AV->Os->Prop) (Z:AV->Sl->Os->Prop):Prop
 |mk {fx:Fx} (os:Os) (t:Prop) (r:AV) (no:Os) (v:AV) (no':Os) (hs:subP o os) (hc:(nodN os&&((chkW fx s (dropO os o) no os&&chkB s (dropO os o) os no)&&(chkW fx (slP s os) (dropO os o) no' os&&chkB (slP s os) (dropO os o) os no')))=true) (h:ASpecO fx P f vs os t r no v no') (k:t->K r (rePin fx o os no++dropO os o)) (k': ¬t->Z v (slP s os) (rePin fx o os no'++dropO os o))
def flatI:AV->Bool
 | .ifc _ x=>flat x
 |x=>flat x
theorem flatI_rel {S S':Nat->Prop} {β β':Nat->Wt} {w w':World} {x:AV} {u:Value} (h:flatI x=true) (hr:rel S β w x u):rel S' β' w' x u:=by
 cases x with
 |ifc t y=>obtain⟨u',e,h1⟩:=hr;exact⟨u',e,flat_rel h h1⟩
 |_=>exact flat_rel (by exact h) hr
inductive CallQ (P:Program) (s:Sl) (o:Os) (f:FuncId) (vs:List AV) (K:AV->Prop) (Z:AV->Sl->Os->Prop):Prop
 |mk {fx:Fx} (t:Prop) (r v:AV) (h:ASpecO fx P f vs [] t r [] v []) (hr:(flatI r&&flatI v)=true) (k:t->K r) (k': ¬t->Z v s o)
inductive CallW (A B C D E F:Prop):Prop
 |lent (h:A)
 |chg (h:B)
 |own (h:C)
 |pan (h:D)
 |sl (h:E)
 |pl (h:F)
inductive CallV (A B C:Prop):Prop
 |ret (h:A)
 |pan (h:B)
 |ext (h:C)
inductive CallE (P:Program) (f:FuncId) (vs:List AV) (K:AV->Prop):Prop
 |mk (v:AV) (h: ∀(S:Nat->Prop) (β:Nat->Wt) (w:World) (us:List Value),rels S β w vs us-> ∃u,(callFunc f us.toArray).run P w= .ok (.value u) w/\ ∀(S':Nat->Prop) (β':Nat->Wt) (w':World),rel S' β' w' v u) (k:K v)
theorem lk_dropO {os:Os} {i:Nat}: ∀ {o:Os},lk (dropO os o) i=(match lk os i with
 |some _=>none
 |none=>lk o i)
 |[]=>by cases h:lk os i<;>simp[dropO,lk]
 |(j,ob)::o=>by
  simp only[dropO]
  cases hj:lk os j with
  |some x=>
   rw[lk_dropO,lk_cons]
   by_cases e:j=i
   ·subst e;rw[hj]
   ·rw[if_neg e]
  |none=>
   simp only
   rw[lk_cons,lk_cons,lk_dropO]
   by_cases e:j=i
   ·subst e;simp[hj]
   ·rw[if_neg e,if_neg e]
theorem dropO_sub {os:Os}: ∀ {o:Os},(dropO os o).Sublist o
 |[]=>List.Sublist.refl _
 |(j,ob)::o=>by
  simp only[dropO]
  split
  ·exact List.Sublist.cons _ dropO_sub
  ·exact List.Sublist.cons_cons _ dropO_sub
theorem subO_lk {o:Os}: ∀ {os:Os} {i:Nat} {ob:Obj},subO o os->lk os i=some ob->lk o i=some ob
 |[],i,ob,_,h=>by simp[lk] at h
 |(j,ob')::os,i,ob,h,hl=>by
  rw[lk_cons] at hl
  split at hl
  ·rename_i e;cases hl;subst e;exact h.1
  ·exact subO_lk h.2 hl
theorem subO_mem {o:Os}: ∀ {os:Os},subO o os-> ∀p∈os,lk o p.1=some p.2
 |[],_,p,hp=>nomatch hp
 |(j,ob')::os,h,p,hp=>by
  rcases List.mem_cons.1 hp with rfl|hp
  ·exact h.1
  ·exact subO_mem h.2 p hp
theorem chkM_row {s:Sl} {o1 no:Os}: ∀ {os:Os} {i:Nat} {ob:Obj},chkM s o1 no os=true->lk os i=some ob->(isBox ob=true/\(lk no i).isSome=true)\/fresh i s o1=true
 |[],i,ob,_,h=>by simp[lk] at h
 |(j,.box p q cs)::os,i,ob,h,hl=>by
  simp only[chkM,Bool.and_eq_true] at h
  rw[lk_cons] at hl
  split at hl
  ·rename_i e;cases hl;subst e
   cases hq:lk no j with
   |some x=>exact .inl ⟨rfl,rfl⟩
   |none=>rw[hq] at h;exact .inr h.1
  ·exact chkM_row h.2 hl
 |(j,.row _ _ _ _)::os,i,ob,h,hl=>by
  simp only[chkM,Bool.and_eq_true] at h
  rw[lk_cons] at hl
  split at hl
  ·rename_i e;cases hl;subst e;exact .inr h.1
  ·exact chkM_row h.2 hl
 |(j,.tree _ _ _)::os,i,ob,h,hl=>by
  simp only[chkM,Bool.and_eq_true] at h
  rw[lk_cons] at hl
  split at hl
  ·rename_i e;cases hl;subst e;exact .inr h.1
  ·exact chkM_row h.2 hl
 |(j,.mp _ _ _ _)::os,i,ob,h,hl=>by
  simp only[chkM,Bool.and_eq_true] at h
  rw[lk_cons] at hl
  split at hl
  ·rename_i e;cases hl;subst e;exact .inr h.1
  ·exact chkM_row h.2 hl
theorem chkT_row {fx:Fx} {s:Sl} {o1 no:Os}: ∀ {os:Os} {i:Nat} {ob:Obj},chkT s o1 no fx os=true->lk os i=some ob->((kpF fx i||isBox ob)=true/\(lk no i).isSome=true)\/fresh i s o1=true\/(kpT fx i=true/\(lk no i).isSome=true/\smenR i s=false/\omens i o1=false)
 |[],i,ob,_,h=>by simp[lk] at h
 |(j,ob')::os,i,ob,h,hl=>by
  simp only[chkT,Bool.and_eq_true] at h
  rw[lk_cons] at hl
  split at hl
  ·rename_i e;cases hl;subst e
   have h1:=h.1
   cases hk:(kpF fx j||isBox ob') with
   |true=>
    rw[hk,cond_true] at h1
    cases hq:lk no j with
    |some x=>exact .inl ⟨rfl,rfl⟩
    |none=>rw[hq] at h1;exact .inr (.inl h1)
   |false=>
    rw[hk,cond_false] at h1
    cases ht:kpT fx j with
    |true=>
     rw[ht,cond_true] at h1
     cases hq:lk no j with
     |some x=>
      rw[hq] at h1
      simp only[Bool.and_eq_true,Bool.not_eq_true'] at h1
      exact .inr (.inr ⟨rfl,rfl,h1⟩)
     |none=>rw[hq] at h1;exact .inr (.inl h1)
    |false=>rw[ht,cond_false] at h1;exact .inr (.inl h1)
  ·exact chkT_row h.2 hl
theorem chkW_row {fx:Fx} {s:Sl} {o1 no os:Os} {i:Nat} {ob:Obj} (h:chkW fx s o1 no os=true) (hl:lk os i=some ob):((kpF fx i||isBox ob)=true/\(lk no i).isSome=true)\/fresh i s o1=true\/(kpT fx i=true/\(lk no i).isSome=true/\smenR i s=false/\omens i o1=false):=by
 unfold chkW at h
 split at h
 ·rename_i t
  rcases Bool.or_eq_true _ _▸h with h|h
  ·rw[Bool.and_eq_true] at h
   exact .inl ⟨by rw[show kpF (.b t) i=t from rfl,h.1];rfl,chkStay_at h.2 hl⟩
  ·exact(chkM_row h hl).imp (fun⟨a,b⟩=>⟨by rw[a,Bool.or_true],b⟩) .inl
 ·exact chkT_row h hl
theorem smenR_lk {d i c:Nat} {v:AV}: ∀ {s:Sl},lk s i=some (c,v)->smenR d s=false->menR d v=false
 |[],h,_=>by simp[lk] at h
 |(j,c',v')::s,h,hm=>by
  simp only[smenR,Bool.or_eq_false_iff] at hm
  rw[lk_cons] at h
  split at h
  ·cases h;exact hm.1
  ·exact smenR_lk h hm.2
theorem rel_top {S:Nat->Prop} {β β':Nat->Wt} {w:World} {v:AV} {u:Value} (h: ∀id,men id v=true->β' id=β id\/(menR id v=false/\(β' id).a=(β id).a/\(β' id).ok=(β id).ok)) (hr:rel S β w v u):rel S β' w v u:=by
 by_cases hv: ∃id e i j,v= .rp id e i j
 ·obtain⟨id,e,i,j,rfl⟩:=hv
  obtain⟨h1,ad,h2,h3⟩:=hr
  rcases h id (by simp[men]) with q|⟨_,q1,q2⟩
  ·exact⟨by rw[q];exact h1,ad,by rw[q];exact h2,h3⟩
  ·exact⟨by rw[q2];exact h1,ad,by rw[q1];exact h2,h3⟩
 ·refine rel_agr v u (fun id hm=>(h id hm).resolve_right fun q=>?_) hr
  have:menR id v=men id v:=by
   cases v<;>first|rfl|exact absurd ⟨_,_,_,_,rfl⟩ hv
  rw[q.1] at this;rw[<-this] at hm;cases hm
theorem chkB_at {s:Sl} {o1 os:Os}: ∀ {no:Os} {i:Nat} {ob:Obj},chkB s o1 os no=true->lk no i=some ob->(lk os i).isSome=true\/fresh i s o1=true
 |[],i,ob,_,h=>by simp[lk] at h
 |(j,ob')::no,i,ob,h,hl=>by
  simp only[chkB,Bool.and_eq_true] at h
  rw[lk_cons] at hl
  split at hl
  ·rename_i e;cases hl;subst e
   cases hq:lk os j with
   |some x=>exact .inl rfl
   |none=>rw[hq] at h;exact .inr h.1
  ·exact chkB_at h.2 hl
section
variable {P:Program} {tb:Tb} {s:Sl} {o:Os}
theorem Gam.changed {E:Env} {β β':Nat->Wt} {a:Act} {w w':World} {os no:Os} {r:AV} {v:Value} (h:Gam E tb s o β a w) (hs:subO o os) (hko:(os.map (·.1)).Nodup) {fx:Fx} (hcA:chkW fx s (dropO os o) no os=true) (hcB:chkB s (dropO os o) os no=true) (hb:BelowX (feet os β) w w')
  (h1: ∀id ob,lk no id=some ob->orel (fun k=>(E.good o β k\/w.heap.size<=k\/k∈feet os β)/\k∉feet no β') β' w' (β' id) ob) (h2: ∀k∈feet no β',(w.heap.size<=k\/k∈feet os β)/\k<w'.heap.size) (h3:(feet no β').Nodup) (h4:(no.map (·.1)).Nodup)
  (h6:Kept fx os no β β')
  (h5:rel (fun k=>(E.good o β k\/w.heap.size<=k\/k∈feet os β)/\k∉feet no β') β' w' r v) (hm:Clo r no):
  ∃β2,Gam E tb s (no++dropO os o) β2 a w'/\rel (E.good (no++dropO os o) β2) β2 w' r v/\Kept fx os no β β2:=by
 obtain⟨hm,hm2⟩:=hm
 let β2:Nat->Wt:=fun i=>if(lk no i).isSome then β' i else β i
 have hnew: ∀id,(lk no id).isSome=true->β2 id=β' id:=fun id h=>if_pos h
 have hold: ∀id,lk no id=none->β2 id=β id:=fun id h=>if_neg (by rw[h];simp)
 have hsub:=dropO_sub (os:=os) (o:=o)
 have hkey: ∀p∈no,(lk no p.1).isSome=true:=fun p hp=>by rw[lk_key hp h4];rfl
 have hrest: ∀i ob,lk (dropO os o) i=some ob->lk os i=none/\lk o i=some ob:=fun i ob hl=>by
  rw[lk_dropO] at hl
  split at hl
  ·cases hl
  ·rename_i hq;exact⟨hq,hl⟩
 have hmen: ∀i,(lk no i).isSome=true->(β2 i=β i)\/(smen i s=false/\omens i (dropO os o)=false)\/(((β2 i).a=(β i).a/\(β2 i).ok=(β i).ok)/\smenR i s=false/\omens i (dropO os o)=false):=fun i hi=>by
  obtain⟨ob,hob⟩:=Option.isSome_iff_exists.1 hi
  have fr:fresh i s (dropO os o)=true->smen i s=false/\omens i (dropO os o)=false:=fun h=>by
   simpa only[fresh,Bool.and_eq_true,Bool.not_eq_true'] using h
  rcases chkB_at hcB hob with q|q
  ·obtain⟨ob',hob'⟩:=Option.isSome_iff_exists.1 q
   rcases chkW_row hcA hob' with⟨e1,e2⟩|e|⟨e1,e2,e3,e4⟩
   ·exact .inl ((hnew i hi).trans (h6.1 i ob' hob' e1 e2))
   ·exact .inr (.inl (fr e))
   ·exact .inr (.inr ⟨by rw[hnew i hi];exact h6.2 i ob' hob' e1 e2,e3,e4⟩)
  ·exact .inr (.inl (fr q))
 have hdis: ∀p∈dropO os o,lk no p.1=none:=fun p hp=>by
  have hk1:((dropO os o).map (·.1)).Nodup:=h.keys.sublist (hsub.map _)
  have hl:=lk_key hp hk1
  obtain⟨q1,q2⟩:=hrest _ _ hl
  cases hq:lk no p.1 with
  |none=>rfl
  |some ob=>
   exfalso
   rcases chkB_at hcB hq with e|e
   ·rw[q1] at e;cases e
   ·simp only[fresh,Bool.and_eq_true,Bool.not_eq_true'] at e
    exact omens_keys e.2 p hp rfl
 have feetOs: ∀k∈feet os β,k∈feet o β:=fun k hk=>by
  obtain⟨p,hp,hkp⟩:=List.mem_flatMap.1 hk
  exact foot_feet (subO_mem hs p hp) k hkp
 have feetDis: ∀k∈feet (dropO os o) β,k∉feet os β:=fun k hk hk'=>by
  obtain⟨p,hp,hkp⟩:=List.mem_flatMap.1 hk
  obtain⟨q,hq,hkq⟩:=List.mem_flatMap.1 hk'
  have hk1:((dropO os o).map (·.1)).Nodup:=h.keys.sublist (hsub.map _)
  have hl:=hrest _ _ (lk_key hp hk1)
  have hlq:=subO_mem hs q hq
  by_cases e:p.1=q.1
  ·have:=lk_key hq hko
   rw[<-e,hl.1] at this;cases this
  ·exact foot_disj hlq hl.2 e h.nodup k hkp hkq
 have f1:feet no β2=feet no β':=by
  unfold feet
  exact flatMap_congr fun p hp=>by rw[hnew _ (hkey p hp)]
 have f2:feet (dropO os o) β2=feet (dropO os o) β:=by
  unfold feet
  exact flatMap_congr fun p hp=>by rw[hold _ (hdis p hp)]
 have hfe:feet (no++dropO os o) β2=feet no β'++feet (dropO os o) β:=by rw[feet_app,f1,f2]
 have hgood: ∀k,((E.good o β k\/w.heap.size<=k\/k∈feet os β)/\k∉feet no β')->E.good (no++dropO os o) β2 k:=fun k ⟨hk,hn⟩=>by
  refine⟨?_,fun hm=>?_⟩
  ·rcases hk with hk|hk|hk
   ·exact hk.1
   ·exact .inr (.inl (Nat.le_trans h.below.size hk))
   ·exact .inr (h.new k (feetOs k hk)).1
  ·rw[hfe] at hm
   rcases List.mem_append.1 hm with q|q
   ·exact hn q
   ·rcases hk with hk|hk|hk
    ·exact hk.2 ((feet_sub hsub).subset q)
    ·have:=(h.new k ((feet_sub hsub).subset q)).2;omega
    ·exact feetDis k q hk
 have hcBl: ∀k,k<w.heap.size->E.good o β k->w'.heap[k]?=w.heap[k]?:=fun k hk hg=>hb.block k hk fun q=>hg.2 (feetOs k q)
 have hc:Comp (E.good o β) w (E.good (no++dropO os o) β2) w':=⟨hb.size,fun k hk hg=>⟨hgood k ⟨.inl hg,fun q=>by
  rcases(h2 k q).1 with e|e
  ·omega
  ·exact hg.2 (feetOs k e)⟩,hcBl k hk hg⟩⟩
 have hc':Comp (fun k=>(E.good o β k\/w.heap.size<=k\/k∈feet os β)/\k∉feet no β') w' (E.good (no++dropO os o) β2) w':=⟨Nat.le_refl _,fun k _ hk=>⟨hgood k hk,rfl⟩⟩
 refine⟨β2,⟨h.size,h.defers,h.tbok,fun i c v hl=>?_,fun id ob hl=>?_,?_,fun k hk=>?_,?_,?_⟩,?_,fun id ob hl hb hs=>(hnew id hs).trans (h6.1 id ob hl hb hs),fun id ob hl hb hs=>by rw[hnew id hs];exact h6.2 id ob hl hb hs⟩
 ·obtain⟨u,e1,e2⟩:=h.slots i c v hl
  refine⟨u,e1,fun hg=>rel_top (fun id hid=>?_) (rel_mono hc _ _ (e2 hg))⟩
  cases hq:lk no id with
  |none=>exact .inl (hold id hq)
  |some ob=>
   rcases hmen id (by rw[hq];rfl) with e|e|e
   ·exact .inl e
   ·have:=smen_lk hl e.1
    rw[this] at hid;cases hid
   ·exact .inr ⟨smenR_lk hl e.2.1,e.1⟩
 ·rw[lk_app] at hl
  cases hq:lk no id with
  |some ob'=>
   rw[hq] at hl
   cases hl
   rw[hnew id (by rw[hq];rfl)]
   refine orel_agr (fun id' hid=>?_) (orel_mono hc' (fun _ _=>rfl) (h1 id ob hq))
   exact hnew id' (hm2 id ob hq id' hid)
  |none=>
   rw[hq] at hl
   rw[hold id hq]
   have hl':lk (dropO os o) id=some ob:=hl
   have hlo:=(hrest _ _ hl').2
   refine orel_agr (fun id' hid=>?_) (orel_mono hc (fun k hk=>hb.block k (h.new k (foot_feet hlo k hk)).2 (feetDis k (foot_feet hl' k hk))) (h.objs id ob hlo))
   cases hq':lk no id' with
   |none=>exact hold id' hq'
   |some ob'=>
    rcases hmen id' (by rw[hq'];rfl) with e|e|e
    ·exact e
    ·have:=(omens_lk hl' e.2).1
     rw[this] at hid;cases hid
    ·have:=(omens_lk hl' e.2.2).1
     rw[this] at hid;cases hid
 ·exact⟨hb.os.trans h.below.os,hb.tape.trans h.below.tape,hb.output.trans h.below.output,Nat.le_trans h.below.size hb.size,fun k hk hx=>(hb.block k (Nat.lt_of_lt_of_le hk h.below.size) fun q=>by
   rcases(h.new k (feetOs k q)).1 with e|e
   ·omega
   ·exact hx e).trans (h.below.block k hk hx)⟩
 ·rw[hfe] at hk
  rcases List.mem_append.1 hk with q|q
  ·refine⟨?_,(h2 k q).2⟩
   rcases(h2 k q).1 with e|e
   ·exact .inl (Nat.le_trans h.below.size e)
   ·exact(h.new k (feetOs k e)).1
  ·have:=h.new k ((feet_sub hsub).subset q)
   exact⟨this.1,Nat.lt_of_lt_of_le this.2 hb.size⟩
 ·rw[hfe]
  refine List.nodup_append.2 ⟨h3,h.nodup.sublist (feet_sub hsub),fun x hx y hy e=>?_⟩
  subst e
  rcases(h2 x hx).1 with q|q
  ·have:=(h.new x ((feet_sub hsub).subset hy)).2;omega
  ·exact feetDis x hy q
 ·rw[List.map_append]
  refine List.nodup_append.2 ⟨h4,h.keys.sublist (hsub.map _),fun x hx y hy e=>?_⟩
  subst e
  obtain⟨p,hp,rfl⟩:=List.mem_map.1 hx
  obtain⟨q,hq,e⟩:=List.mem_map.1 hy
  have:=hdis q hq
  rw[e] at this
  have h6:=hkey p hp
  rw[this] at h6;cases h6
 ·exact rel_agr _ _ (fun id hid=>hnew id (hm id hid)) (rel_mono hc' _ _ h5)
theorem OB.of {E:Env} {β:Nat->Wt} {a:Act} {w:World} {os:Os} (h:Gam E tb s o β a w) (hs:subO o os) (hk:(os.map (·.1)).Nodup):OB (E.good o β) β w os/\ ∀k,E.good o β k->k∉feet os β:=by
 refine⟨⟨fun id ob hl=>h.objs id ob (subO_lk hs hl),?_,hk,fun k hk'=>?_⟩,fun k hk' hm=>?_⟩
 ·induction os with
  |nil=>exact List.nodup_nil
  |cons p os ih=>
   obtain⟨i,ob⟩:=p
   rw[List.map_cons,List.nodup_cons] at hk
   rw[feet_cons]
   refine List.nodup_append.2 ⟨?_,ih hs.2 hk.2,fun x hx y hy e=>?_⟩
   ·obtain⟨p,q,hpq⟩:=List.append_of_mem (lk_mem hs.1)
    have hn:=h.nodup
    rw[hpq,feet_app,feet_cons] at hn
    exact(List.nodup_append.1 (List.nodup_append.1 hn).2.1).1
   ·subst e
    obtain⟨p,hp,hxp⟩:=List.mem_flatMap.1 hy
    have hne:p.1≠i:=fun e=>hk.1 (List.mem_map.2 ⟨p,hp,e⟩)
    exact foot_disj hs.1 (subO_mem hs.2 p hp) hne h.nodup x hxp hx
 ·obtain⟨p,hp,hkp⟩:=List.mem_flatMap.1 hk'
  exact(h.new k (foot_feet (subO_mem hs p hp) k hkp)).2
 ·obtain⟨p,hp,hkp⟩:=List.mem_flatMap.1 hm
  exact hk'.2 (foot_feet (subO_mem hs p hp) k hkp)
theorem unP_keys {os:Os}: ∀ {o:Os},(unP os o).map (·.1)=o.map (·.1)
 |[]=>rfl
 |(i,.box p q cs)::o=>by
  simp only[unP]
  split<;>simp only[List.map_cons,unP_keys]
 |(i,.row q e n g)::o=>by simp only[unP,List.map_cons,unP_keys]
 |(i,.tree e n g)::o=>by simp only[unP,List.map_cons,unP_keys]
 |(i,.mp e n g fF)::o=>by
  simp only[unP]
  split<;>simp only[List.map_cons,unP_keys]
theorem rePin_keys {fx:Fx} {o os:Os}: ∀ {no:Os},(rePin fx o os no).map (·.1)=no.map (·.1)
 |[]=>rfl
 |(i,.box p q cs)::no=>by
  simp only[rePin]
  split<;>simp only[List.map_cons,rePin_keys]
 |(i,.row q e n g)::no=>by simp only[rePin,List.map_cons,rePin_keys]
 |(i,.tree e n g)::no=>by simp only[rePin,List.map_cons,rePin_keys]
 |(i,.mp e n g fF)::no=>by
  simp only[rePin]
  split<;>simp only[List.map_cons,rePin_keys]
def unOb:Obj->Obj
 | .box _ q cs=>.box none q cs
 | .mp e _ g fF=>.mp e 0 g fF
 |ob=>ob
def unIf (os:Os) (i:Nat) (ob:Obj):Obj:=match lk os i with
 |some _=>unOb ob
 |none=>ob
theorem lk_unP {os:Os} {i:Nat}: ∀ {o:Os},lk (unP os o) i=(lk o i).map (unIf os i)
 |[]=>by simp[unP,lk]
 |(j,.box p q cs)::o=>by
  simp only[unP]
  split
  ·rename_i x hq
   rw[lk_cons,lk_cons,lk_unP]
   by_cases e:j=i
   ·subst e;simp[hq,unOb,unIf]
   ·rw[if_neg e,if_neg e]
  ·rename_i hq
   rw[lk_cons,lk_cons,lk_unP]
   by_cases e:j=i
   ·subst e;simp[hq,unIf]
   ·rw[if_neg e,if_neg e]
 |(j,.row q e' n g)::o=>by
  simp only[unP]
  rw[lk_cons,lk_cons,lk_unP]
  by_cases e:j=i
  ·subst e;cases h:lk os j<;>simp[unOb,unIf,h]
  ·rw[if_neg e,if_neg e]
 |(j,.tree e' n g)::o=>by
  simp only[unP]
  rw[lk_cons,lk_cons,lk_unP]
  by_cases e:j=i
  ·subst e;cases h:lk os j<;>simp[unOb,unIf,h]
  ·rw[if_neg e,if_neg e]
 |(j,.mp e' n g fF)::o=>by
  simp only[unP]
  split
  ·rename_i x hq
   rw[lk_cons,lk_cons,lk_unP]
   by_cases e:j=i
   ·subst e;simp[hq,unOb,unIf]
   ·rw[if_neg e,if_neg e]
  ·rename_i hq
   rw[lk_cons,lk_cons,lk_unP]
   by_cases e:j=i
   ·subst e;simp[hq,unIf]
   ·rw[if_neg e,if_neg e]
theorem orel_un {S:Nat->Prop} {β:Nat->Wt} {w:World} {W:Wt}: ∀ {ob:Obj},orel S β w W ob->orel S β w W (unOb ob)
 | .box p q cs,⟨b,us,ty,h1,h2,h3,h4,h5,h6,h7,h8⟩=>⟨b,us,ty,h1,h2,h3,h4,h5,h6,(fun _ h=>nomatch h),h8⟩
 | .row q e n g,h=>h
 | .tree e n g,h=>h
 | .mp e n g fF,⟨h1,b,x,h2,h3,h4,h5,h6⟩=>⟨h1,b,x,h2,h3,h4,h5,fun _ h=>nomatch h⟩
theorem feet_same {β:Nat->Wt}: ∀ {o o':Os},o'.map (·.1)=o.map (·.1)->feet o' β=feet o β
 |[],[],_=>rfl
 |(i,ob)::o,(j,ob')::o',h=>by
  simp only[List.map_cons,List.cons.injEq] at h
  rw[feet_cons,feet_cons,feet_same h.2,h.1]
 |[],_::_,h=>by cases h
theorem Gam.retell {E:Env} {β:Nat->Wt} {a:Act} {w:World} {o':Os} (h:Gam E tb s o β a w) (hk:o'.map (·.1)=o.map (·.1)) (ho: ∀id ob',lk o' id=some ob'->orel (E.good o β) β w (β id) ob'):Gam E tb s o' β a w:=by
 have hfe:feet o' β=feet o β:=feet_same hk
 have hg:E.good o' β=E.good o β:=by unfold Env.good;rw[hfe]
 exact⟨h.size,h.defers,h.tbok,fun d c v hl=>by rw[hg];exact h.slots d c v hl,fun id ob hl=>by rw[hg];exact ho id ob hl,h.below,by rw[hfe];exact h.new,by rw[hfe];exact h.nodup,by rw[hk];exact h.keys⟩
theorem subP_subO: ∀ {os:Os} {o:Os},subP o os-> ∀ {os0:Os},(∀p∈os,(lk os0 p.1).isSome=true)->subO (unP os0 o) os
 |[],_,_,_,_=>trivial
 |(i,.box none q cs)::os,o,⟨⟨p,h⟩,h2⟩,os0,hm=>by
  refine⟨?_,subP_subO h2 fun p hp=>hm p (List.mem_cons_of_mem _ hp)⟩
  obtain⟨x,hx⟩:=Option.isSome_iff_exists.1 (hm (i,_) List.mem_cons_self)
  rw[lk_unP,h,Option.map_some];unfold unIf;rw[hx];rfl
 |(i,.box (some _) _ _)::_,_,h,_,_=>nomatch h
 |(i,.row q e n g)::os,o,⟨h,h2⟩,os0,hm=>by
  refine⟨?_,subP_subO h2 fun p hp=>hm p (List.mem_cons_of_mem _ hp)⟩
  rw[lk_unP,h,Option.map_some];unfold unIf
  split<;>rfl
 |(i,.tree e n g)::os,o,⟨h,h2⟩,os0,hm=>by
  refine⟨?_,subP_subO h2 fun p hp=>hm p (List.mem_cons_of_mem _ hp)⟩
  rw[lk_unP,h,Option.map_some];unfold unIf
  split<;>rfl
 |(i,.mp e 0 g fF)::os,o,⟨⟨p,h⟩,h2⟩,os0,hm=>by
  refine⟨?_,subP_subO h2 fun p hp=>hm p (List.mem_cons_of_mem _ hp)⟩
  obtain⟨x,hx⟩:=Option.isSome_iff_exists.1 (hm (i,_) List.mem_cons_self)
  rw[lk_unP,h,Option.map_some];unfold unIf;rw[hx];rfl
 |(i,.mp _ (_+1) _ _)::_,_,h,_,_=>nomatch h
theorem dropO_unP {os:Os}: ∀ {o:Os},dropO os (unP os o)=dropO os o
 |[]=>rfl
 |(i,.box p q cs)::o=>by
  cases h:lk os i with
  |some x=>simp only[unP,dropO,h];exact dropO_unP
  |none=>simp only[unP,dropO,h];rw[dropO_unP]
 |(i,.row q e n g)::o=>by
  cases h:lk os i with
  |some x=>simp only[unP,dropO,h];exact dropO_unP
  |none=>simp only[unP,dropO,h];rw[dropO_unP]
 |(i,.tree e n g)::o=>by
  cases h:lk os i with
  |some x=>simp only[unP,dropO,h];exact dropO_unP
  |none=>simp only[unP,dropO,h];rw[dropO_unP]
 |(i,.mp e n g fF)::o=>by
  cases h:lk os i with
  |some x=>simp only[unP,dropO,h];exact dropO_unP
  |none=>simp only[unP,dropO,h];rw[dropO_unP]
theorem lk_rePin {fx:Fx} {o os:Os} {i:Nat} {ob:Obj}: ∀ {no:Os},lk (rePin fx o os no) i=some ob->lk no i=some ob\/(∃p q cs p' x y,lk no i=some (.box p q cs)/\ob= .box p' q cs/\lk o i=some (.box p' x y)/\ ∃b,lk os i=some b/\isBox b=true)\/ ∃e k g F k' x y z,lk no i=some (.mp e k g F)/\ob= .mp e k' g F/\lk o i=some (.mp x k' y z)/\kpA fx=true/\ ∃b,lk os i=some b
 |[],h=>by simp[rePin,lk] at h
 |(j,.box p q cs)::no,h=>by
  simp only[rePin] at h
  split at h
  ·rename_i p1 q1 c1 p' x y h1 h2
   rw[lk_cons] at h⊢
   split at h
   ·rename_i e;cases h;subst e
    rw[if_pos rfl]
    exact .inr (.inl ⟨p,q,cs,p',x,y,rfl,rfl,h2,_,h1,rfl⟩)
   ·rename_i e;rw[if_neg e];exact lk_rePin h
  ·rw[lk_cons] at h⊢
   split at h
   ·rename_i e;cases h;subst e;rw[if_pos rfl];exact .inl rfl
   ·rename_i e;rw[if_neg e];exact lk_rePin h
 |(j,.row q e' n g)::no,h=>by
  simp only[rePin] at h
  rw[lk_cons] at h⊢
  split at h
  ·rename_i e;cases h;subst e;rw[if_pos rfl];exact .inl rfl
  ·rename_i e;rw[if_neg e];exact lk_rePin h
 |(j,.tree e' n g)::no,h=>by
  simp only[rePin] at h
  rw[lk_cons] at h⊢
  split at h
  ·rename_i e;cases h;subst e;rw[if_pos rfl];exact .inl rfl
  ·rename_i e;rw[if_neg e];exact lk_rePin h
 |(j,.mp e' n g fF)::no,h=>by
  simp only[rePin] at h
  split at h
  ·rename_i x0 x1 k1 x2 x3 h1 h2
   rw[lk_cons] at h⊢
   split at h
   ·rename_i e;cases h;subst e
    rw[if_pos rfl]
    exact .inr (.inr ⟨e',n,g,fF,_,_,_,_,rfl,rfl,h2,by assumption,_,h1⟩)
   ·rename_i e;rw[if_neg e];exact lk_rePin h
  ·rw[lk_cons] at h⊢
   split at h
   ·rename_i e;cases h;subst e;rw[if_pos rfl];exact .inl rfl
   ·rename_i e;rw[if_neg e];exact lk_rePin h
theorem Gam.unpin {E:Env} {β:Nat->Wt} {a:Act} {w:World} {os:Os} (h:Gam E tb s o β a w):Gam E tb s (unP os o) β a w:=h.retell unP_keys fun id ob' hl=>by
 rw[lk_unP] at hl
 obtain⟨ob,h1,h2⟩:=Option.map_eq_some_iff.1 hl
 subst h2
 unfold unIf
 split
 ·exact orel_un (h.objs id ob h1)
 ·exact h.objs id ob h1
theorem Gam.repin {fx:Fx} {E:Env} {β β2:Nat->Wt} {a a':Act} {w w':World} {tb':Tb} {s':Sl} {os no o1:Os} (h0:Gam E tb s o β a w) (h:Gam E tb' s' (no++o1) β2 a' w') (hβ:Kept fx os no β β2):Gam E tb' s' (rePin fx o os no++o1) β2 a' w':=h.retell (by rw[List.map_append,List.map_append,rePin_keys]) fun id ob' hl=>by
 rw[lk_app] at hl
 cases hq:lk (rePin fx o os no) id with
 |none=>
  rw[hq] at hl
  have:lk no id=none:=by
   refine lk_none fun hm=>?_
   rw[<-rePin_keys (fx:=fx) (o:=o) (os:=os)] at hm
   obtain⟨p,hp,e⟩:=List.mem_map.1 hm
   have hk:((rePin fx o os no).map (·.1)).Nodup:=by
    have:=h.keys
    rw[List.map_append] at this
    rw[rePin_keys];exact(List.nodup_append.1 this).1
   have:=lk_key hp hk
   rw[e,hq] at this;cases this
  exact h.objs id ob' (by rw[lk_app,this];exact hl)
 |some ob=>
  rw[hq] at hl
  obtain rfl:ob=ob':=by cases hl;rfl
  rcases lk_rePin hq with h1|⟨p,q,cs,p',x,y,h1,rfl,h2,b,h3,h4⟩|⟨e0,k0,g0,F0,k',x,y,z,h1,rfl,h2,hA,b,h3⟩
  ·exact h.objs id ob (by rw[lk_app,h1];rfl)
  ·obtain⟨b1,us,ty,g1,g2,g3,g4,g5,g6,g7,g8⟩:=h.objs id _ (by rw[lk_app,h1];rfl)
   obtain⟨b2,us',ty',k1,k2,k3,k4,k5,k6,k7,k8⟩:=h0.objs id _ h2
   have e:=hβ.1 id b h3 (by rw[h4,Bool.or_true]) (by rw[h1];rfl)
   refine⟨b1,us,ty,g1,g2,g3,g4,g5,g6,fun b0 hb=>?_,g8⟩
   have:=k7 b0 hb
   rw[e,k1] at g1
   cases g1;exact this
  ·obtain⟨g1,b1,x1,g2,g3,g4,g5,g6⟩:=h.objs id _ (by rw[lk_app,h1];rfl)
   obtain⟨m1,b2,x2,m2,m3,m4,m5,m6⟩:=h0.objs id _ h2
   have e:=hβ.1 id b h3 (by rw[kpA_F hA];rfl) (by rw[h1];rfl)
   refine⟨g1,b1,x1,g2,g3,g4,g5,fun b0 hb=>?_⟩
   have:=m6 b0 hb
   rw[e,m2] at g2
   cases g2;exact this
end
def leafMB:AV->Bool
 | .nil=>true
 |x=>leafA x
def leafMs:List AV->Bool
 |[]=>true
 |x::xs=>leafMB x&&leafMs xs
def nilIn:List AV->Bool
 |[]=>false
 | .nil::_=>true
 |_::l=>nilIn l
def nilAV:AV->Bool
 | .nil=>true
 | .agg cs=>nilIn cs
 |_=>false
def graftN (W:Wt) (q:Pth) (i j k:Nat):Sub:=fun r=>match strip q r with
 |some ((i',c)::_)=>bif Nat.beq i' i&&Nat.ble j c&&Nat.blt c (j+k) then(none,0) else W.sub r
 |_=>W.sub r
theorem graftN_in {W W':Wt} {q:Pth} {i j k c:Nat} {t:Pth} (h:W'.sub=graftN W q i j k) (h1:j<=c) (h2:c<j+k):rsub W' (q++(i,c)::t)=(none,0):=by
 have e:strip q (q++(i,c)::t)=some ((i,c)::t):=strip_app _ _
 cases hq:q++(i,c)::t with
 |nil=>simp at hq
 |cons x r=>
  rw[rsub,h,graftN,<-hq,e]
  simp only
  rw[show(Nat.beq i i&&Nat.ble j c&&Nat.blt c (j+k))=true by simp[Nat.blt_eq,h1,h2],cond_true]
theorem graftN_out {W W':Wt} {q:Pth} {i j k:Nat} (h:W'.sub=graftN W q i j k) (hc:Core W W') {r:Pth} (hr: ∀c t,j<=c->c<j+k->r≠q++(i,c)::t):rsub W' r=rsub W r:=by
 cases r with
 |nil=>rw[rsub,rsub,hc.1,hc.2.1]
 |cons x t=>
  rw[rsub,rsub,h,graftN]
  split
  ·rename_i i' c t' hs
   cases hb:Nat.beq i' i&&Nat.ble j c&&Nat.blt c (j+k) with
   |false=>rw[cond_false]
   |true=>
    simp only[Bool.and_eq_true,Nat.blt_eq] at hb
    obtain⟨⟨b1,b2⟩,b3⟩:=hb
    have b1:=Nat.eq_of_beq_eq_true b1
    subst b1
    exact absurd (strip_some hs) (hr c t' (Nat.le_of_ble_eq_true b2) b3)
  ·rfl
theorem leafMs_tree {S:Nat->Prop} {β:Nat->Wt} {w:World} {sb:Sub} {p:Pth} {i:Nat}: ∀ {xs:List AV} {j:Nat} {us:List Value},leafMs xs=true->(∀c,j<=c->c<j+xs.length->sb (p++[(i,c)])=(none,0))->rels S β w xs us->treeDs S w sb xs p i j us []
 |[],j,us,hl,hs,h=>⟨h,rfl⟩
 |x::xs,j,us,hl,hs,h=>by
  simp only[leafMs,Bool.and_eq_true] at hl
  obtain⟨u,us',rfl,h1,h2⟩:=h
  refine⟨u,us',[],[],rfl,rfl,?_,leafMs_tree hl.2 (fun c hc hc2=>hs c (by omega) (by rw[List.length_cons];omega)) h2⟩
  cases x with
  |nil=>
   unfold treeD
   refine⟨rfl,?_,hs j (Nat.le_refl _) (by rw[List.length_cons];omega)⟩
   unfold rel at h1⊢
   exact h1
  |_=>exact leafA_tree hl.1 h1
section
variable {P:Program} {T:TT} {E:Env} {tb:Tb} {s:Sl} {o:Os} {β:Nat->Wt} {a:Act} {w:World} {t:TypeId} {ti:TI}
theorem store_nil {id e0 N e n i j:Nat} {get g:Nat->List AV} {q:Pth} {nz':Option Bool} {vs:List AV} {u:Value} {ad:Addr} (hti:TIok P t ti) (hg:Gam E tb s o β a w) (hlk:lk o id=some (.tree e0 N get)) (hsub:subR (.row none e0 N get) q (.row nz' e n g)) (hi:i<n) (hj:j+vs.length<=e) (hlen:vs.length=ti.sz) (hleaf:leafMs vs=true)
  (hr:rels (E.good o β) β w vs u.cells.toList) (hone:u.cells.toList.all (·.oneCell')=true) (hbx:noBoxP id o=true) (had:(rsub (β id) q).1=some ad):
  ∃w' β',(Instr.storeAt t (.pointer (some (ad.add (i*e+j)))) u).run P w= .ok () w'/\Gam E tb (dropP id s s) ((id,.tree e0 N (updG q get i j vs))::rem o id) β' a w':=by
 obtain⟨hok,ht⟩:=hg.objs id _ hlk
 obtain⟨hr1,hr2⟩:=feet_rem hlk hg.nodup
 have hnd:=foot_nodup hlk hg.nodup
 obtain⟨b,off,cells,ty,A,M,B,z1,z2,z3,z4,z5,z6,z7⟩:=tree_write ht hsub hi hj
 rw[z1] at had
 cases had
 have hrl:=rels_len hr
 have hsz:u.cells.size=ti.sz:=by rw[<-hlen,<-hrl];simp
 have hroom:off+(i*e+j)+ti.sz<=cells.length:=by
  have:=Nat.mul_le_mul_right e (show i+1<=(rsub (β id) q).2 by omega)
  rw[Nat.add_mul,Nat.one_mul] at this
  omega
 obtain⟨w',hrun,q1,q2,q3,q4,q5,q6⟩:=run_store hti z2 hroom hsz hone
 have hbf:b∈(β id).foot:=by rw[z5];simp only[List.mem_append];exact .inl z6
 let W':Wt:=⟨(β id).a,(β id).cap,A++([]++B),(β id).ok,graftN (β id) q i j vs.length⟩
 have hcore:Core (β id) W':=⟨rfl,rfl,rfl⟩
 refine⟨w',setB β id W',by rw[add_none];exact hrun,?_⟩
 have hkey: ∀p∈rem o id,p.1≠id:=fun p hp e=>by
  have:=rem_keys (c:=id) hg.keys
  exact this (List.mem_map.2 ⟨p,hp,e⟩)
 have hfe:feet ((id,.tree e0 N (updG q get i j vs))::rem o id) (setB β id W')=(A++B)++feet (rem o id) β:=by
  rw[feet_cons,setB_self,feet_setB hkey];rfl
 have hAB:(A++B).Sublist (β id).foot:=by
  rw[z5];exact(List.Sublist.refl A).append (List.sublist_append_right M B)
 have hsubf:=feet_sub (β:=β) (rem_sub (o:=o) (c:=id))
 have hout: ∀k,k<w.heap.size->k∉(β id).foot->w'.heap[k]?=w.heap[k]?:=fun k _ hk=>q6 k fun e=>hk (by subst e;exact hbf)
 refine hg.to (fun d c v hl=>?_) (fun k hk=>?_) ?_ ?_ q1 q2 q3 (by omega) (fun k hk hx=>q6 k fun e=>hx (by subst e;exact foot_feet hlk k hbf)) fun hc id' ob' hl=>?_
 ·obtain⟨h1,h2⟩:=dropP_lk hl
  refine⟨h1,fun k _=>?_,fun k hk p=>?_⟩
  ·by_cases hk:k=id
   ·subst hk;rw[setB_self];exact hcore
   ·rw[setB_ne hk];exact Core.refl _
  ·by_cases hki:k=id
   ·subst hki;rw[keyP_lk h1 h2] at hk;cases hk
   ·rw[setB_ne hki]
 ·rw[hfe] at hk
  rcases List.mem_append.1 hk with z|z
  ·exact foot_feet hlk k (hAB.subset z)
  ·exact hsubf.subset z
 ·rw[hfe]
  exact List.nodup_append.2 ⟨hnd.sublist hAB,hg.nodup.sublist hsubf,fun x hx y hy e=>by subst e;exact hr1 x (hAB.subset hx) hy⟩
 ·rw[List.map_cons,List.nodup_cons]
  exact⟨rem_keys hg.keys,hg.keys.sublist (rem_sub.map _)⟩
 ·rw[lk_cons] at hl
  split at hl
  ·rename_i hid
   cases hl;subst hid
   rw[setB_self]
   refine⟨hok,?_⟩
   refine z7 _ w' _ vs _ [] rfl hnd hc (fun k hk hkb=>q6 k hkb) q5 hone (fun r hr=>graftN_out rfl hcore hr) (leafMs_tree (β:=β) hleaf (fun c h1 h2=>graftN_in (W:=β id) (t:=[]) rfl h1 h2) (rels_mono hc _ _ hr))
  ·rename_i hid
   have hne2:id'≠id:=fun e=>hid e.symm
   rw[lk_rem hne2] at hl
   rw[setB_ne hne2]
   refine orel_core (β:=β) (fun k _=>?_) (fun k hk p=>?_) (orel_mono hc (fun k hk=>hout k (hg.new k (foot_feet hl k hk)).2 (foot_disj hlk hl hne2 hg.nodup k hk)) (hg.objs id' ob' hl))
   ·by_cases hki:k=id
    ·subst hki;rw[setB_self];exact hcore
    ·rw[setB_ne hki];exact Core.refl _
   ·by_cases hki:k=id
    ·subst hki;rw[noBoxP_at hbx hl] at hk;cases hk
    ·rw[setB_ne hki]
def storeN (ti:TI) (s:Sl) (o:Os) (p v:AV) (K:Sl->Os->Prop):Prop:=match stor v with
 |true=>cellsK v fun vs=>match Nat.beq vs.length ti.sz&&leafMs vs with
  |true=>match p with
   | .rp id e i j=>match lk o id with
    |some (.tree e' n get)=>match Nat.beq e e'&&Nat.ble (j+vs.length) e&&noBoxP id o with
     |true=>i<n/\remK o id fun o1=>dropPK id s s fun s=>K s ((id,.tree e' n (setG get i j vs))::o1)
     |false=>False
    |_=>False
   | .pp id q e i j=>match lk o id with
    |some (.tree e0 N get)=>navK [] 0 q e0 N get fun e' n g=>match Nat.beq e e'&&Nat.ble (j+vs.length) e&&noBoxP id o with
     |true=>i<n/\remK o id fun o1=>dropPK id s s fun s=>K s ((id,.tree e0 N (updG q get i j vs))::o1)
     |false=>False
    |_=>False
   |_=>False
  |false=>False
 |false=>False
theorem storeN_ok {x y:Operand} {p v:AV} {K:Sl->Os->Prop} {ty:TypeId} {pos:String} {after:Array Edge} {gu:Option (Nat×Bool)} (hti:TIok P t ti) (hx:Opn tb s 0 x p) (hy:Opn tb s 0 y v) (h:storeN ti s o p v K): ∃s' o',K s' o'/\(∀i q v',lk s' i=some (q,v')->lk s i=some (q,v'))/\Mut P tb s o ⟨none,.store t x y,ty,pos,after,gu⟩ s' o':=by
 unfold storeN at h
 split at h
 ·rename_i hst
  obtain⟨vs,h,hvs⟩:=cellsK_ok h
  split at h
  ·rename_i hlv
   simp only[Bool.and_eq_true] at hlv
   obtain⟨hlen,hleaf⟩:=hlv
   have hlen:=Nat.eq_of_beq_eq_true hlen
   split at h
   ·rename_i id e i j
    split at h
    ·rename_i e' n get hlk
     split at h
     ·rename_i hb
      simp only[Bool.and_eq_true] at hb
      have hb1:=Nat.eq_of_beq_eq_true hb.1.1
      have hb2:=Nat.le_of_ble_eq_true hb.1.2
      have hb3:=hb.2
      subst hb1
      obtain⟨hi,h⟩:=h
      have h:=dropPK_ok (remK_ok h)
      refine⟨_,_,h,fun i q v' hl=>(dropP_lk hl).1,fun E β a w hg _ K Q hK=>?_⟩
      have hc:=tg_zero hg.tbok
      have h1:=hx.eval hg hc
      have h2:=hy.eval hg hc
      unfold rel at h1
      obtain⟨h0,ad,e1,e2⟩:=h1
      have hr:=hvs _ _ _ _ h2 (stor_or hst)
      obtain⟨w',β',hrun,hG⟩:=store_nil (q:=[]) hti hg hlk (nz':=none) rfl hi hb2 hlen hleaf hr (stor_one hst h2) hb3 (ad:=ad) e1
      have hex:(execOp a.eval ⟨none,.store t x y,ty,pos,after,gu⟩).run P w= .ok .skip w':=by
       simp only[execOp,e2]
       rw[Sem.run_bind,hrun];rfl
      unfold Oper.wp
      rw[hex,Oper.upon_skip]
      exact hK _ _ _ hG
     ·cases h
    ·cases h
   ·rename_i id q e i j
    split at h
    ·rename_i e0 N get hlk
     obtain⟨e',n,g,hk,hnav⟩:=navK_ok h
     clear h
     have h:=hk
     clear hk
     split at h
     ·rename_i hb
      simp only[Bool.and_eq_true] at hb
      have hb1:=Nat.eq_of_beq_eq_true hb.1.1
      have hb2:=Nat.le_of_ble_eq_true hb.1.2
      have hb3:=hb.2
      subst hb1
      obtain⟨hi,h⟩:=h
      have h:=dropPK_ok (remK_ok h)
      refine⟨_,_,h,fun i q v' hl=>(dropP_lk hl).1,fun E β a w hg _ K Q hK=>?_⟩
      have hc:=tg_zero hg.tbok
      have h1:=hx.eval hg hc
      have h2:=hy.eval hg hc
      obtain⟨nz',hsub⟩:=hnav rfl none
      unfold rel at h1
      obtain⟨h0,ad,e1,e2⟩:=h1
      have hr:=hvs _ _ _ _ h2 (stor_or hst)
      obtain⟨w',β',hrun,hG⟩:=store_nil hti hg hlk hsub hi hb2 hlen hleaf hr (stor_one hst h2) hb3 (ad:=ad) e1
      have hex:(execOp a.eval ⟨none,.store t x y,ty,pos,after,gu⟩).run P w= .ok .skip w':=by
       simp only[execOp,e2]
       rw[Sem.run_bind,hrun];rfl
      unfold Oper.wp
      rw[hex,Oper.upon_skip]
      exact hK _ _ _ hG
     ·cases h
    ·cases h
   ·cases h
  ·cases h
 ·cases h
end
end Go.Proofs.YtnfdieeaelhpbaaGreatDoor
