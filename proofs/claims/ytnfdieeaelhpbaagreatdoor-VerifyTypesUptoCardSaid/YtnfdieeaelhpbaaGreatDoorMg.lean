/- The engine and the contracts of the functions that the statement reaches, part 7. -/
import Derived.Test.YtnfdieeaelhpbaaGreatDoorMf
import Derived.Test.YtnfdieeaelhpbaaGreatDoorRows
import Derived.ProofKit
import Derived.OpenShut
import Derived.ChangeOld
import Derived.Deep.Slices
import Derived.Test.YtnfdieeaelhpbaaGreatDoorCards
import Derived.Test.YtnfdieeaelhpbaaGreatDoorTie
import Derived.ShutString
import Derived.SizedLaws
import Derived.LaidLaws
import Derived.Lay
import Derived.Lib.LaidTab
import Derived.Stop.LaidErr
import Derived.Deep.DeepWitnessRowRef
set_option linter.unusedVariables false
set_option linter.unusedSimpArgs false
set_option maxRecDepth 100000
set_option maxHeartbeats 8000000
namespace Go.Proofs.YtnfdieeaelhpbaaGreatDoor
open Go.RowKit
structure RkG where
 E:Nat->Nat->Prop
 R:Nat->Prop
 rk:Nat->Nat
 n:Nat
 zero:R 0/\rk 0=0
 edge: ∀p b,R p->E p b->R b
 inj: ∀a b,R a->R b->rk a=rk b->a=b
 par: ∀b,R b->b≠0-> ∃p,R p/\E p b/\rk p<rk b
 lt: ∀b,R b->b<n
section
variable (G:RkG)
inductive Anc (P:Nat->Option Nat) (y:Nat):Nat->Prop
 |self:Anc P y y
 |up (b p:Nat):b≠0->P b=some p->Anc P y p->Anc P y b
inductive AP (y:Nat):Nat->Nat->Prop
 |zero:y≠0->AP y 0 0
 |fwd (m p b:Nat):AP y m p->G.E p b->G.rk p<G.rk b->b≠y->AP y m b
 |back (m p b:Nat):AP y m p->G.E p b-> ¬G.rk p<G.rk b->b≠y->AP y (m+1) b
structure Up (P:Nat->Option Nat):Prop where
 zero:P 0=some 0
 par: ∀b p,b≠0->P b=some p->G.R b/\(P p).isSome=true/\G.rk p<G.rk b
end
section
variable {G:RkG} {P:Nat->Option Nat}
theorem AP.rch {y m b:Nat} (h:AP G y m b):G.R b:=by
 induction h with
 |zero _=>exact G.zero.1
 |fwd m p b _ e _ _ ih=>exact G.edge p b ih e
 |back m p b _ e _ _ ih=>exact G.edge p b ih e
theorem AP.ne {y m b:Nat} (h:AP G y m b):b≠y:=by
 cases h with
 |zero h=>exact fun e=>h e.symm
 |fwd m p b _ _ _ h=>exact h
 |back m p b _ _ _ h=>exact h
theorem AP.step {y m p b:Nat} (h:AP G y m p) (e:G.E p b) (hb:b≠y): ∃m',AP G y m' b:=by
 rcases Classical.em (G.rk p<G.rk b) with q|q
 ·exact⟨m,.fwd m p b h e q hb⟩
 ·exact⟨m+1,.back m p b h e q hb⟩
theorem AP.inv {y m b:Nat} (h:AP G y m b) (hb:b≠0):(∃p,AP G y m p/\G.E p b/\G.rk p<G.rk b)\/ ∃m' p,m=m'+1/\AP G y m' p/\G.E p b:=by
 cases h with
 |zero _=>exact absurd rfl hb
 |fwd m p b h e r _=>exact .inl ⟨p,h,e,r⟩
 |back m p b h e r _=>exact .inr ⟨m,p,rfl,h,e⟩
theorem AP.split {y m x:Nat} (b:Nat) (h:AP G y m x):AP G b m x\/ ∃m',m'<=m/\AP G y m' b:=by
 induction h with
 |zero hy=>
  by_cases e:b=0
  ·subst e;exact .inr ⟨0,Nat.le_refl _,.zero hy⟩
  ·exact .inl (.zero e)
 |fwd m p x h e r hx ih=>
  by_cases q:x=b
  ·subst q;exact .inr ⟨m,Nat.le_refl _,.fwd m p x h e r hx⟩
  ·rcases ih with ih|ih
   ·exact .inl (.fwd m p x ih e r q)
   ·exact .inr ih
 |back m p x h e r hx ih=>
  by_cases q:x=b
  ·subst q;exact .inr ⟨m+1,Nat.le_refl _,.back m p x h e r hx⟩
  ·rcases ih with ih|⟨m',h1,h2⟩
   ·exact .inl (.back m p x ih e r q)
   ·exact .inr ⟨m',by omega,h2⟩
theorem AP.rise: ∀(k b y:Nat),G.rk b<=k->G.R b->G.rk b<G.rk y->AP G y 0 b
 |k,b,y,hk,hr,hy=>by
  by_cases e:b=0
  ·subst e;refine .zero fun q=>?_;subst q;omega
  ·obtain⟨p,h1,h2,h3⟩:=G.par b hr e
   cases k with
   |zero=>omega
   |succ k=>exact .fwd 0 p b (AP.rise k p y (by omega) h1 (by omega)) h2 h3 fun q=>by subst q;omega
theorem AP.via: ∀(k b x:Nat),G.rk x<=k->G.R x-> ¬AP G b 0 x-> ∀y m,G.rk y<G.rk b->AP G y m b-> ∃m',AP G y m' x
 |k,b,x,hk,hr,hn,y,m,hy,hb=>by
  by_cases e:x=b
  ·subst e;exact⟨m,hb⟩
  ·by_cases e0:x=0
   ·subst e0;exact absurd (.zero fun q=>e q.symm) hn
   ·obtain⟨p,h1,h2,h3⟩:=G.par x hr e0
    cases k with
    |zero=>omega
    |succ k=>
     obtain⟨m',h4⟩:=AP.via k b p (by omega) h1 (fun h=>hn (.fwd 0 p x h h2 h3 e)) y m hy hb
     refine h4.step h2 fun q=>?_
     subst q
     exact hn (AP.rise _ x b (Nat.le_refl _) hr hy)
theorem Anc.trans {x y z:Nat} (h1:Anc P x y) (h2:Anc P y z):Anc P x z:=by
 induction h2 with
 |self=>exact h1
 |up b p hb hp _ ih=>exact .up b p hb hp ih
theorem Anc.inv {y b p:Nat} (h:Anc P y b) (hne:y≠b) (hp:P b=some p):Anc P y p:=by
 cases h with
 |self=>exact absurd rfl hne
 |up b p' hb hp' h=>rw[hp] at hp';cases hp';exact h
theorem Anc.root {y:Nat} (h:Anc P y 0):y=0:=by
 cases h with
 |self=>rfl
 |up b p hb _ _=>exact absurd rfl hb
theorem Anc.none {y b:Nat} (h:Anc P y b) (hn:P b=none):y=b:=by
 cases h with
 |self=>rfl
 |up b p _ hp _=>rw[hn] at hp;cases hp
theorem Anc.rk (hU:Up G P) {y b:Nat} (h:Anc P y b):y=b\/G.rk y<G.rk b:=by
 induction h with
 |self=>exact .inl rfl
 |up b p hb hp _ ih=>
  have:=(hU.par b p hb hp).2.2
  rcases ih with rfl|ih
  ·exact .inr this
  ·exact .inr (by omega)
theorem Anc.le (hU:Up G P) {y b:Nat} (h:Anc P y b):G.rk y<=G.rk b:=by
 rcases h.rk hU with rfl|h
 ·exact Nat.le_refl _
 ·omega
theorem Anc.anti (hU:Up G P) {y b:Nat} (h:Anc P y b) (h':Anc P b y):y=b:=by
 rcases h.rk hU with q|q
 ·exact q
 ·have:=h'.le hU;omega
theorem Anc.some (hU:Up G P) {y b:Nat} (h:Anc P y b) (hb:(P b).isSome=true):(P y).isSome=true:=by
 induction h with
 |self=>exact hb
 |up b p hb' hp _ ih=>exact ih (hU.par b p hb' hp).2.1
theorem Anc.chain {y z b:Nat} (h:Anc P y b) (h':Anc P z b):Anc P y z\/Anc P z y:=by
 induction h with
 |self=>exact .inr h'
 |up b p hb hp h1 ih=>
  by_cases e:z=b
  ·subst e;exact .inl (.up z p hb hp h1)
  ·exact ih (h'.inv e hp)
theorem nca_ex (hU:Up G P): ∀(k a b:Nat),G.rk a+G.rk b<=k->(P a).isSome=true->(P b).isSome=true-> ∃c,(P c).isSome=true/\ ∀y,Anc P y c↔Anc P y a/\Anc P y b
 |k,a,b,hk,ha,hb=>by
  have hR: ∀x,(P x).isSome=true->G.R x:=fun x hx=>by
   by_cases e:x=0
   ·subst e;exact G.zero.1
   ·obtain⟨p,hp⟩:=Option.isSome_iff_exists.1 hx;exact(hU.par x p e hp).1
  have key: ∀a b,(P a).isSome=true->(P b).isSome=true->G.rk b<G.rk a-> ∃p,P a=Option.some p/\a≠0/\ ∀y,(Anc P y a/\Anc P y b↔Anc P y p/\Anc P y b):=fun a b ha hb hlt=>by
   have h0:a≠0:=fun e=>by subst e;have:=G.zero.2;omega
   obtain⟨p,hp⟩:=Option.isSome_iff_exists.1 ha
   refine⟨p,hp,h0,fun y=>⟨fun⟨h1,h2⟩=>⟨?_,h2⟩,fun⟨h1,h2⟩=>⟨.up a p h0 hp h1,h2⟩⟩⟩
   refine h1.inv (fun e=>?_) hp
   subst e
   have:=h2.le hU;omega
  by_cases e:a=b
  ·subst e;exact⟨a,ha,fun y=>⟨fun h=>⟨h,h⟩,fun h=>h.1⟩⟩
  ·have hne:G.rk a≠G.rk b:=fun q=>e (G.inj a b (hR a ha) (hR b hb) q)
   cases k with
   |zero=>omega
   |succ k=>
    rcases Nat.lt_or_ge (G.rk b) (G.rk a) with q|q
    ·obtain⟨p,hp,h0,h⟩:=key a b ha hb q
     have h3:=hU.par a p h0 hp
     obtain⟨c,hc,hy⟩:=nca_ex hU k p b (by omega) h3.2.1 hb
     exact⟨c,hc,fun y=>(hy y).trans (h y).symm⟩
    ·obtain⟨p,hp,h0,h⟩:=key b a hb ha (by omega)
     have h3:=hU.par b p h0 hp
     obtain⟨c,hc,hy⟩:=nca_ex hU k a p (by omega) ha h3.2.1
     exact⟨c,hc,fun y=>(hy y).trans (and_comm.trans ((h y).symm.trans and_comm))⟩
theorem anc_uniq (hU:Up G P) {c d:Nat} (h: ∀y,Anc P y c↔Anc P y d):c=d:=
 Anc.anti hU ((h c).1 .self) ((h d).2 .self)
structure DInv (G:RkG) (P:Nat->Option Nat) (m r:Nat):Prop where
 up:Up G P
 snd: ∀b y,(P b).isSome=true->(∀k,¬AP G y k b)->Anc P y b
 old: ∀k b y,k<m->(P b).isSome=true->AP G y k b-> ¬Anc P y b
 cur: ∀b y,(P b).isSome=true->G.rk b<r->AP G y m b-> ¬Anc P y b
 pro: ∀b,G.R b->G.rk b<r\/0<m->(P b).isSome=true
 ini:m=0-> ∀b,(P b).isSome=true->G.rk b<r
theorem DInv.rch {m r:Nat} (h:DInv G P m r) {x:Nat} (hx:(P x).isSome=true):G.R x:=by
 by_cases e:x=0
 ·subst e;exact G.zero.1
 ·obtain⟨p,hp⟩:=Option.isSome_iff_exists.1 hx;exact(h.up.par x p e hp).1
theorem DInv.zero {m r:Nat} (h:DInv G P m r) {b y:Nat} (hb:(P b).isSome=true) (ha:AP G y 0 b): ¬Anc P y b:=by
 by_cases e:m=0
 ·subst e;exact h.cur b y hb (h.ini rfl b hb) ha
 ·exact h.old 0 b y (by omega) hb ha
def setP (P:Nat->Option Nat) (b c:Nat):Nat->Option Nat:=fun x=>if x=b then some c else P x
theorem setP_self {b c:Nat}:setP P b c b=some c:=if_pos rfl
theorem setP_ne {b c x:Nat} (h:x≠b):setP P b c x=P x:=if_neg h
theorem setP_up (hU:Up G P) {b c:Nat} (hb:b≠0) (hR:G.R b) (hc:(P c).isSome=true) (hlt:G.rk c<G.rk b):Up G (setP P b c) where
 zero:=by rw[setP_ne fun e=>hb e.symm];exact hU.zero
 par:=fun x p hx hp=>by
  have hs: ∀q,(P q).isSome=true->(setP P b c q).isSome=true:=fun q hq=>by
   by_cases e:q=b
   ·subst e;rw[setP_self];rfl
   ·rw[setP_ne e];exact hq
  by_cases e:x=b
  ·subst e
   rw[setP_self] at hp
   cases hp
   exact⟨hR,hs c hc,hlt⟩
  ·rw[setP_ne e] at hp
   obtain⟨h1,h2,h3⟩:=hU.par x p hx hp
   exact⟨h1,hs p h2,h3⟩
theorem setP_anc (hU:Up G P) {b c y x:Nat} (hlt:G.rk c<G.rk b) (h:Anc (setP P b c) y x):(Anc P y x/\(¬Anc P b x\/Anc P b y))\/(Anc P b x/\Anc P y c):=by
 induction h with
 |self=>exact .inl ⟨.self,(Classical.em (Anc P b y)).symm⟩
 |up x p hx hp _ ih=>
  by_cases e:x=b
  ·subst e
   rw[setP_self] at hp
   cases hp
   rcases ih with⟨ih,_⟩|⟨ih,_⟩
   ·exact .inr ⟨.self,ih⟩
   ·have:=ih.le hU;omega
  ·rw[setP_ne e] at hp
   rcases ih with⟨ih,h1⟩|⟨ih,h1⟩
   ·refine .inl ⟨.up x p hx hp ih,h1.imp (fun h1 h2=>h1 (h2.inv (fun q=>e q.symm) hp)) id⟩
   ·exact .inr ⟨.up x p hx hp ih,h1⟩
theorem setP_anc1 {b c y x:Nat} (h:Anc P y x) (hn: ¬Anc P b x):Anc (setP P b c) y x:=by
 induction h with
 |self=>exact .self
 |up x p hx hp _ ih=>
  have e:x≠b:=fun e=>hn (by subst e;exact .self)
  exact .up x p hx (by rw[setP_ne e];exact hp) (ih fun q=>hn (.up x p hx hp q))
theorem setP_anc2 (hU:Up G P) {b c y x:Nat} (h:Anc P y x) (hy:Anc P b y):Anc (setP P b c) y x:=by
 induction h with
 |self=>exact .self
 |up x p hx hp h1 ih=>
  have e:x≠b:=fun e=>by
   subst e
   have h2:=(hy.trans h1).le hU
   have h3:=(hU.par x p hx hp).2.2
   omega
  exact .up x p hx (by rw[setP_ne e];exact hp) ih
theorem setP_anc3 (hU:Up G P) {b c y x:Nat} (hb:b≠0) (hlt:G.rk c<G.rk b) (h:Anc P b x) (hy:Anc P y c):Anc (setP P b c) y x:=by
 induction h with
 |self=>exact .up b c hb setP_self (setP_anc1 hy fun q=>by have:=q.le hU;omega)
 |up x p hx hp h1 ih=>
  by_cases e:x=b
  ·subst e;exact .up x c hb setP_self (setP_anc1 hy fun q=>by have:=q.le hU;omega)
  ·exact .up x p hx (by rw[setP_ne e];exact hp) ih
theorem DInv.step {m r b c:Nat} (h:DInv G P m r) (hb:b≠0) (hR:G.R b) (hr:G.rk b=r) (hc:(P c).isSome=true) (hy: ∀y,Anc P y c↔ ∀p,G.E p b->(P p).isSome=true->Anc P y p):DInv G (setP P b c) m (r+1)/\G.rk c<G.rk b:=by
 have hU:=h.up
 obtain⟨p0,g1,g2,g3⟩:=G.par b hR hb
 have g4:(P p0).isSome=true:=h.pro p0 g1 (.inl (by omega))
 have hlt:G.rk c<G.rk b:=by have:=((hy c).1 .self p0 g2 g4).le hU;omega
 have hpr: ∀x,x≠b->(setP P b c x).isSome=true->(P x).isSome=true:=fun x e hx=>by rwa [setP_ne e] at hx
 have hU':=setP_up hU hb hR hc hlt
 have key: ∀y m',m'<=m->AP G y m' b-> ¬Anc P y c:=fun y m' hm ha hn=>by
  rcases ha.inv hb with⟨p,q1,q2,q3⟩|⟨m3,p,rfl,q1,q2⟩
  ·have q4:(P p).isSome=true:=h.pro p q1.rch (.inl (by omega))
   have q5:=(hy y).1 hn p q2 q4
   rcases Nat.lt_or_ge m' m with q|q
   ·exact h.old m' p y q q4 q1 q5
   ·obtain rfl:m'=m:=by omega
    exact h.cur p y q4 (by omega) q1 q5
  ·have q4:(P p).isSome=true:=h.pro p q1.rch (.inr (by omega))
   exact h.old m3 p y (by omega) q4 q1 ((hy y).1 hn p q2 q4)
 have main: ∀k x y,k<=m->(k<m\/G.rk x<r+1)->(setP P b c x).isSome=true->AP G y k x-> ¬Anc (setP P b c) y x:=fun k x y hk hx hs ha hn=>by
  by_cases e:x=b
  ·subst e
   rcases setP_anc hU hlt hn with⟨h1,h2⟩|⟨_,h2⟩
   ·rcases h2 with h2|h2
    ·exact h2 .self
    ·exact ha.ne (h1.anti hU h2).symm
   ·exact key y k hk ha h2
  ·have hs':=hpr x e hs
   rcases setP_anc hU hlt hn with⟨h1,_⟩|⟨h1,h2⟩
   ·rcases Nat.lt_or_ge k m with q|q
    ·exact h.old k x y q hs' ha h1
    ·obtain rfl:k=m:=by omega
     have h3:G.rk x<r+1:=by omega
     have h4:G.rk x≠r:=fun q=>e (G.inj x b (h.rch hs') hR (by omega))
     exact h.cur x y hs' (by omega) ha h1
   ·have h3:G.rk b<G.rk x:=by
     rcases h1.rk hU with q|q
     ·exact absurd q.symm e
     ·exact q
    have hkm:k<m:=by omega
    rcases ha.split b with q|⟨m',q1,q2⟩
    ·exact h.old k x b hkm hs' q h1
    ·exact key y m' (by omega) q2 h2
 refine⟨⟨hU',fun x y hs hd=>?_,fun k x y hk hs ha=>main k x y (by omega) (.inl hk) hs ha,fun x y hs hx ha=>main m x y (Nat.le_refl _) (.inr hx) hs ha,fun x hx hq=>?_,fun hm x hs=>?_⟩,hlt⟩
 ·by_cases hbx:Anc P b x
  ·by_cases e:x=b
   ·subst e
    by_cases e2:y=x
    ·subst e2;exact .self
    ·refine setP_anc3 hU hb hlt .self ((hy y).2 fun p hp hs'=>h.snd p y hs' fun k ha=>?_)
     obtain⟨m',h1⟩:=ha.step hp fun q=>e2 q.symm
     exact hd m' h1
   ·have hs':=hpr x e hs
    have h1:=h.snd x y hs' hd
    by_cases h2:Anc P b y
    ·exact setP_anc2 hU h1 h2
    ·have h3:Anc P y b:=(Anc.chain h1 hbx).resolve_right h2
     have h4:G.rk y<G.rk b:=by
      rcases h3.rk hU with q|q
      ·subst q;exact absurd .self h2
      ·exact q
     refine setP_anc3 hU hb hlt hbx ((hy y).2 fun p hp hs2=>h.snd p y hs2 fun k ha=>?_)
     obtain⟨m',h5⟩:=ha.step hp (fun q=>by subst q;omega)
     obtain⟨m2,h6⟩:=AP.via _ b x (Nat.le_refl _) (h.rch hs') (fun q=>h.zero hs' q hbx) y m' h4 h5
     exact hd m2 h6
  ·have e:x≠b:=fun e=>hbx (by subst e;exact .self)
   exact setP_anc1 (h.snd x y (hpr x e hs) hd) hbx
 ·by_cases e:x=b
  ·subst e;rw[setP_self];rfl
  ·rw[setP_ne e]
   refine h.pro x hx (hq.imp (fun q=>?_) id)
   have:G.rk x≠r:=fun q=>e (G.inj x b hx hR (by omega))
   omega
 ·by_cases e:x=b
  ·subst e;omega
  ·have:=h.ini hm x (hpr x e hs);omega
theorem DInv.start (hP:P 0=some 0) (hn: ∀b,b≠0->P b=none):DInv G P 0 1 where
 up:=⟨hP,fun b p hb hp=>by rw[hn b hb] at hp;cases hp⟩
 snd:=fun b y hb hd=>by
  by_cases e:b=0
  ·subst e
   by_cases e2:y=0
   ·subst e2;exact .self
   ·exact absurd (.zero e2) (hd 0)
  ·rw[hn b e] at hb;cases hb
 old:=fun k b y hk=>by omega
 cur:=fun b y hb hr ha hq=>by
  by_cases e:b=0
  ·subst e;exact ha.ne hq.root.symm
  ·rw[hn b e] at hb;cases hb
 pro:=fun b hb hr=>by
  have:b=0:=G.inj b 0 hb G.zero.1 (by have:=G.zero.2;omega)
  subst this;rw[hP];rfl
 ini:=fun _ b hb=>by
  by_cases e:b=0
  ·subst e;have:=G.zero.2;omega
  ·rw[hn b e] at hb;cases hb
theorem DInv.turn {m r:Nat} (h:DInv G P m r) (hr: ∀b,G.R b->G.rk b<r):DInv G P (m+1) 1 where
 up:=h.up
 snd:=h.snd
 old:=fun k b y hk hb ha=>by
  rcases Nat.lt_or_ge k m with q|q
  ·exact h.old k b y q hb ha
  ·obtain rfl:k=m:=by omega
   exact h.cur b y hb (hr b (h.rch hb)) ha
 cur:=fun b y hb hr ha hq=>by
  have:b=0:=G.inj b 0 (h.rch hb) G.zero.1 (by have:=G.zero.2;omega)
  subst this;exact ha.ne hq.root.symm
 pro:=fun b hb _=>h.pro b hb (.inl (hr b hb))
 ini:=fun e=>by omega
theorem ap_bound (G:RkG): ∃K,∀y b m,y<G.n->b<G.n->AP G y m b-> ∃m',m'<K/\AP G y m' b:=by
 have row: ∀(N:Nat) (p:Nat->Nat->Prop),∃K,∀b m,b<N->p b m-> ∃m',m'<K/\p b m':=fun N p=>by
  induction N with
  |zero=>exact⟨0,fun b m h=>by omega⟩
  |succ N ih=>
   obtain⟨K,hK⟩:=ih
   by_cases e: ∃m,p N m
   ·obtain⟨m0,h0⟩:=e
    refine⟨K+m0+1,fun b m hb hp=>?_⟩
    by_cases q:b=N
    ·subst q;exact⟨m0,by omega,h0⟩
    ·obtain⟨m',h1,h2⟩:=hK b m (by omega) hp
     exact⟨m',by omega,h2⟩
   ·refine⟨K,fun b m hb hp=>?_⟩
    by_cases q:b=N
    ·subst q;exact absurd ⟨m,hp⟩ e
    ·exact hK b m (by omega) hp
 obtain⟨f,hf⟩:=Classical.axiomOfChoice fun y=>row G.n fun b m=>AP G y m b
 obtain⟨K,hK⟩:=row G.n fun y m=>m=f y
 refine⟨(List.range G.n).foldl (fun a y=>a+f y) 0,fun y b m hy hb ha=>?_⟩
 obtain⟨m',h1,h2⟩:=hf y b m hb ha
 refine⟨m',Nat.lt_of_lt_of_le h1 ?_,h2⟩
 have key: ∀(l:List Nat) (a:Nat),a<=l.foldl (fun a y=>a+f y) a/\ ∀y∈l,f y<=l.foldl (fun a y=>a+f y) a:=fun l=>by
  induction l with
  |nil=>exact fun a=>⟨Nat.le_refl _,fun y h=>by cases h⟩
  |cons z l ih=>
   intro a
   obtain⟨i1,i2⟩:=ih (a+f z)
   refine⟨by rw[List.foldl_cons];omega,fun y hy=>?_⟩
   rw[List.foldl_cons]
   rcases List.mem_cons.1 hy with rfl|hy
   ·omega
   ·exact i2 y hy
 exact(key _ 0).2 y (List.mem_range.2 hy)
theorem DInv.dom {m r K:Nat} (h:DInv G P m r) (hK: ∀y b k,y<G.n->b<G.n->AP G y k b-> ∃m',m'<K/\AP G y m' b) (hm:K<=m) {b y:Nat} (hb:(P b).isSome=true):Anc P y b↔ ∀k,¬AP G y k b:=by
 refine⟨fun hn k ha=>?_,h.snd b y hb⟩
 have hy:=hn.some h.up hb
 obtain⟨m',h1,h2⟩:=hK y b k (G.lt y (h.rch hy)) (G.lt b (h.rch hb)) ha
 exact h.old m' b y (by omega) hb h2 hn
theorem DInv.fix {m r K b c u:Nat} (h:DInv G P m r) (hK: ∀y b k,y<G.n->b<G.n->AP G y k b-> ∃m',m'<K/\AP G y m' b) (hm:K<=m) (hm0:0<m) (hb:b≠0) (hR:G.R b) (hu:P b=some u) (hc:(P c).isSome=true) (hy: ∀y,Anc P y c↔ ∀p,G.E p b->(P p).isSome=true->Anc P y p):c=u:=by
 have hU:=h.up
 have hbs:(P b).isSome=true:=by rw[hu];rfl
 have hpu:=hU.par b u hb hu
 refine anc_uniq hU fun y=>(hy y).trans ⟨fun hA=>?_,fun hA p hp hs=>?_⟩
 ·obtain⟨p0,g1,g2,g3⟩:=G.par b hR hb
  have hne:y≠b:=fun e=>by
   subst e
   have h1:=hA p0 g2 (h.pro p0 g1 (.inr hm0))
   have:=h1.le hU;omega
  refine Anc.inv ((h.dom hK hm hbs).2 fun k ha=>?_) hne hu
  rcases ha.inv hb with⟨p,q1,q2,q3⟩|⟨m3,p,rfl,q1,q2⟩
  ·have hs:=h.pro p q1.rch (.inr hm0)
   exact(h.dom hK hm hs).1 (hA p q2 hs) _ q1
  ·have hs:=h.pro p q1.rch (.inr hm0)
   exact(h.dom hK hm hs).1 (hA p q2 hs) _ q1
 ·have h1:Anc P y b:= .up b u hb hu hA
  have h2:y≠b:=fun e=>by subst e;have:=hA.le hU;omega
  refine(h.dom hK hm hs).2 fun k ha=>?_
  obtain⟨m',h3⟩:=ha.step hp fun q=>h2 q.symm
  exact(h.dom hK hm hbs).1 h1 m' h3
end
def stB (s:OrdS):List Int:=s.st.map (·.b)
structure OrdJ (f:FnE) (s:OrdS):Prop where
 nd:(s.out++stB s).Nodup
 bot: ∀x l,stB s=x::l->x=0
 chn: ∀(l1 l2:List Int) (u v:Int),stB s=l1++u::v::l2->v∈Succs f u
 par: ∀b∈s.out,b=0\/ ∃p:Int,b∈Succs f p/\(p∈stB s\/ ∃A B,s.out=A++b::B/\p∈B)
theorem ordJ_ig (f:FnE):OrdJ f (ordIg f) where
 nd:=by simp[ordIg,stB]
 bot:=fun x l h=>by simp[ordIg,stB] at h;exact h.1.symm
 chn:=fun l1 l2 u v h=>by
  have:=congrArg List.length h
  simp[ordIg,stB] at this
  omega
 par:=fun b hb=>by simp[ordIg] at hb
theorem ordJ_step {f:FnE} {s:OrdS} {v:VisE} {l:List VisE} (hi:OrdInv f s) (h:OrdJ f s) (e:s.st=l++[v]):OrdJ f (ordT f s v l):=by
 have hv:v∈s.st:=by rw[e];simp
 have eb:stB s=l.map (·.b)++[v.b]:=by unfold stB;rw[e];simp
 unfold ordT
 cases hq:v.rest with
 |nil=>
  show OrdJ f ⟨s.ma,l,s.out++[v.b]⟩
  have e1:stB ⟨s.ma,l,s.out++[v.b]⟩=l.map (·.b):=rfl
  refine⟨?_,fun x l' hl=>?_,fun l1 l2 a b hl=>?_,fun b hb=>?_⟩
  ·rw[e1]
   have h1:=h.nd
   rw[eb] at h1
   show(s.out++[v.b]++l.map (·.b)).Nodup
   rw[List.append_assoc]
   exact(List.Perm.append_left s.out List.perm_append_comm).nodup h1
  ·rw[e1] at hl
   exact h.bot x (l'++[v.b]) (by rw[eb,hl];rfl)
  ·rw[e1] at hl
   exact h.chn l1 (l2++[v.b]) a b (by rw[eb,hl];simp)
  ·show b=0\/ ∃p:Int,b∈Succs f p/\(p∈l.map (·.b)\/ ∃A B,s.out++[v.b]=A++b::B/\p∈B)
   have hb:b∈s.out++[v.b]:=hb
   rw[List.mem_append,List.mem_singleton] at hb
   rcases hb with hb|rfl
   ·rcases h.par b hb with h0|⟨p,h1,h2⟩
    ·exact .inl h0
    ·refine .inr ⟨p,h1,?_⟩
     rcases h2 with h2|⟨A,B,h2,h3⟩
     ·rw[eb,List.mem_append,List.mem_singleton] at h2
      rcases h2 with h2|rfl
      ·exact .inl h2
      ·obtain⟨A,B,hAB⟩:=List.append_of_mem hb
       exact .inr ⟨A,B++[v.b],by rw[hAB];simp,by simp⟩
     ·exact .inr ⟨A,B++[v.b],by rw[h2];simp,by simp[h3]⟩
   ·rcases List.eq_nil_or_concat (l.map (·.b)) with hn|⟨l',u,hc⟩
    ·exact .inl (h.bot v.b [] (by rw[eb,hn];rfl))
    ·rw[List.concat_eq_append] at hc
     exact .inr ⟨u,h.chn l' [] u v.b (by rw[eb,hc];simp),.inl (by rw[hc];simp)⟩
 |cons t r=>
  show OrdJ f (if s.ma.getD t.toNat false=true then⟨s.ma,l++[⟨v.b,r⟩],s.out⟩ else⟨s.ma.set t.toNat true,l++[⟨v.b,r⟩,⟨t,Succs f t⟩],s.out⟩)
  have ht:t∈Succs f v.b:=(hi.suf v hv).subset (by rw[hq];simp)
  split
  ·have e1:stB ⟨s.ma,l++[⟨v.b,r⟩],s.out⟩=stB s:=by rw[eb];simp[stB]
   exact⟨by rw[e1];exact h.nd,by rw[e1];exact h.bot,by rw[e1];exact h.chn,by rw[e1];exact h.par⟩
  ·rename_i hm
   have e1:stB ⟨s.ma.set t.toNat true,l++[⟨v.b,r⟩,⟨t,Succs f t⟩],s.out⟩=stB s++[t]:=by rw[eb];simp[stB]
   refine⟨?_,fun x l' hl=>?_,fun l1 l2 a b hl=>?_,fun b hb=>?_⟩
   ·rw[e1]
    show(s.out++(stB s++[t])).Nodup
    rw[<-List.append_assoc]
    refine List.nodup_append.2 ⟨h.nd,by simp,fun a ha b hb he=>?_⟩
    rw[List.mem_singleton] at hb
    subst hb he
    refine hm ?_
    rcases List.mem_append.1 ha with ha|ha
    ·exact(hi.outm a ha).2
    ·unfold stB at ha
     obtain⟨w,hw,rfl⟩:=List.mem_map.1 ha
     exact hi.mkd w hw
   ·rw[e1] at hl
    rw[eb] at hl
    cases hl2:l.map (·.b) with
    |nil=>
     rw[hl2] at hl eb
     simp at hl
     exact h.bot x [] (by rw[eb,<-hl.1];rfl)
    |cons y l3=>
     rw[hl2] at hl eb
     simp at hl
     exact h.bot x (l3++[v.b]) (by rw[eb,<-hl.1];rfl)
   ·rw[e1] at hl
    rcases List.eq_nil_or_concat l2 with rfl|⟨l3,y,rfl⟩
    ·have h3:stB s++[t]=(l1++[a])++[b]:=by rw[hl];simp
     obtain⟨h4,h5⟩:=List.append_inj' h3 rfl
     simp at h5
     rw[eb] at h4
     obtain⟨_,h6⟩:=List.append_inj' h4 rfl
     simp at h6
     rw[<-h5,<-h6];exact ht
    ·rw[List.concat_eq_append] at hl
     have h3:stB s++[t]=(l1++a::b::l3)++[y]:=by rw[hl];simp
     exact h.chn l1 l3 a b (List.append_inj' h3 rfl).1
   ·rw[e1]
    rcases h.par b hb with h0|⟨p,h1,h2|h2⟩
    ·exact .inl h0
    ·exact .inr ⟨p,h1,.inl (by simp[h2])⟩
    ·exact .inr ⟨p,h1,.inr h2⟩
theorem ordJ_N (f:FnE) (h:0<f.blocks.length): ∀n,OrdJ f (ordN f n)
 |0=>ordJ_ig f
 |n+1=>by
  show OrdJ f (ordG f (ordN f n))
  unfold ordG
  split
  ·exact ordJ_N f h n
  ·rename_i hl
   obtain⟨l',x,e1,e2,e3⟩:=snoc_of (d:=(Enc.d:VisE)) (ordN f n).st (by omega)
   rw[e2,e3]
   exact ordJ_step (ordN_inv f h n).1 (ordJ_N f h n) e1
theorem ordL_nd (f:FnE):(ordL f).Nodup:=by
 by_cases h0:f.blocks.length=0
 ·rw[ordL,if_pos h0];exact List.nodup_nil
 ·rw[ordL,if_neg h0]
  have:=(ordJ_N f (by omega) (ordB f+1)).nd
  exact List.pairwise_reverse.2 ((List.nodup_append.1 this).1.imp fun h e=>h e.symm)
theorem ordL_par (f:FnE) (b:Int) (hb:b∈ordL f):b=0\/ ∃p A B,b∈Succs f p/\ordL f=A++b::B/\p∈A:=by
 by_cases h0:f.blocks.length=0
 ·rw[ordL,if_pos h0] at hb;simp at hb
 ·have e:=List.eq_nil_of_length_eq_zero (ordN_end f (by omega))
  rw[ordL,if_neg h0] at hb⊢
  rcases(ordJ_N f (by omega) (ordB f+1)).par b (List.mem_reverse.1 hb) with h1|⟨p,h1,h2|⟨A,B,h2,h3⟩⟩
  ·exact .inl h1
  ·unfold stB at h2
   rw[e] at h2
   simp at h2
  ·exact .inr ⟨p,B.reverse,A.reverse,h1,by rw[h2];simp,by simpa using h3⟩
theorem ordL_zero (f:FnE) (h:0<f.blocks.length):(0:Int)∈ordL f:=(ordL_mem f 0 h).2 (.zero h (by decide))
theorem idx_lt {l A B:List Int} {b p:Int} (hn:l.Nodup) (e:l=A++b::B) (hp:p∈A):l.idxOf p<l.idxOf b:=by
 subst e
 have hb:b∉A:=fun h=>by
  have:=(List.nodup_append.1 hn).2.2 b h b (by simp)
  exact this rfl
 rw[List.idxOf_append,List.idxOf_append,if_pos hp,if_neg hb,List.idxOf_cons_self]
 have:=List.idxOf_lt_length_of_mem hp
 omega
noncomputable def rkG (f:FnE) (h:0<f.blocks.length):RkG where
 E p b:=(b:Int)∈Succs f p
 R b:=(b:Int)∈ordL f
 rk b:=(ordL f).idxOf (b:Int)
 n:=f.blocks.length
 zero:=by
  refine⟨ordL_zero f h,?_⟩
  cases hl:ordL f with
  |nil=>have:=ordL_zero f h;rw[hl] at this;simp at this
  |cons x l=>
   have hx:x∈ordL f:=by rw[hl];simp
   rcases ordL_par f x hx with rfl|⟨p,A,B,_,h2,h3⟩
   ·exact List.idxOf_cons_self
   ·have hlt:=idx_lt (ordL_nd f) h2 h3
    rw[hl] at hlt
    simp at hlt
 edge p b hp he:=by
  have hb:=ordL_rng f _ hp
  have hr:=(ordL_mem f p (by omega)).1 hp
  have hs:=Succs_mem he
  have h1:=RG.step hr he (by omega)
  exact(ordL_mem f b (by omega)).2 h1
 inj a b ha hb e:=by
  have h1:=List.getElem_idxOf (List.idxOf_lt_length_of_mem ha)
  have h2:=List.getElem_idxOf (List.idxOf_lt_length_of_mem hb)
  have h3:(a:Int)=b:=by
   rw[<-h1,<-h2]
   congr 1
  omega
 par b hb hne:=by
  rcases ordL_par f _ hb with h0|⟨p,A,B,h1,h2,h3⟩
  ·omega
  ·have hp:p∈ordL f:=by rw[h2];exact List.mem_append_left _ h3
   have hr:=ordL_rng f _ hp
   obtain⟨k,rfl⟩: ∃k:Nat,p=k:=⟨p.toNat,by omega⟩
   exact⟨k,hp,h1,idx_lt (ordL_nd f) h2 h3⟩
 lt b hb:=by have:=ordL_rng f _ hb;omega
theorem rkG_AP (f:FnE) (h:0<f.blocks.length) (y b:Nat) (hb:b<f.blocks.length):(∃m,AP (rkG f h) y m b)↔RG f y b:=by
 constructor
 ·rintro ⟨m,hm⟩
  induction hm with
  |zero hy=>exact .zero h (by omega)
  |fwd m p b hp he hr hne ih=>
   have hp':=hp.rch
   have:=ordL_rng f _ hp'
   have h1:=RG.step (ih (by omega)) he (by omega)
   simpa using h1
  |back m p b hp he hr hne ih=>
   have hp':=hp.rch
   have:=ordL_rng f _ hp'
   have h1:=RG.step (ih (by omega)) he (by omega)
   simpa using h1
 ·intro hr
  induction hr with
  |zero _ hg=>exact⟨0,.zero (by omega)⟩
  |step hr ht hne ih=>
   rename_i c t
   have hs:=Succs_mem ht
   have hc:c<f.blocks.length:=by
    rcases Nat.lt_or_ge c f.blocks.length with q|q
    ·exact q
    ·exfalso
     have:Succs f c=[]:=by unfold Succs;rw[if_pos (by omega)]
     rw[this] at ht;simp at ht
   obtain⟨m,hm⟩:=ih hc
   obtain⟨k,rfl⟩: ∃k:Nat,t=k:=⟨t.toNat,by omega⟩
   exact hm.step ht (by omega)
def upP (l:List Int):Nat->Option Nat:=fun b=>if 0<=l.getD b (-1) then some (l.getD b (-1)).toNat else none
theorem upP_some {l:List Int} {b p:Nat} (h:upP l b=some p):l.getD b (-1)=p/\b<l.length:=by
 unfold upP at h
 split at h
 ·cases h
  refine⟨by omega,?_⟩
  rcases Nat.lt_or_ge b l.length with q|q
  ·exact q
  ·rename_i h0
   rw[List.getD_eq_getElem?_getD,List.getElem?_eq_none q] at h0
   exact absurd h0 (by decide)
 ·cases h
theorem upP_none {l:List Int} {b:Nat} (h:upP l b=none):l.getD b (-1)<0:=by
 unfold upP at h
 split at h
 ·cases h
 ·omega
theorem upP_is {l:List Int} {b:Nat} (h:(upP l b).isSome=true):0<=l.getD b (-1):=by
 obtain⟨p,hp⟩:=Option.isSome_iff_exists.1 h
 have:=(upP_some hp).1
 omega
theorem upP_of {l:List Int} {b:Nat} {c:Nat} (h:l.getD b (-1)=c):upP l b=some c:=by
 unfold upP;rw[h,if_pos (by omega)];rfl
theorem getD_set_i (l:List Int) (b:Nat) (c:Int) (x:Nat) (hb:b<l.length):(l.set b c).getD x (-1)=if x=b then c else l.getD x (-1):=by
 rw[List.getD_eq_getElem?_getD,List.getElem?_set]
 by_cases e:b=x
 ·subst e;rw[if_pos rfl,if_pos hb,if_pos rfl];rfl
 ·rw[if_neg e,if_neg (fun h=>e h.symm),<-List.getD_eq_getElem?_getD]
theorem upP_set {l:List Int} {b c:Nat} (hb:b<l.length):upP (l.set b (c:Int))=setP (upP l) b c:=by
 funext x
 unfold setP
 by_cases e:x=b
 ·rw[if_pos e];exact upP_of (by rw[getD_set_i _ _ _ _ hb,if_pos e])
 ·rw[if_neg e];unfold upP;rw[getD_set_i _ _ _ _ hb,if_neg e]
def isIdom (f:FnE) (h:0<f.blocks.length) (l:List Int):Prop:=l.length=f.blocks.length/\ ∃P,Up (rkG f h) P/\(∀b,(rkG f h).R b->(P b).isSome=true)/\(∀b y,(rkG f h).R b->(Anc P y b↔ ∀k,¬AP (rkG f h) y k b))/\
 ∀b,b<f.blocks.length->l.getD b (-1)=if b=0 then-1 else match P b with
  |some p=>(p:Int)
  |none=>-1
theorem isIdom_uniq {f:FnE} {h:0<f.blocks.length} {l l':List Int} (h1:isIdom f h l) (h2:isIdom f h l'):l=l':=by
 obtain⟨n1,P,u1,s1,d1,e1⟩:=h1
 obtain⟨n2,Q,u2,s2,d2,e2⟩:=h2
 have key: ∀b,b≠0->P b=Q b:=fun b hb=>by
  cases hp:P b with
  |none=>
   cases hq:Q b with
   |none=>rfl
   |some q=>
    have:=s1 b (u2.par b q hb hq).1
    rw[hp] at this;cases this
  |some p=>
   have hR:=(u1.par b p hb hp).1
   obtain⟨q,hq⟩:=Option.isSome_iff_exists.1 (s2 b hR)
   have ap:Anc P p b:= .up b p hb hp .self
   have aq:Anc Q q b:= .up b q hb hq .self
   have pb:p≠b:=fun e=>by have:=(u1.par b p hb hp).2.2;rw[e] at this;omega
   have qb:q≠b:=fun e=>by have:=(u2.par b q hb hq).2.2;rw[e] at this;omega
   have b1:Anc P q p:=((d1 b q hR).2 ((d2 b q hR).1 aq)).inv qb hp
   have b2:Anc Q p q:=((d2 b p hR).2 ((d1 b p hR).1 ap)).inv pb hq
   have hRq:(rkG f h).R q:=by
    by_cases e:q=0
    ·rw[e];exact(rkG f h).zero.1
    ·obtain⟨r,hr⟩:=Option.isSome_iff_exists.1 (u2.par b q hb hq).2.1
     exact(u2.par q r e hr).1
   have b3:Anc P p q:=(d1 q p hRq).2 ((d2 q p hRq).1 b2)
   rw[hq,Anc.anti u1 b1 b3]
 refine List.ext_getElem (by rw[n1,n2]) fun i h3 h4=>?_
 have g1:=e1 i (by omega)
 have g2:=e2 i (by omega)
 rw[List.getD_eq_getElem?_getD,List.getElem?_eq_getElem h3] at g1
 rw[List.getD_eq_getElem?_getD,List.getElem?_eq_getElem h4] at g2
 simp only[Option.getD_some] at g1 g2
 rw[g1,g2]
 by_cases e:i=0
 ·rw[if_pos e,if_pos e]
 ·rw[if_neg e,if_neg e,key i e]
open Classical in
noncomputable def idomL (f:FnE):List Int:=if h:0<f.blocks.length then(if h2: ∃l,isIdom f h l then Classical.choose h2 else[]) else[]
theorem idomL_eq {f:FnE} {h:0<f.blocks.length} {l:List Int} (hl:isIdom f h l):idomL f=l:=by
 unfold idomL
 rw[dif_pos h,dif_pos ⟨l,hl⟩]
 exact isIdom_uniq (Classical.choose_spec (⟨l,hl⟩: ∃l,isIdom f h l)) hl
theorem DInv.stay {G:RkG} {P:Nat->Option Nat} {m:Nat} (h:DInv G P m 1) (hn: ∀b,G.R b->G.rk b<G.n) (hfix: ∀b,b≠0->G.R b-> ∃c,P b=some c/\(P c).isSome=true/\ ∀y,Anc P y c↔ ∀p,G.E p b->(P p).isSome=true->Anc P y p): ∀k,DInv G P (m+k) 1:=by
 have pass: ∀m,DInv G P m 1->DInv G P (m+1) 1:=fun m h=>by
  have key: ∀r,DInv G P m (r+1):=fun r=>by
   induction r with
   |zero=>exact h
   |succ r ih=>
    by_cases hex: ∃b,G.R b/\G.rk b=r+1
    ·obtain⟨b,hR,hr⟩:=hex
     have hb:b≠0:=fun e=>by subst e;have:=G.zero.2;omega
     obtain⟨c,h1,h2,h3⟩:=hfix b hb hR
     have:=(ih.step hb hR hr h2 h3).1
     have e:setP P b c=P:=by
      funext x
      by_cases e:x=b
      ·subst e;rw[setP_self,h1]
      ·exact setP_ne e
     rw[e] at this
     exact this
    ·refine⟨ih.up,ih.snd,ih.old,fun b y hb hlt ha=>?_,fun b hR hor=>?_,fun h0 b hb=>?_⟩
     ·have hRb:=ih.rch hb
      rcases Nat.lt_or_ge (G.rk b) (r+1) with q|q
      ·exact ih.cur b y hb q ha
      ·exact absurd ⟨b,hRb,by omega⟩ hex
     ·rcases hor with q|q
      ·rcases Nat.lt_or_ge (G.rk b) (r+1) with q1|q1
       ·exact ih.pro b hR (.inl q1)
       ·exact absurd ⟨b,hR,by omega⟩ hex
      ·exact ih.pro b hR (.inr q)
     ·exact Nat.lt_succ_of_lt (ih.ini h0 b hb)
  exact(key G.n).turn fun b hb=>by have:=hn b hb;omega
 intro k
 induction k with
 |zero=>exact h
 |succ k ih=>exact pass _ ih
theorem rk_lt_n (f:FnE) (h:0<f.blocks.length): ∀b,(rkG f h).R b->(rkG f h).rk b<(rkG f h).n:=fun b hb=>by
 show(ordL f).idxOf (b:Int)<f.blocks.length
 have h1:=List.idxOf_lt_length_of_mem (show(b:Int)∈ordL f from hb)
 have h2:=ordL_len f
 omega
theorem isIdom_of {f:FnE} {h:0<f.blocks.length} {l:List Int} {m:Nat} (hl:l.length=f.blocks.length) (hge: ∀x,-1<=l.getD x (-1)) (hd:DInv (rkG f h) (upP l) m 1) (hm:0<m)
  (hfix: ∀b,b≠0->(rkG f h).R b-> ∃c,upP l b=some c/\(upP l c).isSome=true/\ ∀y,Anc (upP l) y c↔ ∀p,(rkG f h).E p b->(upP l p).isSome=true->Anc (upP l) y p):isIdom f h (l.set 0 (-1)):=by
 obtain⟨K,hK⟩:=ap_bound (rkG f h)
 have hs:=hd.stay (rk_lt_n f h) hfix K
 refine⟨by rw[List.length_set];exact hl,upP l,hd.up,fun b hb=>hd.pro b hb (.inr hm),fun b y hb=>hs.dom hK (by omega) (hd.pro b hb (.inr hm)),fun b hb=>?_⟩
 rw[getD_set_i _ _ _ _ (by omega)]
 by_cases e:b=0
 ·rw[if_pos e,if_pos e]
 ·rw[if_neg e,if_neg e]
  cases hp:upP l b with
  |some p=>exact(upP_some hp).1
  |none=>
   have h1:=upP_none hp
   have h2:=hge b
   show l.getD b (-1)= -1
   omega
theorem isIdom_up {f:FnE} {h:0<f.blocks.length} {l:List Int} (hl:isIdom f h l): ∃P,Up (rkG f h) P/\(∀b d,(rkG f h).R b->(Anc P d b↔ ¬RG f d b))/\ ∀b,(rkG f h).R b->(b=0/\l.getD b (-1)= -1)\/(b≠0/\ ∃p:Nat,l.getD b (-1)=p/\P b=some p/\(rkG f h).R p/\(rkG f h).rk p<(rkG f h).rk b):=by
 obtain⟨n1,P,u,s,d,e⟩:=hl
 refine⟨P,u,fun b y hb=>?_,fun b hb=>?_⟩
 ·rw[d b y hb,<-rkG_AP f h y b ((rkG f h).lt b hb)]
  exact⟨fun q ⟨k,hk⟩=>q k hk,fun q k hk=>q ⟨k,hk⟩⟩
 ·have h1:=e b ((rkG f h).lt b hb)
  by_cases h0:b=0
  ·exact .inl ⟨h0,by rw[h1,if_pos h0]⟩
  ·obtain⟨p,hp⟩:=Option.isSome_iff_exists.1 (s b hb)
   rw[if_neg h0,hp] at h1
   have h2:=u.par b p h0 hp
   refine .inr ⟨h0,p,h1,hp,?_,h2.2.2⟩
   by_cases e0:p=0
   ·rw[e0];exact(rkG f h).zero.1
   ·obtain⟨r,hr⟩:=Option.isSome_iff_exists.1 h2.2.1
    exact(u.par p r e0 hr).1
def rankQ (f:FnE) (q:Nat):List Int:=(List.range f.blocks.length).map fun(b:Nat)=>if(b:Int)∈(ordL f).take q then((ordL f).idxOf (b:Int):Int) else 0
def rankL (f:FnE):List Int:=rankQ f (ordL f).length
theorem rankQ_len (f:FnE) (q:Nat):(rankQ f q).length=f.blocks.length:=by unfold rankQ;rw[List.length_map,List.length_range]
theorem rankQ_at (f:FnE) (q b:Nat) (hb:b<f.blocks.length):(rankQ f q).getD b Enc.d=if(b:Int)∈(ordL f).take q then((ordL f).idxOf (b:Int):Int) else 0:=by
 unfold rankQ
 rw[List.getD_eq_getElem?_getD,List.getElem?_map,List.getElem?_range hb];rfl
theorem rankL_at (f:FnE) (h:0<f.blocks.length) (b:Nat) (hb:(rkG f h).R b):(rankL f).getD b Enc.d=((rkG f h).rk b:Int):=by
 unfold rankL
 rw[rankQ_at f _ b ((rkG f h).lt b hb),List.take_length,if_pos (show(b:Int)∈ordL f from hb)];rfl
theorem meet_step {G:RkG} {P:Nat->Option Nat} (hU:Up G P) {a b p:Nat} (h0:a≠0) (hp:P a=some p) (hlt:G.rk b<G.rk a) (y:Nat):(Anc P y p/\Anc P y b)↔(Anc P y a/\Anc P y b):=by
 constructor
 ·exact fun⟨h1,h2⟩=>⟨.up a p h0 hp h1,h2⟩
 ·rintro ⟨h1,h2⟩
  refine⟨h1.inv (fun e=>?_) hp,h2⟩
  subst e
  have:=h2.le hU
  omega
theorem up_R {G:RkG} {P:Nat->Option Nat} (hU:Up G P) {a:Nat} (h:(P a).isSome=true):G.R a:=by
 by_cases e:a=0
 ·rw[e];exact G.zero.1
 ·obtain⟨p,hp⟩:=Option.isSome_iff_exists.1 h
  exact(hU.par a p e hp).1
theorem meet_S (f:FnE) (h:0<f.blocks.length) (l:List Int) (hl:l.length=f.blocks.length) (hs:f.blocks.length<4294967296) (hU:Up (rkG f h) (upP l)) (a b c:Nat) (ha:(upP l a).isSome=true) (hb:(upP l b).isSome=true) (hcc: ∀y,Anc (upP l) y c↔Anc (upP l) y a/\Anc (upP l) y b):
  ASpec Tryz.prog 99 [eL l,eL (rankL f),.i .i64 a,.i .i64 b] (.i .i64 c) []:=by
 have hrl:(rankL f).length=f.blocks.length:=rankQ_len f _
 have hR: ∀x,(upP l x).isSome=true->x<f.blocks.length/\(rankL f).getD x Enc.d=((rkG f h).rk x:Int):=fun x hx=>⟨(rkG f h).lt x (up_R hU hx),rankL_at f h x (up_R hU hx)⟩
 have hst: ∀x,(upP l x).isSome=true->0<(rkG f h).rk x-> ∃p:Nat,x≠0/\upP l x=some p/\l.getD x Enc.d=p/\(upP l p).isSome=true/\(rkG f h).rk p<(rkG f h).rk x:=fun x hx h0=>by
  have hne:x≠0:=fun e=>by subst e;have:=(rkG f h).zero.2;omega
  obtain⟨p,hp⟩:=Option.isSome_iff_exists.1 hx
  have h1:=upP_some hp
  refine⟨p,hne,hp,?_,(hU.par x p hne hp).2⟩
  rw[<-h1.1,List.getD_eq_getElem?_getD,List.getD_eq_getElem?_getD,List.getElem?_eq_getElem h1.2];rfl
 refine ASpec.enter TYok mixed Tryz.func99 rfl Tryz.call99 Tryz.ntmps99 rfl (rs:=[.tmp 8]) rfl (nodupB_ok rfl) (Clo.one rfl) (keep:=[0,1,2,3,8]) ?_;conv=>whnf
 repeat' first|(refine iG (fun hb hc=>?_) (fun hb hc=>?_)<;>first|exact hc.elim|(exfalso;omega)|conv=>whnf)|(refine gqs ?_;conv=>whnf)|(refine yt ?_;conv=>whnf)|exact⟨_,.keep rfl rfl⟩|fail
 refine lp [2,3] (fun q:Nat×Nat=>[.i .i64 q.1,.i .i64 q.2]) (fun q=>[]) (fun q=>(upP l q.1).isSome=true/\(upP l q.2).isSome=true/\ ∀y,(Anc (upP l) y q.1/\Anc (upP l) y q.2)↔(Anc (upP l) y a/\Anc (upP l) y b)) (fun q=>(rkG f h).rk q.1+(rkG f h).rk q.2) (a,b) ⟨ha,hb,fun y=>Iff.rfl⟩ ?_ fun q hq=>?_
 ·refine eP [] [] ?_ ?_<;>repeat' first|exact eN|refine And.intro ?_ ?_
 conv=>whnf
 obtain⟨x,z⟩:=q
 obtain⟨h1,h2,h3⟩:=hq
 simp only at h1 h2 h3
 repeat' first|(refine iG (fun hb hc=>?_) (fun hb hc=>?_)<;>first|exact hc.elim|(exfalso;omega)|conv=>whnf)|(refine gqs ?_;conv=>whnf)|(refine yt ?_;conv=>whnf)|exact⟨_,.keep rfl rfl⟩|fail
 ·refine lp [2] (fun u:Nat=>[.i .i64 u]) (fun u=>[]) (fun u=>(upP l u).isSome=true/\(∀y,(Anc (upP l) y u/\Anc (upP l) y z)↔(Anc (upP l) y a/\Anc (upP l) y b))/\((rkG f h).rk u<(rkG f h).rk x\/u=x)) (fun u=>(rkG f h).rk u) x ⟨h1,h3,.inr rfl⟩ ?_ fun u hu=>?_
  ·refine eP [] [] ?_ ?_<;>repeat' first|exact eN|refine And.intro ?_ ?_
  conv=>whnf
  obtain⟨h4,h5,h6⟩:=hu
  have h7:=hR u h4
  have h8:=hR z h2
  repeat' first|(refine iG (fun hb hc=>?_) (fun hb hc=>?_)<;>first|exact hc.elim|(exfalso;omega)|conv=>whnf)|(refine gqs ?_;conv=>whnf)|(refine yt ?_;conv=>whnf)|exact⟨_,.keep rfl rfl⟩|fail
  ·rw[h7.2,h8.2] at hc
   obtain⟨p,e1,e2,e3,e4,e5⟩:=hst u h4 (by omega)
   refine .mk p ⟨e4,fun y=>(meet_step hU e1 e2 (by omega) y).trans (h5 y),.inl (by rcases h6 with q|rfl<;>omega)⟩ e5 ?_
   refine eP [] [] ?_ ?_<;>repeat' first|exact eN|refine And.intro ?_ ?_
  rw[h7.2,h8.2] at hc
  refine lp [3] (fun v:Nat=>[.i .i64 v]) (fun v=>[]) (fun v=>(upP l v).isSome=true/\(∀y,(Anc (upP l) y v/\Anc (upP l) y u)↔(Anc (upP l) y a/\Anc (upP l) y b))/\((rkG f h).rk v<(rkG f h).rk z\/v=z)) (fun v=>(rkG f h).rk v) z ⟨h2,fun y=>and_comm.trans (h5 y),.inr rfl⟩ ?_ fun v hv=>?_
  ·refine eP [] [] ?_ ?_<;>repeat' first|exact eN|refine And.intro ?_ ?_
  conv=>whnf
  obtain⟨g4,g5,g6⟩:=hv
  have g7:=hR v g4
  repeat' first|(refine iG (fun hb hc=>?_) (fun hb hc=>?_)<;>first|exact hc.elim|(exfalso;omega)|conv=>whnf)|(refine gqs ?_;conv=>whnf)|(refine yt ?_;conv=>whnf)|exact⟨_,.keep rfl rfl⟩|fail
  ·rename_i hc2
   rw[h7.2,g7.2] at hc
   obtain⟨p,e1,e2,e3,e4,e5⟩:=hst v g4 (by omega)
   refine .mk p ⟨e4,fun y=>(meet_step hU e1 e2 (by omega) y).trans (g5 y),.inl (by rcases g6 with q|rfl<;>omega)⟩ e5 ?_
   refine eP [] [] ?_ ?_<;>repeat' first|exact eN|refine And.intro ?_ ?_
  ·rename_i hc2
   rw[h7.2,g7.2] at hc
   refine .mk (u,v) ⟨h4,g4,fun y=>and_comm.trans (g5 y)⟩ ?_ ?_
   ·show(rkG f h).rk u+(rkG f h).rk v<(rkG f h).rk x+(rkG f h).rk z
    rcases h6 with q|rfl
    ·rcases g6 with q2|rfl<;>omega
    ·rcases g6 with q2|rfl
     ·omega
     ·exfalso
      have:=(rkG f h).inj u v (up_R hU h4) (up_R hU g4) (by omega)
      subst this
      exact hc rfl
   ·refine eP [] [] ?_ ?_<;>repeat' first|exact eN|refine And.intro ?_ ?_
 ·have e:x=z:=by omega
  subst e
  have:=Anc.anti hU ((hcc x).2 ((h3 x).1 ⟨.self,.self⟩)) ((h3 c).2 ((hcc c).1 .self)).1
  rw[this]
  exact⟨_,.keep rfl rfl⟩
theorem preds_at (f:FnE) (b:Nat) (hb:b<f.blocks.length):(PredsL f).getD b Enc.d=cnt f b f.blocks.length:=by
 unfold PredsL
 rw[List.getD_eq_getElem?_getD,List.getElem?_map,List.getElem?_range hb];rfl
theorem preds_mem (f:FnE) (b p:Nat) (hb:b<f.blocks.length):(p:Int)∈(PredsL f).getD b Enc.d↔(p<f.blocks.length/\(b:Int)∈Succs f p):=by
 rw[preds_at f b hb]
 unfold cnt
 simp only[List.mem_flatMap,List.mem_range,List.mem_replicate]
 constructor
 ·rintro ⟨c,h1,h2,h3⟩
  have:p=c:=by omega
  subst this
  exact⟨h1,List.count_pos_iff.1 (by omega)⟩
 ·rintro ⟨h1,h2⟩
  exact⟨p,h1,by have:=List.count_pos_iff.2 h2;omega,rfl⟩
theorem preds_rng (f:FnE) (b:Nat) (hb:b<f.blocks.length): ∀x∈(PredsL f).getD b Enc.d,∃p:Nat,x=p/\p<f.blocks.length:=by
 intro x hx
 rw[preds_at f b hb] at hx
 unfold cnt at hx
 simp only[List.mem_flatMap,List.mem_range,List.mem_replicate] at hx
 obtain⟨c,h1,h2,h3⟩:=hx
 exact⟨c,h3,h1⟩
theorem preds_len (f:FnE) (b:Nat) (hb:b<f.blocks.length):((PredsL f).getD b Enc.d).length<=f.blocks.length:=by
 rw[preds_at f b hb];exact cnt_len f b _
theorem rankQ_step (f:FnE) (q:Nat) (hq:q<(ordL f).length) (i:Nat) (hi:i<f.blocks.length):setF (fun i=>Enc.enc ((rankQ f q).getD i Enc.d)) (addZ 0 ((ordL f).getD q Enc.d).toNat) [.i .i64 q] i=Enc.enc ((rankQ f (q+1)).getD i Enc.d):=by
 have hx:(ordL f).getD q Enc.d=(ordL f)[q]:=by rw[List.getD_eq_getElem?_getD,List.getElem?_eq_getElem hq];rfl
 have hr:=ordL_rng f _ (List.getElem_mem hq)
 have ht:(ordL f).take (q+1)=(ordL f).take q++[(ordL f)[q]]:=by rw[List.take_add_one,List.getElem?_eq_getElem hq];rfl
 have hi2:(ordL f).idxOf (ordL f)[q]=q:=List.Nodup.idxOf_getElem (ordL_nd f) q hq
 have hin:(ordL f)[q]∈(ordL f).take (q+1):=by rw[ht];exact List.mem_append_right _ (List.mem_singleton.2 rfl)
 rw[hx,rankQ_at f (q+1) i hi]
 unfold setF
 by_cases e:i=addZ 0 ((ordL f)[q]).toNat
 ·have e':(i:Int)=(ordL f)[q]:=by rw[addZ_eq] at e;omega
  rw[if_pos e,if_pos (by rw[e'];exact hin),e',hi2];rfl
 ·have e':(i:Int)≠(ordL f)[q]:=fun h=>e (by rw[addZ_eq];omega)
  rw[if_neg e]
  show Enc.enc ((rankQ f q).getD i Enc.d)=_
  rw[rankQ_at f q i hi]
  rw[ht]
  congr 1
  simp only[List.mem_append,List.mem_singleton,e',or_false]
structure IdS where
 m:Nat
 up:List Int
 t:Bool
structure IdR where
 i:Nat
 up:List Int
 t:Bool
def fixAt (G:RkG) (P:Nat->Option Nat) (b:Nat):Prop:= ∃c,P b=some c/\(P c).isSome=true/\ ∀y,Anc P y c↔ ∀p,G.E p b->(P p).isSome=true->Anc P y p
theorem getD_d (u:List Int) (k:Nat) (h:k<u.length):u.getD k Enc.d=u.getD k (-1):=by
 rw[List.getD_eq_getElem?_getD,List.getD_eq_getElem?_getD,List.getElem?_eq_getElem h];rfl
def up0 (n:Nat):List Int:=(List.replicate n (-1)).set 0 0
theorem up0_at (n x:Nat) (h:0<n):(up0 n).getD x (-1)=if x=0 then 0 else-1:=by
 unfold up0
 rw[getD_set_i _ _ _ _ (by rw[List.length_replicate];exact h)]
 by_cases e:x=0
 ·rw[if_pos e,if_pos e]
 ·rw[if_neg e,if_neg e,List.getD_eq_getElem?_getD,List.getElem?_replicate]
  split<;>rfl
def bestI (P:Nat->Option Nat) (l:List Int) (best:Int):Prop:=(best= -1/\ ∀p:Nat,(p:Int)∈l->P p=none)\/ ∃c:Nat,best=c/\(P c).isSome=true/\ ∀y,Anc P y c↔ ∀p:Nat,(p:Int)∈l->(P p).isSome=true->Anc P y p
theorem bestI_none {P:Nat->Option Nat} {l:List Int} {best:Int} {p:Nat} (h:bestI P l best) (hp:P p=none):bestI P (l++[(p:Int)]) best:=by
 rcases h with⟨h1,h2⟩|⟨c,h1,h2,h3⟩
 ·refine .inl ⟨h1,fun q hq=>?_⟩
  rcases List.mem_append.1 hq with hq|hq
  ·exact h2 q hq
  ·have:q=p:=by have:=List.mem_singleton.1 hq;omega
   rw[this];exact hp
 ·refine .inr ⟨c,h1,h2,fun y=>(h3 y).trans ⟨fun g q hq hs=>?_,fun g q hq hs=>g q (by simp[hq]) hs⟩⟩
  rcases List.mem_append.1 hq with hq|hq
  ·exact g q hq hs
  ·have:q=p:=by have:=List.mem_singleton.1 hq;omega
   rw[this,hp] at hs;cases hs
theorem bestI_first {P:Nat->Option Nat} {l:List Int} {p:Nat} (h: ∀p:Nat,(p:Int)∈l->P p=none) (hp:(P p).isSome=true):bestI P (l++[(p:Int)]) p:=by
 refine .inr ⟨p,rfl,hp,fun y=>⟨fun g q hq hs=>?_,fun g=>g p (by simp) hp⟩⟩
 rcases List.mem_append.1 hq with hq|hq
 ·rw[h q hq] at hs;cases hs
 ·have:q=p:=by have:=List.mem_singleton.1 hq;omega
  rw[this];exact g
theorem bestI_meet {P:Nat->Option Nat} {l:List Int} {c p d:Nat} (h3: ∀y,Anc P y c↔ ∀p:Nat,(p:Int)∈l->(P p).isSome=true->Anc P y p) (hp:(P p).isSome=true) (hd:(P d).isSome=true) (hy: ∀y,Anc P y d↔Anc P y c/\Anc P y p):bestI P (l++[(p:Int)]) d:=by
 refine .inr ⟨d,rfl,hd,fun y=>(hy y).trans ⟨fun⟨g1,g2⟩ q hq hs=>?_,fun g=>⟨(h3 y).2 fun q hq hs=>g q (by simp[hq]) hs,g p (by simp) hp⟩⟩⟩
 rcases List.mem_append.1 hq with hq|hq
 ·exact(h3 y).1 g1 q hq hs
 ·have:q=p:=by have:=List.mem_singleton.1 hq;omega
  rw[this];exact g2
theorem ord_at (f:FnE) (h:0<f.blocks.length) (i:Nat) (hi:i<(ordL f).length): ∃k:Nat,(ordL f).getD i Enc.d=k/\(rkG f h).R k/\(rkG f h).rk k=i/\k<f.blocks.length:=by
 have hm:=List.getElem_mem hi
 have hr:=ordL_rng f _ hm
 obtain⟨k,hk⟩: ∃k:Nat,(ordL f)[i]=k:=⟨((ordL f)[i]).toNat,by omega⟩
 refine⟨k,by rw[List.getD_eq_getElem?_getD,List.getElem?_eq_getElem hi];exact hk,by show(k:Int)∈ordL f;rw[<-hk];exact hm,?_,by omega⟩
 show(ordL f).idxOf (k:Int)=i
 rw[<-hk]
 exact List.Nodup.idxOf_getElem (ordL_nd f) i hi
theorem idom_S (f:FnE) (hs:siz f<4294967296) (h:0<f.blocks.length):ASpec Tryz.prog 64 [eS f] (eL (idomL f)) []:=by
 have h1:=blocks_le f
 have hol:=ordL_len f
 obtain⟨K,hK⟩:=ap_bound (rkG f h)
 refine ASpec.enter TYok mixed Tryz.func64 rfl Tryz.call64 Tryz.ntmps64 rfl (rs:=[.tmp 2]) rfl (nodupB_ok rfl) (Clo.one rfl) (keep:=[0,1,2,3,4,5,6,7,8,9,10,11,12,13,14,16,28,29,36,37,38,53,54,55,65,66,67]) ?_;conv=>whnf
 repeat' first|(refine iG (fun hb hc=>?_) (fun hb hc=>?_)<;>first|exact hc.elim|(exfalso;omega)|conv=>whnf)|(refine gqs ?_;conv=>whnf)|(refine gqc (x:=fun _=>oL_frz (fun id=>rfl) (gOrder_S f hs)) (k:= ?_);conv=>whnf)|(refine gqc (x:=fun _=>gPreds_F f hs) (k:= ?_);conv=>whnf)|(refine yt ?_;conv=>whnf)|exact⟨_,.keep rfl rfl⟩|fail
 refine lp [29] (fun q:Nat=>[.i .i64 q]) (fun q=>[(27,.row none 1 f.blocks.length fun i=>[.i .i64 (if i<q then-1 else 0)]),(25,.row none 1 f.blocks.length fun _=>[.i .i64 0]),(1,bx f)]) (fun q=>q<=f.blocks.length) (fun q=>f.blocks.length-q) 0 (by omega) ?_ fun q hq=>?_
 ·refine eP [] [] ?_ ?_<;>repeat' first|exact eN|refine And.intro ?_ ?_
 conv=>whnf
 repeat' first|(refine iG (fun hb hc=>?_) (fun hb hc=>?_)<;>first|exact hc.elim|(exfalso;omega)|conv=>whnf)|(refine gqs ?_;conv=>whnf)|(refine yt ?_;conv=>whnf)|exact⟨_,.keep rfl rfl⟩|fail
 ·refine .mk (q+1) (by omega) (by omega) ?_
  refine eP [] [] ?_ ?_<;>repeat' first|exact eN|refine And.intro ?_ ?_
  intro i hi
  unfold setF
  by_cases e:i=addZ 0 (q:Int).toNat
  ·have:i=q:=e
   rw[if_pos e]
   show[AV.i .i64 (-1)]=[AV.i .i64 (if i<q+1 then-1 else 0)]
   rw[if_pos (by omega)]
  ·have: ¬i=q:=e
   rw[if_neg e]
   show[AV.i .i64 (if i<q then-1 else 0)]=[AV.i .i64 (if i<q+1 then-1 else 0)]
   by_cases e2:i<q
   ·rw[if_pos e2,if_pos (by omega)]
   ·rw[if_neg e2,if_neg (by omega)]
 obtain rfl:q=f.blocks.length:=by omega
 refine lp [38] (fun q:Nat=>[.i .i64 q]) (fun q=>[(27,oL (List.replicate f.blocks.length (-1:Int))),(25,oL (rankQ f q)),(1,bx f)]) (fun q=>q<=(ordL f).length) (fun q=>(ordL f).length-q) 0 (by omega) ?_ fun q hq=>?_
 ·refine eP [] [] ?_ ?_<;>repeat' first|exact eN|refine And.intro ?_ ?_
  ·exact(List.length_replicate).symm
  ·intro i hi
   rw[List.length_replicate] at hi
   show[AV.i .i64 (if i<f.blocks.length then-1 else 0)]=Enc.enc ((List.replicate f.blocks.length (-1:Int)).getD i Enc.d)
   rw[if_pos hi,List.getD_eq_getElem?_getD,List.getElem?_replicate,if_pos hi];rfl
  ·exact(rankQ_len f 0).symm
  ·intro i hi
   rw[rankQ_len] at hi
   show[AV.i .i64 0]=Enc.enc ((rankQ f 0).getD i Enc.d)
   rw[rankQ_at f 0 i hi,if_neg (by simp)];rfl
 conv=>whnf
 repeat' first|(refine iG (fun hb hc=>?_) (fun hb hc=>?_)<;>first|exact hc.elim|(exfalso;omega)|conv=>whnf)|(refine gqs ?_;conv=>whnf)|(refine yt ?_;conv=>whnf)|exact⟨_,.keep rfl rfl⟩|fail
 ·have hq2:q<(ordL f).length:=by omega
  obtain⟨k,e1,e2,e3,e4⟩:=ord_at f h q hq2
  have e5:(ordL f).getD (q:Int).toNat Enc.d=k:=e1
  rw[e5]
  have hl:=rankQ_len f q
  refine And.intro ⟨by omega,by omega,(show k<(rankQ f q).length by omega)⟩ ?_
  conv=>whnf
  repeat' first|(refine iG (fun hb hc=>?_) (fun hb hc=>?_)<;>first|exact hc.elim|(exfalso;omega)|conv=>whnf)|(refine gqs ?_;conv=>whnf)|(refine yt ?_;conv=>whnf)|exact⟨_,.keep rfl rfl⟩|fail
  refine .mk (q+1) (by omega) (by omega) ?_
  refine eP [] [] ?_ ?_<;>repeat' first|exact eN|refine And.intro ?_ ?_
  ·rw[rankQ_len,rankQ_len]
  ·intro i hi
   rw[rankQ_len] at hi
   have:=rankQ_step f q hq2 i hi
   rw[e1] at this
   exact this
 obtain rfl:q=(ordL f).length:=by omega
 have hrl:=rankQ_len f (ordL f).length
 have hrp:(List.replicate f.blocks.length (-1:Int)).length=f.blocks.length:=List.length_replicate
 have ha0:addZ 0 (Int.toNat 0)=0:=rfl
 repeat' first|(refine iG (fun hb hc=>?_) (fun hb hc=>?_)<;>first|exact hc.elim|(exfalso;omega)|conv=>whnf)|(refine gqs ?_;conv=>whnf)|(refine yt ?_;conv=>whnf)|exact⟨_,.keep rfl rfl⟩|fail
 have hu0:(up0 f.blocks.length).length=f.blocks.length:=by unfold up0;rw[List.length_set,List.length_replicate]
 have hd0:DInv (rkG f h) (upP (up0 f.blocks.length)) 0 1:=DInv.start (by unfold upP;rw[up0_at _ _ h];rfl) fun b hb=>by unfold upP;rw[up0_at _ _ h,if_neg hb];rfl
 refine lp [11] (fun q:IdS=>[.b q.t]) (fun q=>[(27,oL q.up),(25,oL (rankL f)),(1,bx f)]) (fun q=>q.up.length=f.blocks.length/\(∀x,-1<=q.up.getD x (-1))/\DInv (rkG f h) (upP q.up) q.m 1/\(q.t=true->q.m<=K+1)/\(q.t=false->0<q.m/\ ∀b,b≠0->(rkG f h).R b->fixAt (rkG f h) (upP q.up) b)) (fun q=>bif q.t then K+2-q.m+1 else 0) ⟨0,up0 f.blocks.length,true⟩ ⟨hu0,fun x=>by rw[up0_at _ _ h];split<;>omega,hd0,fun _=>Nat.zero_le _,fun e=>by cases e⟩ ?_ fun q hq=>?_
 ·refine eP [] [] ?_ ?_<;>repeat' first|exact eN|refine And.intro ?_ ?_
  ·show(List.replicate f.blocks.length (-1:Int)).length=(up0 f.blocks.length).length
   rw[hrp,hu0]
  ·intro x hx
   have hx':x<(List.replicate f.blocks.length (-1:Int)).length:=by rw[hrp,<-hu0];exact hx
   exact set_fun (l:=List.replicate f.blocks.length (-1:Int)) (x:=(0:Int)) rfl x hx'
 conv=>whnf
 obtain⟨m,up,t⟩:=q
 obtain⟨g1,g2,g3,g4,g5⟩:=hq
 simp only at g1 g2 g3 g4 g5
 repeat' first|(refine iG (fun hb hc=>?_) (fun hb hc=>?_)<;>first|exact hc.elim|(exfalso;omega)|conv=>whnf)|(refine gqs ?_;conv=>whnf)|(refine yt ?_;conv=>whnf)|exact⟨_,.keep rfl rfl⟩|fail
 ·obtain rfl:t=true:=hb
  refine lp [11,55] (fun q:IdR=>[.b q.t,.i .i64 q.i]) (fun q=>[(27,oL q.up),(25,oL (rankL f)),(1,bx f)]) (fun q=>q.i<=(ordL f).length/\q.up.length=f.blocks.length/\(∀x,-1<=q.up.getD x (-1))/\DInv (rkG f h) (upP q.up) m (max q.i 1)/\(q.t=false->q.up=up/\ ∀b,b≠0->(rkG f h).R b->(rkG f h).rk b<q.i->fixAt (rkG f h) (upP up) b)/\(q.t=true-> ¬(K<=m/\0<m))) (fun q=>(ordL f).length-q.i) ⟨0,up,false⟩ ⟨Nat.zero_le _,g1,g2,g3,fun _=>⟨rfl,fun b _ _ hb=>absurd hb (Nat.not_lt_zero _)⟩,fun e=>by cases e⟩ ?_ fun q hq=>?_
  ·refine eP [] [] ?_ ?_<;>repeat' first|exact eN|refine And.intro ?_ ?_
  conv=>whnf
  obtain⟨i,u,t⟩:=q
  obtain⟨k1,k2,k3,k4,k5,k6⟩:=hq
  simp only at k1 k2 k3 k4 k5 k6
  rcases Nat.lt_or_ge i (ordL f).length with hi|hi
  ·obtain⟨k,e1,e2,e3,e4⟩:=ord_at f h i hi
   obtain rfl:k=((ordL f).getD i Enc.d).toNat:=by omega
   have hpl:(PredsL f).length=f.blocks.length:=by unfold PredsL;rw[List.length_map,List.length_range]
   have hpn:=preds_len f ((ordL f).getD i Enc.d).toNat e4
   repeat' first|(refine iG (fun hb hc=>?_) (fun hb hc=>?_)<;>first|exact hc.elim|(exfalso;omega)|conv=>whnf)|(refine gqs ?_;conv=>whnf)|(refine yt ?_;conv=>whnf)|exact⟨_,.keep rfl rfl⟩|fail
   ·refine .mk ⟨i+1,u,t⟩ ⟨hi,k2,k3,by rw[show max (i+1) 1=max i 1 by omega];exact k4,fun e=>⟨(k5 e).1,fun b hb0 hR hlt=>absurd ((rkG f h).inj b 0 hR (rkG f h).zero.1 (by rw[(rkG f h).zero.2];show(rkG f h).rk b=0;simp only at hlt;omega)) hb0⟩,k6⟩ (by show(ordL f).length-(i+1)<(ordL f).length-i;omega) ?_
    refine eP [] [] ?_ ?_<;>repeat' first|exact eN|refine And.intro ?_ ?_
   have hk0:((ordL f).getD i Enc.d).toNat≠0:=fun e=>by rw[e] at e3;have:=(rkG f h).zero.2;omega
   refine lp [14,67] (fun q:Int×Nat=>[.i .i64 q.1,.i .i64 q.2]) (fun q=>[(27,oL u),(25,oL (rankL f)),(1,bx f)]) (fun q=>q.2<=((PredsL f).getD ((ordL f).getD i Enc.d).toNat Enc.d).length/\bestI (upP u) (((PredsL f).getD ((ordL f).getD i Enc.d).toNat Enc.d).take q.2) q.1) (fun q=>((PredsL f).getD ((ordL f).getD i Enc.d).toNat Enc.d).length-q.2) (-1,0) ⟨Nat.zero_le _,.inl ⟨rfl,fun p hp=>by simp at hp⟩⟩ ?_ fun q hq=>?_
   ·refine eP [] [] ?_ ?_<;>repeat' first|exact eN|refine And.intro ?_ ?_
   conv=>whnf
   obtain⟨best,j⟩:=q
   obtain⟨j1,j2⟩:=hq
   simp only at j1 j2
   rcases Nat.lt_or_ge j ((PredsL f).getD ((ordL f).getD i Enc.d).toNat Enc.d).length with hj|hj
   ·obtain⟨p,p1,p2⟩:=preds_rng f ((ordL f).getD i Enc.d).toNat e4 _ (List.getElem_mem hj)
    have p3:((PredsL f).getD ((ordL f).getD i Enc.d).toNat Enc.d).getD j Enc.d=p:=by rw[List.getD_eq_getElem?_getD,List.getElem?_eq_getElem hj];exact p1
    have p4:((PredsL f).getD ((ordL f).getD i Enc.d).toNat Enc.d).take (j+1)=((PredsL f).getD ((ordL f).getD i Enc.d).toNat Enc.d).take j++[(p:Int)]:=by rw[List.take_add_one,List.getElem?_eq_getElem hj,<-p1];rfl
    have p5:u.getD p Enc.d=u.getD p (-1):=by rw[List.getD_eq_getElem?_getD,List.getD_eq_getElem?_getD,List.getElem?_eq_getElem (by omega)];rfl
    have p6:u.getD (((PredsL f).getD ((ordL f).getD i Enc.d).toNat Enc.d).getD j Enc.d).toNat Enc.d=u.getD p (-1):=by rw[p3];exact p5
    cases hp:upP u p with
    |none=>
     have p7:=upP_none hp
     repeat' first|(refine iG (fun hb hc=>?_) (fun hb hc=>?_)<;>first|exact hc.elim|(exfalso;omega)|conv=>whnf)|(refine gqs ?_;conv=>whnf)|(refine yt ?_;conv=>whnf)|exact⟨_,.keep rfl rfl⟩|fail
     refine .mk (best,j+1) ⟨hj,by rw[p4];exact bestI_none j2 hp⟩ (by show _-(j+1)<_-j;omega) ?_
     refine eP [] [] ?_ ?_<;>repeat' first|exact eN|refine And.intro ?_ ?_
    |some w=>
     have p7:=upP_is (by rw[hp];rfl:(upP u p).isSome=true)
     rcases j2 with⟨rfl,j3⟩|⟨c,rfl,j3,j4⟩
     ·repeat' first|(refine iG (fun hb hc=>?_) (fun hb hc=>?_)<;>first|exact hc.elim|(exfalso;omega)|conv=>whnf)|(refine gqs ?_;conv=>whnf)|(refine yt ?_;conv=>whnf)|exact⟨_,.keep rfl rfl⟩|fail
      refine .mk (p,j+1) ⟨hj,by rw[p4];exact bestI_first j3 (by rw[hp];rfl)⟩ (by show _-(j+1)<_-j;omega) ?_
      refine eP [] [] ?_ ?_<;>repeat' first|exact eN|refine And.intro ?_ ?_
     ·obtain⟨d,d1,d2⟩:=nca_ex k4.up _ c p (Nat.le_refl _) j3 (by rw[hp];rfl)
      have hm:=meet_S f h u k2 (by omega) k4.up c p d j3 (by rw[hp];rfl) d2
      rw[<-p3,show eL u=AV.row none 1 f.blocks.length (fun i=>Enc.enc (u.getD i Enc.d)) from by unfold eL;rw[k2];rfl,show eL (rankL f)=AV.row none 1 f.blocks.length (fun i=>Enc.enc ((rankL f).getD i Enc.d)) from by unfold eL;rw[show(rankL f).length=f.blocks.length from rankQ_len f _];rfl] at hm
      have hrl2:(rankL f).length=f.blocks.length:=rankQ_len f _
      repeat' first|(refine iG (fun hb hc=>?_) (fun hb hc=>?_)<;>first|exact hc.elim|(exfalso;omega)|conv=>whnf)|(refine gqs ?_;conv=>whnf)|(refine gqc (x:=fun _=>hm) (k:= ?_);conv=>whnf)|(refine yt ?_;conv=>whnf)|exact⟨_,.keep rfl rfl⟩|fail
      refine .mk (d,j+1) ⟨hj,by rw[p4];exact bestI_meet j4 (by rw[hp];rfl) d1 d2⟩ (by show _-(j+1)<_-j;omega) ?_
      refine eP [] [] ?_ ?_<;>repeat' first|exact eN|refine And.intro ?_ ?_
   ·obtain rfl:j=((PredsL f).getD ((ordL f).getD i Enc.d).toNat Enc.d).length:=by omega
    rw[List.take_length] at j2
    rcases j2 with⟨_,j3⟩|⟨c,rfl,j3,j4⟩
    ·exfalso
     obtain⟨p,q1,q2,q3⟩:=(rkG f h).par ((ordL f).getD i Enc.d).toNat e2 hk0
     have:=k4.pro p q1 (.inl (by omega))
     rw[j3 p ((preds_mem f ((ordL f).getD i Enc.d).toNat p e4).2 ⟨(rkG f h).lt p q1,q2⟩)] at this
     cases this
    ·have hy: ∀y,Anc (upP u) y c↔ ∀p,(rkG f h).E p ((ordL f).getD i Enc.d).toNat->(upP u p).isSome=true->Anc (upP u) y p:=fun y=>(j4 y).trans ⟨fun g p hE hs=>g p ((preds_mem f ((ordL f).getD i Enc.d).toNat p e4).2 ⟨(rkG f h).lt p (up_R k4.up hs),hE⟩) hs,fun g p hm hs=>g p ((preds_mem f ((ordL f).getD i Enc.d).toNat p e4).1 hm).2 hs⟩
     have hst:=(k4.step hk0 e2 (by omega) j3 hy).1
     have hcn:=(rkG f h).lt c (up_R k4.up j3)
     have p5:u.getD ((ordL f).getD i Enc.d).toNat Enc.d=u.getD ((ordL f).getD i Enc.d).toNat (-1):=getD_d u _ (by omega)
     repeat' first|(refine iG (fun hb hc=>?_) (fun hb hc=>?_)<;>first|exact hc.elim|(exfalso;omega)|conv=>whnf)|(refine gqs ?_;conv=>whnf)|(refine yt ?_;conv=>whnf)|exact⟨_,.keep rfl rfl⟩|fail
     ·refine .mk ⟨i+1,u.set ((ordL f).getD i Enc.d).toNat c,true⟩ ⟨hi,by rw[List.length_set];exact k2,fun x=>?_,?_,(fun e=>by cases e),fun _ hKm=>?_⟩ (by show(ordL f).length-(i+1)<(ordL f).length-i;omega) ?_
      ·show-1<=(u.set ((ordL f).getD i Enc.d).toNat (c:Int)).getD x (-1)
       rw[getD_set_i _ _ _ _ (by omega)]
       split
       ·omega
       ·exact k3 x
      ·show DInv _ (upP (u.set ((ordL f).getD i Enc.d).toNat (c:Int))) m (max (i+1) 1)
       rw[upP_set (by omega),show max (i+1) 1=max i 1+1 by omega]
       exact hst
      ·obtain⟨w,hw⟩:=Option.isSome_iff_exists.1 (k4.pro _ e2 (.inr hKm.2))
       have:=k4.fix hK hKm.1 hKm.2 hk0 e2 hw j3 hy
       exact hc (by rw[p5,(upP_some hw).1,this])
      ·refine eP [] [] ?_ ?_<;>repeat' first|exact eN|refine And.intro ?_ ?_
       ·show u.length=(u.set ((ordL f).getD i Enc.d).toNat (c:Int)).length
        rw[List.length_set]
       ·intro x hx
        have hx':x<u.length:=by
         have h9:x<(u.set ((ordL f).getD i Enc.d).toNat (c:Int)).length:=hx
         rwa [List.length_set] at h9
        show setF (fun i=>Enc.enc (u.getD i Enc.d)) ((ordL f).getD i Enc.d).toNat [AV.i .i64 (c:Int)] x=Enc.enc ((u.set ((ordL f).getD i Enc.d).toNat (c:Int)).getD x Enc.d)
        exact set_fun (l:=u) (x:=(c:Int)) rfl x hx'
     ·have hpc:upP u ((ordL f).getD i Enc.d).toNat=some c:=upP_of (by rw[<-p5];omega)
      have hsame:setP (upP u) ((ordL f).getD i Enc.d).toNat c=upP u:=by
       funext x
       by_cases e:x=((ordL f).getD i Enc.d).toNat
       ·rw[e,setP_self,hpc]
       ·exact setP_ne e
      refine .mk ⟨i+1,u,t⟩ ⟨hi,k2,k3,?_,fun e=>⟨(k5 e).1,fun b hb0 hR hlt=>?_⟩,k6⟩ (by show(ordL f).length-(i+1)<(ordL f).length-i;omega) ?_
      ·show DInv _ (upP u) m (max (i+1) 1)
       rw[show max (i+1) 1=max i 1+1 by omega,<-hsame]
       exact hst
      ·rcases Nat.lt_or_ge ((rkG f h).rk b) i with q|q
       ·exact(k5 e).2 b hb0 hR q
       ·have hlt:(rkG f h).rk b<i+1:=hlt
        have:b=((ordL f).getD i Enc.d).toNat:=(rkG f h).inj b _ hR e2 (by omega)
        subst this
        rw[<-(k5 e).1]
        exact⟨c,hpc,j3,hy⟩
      ·refine eP [] [] ?_ ?_<;>repeat' first|exact eN|refine And.intro ?_ ?_
  ·obtain rfl:i=(ordL f).length:=by omega
   have hrk: ∀b,(rkG f h).R b->(rkG f h).rk b<(ordL f).length:=fun b hb=>List.idxOf_lt_length_of_mem hb
   repeat' first|(refine iG (fun hb hc=>?_) (fun hb hc=>?_)<;>first|exact hc.elim|(exfalso;omega)|conv=>whnf)|(refine gqs ?_;conv=>whnf)|(refine yt ?_;conv=>whnf)|exact⟨_,.keep rfl rfl⟩|fail
   refine .mk ⟨m+1,u,t⟩ ⟨k2,k3,k4.turn fun b hb=>by have:=hrk b hb;omega,fun e=>?_,fun e=>⟨Nat.succ_pos m,fun b hb0 hR=>?_⟩⟩ ?_ ?_
   ·show m+1<=K+1
    have:=k6 e
    omega
   ·show fixAt _ (upP u) b
    rw[(k5 e).1]
    exact(k5 e).2 b hb0 hR (hrk b hR)
   ·show(bif t then K+2-(m+1)+1 else 0)<(bif true then K+2-m+1 else 0)
    have:=g4 rfl
    cases t
    ·show 0<K+2-m+1;omega
    ·show K+2-(m+1)+1<K+2-m+1
     have:=k6 rfl
     omega
   ·refine eP [] [] ?_ ?_<;>repeat' first|exact eN|refine And.intro ?_ ?_
 ·have ht:t=false:=by assumption
  have h5:=g5 ht
  have hid:=isIdom_of g1 g2 g3 h5.1 fun b hb0 hR=>h5.2 b hb0 hR
  rw[idomL_eq hid]
  refine⟨_,.freeze (N:=up.length) (by rw[lk_cons,if_pos rfl];rfl) ?_ ?_ (fun x hx=>?_) rfl⟩
  ·simp only[Int.toNat_natCast];omega
  ·simp only[Int.toNat_natCast,List.length_set];omega
  ·rw[List.length_set] at hx
   exact set_fun (l:=up) (x:=(-1:Int)) rfl x hx
theorem bestI_ex {G:RkG} {P:Nat->Option Nat} (hU:Up G P): ∀l:List Nat,∃best,bestI P (l.map fun(p:Nat)=>(p:Int)) best:=by
 have key: ∀l:List Nat,∃best,bestI P (l.reverse.map fun(p:Nat)=>(p:Int)) best:=fun l=>by
  induction l with
  |nil=>exact⟨-1,.inl ⟨rfl,fun p hp=>by simp at hp⟩⟩
  |cons p l ih=>
   obtain⟨best,hb⟩:=ih
   rw[List.reverse_cons,List.map_append]
   cases hp:P p with
   |none=>exact⟨best,bestI_none hb hp⟩
   |some w=>
    have hs:(P p).isSome=true:=by rw[hp];rfl
    rcases hb with⟨rfl,h3⟩|⟨c,rfl,h2,h3⟩
    ·exact⟨p,bestI_first h3 hs⟩
    ·obtain⟨d,d1,d2⟩:=nca_ex hU _ c p (Nat.le_refl _) h2 hs
     exact⟨d,bestI_meet h3 hs d1 d2⟩
 intro l
 have:=key l.reverse
 rwa [List.reverse_reverse] at this
theorem dinv_ex (f : FnE) (h : 0 < f.blocks.length) : ∀ m, ∃ P, DInv (rkG f h) P m 1 := by
  have step : ∀ P m r, 1 ≤ r → DInv (rkG f h) P m r → ∃ P', DInv (rkG f h) P' m (r + 1) := fun P m r h1 hd => by
    by_cases hex : ∃ b, (rkG f h).R b ∧ (rkG f h).rk b = r
    · obtain ⟨b, hR, hr⟩ := hex
      have hb0 : b ≠ 0 := fun e => by subst e; have := (rkG f h).zero.2; omega
      obtain ⟨best, hb⟩ := bestI_ex hd.up ((List.range f.blocks.length).filter fun p => decide ((b : Int) ∈ Succs f p))
      have hm : ∀ p : Nat, (p : Int) ∈ ((List.range f.blocks.length).filter fun p : Nat => decide ((b : Int) ∈ Succs f p)).map (fun (p : Nat) => (p : Int)) ↔ (p < f.blocks.length ∧ (b : Int) ∈ Succs f p) := fun p => by
        simp only [List.mem_map, List.mem_filter, List.mem_range, decide_eq_true_eq]
        exact ⟨fun ⟨q, h1, h2⟩ => by have : q = p := by omega
                                     subst this; exact h1, fun h1 => ⟨p, h1, rfl⟩⟩
      rcases hb with ⟨_, h3⟩ | ⟨c, _, h2, h3⟩
      · exfalso
        obtain ⟨p, q1, q2, q3⟩ := (rkG f h).par b hR hb0
        have := hd.pro p q1 (.inl (by omega))
        rw [h3 p ((hm p).2 ⟨(rkG f h).lt p q1, q2⟩)] at this
        cases this
      · exact ⟨_, (hd.step hb0 hR hr h2 fun y => (h3 y).trans ⟨fun g p hE hs => g p ((hm p).2 ⟨(rkG f h).lt p (up_R hd.up hs), hE⟩) hs, fun g p hp hs => g p ((hm p).1 hp).2 hs⟩).1⟩
    · refine ⟨P, hd.up, hd.snd, hd.old, fun b y hb hlt ha => ?_, fun b hR hor => ?_, fun h0 b hb => Nat.lt_succ_of_lt (hd.ini h0 b hb)⟩
      · rcases Nat.lt_or_ge ((rkG f h).rk b) r with q | q
        · exact hd.cur b y hb q ha
        · exact absurd ⟨b, hd.rch hb, by omega⟩ hex
      · rcases hor with q | q
        · rcases Nat.lt_or_ge ((rkG f h).rk b) r with q1 | q1
          · exact hd.pro b hR (.inl q1)
          · exact absurd ⟨b, hR, by omega⟩ hex
        · exact hd.pro b hR (.inr q)
  have pass : ∀ P m, DInv (rkG f h) P m 1 → ∃ P', DInv (rkG f h) P' (m + 1) 1 := fun P m hd => by
    have all : ∀ k, ∃ P', DInv (rkG f h) P' m (k + 1) := fun k => by
      induction k with
      | zero => exact ⟨P, hd⟩
      | succ k ih =>
        obtain ⟨P', h'⟩ := ih
        exact step P' m (k + 1) (by omega) h'
    obtain ⟨P', h'⟩ := all f.blocks.length
    exact ⟨P', h'.turn fun b hb => by have := rk_lt_n f h b hb; exact Nat.lt_succ_of_lt this⟩
  intro m
  induction m with
  | zero => exact ⟨upP (up0 f.blocks.length), DInv.start (by unfold upP; rw [up0_at _ _ h]; rfl) fun b hb => by unfold upP; rw [up0_at _ _ h, if_neg hb]; rfl⟩
  | succ m ih =>
    obtain ⟨P, hd⟩ := ih
    exact pass P m hd
theorem isIdom_ex (f:FnE) (h:0<f.blocks.length):isIdom f h (idomL f):=by
 obtain⟨K,hK⟩:=ap_bound (rkG f h)
 obtain⟨P,hd⟩:=dinv_ex f h (K+1)
 have hl:isIdom f h ((List.range f.blocks.length).map fun b=>if b=0 then-1 else match P b with
  |some p=>(p:Int)
  |none=>-1):=by
  refine⟨by rw[List.length_map,List.length_range],P,hd.up,fun b hb=>hd.pro b hb (.inr (by omega)),fun b y hb=>hd.dom hK (by omega) (hd.pro b hb (.inr (by omega))),fun b hb=>?_⟩
  rw[List.getD_eq_getElem?_getD,List.getElem?_map,List.getElem?_range hb];rfl
 rw[idomL_eq hl];exact hl
theorem tab_anc {f:FnE} {h:0<f.blocks.length} {P:Nat->Option Nat} (hP: ∀b d,(rkG f h).R b->(Anc P d b↔ ¬RG f d b)) {T:List (List Bool)} (hT:isTab f T) {b d:Nat} (hb:(rkG f h).R b) (hd:d<f.blocks.length):(T.getD d []).getD b false=true↔Anc P d b:=by
 have hbn:=(rkG f h).lt b hb
 rw[(hT.2 d hd).2 b hbn,hP b d hb]
 have hbr:RG f (-1) b:=(ordL_mem f b hbn).1 hb
 constructor
 ·rintro ⟨_,_,rfl|h3⟩
  ·intro hr
   generalize hg:(d:Int)=g at hr
   cases hr with
   |zero _ h0=>omega
   |step hr' ht hne=>rename_i c t;have:=Succs_mem ht;omega
  ·exact h3
 ·intro h3
  refine⟨?_,hbr,.inr h3⟩
  apply Classical.byContradiction
  intro hn
  refine h3 ?_
  clear h3 hb hbn
  induction hbr with
  |zero h1 h2=>
   refine .zero h1 fun e=>hn ?_
   have:d=0:=by omega
   subst this
   exact .zero h1 (by decide)
  |step hr ht hne ih=>
   have hs:=Succs_mem ht
   exact .step ih ht fun e=>hn (by have:=RG.step hr ht hne;rw[e] at this;simpa using this)
def madN (F:List Int->Int) (x:InsE) (p:Plc):List Int->Int:=fun l=>if Result x=0 then F l else msetS F x.reg [p.f,p.b,p.i] l
def pmO (k:Nat) (F:List Int->Int) (p3:Nat):Obj:= .mp (mapS Tryz.prog 3 32 [.i64,.i64,.i64] k F) p3 k F
def maO (a b:Nat) (p2:Option Nat) (p3:Nat) (k:Nat) (F:List Int->Int):Os:=[(a,.box p2 (some 114) [.omap b]),(b,pmO k F p3)]
theorem maClo {a b:Nat} {p2:Option Nat} {p3:Nat} {k:Nat} {F:List Int->Int}:Clo (.tup []) (maO a b p2 p3 k F):=by
 refine⟨fun id hm=>(nomatch hm),fun i ob hl id hm=>?_⟩
 have hmem:=lk_mem hl
 simp only[maO,List.mem_cons,List.not_mem_nil,or_false,Prod.mk.injEq] at hmem
 rcases hmem with⟨rfl,rfl⟩|⟨_,rfl⟩
 ·simp only[omen,mens,men,Bool.or_false] at hm
  have:=Nat.eq_of_beq_eq_true hm;subst this
  unfold maO
  rw[lk_cons]
  split
  ·rfl
  ·rw[lk_cons,if_pos rfl];rfl
 ·cases hm
theorem order1_S (x:InsE) (p:Plc) (k:Nat) (F:List Int->Int) (hk:k<4294967296) (hr:inI x.reg):
  ASpecF true Tryz.prog 66 [eS x,eS p,.op 1004 0] (maO 1004 1015 none 0 k F) (.tup []) (maO 1004 1015 none 0 (k+1) (madN F x p)):=by
 refine ASpecM.enter TYok mixed Tryz.func66 rfl Tryz.call66 Tryz.ntmps66 rfl (rs:=[]) rfl (maClo) rfl (keep:=[0,1,2,3,4]) fun pin=>?_;conv=>whnf
 repeat' first|(refine iG (fun hb hc=>?_) (fun hb hc=>?_)<;>first|exact hc.elim|(exfalso;omega)|conv=>whnf)|(refine gqs ?_;conv=>whnf)|(refine gqc (x:=fun _=>irResult_S _) (k:= ?_);conv=>whnf)|(refine yt ?_;conv=>whnf)|exact⟨_,.keep rfl rfl⟩|fail
 ·refine And.intro ⟨by omega,hr,trivial⟩ ?_
  conv=>whnf
  repeat' first|(refine iG (fun hb hc=>?_) (fun hb hc=>?_)<;>first|exact hc.elim|(exfalso;omega)|conv=>whnf)|(refine gqs ?_;conv=>whnf)|(refine yt ?_;conv=>whnf)|exact⟨_,.keep rfl rfl⟩|fail
  refine⟨[],[],trivial,?_,rfl⟩
  repeat' first|exact eN|refine And.intro ?_ ?_
  exact mapS_le (by omega) fun i z=>by rw[madN,if_neg hc]
 ·refine⟨[],[],trivial,?_,rfl⟩
  repeat' first|exact eN|refine And.intro ?_ ?_
  exact mapS_le (by omega) fun i z=>by rw[madN,if_pos hc]
def madM (f:FnE) (n:Int):Nat->List Int->Int
 |0=>fun _=>0
 |j+1=>madN (madM f n j) ((C1 f).getD j Enc.d) (plE f n j)
theorem order1_R (x:InsE) (p:Plc) (k:Nat) (F:List Int->Int) (hk:k<4294967296) (hr:inI x.reg):
  ASpecF true Tryz.prog 66 [eS x,eS p,.op 4 0] (maO 4 15 none 0 k F) (.tup []) (maO 4 15 none 0 (k+1) (madN F x p)):=((order1_S x p k F hk hr).ren (swp 1004 4) (swp 1004 4) (swp_swp _ _)).ren (swp 1015 15) (swp 1015 15) (swp_swp _ _)
theorem eachOrd1_O (m:ModE) (f:FnE) (n:Int) (ty:AV) (hf:siz f<4294967296) (hr: ∀b i,inI (iAt f b i).reg):
  ASpecO true Tryz.prog 28 [.cp (ckC m f n ty),.clo 66 [.op 4 0]] (maO 4 15 none 0 (0) (madM f n (0))) ((eachF f n (fun _ _=>0)).code=0) (.tup []) (maO 4 15 none 0 ((Code f).length) (madM f n ((Code f).length))) (vflt (eachF f n (fun _ _=>0)).code (eachF f n (fun _ _=>0)).at') []:=by
 have h1:=blocks_le f
 have h0:=Code_siz f
 refine ASpecO.enter TYok mixed Tryz.func28 rfl Tryz.call28 Tryz.ntmps28 rfl (rs:=[]) rfl (maClo) (Clo.one rfl) rfl (keep:=[0,1,4,5,6,7,12,13,14,20,21,22]) fun pin=>?_;conv=>whnf
 repeat' first|(refine iG (fun hb hc=>?_) (fun hb hc=>?_)<;>first|exact hc.elim|(exfalso;omega)|conv=>whnf)|(refine gqs ?_;conv=>whnf)|(refine yt ?_;conv=>whnf)|exact⟨_,.keep rfl rfl⟩|fail
 refine lp [14] (fun b:Nat=>[.i .i64 b]) (fun b=>(maO 4 15 (some (pin 4)) (pin 15+1) ((codeTo f b 0).length) (madM f n ((codeTo f b 0).length)))) (fun b=>b<=f.blocks.length/\ ∀j,j<(codeTo f b 0).length->(eacC f n (fun _ _=>0) j).code=0) (fun b=>f.blocks.length-b) 0 ⟨by omega,fun i h=>by simp[codeTo,pairs] at h⟩ ?_ fun b hq=>?_
 ·refine eP [] [] ?_ ?_<;>repeat' first|exact eN|refine And.intro ?_ ?_
  exact fun _ h=>h
 conv=>whnf
 obtain⟨hb1,hv1⟩:=hq
 have h2:=iLen_siz f b
 have h3:iLen f b=(f.blocks.getD b Enc.d).code.length:=rfl
 repeat' first|(refine iG (fun hb hc=>?_) (fun hb hc=>?_)<;>first|exact hc.elim|(exfalso;omega)|conv=>whnf)|(refine gqs ?_;conv=>whnf)|(refine yt ?_;conv=>whnf)|exact⟨_,.keep rfl rfl⟩|fail
 ·refine lp [22] (fun i:Nat=>[.i .i64 i]) (fun i=>(5,bx (f.blocks.getD b Enc.d))::(maO 4 15 (some (pin 4)) (pin 15+1) ((codeTo f b i).length) (madM f n ((codeTo f b i).length)))) (fun i=>i<=iLen f b/\ ∀j,j<(codeTo f b i).length->(eacC f n (fun _ _=>0) j).code=0) (fun i=>iLen f b-i) 0 ⟨by omega,hv1⟩ ?_ fun i hq2=>?_
  ·refine eP [] [] ?_ ?_<;>repeat' first|exact eN|refine And.intro ?_ ?_
   exact fun _ h=>h
  conv=>whnf
  obtain⟨hi1,hv2⟩:=hq2
  have hkl:i<iLen f b->(codeTo f b i).length<(Code f).length:=fun h=>kd_lt (by omega) h
  repeat' first|(refine iG (fun hb hc=>?_) (fun hb hc=>?_)<;>first|exact hc.elim|(exfalso;omega)|conv=>whnf)|(refine gqs ?_;conv=>whnf)|(refine gqm (x:=order1_R (iAt f b i) ⟨n,b,i⟩ (codeTo f b i).length (madM f n (codeTo f b i).length) (by omega) (hr b i)) (k:= ?_);conv=>whnf)|(refine yt ?_;conv=>whnf)|exact⟨_,.keep rfl rfl⟩|fail
  ·refine .mk (i+1) ⟨by omega,eac_step (by omega) (by omega) hv2 rfl⟩ (by omega) ?_
   refine eP [] [] ?_ ?_<;>repeat' first|exact eN|refine And.intro ?_ ?_
   exact mapS_le (by rw[kdl f b (i+1),kdl f b i];omega) fun j z=>by rw[kdl f b (i+1),<-Nat.add_assoc,<-kdl,madM,kd_1 (by omega) (by omega:i<iLen f b),plE,kd_2 (by omega) (by omega:i<iLen f b)]
  ·obtain rfl:i=iLen f b:=by omega
   refine .mk (b+1) ⟨by omega,by rw[kd_nx];exact hv2⟩ (by omega) ?_
   refine eP [] [] ?_ ?_<;>repeat' first|exact eN|refine And.intro ?_ ?_
   exact mapS_le (by rw[kd_nx];exact Nat.le_refl _) fun j z=>by rw[kd_nx]
 ·obtain rfl:b=f.blocks.length:=by omega
  have e:=eachF_no hv1
  refine⟨by rw[e],?_⟩
  conv=>whnf
  refine⟨[],[],trivial,?_,rfl⟩
  repeat' first|exact eN|refine And.intro ?_ ?_
  exact fun _ h=>h
def ordE (f:FnE) (R:List Bool) (T:List (List Bool)) (F:List Int->Int) (x:InsE) (b i:Nat) (k:Nat):Int:=
 if¬(x.args.getD k Enc.d).k=1\/(x.args.getD k Enc.d).n<f.params.length then 0
 else if R.getD b Enc.d=false then 0
 else if x.op=25 then
  if R.getD (x.to.getD k Enc.d).toNat Enc.d=false then 0
  else if(T.getD (F [1,(x.args.getD k Enc.d).n]).toNat Enc.d).getD (x.to.getD k Enc.d).toNat Enc.d=false then 11 else 0
 else if F [1,(x.args.getD k Enc.d).n]=b then
  if F [2,(x.args.getD k Enc.d).n]<i then 0 else 11
 else if(T.getD (F [1,(x.args.getD k Enc.d).n]).toNat Enc.d).getD b Enc.d=false then 11 else 0
noncomputable def oaO (m:ModE) (f:FnE) (n:Int) (ty:AV) (R:List Bool) (p1 p3 p2 p4:Option Nat) (p15:Nat) (k:Nat) (F:List Int->Int):Os:=
 [(1,.box p1 (some 74) [.cp (ckC m f n ty)]),(3,.box p3 (some 112) [eL R]),(2,.box p2 (some 39) [eL (idomL f)]),(4,.box p4 (some 114) [.omap 15]),(15,pmO k F p15)]
theorem oaClo {m:ModE} {f:FnE} {n:Int} {ty:AV} {R:List Bool} {p1 p3 p2 p4:Option Nat} {p15:Nat} {k:Nat} {F:List Int->Int}:Clo (.tup []) (oaO m f n ty R p1 p3 p2 p4 p15 k F):=by
 refine⟨fun id hm=>(nomatch hm),fun i ob hl id hm=>?_⟩
 have hmem:=lk_mem hl
 simp only[oaO,List.mem_cons,List.not_mem_nil,or_false,Prod.mk.injEq] at hmem
 rcases hmem with⟨_,rfl⟩|⟨_,rfl⟩|⟨_,rfl⟩|⟨_,rfl⟩|⟨_,rfl⟩
 ·cases hm
 ·cases hm
 ·cases hm
 ·simp only[omen,mens,men,Bool.or_false] at hm
  have:=Nat.eq_of_beq_eq_true hm;subst this;rfl
 ·cases hm
theorem order2_O (m:ModE) (f:FnE) (n:Int) (ty:AV) (R:List Bool) (T:List (List Bool)) (K:Nat) (F:List Int->Int) (x:InsE) (b i:Nat) (h:0<f.blocks.length) (hs:siz f<4294967296) (hx:siz x<4294967296) (hR:isRG f (-1) R) (hT:isTab f T) (hb0:b<f.blocks.length)
  (hr: ∀k,inI (x.args.getD k Enc.d).n) (hF: ∀k,k<x.args.length->(x.args.getD k Enc.d).k=1-> ¬(x.args.getD k Enc.d).n<f.params.length->0<=F [1,(x.args.getD k Enc.d).n]/\F [1,(x.args.getD k Enc.d).n]<f.blocks.length)
  (hp:x.op=25->x.args.length=x.to.length/\ ∀t∈x.to,0<=t/\t<f.blocks.length):
  ASpecO true Tryz.prog 67 [eS x,eS (⟨n,b,i⟩:Plc),.op 1 0,.op 3 0,.op 4 0,.op 2 0] (oaO m f n ty R none none none none 0 K F) (∀k,k<x.args.length->ordE f R T F x b i k=0) (.tup []) (oaO m f n ty R none none none none 0 K F) (vflt (firstV (ordE f R T F x b i) x.args.length) ⟨n,b,i⟩) []:=by
 have h1:=args_le x
 have hR1:=hR.1
 have h4:=blocks_le f
 have h5:=params_le f
 obtain⟨P,hU,hA,hup⟩:=isIdom_up (isIdom_ex f h)
 have hul:=(isIdom_ex f h).1
 refine ASpecO.enter TYok mixed Tryz.func67 rfl Tryz.call67 Tryz.ntmps67 rfl (rs:=[]) rfl (oaClo) (Clo.one rfl) rfl (keep:=[0,1,2,3,4,5,6,7,8,9,10,11,13,14,15]) fun pin=>?_;conv=>whnf
 repeat' first|(refine iG (fun hb hc=>?_) (fun hb hc=>?_)<;>first|exact hc.elim|(exfalso;omega)|conv=>whnf)|(refine gqs ?_;conv=>whnf)|(refine yt ?_;conv=>whnf)|exact⟨_,.keep rfl rfl⟩|fail
 refine lp [15] (fun k:Nat=>[.i .i64 k]) (fun k=>(6,bx x)::(7,bx (⟨n,b,i⟩:Plc))::oaO m f n ty R (some (pin 1)) (some (pin 3)) (some (pin 2)) (some (pin 4)) (pin 15+1) K F) (fun k=>k<=x.args.length/\ ∀j,j<k->ordE f R T F x b i j=0) (fun k=>x.args.length-k) 0 ⟨Nat.zero_le _,fun j h=>by omega⟩ ?_ fun k hk=>?_
 ·refine eP [] [] ?_ ?_<;>repeat' first|exact eN|refine And.intro ?_ ?_
  all_goals exact fun _ h=>h
 conv=>whnf
 obtain⟨hk1,hv⟩:=hk
 repeat' first|(refine iG (fun hb hc=>?_) (fun hb hc=>?_)<;>first|exact hc.elim|(exfalso;omega)|conv=>whnf)|(refine gqs ?_;conv=>whnf)|(refine yt ?_;conv=>whnf)|exact⟨_,.keep rfl rfl⟩|fail
 ·refine .mk (k+1) ⟨by omega,all_step hv ?_⟩ (by show _-(k+1)<_-k;omega) ?_
  ·rcases hc with q|q
   ·rw[ordE,if_pos q]
   ·by_cases q2: ¬(x.args.getD k Enc.d).k=1\/(x.args.getD k Enc.d).n<f.params.length
    ·rw[ordE,if_pos q2]
    ·rw[ordE,if_neg q2,if_pos q]
  ·refine eP [] [] ?_ ?_<;>repeat' first|exact eN|refine And.intro ?_ ?_
   all_goals exact fun _ h=>h
 ·have hd:=hF k (by omega) hc.1.1 hc.1.2
  have hq1: ¬(¬(x.args.getD k Enc.d).k=1\/(x.args.getD k Enc.d).n<f.params.length):=fun q=>q.elim (fun q=>q hc.1.1) hc.1.2
  have hq2: ¬R.getD b Enc.d=false:=by rw[hc.2];simp
  refine And.intro ⟨hr k,trivial⟩ ?_
  conv=>whnf
  repeat' first|(refine iG (fun hb hc=>?_) (fun hb hc=>?_)<;>first|exact hc.elim|(exfalso;omega)|conv=>whnf)|(refine gqs ?_;conv=>whnf)|((first|refine CallV.pan ?_|refine CallW.pan ?_);(conv=>whnf);refine cP (must_O _ _ _) (fun ht=>?_) (fun ht=>?_)<;>conv=>whnf)|(refine yt ?_;conv=>whnf)|exact⟨_,.keep rfl rfl⟩|fail
  ·obtain⟨hp1,hp2⟩:=hp hc
   have hkt:k<x.to.length:=by omega
   have htm:x.to.getD k Enc.d∈x.to:=by rw[List.getD_eq_getElem?_getD,List.getElem?_eq_getElem hkt];exact List.getElem_mem hkt
   have htr:=hp2 _ htm
   have hop:=hc
   refine And.intro ⟨by simp only[Int.toNat_natCast];omega,by simp only[Int.toNat_natCast];omega⟩ ?_
   conv=>whnf
   repeat' first|(refine iG (fun hb hc=>?_) (fun hb hc=>?_)<;>first|exact hc.elim|(exfalso;omega)|conv=>whnf)|(refine gqs ?_;conv=>whnf)|(refine yt ?_;conv=>whnf)|exact⟨_,.keep rfl rfl⟩|fail
   ·refine .mk (k+1) ⟨by omega,all_step hv ?_⟩ (by show _-(k+1)<_-k;omega) ?_
    ·rw[ordE,if_neg hq1,if_neg hq2,if_pos hop,if_pos hc]
    ·refine eP [] [] ?_ ?_<;>repeat' first|exact eN|refine And.intro ?_ ?_
     all_goals exact fun _ h=>h
   have hq3: ¬R.getD (x.to.getD k Enc.d).toNat Enc.d=false:=by
    intro q
    have:R.getD (x.to.getD k Enc.d).toNat Enc.d=true:=hc
    rw[this] at q;cases q
   have eB:x.to.getD k Enc.d=(((x.to.getD k Enc.d).toNat:Nat):Int):=by omega
   have hRB:(rkG f h).R (x.to.getD k Enc.d).toNat:=(ordL_mem f _ (by omega)).2 ((hR.2 _ (by omega)).1 hc)
   have hTB:=tab_anc hA hT hRB (d:=(F [1,(x.args.getD k Enc.d).n]).toNat) (by omega)
   refine lp [11] (fun z:Int=>[.i .i64 z]) (fun z=>(10,.box none (some 32) [.i .i64 (F [0,(x.args.getD k Enc.d).n]),.i .i64 (F [1,(x.args.getD k Enc.d).n]),.i .i64 (F [2,(x.args.getD k Enc.d).n])])::(9,.box none (some 56) (Enc.enc (x.args.getD k Enc.d)))::(6,bx x)::(7,bx (⟨n,b,i⟩:Plc))::oaO m f n ty R (some (pin 1)) (some (pin 3)) (some (pin 2)) (some (pin 4)) (pin 15+1) K F) (fun z=>(∃c:Nat,z=c/\(rkG f h).R c/\(Anc P (F [1,(x.args.getD k Enc.d).n]).toNat (x.to.getD k Enc.d).toNat↔Anc P (F [1,(x.args.getD k Enc.d).n]).toNat c))\/(z= -1/\ ¬Anc P (F [1,(x.args.getD k Enc.d).n]).toNat (x.to.getD k Enc.d).toNat)) (fun z=>if z<0 then 0 else(rkG f h).rk z.toNat+1) ((x.to.getD k Enc.d).toNat:Nat) (.inl ⟨(x.to.getD k Enc.d).toNat,rfl,hRB,Iff.rfl⟩) ?_ fun z hz=>?_
   ·refine eP [] [] ?_ ?_<;>repeat' first|exact eN|refine And.intro ?_ ?_
    all_goals first|exact eB|exact fun _ h=>h
   conv=>whnf
   rcases hz with⟨c,rfl,z1,z2⟩|⟨rfl,z2⟩
   ·have z3:=(rkG f h).lt c z1
    have z3':c<f.blocks.length:=z3
    have z4:=hup c z1
    have z5:(idomL f).getD c Enc.d=(idomL f).getD c (-1):=getD_d _ _ (by omega)
    repeat' first|(refine iG (fun hb hc=>?_) (fun hb hc=>?_)<;>first|exact hc.elim|(exfalso;omega)|conv=>whnf)|(refine gqs ?_;conv=>whnf)|((first|refine CallV.pan ?_|refine CallW.pan ?_);(conv=>whnf);refine cP (must_O _ _ _) (fun ht=>?_) (fun ht=>?_)<;>conv=>whnf)|(refine yt ?_;conv=>whnf)|exact⟨_,.keep rfl rfl⟩|fail
    ·have hne:(F [1,(x.args.getD k Enc.d).n]).toNat≠c:=fun e=>hc.2 (by show(c:Int)=F [1,(x.args.getD k Enc.d).n];omega)
     rcases z4 with⟨rfl,y1⟩|⟨y0,p,y1,y2,y3,y4⟩
     ·refine .mk (-1) (.inr ⟨rfl,fun q=>hne (z2.1 q).root⟩) (by show(if(-1:Int)<0 then 0 else _)<(if((0:Nat):Int)<0 then 0 else _+1);rw[if_pos (by decide),if_neg (by decide)];omega) ?_
      refine eP [] [] ?_ ?_<;>repeat' first|exact eN|refine And.intro ?_ ?_
      all_goals first|exact z5.trans y1|exact fun _ h=>h
     ·refine .mk (p:Int) (.inl ⟨p,rfl,y3,z2.trans ⟨fun q=>q.inv hne y2,fun q=>.up c p y0 y2 q⟩⟩) (by show(if(p:Int)<0 then 0 else(rkG f h).rk (p:Int).toNat+1)<(if(c:Int)<0 then 0 else(rkG f h).rk (c:Int).toNat+1);rw[if_neg (by omega),if_neg (by omega)];simp only[Int.toNat_natCast];omega) ?_
      refine eP [] [] ?_ ?_<;>repeat' first|exact eN|refine And.intro ?_ ?_
      all_goals first|exact z5.trans y1|exact fun _ h=>h
    ·have hce:(F [1,(x.args.getD k Enc.d).n]).toNat=c:=by
      have:(c:Int)=F [1,(x.args.getD k Enc.d).n]:=by simpa using ht
      omega
     have hT2:=hTB.2 (z2.2 (hce▸ .self))
     refine .mk (k+1) ⟨by omega,all_step hv ?_⟩ (by show _-(k+1)<_-k;omega) ?_
     ·rw[ordE,if_neg hq1,if_neg hq2,if_pos hop,if_neg hq3,if_neg (fun q=>?_)]
      have q2:(T.getD (F [1,(x.args.getD k Enc.d).n]).toNat []).getD (x.to.getD k Enc.d).toNat false=false:=q
      rw[hT2] at q2;cases q2
     ·refine eP [] [] ?_ ?_<;>repeat' first|exact eN|refine And.intro ?_ ?_
      all_goals exact fun _ h=>h
    ·exfalso
     have h9: ¬((c:Int)=F [1,(x.args.getD k Enc.d).n]):=by simpa using ht
     rcases hc with q|q
     ·omega
     ·exact h9 q
   ·repeat' first|(refine iG (fun hb hc=>?_) (fun hb hc=>?_)<;>first|exact hc.elim|(exfalso;omega)|conv=>whnf)|(refine gqs ?_;conv=>whnf)|((first|refine CallV.pan ?_|refine CallW.pan ?_);(conv=>whnf);refine cP (must_O _ _ _) (fun ht=>?_) (fun ht=>?_)<;>conv=>whnf)|(refine yt ?_;conv=>whnf)|exact⟨_,.keep rfl rfl⟩|fail
    ·exfalso
     have h9:(-1:Int)=F [1,(x.args.getD k Enc.d).n]:=by simpa using ht
     omega
    ·refine pzF (q:=k) (by omega) hv ?_
     have hT2: ¬(T.getD (F [1,(x.args.getD k Enc.d).n]).toNat []).getD (x.to.getD k Enc.d).toNat false=true:=fun q=>z2 (hTB.1 q)
     rw[ordE,if_neg hq1,if_neg hq2,if_pos hop,if_neg hq3,if_pos]
     exact Bool.eq_false_iff.2 hT2
  ·have h9:F [1,(x.args.getD k Enc.d).n]=b:=hc
   have h10:F [2,(x.args.getD k Enc.d).n]<i:=by simpa using ht
   refine .mk (k+1) ⟨by omega,all_step hv ?_⟩ (by show _-(k+1)<_-k;omega) ?_
   ·rw[ordE,if_neg hq1,if_neg hq2,if_neg (by assumption),if_pos h9,if_pos h10]
   ·refine eP [] [] ?_ ?_<;>repeat' first|exact eN|refine And.intro ?_ ?_
    all_goals exact fun _ h=>h
  ·have h9:F [1,(x.args.getD k Enc.d).n]=b:=hc
   have h10: ¬F [2,(x.args.getD k Enc.d).n]<i:=by simpa using ht
   refine pzF (q:=k) (by omega) hv ?_
   rw[ordE,if_neg hq1,if_neg hq2,if_neg (by assumption),if_pos h9,if_neg h10]
  ·exact absurd hc hq2
  have hop: ¬x.op=25:=by assumption
  have h9: ¬F [1,(x.args.getD k Enc.d).n]=b:=by assumption
  have hRB:(rkG f h).R b:=(ordL_mem f _ hb0).2 ((hR.2 _ hb0).1 hc)
  have hTB:=tab_anc hA hT hRB (d:=(F [1,(x.args.getD k Enc.d).n]).toNat) (by omega)
  refine lp [11] (fun z:Int=>[.i .i64 z]) (fun z=>(10,.box none (some 32) [.i .i64 (F [0,(x.args.getD k Enc.d).n]),.i .i64 (F [1,(x.args.getD k Enc.d).n]),.i .i64 (F [2,(x.args.getD k Enc.d).n])])::(9,.box none (some 56) (Enc.enc (x.args.getD k Enc.d)))::(6,bx x)::(7,bx (⟨n,b,i⟩:Plc))::oaO m f n ty R (some (pin 1)) (some (pin 3)) (some (pin 2)) (some (pin 4)) (pin 15+1) K F) (fun z=>(∃c:Nat,z=c/\(rkG f h).R c/\(Anc P (F [1,(x.args.getD k Enc.d).n]).toNat b↔Anc P (F [1,(x.args.getD k Enc.d).n]).toNat c))\/(z= -1/\ ¬Anc P (F [1,(x.args.getD k Enc.d).n]).toNat b)) (fun z=>if z<0 then 0 else(rkG f h).rk z.toNat+1) (b:Nat) (.inl ⟨b,rfl,hRB,Iff.rfl⟩) ?_ fun z hz=>?_
  ·refine eP [] [] ?_ ?_<;>repeat' first|exact eN|refine And.intro ?_ ?_
   all_goals first|exact rfl|exact fun _ h=>h
  conv=>whnf
  rcases hz with⟨c,rfl,z1,z2⟩|⟨rfl,z2⟩
  ·have z3:=(rkG f h).lt c z1
   have z3':c<f.blocks.length:=z3
   have z4:=hup c z1
   have z5:(idomL f).getD c Enc.d=(idomL f).getD c (-1):=getD_d _ _ (by omega)
   repeat' first|(refine iG (fun hb hc=>?_) (fun hb hc=>?_)<;>first|exact hc.elim|(exfalso;omega)|conv=>whnf)|(refine gqs ?_;conv=>whnf)|((first|refine CallV.pan ?_|refine CallW.pan ?_);(conv=>whnf);refine cP (must_O _ _ _) (fun ht=>?_) (fun ht=>?_)<;>conv=>whnf)|(refine yt ?_;conv=>whnf)|exact⟨_,.keep rfl rfl⟩|fail
   ·have hne:(F [1,(x.args.getD k Enc.d).n]).toNat≠c:=fun e=>hc.2 (by show(c:Int)=F [1,(x.args.getD k Enc.d).n];omega)
    rcases z4 with⟨rfl,y1⟩|⟨y0,p,y1,y2,y3,y4⟩
    ·refine .mk (-1) (.inr ⟨rfl,fun q=>hne (z2.1 q).root⟩) (by show(if(-1:Int)<0 then 0 else _)<(if((0:Nat):Int)<0 then 0 else _+1);rw[if_pos (by decide),if_neg (by decide)];omega) ?_
     refine eP [] [] ?_ ?_<;>repeat' first|exact eN|refine And.intro ?_ ?_
     all_goals first|exact z5.trans y1|exact fun _ h=>h
    ·refine .mk (p:Int) (.inl ⟨p,rfl,y3,z2.trans ⟨fun q=>q.inv hne y2,fun q=>.up c p y0 y2 q⟩⟩) (by show(if(p:Int)<0 then 0 else(rkG f h).rk (p:Int).toNat+1)<(if(c:Int)<0 then 0 else(rkG f h).rk (c:Int).toNat+1);rw[if_neg (by omega),if_neg (by omega)];simp only[Int.toNat_natCast];omega) ?_
     refine eP [] [] ?_ ?_<;>repeat' first|exact eN|refine And.intro ?_ ?_
     all_goals first|exact z5.trans y1|exact fun _ h=>h
   ·have hce:(F [1,(x.args.getD k Enc.d).n]).toNat=c:=by
     have:(c:Int)=F [1,(x.args.getD k Enc.d).n]:=by simpa using ht
     omega
    have hT2:=hTB.2 (z2.2 (hce▸ .self))
    refine .mk (k+1) ⟨by omega,all_step hv ?_⟩ (by show _-(k+1)<_-k;omega) ?_
    ·rw[ordE,if_neg hq1,if_neg hq2,if_neg hop,if_neg h9,if_neg (fun q=>?_)]
     have q2:(T.getD (F [1,(x.args.getD k Enc.d).n]).toNat []).getD b false=false:=q
     rw[hT2] at q2;cases q2
    ·refine eP [] [] ?_ ?_<;>repeat' first|exact eN|refine And.intro ?_ ?_
     all_goals exact fun _ h=>h
   ·exfalso
    have h9: ¬((c:Int)=F [1,(x.args.getD k Enc.d).n]):=by simpa using ht
    rcases hc with q|q
    ·omega
    ·exact h9 q
  ·repeat' first|(refine iG (fun hb hc=>?_) (fun hb hc=>?_)<;>first|exact hc.elim|(exfalso;omega)|conv=>whnf)|(refine gqs ?_;conv=>whnf)|((first|refine CallV.pan ?_|refine CallW.pan ?_);(conv=>whnf);refine cP (must_O _ _ _) (fun ht=>?_) (fun ht=>?_)<;>conv=>whnf)|(refine yt ?_;conv=>whnf)|exact⟨_,.keep rfl rfl⟩|fail
   ·exfalso
    have h9:(-1:Int)=F [1,(x.args.getD k Enc.d).n]:=by simpa using ht
    omega
   ·refine pzF (q:=k) (by omega) hv ?_
    have hT2: ¬(T.getD (F [1,(x.args.getD k Enc.d).n]).toNat []).getD b false=true:=fun q=>z2 (hTB.1 q)
    rw[ordE,if_neg hq1,if_neg hq2,if_neg hop,if_neg h9,if_pos]
    exact Bool.eq_false_iff.2 hT2
 ·refine⟨fun j hj=>hv j (by omega),?_⟩
  conv=>whnf
  refine⟨[],[],trivial,?_,rfl⟩
  repeat' first|exact eN|refine And.intro ?_ ?_
  exact fun _ h=>h
noncomputable def ordPl (f:FnE) (R:List Bool) (T:List (List Bool)) (F:List Int->Int):InsE->Plc->Int:=fun x p=>firstV (ordE f R T F x p.b.toNat p.i.toNat) x.args.length
structure OrdOk (f:FnE) (F:List Int->Int) (x:InsE):Prop where
 sz:siz x<4294967296
 rng: ∀k,inI (x.args.getD k Enc.d).n
 def': ∀k,k<x.args.length->(x.args.getD k Enc.d).k=1-> ¬(x.args.getD k Enc.d).n<f.params.length->0<=F [1,(x.args.getD k Enc.d).n]/\F [1,(x.args.getD k Enc.d).n]<f.blocks.length
 phi:x.op=25->x.args.length=x.to.length/\ ∀t∈x.to,0<=t/\t<f.blocks.length
theorem order2_R (m:ModE) (f:FnE) (n:Int) (ty:AV) (R:List Bool) (T:List (List Bool)) (K:Nat) (F:List Int->Int) (x:InsE) (b i:Nat) (h:0<f.blocks.length) (hs:siz f<4294967296) (hR:isRG f (-1) R) (hT:isTab f T) (hb0:b<f.blocks.length) (hx:OrdOk f F x):
  ASpecO true Tryz.prog 67 [eS x,eS (⟨n,b,i⟩:Plc),.op 1 0,.op 3 0,.op 4 0,.op 2 0] (oaO m f n ty R none none none none 0 K F) (ordPl f R T F x ⟨n,b,i⟩=0) (.tup []) (oaO m f n ty R none none none none 0 K F) (vflt (ordPl f R T F x ⟨n,b,i⟩) ⟨n,b,i⟩) []:=by
 have q:=order2_O m f n ty R T K F x b i h hs hx.sz hR hT hb0 hx.rng hx.def' hx.phi
 rw[firstV_iff] at q
 exact q
theorem eachOrd2_O (m:ModE) (f:FnE) (n:Int) (ty:AV) (R:List Bool) (T:List (List Bool)) (K:Nat) (F:List Int->Int) (h:0<f.blocks.length) (hf:siz f<4294967296) (hR:isRG f (-1) R) (hT:isTab f T) (hx: ∀b i,b<f.blocks.length->i<iLen f b->OrdOk f F (iAt f b i)):
  ASpecO true Tryz.prog 28 [.cp (ckC m f n ty),.clo 67 [.op 1 0,.op 3 0,.op 4 0,.op 2 0]] (oaO m f n ty R none none none none 0 K F) ((eachF f n (ordPl f R T F)).code=0) (.tup []) (oaO m f n ty R none none none none 0 K F) (vflt (eachF f n (ordPl f R T F)).code (eachF f n (ordPl f R T F)).at') []:=by
 have h1:=blocks_le f
 have h0:=Code_siz f
 refine ASpecO.enter TYok mixed Tryz.func28 rfl Tryz.call28 Tryz.ntmps28 rfl (rs:=[]) rfl (oaClo) (Clo.one rfl) rfl (keep:=[0,1,4,5,6,7,12,13,14,20,21,22]) fun pin=>?_;conv=>whnf
 repeat' first|(refine iG (fun hb hc=>?_) (fun hb hc=>?_)<;>first|exact hc.elim|(exfalso;omega)|conv=>whnf)|(refine gqs ?_;conv=>whnf)|(refine yt ?_;conv=>whnf)|exact⟨_,.keep rfl rfl⟩|fail
 refine lp [14] (fun b:Nat=>[.i .i64 b]) (fun b=>(oaO m f n ty R (some (pin 1)) (some (pin 3)) (some (pin 2)) (some (pin 4)) (pin 15+1) K F)) (fun b=>b<=f.blocks.length/\ ∀j,j<(codeTo f b 0).length->(eacC f n (ordPl f R T F) j).code=0) (fun b=>f.blocks.length-b) 0 ⟨by omega,fun i h=>by simp[codeTo,pairs] at h⟩ ?_ fun b hq=>?_
 ·refine eP [] [] ?_ ?_<;>repeat' first|exact eN|refine And.intro ?_ ?_
  exact fun _ h=>h
 conv=>whnf
 obtain⟨hb1,hv1⟩:=hq
 have h2:=iLen_siz f b
 have h3:iLen f b=(f.blocks.getD b Enc.d).code.length:=rfl
 repeat' first|(refine iG (fun hb hc=>?_) (fun hb hc=>?_)<;>first|exact hc.elim|(exfalso;omega)|conv=>whnf)|(refine gqs ?_;conv=>whnf)|(refine yt ?_;conv=>whnf)|exact⟨_,.keep rfl rfl⟩|fail
 ·refine lp [22] (fun i:Nat=>[.i .i64 i]) (fun i=>(5,bx (f.blocks.getD b Enc.d))::(oaO m f n ty R (some (pin 1)) (some (pin 3)) (some (pin 2)) (some (pin 4)) (pin 15+1) K F)) (fun i=>i<=iLen f b/\ ∀j,j<(codeTo f b i).length->(eacC f n (ordPl f R T F) j).code=0) (fun i=>iLen f b-i) 0 ⟨by omega,hv1⟩ ?_ fun i hq2=>?_
  ·refine eP [] [] ?_ ?_<;>repeat' first|exact eN|refine And.intro ?_ ?_
   exact fun _ h=>h
  conv=>whnf
  obtain⟨hi1,hv2⟩:=hq2
  repeat' first|(refine iG (fun hb hc=>?_) (fun hb hc=>?_)<;>first|exact hc.elim|(exfalso;omega)|conv=>whnf)|(refine gqs ?_;conv=>whnf)|((first|refine CallV.pan ?_|refine CallW.pan ?_);(conv=>whnf);refine cP (order2_R m f n ty R T K F (iAt f b i) b i h hf hR hT (by omega) (hx b i (by omega) (by omega))) (fun ht=>?_) (fun ht=>?_)<;>conv=>whnf)|(refine yt ?_;conv=>whnf)|exact⟨_,.keep rfl rfl⟩|fail
  ·refine .mk (i+1) ⟨by omega,eac_step (by omega) (by omega) hv2 ht⟩ (by omega) ?_
   refine eP [] [] ?_ ?_<;>repeat' first|exact eN|refine And.intro ?_ ?_
   exact fun _ h=>h
  ·exact pzE (eachF_at (by omega) (by omega) hv2 ht) ht
  ·obtain rfl:i=iLen f b:=by omega
   refine .mk (b+1) ⟨by omega,by rw[kd_nx];exact hv2⟩ (by omega) ?_
   refine eP [] [] ?_ ?_<;>repeat' first|exact eN|refine And.intro ?_ ?_
   exact fun _ h=>h
 ·obtain rfl:b=f.blocks.length:=by omega
  have e:=eachF_no hv1
  refine⟨by rw[e],?_⟩
  conv=>whnf
  refine⟨[],[],trivial,?_,rfl⟩
  repeat' first|exact eN|refine And.intro ?_ ?_
  exact fun _ h=>h
theorem order_O (m:ModE) (f:FnE) (n:Int) (ty:AV) (R:List Bool) (T:List (List Bool)) (h:0<f.blocks.length) (hf:siz f<4294967296) (hR:isRG f (-1) R) (hT:isTab f T) (hr: ∀b i,inI (iAt f b i).reg) (hx: ∀b i,b<f.blocks.length->i<iLen f b->OrdOk f (madM f n (Code f).length) (iAt f b i)):
  ASpecO true Tryz.prog 33 [.cp (ckC m f n ty)] [] ((eachF f n (ordPl f R T (madM f n (Code f).length))).code=0) (.tup []) [] (vflt (eachF f n (ordPl f R T (madM f n (Code f).length))).code (eachF f n (ordPl f R T (madM f n (Code f).length))).at') []:=by
 refine ASpecO.enter TYok mixed Tryz.func33 rfl Tryz.call33 Tryz.ntmps33 rfl (rs:=[]) rfl (Clo.one rfl) (Clo.one rfl) rfl (keep:=[0,1,2,3,4]) fun pin=>?_;conv=>whnf
 repeat' first|(refine iG (fun hb hc=>?_) (fun hb hc=>?_)<;>first|exact hc.elim|(exfalso;omega)|conv=>whnf)|(refine gqs ?_;conv=>whnf)|(refine gqc (x:=fun _=>idom_S f hf h) (k:= ?_);conv=>whnf)|(refine gqc (x:=fun _=>gReach_F f R hR hf) (k:= ?_);conv=>whnf)|((first|refine CallV.pan ?_|refine CallW.pan ?_);(conv=>whnf);refine cP (eachOrd1_O m f n ty hf hr) (fun ht=>?_) (fun ht=>?_)<;>conv=>whnf)|((first|refine CallV.pan ?_|refine CallW.pan ?_);(conv=>whnf);refine cP (eachOrd2_O m f n ty R T (Code f).length (madM f n (Code f).length) h hf hR hT hx) (fun ht=>?_) (fun ht=>?_)<;>conv=>whnf)|(refine yt ?_;conv=>whnf)|exact⟨_,.keep rfl rfl⟩|fail
 ·exact⟨[],[],trivial,trivial,rfl⟩
 ·exact⟨[],[],⟨rfl,rfl,rfl,rfl,trivial⟩,trivial,rfl⟩
 ·exact absurd (by rw[eachF_no (C:=fun _ _=>0) fun j _=>rfl]) ht
theorem szQ_le (f:FnE) (q:Nat) (hq:q<=f.blocks.length):(codeTo f q 0).length<=siz f:=by
 have h:=kdb f q (f.blocks.length-q)
 rw[show q+(f.blocks.length-q)=f.blocks.length by omega] at h
 have:=h.length_le
 have h2:=Code_siz f
 unfold Code at h2
 omega
theorem Size_S (f:FnE) (hs:siz f<4294967296):ASpec Tryz.prog 54 [eS f] (.i .i64 ((Code f).length:Nat)) []:=by
 have h1:=blocks_le f
 refine ASpec.enter TYok mixed Tryz.func54 rfl Tryz.call54 Tryz.ntmps54 rfl (rs:=[.tmp 2]) rfl (nodupB_ok rfl) (Clo.one rfl) (keep:=[0,1,2,3,5,7,8,9]) ?_;conv=>whnf
 repeat' first|(refine iG (fun hb hc=>?_) (fun hb hc=>?_)<;>first|exact hc.elim|(exfalso;omega)|conv=>whnf)|(refine gqs ?_;conv=>whnf)|(refine yt ?_;conv=>whnf)|exact⟨_,.keep rfl rfl⟩|fail
 refine lp [9,3] (fun q:Nat=>[.i .i64 q,.i .i64 ((codeTo f q 0).length:Nat)]) (fun q=>[(1,bx f)]) (fun q=>q<=f.blocks.length) (fun q=>f.blocks.length-q) 0 (Nat.zero_le _) ?_ fun q hq=>?_
 ·refine eP [] [] ?_ ?_<;>repeat' first|exact eN|refine And.intro ?_ ?_
 conv=>whnf
 have h2:=szQ_le f q hq
 have h3:=code_le f q
 repeat' first|(refine iG (fun hb hc=>?_) (fun hb hc=>?_)<;>first|exact hc.elim|(exfalso;omega)|conv=>whnf)|(refine gqs ?_;conv=>whnf)|(refine yt ?_;conv=>whnf)|exact⟨_,.keep rfl rfl⟩|fail
 ·have e:=kd_nx f q
  have e2:=kdl f q (iLen f q)
  unfold iLen at e e2
  refine .mk (q+1) (by omega) (by omega) ?_
  refine eP [] [] ?_ ?_<;>repeat' first|exact eN|refine And.intro ?_ ?_
 ·obtain rfl:q=f.blocks.length:=by omega
  exact⟨_,.keep rfl rfl⟩
theorem blocks_O (m:ModE) (f:FnE) (n:Int) (ty:AV) (hf:siz f<4294967296):
  ASpecO true Tryz.prog 27 [.cp (ckC m f n ty)] [] ((blocksF f n).code=0) (.tup []) [] (vflt (blocksF f n).code (blocksF f n).at') []:=by
 have h3:=blocks_le f
 refine ASpecO.enter TYok mixed Tryz.func27 rfl Tryz.call27 Tryz.ntmps27 rfl (rs:=[]) rfl (Clo.one rfl) (Clo.one rfl) rfl (keep:=[0,2,3,4,5,6,7,8,10,41,42,43,73,74,75,99,100,101]) fun pin=>?_;conv=>whnf
 repeat' first|(refine iG (fun hb hc=>?_) (fun hb hc=>?_)<;>first|exact hc.elim|(exfalso;omega)|conv=>whnf)|(refine gqs ?_;conv=>whnf)|((first|refine CallV.pan ?_|refine CallW.pan ?_);(conv=>whnf);refine cP (must_O _ _ ⟨n,0,0⟩) (fun ht=>?_) (fun ht=>?_)<;>conv=>whnf)|(refine gqc (x:=fun _=>Size_S f hf) (k:= ?_);conv=>whnf)|(refine yt ?_;conv=>whnf)|exact⟨_,.keep rfl rfl⟩|fail
 ·have k1: ¬(f.blocks.length<1\/64<f.blocks.length\/400<(Code f).length):=by
   simp only[pickB_and,Bool.and_eq_true,decide_eq_true_eq] at ht
   omega
  refine lp [43] (fun b:Nat=>[.i .i64 b]) (fun b=>[]) (fun b=>b<=f.blocks.length/\ ∀i,i<b->(blkF f n i).code=0) (fun b=>f.blocks.length-b) 0 ⟨by omega,fun i h=>by omega⟩ ?_ fun b hq=>?_
  ·refine eP [] [] ?_ ?_<;>repeat' first|exact eN|refine And.intro ?_ ?_
  conv=>whnf
  obtain⟨hq,hv⟩:=hq
  have h4:(codeB f b).length<=siz f:=code_le f b
  have h5:codeB f b=(f.blocks.getD b Enc.d).code:=rfl
  rw[h5] at h4
  repeat' first|(refine iG (fun hb hc=>?_) (fun hb hc=>?_)<;>first|exact hc.elim|(exfalso;omega)|conv=>whnf)|(refine gqs ?_;conv=>whnf)|((first|refine CallV.pan ?_|refine CallW.pan ?_);(conv=>whnf);refine cP (must_O _ _ ⟨n,b,0⟩) (fun ht=>?_) (fun ht=>?_)<;>conv=>whnf)|(refine gqc (x:=fun _=>irEnds_S _) (k:= ?_);conv=>whnf)|(refine yt ?_;conv=>whnf)|exact⟨_,.keep rfl rfl⟩|fail
  ·have hm:max ((codeB f b).length-1:Int) 0=(codeB f b).length-1\/(codeB f b).length=0:=by omega
   rw[h5] at hm
   simp only[pickB_and,Bool.and_eq_true,decide_eq_true_eq,Int.toNat_natCast] at ht
   have e0: ¬(codeB f b).length=0:=by rw[h5];omega
   have e1: ¬Ends (lastB f b).op=false:=by
    have:=ht.2
    rw[hm.resolve_right (by rw[<-h5];exact e0)] at this
    unfold lastB
    rw[h5,this];simp
   have h8:(lastB f b).to.length<=siz f:=Nat.le_trans (to_le _) (ins_le f b _)
   refine lp [75] (fun k:Nat=>[.i .i64 k]) (fun k=>[(5,bx (⟨n,b,((k:Int)-1).toNat⟩:Plc)),(4,bx (f.blocks.getD b Enc.d))]) (fun k=>k<=(codeB f b).length/\ ∀i,i<k->i<(codeB f b).length-1->earlyC f b i=0) (fun k=>(codeB f b).length-k) 0 ⟨by omega,fun i h=>by omega⟩ ?_ fun k hk=>?_
   ·refine eP [] [] ?_ ?_<;>repeat' first|exact eN|refine And.intro ?_ ?_
   conv=>whnf
   obtain⟨hk,hw⟩:=hk
   rw[h5] at hk
   repeat' first|(refine iG (fun hb hc=>?_) (fun hb hc=>?_)<;>first|exact hc.elim|(exfalso;omega)|conv=>whnf)|(refine gqs ?_;conv=>whnf)|((first|refine CallV.pan ?_|refine CallW.pan ?_);(conv=>whnf);refine cP (must_O _ _ ⟨n,b,k⟩) (fun ht=>?_) (fun ht=>?_)<;>conv=>whnf)|(refine gqc (x:=fun _=>irEnds_S _) (k:= ?_);conv=>whnf)|(refine yt ?_;conv=>whnf)|exact⟨_,.keep rfl rfl⟩|fail
   ·refine .mk (k+1) ⟨by rw[h5];omega,fun i h1 h2=>?_⟩ (by rw[h5];omega) ?_
    ·rcases Nat.lt_or_ge i k with h|h
     ·exact hw i h h2
     ·have:i=k:=by omega
      subst this
      simp only[pickB_or,Bool.or_eq_true,decide_eq_true_eq,Int.toNat_natCast,Bool.not_eq_true'] at ht
      rw[h5] at h2
      unfold earlyC
      rw[if_neg fun h=>?_]
      rcases ht with ht|ht
      ·omega
      ·rw[show Ends ((codeB f b).getD i Enc.d).op=false from ht] at h;cases h
    ·refine eP [] [] ?_ ?_<;>repeat' first|exact eN|refine And.intro ?_ ?_
   ·simp only[pickB_or,Bool.or_eq_true,decide_eq_true_eq,Int.toNat_natCast,Bool.not_eq_true',not_or,Bool.not_eq_false] at ht
    have e:blkF f n b=⟨9,⟨n,b,k⟩⟩:=by rw[blkF,if_neg e0,if_neg e1,firstC_at (q:=k) (by rw[h5];omega) (fun i hi=>hw i hi (by rw[h5];omega)) (by unfold earlyC;rw[if_pos (show Ends ((codeB f b).getD k Enc.d).op=true from ht.2)];decide)]
    exact pzE (blocksF_at k1 (by omega) hv e (by simp)) (by decide)
   ·refine lp [101] (fun k:Nat=>[.i .i64 k]) (fun j=>[(5,bx (⟨n,b,((codeB f b).length:Int)-1⟩:Plc)),(4,bx (f.blocks.getD b Enc.d))]) (fun j=>j<=(lastB f b).to.length/\ ∀i,i<j->toC f b i=0) (fun j=>(lastB f b).to.length-j) 0 ⟨by omega,fun i h=>by omega⟩ ?_ fun j hj=>?_
    ·refine eP [] [] ?_ ?_<;>repeat' first|exact eN|refine And.intro ?_ ?_
     show(((k:Int)-1).toNat:Int)=(codeB f b).length-1
     rw[h5] at e0⊢
     omega
    conv=>whnf
    obtain⟨hj,hz⟩:=hj
    have h9:(lastB f b).to.length=((f.blocks.getD b Enc.d).code.getD (((f.blocks.getD b Enc.d).code.length:Int)-1).toNat Enc.d).to.length:=rfl
    repeat' first|(refine iG (fun hb hc=>?_) (fun hb hc=>?_)<;>first|exact hc.elim|(exfalso;omega)|conv=>whnf)|(refine gqs ?_;conv=>whnf)|((first|refine CallV.pan ?_|refine CallW.pan ?_);(conv=>whnf);refine cP (must_O _ _ ⟨n,b,((codeB f b).length:Int)-1⟩) (fun ht=>?_) (fun ht=>?_)<;>conv=>whnf)|(refine yt ?_;conv=>whnf)|exact⟨_,.keep rfl rfl⟩|fail
    ·simp only[pickB_and,Bool.and_eq_true,decide_eq_true_eq] at ht
     have ht':(0:Int)<(lastB f b).to.getD j Enc.d/\(lastB f b).to.getD j Enc.d<f.blocks.length:=ht
     have e3:toC f b j=0:=by unfold toC;rw[if_neg (by omega)]
     refine .mk (j+1) ⟨by omega,all_step hz e3⟩ (by omega) ?_
     refine eP [] [] ?_ ?_<;>repeat' first|exact eN|refine And.intro ?_ ?_
    ·simp only[pickB_and,Bool.and_eq_true,decide_eq_true_eq] at ht
     have ht': ¬((0:Int)<(lastB f b).to.getD j Enc.d/\(lastB f b).to.getD j Enc.d<f.blocks.length):=ht
     have e3:toC f b j≠0:=by unfold toC;rw[if_pos (by omega)];decide
     have e2:firstC (earlyC f b) ((codeB f b).length-1)=none:=firstC_no fun i hi=>hw i (by rw[h5] at hi;omega) hi
     have e:blkF f n b=⟨8,⟨n,b,((codeB f b).length:Int)-1⟩⟩:=by rw[blkF,if_neg e0,if_neg e1,e2];simp only;rw[firstC_at (by omega) hz e3]
     exact pzE (blocksF_at k1 (by omega) hv e (by simp)) (by decide)
    ·have e2:firstC (earlyC f b) ((codeB f b).length-1)=none:=firstC_no fun i hi=>hw i (by rw[h5] at hi;omega) hi
     have e:blkF f n b=⟨0,⟨0,0,0⟩⟩:=by rw[blkF,if_neg e0,if_neg e1,e2];simp only;rw[firstC_no fun i hi=>hz i (by omega)]
     refine .mk (b+1) ⟨by omega,all_step hv (by rw[e])⟩ (by omega) ?_
     refine eP [] [] ?_ ?_<;>repeat' first|exact eN|refine And.intro ?_ ?_
  ·simp only[pickB_and,Bool.and_eq_true,decide_eq_true_eq,Int.toNat_natCast] at ht
   refine pzE (blocksF_at (x:=⟨9,⟨n,b,0⟩⟩) k1 (by omega) hv ?_ (by simp)) (by decide)
   by_cases e0:(codeB f b).length=0
   ·rw[blkF,if_pos e0]
   ·have hm:max ((codeB f b).length-1:Int) 0=(codeB f b).length-1:=by omega
    rw[h5] at hm e0
    rw[hm] at ht
    have e1:Ends (lastB f b).op=false:=by
     rw[<-Bool.not_eq_true]
     exact fun h=>ht ⟨by omega,h⟩
    rw[blkF,if_neg (by rw[h5];exact e0),if_pos e1]
  ·obtain rfl:b=f.blocks.length:=by omega
   have e:firstC (fun b=>(blkF f n b).code) f.blocks.length=none:=firstC_no fun i hi=>hv i (by omega)
   exact rtV (by rw[blocksF,if_neg k1,e])
 ·refine pzE ?_ (by decide)
  simp only[pickB_and,Bool.and_eq_true,decide_eq_true_eq] at ht
  rw[blocksF,if_pos (by omega)]
theorem firstV_succ (c:Nat->Int) (k:Nat):firstV c (k+1)=if firstV c k=0 then c k else firstV c k:=by
 unfold firstV firstC
 rw[List.range_succ,List.find?_append]
 cases hq:(List.range k).find? (fun i=>!decide (c i=0)) with
 |some j=>
  have h:=List.find?_some hq
  simp only[Bool.not_eq_true',decide_eq_false_iff_not] at h
  simp[h]
 |none=>
  by_cases h:c k=0
  ·simp[h]
  ·simp[h]
def tyC (f:FnE) (r:Int) (j:Nat):Int:=if((C1 f).getD j Enc.d).reg=r then Result ((C1 f).getD j Enc.d) else 0
def tyM (f:FnE) (k:Nat) (r:Int):Int:=firstV (tyC f r) k
def tyR (f:FnE) (q:Nat) (r:Nat):Int:=if r<q then f.params.getD r Enc.d else tyM f (Code f).length r
theorem tyM_step {f:FnE} {b i:Nat} {r:Int} (hb:b<f.blocks.length) (hi:i<iLen f b):tyM f (codeTo f b (i+1)).length r=if tyM f (codeTo f b i).length r=0 then(if(iAt f b i).reg=r then Result (iAt f b i) else 0) else tyM f (codeTo f b i).length r:=by
 rw[kdl f b (i+1),<-Nat.add_assoc,<-kdl]
 unfold tyM
 rw[firstV_succ]
 have e:tyC f r (codeTo f b i).length=if(iAt f b i).reg=r then Result (iAt f b i) else 0:=by unfold tyC;rw[kd_1 hb hi]
 rw[e]
theorem tyM_def (f:FnE) (r:Int):tyM f (Code f).length r=if(Def f r).2=false then 0 else Result ((f.blocks.getD (Def f r).1.b.toNat Enc.d).code.getD (Def f r).1.i.toNat Enc.d):=by
 have g: ∀j,dfP r ((Code f).getD j noP)= !decide (tyC f r j=0):=fun j=>by
  have e:((Code f).getD j noP).1=(C1 f).getD j Enc.d:=(getD_map Prod.fst (Code f) j noP Enc.d rfl).symm
  unfold dfP tyC
  rw[e]
  by_cases h:((C1 f).getD j Enc.d).reg=r
  ·rw[if_pos h,decide_eq_true h,Bool.true_and]
  ·rw[if_neg h,decide_eq_false h,Bool.false_and];rfl
 unfold tyM firstV Def
 cases hq:firstC (tyC f r) (Code f).length with
 |none=>
  rw[find_no noP fun j hj=>by
   rw[g j]
   have:=List.find?_eq_none.1 hq j (List.mem_range.2 hj)
   simpa using this]
  rfl
 |some j=>
  obtain⟨h1,h2,h3⟩:=List.find?_range_eq_some.1 hq
  have h2:=List.mem_range.1 h2
  rw[find_take noP (q:=j) h2 (fun i hi=>by rw[g i];simpa using h3 i hi) (by rw[g j];exact h1)]
  obtain⟨b,k,e1,e2,e3⟩:=kd_idx (f:=f) (B:=f.blocks.length) (q:=j) (Nat.le_refl _) h2
  have e4:(Code f).getD j noP=(iAt f b k,⟨0,b,k⟩):=by
   rw[List.getD_eq_getElem?_getD,e3,kd_at e1 e2];rfl
  have e5:tyC f r j=Result (iAt f b k):=by
   have e6:=kd_1 e1 e2
   rw[<-e3] at e6
   unfold tyC at h1⊢
   rw[e6] at h1⊢
   split at h1
   ·rename_i h;rw[if_pos h]
   ·simp at h1
  rw[e4]
  simp only[e5,Bool.true_eq_false,↓reduceIte,Int.toNat_natCast]
  rfl
theorem types_eq (f:FnE) (i:Nat) (hi:i<4096):tyR f f.params.length i=(TypesL f).getD i Enc.d:=by
 have h:=TypesL_at f (i:=(i:Int)) (by omega) (by omega)
 rw[Int.toNat_natCast] at h
 rw[h,TypeR,if_neg (by omega),tyR]
 by_cases h2:i<f.params.length
 ·rw[if_pos h2,if_pos (by omega),Int.toNat_natCast]
 ·rw[if_neg h2,if_neg (by omega),tyM_def]
theorem types_S (f:FnE) (hf:siz f<4294967296) (hr: ∀b i,inI (iAt f b i).reg):ASpec Tryz.prog 17 [eS f] (eL (TypesL f)) []:=by
 have h1:=blocks_le f
 have h9:=params_le f
 refine ASpec.enter TYok mixed Tryz.func17 rfl Tryz.call17 Tryz.ntmps17 rfl (rs:=[.tmp 2]) rfl (nodupB_ok rfl) (Clo.one rfl) (keep:=[0,1,2,3,5,7,8,9,10,13,14,15,20,21,22,52,53,54]) ?_;conv=>whnf
 repeat' first|(refine iG (fun hb hc=>?_) (fun hb hc=>?_)<;>first|exact hc.elim|(exfalso;omega)|conv=>whnf)|(refine gqs ?_;conv=>whnf)|(refine yt ?_;conv=>whnf)|exact⟨_,.keep rfl rfl⟩|fail
 refine lp [15] (fun b:Nat=>[.i .i64 b]) (fun b=>[(11,.row none 1 4096 fun i=>[.i .i64 (tyM f (codeTo f b 0).length i)]),(1,bx f)]) (fun b=>b<=f.blocks.length) (fun b=>f.blocks.length-b) 0 (Nat.zero_le _) ?_ fun b hb=>?_
 ·refine eP [] [] ?_ ?_<;>repeat' first|exact eN|refine And.intro ?_ ?_
 conv=>whnf
 have h2:=iLen_siz f b
 have h3:iLen f b=(f.blocks.getD b Enc.d).code.length:=rfl
 repeat' first|(refine iG (fun hb hc=>?_) (fun hb hc=>?_)<;>first|exact hc.elim|(exfalso;omega)|conv=>whnf)|(refine gqs ?_;conv=>whnf)|(refine yt ?_;conv=>whnf)|exact⟨_,.keep rfl rfl⟩|fail
 ·refine lp [22] (fun i:Nat=>[.i .i64 i]) (fun i=>[(5,bx (f.blocks.getD b Enc.d)),(11,.row none 1 4096 fun r=>[.i .i64 (tyM f (codeTo f b i).length r)]),(1,bx f)]) (fun i=>i<=iLen f b) (fun i=>iLen f b-i) 0 (Nat.zero_le _) ?_ fun i hi=>?_
  ·refine eP [] [] ?_ ?_<;>repeat' first|exact eN|refine And.intro ?_ ?_
  conv=>whnf
  repeat' first|(refine iG (fun hb hc=>?_) (fun hb hc=>?_)<;>first|exact hc.elim|(exfalso;omega)|conv=>whnf)|(refine gqs ?_;conv=>whnf)|(refine gqc (x:=fun _=>irResult_S _) (k:= ?_);conv=>whnf)|(refine yt ?_;conv=>whnf)|exact⟨_,.keep rfl rfl⟩|fail
  ·refine And.intro (fun ht=>?_) ?_
   ·simp only[tg_ite,tg_nil,cn,Nat.reduceMul,Nat.reduceAdd,Nat.reduceEqDiff,↓reduceIte,pickB_and,Bool.and_eq_true,decide_eq_true_eq] at ht
    rw[addZ_eq]
    show _/\_<((4096:Nat):Int)/\_
    omega
   conv=>whnf
   refine And.intro (fun ht=>?_) ?_
   ·simp only[tg_ite,tg_nil,cn,Nat.reduceMul,Nat.reduceAdd,Nat.reduceEqDiff,↓reduceIte,pickB_and,Bool.and_eq_true,decide_eq_true_eq] at ht
    rw[addZ_eq]
    omega
   conv=>whnf
   repeat' first|(refine iG (fun hb hc=>?_) (fun hb hc=>?_)<;>first|exact hc.elim|(exfalso;omega)|conv=>whnf)|(refine gqs ?_;conv=>whnf)|(refine yt ?_;conv=>whnf)|exact⟨_,.keep rfl rfl⟩|fail
   ·refine .mk (i+1) (by omega) (by omega) ?_
    refine eP [] [] ?_ ?_<;>repeat' first|exact eN|refine And.intro ?_ ?_
    intro j hj
    show setF (fun r=>[AV.i .i64 (tyM f (codeTo f b i).length r)]) (addZ 0 (iAt f b i).reg.toNat) [AV.i .i64 (Result (iAt f b i))] j=[AV.i .i64 (tyM f (codeTo f b (i+1)).length j)]
    rw[tyM_step (by omega) (by omega)]
    unfold setF
    have hc':(0<=(iAt f b i).reg/\(iAt f b i).reg<=4095)/\tyM f (codeTo f b i).length ((iAt f b i).reg.toNat:Nat)=0:=hc
    rw[addZ_eq]
    by_cases e:j=0+(iAt f b i).reg.toNat
    ·rw[if_pos e,e,Nat.zero_add,if_pos hc'.2,if_pos (by omega)]
    ·have e2:(iAt f b i).reg≠j:=by omega
     rw[if_neg e,if_neg e2]
     show[AV.i .i64 (tyM f (codeTo f b i).length j)]=_
     split<;>simp_all
   ·refine .mk (i+1) (by omega) (by omega) ?_
    refine eP [] [] ?_ ?_<;>repeat' first|exact eN|refine And.intro ?_ ?_
    intro j hj
    show[AV.i .i64 (tyM f (codeTo f b i).length j)]=[AV.i .i64 (tyM f (codeTo f b (i+1)).length j)]
    rw[tyM_step (by omega) (by omega)]
    have hc': ¬((0<=(iAt f b i).reg/\(iAt f b i).reg<=4095)/\tyM f (codeTo f b i).length ((iAt f b i).reg.toNat:Nat)=0):=fun h=>hc.elim (fun h'=>h'.elim (absurd h.1.1) (absurd h.1.2)) (absurd h.2)
    by_cases e:(iAt f b i).reg=j
    ·have e2:tyM f (codeTo f b i).length j≠0:=fun h=>hc' ⟨by omega,by rw[e,Int.toNat_natCast];exact h⟩
     rw[if_neg e2]
    ·rw[if_neg e]
     split<;>simp_all
  ·refine .mk (b+1) (by omega) (by omega) ?_
   refine eP [] [] ?_ ?_<;>repeat' first|exact eN|refine And.intro ?_ ?_
   intro j hj
   show[AV.i .i64 (tyM f (codeTo f b i).length j)]=[AV.i .i64 (tyM f (codeTo f (b+1) 0).length j)]
   rw[kd_nx,show i=iLen f b by omega]
 ·obtain rfl:b=f.blocks.length:=by omega
  refine lp [54] (fun q:Nat=>[.i .i64 q]) (fun q=>[(11,.row none 1 4096 fun r=>[.i .i64 (tyR f q r)]),(1,bx f)]) (fun q=>q<=f.params.length) (fun q=>f.params.length-q) 0 (Nat.zero_le _) ?_ fun q hq=>?_
  ·refine eP [] [] ?_ ?_<;>repeat' first|exact eN|refine And.intro ?_ ?_
  conv=>whnf
  repeat' first|(refine iG (fun hb hc=>?_) (fun hb hc=>?_)<;>first|exact hc.elim|(exfalso;omega)|conv=>whnf)|(refine gqs ?_;conv=>whnf)|(refine yt ?_;conv=>whnf)|exact⟨_,.keep rfl rfl⟩|fail
  ·refine .mk (q+1) (by omega) (by omega) ?_
   refine eP [] [] ?_ ?_<;>repeat' first|exact eN|refine And.intro ?_ ?_
   intro j hj
   show setF (fun r=>[AV.i .i64 (tyR f q r)]) (addZ 0 (q:Int).toNat) [AV.i .i64 (f.params.getD q Enc.d)] j=[AV.i .i64 (tyR f (q+1) j)]
   unfold setF tyR
   rw[addZ_eq,Int.toNat_natCast,Nat.zero_add]
   by_cases e:j=q
   ·rw[if_pos e,if_pos (by omega),e]
   ·rw[if_neg e]
    show[AV.i .i64 (if j<q then f.params.getD j Enc.d else tyM f (Code f).length j)]=_
    by_cases e2:j<q
    ·rw[if_pos e2,if_pos (by omega)]
    ·rw[if_neg e2,if_neg (by omega)]
  ·refine .mk (q+1) (by omega) (by omega) ?_
   refine eP [] [] ?_ ?_<;>repeat' first|exact eN|refine And.intro ?_ ?_
   intro j hj
   show[AV.i .i64 (tyR f q j)]=[AV.i .i64 (tyR f (q+1) j)]
   unfold tyR
   by_cases e2:j<q
   ·rw[if_pos e2,if_pos (by omega)]
   ·rw[if_neg e2,if_neg (by omega)]
  ·obtain rfl:q=f.params.length:=by omega
   refine⟨_,.freeze (N:=4096) (by rw[lk_cons,if_pos rfl]) (by decide) (by rw[TypesL_len];rfl) (fun x hx=>?_) rfl⟩
   rw[TypesL_len] at hx
   show[AV.i .i64 (tyR f f.params.length x)]=[AV.i .i64 ((TypesL f).getD x Enc.d)]
   rw[types_eq f x hx]
def idxS (l:List ByteArray) (x:ByteArray) (i:Nat):Int:=if x=l.getD i Enc.d then 1 else 0
def IndexS (l:List ByteArray) (x:ByteArray):Int:=match firstC (idxS l x) l.length with
 |some i=>i
 |none=>-1
theorem IndexS_S (l:List ByteArray) (x:ByteArray) (hl:l.length<4294967296):ASpec Tryz.prog 95 [eL l,.s x] (.i .i64 (IndexS l x)) []:=by
 refine ASpec.enter TYok mixed Tryz.func95 rfl Tryz.call95 Tryz.ntmps95 rfl (rs:=[.tmp 4]) rfl (nodupB_ok rfl) (Clo.one rfl) (keep:=[0,1,4,5,7,8]) ?_;conv=>whnf
 repeat' first|(refine iG (fun hb hc=>?_) (fun hb hc=>?_)<;>first|exact hc.elim|(exfalso;omega)|conv=>whnf)|(refine gqs ?_;conv=>whnf)|(refine yt ?_;conv=>whnf)|exact⟨_,.keep rfl rfl⟩|fail
 refine lp [8] (fun q:Nat=>[.i .i64 q]) (fun q=>[]) (fun q=>q<=l.length/\ ∀i,i<q->idxS l x i=0) (fun q=>l.length-q) 0 ⟨by omega,fun i h=>by omega⟩ ?_ fun q hq=>?_
 ·refine eP [] [] ?_ ?_<;>repeat' first|exact eN|refine And.intro ?_ ?_
 conv=>whnf
 obtain⟨hq,hv⟩:=hq
 repeat' first|(refine iG (fun hb hc=>?_) (fun hb hc=>?_)<;>first|exact hc.elim|(exfalso;omega)|conv=>whnf)|(refine gqs ?_;conv=>whnf)|(refine yt ?_;conv=>whnf)|exact⟨_,.keep rfl rfl⟩|fail
 ·exact⟨_,.keep (by rw[IndexS,firstC_at (by omega) hv (by unfold idxS;rw[if_pos (show x=l.getD q Enc.d from of_decide_eq_true hb)];decide)]) rfl⟩
 ·refine .mk (q+1) ⟨by omega,all_step hv (by unfold idxS;rw[if_neg (show¬x=l.getD q Enc.d from of_decide_eq_false hb)])⟩ (by omega) ?_
  refine eP [] [] ?_ ?_<;>repeat' first|exact eN|refine And.intro ?_ ?_
 ·exact⟨_,.keep (by rw[IndexS,firstC_no fun i hi=>hv i (by omega)]) rfl⟩
theorem IndexS_has (l:List ByteArray) (x:ByteArray):decide (0<=IndexS l x)=l.any fun k=>decide (k=x):=by
 unfold IndexS
 cases hq:firstC (idxS l x) l.length with
 |some i=>
  have h1:=List.mem_range.1 (List.mem_of_find?_eq_some hq)
  have h2:=List.find?_some hq
  have h3:x=l.getD i Enc.d:=by
   unfold idxS at h2;split at h2
   ·assumption
   ·simp at h2
  rw[any_at (q:=i) Enc.d h1 (by rw[<-h3];exact decide_eq_true rfl)];simp
 |none=>
  rw[any_no (Enc.d:ByteArray) fun i hi=>?_]
  ·simp
  ·have:=List.find?_eq_none.1 hq i (List.mem_range.2 hi)
   unfold idxS at this
   refine decide_eq_false fun e=>?_
   rw[if_pos e.symm] at this
   simp at this
theorem ContainsS_S (l:List ByteArray) (x:ByteArray) (hl:l.length<4294967296):ASpec Tryz.prog 53 [eL l,.s x] (.b (l.any fun k=>decide (k=x))) []:=by
 rw[<-IndexS_has]
 refine ASpec.enter TYok mixed Tryz.func53 rfl Tryz.call53 Tryz.ntmps53 rfl (rs:=[.tmp 4]) rfl (nodupB_ok rfl) (Clo.one rfl) (keep:=[0,1,4]) ?_;conv=>whnf
 repeat' first|(refine iG (fun hb hc=>?_) (fun hb hc=>?_)<;>first|exact hc.elim|(exfalso;omega)|conv=>whnf)|(refine gqs ?_;conv=>whnf)|(refine gqc (x:=fun _=>IndexS_S _ _ hl) (k:= ?_);conv=>whnf)|(refine yt ?_;conv=>whnf)|exact⟨_,.keep rfl rfl⟩|fail
def nmO (p:Option Nat) (l:List ByteArray):Os:=[(7,.box p (some 101) [.orow 1001 1 0 l.length]),(1001,oL l)]
theorem nmClo {p:Option Nat} {l:List ByteArray}:Clo (.tup []) (nmO p l):=by
 refine⟨fun id hm=>(nomatch hm),fun i ob hl id hm=>?_⟩
 have hmem:=lk_mem hl
 simp only[nmO,List.mem_cons,List.not_mem_nil,or_false,Prod.mk.injEq] at hmem
 rcases hmem with⟨_,rfl⟩|⟨_,rfl⟩
 ·simp only[omen,mens,men,Bool.or_false] at hm
  have:=Nat.eq_of_beq_eq_true hm;subst this;rfl
 ·cases hm
theorem names1_O (name:ByteArray) (known:List ByteArray) (params:List Int) (ret most:Int) (p:Plc) (h1:name.size<4294967296) (h2:known.length<4294967296):
  ASpecO false Tryz.prog 52 [.s name,eL params,.i .i64 ret,.i .i64 most,eS p,.op 7 0] (nmO none known) (headF name known params ret most=0) (.tup []) (nmO none (known++[name])) (vflt (headF name known params ret most) p) []:=by
 refine ASpecO.enter TYok mixed Tryz.func52 rfl Tryz.call52 Tryz.ntmps52 rfl (rs:=[]) rfl (nmClo) (Clo.one rfl) rfl (keep:=[0,1,2,3,4,5,10,12,32,33,34]) fun pin=>?_;conv=>whnf
 repeat' first|(refine iG (fun hb hc=>?_) (fun hb hc=>?_)<;>first|exact hc.elim|(exfalso;omega)|conv=>whnf)|(refine gqs ?_;conv=>whnf)|((first|refine CallV.pan ?_|refine CallW.pan ?_);(conv=>whnf);refine cP (must_O _ _ p) (fun ht=>?_) (fun ht=>?_)<;>conv=>whnf)|(refine gqc (x:=fun _=>lexWord_S _ h1) (k:= ?_);conv=>whnf)|(refine gqc (x:=fun _=>ContainsS_S known name h2) (k:= ?_);conv=>whnf)|(refine yt ?_;conv=>whnf)|exact⟨_,.keep rfl rfl⟩|fail
 ·have e1:Word name=true:=by assumption
  have e2:(known.any fun k=>decide (k=name))=false:=by
   have h:(!known.any fun k=>decide (k=name))=true:=by assumption
   simpa using h
  have e3: ¬8<params.length:=by
   have h:decide ((params.length:Int)<=8)=true:=ht
   have:=of_decide_eq_true h
   omega
  refine lp [34] (fun q:Nat=>[.i .i64 q]) (fun q=>[(7,.box (some (pin 7)) (some 101) [.orow 1001 1 0 (known++[name]).length]),(1001,oL (known++[name])),(10,bx p)]) (fun q=>q<=params.length/\ ∀i,i<q->badP most (params.getD i Enc.d)=false) (fun q=>params.length-q) 0 ⟨by omega,fun i h=>by omega⟩ ?_ fun q hq=>?_
  ·have e:known++[name]=known++[name]:=rfl
   refine eP [(1001,26)] [] ?_ ?_<;>repeat' first|exact eN|refine And.intro ?_ ?_|exact snoc_len e|exact snoc_get e rfl|rw[e]
  conv=>whnf
  obtain⟨hk,hw⟩:=hq
  repeat' first|(refine iG (fun hb hc=>?_) (fun hb hc=>?_)<;>first|exact hc.elim|(exfalso;omega)|conv=>whnf)|(refine gqs ?_;conv=>whnf)|((first|refine CallV.pan ?_|refine CallW.pan ?_);(conv=>whnf);refine cP (must_O _ _ p) (fun ht=>?_) (fun ht=>?_)<;>conv=>whnf)|(refine yt ?_;conv=>whnf)|exact⟨_,.keep rfl rfl⟩|fail
  ·simp only[pickB_and,Bool.and_eq_true,decide_eq_true_eq] at ht
   have e5:badP most (params.getD q Enc.d)=false:=by
    have ht':1<=params.getD q Enc.d/\params.getD q Enc.d<=most:=ht
    unfold badP
    rw[decide_eq_false (by omega),decide_eq_false (by omega)];rfl
   refine .mk (q+1) ⟨by omega,all_step hw e5⟩ (by omega) ?_
   refine eP [] [] ?_ ?_<;>repeat' first|exact eN|refine And.intro ?_ ?_
  ·refine pzV ?_
   simp only[pickB_and,Bool.and_eq_true,decide_eq_true_eq] at ht
   have e5:badP most (params.getD q Enc.d)=true:=by
    have ht': ¬(1<=params.getD q Enc.d/\params.getD q Enc.d<=most):=ht
    unfold badP
    rw[Bool.or_eq_true,decide_eq_true_eq,decide_eq_true_eq];omega
   rw[headF,if_neg (by rw[e1];simp),if_neg (by rw[e2];simp),if_neg e3,if_pos (any_at Enc.d (by omega) e5)]
  ·have e4:params.any (badP most)=false:=any_no Enc.d fun i hi=>hw i (by omega)
   simp only[pickB_and,Bool.and_eq_true,decide_eq_true_eq] at ht
   refine⟨by rw[headF,if_neg (by rw[e1];simp),if_neg (by rw[e2];simp),if_neg e3,if_neg (by rw[e4];simp),if_neg (by omega)],?_⟩
   conv=>whnf
   refine⟨[],[],trivial,?_,rfl⟩
   repeat' first|exact eN|refine And.intro ?_ ?_
  ·have e4:params.any (badP most)=false:=any_no Enc.d fun i hi=>hw i (by omega)
   refine pzV ?_
   simp only[pickB_and,Bool.and_eq_true,decide_eq_true_eq] at ht
   rw[headF,if_neg (by rw[e1];simp),if_neg (by rw[e2];simp),if_neg e3,if_neg (by rw[e4];simp),if_pos (by omega)]
 ·have e1:Word name=true:=by assumption
  have e2:(known.any fun k=>decide (k=name))=false:=by
   have h:(!known.any fun k=>decide (k=name))=true:=by assumption
   simpa using h
  have e3:8<params.length:=by
   have h: ¬decide ((params.length:Int)<=8)=true:=ht
   rw[decide_eq_true_eq] at h
   omega
  refine pzV ?_
  rw[headF,if_neg (by rw[e1];simp),if_neg (by rw[e2];simp),if_pos e3]
 ·have e1:Word name=true:=by assumption
  have e2:(known.any fun k=>decide (k=name))=true:=by
   have h: ¬(!known.any fun k=>decide (k=name))=true:=ht
   simpa using h
  refine pzV ?_
  rw[headF,if_neg (by rw[e1];simp),if_pos e2]
 ·have e1:Word name=false:=by
   have h: ¬Word name=true:=ht
   simpa using h
  refine pzV ?_
  rw[headF,if_pos e1]
theorem names_O (m:ModE) (hs:siz m<4294967296):
  ASpecO true Tryz.prog 26 [eS m] [] ((headsF m).code=0) (.tup []) [] (vflt (headsF m).code (headsF m).at') []:=by
 have h0:siz m=siz m.vars+siz m.exts+siz m.funcs:=rfl
 refine ASpecO.enter TYok mixed Tryz.func26 rfl Tryz.call26 Tryz.ntmps26 rfl (rs:=[]) rfl (Clo.one rfl) (Clo.one rfl) rfl (keep:=[0,1,2,3,4,6,7,8,10,11,12,33,34,35,48,49,50,75,76,77,92,93,94]) fun pin=>?_;conv=>whnf
 repeat' first|(refine iG (fun hb hc=>?_) (fun hb hc=>?_)<;>first|exact hc.elim|(exfalso;omega)|conv=>whnf)|(refine gqs ?_;conv=>whnf)|((first|refine CallV.pan ?_|refine CallW.pan ?_);(conv=>whnf);refine cP (must_O _ _ ⟨-1,0,0⟩) (fun ht=>?_) (fun ht=>?_)<;>conv=>whnf)|(refine yt ?_;conv=>whnf)|exact⟨_,.keep rfl rfl⟩|fail
 ·simp only[pickB_and,Bool.and_eq_true,decide_eq_true_eq] at ht
  have k1: ¬(8<m.vars.length\/8<m.exts.length\/8<m.funcs.length):=by omega
  refine lp [35] (fun q:Nat=>[.i .i64 q]) (fun q=>[(1,bx m),(2,bx (⟨-1,0,0⟩:Plc))]) (fun q=>q<=m.vars.length/\ ∀i,i<q->varCode m i=0) (fun q=>m.vars.length-q) 0 ⟨by omega,fun i h=>by omega⟩ ?_ fun q hq=>?_
  ·refine eP [] [] ?_ ?_<;>repeat' first|exact eN|refine And.intro ?_ ?_
  conv=>whnf
  obtain⟨hq,hv⟩:=hq
  have h1:(m.vars.getD q Enc.d).name.size<=siz m.vars:=siz_at m.vars q
  repeat' first|(refine iG (fun hb hc=>?_) (fun hb hc=>?_)<;>first|exact hc.elim|(exfalso;omega)|conv=>whnf)|(refine gqs ?_;conv=>whnf)|((first|refine CallV.pan ?_|refine CallW.pan ?_);(conv=>whnf);refine cP (must_O _ _ ⟨-1,0,0⟩) (fun ht=>?_) (fun ht=>?_)<;>conv=>whnf)|(refine gqc (x:=fun _=>lexWord_S _ (by simp only[Int.toNat_natCast];omega)) (k:= ?_);conv=>whnf)|(refine yt ?_;conv=>whnf)|exact⟨_,.keep rfl rfl⟩|fail
  ·have e1:Word (m.vars.getD q Enc.d).name=true:=ht
   refine lp [50] (fun k:Nat=>[.i .i64 k]) (fun k=>[(4,bx (m.vars.getD q Enc.d)),(1,bx m),(2,bx (⟨-1,0,0⟩:Plc))]) (fun k=>k<=q/\ ∀i,i<k->decide ((m.vars.getD i Enc.d).name=(m.vars.getD q Enc.d).name)=false) (fun k=>q-k) 0 ⟨by omega,fun i h=>by omega⟩ ?_ fun k hk=>?_
   ·refine eP [] [] ?_ ?_<;>repeat' first|exact eN|refine And.intro ?_ ?_
   conv=>whnf
   obtain⟨hk,hw⟩:=hk
   have hlo:lenO none 0 (q:Int)=q:=rfl
   repeat' first|(refine iG (fun hb hc=>?_) (fun hb hc=>?_)<;>first|exact hc.elim|(exfalso;omega)|conv=>whnf)|(refine gqs ?_;conv=>whnf)|((first|refine CallV.pan ?_|refine CallW.pan ?_);(conv=>whnf);refine cP (must_O _ _ ⟨-1,0,0⟩) (fun ht=>?_) (fun ht=>?_)<;>conv=>whnf)|(refine yt ?_;conv=>whnf)|exact⟨_,.keep rfl rfl⟩|fail
   ·have e5:decide ((m.vars.getD k Enc.d).name=(m.vars.getD q Enc.d).name)=false:=by
     have h:(!decide ((m.vars.getD k Enc.d).name=(m.vars.getD q Enc.d).name))=true:=ht
     simpa using h
    refine .mk (k+1) ⟨by omega,all_step hw e5⟩ (by omega) ?_
    refine eP [] [] ?_ ?_<;>repeat' first|exact eN|refine And.intro ?_ ?_
   ·have e5:decide ((m.vars.getD k Enc.d).name=(m.vars.getD q Enc.d).name)=true:=by
     have h: ¬(!decide ((m.vars.getD k Enc.d).name=(m.vars.getD q Enc.d).name))=true:=ht
     simpa using h
    have e:varCode m q=5:=by simp only[varCode];rw[if_neg (by rw[e1];simp),if_pos (take_any Enc.d (by omega) hq e5)]
    exact pzE (by rw[headsF_var k1 (by omega) hv (by omega),e]) (by decide)
   ·simp only[pickB_and,Bool.and_eq_true,decide_eq_true_eq] at ht
    have e:varCode m q=0:=by simp only[varCode];rw[if_neg (by rw[e1];simp),if_neg (by rw[take_no Enc.d fun i hi=>hw i (by omega)];simp),if_neg (show¬((m.vars.getD q Enc.d).size<1\/64<(m.vars.getD q Enc.d).size) from fun h=>h.elim (fun h=>by have:=ht.1;omega) (fun h=>by have:=ht.2;omega))]
    refine .mk (q+1) ⟨by omega,all_step hv e⟩ (by omega) ?_
    refine eP [] [] ?_ ?_<;>repeat' first|exact eN|refine And.intro ?_ ?_
   ·simp only[pickB_and,Bool.and_eq_true,decide_eq_true_eq] at ht
    have e:varCode m q=6:=by simp only[varCode];rw[if_neg (by rw[e1];simp),if_neg (by rw[take_no Enc.d fun i hi=>hw i (by omega)];simp),if_pos (by omega)]
    exact pzE (by rw[headsF_var k1 (by omega) hv (by omega),e]) (by decide)
  ·have e:varCode m q=4:=by
    simp only[varCode]
    rw[if_pos (by rw[<-Bool.not_eq_true];exact ht)]
   exact pzE (by rw[headsF_var k1 (by omega) hv (by omega),e]) (by decide)
  have k2:firstC (varCode m) m.vars.length=none:=firstC_no fun i hi=>hv i (by omega)
  have f1: ∀q,q<=m.exts.length->((m.exts.take q).map (·.name)).length=q:=fun q h=>by rw[List.length_map,List.length_take];omega
  have h2:=len_siz m.exts
  have h3:=len_siz m.funcs
  refine lp [77] (fun q:Nat=>[.i .i64 q]) (fun q=>nmO none ((m.exts.take q).map (·.name))++[(1,bx m),(2,bx (⟨-1,0,0⟩:Plc))]) (fun q=>q<=m.exts.length/\ ∀i,i<q->extCode m i=0) (fun q=>m.exts.length-q) 0 ⟨by omega,fun i h=>by omega⟩ ?_ fun q hq=>?_
  ·refine eP [] [1001] ?_ ?_<;>repeat' first|exact eN|refine And.intro ?_ ?_
  conv=>whnf
  obtain⟨hq,hx⟩:=hq
  have h4:siz (m.exts.getD q Enc.d)<=siz m.exts:=siz_at m.exts q
  have h5:siz (m.exts.getD q Enc.d)=(m.exts.getD q Enc.d).name.size+siz (m.exts.getD q Enc.d).params:=rfl
  have h6:=f1 q hq
  repeat' first|(refine iG (fun hb hc=>?_) (fun hb hc=>?_)<;>first|exact hc.elim|(exfalso;omega)|conv=>whnf)|(refine gqs ?_;conv=>whnf)|((first|refine CallV.pan ?_|refine CallW.pan ?_);(conv=>whnf);refine cP (names1_O _ ((m.exts.take q).map (·.name)) _ _ _ ⟨-1,0,0⟩ (by simp only[Int.toNat_natCast];omega) (by omega)) (fun ht=>?_) (fun ht=>?_)<;>conv=>whnf)|(refine yt ?_;conv=>whnf)|exact⟨_,.keep rfl rfl⟩|fail
  ·have e:(m.exts.take (q+1)).map (·.name)=(m.exts.take q).map (·.name)++[(m.exts.getD q Enc.d).name]:=by
    rw[List.take_add_one,List.map_append,List.getD_eq_getElem?_getD,List.getElem?_eq_getElem (by omega)];rfl
   refine .mk (q+1) ⟨by omega,all_step hx ht⟩ (by omega) ?_
   refine eP [] [] ?_ ?_<;>repeat' first|exact eN|refine And.intro ?_ ?_|exact snoc_len e|exact snoc_get e rfl|rw[e]
  ·exact pzE (headsF_ext k1 k2 (by omega) hx ht) ht
  have k3:firstC (extCode m) m.exts.length=none:=firstC_no fun i hi=>hx i (by omega)
  obtain rfl:q=m.exts.length:=by omega
  rw[List.take_length]
  let kn (q:Nat):List ByteArray:=m.exts.map (·.name)++(m.funcs.take q).map (·.name)
  have f2: ∀q,q<=m.funcs.length->(kn q).length=m.exts.length+q:=fun q h=>by
   simp only[kn];rw[List.length_append,List.length_map,List.length_map,List.length_take];omega
  have f3:m.exts.map (·.name)=kn 0:=by simp[kn]
  rw[f3]
  refine lp [94] (fun q:Nat=>[.i .i64 q]) (fun q=>nmO none (kn q)++[(1,bx m),(2,bx (⟨-1,0,0⟩:Plc))]) (fun q=>q<=m.funcs.length/\ ∀i,i<q->fnCode m i=0) (fun q=>m.funcs.length-q) 0 ⟨by omega,fun i h=>by omega⟩ ?_ fun q hq=>?_
  ·refine eP [] [] ?_ ?_<;>repeat' first|exact eN|refine And.intro ?_ ?_
  conv=>whnf
  obtain⟨hq,hy⟩:=hq
  have g4:siz (m.funcs.getD q Enc.d)<=siz m.funcs:=siz_at m.funcs q
  have g5:siz (m.funcs.getD q Enc.d)=(m.funcs.getD q Enc.d).name.size+siz (m.funcs.getD q Enc.d).params+siz (m.funcs.getD q Enc.d).blocks:=rfl
  have g6:=f2 q hq
  repeat' first|(refine iG (fun hb hc=>?_) (fun hb hc=>?_)<;>first|exact hc.elim|(exfalso;omega)|conv=>whnf)|(refine gqs ?_;conv=>whnf)|((first|refine CallV.pan ?_|refine CallW.pan ?_);(conv=>whnf);refine cP (names1_O _ (kn q) _ _ _ ⟨q,0,0⟩ (by simp only[Int.toNat_natCast];omega) (by omega)) (fun ht=>?_) (fun ht=>?_)<;>conv=>whnf)|(refine yt ?_;conv=>whnf)|exact⟨_,.keep rfl rfl⟩|fail
  ·have e:kn (q+1)=kn q++[(m.funcs.getD q Enc.d).name]:=by
    simp only[kn];rw[List.take_add_one,List.map_append,List.getD_eq_getElem?_getD,List.getElem?_eq_getElem (by omega),List.append_assoc];rfl
   refine .mk (q+1) ⟨by omega,all_step hy ht⟩ (by omega) ?_
   refine eP [] [] ?_ ?_<;>repeat' first|exact eN|refine And.intro ?_ ?_|exact snoc_len e|exact snoc_get e rfl|rw[e]
  ·exact pzE (headsF_fn k1 k2 k3 (by omega) hy ht) ht
  ·have k4:firstC (fnCode m) m.funcs.length=none:=firstC_no fun i hi=>hy i (by omega)
   exact rtV (by rw[headsF,if_neg k1,k2,k3,k4])
 ·refine pzE ?_ (by decide)
  simp only[pickB_and,Bool.and_eq_true,decide_eq_true_eq] at ht
  rw[headsF,if_pos (by omega)]
abbrev fnA (m:ModE) (q:Nat):FnE:=m.funcs.getD q Enc.d
noncomputable def chkP (m:ModE) (R:List Bool) (T:List (List Bool)) (f:FnE) (n:Int):FaultE:=
 if(blocksF f n).code=0 then
  if(eachF f n (formB m f)).code=0 then
   if(eachF f n (regC f)).code=0 then
    if(eachF f n (oprI m f)).code=0 then
     if(eachF f n (phiE f)).code=0 then eachF f n (ordPl f R T (madM f n (Code f).length)) else eachF f n (phiE f)
    else eachF f n (oprI m f)
   else eachF f n (regC f)
  else eachF f n (formB m f)
 else blocksF f n
noncomputable def chkU (m:ModE) (R:FnE->List Bool) (T:FnE->List (List Bool)):FaultE:=
 if(headsF m).code=0 then firstF (fun q=>chkP m (R (fnA m q)) (T (fnA m q)) (fnA m q) q) m.funcs.length else headsF m
theorem chkU_at {m:ModE} {R:FnE->List Bool} {T:FnE->List (List Bool)} {q:Nat} {F:FaultE} (hz:(headsF m).code=0) (hq:q<m.funcs.length) (hv: ∀i:Nat,i<q->(chkP m (R (fnA m i)) (T (fnA m i)) (fnA m i) i).code=0) (e:chkP m (R (fnA m q)) (T (fnA m q)) (fnA m q) q=F) (hF: ¬F.code=0):chkU m R T=F:=by
 rw[chkU,if_pos hz]
 exact firstF_at hq hv e hF
def chkZ (F:FaultE) (b2 b3:Nat):AV->Sl->Os->Prop:=fun v s o=>v=vflt F.code F.at'/\lk s 2=some (0,.op 2 0)/\lk s 3=some (0,.op 3 0)/\ ∃x y0 y1 y2,lk o 2=some (.box (some b2) (some 30) [.i .i64 x])/\lk o 3=some (.box (some b3) (some 32) [.i .i64 y0,.i .i64 y1,.i .i64 y2])
def postE (S:Nat->Prop) (β:Nat->Wt) (w:World) (r:AV) (v:Value) (β':Nat->Wt) (w':World):Prop:=
 BelowX (feet [] β) w w'/\
  (∀id ob,lk ([]:Os) id=some ob->orel (fun k=>(S k\/w.heap.size<=k\/k∈feet [] β)/\k∉feet [] β') β' w' (β' id) ob)/\(∀k∈feet [] β',(w.heap.size<=k\/k∈feet [] β)/\k<w'.heap.size)/\(feet [] β').Nodup/\(([]:Os).map (·.1)).Nodup/\
  Kept (.b false) [] [] β β'/\rel (fun k=>(S k\/w.heap.size<=k\/k∈feet [] β)/\k∉feet [] β') β' w' r v
theorem check_F (m:ModE) (R:FnE->List Bool) (T:FnE->List (List Bool)) (hm:siz m<4294967296)
  (hR: ∀f,isRG f (-1) (R f)) (hT: ∀f,isTab f (T f)) (hreg: ∀q b i,inI (iAt (fnA m q) b i).reg) (hn: ∀q b i,inI (iAt (fnA m q) b i).n)
  (hO: ∀q:Nat,(eachF (fnA m q) q (formB m (fnA m q))).code=0-> ∀b i,b<(fnA m q).blocks.length->i<iLen (fnA m q) b->((iAt (fnA m q) b i).op=30->(iAt (fnA m q) b i).args.length=(Callee m (iAt (fnA m q) b i).n).1.length)/\((iAt (fnA m q) b i).op=29->(iAt (fnA m q) b i).t=65/\(iAt (fnA m q) b i).args.length=2))
  (hQ: ∀q:Nat,(blocksF (fnA m q) q).code=0->(eachF (fnA m q) q (formB m (fnA m q))).code=0->(eachF (fnA m q) q (regC (fnA m q))).code=0->(eachF (fnA m q) q (oprI m (fnA m q))).code=0->(eachF (fnA m q) q (phiE (fnA m q))).code=0-> ∀b i,b<(fnA m q).blocks.length->i<iLen (fnA m q) b->OrdOk (fnA m q) (madM (fnA m q) q (Code (fnA m q)).length) (iAt (fnA m q) b i)):ASpecF false Tryz.prog 12 [eS m] [] (.tup [.i .i64 (chkU m R T).code,eS (chkU m R T).at']) []:=by
 refine⟨Tryz.call12,Clo.one rfl,fun S β w us hob hap hus hvr=>?_⟩
 suffices hmain: ∀RR:Ending->World->Prop,(∀v β' w',postE S β w (.tup [.i .i64 (chkU m R T).code,eS (chkU m R T).at']) v β' w'->RR (.returned v) w')->Calls Tryz.prog 12 us.toArray w RR from hmain _ fun v β' w' h=>⟨v,β',rfl,h⟩
 intro RR hRR
 refine calls_of_wp_defers Tryz.func12 rfl ?_
 have hg0:=start_gam (n:=46) (N:=46) (pv:=fun _=>none) (ds:=[]) (hvr:=hvr) (hap:=hap) (a:= { tmps:=us.toArray++Array.replicate (46-us.toArray.size) undef,defers:=[]}) hob hus rfl (fun d hd=>absurd hd (Nat.not_lt_zero d)) (by show 1<=46;decide) rfl rfl
 refine wp_seq_k fun K hK=>?_
 refine runC_ok (n:=46) (E:=⟨46,S,w,feet [] β,hvr,hap,[],fun _=>none⟩) (T:=TY) (keep:=[0,1,2,3,4,5,6,11,12,13]) (Z:=noZ) TYok mixed (K:=fun e s o=>e= .n/\s=[(3,0,.op 3 0),(2,0,.op 2 0),(1,0,.op 1 0),(0,0,eS m)]/\o=[(3,.box none (some 32) [.i .i64 0,.i .i64 0,.i .i64 0]),(2,.box none (some 30) [.i .i64 0]),(1,.box none (some 26) (Enc.enc m))]) ?_ rfl noZ_ok (fun e s o hk β1 a w1 hg=>?_) β _ _ hg0
 ·conv=>whnf
  repeat' first|(refine iG (fun hb hc=>?_) (fun hb hc=>?_)<;>first|exact hc.elim|(exfalso;omega)|conv=>whnf)|(refine gqs ?_;conv=>whnf)|(refine yt ?_;conv=>whnf)|exact⟨_,.keep rfl rfl⟩|fail
  all_goals rfl
 obtain⟨rfl,rfl,rfl⟩:=hk
 refine hK _ _ ?_
 refine wp_seq_k fun K1 hK1=>?_
 obtain⟨u2,e2,f2⟩:=hg.slots 2 0 _ rfl
 obtain⟨u3,e3,f3⟩:=hg.slots 3 0 _ rfl
 have f2:=f2 rfl
 have f3:=f3 rfl
 have e2:a.tmps[2]?=some u2:=e2
 have e3:a.tmps[3]?=some u3:=e3
 obtain⟨tm,df⟩:=a
 have hdf:df=[]:=hg.defers
 subst hdf
 have hmf: ∀(fn:Fn) (first cap:Array Value) (w:World),(Instr.makeFunc fn first cap).run Tryz.prog w= .ok (.func fn first cap) w:=fun _ _ _ _=>rfl
 have hsz:tm.size=46:=hg.size.1
 have hp46: ∀d,d<Nat.div 46 1048576->d<0:=fun d h=>h
 have g2:tm.getD 2 undef=u2:=by rw[Array.getD_eq_getD_getElem?,e2];rfl
 have g3:tm.getD 3 undef=u3:=by rw[Array.getD_eq_getD_getElem?,e3];rfl
 iterate 9 go_step
 refine hK1 _ _ ?_
 obtain⟨b2,c2,y2,k1,k2,k3,k4,k5,k6,k7⟩:=hg.objs 2 _ rfl
 obtain⟨b3,c3,y3,l1,l2,l3,l4,l5,l6,l7⟩:=hg.objs 3 _ rfl
 have hg:=hg.retell (o':=[(3,.box (some b3) (some 32) [.i .i64 0,.i .i64 0,.i .i64 0]),(2,.box (some b2) (some 30) [.i .i64 0]),(1,.box none (some 26) (Enc.enc m))]) rfl fun id ob' hl=>by
  rw[lk_cons] at hl
  split at hl
  ·rename_i e;cases hl;subst e;exact⟨b3,c3,y3,l1,l2,l3,l4,l5,l6,fun _ h=>by cases h;rfl,l7.2⟩
  ·rename_i e3
   rw[lk_cons] at hl
   split at hl
   ·rename_i e;cases hl;subst e;exact⟨b2,c2,y2,k1,k2,k3,k4,k5,k6,fun _ h=>by cases h;rfl,k7.2⟩
   ·rename_i e2
    refine hg.objs id ob' ?_
    rw[lk_cons,if_neg e3,lk_cons,if_neg e2]
    exact hl
 have hg2:Gam ⟨46,S,w,feet [] β,hvr,hap,[{ target:=Target.fn (Fn.func 25) #[u2,u3],args:= #[]}],fun _=>none⟩ [] [(3,0,.op 3 0),(2,0,.op 2 0),(1,0,.op 1 0),(0,0,eS m)] [(3,.box (some b3) (some 32) [.i .i64 0,.i .i64 0,.i .i64 0]),(2,.box (some b2) (some 30) [.i .i64 0]),(1,.box none (some 26) (Enc.enc m))] β1 { tmps:=tm.setIfInBounds 7 (Value.func (Fn.func 25) #[] #[u2,u3]),defers:=[{ target:=Target.fn (Fn.func 25) #[u2,u3],args:= #[]}]} w1:=by
  refine⟨⟨by simpa using hsz,fun d hd=>absurd (hp46 d hd) (Nat.not_lt_zero d)⟩,rfl,TbOk.nil,fun d c v hl=>?_,hg.objs,hg.below,hg.new,hg.nodup,hg.keys⟩
  obtain⟨u,h1,h2⟩:=hg.slots d c v hl
  refine⟨u,?_,h2⟩
  have hd: ¬7=d:=fun e=>by subst e;exact nomatch hl
  rw[<-h1]
  exact Array.getElem?_setIfInBounds_ne hd
 have hu2:(tm.setIfInBounds 7 (Value.func (Fn.func 25) #[] #[u2,u3]))[2]?=some u2:=by rw[Array.getElem?_setIfInBounds_ne (by decide),e2]
 refine runC_ok (n:=46) (T:=TY) (keep:=[0,1,2,3,4,5,6,11,12,13]) (Z:=chkZ (chkU m R T) b2 b3) TYok mixed (K:=fun e s o=>(e= .r\/e= .n)/\RetM TY [.cell 2 30,.cell 3 32] (fun i=>(β i).foot.headD 0) [] s o (.tup [.i .i64 (chkU m R T).code,eS (chkU m R T).at']) []/\lk s 2=some (0,.op 2 0)/\lk s 3=some (0,.op 3 0)) ?_ rfl (fun v s o hz tb β3 a3 w3 u hg3 hrel=>?_) (fun e s o hk β3 a3 w3 hg3=>?_) β1 _ _ hg2
 ·conv=>whnf
  repeat' first|(refine iG (fun hb hc=>?_) (fun hb hc=>?_)<;>first|exact hc.elim|(exfalso;omega)|conv=>whnf)|(refine gqs ?_;conv=>whnf)|((first|refine CallV.pan ?_|refine CallW.pan ?_);(conv=>whnf);refine cP (names_O m hm) (fun ht=>?_) (fun ht=>?_)<;>conv=>whnf)|(refine yt ?_;conv=>whnf)|exact⟨_,.keep rfl rfl⟩|fail
  ·have hz:=ht
   refine lp [13] (fun q:Nat=>[.i .i64 q]) (fun q=>[(3,.box (some b3) (some 32) [.i .i64 0,.i .i64 0,.i .i64 0]),(2,.box (some b2) (some 30) [.i .i64 0]),(1,bx m)]) (fun q=>q<=m.funcs.length/\ ∀i:Nat,i<q->(chkP m (R (fnA m i)) (T (fnA m i)) (fnA m i) i).code=0) (fun q=>m.funcs.length-q) 0 ⟨Nat.zero_le _,fun i h=>absurd h (Nat.not_lt_zero i)⟩ ?_ fun q hq=>?_
   ·refine eP [] [] ?_ ?_<;>repeat' first|exact eN|refine And.intro ?_ ?_
   conv=>whnf
   obtain⟨hq,hv⟩:=hq
   have hfl:=funcs_le m
   have hf:siz (fnA m q)<4294967296:=Nat.lt_of_le_of_lt (fn_le m q) hm
   have hx: ∀b i,siz (iAt (fnA m q) b i)<4294967296:=fun b i=>Nat.lt_of_le_of_lt (ins_le (fnA m q) b i) hf
   repeat' first|(refine iG (fun hb hc=>?_) (fun hb hc=>?_)<;>first|exact hc.elim|(exfalso;omega)|conv=>whnf)|(refine gqs ?_;conv=>whnf)|(refine CallW.pl ?_;(conv=>whnf);(repeat(refine yb ?_;(conv=>whnf)));refine cQ (blocks_O m (fnA m q) q .nil hf) (fun ht=>?_) (fun ht=>?_)<;>conv=>whnf)|(refine CallW.pl ?_;(conv=>whnf);(repeat(refine yb ?_;(conv=>whnf)));refine cQ (eachForm_O m (fnA m q) q .nil hm hf (hn q)) (fun ht=>?_) (fun ht=>?_)<;>conv=>whnf)|(refine CallW.pl ?_;(conv=>whnf);(repeat(refine yb ?_;(conv=>whnf)));refine cQ (registers_O m (fnA m q) q .nil hf (hreg q)) (fun ht=>?_) (fun ht=>?_)<;>conv=>whnf)|(refine gqc (x:=fun _=>types_S (fnA m q) hf (hreg q)) (k:= ?_);conv=>whnf)|(refine yt ?_;conv=>whnf)|exact⟨_,.keep rfl rfl⟩|fail
   ·have hb0:(blocksF (fnA m q) q).code=0:=by assumption
    have hfo:(eachF (fnA m q) q (formB m (fnA m q))).code=0:=by assumption
    have hrg:(eachF (fnA m q) q (regC (fnA m q))).code=0:=by assumption
    have h0:0<(fnA m q).blocks.length:=by
     rcases Nat.eq_zero_or_pos (fnA m q).blocks.length with h|h
     ·rw[blocksF,if_pos (by omega)] at hb0;simp at hb0
     ·exact h
    repeat' first|(refine iG (fun hb hc=>?_) (fun hb hc=>?_)<;>first|exact hc.elim|(exfalso;omega)|conv=>whnf)|(refine gqs ?_;conv=>whnf)|(refine CallW.pl ?_;(conv=>whnf);(repeat(refine yb ?_;(conv=>whnf)));refine cQ (eachOpr_O m (fnA m q) q hm hf (hn q) hx (hO q hfo)) (fun ht=>?_) (fun ht=>?_)<;>conv=>whnf)|(refine CallW.pl ?_;(conv=>whnf);(repeat(refine yb ?_;(conv=>whnf)));refine cQ (phis_O m (fnA m q) q (eL (TypesL (fnA m q))) hf hx) (fun ht=>?_) (fun ht=>?_)<;>conv=>whnf)|(refine yt ?_;conv=>whnf)|exact⟨_,.keep rfl rfl⟩|fail
    ·have hop:(eachF (fnA m q) q (oprI m (fnA m q))).code=0:=by assumption
     have hph:(eachF (fnA m q) q (phiE (fnA m q))).code=0:=by assumption
     repeat' first|(refine iG (fun hb hc=>?_) (fun hb hc=>?_)<;>first|exact hc.elim|(exfalso;omega)|conv=>whnf)|(refine gqs ?_;conv=>whnf)|(refine CallW.pl ?_;(conv=>whnf);(repeat(refine yb ?_;(conv=>whnf)));refine cQ (order_O m (fnA m q) q (eL (TypesL (fnA m q))) (R (fnA m q)) (T (fnA m q)) h0 hf (hR _) (hT _) (hreg q) (hQ q hb0 hfo hrg hop hph)) (fun ht=>?_) (fun ht=>?_)<;>conv=>whnf)|(refine yt ?_;conv=>whnf)|exact⟨_,.keep rfl rfl⟩|fail
     ·refine .mk (q+1) ⟨by omega,all_step hv (by rw[chkP,if_pos hb0,if_pos hfo,if_pos hrg,if_pos hop,if_pos hph];exact ht)⟩ (by omega) ?_
      refine eP [] [] ?_ ?_<;>repeat' first|exact eN|refine And.intro ?_ ?_
     ·exact⟨by rw[chkU_at hz (by omega) hv (by rw[chkP,if_pos hb0,if_pos hfo,if_pos hrg,if_pos hop,if_pos hph]) ht],rfl,rfl,_,_,_,_,rfl,rfl⟩
    ·have hop:(eachF (fnA m q) q (oprI m (fnA m q))).code=0:=by assumption
     exact⟨by rw[chkU_at hz (by omega) hv (by rw[chkP,if_pos hb0,if_pos hfo,if_pos hrg,if_pos hop,if_neg ht]) ht],rfl,rfl,_,_,_,_,rfl,rfl⟩
    ·exact⟨by rw[chkU_at hz (by omega) hv (by rw[chkP,if_pos hb0,if_pos hfo,if_pos hrg,if_neg ht]) ht],rfl,rfl,_,_,_,_,rfl,rfl⟩
   ·have hb0:(blocksF (fnA m q) q).code=0:=by assumption
    have hfo:(eachF (fnA m q) q (formB m (fnA m q))).code=0:=by assumption
    exact⟨by rw[chkU_at hz (by omega) hv (by rw[chkP,if_pos hb0,if_pos hfo,if_neg ht]) ht],rfl,rfl,_,_,_,_,rfl,rfl⟩
   ·have hb0:(blocksF (fnA m q) q).code=0:=by assumption
    exact⟨by rw[chkU_at hz (by omega) hv (by rw[chkP,if_pos hb0,if_neg ht]) ht],rfl,rfl,_,_,_,_,rfl,rfl⟩
   ·exact⟨by rw[chkU_at hz (by omega) hv (by rw[chkP,if_neg ht]) ht],rfl,rfl,_,_,_,_,rfl,rfl⟩
   ·have e:chkU m R T=⟨0,⟨0,0,0⟩⟩:=by rw[chkU,if_pos hz];exact firstF_no fun i hi=>hv i (by omega)
    rw[e]
    refine⟨.inl rfl,?_,rfl,rfl⟩
    conv=>whnf
    refine⟨[],[],?_,?_,rfl⟩<;>repeat' first|exact eN|refine And.intro ?_ ?_
  ·exact⟨by rw[chkU,if_neg ht],rfl,rfl,_,_,_,_,rfl,rfl⟩
 ·obtain⟨rfl,z2,z3,x,y0,y1,y2,o2,o3⟩:=hz
  obtain⟨uv,rfl,hv⟩:=hrel
  obtain⟨p2,t2,h2⟩:=hg3.slots 2 0 _ z2
  obtain⟨p3,t3,h3⟩:=hg3.slots 3 0 _ z3
  rw[tg_zero hg3.tbok] at t2 t3
  have h2:=h2 (tg_zero hg3.tbok)
  have h3:=h3 (tg_zero hg3.tbok)
  have hgs:=hg3.slotsTo (s':=[(2,0,.op 2 0),(3,0,.op 3 0)]) TbOk.nil fun d c v hl=>by
   rw[lk_cons] at hl
   split at hl
   ·rename_i e;cases hl;subst e;exact⟨p2,t2,fun _=>h2⟩
   ·rw[lk_cons] at hl
    split at hl
    ·rename_i e;cases hl;subst e;exact⟨p3,t3,fun _=>h3⟩
    ·exact nomatch hl
  have hsub:subO o [(2,.box (some b2) (some 30) [.i .i64 x]),(3,.box (some b3) (some 32) [.i .i64 y0,.i .i64 y1,.i .i64 y2])]:=⟨o2,o3,trivial⟩
  have hko:(([(2,.box (some b2) (some 30) [.i .i64 x]),(3,.box (some b3) (some 32) [.i .i64 y0,.i .i64 y1,.i .i64 y2])]:Os).map (·.1)).Nodup:=by simp
  obtain⟨hob3,hap3⟩:=OB.of hg3 hsub hko
  obtain⟨b2',d2,n2,m1,m2,m3,m4,m5,m6,m7,m8⟩:=hob3.objs 2 _ rfl
  obtain⟨b3',d3,n3,q1,q2,q3,q4,q5,q6,q7,q8⟩:=hob3.objs 3 _ rfl
  obtain rfl:=m7 _ rfl
  obtain rfl:=q7 _ rfl
  have hu:u2=p2/\u3=p3:=by
   obtain⟨_,x1,v1,rfl⟩:=f2
   obtain⟨_,x2,v2,rfl⟩:=h2
   obtain⟨_,x3,v3,rfl⟩:=f3
   obtain⟨_,x4,v4,rfl⟩:=h3
   rw[k1] at v1
   rw[m1] at v2
   rw[l1] at v3
   rw[q1] at v4
   cases v1;cases v2;cases v3;cases v4
   exact⟨rfl,rfl⟩
  obtain⟨rfl,rfl⟩:=hu
  have hob':OB (Env.good ⟨46,S,w,feet [] β,hvr,hap,[{ target:=Target.fn (Fn.func 25) #[u2,u3],args:= #[]}],fun _=>none⟩ o β3) (fun i=>β3 (i-998)) w3 (cbO x y0 y1 y2):=by
   refine⟨fun id ob hl=>?_,hob3.nodup,by simp[cbO],hob3.lt⟩
   unfold cbO at hl
   rw[lk_cons] at hl
   split at hl
   ·rename_i e;cases hl;subst e;exact⟨_,d2,n2,m1,m2,m3,m4,m5,m6,(fun _ h=>nomatch h),m8⟩
   ·rw[lk_cons] at hl
    split at hl
    ·rename_i e;cases hl;subst e;exact⟨_,d3,n3,q1,q2,q3,q4,q5,q6,(fun _ h=>nomatch h),q8⟩
    ·exact nomatch hl
  show Leaves Tryz.prog Tryz.f12 a3.tmps RR a3.defers _ w3
  rw[hg3.defers]
  refine leaves_cons (f:=25) (args:= #[u2,u3]) (by simp) (by simp[go_sem]) ?_
  refine catch_on (c:=(chkU m R T).code) (z0:=(chkU m R T).at'.f) (z1:=(chkU m R T).at'.b) (z2:=(chkU m R T).at'.i) hob' hap3 ⟨u2,[u3],rfl,h2,u3,[],rfl,h3,rfl⟩ (flat_rel rfl hv) hg3.vars fun r w' β' c1 c2 c3 c4 c5 c6=>?_
  obtain⟨β4,hg4,_,_⟩:=hgs.changed (fx:=false) (β':=fun i=>β' (i+998)) (no:=[(2,.box none (some 30) [.i .i64 (chkU m R T).code]),(3,.box none (some 32) [.i .i64 (chkU m R T).at'.f,.i .i64 (chkU m R T).at'.b,.i .i64 (chkU m R T).at'.i])]) (r:= .b true) (v:= .bool true) hsub hko rfl rfl c1 (fun id ob hl=>by
   rw[lk_cons] at hl
   split at hl
   ·rename_i e;cases hl;subst e;exact c2 1000 _ rfl
   ·rw[lk_cons] at hl
    split at hl
    ·rename_i e;cases hl;subst e;exact c2 1001 _ rfl
    ·exact nomatch hl) c3 c4 (by simp) ⟨fun id ob hl h1 h2=>by
   rw[lk_cons] at hl
   split at hl
   ·rename_i e;subst e;exact c6 1000 _ rfl rfl rfl
   ·rw[lk_cons] at hl
    split at hl
    ·rename_i e;subst e;exact c6 1001 _ rfl rfl rfl
    ·exact(nomatch hl),fun _ _ _ h=>nomatch h⟩ rfl ⟨fun id hm=>(nomatch hm),fun i ob hl id hm=>by
   rw[lk_cons] at hl
   split at hl
   ·rename_i e;cases hl;exact nomatch hm
   ·rw[lk_cons] at hl
    split at hl
    ·rename_i e;cases hl;exact nomatch hm
    ·exact nomatch hl⟩
  obtain⟨ur,β',r1,r2⟩:=ret_key (fx:=false) (fn:=Tryz.f12) (rs:=[.cell 2 30,.cell 3 32]) (r:= .tup [.i .i64 (chkU m R T).code,eS (chkU m R T).at']) (no:=[]) TYok Tryz.results12 hob rfl rfl hg4 (by
   conv=>whnf
   refine⟨[],[],?_,?_,rfl⟩<;>repeat' first|exact eN|refine And.intro ?_ ?_)
  exact⟨ur,r1,hRR ur β' _ r2⟩
 ·obtain⟨he,hret,z2,z3⟩:=hk
  obtain⟨ur,β',r1,r2⟩:=ret_key (fx:=false) (fn:=Tryz.f12) TYok Tryz.results12 hob rfl rfl hg3 hret
  have hl:Leaves Tryz.prog Tryz.f12 a3.tmps RR a3.defers .returning w3:=by
   rw[hg3.defers]
   refine leaves_cons (f:=25) (args:= #[u2,u3]) (by simp) (by simp[go_sem]) ?_
   refine(catch_off u2 u3 _).mono ?_
   rintro e u' w'' ⟨rfl,rfl,rfl⟩
   exact⟨ur,r1,hRR ur β' _ r2⟩
  rcases he with rfl|rfl
  ·exact hl
  ·exact hl
theorem firstF_eq2 {c c':Nat->FaultE} {n:Nat} (h: ∀i,i<n->(∀j,j<i->(c j).code=0)->(∀j,j<i->(c' j).code=0)->c i=c' i\/((c i).code=0/\(c' i).code=0)):firstF c n=firstF c' n:=by
 have key: ∀q,q<=n->(∀j,j<q->(c j).code=0)-> ∀j,j<q->(c' j).code=0:=fun q=>by
  induction q with
  |zero=>exact fun _ _ j hj=>absurd hj (Nat.not_lt_zero j)
  |succ q ih=>
   intro hq hv j hj
   have ih:=ih (by omega) fun j hj=>hv j (by omega)
   rcases Nat.lt_or_ge j q with h1|h1
   ·exact ih j h1
   ·obtain rfl:j=q:=by omega
    rcases h j (by omega) (fun i hi=>hv i (by omega)) ih with h2|h2
    ·rw[<-h2];exact hv j (by omega)
    ·exact h2.2
 by_cases hall: ∀j,j<n->(c j).code=0
 ·rw[firstF_no hall,firstF_no (key n (Nat.le_refl _) hall)]
 ·obtain⟨q,hq,hn,hv⟩: ∃q,q<n/\(c q).code≠0/\ ∀j,j<q->(c j).code=0:=by
   clear key h
   induction n with
   |zero=>exact absurd (fun j hj=>absurd hj (Nat.not_lt_zero j)) hall
   |succ n ih=>
    by_cases h1: ∀j,j<n->(c j).code=0
    ·refine⟨n,Nat.lt_succ_self n,fun h2=>hall fun j hj=>?_,h1⟩
     rcases Nat.lt_or_ge j n with h3|h3
     ·exact h1 j h3
     ·obtain rfl:j=n:=by omega
      exact h2
    ·obtain⟨q,a,b,d⟩:=ih h1
     exact⟨q,by omega,b,d⟩
  rcases h q hq hv (key q (by omega) hv) with h2|h2
  ·rw[firstF_at hq hv rfl hn,firstF_at hq (key q (by omega) hv) h2.symm hn]
  ·exact absurd h2.1 hn
theorem firstF_eq {c c':Nat->FaultE} {n:Nat} (h: ∀i,i<n->c i=c' i\/((c i).code=0/\(c' i).code=0)):firstF c n=firstF c' n:=firstF_eq2 fun i hi _ _=>h i hi
theorem forms_eq (m:ModE) (f:FnE) (n:Int):eachF f n (formB m f)=formsF m f n:=by
 refine firstF_eq fun i hi=>.inl ?_
 unfold eacC formB formI formC at2
 split
 ·rfl
 ·split<;>rfl
theorem operands_eq (m:ModE) (f:FnE) (n:Int):eachF f n (oprI m f)=operandsF m f n:=by
 refine firstF_eq fun i hi=>?_
 unfold eacC oprI opsC firstV at2
 cases firstC (oprC m f ((C1 f).getD i Enc.d)) ((C1 f).getD i Enc.d).args.length with
 |none=>exact .inr ⟨rfl,rfl⟩
 |some k=>exact .inl rfl
theorem kd_all {f:FnE} {j:Nat} (h:j<(Code f).length): ∃b k,b<f.blocks.length/\k<iLen f b/\j=(codeTo f b k).length:=kd_idx (Nat.le_refl _) h
theorem C2_inj {f:FnE} {i j:Nat} (hi:i<(Code f).length) (hj:j<(Code f).length) (h:(C2 f).getD i Enc.d=(C2 f).getD j Enc.d):i=j:=by
 obtain⟨b,k,h1,h2,rfl⟩:=kd_all hi
 obtain⟨b',k',h3,h4,rfl⟩:=kd_all hj
 rw[kd_2 h1 h2,kd_2 h3 h4] at h
 simp only[Plc.mk.injEq,true_and] at h
 obtain⟨e1,e2⟩:=h
 have:b=b':=by omega
 have:k=k':=by omega
 subst b' k'
 rfl
theorem Def_at {f:FnE} {r:Int} {i:Nat} (hi:i<(Code f).length) (h1:Result ((C1 f).getD i Enc.d)≠0) (h2:((C1 f).getD i Enc.d).reg=r) (h3: ∀j,j<i->((C1 f).getD j Enc.d).reg=r->Result ((C1 f).getD j Enc.d)=0):Def f r=((C2 f).getD i Enc.d,true):=by
 have g: ∀j,dfP r ((Code f).getD j noP)=(decide (((C1 f).getD j Enc.d).reg=r)&& !decide (Result ((C1 f).getD j Enc.d)=0)):=fun j=>by
  have e:((Code f).getD j noP).1=(C1 f).getD j Enc.d:=(getD_map Prod.fst (Code f) j noP Enc.d rfl).symm
  unfold dfP
  rw[e]
 have e2:((Code f).getD i noP).2=(C2 f).getD i Enc.d:=(getD_map Prod.snd (Code f) i noP Enc.d rfl).symm
 unfold Def
 rw[find_take noP (q:=i) hi (fun j hj=>by
  rw[g j]
  by_cases e:((C1 f).getD j Enc.d).reg=r
  ·rw[decide_eq_true (h3 j hj e)];simp
  ·rw[decide_eq_false e];rfl) (by rw[g i,decide_eq_true h2,decide_eq_false h1];rfl)]
 simp only[e2]
theorem regM_one {f:FnE} {i:Nat} {r:Int}:regM f i [r]≠0↔ ∃j,j<i/\Result ((C1 f).getD j Enc.d)≠0/\((C1 f).getD j Enc.d).reg=r:=by
 unfold regM
 split
 ·rename_i h
  simp only[List.any_eq_true,List.mem_range,Bool.and_eq_true,Bool.not_eq_true',decide_eq_false_iff_not,decide_eq_true_eq,List.cons.injEq,and_true] at h
  obtain⟨j,h1,h2,h3⟩:=h
  exact⟨fun _=>⟨j,h1,h2,h3.symm⟩,fun _=>by decide⟩
 ·rename_i h
  refine⟨fun h=>absurd rfl h,fun⟨j,h1,h2,h3⟩=>absurd ?_ h⟩
  simp only[List.any_eq_true,List.mem_range,Bool.and_eq_true,Bool.not_eq_true',decide_eq_false_iff_not,decide_eq_true_eq,List.cons.injEq,and_true]
  exact⟨j,h1,h2,h3.symm⟩
theorem first_ex {p:Nat->Prop}: ∀ {i:Nat},(∃j,j<i/\p j)-> ∃j,j<i/\p j/\ ∀k,k<j-> ¬p k:=fun {i}=>by
 induction i with
 |zero=>exact fun⟨j,h,_⟩=>absurd h (Nat.not_lt_zero j)
 |succ i ih=>
  intro⟨j,h1,h2⟩
  by_cases h: ∃j,j<i/\p j
  ·obtain⟨k,a,b,c⟩:=ih h
   exact⟨k,by omega,b,c⟩
  ·refine⟨j,h1,h2,fun k hk hp=>h ⟨k,by omega,hp⟩⟩
theorem registers_eq (f:FnE) (n:Int):eachF f n (regC f)=registersF f n:=by
 refine firstF_eq fun i hi=>?_
 obtain⟨b,k,h1,h2,h3⟩:=kd_all hi
 have e1:(codeTo f (plE f n i).b.toNat (plE f n i).i.toNat).length=i:=by
  have:=kd_2 h1 h2
  rw[<-h3] at this
  unfold plE
  rw[this,h3];rfl
 unfold eacC regC regF
 rw[e1]
 unfold regE
 split
 ·exact .inr ⟨rfl,rfl⟩
 ·rename_i hres
  split
  ·exact .inl rfl
  ·by_cases hq: ∃j,j<i/\Result ((C1 f).getD j Enc.d)≠0/\((C1 f).getD j Enc.d).reg=((C1 f).getD i Enc.d).reg
   ·rw[if_pos (regM_one.2 hq)]
    obtain⟨j,a,⟨b1,b2⟩,c⟩:=first_ex hq
    rw[Def_at (by omega:j<(Code f).length) b1 b2 fun k hk e=>Decidable.byContradiction fun g=>c k hk ⟨g,e⟩]
    rw[if_pos fun e=>by have:=C2_inj (by omega) hi e;omega]
    exact .inl rfl
   ·rw[if_neg fun h=>hq (regM_one.1 h)]
    rw[Def_at hi hres rfl fun k hk e=>Decidable.byContradiction fun g=>hq ⟨k,hk,g,e⟩]
    rw[if_neg fun h=>h rfl]
    exact .inr ⟨rfl,rfl⟩
theorem phiOk_iff {f:FnE} {i b k:Nat} (e2:(C2 f).getD i Enc.d=⟨0,b,k⟩) (h1:b<f.blocks.length) (h2:k<iLen f b) (hi:i=(codeTo f b k).length):phiOk f i k=true↔(0<b/\(iAt f b k).to=(PredsL f).getD b Enc.d)/\ ∀j,j<k->(iAt f b j).op=25:=by
 have e1:(C1 f).getD i Enc.d=iAt f b k:=by rw[hi];exact kd_1 h1 h2
 unfold phiOk
 rw[e1,e2]
 simp only[Bool.and_eq_true,decide_eq_true_eq,List.all_eq_true,List.mem_range,Int.toNat_natCast]
 constructor
 ·rintro ⟨⟨a,b'⟩,c⟩;exact⟨⟨by omega,b'⟩,c⟩
 ·rintro ⟨⟨a,b'⟩,c⟩;exact⟨⟨by omega,b'⟩,c⟩
theorem phis_eq (f:FnE) (n:Int):eachF f n (phiE f)=phisF f n:=by
 refine firstF_eq2 fun i hi _ hv=>?_
 obtain⟨b,k,h1,h2,h3⟩:=kd_all hi
 have e2:(C2 f).getD i Enc.d=⟨0,b,k⟩:=by rw[h3];exact kd_2 h1 h2
 have e1:(C1 f).getD i Enc.d=iAt f b k:=by rw[h3];exact kd_1 h1 h2
 have hk:=phiOk_iff e2 h1 h2 h3
 unfold eacC phiE phiC plE at2
 rw[e1,e2]
 simp only[Int.toNat_natCast]
 by_cases ho:(iAt f b k).op=25
 ·have ho': ¬¬(iAt f b k).op=25:=fun h=>h ho
  rw[if_neg ho',if_neg ho']
  have hiff:((0<(b:Int)/\((k:Int)<=0\/((f.blocks.getD b Enc.d).code.getD ((k:Int)-1).toNat Enc.d).op=25))/\(iAt f b k).to=(PredsL f).getD b Enc.d)↔phiOk f i k=true:=by
   rw[hk]
   constructor
   ·rintro ⟨⟨a1,a2⟩,a3⟩
    refine⟨⟨by omega,a3⟩,fun j hj=>?_⟩
    have hp:(iAt f b (k-1)).op=25:=by
     rcases a2 with a2|a2
     ·omega
     ·rw[show((k:Int)-1).toNat=k-1 by omega] at a2;exact a2
    rcases Nat.lt_or_ge j (k-1) with g|g
    ·have l1:=kdl f b k
     have l2:=kdl f b (k-1)
     have l3:(codeTo f b (k-1)).length<i:=by omega
     have z:=hv _ l3
     have f2:(C2 f).getD (codeTo f b (k-1)).length Enc.d=⟨0,b,(k-1:Nat)⟩:=kd_2 h1 (by omega)
     have f1:(C1 f).getD (codeTo f b (k-1)).length Enc.d=iAt f b (k-1):=kd_1 h1 (by omega)
     unfold phiC at2 at z
     rw[f1,f2,if_neg (fun h=>h hp)] at z
     simp only[Int.toNat_natCast] at z
     split at z
     ·simp at z
     ·rename_i y
      exact((phiOk_iff f2 h1 (by omega) rfl).1 (by simpa using y)).2 j g
    ·obtain rfl:j=k-1:=by omega
     exact hp
   ·rintro ⟨⟨a1,a2⟩,a3⟩
    refine⟨⟨by omega,?_⟩,a2⟩
    rcases Nat.eq_zero_or_pos k with g|g
    ·exact .inl (by omega)
    ·right
     rw[show((k:Int)-1).toNat=k-1 by omega]
     exact a3 (k-1) (by omega)
  by_cases hok:phiOk f i k=true
  ·rw[if_pos (hiff.2 hok),if_neg (by rw[hok];simp)]
   exact .inr ⟨rfl,rfl⟩
  ·rw[if_neg (fun h=>hok (hiff.1 h)),if_pos (by simpa using hok)]
   exact .inl rfl
 ·rw[if_pos ho,if_pos ho]
  exact .inr ⟨rfl,rfl⟩
theorem Def_here {f:FnE} {n:Int} (h:(registersF f n).code=0) {i:Nat} (hi:i<(Code f).length) (h1:Result ((C1 f).getD i Enc.d)≠0):(Def f ((C1 f).getD i Enc.d).reg).1=(C2 f).getD i Enc.d:=by
 have z:=firstF_zero h i hi
 unfold regF at z
 rw[if_neg h1] at z
 split at z
 ·simp at z
 ·split at z
  ·simp at z
  ·rename_i y;exact Decidable.not_not.1 y
theorem mad_at {f:FnE} {n:Int} (h:(registersF f n).code=0) (r:Int): ∀K,K<=(Code f).length->((∃j,j<K/\Result ((C1 f).getD j Enc.d)≠0/\((C1 f).getD j Enc.d).reg=r)->madM f n K [1,r]=(Def f r).1.b/\madM f n K [2,r]=(Def f r).1.i)/\((¬∃j,j<K/\Result ((C1 f).getD j Enc.d)≠0/\((C1 f).getD j Enc.d).reg=r)->madM f n K [1,r]=0/\madM f n K [2,r]=0)
 |0,_=>⟨fun⟨j,hj,_⟩=>absurd hj (Nat.not_lt_zero j),fun _=>⟨rfl,rfl⟩⟩
 |K+1,hK=>by
  have ih:=mad_at h r K (by omega)
  unfold madM madN
  by_cases h1:Result ((C1 f).getD K Enc.d)=0
  ·rw[if_pos h1,if_pos h1]
   have e:(∃j,j<K+1/\Result ((C1 f).getD j Enc.d)≠0/\((C1 f).getD j Enc.d).reg=r)↔ ∃j,j<K/\Result ((C1 f).getD j Enc.d)≠0/\((C1 f).getD j Enc.d).reg=r:=by
    constructor
    ·rintro ⟨j,a,b,c⟩
     rcases Nat.lt_or_ge j K with g|g
     ·exact⟨j,g,b,c⟩
     ·obtain rfl:j=K:=by omega
      exact absurd h1 b
    ·rintro ⟨j,a,b,c⟩;exact⟨j,by omega,b,c⟩
   rw[e];exact ih
  ·rw[if_neg h1,if_neg h1]
   by_cases h2:((C1 f).getD K Enc.d).reg=r
   ·refine⟨fun _=>?_,fun g=>absurd ⟨K,Nat.lt_succ_self K,h1,h2⟩ g⟩
    rw[<-h2,Def_here h (by omega) h1]
    exact⟨if_pos rfl,if_pos rfl⟩
   ·have g1:msetS (madM f n K) ((C1 f).getD K Enc.d).reg [(plE f n K).f,(plE f n K).b,(plE f n K).i] [1,r]=madM f n K [1,r]:=if_neg fun e=>h2 e.symm
    have g2:msetS (madM f n K) ((C1 f).getD K Enc.d).reg [(plE f n K).f,(plE f n K).b,(plE f n K).i] [2,r]=madM f n K [2,r]:=if_neg fun e=>h2 e.symm
    rw[g1,g2]
    have e:(∃j,j<K+1/\Result ((C1 f).getD j Enc.d)≠0/\((C1 f).getD j Enc.d).reg=r)↔ ∃j,j<K/\Result ((C1 f).getD j Enc.d)≠0/\((C1 f).getD j Enc.d).reg=r:=by
     constructor
     ·rintro ⟨j,a,b,c⟩
      rcases Nat.lt_or_ge j K with g|g
      ·exact⟨j,g,b,c⟩
      ·obtain rfl:j=K:=by omega
       exact absurd c h2
     ·rintro ⟨j,a,b,c⟩;exact⟨j,by omega,b,c⟩
    rw[e];exact ih
theorem mad_def {f:FnE} {n:Int} (h:(registersF f n).code=0) (r:Int):madM f n (Code f).length [1,r]=(Def f r).1.b/\madM f n (Code f).length [2,r]=(Def f r).1.i:=by
 have z:=mad_at h r (Code f).length (Nat.le_refl _)
 by_cases hq: ∃j,j<(Code f).length/\Result ((C1 f).getD j Enc.d)≠0/\((C1 f).getD j Enc.d).reg=r
 ·exact z.1 hq
 ·have e:Def f r=(⟨0,0,0⟩,false):=by
   unfold Def
   rw[find_no noP fun j hj=>?_]
   have e:((Code f).getD j noP).1=(C1 f).getD j Enc.d:=(getD_map Prod.fst (Code f) j noP Enc.d rfl).symm
   unfold dfP
   rw[e]
   by_cases g:((C1 f).getD j Enc.d).reg=r
   ·by_cases g2:Result ((C1 f).getD j Enc.d)=0
    ·rw[decide_eq_true g2];simp
    ·exact absurd ⟨j,hj,g2,g⟩ hq
   ·rw[decide_eq_false g];rfl
  rw[e];exact z.2 hq
theorem order_eq (f:FnE) (n:Int) (R:List Bool) (T:List (List Bool)) (h:(registersF f n).code=0):eachF f n (ordPl f R T (madM f n (Code f).length))=orderF f n R T:=by
 refine firstF_eq fun i hi=>?_
 obtain⟨b,k,h1,h2,h3⟩:=kd_all hi
 have e2:(C2 f).getD i Enc.d=⟨0,b,k⟩:=by rw[h3];exact kd_2 h1 h2
 have hc: ∀q,ordE f R T (madM f n (Code f).length) ((C1 f).getD i Enc.d) (plE f n i).b.toNat (plE f n i).i.toNat q=ordC f R T i q:=fun q=>by
  unfold ordE ordC plE
  rw[(mad_def h _).1,(mad_def h _).2,e2]
  simp only[Int.toNat_natCast]
 have hc2:ordE f R T (madM f n (Code f).length) ((C1 f).getD i Enc.d) (plE f n i).b.toNat (plE f n i).i.toNat=ordC f R T i:=funext hc
 unfold eacC ordPl ordI firstV at2
 rw[hc2]
 cases hq:firstC (ordC f R T i) ((C1 f).getD i Enc.d).args.length with
 |none=>exact .inr ⟨rfl,rfl⟩
 |some q=>
  have h5:=List.find?_some hq
  have h6:ordC f R T i q=11:=by
   simp only[Bool.not_eq_true',decide_eq_false_iff_not] at h5
   revert h5
   unfold ordC
   repeat' split
   all_goals simp
  show(⟨ordC f R T i q,plE f n i⟩:FaultE)=_\/_
  rw[h6]
  exact .inl rfl
theorem firstF_nil {c:Nat->FaultE} {n:Nat} (h:(firstF c n).code=0):firstF c n=⟨0,⟨0,0,0⟩⟩:=firstF_no (firstF_zero h)
theorem firstC_ne {c:Nat->Int} {n i:Nat} (h:firstC c n=some i):c i≠0:=by
 have:=List.find?_some h
 simpa using this
theorem heads_nil {m:ModE} (h:(headsF m).code=0):headsF m=⟨0,⟨0,0,0⟩⟩:=by
 unfold headsF at h⊢
 split
 ·rename_i k;rw[if_pos k] at h;simp at h
 ·rename_i k
  rw[if_neg k] at h
  cases h1:firstC (varCode m) m.vars.length with
  |some i=>rw[h1] at h;exact absurd h (firstC_ne h1)
  |none=>
   rw[h1] at h
   cases h2:firstC (extCode m) m.exts.length with
   |some i=>rw[h2] at h;exact absurd h (firstC_ne h2)
   |none=>
    rw[h2] at h
    cases h3:firstC (fnCode m) m.funcs.length with
    |some i=>rw[h3] at h;exact absurd h (firstC_ne h3)
    |none=>rfl
theorem chkP_eq (m:ModE) (R:FnE->List Bool) (T:FnE->List (List Bool)) (f:FnE) (n:Int):chkP m (R f) (T f) f n=chk m R T f n:=by
 unfold chkP chk
 rw[forms_eq,registers_eq,operands_eq,phis_eq]
 by_cases h:(registersF f n).code=0
 ·rw[order_eq f n _ _ h]
 ·simp only[if_neg h]
theorem chk_nil {m:ModE} {R:FnE->List Bool} {T:FnE->List (List Bool)} {f:FnE} {n:Int} (h:(chk m R T f n).code=0):chk m R T f n=⟨0,⟨0,0,0⟩⟩:=by
 unfold chk at h⊢
 by_cases h1:(blocksF f n).code=0
 ·rw[if_pos h1] at h⊢
  by_cases h2:(formsF m f n).code=0
  ·rw[if_pos h2] at h⊢
   by_cases h3:(registersF f n).code=0
   ·rw[if_pos h3] at h⊢
    by_cases h4:(operandsF m f n).code=0
    ·rw[if_pos h4] at h⊢
     by_cases h5:(phisF f n).code=0
     ·rw[if_pos h5] at h⊢;exact firstF_nil h
     ·rw[if_neg h5] at h;exact absurd h h5
    ·rw[if_neg h4] at h;exact absurd h h4
   ·rw[if_neg h3] at h;exact absurd h h3
  ·rw[if_neg h2] at h;exact absurd h h2
 ·rw[if_neg h1] at h;exact absurd h h1
theorem chkN_nil {m:ModE} {R:FnE->List Bool} {T:FnE->List (List Bool)} (hz:(headsF m).code=0): ∀k,(∀q:Nat,q<k->(chk m R T (fnA m q) q).code=0)->chkN m R T k=⟨0,⟨0,0,0⟩⟩
 |0,_=>heads_nil hz
 |k+1,hv=>by
  have ih:=chkN_nil hz k fun q hq=>hv q (by omega)
  rw[chkN,if_pos (by rw[ih]),chk_nil (hv k (Nat.lt_succ_self k))]
theorem chkU_eq (m:ModE) (R:FnE->List Bool) (T:FnE->List (List Bool)):chkU m R T=CheckF m R T:=by
 unfold chkU CheckF
 by_cases hz:(headsF m).code=0
 ·rw[if_pos hz]
  by_cases hall: ∀q:Nat,q<m.funcs.length->(chk m R T (fnA m q) q).code=0
  ·rw[chkN_nil hz _ hall,firstF_no fun i hi=>by rw[chkP_eq];exact hall i hi]
  ·obtain⟨q,hq,hn,hv⟩: ∃q:Nat,q<m.funcs.length/\(chk m R T (fnA m q) q).code≠0/\ ∀j:Nat,j<q->(chk m R T (fnA m j) j).code=0:=by
    have hex: ∃j:Nat,j<m.funcs.length/\(chk m R T (fnA m j) j).code≠0:=Decidable.byContradiction fun g=>hall fun q hq=>Decidable.byContradiction fun g2=>g ⟨q,hq,g2⟩
    obtain⟨j,a,b,c⟩:=first_ex hex
    exact⟨j,a,b,fun i hi=>Decidable.byContradiction fun g=>c i hi g⟩
   have e1:chkN m R T (q+1)=chk m R T (fnA m q) q:=by rw[chkN,if_pos (by rw[chkN_nil hz q hv])]
   rw[chkN_stay (k:=q+1) (by rw[e1];exact hn) _ (by omega),e1]
   exact firstF_at hq (fun i hi=>by rw[chkP_eq];exact hv i hi) (chkP_eq m R T _ _) hn
 ·rw[if_neg hz]
  exact(chkN_stay (k:=0) hz _ (Nat.zero_le _)).symm
theorem opr_cond {m:ModE} {f:FnE} {n:Int} (h:(eachF f n (formB m f)).code=0) {b i:Nat} (hb:b<f.blocks.length) (hi:i<iLen f b):((iAt f b i).op=30->(iAt f b i).args.length=(Callee m (iAt f b i).n).1.length)/\((iAt f b i).op=29->(iAt f b i).t=65/\(iAt f b i).args.length=2):=by
 rw[forms_eq] at h
 have e1:=kd_1 hb hi
 have hl:=kd_lt hb hi
 refine⟨fun ho=>?_,fun ho=>?_⟩
 ·have z:=forms_call h _ hl (by rw[e1];exact ho)
  rw[e1] at z
  exact z
 ·have z:=firstF_zero h _ hl
  unfold formC at z
  split at z
  ·simp[at2] at z
  ·rename_i q
   rw[Bool.not_eq_false] at q
   have q:=(formed_iff f _ _).1 q
   rw[e1] at q
   obtain⟨q1,_,_,_,q2,_⟩:=q
   refine⟨q2 ho,?_⟩
   have q3:=q1.1.2
   unfold cnts at q3
   rw[if_neg (by omega),if_pos (by omega)] at q3
   simp only at q3
   omega
structure RngV (m:ModE):Prop where
 reg: ∀q b i,inI (iAt (fnA m q) b i).reg
 n: ∀q b i,inI (iAt (fnA m q) b i).n
 arg: ∀q b i k,inI ((iAt (fnA m q) b i).args.getD k Enc.d).n
theorem ord_ok {m:ModE} (hm:siz m<4294967296) (hr:RngV m) {q:Nat} (h1:(blocksF (fnA m q) q).code=0) (h2:(eachF (fnA m q) q (formB m (fnA m q))).code=0) (h3:(eachF (fnA m q) q (regC (fnA m q))).code=0) (h5:(eachF (fnA m q) q (phiE (fnA m q))).code=0) {b i:Nat} (hb:b<(fnA m q).blocks.length) (hi:i<iLen (fnA m q) b):OrdOk (fnA m q) (madM (fnA m q) q (Code (fnA m q)).length) (iAt (fnA m q) b i):=by
 rw[forms_eq] at h2
 rw[registers_eq] at h3
 rw[phis_eq] at h5
 have hf:siz (fnA m q)<4294967296:=Nat.lt_of_le_of_lt (fn_le m q) hm
 have e1:=kd_1 hb hi
 have hl:=kd_lt hb hi
 refine⟨Nat.lt_of_le_of_lt (ins_le (fnA m q) b i) hf,hr.arg q b i,fun k _ _ _=>?_,fun ho=>⟨?_,?_⟩⟩
 ·rw[(mad_def h3 _).1]
  exact Def_b _ _ (by omega)
 ·have z:=forms_phi h2 _ hl (by rw[e1];exact ho)
  rw[e1] at z;exact z
 ·have z:=phis_to h5 _ hl (by rw[e1];exact ho)
  rw[e1] at z;exact z
theorem ASpecF.pure {fx:Fx} {P:Program} {f:FuncId} {args:List AV} {r:AV} (h:ASpecF fx P f args [] r []):ASpec P f args r []:=by
 obtain⟨h1,h2,h3⟩:=h
 refine⟨h1,h2,fun S w us hus hvr=>?_⟩
 refine(h3 S W0 w us ⟨fun id ob hl=>by simp[lk] at hl,List.nodup_nil,List.nodup_nil,fun k hk=>by simp[feet] at hk⟩ (fun k _ hk=>by simp[feet] at hk) hus hvr).mono ?_
 rintro e w' ⟨v,β',rfl,g1,g2,g3,g4,g5,g6,g7⟩
 exact⟨v,β',rfl,BelowX.below g1,fun id ob hl=>by simp[lk] at hl,fun k hk=>by simp[feet] at hk,g4,g5,rel_mono ⟨Nat.le_refl _,fun k _ h=>⟨⟨by
  rcases h.1 with h|h|h
  ·exact .inl h
  ·exact .inr h
  ·simp[feet] at h,by simp[feet]⟩,rfl⟩⟩ _ _ g7⟩
theorem check_S (m:ModE) (R:FnE->List Bool) (T:FnE->List (List Bool)) (hR: ∀f,isRG f (-1) (R f)) (hT: ∀f,isTab f (T f)) (hm:siz m<4294967296) (hr:RngV m):ASpec Tryz.prog 12 [eS m] (.tup [.i .i64 (CheckF m R T).code,eS (CheckF m R T).at']) []:=by
 have h:=check_F m R T hm hR hT hr.reg hr.n (fun q h b i hb hi=>opr_cond h hb hi) (fun q h1 h2 h3 _ h5 b i hb hi=>ord_ok hm hr h1 h2 h3 h5 hb hi)
 rw[chkU_eq] at h
 exact h.pure
def preN (g:Nat->Nat):Nat->Nat
 |0=>0
 |q+1=>preN g q+g q
theorem preN_mono {g:Nat->Nat} {q:Nat}: ∀ {k:Nat},q<=k->preN g q<=preN g k
 |0,h=>by rw[show q=0 by omega];exact Nat.le_refl _
 |k+1,h=>by
  rcases Nat.lt_or_ge q (k+1) with h2|h2
  ·have:=preN_mono (g:=g) (q:=q) (k:=k) (by omega);rw[preN];omega
  ·rw[show q=k+1 by omega];exact Nat.le_refl _
theorem preN_in {g:Nat->Nat} {q k:Nat} (h:q<k):preN g q+g q<=preN g k:=preN_mono (g:=g) (q:=q+1) h
theorem preN_shift (g:Nat->Nat): ∀q,preN g (q+1)=g 0+preN (fun i=>g (i+1)) q
 |0=>by simp[preN]
 |q+1=>by rw[preN,preN_shift g q,preN];omega
theorem preN_siz {α:Type} [Enc α] [Siz α] (g:α->Nat) (hg: ∀x,g x<=siz x): ∀l:List α,l.length+preN (fun i=>g (l.getD i Enc.d)) l.length<=siz l
 |[]=>Nat.le_refl _
 |x::l=>by
  have h1:=preN_siz g hg l
  have e:siz (x::l)=l.length+1+(siz x+(l.map siz).sum):=rfl
  have e2:siz l=l.length+(l.map siz).sum:=rfl
  have h2:=hg x
  rw[List.length_cons,preN_shift]
  show l.length+1+(g x+preN (fun i=>g (l.getD i Enc.d)) l.length)<=_
  omega
def insQ (x:InsE):Nat:=x.args.length+x.to.length
def blkQ (y:BlkE):Nat:=y.code.length+preN (fun k=>insQ (y.code.getD k Enc.d)) y.code.length
def fnQ (f:FnE):Nat:=f.params.length+f.blocks.length+preN (fun b=>blkQ (f.blocks.getD b Enc.d)) f.blocks.length
def extQ (x:ExtE):Nat:=x.params.length
def modQ (m:ModE):Nat:=m.vars.length+m.exts.length+m.funcs.length+preN (fun i=>extQ (m.exts.getD i Enc.d)) m.exts.length+preN (fun i=>fnQ (m.funcs.getD i Enc.d)) m.funcs.length
theorem insQ_le (x:InsE):insQ x<=siz x:=by
 have h1:=len_siz x.args;have h2:=len_siz x.to
 have e:siz x=siz x.args+siz x.to:=rfl
 unfold insQ;omega
theorem blkQ_le (y:BlkE):blkQ y<=siz y:=preN_siz insQ insQ_le y.code
theorem fnQ_le (f:FnE):fnQ f<=siz f:=by
 have h1:=len_siz f.params
 have h2:=preN_siz blkQ blkQ_le f.blocks
 have e:siz f=siz f.name+siz f.params+siz f.blocks:=rfl
 unfold fnQ;omega
theorem extQ_le (x:ExtE):extQ x<=siz x:=by
 have h1:=len_siz x.params
 have e:siz x=siz x.name+siz x.params:=rfl
 unfold extQ;omega
theorem modQ_le (m:ModE):modQ m<=siz m:=by
 have h1:=len_siz m.vars
 have h2:=preN_siz extQ extQ_le m.exts
 have h3:=preN_siz fnQ fnQ_le m.funcs
 have e:siz m=siz m.vars+siz m.exts+siz m.funcs:=rfl
 unfold modQ;omega
theorem Few_S (m:ModE) (most:Int) (hm:siz m<4294967296):ASpec Tryz.prog 15 [eS m,.i .i64 most] (.b (decide ((modQ m:Int)<=most))) []:=by
 have h0:=modQ_le m
 have e0:modQ m=m.vars.length+m.exts.length+m.funcs.length+preN (fun i=>extQ (m.exts.getD i Enc.d)) m.exts.length+preN (fun i=>fnQ (m.funcs.getD i Enc.d)) m.funcs.length:=rfl
 refine ASpec.enter TYok mixed Tryz.func15 rfl Tryz.call15 Tryz.ntmps15 rfl (rs:=[.tmp 4]) rfl (nodupB_ok rfl) (Clo.one rfl) (keep:=[0,1,2,4,5,7,9,11,13,26,27,28,39,40,41,55,56,57,67,68,69]) ?_;conv=>whnf
 repeat' first|(refine iG (fun hb hc=>?_) (fun hb hc=>?_)<;>first|exact hc.elim|(exfalso;omega)|conv=>whnf)|(refine gqs ?_;conv=>whnf)|(refine yt ?_;conv=>whnf)|exact⟨_,.keep rfl rfl⟩|fail
 let N0:=m.vars.length+m.exts.length+m.funcs.length
 refine lp [28,5] (fun q:Nat=>[.i .i64 q,.i .i64 (N0+preN (fun i=>extQ (m.exts.getD i Enc.d)) q:Nat)]) (fun q=>[(2,bx m)]) (fun q=>q<=m.exts.length) (fun q=>m.exts.length-q) 0 (by omega) ?_ fun q hq=>?_
 ·refine eP [] [] ?_ ?_<;>repeat' first|exact eN|refine And.intro ?_ ?_
 conv=>whnf
 rcases Nat.lt_or_ge q m.exts.length with hlt|hge
 ·have p1:preN (fun i=>extQ (m.exts.getD i Enc.d)) q+extQ (m.exts.getD q Enc.d)<=preN (fun i=>extQ (m.exts.getD i Enc.d)) m.exts.length:=preN_in hlt
  have p2:extQ (m.exts.getD q Enc.d)=(m.exts.getD q Enc.d).params.length:=rfl
  repeat' first|(refine iG (fun hb hc=>?_) (fun hb hc=>?_)<;>first|exact hc.elim|(exfalso;omega)|conv=>whnf)|(refine gqs ?_;conv=>whnf)|(refine yt ?_;conv=>whnf)|exact⟨_,.keep rfl rfl⟩|fail
  refine .mk (q+1) (by omega) (by omega) ?_
  have e:preN (fun i=>extQ (m.exts.getD i Enc.d)) (q+1)=preN (fun i=>extQ (m.exts.getD i Enc.d)) q+extQ (m.exts.getD q Enc.d):=rfl
  refine eP [] [] ?_ ?_<;>repeat' first|exact eN|refine And.intro ?_ ?_
 obtain rfl:q=m.exts.length:=by omega
 repeat' first|(refine iG (fun hb hc=>?_) (fun hb hc=>?_)<;>first|exact hc.elim|(exfalso;omega)|conv=>whnf)|(refine gqs ?_;conv=>whnf)|(refine yt ?_;conv=>whnf)|exact⟨_,.keep rfl rfl⟩|fail
 let N1:=N0+preN (fun i=>extQ (m.exts.getD i Enc.d)) m.exts.length
 refine lp [41,5] (fun q:Nat=>[.i .i64 q,.i .i64 (N1+preN (fun i=>fnQ (m.funcs.getD i Enc.d)) q:Nat)]) (fun q=>[(2,bx m)]) (fun q=>q<=m.funcs.length) (fun q=>m.funcs.length-q) 0 (by omega) ?_ fun j hj=>?_
 ·refine eP [] [] ?_ ?_<;>repeat' first|exact eN|refine And.intro ?_ ?_
 conv=>whnf
 rcases Nat.lt_or_ge j m.funcs.length with hlt|hge
 ·have p1:preN (fun i=>fnQ (m.funcs.getD i Enc.d)) j+fnQ (m.funcs.getD j Enc.d)<=preN (fun i=>fnQ (m.funcs.getD i Enc.d)) m.funcs.length:=preN_in hlt
  have p2:fnQ (m.funcs.getD j Enc.d)=(m.funcs.getD j Enc.d).params.length+(m.funcs.getD j Enc.d).blocks.length+preN (fun b=>blkQ ((m.funcs.getD j Enc.d).blocks.getD b Enc.d)) (m.funcs.getD j Enc.d).blocks.length:=rfl
  let N2:=N1+preN (fun i=>fnQ (m.funcs.getD i Enc.d)) j+((m.funcs.getD j Enc.d).params.length+(m.funcs.getD j Enc.d).blocks.length)
  repeat' first|(refine iG (fun hb hc=>?_) (fun hb hc=>?_)<;>first|exact hc.elim|(exfalso;omega)|conv=>whnf)|(refine gqs ?_;conv=>whnf)|(refine yt ?_;conv=>whnf)|exact⟨_,.keep rfl rfl⟩|fail
  refine lp [57,5] (fun q:Nat=>[.i .i64 q,.i .i64 (N2+preN (fun b=>blkQ ((m.funcs.getD j Enc.d).blocks.getD b Enc.d)) q:Nat)]) (fun q=>[(2,bx m),(9,bx (m.funcs.getD j Enc.d))]) (fun q=>q<=(m.funcs.getD j Enc.d).blocks.length) (fun q=>(m.funcs.getD j Enc.d).blocks.length-q) 0 (by omega) ?_ fun b hb0=>?_
  ·refine eP [] [] ?_ ?_<;>repeat' first|exact eN|refine And.intro ?_ ?_
  conv=>whnf
  rcases Nat.lt_or_ge b (m.funcs.getD j Enc.d).blocks.length with hlb|hgb
  ·have q1:preN (fun b=>blkQ ((m.funcs.getD j Enc.d).blocks.getD b Enc.d)) b+blkQ ((m.funcs.getD j Enc.d).blocks.getD b Enc.d)<=preN (fun b=>blkQ ((m.funcs.getD j Enc.d).blocks.getD b Enc.d)) (m.funcs.getD j Enc.d).blocks.length:=preN_in hlb
   have q2:blkQ ((m.funcs.getD j Enc.d).blocks.getD b Enc.d)=((m.funcs.getD j Enc.d).blocks.getD b Enc.d).code.length+preN (fun k=>insQ (((m.funcs.getD j Enc.d).blocks.getD b Enc.d).code.getD k Enc.d)) ((m.funcs.getD j Enc.d).blocks.getD b Enc.d).code.length:=rfl
   let N3:=N2+preN (fun b=>blkQ ((m.funcs.getD j Enc.d).blocks.getD b Enc.d)) b+((m.funcs.getD j Enc.d).blocks.getD b Enc.d).code.length
   repeat' first|(refine iG (fun hb hc=>?_) (fun hb hc=>?_)<;>first|exact hc.elim|(exfalso;omega)|conv=>whnf)|(refine gqs ?_;conv=>whnf)|(refine yt ?_;conv=>whnf)|exact⟨_,.keep rfl rfl⟩|fail
   refine lp [69,5] (fun q:Nat=>[.i .i64 q,.i .i64 (N3+preN (fun k=>insQ (((m.funcs.getD j Enc.d).blocks.getD b Enc.d).code.getD k Enc.d)) q:Nat)]) (fun q=>[(2,bx m),(9,bx (m.funcs.getD j Enc.d)),(11,bx ((m.funcs.getD j Enc.d).blocks.getD b Enc.d))]) (fun q=>q<=((m.funcs.getD j Enc.d).blocks.getD b Enc.d).code.length) (fun q=>((m.funcs.getD j Enc.d).blocks.getD b Enc.d).code.length-q) 0 (by omega) ?_ fun n hn2=>?_
   ·refine eP [] [] ?_ ?_<;>repeat' first|exact eN|refine And.intro ?_ ?_
   conv=>whnf
   rcases Nat.lt_or_ge n ((m.funcs.getD j Enc.d).blocks.getD b Enc.d).code.length with hln|hgn
   ·have r1:preN (fun k=>insQ (((m.funcs.getD j Enc.d).blocks.getD b Enc.d).code.getD k Enc.d)) n+insQ (((m.funcs.getD j Enc.d).blocks.getD b Enc.d).code.getD n Enc.d)<=preN (fun k=>insQ (((m.funcs.getD j Enc.d).blocks.getD b Enc.d).code.getD k Enc.d)) ((m.funcs.getD j Enc.d).blocks.getD b Enc.d).code.length:=preN_in hln
    have r2:insQ (((m.funcs.getD j Enc.d).blocks.getD b Enc.d).code.getD n Enc.d)=(((m.funcs.getD j Enc.d).blocks.getD b Enc.d).code.getD n Enc.d).args.length+(((m.funcs.getD j Enc.d).blocks.getD b Enc.d).code.getD n Enc.d).to.length:=rfl
    repeat' first|(refine iG (fun hb hc=>?_) (fun hb hc=>?_)<;>first|exact hc.elim|(exfalso;omega)|conv=>whnf)|(refine gqs ?_;conv=>whnf)|(refine yt ?_;conv=>whnf)|exact⟨_,.keep rfl rfl⟩|fail
    ·exact⟨_,.keep (by rw[decide_eq_false];omega) rfl⟩
    ·refine .mk (n+1) (by omega) (by omega) ?_
     have e:preN (fun k=>insQ (((m.funcs.getD j Enc.d).blocks.getD b Enc.d).code.getD k Enc.d)) (n+1)=preN (fun k=>insQ (((m.funcs.getD j Enc.d).blocks.getD b Enc.d).code.getD k Enc.d)) n+insQ (((m.funcs.getD j Enc.d).blocks.getD b Enc.d).code.getD n Enc.d):=rfl
     refine eP [] [] ?_ ?_<;>repeat' first|exact eN|refine And.intro ?_ ?_
   ·obtain rfl:n=((m.funcs.getD j Enc.d).blocks.getD b Enc.d).code.length:=by omega
    repeat' first|(refine iG (fun hb hc=>?_) (fun hb hc=>?_)<;>first|exact hc.elim|(exfalso;omega)|conv=>whnf)|(refine gqs ?_;conv=>whnf)|(refine yt ?_;conv=>whnf)|exact⟨_,.keep rfl rfl⟩|fail
    refine .mk (b+1) (by omega) (by omega) ?_
    have e:preN (fun b=>blkQ ((m.funcs.getD j Enc.d).blocks.getD b Enc.d)) (b+1)=preN (fun b=>blkQ ((m.funcs.getD j Enc.d).blocks.getD b Enc.d)) b+blkQ ((m.funcs.getD j Enc.d).blocks.getD b Enc.d):=rfl
    refine eP [] [] ?_ ?_<;>repeat' first|exact eN|refine And.intro ?_ ?_
  ·obtain rfl:b=(m.funcs.getD j Enc.d).blocks.length:=by omega
   repeat' first|(refine iG (fun hb hc=>?_) (fun hb hc=>?_)<;>first|exact hc.elim|(exfalso;omega)|conv=>whnf)|(refine gqs ?_;conv=>whnf)|(refine yt ?_;conv=>whnf)|exact⟨_,.keep rfl rfl⟩|fail
   refine .mk (j+1) (by omega) (by omega) ?_
   have e:preN (fun i=>fnQ (m.funcs.getD i Enc.d)) (j+1)=preN (fun i=>fnQ (m.funcs.getD i Enc.d)) j+fnQ (m.funcs.getD j Enc.d):=rfl
   refine eP [] [] ?_ ?_<;>repeat' first|exact eN|refine And.intro ?_ ?_
 ·obtain rfl:j=m.funcs.length:=by omega
  repeat' first|(refine iG (fun hb hc=>?_) (fun hb hc=>?_)<;>first|exact hc.elim|(exfalso;omega)|conv=>whnf)|(refine gqs ?_;conv=>whnf)|(refine yt ?_;conv=>whnf)|exact⟨_,.keep rfl rfl⟩|fail
theorem VarE.ext2: ∀ {x y:VarE},x.name=y.name->x.size=y.size->x=y
 |⟨_,_⟩,⟨_,_⟩,rfl,rfl=>rfl
theorem ExtE.ext3: ∀ {x y:ExtE},x.name=y.name->x.params=y.params->x.ret=y.ret->x=y
 |⟨_,_,_⟩,⟨_,_,_⟩,rfl,rfl,rfl=>rfl
theorem ModE.ext3: ∀ {x y:ModE},x.vars=y.vars->x.exts=y.exts->x.funcs=y.funcs->x=y
 |⟨_,_,_⟩,⟨_,_,_⟩,rfl,rfl,rfl=>rfl
theorem Same_S (a b:ModE) (ha:siz a<4294967296):ASpec Tryz.prog 14 [eS a,eS b] (.b (decide (a=b))) []:=by
 have h0:siz a=siz a.vars+siz a.exts+siz a.funcs:=rfl
 have g1:=len_siz a.vars
 have g2:=len_siz a.exts
 have g3:=len_siz a.funcs
 refine ASpec.enter TYok mixed Tryz.func14 rfl Tryz.call14 Tryz.ntmps14 rfl (rs:=[.tmp 4]) rfl (nodupB_ok rfl) (Clo.one rfl) (keep:=[0,1,2,3,4,5,6,7,8,9]) ?_;conv=>whnf
 repeat' first|(refine iG (fun hb hc=>?_) (fun hb hc=>?_)<;>first|exact hc.elim|(exfalso;omega)|conv=>whnf)|(refine gqs ?_;conv=>whnf)|(refine yt ?_;conv=>whnf)|exact⟨_,.keep rfl rfl⟩|fail
 ·refine⟨_,.keep (congrArg AV.b (decide_eq_false fun e=>?_).symm) rfl⟩
  subst e;simp at hb
 refine lp [5] (fun q:Nat=>[.i .i64 q]) (fun q=>[(2,bx a),(3,bx b)]) (fun q=>q<=a.vars.length/\ ∀i,i<q->a.vars.getD i Enc.d=b.vars.getD i Enc.d) (fun q=>a.vars.length-q) 0 ⟨by omega,fun i h=>by omega⟩ ?_ fun q hq=>?_
 ·refine eP [] [] ?_ ?_<;>repeat' first|exact eN|refine And.intro ?_ ?_
 conv=>whnf
 obtain⟨hq,hv⟩:=hq
 repeat' first|(refine iG (fun hb hc=>?_) (fun hb hc=>?_)<;>first|exact hc.elim|(exfalso;omega)|conv=>whnf)|(refine gqs ?_;conv=>whnf)|(refine yt ?_;conv=>whnf)|exact⟨_,.keep rfl rfl⟩|fail
 ·refine⟨_,.keep (congrArg AV.b (decide_eq_false fun e=>?_).symm) rfl⟩
  subst e;simp at hb
 ·refine .mk (q+1) ⟨by omega,all_step hv (VarE.ext2 hc.1 hc.2)⟩ (by omega) ?_
  refine eP [] [] ?_ ?_<;>repeat' first|exact eN|refine And.intro ?_ ?_
 have e0:a.vars=b.vars:=ext_getD (by omega) fun i hi=>hv i (by omega)
 refine lp [6] (fun q:Nat=>[.i .i64 q]) (fun q=>[(2,bx a),(3,bx b)]) (fun q=>q<=a.exts.length/\ ∀i,i<q->a.exts.getD i Enc.d=b.exts.getD i Enc.d) (fun q=>a.exts.length-q) 0 ⟨by omega,fun i h=>by omega⟩ ?_ fun k hk=>?_
 ·refine eP [] [] ?_ ?_<;>repeat' first|exact eN|refine And.intro ?_ ?_
 conv=>whnf
 obtain⟨hk,hw⟩:=hk
 have h4:siz (a.exts.getD k Enc.d)<=siz a.exts:=siz_at a.exts k
 have h5:siz (a.exts.getD k Enc.d)=(a.exts.getD k Enc.d).name.size+siz (a.exts.getD k Enc.d).params:=rfl
 have h6:=len_siz (a.exts.getD k Enc.d).params
 repeat' first|(refine iG (fun hb hc=>?_) (fun hb hc=>?_)<;>first|exact hc.elim|(exfalso;omega)|conv=>whnf)|(refine gqs ?_;conv=>whnf)|(refine gqc (x:=fun _=>Ints_S _ _ (by first|omega|(simp only[Int.toNat_natCast,Int.reduceToNat];omega))) (k:= ?_);conv=>whnf)|(refine yt ?_;conv=>whnf)|exact⟨_,.keep rfl rfl⟩|fail
 ·refine⟨_,.keep (congrArg AV.b (decide_eq_false fun e=>?_).symm) rfl⟩
  subst e;simp at hb
 ·refine .mk (k+1) ⟨by omega,all_step hw (ExtE.ext3 hc.1.2 hc.1.1 hc.2)⟩ (by omega) ?_
  refine eP [] [] ?_ ?_<;>repeat' first|exact eN|refine And.intro ?_ ?_
 have e1:a.exts=b.exts:=ext_getD (by omega) fun i hi=>hw i (by omega)
 refine lp [8] (fun q:Nat=>[.i .i64 q]) (fun q=>[(2,bx a),(3,bx b)]) (fun q=>q<=a.funcs.length/\ ∀i,i<q->a.funcs.getD i Enc.d=b.funcs.getD i Enc.d) (fun q=>a.funcs.length-q) 0 ⟨by omega,fun i h=>by omega⟩ ?_ fun j hj=>?_
 ·refine eP [] [] ?_ ?_<;>repeat' first|exact eN|refine And.intro ?_ ?_
 conv=>whnf
 obtain⟨hj,hz⟩:=hj
 have i4:siz (a.funcs.getD j Enc.d)<=siz a.funcs:=siz_at a.funcs j
 repeat' first|(refine iG (fun hb hc=>?_) (fun hb hc=>?_)<;>first|exact hc.elim|(exfalso;omega)|conv=>whnf)|(refine gqs ?_;conv=>whnf)|(refine gqc (x:=fun _=>Funcs_S _ _ (Nat.lt_of_le_of_lt (siz_at a.funcs _) (by omega))) (k:= ?_);conv=>whnf)|(refine yt ?_;conv=>whnf)|exact⟨_,.keep rfl rfl⟩|fail
 ·exact⟨_,.keep (congrArg AV.b (decide_eq_false fun e=>hc (by rw[e])).symm) rfl⟩
 ·refine .mk (j+1) ⟨by omega,all_step hz hc⟩ (by omega) ?_
  refine eP [] [] ?_ ?_<;>repeat' first|exact eN|refine And.intro ?_ ?_
 ·have e2:a.funcs=b.funcs:=ext_getD (by omega) fun i hi=>hz i (by omega)
  exact⟨_,.keep (congrArg AV.b (decide_eq_true (ModE.ext3 e0 e1 e2)).symm) rfl⟩
def coO (m:ModE) (b c:Nat):Os:=[(1,bx m),(2,bx (Enc.d:ModE)),(3,.box none none [.orow 11 2 0 m.vars.length,.orow 70 3 0 b,.orow 71 4 0 c]),(11,oL m.vars),(70,.row none 3 b fun i=>Enc.enc (m.exts.getD i Enc.d)),(71,.row none 4 c fun i=>Enc.enc (m.funcs.getD i Enc.d))]
theorem Copy_S (m:ModE) (hm:siz m<4294967296):ASpec Tryz.prog 11 [eS m] (eS m) []:=by
 have h0:siz m=siz m.vars+siz m.exts+siz m.funcs:=rfl
 have g1:=len_siz m.vars
 have g2:=len_siz m.exts
 have g3:=len_siz m.funcs
 refine ASpec.enter TYok mixed Tryz.func11 rfl Tryz.call11 Tryz.ntmps11 rfl (rs:=[.cell 2 26]) rfl (nodupB_ok rfl) (Clo.one rfl) (keep:=[0,1,2,3,4,5,6]) ?_;conv=>whnf
 repeat' first|(refine iG (fun hb hc=>?_) (fun hb hc=>?_)<;>first|exact hc.elim|(exfalso;omega)|conv=>whnf)|(refine gqs ?_;conv=>whnf)|(refine yt ?_;conv=>whnf)|exact⟨_,.keep rfl rfl⟩|fail
 refine lp [4] (fun b:Nat=>[.i .i64 b]) (fun b=>coO m b 0) (fun b=>b<=m.exts.length) (fun b=>m.exts.length-b) 0 (by omega) ?_ fun b hb0=>?_
 ·refine eP [] [70,71] ?_ ?_<;>repeat' first|exact eN|refine And.intro ?_ ?_
 conv=>whnf
 have h4:siz (m.exts.getD b Enc.d)<=siz m.exts:=siz_at m.exts b
 have h5:siz (m.exts.getD b Enc.d)=(m.exts.getD b Enc.d).name.size+siz (m.exts.getD b Enc.d).params:=rfl
 have h6:=len_siz (m.exts.getD b Enc.d).params
 repeat' first|(refine iG (fun hb hc=>?_) (fun hb hc=>?_)<;>first|exact hc.elim|(exfalso;omega)|conv=>whnf)|(refine gqs ?_;conv=>whnf)|(refine yt ?_;conv=>whnf)|exact⟨_,.keep rfl rfl⟩|fail
 ·refine .mk (b+1) (by omega) (by omega) ?_
  refine eP [(70,47)] [] ?_ ?_<;>repeat' first|exact eN|refine And.intro ?_ ?_
  exact snoc_fun rfl
 obtain rfl:b=m.exts.length:=by omega
 refine lp [6] (fun b:Nat=>[.i .i64 b]) (fun b=>coO m m.exts.length b) (fun b=>b<=m.funcs.length) (fun b=>m.funcs.length-b) 0 (by omega) ?_ fun b hb0=>?_
 ·refine eP [] [] ?_ ?_<;>repeat' first|exact eN|refine And.intro ?_ ?_
 conv=>whnf
 have i4:siz (m.funcs.getD b Enc.d)<=siz m.funcs:=siz_at m.funcs b
 repeat' first|(refine iG (fun hb hc=>?_) (fun hb hc=>?_)<;>first|exact hc.elim|(exfalso;omega)|conv=>whnf)|(refine gqs ?_;conv=>whnf)|(refine gqc (x:=fun _=>CopyFunc_S _ (Nat.lt_of_le_of_lt (siz_at m.funcs _) (by omega))) (k:= ?_);conv=>whnf)|(refine yt ?_;conv=>whnf)|exact⟨_,.keep rfl rfl⟩|fail
 ·refine .mk (b+1) (by omega) (by omega) ?_
  refine eP [(71,65)] [] ?_ ?_<;>repeat' first|exact eN|refine And.intro ?_ ?_
  exact snoc_fun rfl
 obtain rfl:b=m.funcs.length:=by omega
 exact⟨_,.agg (.cons (.freeze rfl (by omega) rfl (fun _ _=>rfl) rfl) (.cons (.freeze rfl (by omega) rfl (fun _ _=>rfl) rfl) (.cons (.freeze rfl (by omega) rfl (fun _ _=>rfl) rfl) .nil (nodupB_ok rfl)) (nodupB_ok rfl)) (nodupB_ok rfl))⟩
open Go.RowKit Go.ChangeShapes Go.WideShapes
def allS:Nat->Prop:=fun _=>True
def rngI (x:Int):Prop:= -9223372036854775808<=x/\x<=9223372036854775807
def rngU (x:Int):Prop:=0<=x/\x<18446744073709551616
class Rng (α:Type) where
 rng:α->Prop
instance:Rng Int:=⟨rngI⟩
instance:Rng ByteArray:=⟨fun _=>True⟩
instance:Rng Bool:=⟨fun _=>True⟩
instance {α:Type} [Rng α]:Rng (List α):=⟨fun l=>∀x∈l,Rng.rng x⟩
theorem bulk_agg {H:Type} {l:List (DataW H)}:Rows.uptoBulk (.agg l)=Rows.uptoBulkAll l+1:=by rw[Rows.uptoBulk]
theorem bulk_cons {H:Type} {d:DataW H} {l:List (DataW H)}:Rows.uptoBulkAll (d::l)=Rows.uptoBulk d+Rows.uptoBulkAll l:=by rw[Rows.uptoBulkAll]
theorem bulk_nil {H:Type}:Rows.uptoBulkAll ([]:List (DataW H))=0:=by rw[Rows.uptoBulkAll]
instance:Siz Plc:=⟨fun _=>0,rfl⟩
structure OpA (t:TypeId) (α:Type) [Enc α] [Siz α] [Rng α]:Prop where
 open_: ∀ {H:Type} (enc:TypeId×Value->H) (w:World) (base:Nat) (sp:Nat->Bool) (hd:Bool) (fuel:Nat) (cs:List Value) (x:DataW H×List MemPlace),
  DataW.trod enc Tryz.prog w base sp hd fuel t cs=some x-> ∃d:α,siz d+1<=Rows.uptoBulk x.1/\Rng.rng d/\rels allS W0 w (Enc.enc d) cs
theorem wf_i64 {z:Int} (h:(Lit.int .i64 z).wf=true): -9223372036854775808<=z/\z<=9223372036854775807:=by
 simp[Lit.wf,IntKind.min,IntKind.max,IntKind.signed,IntKind.bits] at h;omega
theorem wf_u64 {z:Int} (h:(Lit.int .u64 z).wf=true):0<=z/\z<18446744073709551616:=by
 simp[Lit.wf,IntKind.min,IntKind.max,IntKind.signed,IntKind.bits] at h;omega
theorem op_i64 {t:TypeId} (ht:Tryz.prog.underlying t=some (.int .i64)):OpA t Int:=
 ⟨fun enc w base sp hd fuel cs x h=>by
  obtain⟨z,rfl,rfl,hw⟩:=DataW.trod_int ht h
  exact⟨z,by show 0+1<=Rows.uptoBulk (.lit (.int .i64 z));rw[Rows.uptoBulk];exact Nat.le_refl _;all_goals simp,wf_i64 hw,_,_,rfl,rfl,rfl⟩⟩
structure OpU (t:TypeId):Prop where
 open_: ∀ {H:Type} (enc:TypeId×Value->H) (w:World) (base:Nat) (sp:Nat->Bool) (hd:Bool) (fuel:Nat) (cs:List Value) (x:DataW H×List MemPlace),
  DataW.trod enc Tryz.prog w base sp hd fuel t cs=some x-> ∃d:Int,0+1<=Rows.uptoBulk x.1/\rngU d/\rels allS W0 w [.i .u64 d] cs
theorem op_u64 {t:TypeId} (ht:Tryz.prog.underlying t=some (.int .u64)):OpU t:=
 ⟨fun enc w base sp hd fuel cs x h=>by
  obtain⟨z,rfl,rfl,hw⟩:=DataW.trod_int ht h
  exact⟨z,by show 0+1<=Rows.uptoBulk (.lit (.int .u64 z));rw[Rows.uptoBulk];exact Nat.le_refl _;all_goals simp,wf_u64 hw,_,_,rfl,rfl,rfl⟩⟩
theorem op_str {t:TypeId} (ht:Tryz.prog.underlying t=some .string):OpA t ByteArray:=
 ⟨fun enc w base sp hd fuel cs x h=>by
  obtain⟨z,rfl,rfl,hs⟩:=DataW.trod_string ht h
  refine⟨z,?_,trivial,_,_,rfl,rfl,rfl⟩
  show z.size+1<=Rows.uptoBulk (.lit (.string z.data.toList))
  rw[Rows.uptoBulk,Array.length_toList];exact Nat.le_refl _⟩
theorem list_of {α:Type} {p:Nat->α->Prop}: ∀(n:Nat),(∀i,i<n-> ∃x,p i x)-> ∃l:List α,l.length=n/\ ∀(i:Nat) x,l[i]?=some x->p i x
 |0,_=>⟨[],rfl,fun i x h=>by simp at h⟩
 |n+1,h=>by
  obtain⟨l,hl,hp⟩:=list_of n fun i hi=>h i (Nat.lt_succ_of_lt hi)
  obtain⟨x,hx⟩:=h n (Nat.lt_succ_self n)
  refine⟨l++[x],by simp[hl],fun i y hy=>?_⟩
  rcases Nat.lt_trichotomy i n with q|q|q
  ·rw[List.getElem?_append_left (by omega)] at hy;exact hp i y hy
  ·subst q;rw[List.getElem?_append_right (by omega),hl] at hy;simp at hy;subst hy;exact hx
  ·rw[List.getElem?_eq_none (by simp;omega)] at hy;cases hy
theorem choose_to {α:Type} [Inhabited α] {p:Nat->α->Prop} (n:Nat) (h: ∀i,i<n-> ∃x,p i x): ∃f:Nat->α,∀i,i<n->p i (f i):=by
 obtain⟨l,hl,hp⟩:=list_of n h
 refine⟨fun i=>l.getD i default,fun i hi=>?_⟩
 have:=hp i l[i] (List.getElem?_eq_getElem (by omega))
 show p i (l.getD i default)
 rwa [List.getD_eq_getElem?_getD,List.getElem?_eq_getElem (by omega)]
theorem bulk_range {H:Type} {α:Type} [Enc α] [Siz α] (D:Nat->DataW H): ∀(l:List α) (k:Nat),(∀i x,l[i]?=some x->siz x+1<=Rows.uptoBulk (D (k+i)))->siz l<=Rows.uptoBulkAll ((List.range l.length).map fun i=>D (k+i))
 |[],k,h=>Nat.zero_le _
 |x::l,k,h=>by
  have e:siz (x::l)=l.length+1+(siz x+(l.map siz).sum):=rfl
  have e2:siz l=l.length+(l.map siz).sum:=rfl
  have h0:=h 0 x rfl
  have h1:=bulk_range D l (k+1) fun i y hy=>by have:=h (i+1) y (by simpa using hy);rwa [show k+1+i=k+(i+1) by omega]
  rw[List.length_cons,List.range_succ_eq_map,List.map_cons,bulk_cons,List.map_map,e]
  rw[show((fun i=>D (k+i))∘Nat.succ)=fun i=>D (k+1+i) from funext fun i=>by show D (k+(i+1))=_;congr 1;omega]
  rw[Nat.add_zero] at h0⊢
  omega
theorem OpA.list {t e:TypeId} {α:Type} [Enc α] [Siz α] [Rng α] (ht:Tryz.prog.underlying t=some (.slice e)) (hc:Tryz.prog.cellsOf e=Enc.sz α) (ho: ∀x:α,(Enc.enc x).all AV.one=true) (he:OpA e α):OpA t (List α) where
 open_:=fun enc w base sp hd fuel cs x h=>by
  rcases Go.Deep.open_slice ht h with⟨rfl,rfl⟩|⟨a,len,cap,m,n,D,Pl,rfl,hb,hl,hm,hmm,rfl,hx⟩
  ·refine⟨[],?_,(fun x hx=>by cases hx),_,_,rfl,⟨none,0,fun _=>[],rfl,(fun z hz=>by cases hz),⟨Nat.zero_le _,Nat.zero_le _⟩,fun i hi=>by cases hi⟩,rfl⟩
   show 0+1<=Rows.uptoBulk (.nil)
   rw[Rows.uptoBulk];exact Nat.le_refl _
  ·have hle:len<=m:=by rw[hmm];split<;>omega
   obtain⟨l,hll,hp⟩:=list_of (p:=fun i (d:α)=>(∃cs',w.cells? base (a.add (i*Enc.sz α)) (Enc.sz α)=some cs'/\rels allS W0 w (Enc.enc d) cs')/\Rng.rng d/\siz d+1<=Rows.uptoBulk (D i)) len fun i hi=>by
    obtain⟨cs',h1,h2⟩:=hx i (by omega)
    obtain⟨d,h3,h4,h5⟩:=he.open_ _ _ _ _ _ _ _ _ h2
    rw[hc] at h1
    exact⟨d,⟨cs',h1,h5⟩,h4,h3⟩
   subst hll
   obtain⟨us,hus⟩:=choose_to (p:=fun i cs'=>∀x,l[i]?=some x->w.cells? base (a.add (i*Enc.sz α)) (Enc.sz α)=some cs'/\rels allS W0 w (Enc.enc x) cs') l.length fun i hi=>by
    obtain⟨⟨cs',h1,h2⟩,_⟩:=hp i l[i] (List.getElem?_eq_getElem hi)
    exact⟨cs',fun x hx=>by rw[List.getElem?_eq_getElem hi] at hx;cases hx;exact⟨h1,h2⟩⟩
   refine⟨l,?_,fun x hx=>?_,_,_,rfl,⟨some a,cap,us,rfl,(fun z hz=>by cases hz),⟨hl,Nat.le_trans hl hm⟩,fun i hi=>?_⟩,rfl⟩
   ·rw[show Rows.uptoBulk (DataW.slice (List.map D (List.range l.length)) (List.map (fun j=>D (l.length+j)) (List.range (m-l.length))))=Rows.uptoBulkAll (List.map D (List.range l.length))+Rows.uptoBulkAll (List.map (fun j=>D (l.length+j)) (List.range (m-l.length)))+1 by rw[Rows.uptoBulk]]
    have:=bulk_range D l 0 fun i x hx=>by rw[Nat.zero_add];exact(hp i x hx).2.2
    simp only[Nat.zero_add] at this
    show siz l+1<=Rows.uptoBulkAll (List.map (fun i=>D i) (List.range l.length))+_+1
    omega
   ·obtain⟨i,hi,rfl⟩:=List.getElem_of_mem hx
    exact(hp i l[i] (List.getElem?_eq_getElem hi)).2.1
   ·have hg:l.getD i Enc.d=l[i]:=by rw[List.getD_eq_getElem?_getD,List.getElem?_eq_getElem hi];rfl
    obtain⟨h1,h2⟩:=hus i hi l[i] (List.getElem?_eq_getElem hi)
    obtain⟨_,hlen,hcell⟩:=World.cells?_some h1
    refine⟨⟨a,rfl,fun w' h3 h4 j u hu=>?_⟩,⟨hlen,rels_one h2 (ho _)⟩,?_⟩
    ·have hj:j<Enc.sz α:=by have:=(List.getElem?_eq_some_iff.1 hu).1;omega
     have:=hcell j hj
     rw[hu] at this
     unfold World.cell? at this⊢
     cases hb:w.heap[((a.add (i*Enc.sz α)).add j).block]? with
     |none=>rw[hb] at this;cases this
     |some o=>
      have hlt:=(Array.getElem?_eq_some_iff.1 hb).1
      rw[h4 _ hlt trivial,hb];rw[hb] at this;exact this
    ·show rels allS W0 w (Enc.enc (l.getD i Enc.d)) (us i)
     rw[hg];exact h2
theorem trod_flat {H:Type} {enc:TypeId×Value->H} {w:World} {base:Nat} {sp:Nat->Bool} {hd:Bool} {fuel:Nat} {cs:List Value} {x:DataW H×List MemPlace} {t:TypeId} {fs:Array Field}
  (hs:Tryz.prog.underlying t=some (.struct fs)) (h:DataW.trod enc Tryz.prog w base sp hd fuel t cs=some x) (n:Nat) (hc:Tryz.prog.cellsOf t=n) (hn:fs.size=n) (hf: ∀i:Nat,i<n->(fs[i]?.map (·.offset))=some i/\(fs[i]?.map fun f=>Tryz.prog.cellsOf f.type)=some 1):
  ∃(m:Nat) (xs:List (DataW H×List MemPlace)),xs.length=n/\x.1= .agg (xs.map (·.1))/\cs.length=n/\ ∀(i:Nat) (f:Field) (c:Value) (y:DataW H×List MemPlace),fs[i]?=some f->cs[i]?=some c->xs[i]?=some y->DataW.trod enc Tryz.prog w base sp hd m f.type [c]=some y:=by
 obtain⟨xs,m,rfl,rfl,hlen,hxl,hall⟩:=DataW.trod_struct hs h
 refine⟨m,xs,hxl.trans hn,rfl,hlen.trans hc,fun i f c y hfi hci hyi=>?_⟩
 have hi:i<n:=by rw[<-hn];exact(Array.getElem?_eq_some_iff.1 hfi).1
 obtain⟨h1,h2⟩:=hf i hi
 rw[hfi] at h1 h2
 simp only[Option.map_some,Option.some.injEq] at h1 h2
 have:=hall i f hfi
 rw[hyi,h1,h2] at this
 rw[<-this]
 congr 1
 obtain⟨hl,e⟩:=List.getElem?_eq_some_iff.1 hci
 rw[List.drop_eq_getElem_cons hl,e];rfl
theorem list1 {α:Type} {l:List α} (h:l.length=1): ∃a,l=[a]:=by
 match l,h with
 |[a],_=>exact⟨a,rfl⟩
theorem list2 {α:Type} {l:List α} (h:l.length=2): ∃a b,l=[a,b]:=by
 match l,h with
 |[a,b],_=>exact⟨a,b,rfl⟩
theorem list3 {α:Type} {l:List α} (h:l.length=3): ∃a b c,l=[a,b,c]:=by
 match l,h with
 |[a,b,c],_=>exact⟨a,b,c,rfl⟩
theorem list4 {α:Type} {l:List α} (h:l.length=4): ∃a b c d,l=[a,b,c,d]:=by
 match l,h with
 |[a,b,c,d],_=>exact⟨a,b,c,d,rfl⟩
theorem list7 {α:Type} {l:List α} (h:l.length=7): ∃a b c d e f g,l=[a,b,c,d,e,f,g]:=by
 match l,h with
 |[a,b,c,d,e,f,g],_=>exact⟨a,b,c,d,e,f,g,rfl⟩
theorem calls_of_A {f:FuncId} {args:List AV} {us:List Value} {w:World} {b:Bool} (h:ASpec Tryz.prog f args (.b b) []) (hr:rels allS W0 w args us) (hv:Rob allS w Vr):
  Calls Tryz.prog f us.toArray w fun e w'=>e= .returned (.bool b)/\Below w.heap.size w w':=
 (h.2.2 allS w us hr hv).mono fun e w' ⟨v,β',he,hb,_,_,_,_,hrel⟩=>⟨by rw[he];unfold rel at hrel;rw[hrel],hb⟩
theorem open_arg {α:Type} [Enc α] [Siz α] [Rng α] {H:Type} {enc:TypeId×Value->H} {w:World} {base b0:Nat} {sp:Nat->Bool} {hd:Bool} {r:Reach} {t:TypeId} {v:Value} {d:DataW H} {ps:List MemPlace} {fs:Array Field}
  (ho:OpA t α) (ht:Tryz.prog.underlying t=some (.struct fs)) (hval:Value.okWide Tryz.prog w r b0 t v) (h:DataW.Trod enc Tryz.prog w base sp hd t v d ps): ∃x:α,rel allS W0 w (eS x) v/\Rng.rng x/\siz x+1<=Rows.uptoBulk d:=by
 obtain⟨cs,rfl,_⟩:=okWide_struct ht hval
 obtain⟨fuel,hf⟩:=h
 obtain⟨x,h1,h2,h3⟩:=ho.open_ _ _ _ _ _ _ _ _ hf
 exact⟨x,⟨cs.toList,by simp,by simpa[Value.cells] using h3⟩,h2,h1⟩
instance:Rng Plc:=⟨fun x=>rngI x.f/\rngI x.b/\rngI x.i⟩
instance:Rng Opd:=⟨fun x=>rngI x.k/\rngI x.n/\rngU x.b⟩
theorem op_Opd:OpA 56 Opd where
 open_:=fun enc w base sp hd fuel cs x h=>by
  obtain⟨m,xs,h1,h2,h3,h4⟩:=trod_flat Tryz.underlying56 h 3 (by kernel_rfl) rfl (by decide)
  obtain⟨c0,c1,c2,rfl⟩:=list3 h3
  obtain⟨y0,y1,y2,rfl⟩:=list3 h1
  obtain⟨d0,a0,b0,r0⟩:=(op_i64 Tryz.underlying3).open_ _ _ _ _ _ _ _ _ (h4 0 _ _ _ rfl rfl rfl)
  obtain⟨_,_,e0,r0,rn0⟩:=r0
  cases e0
  obtain⟨d1,a1,b1,r1⟩:=(op_i64 Tryz.underlying3).open_ _ _ _ _ _ _ _ _ (h4 1 _ _ _ rfl rfl rfl)
  obtain⟨_,_,e1,r1,rn1⟩:=r1
  cases e1
  obtain⟨d2,a2,b2,r2⟩:=(op_u64 Tryz.underlying54).open_ _ _ _ _ _ _ _ _ (h4 2 _ _ _ rfl rfl rfl)
  obtain⟨_,_,e2,r2,rn2⟩:=r2
  cases e2
  refine⟨⟨d0,d1,d2⟩,?_,⟨b0,b1,b2⟩,?_⟩
  ·rw[h2]
   have e:siz (⟨d0,d1,d2⟩:Opd)=0:=rfl
   rw[e,bulk_agg]
   simp only[List.map_cons,List.map_nil,bulk_cons,bulk_nil]
   omega
  ·exact⟨_,_,rfl,r0,⟨_,_,rfl,r1,⟨_,_,rfl,r2,rfl⟩⟩⟩
instance:Rng InsE:=⟨fun x=>rngI x.op/\rngI x.reg/\rngI x.t/\rngI x.n/\rngI x.f/\Rng.rng x.args/\Rng.rng x.to⟩
theorem op_InsE:OpA 53 InsE where
 open_:=fun enc w base sp hd fuel cs x h=>by
  obtain⟨m,xs,h1,h2,h3,h4⟩:=trod_flat Tryz.underlying53 h 7 (by kernel_rfl) rfl (by decide)
  obtain⟨c0,c1,c2,c3,c4,c5,c6,rfl⟩:=list7 h3
  obtain⟨y0,y1,y2,y3,y4,y5,y6,rfl⟩:=list7 h1
  obtain⟨d0,a0,b0,r0⟩:=(op_i64 Tryz.underlying3).open_ _ _ _ _ _ _ _ _ (h4 0 _ _ _ rfl rfl rfl)
  obtain⟨_,_,e0,r0,rn0⟩:=r0
  cases e0
  obtain⟨d1,a1,b1,r1⟩:=(op_i64 Tryz.underlying3).open_ _ _ _ _ _ _ _ _ (h4 1 _ _ _ rfl rfl rfl)
  obtain⟨_,_,e1,r1,rn1⟩:=r1
  cases e1
  obtain⟨d2,a2,b2,r2⟩:=(op_i64 Tryz.underlying3).open_ _ _ _ _ _ _ _ _ (h4 2 _ _ _ rfl rfl rfl)
  obtain⟨_,_,e2,r2,rn2⟩:=r2
  cases e2
  obtain⟨d3,a3,b3,r3⟩:=(op_i64 Tryz.underlying3).open_ _ _ _ _ _ _ _ _ (h4 3 _ _ _ rfl rfl rfl)
  obtain⟨_,_,e3,r3,rn3⟩:=r3
  cases e3
  obtain⟨d4,a4,b4,r4⟩:=(op_i64 Tryz.underlying3).open_ _ _ _ _ _ _ _ _ (h4 4 _ _ _ rfl rfl rfl)
  obtain⟨_,_,e4,r4,rn4⟩:=r4
  cases e4
  obtain⟨d5,a5,b5,r5⟩:=(OpA.list (α:=Opd) Tryz.underlying51 (by kernel_rfl) (fun _=>rfl) op_Opd).open_ _ _ _ _ _ _ _ _ (h4 5 _ _ _ rfl rfl rfl)
  obtain⟨_,_,e5,r5,rn5⟩:=r5
  cases e5
  obtain⟨d6,a6,b6,r6⟩:=(OpA.list (α:=Int) Tryz.underlying39 (by kernel_rfl) (fun _=>rfl) (op_i64 Tryz.underlying3)).open_ _ _ _ _ _ _ _ _ (h4 6 _ _ _ rfl rfl rfl)
  obtain⟨_,_,e6,r6,rn6⟩:=r6
  cases e6
  refine⟨⟨d0,d1,d2,d3,d4,d5,d6⟩,?_,⟨b0,b1,b2,b3,b4,b5,b6⟩,?_⟩
  ·rw[h2]
   have e:siz (⟨d0,d1,d2,d3,d4,d5,d6⟩:InsE)=siz d5+siz d6:=rfl
   rw[e,bulk_agg]
   simp only[List.map_cons,List.map_nil,bulk_cons,bulk_nil]
   omega
  ·exact⟨_,_,rfl,r0,⟨_,_,rfl,r1,⟨_,_,rfl,r2,⟨_,_,rfl,r3,⟨_,_,rfl,r4,⟨_,_,rfl,r5,⟨_,_,rfl,r6,rfl⟩⟩⟩⟩⟩⟩⟩
instance:Rng BlkE:=⟨fun x=>Rng.rng x.code⟩
theorem op_BlkE:OpA 50 BlkE where
 open_:=fun enc w base sp hd fuel cs x h=>by
  obtain⟨m,xs,h1,h2,h3,h4⟩:=trod_flat Tryz.underlying50 h 1 (by kernel_rfl) rfl (by decide)
  obtain⟨c0,rfl⟩:=list1 h3
  obtain⟨y0,rfl⟩:=list1 h1
  obtain⟨d0,a0,b0,r0⟩:=(OpA.list (α:=InsE) Tryz.underlying48 (by kernel_rfl) (fun _=>rfl) op_InsE).open_ _ _ _ _ _ _ _ _ (h4 0 _ _ _ rfl rfl rfl)
  obtain⟨_,_,e0,r0,rn0⟩:=r0
  cases e0
  refine⟨⟨d0⟩,?_,b0,?_⟩
  ·rw[h2]
   have e:siz (⟨d0⟩:BlkE)=siz d0:=rfl
   rw[e,bulk_agg]
   simp only[List.map_cons,List.map_nil,bulk_cons,bulk_nil]
   omega
  ·exact⟨_,_,rfl,r0,rfl⟩
instance:Rng FnE:=⟨fun x=>True/\Rng.rng x.params/\rngI x.ret/\Rng.rng x.blocks⟩
theorem op_FnE:OpA 42 FnE where
 open_:=fun enc w base sp hd fuel cs x h=>by
  obtain⟨m,xs,h1,h2,h3,h4⟩:=trod_flat Tryz.underlying42 h 4 (by kernel_rfl) rfl (by decide)
  obtain⟨c0,c1,c2,c3,rfl⟩:=list4 h3
  obtain⟨y0,y1,y2,y3,rfl⟩:=list4 h1
  obtain⟨d0,a0,b0,r0⟩:=(op_str Tryz.underlying9).open_ _ _ _ _ _ _ _ _ (h4 0 _ _ _ rfl rfl rfl)
  obtain⟨_,_,e0,r0,rn0⟩:=r0
  cases e0
  obtain⟨d1,a1,b1,r1⟩:=(OpA.list (α:=Int) Tryz.underlying39 (by kernel_rfl) (fun _=>rfl) (op_i64 Tryz.underlying3)).open_ _ _ _ _ _ _ _ _ (h4 1 _ _ _ rfl rfl rfl)
  obtain⟨_,_,e1,r1,rn1⟩:=r1
  cases e1
  obtain⟨d2,a2,b2,r2⟩:=(op_i64 Tryz.underlying3).open_ _ _ _ _ _ _ _ _ (h4 2 _ _ _ rfl rfl rfl)
  obtain⟨_,_,e2,r2,rn2⟩:=r2
  cases e2
  obtain⟨d3,a3,b3,r3⟩:=(OpA.list (α:=BlkE) Tryz.underlying40 (by kernel_rfl) (fun _=>rfl) op_BlkE).open_ _ _ _ _ _ _ _ _ (h4 3 _ _ _ rfl rfl rfl)
  obtain⟨_,_,e3,r3,rn3⟩:=r3
  cases e3
  refine⟨⟨d0,d1,d2,d3⟩,?_,⟨trivial,b1,b2,b3⟩,?_⟩
  ·rw[h2]
   have e:siz (⟨d0,d1,d2,d3⟩:FnE)=siz d0+siz d1+siz d3:=rfl
   rw[e,bulk_agg]
   simp only[List.map_cons,List.map_nil,bulk_cons,bulk_nil]
   omega
  ·exact⟨_,_,rfl,r0,⟨_,_,rfl,r1,⟨_,_,rfl,r2,⟨_,_,rfl,r3,rfl⟩⟩⟩⟩
instance:Rng VarE:=⟨fun x=>True/\rngI x.size⟩
theorem op_VarE:OpA 82 VarE where
 open_:=fun enc w base sp hd fuel cs x h=>by
  obtain⟨m,xs,h1,h2,h3,h4⟩:=trod_flat Tryz.underlying82 h 2 (by kernel_rfl) rfl (by decide)
  obtain⟨c0,c1,rfl⟩:=list2 h3
  obtain⟨y0,y1,rfl⟩:=list2 h1
  obtain⟨d0,a0,b0,r0⟩:=(op_str Tryz.underlying9).open_ _ _ _ _ _ _ _ _ (h4 0 _ _ _ rfl rfl rfl)
  obtain⟨_,_,e0,r0,rn0⟩:=r0
  cases e0
  obtain⟨d1,a1,b1,r1⟩:=(op_i64 Tryz.underlying3).open_ _ _ _ _ _ _ _ _ (h4 1 _ _ _ rfl rfl rfl)
  obtain⟨_,_,e1,r1,rn1⟩:=r1
  cases e1
  refine⟨⟨d0,d1⟩,?_,⟨trivial,b1⟩,?_⟩
  ·rw[h2]
   have e:siz (⟨d0,d1⟩:VarE)=siz d0:=rfl
   rw[e,bulk_agg]
   simp only[List.map_cons,List.map_nil,bulk_cons,bulk_nil]
   omega
  ·exact⟨_,_,rfl,r0,⟨_,_,rfl,r1,rfl⟩⟩
instance:Rng ExtE:=⟨fun x=>True/\Rng.rng x.params/\rngI x.ret⟩
theorem op_ExtE:OpA 69 ExtE where
 open_:=fun enc w base sp hd fuel cs x h=>by
  obtain⟨m,xs,h1,h2,h3,h4⟩:=trod_flat Tryz.underlying69 h 3 (by kernel_rfl) rfl (by decide)
  obtain⟨c0,c1,c2,rfl⟩:=list3 h3
  obtain⟨y0,y1,y2,rfl⟩:=list3 h1
  obtain⟨d0,a0,b0,r0⟩:=(op_str Tryz.underlying9).open_ _ _ _ _ _ _ _ _ (h4 0 _ _ _ rfl rfl rfl)
  obtain⟨_,_,e0,r0,rn0⟩:=r0
  cases e0
  obtain⟨d1,a1,b1,r1⟩:=(OpA.list (α:=Int) Tryz.underlying39 (by kernel_rfl) (fun _=>rfl) (op_i64 Tryz.underlying3)).open_ _ _ _ _ _ _ _ _ (h4 1 _ _ _ rfl rfl rfl)
  obtain⟨_,_,e1,r1,rn1⟩:=r1
  cases e1
  obtain⟨d2,a2,b2,r2⟩:=(op_i64 Tryz.underlying3).open_ _ _ _ _ _ _ _ _ (h4 2 _ _ _ rfl rfl rfl)
  obtain⟨_,_,e2,r2,rn2⟩:=r2
  cases e2
  refine⟨⟨d0,d1,d2⟩,?_,⟨trivial,b1,b2⟩,?_⟩
  ·rw[h2]
   have e:siz (⟨d0,d1,d2⟩:ExtE)=siz d0+siz d1:=rfl
   rw[e,bulk_agg]
   simp only[List.map_cons,List.map_nil,bulk_cons,bulk_nil]
   omega
  ·exact⟨_,_,rfl,r0,⟨_,_,rfl,r1,⟨_,_,rfl,r2,rfl⟩⟩⟩
instance:Rng ModE:=⟨fun x=>Rng.rng x.vars/\Rng.rng x.exts/\Rng.rng x.funcs⟩
theorem op_ModE:OpA 26 ModE where
 open_:=fun enc w base sp hd fuel cs x h=>by
  obtain⟨m,xs,h1,h2,h3,h4⟩:=trod_flat Tryz.underlying26 h 3 (by kernel_rfl) rfl (by decide)
  obtain⟨c0,c1,c2,rfl⟩:=list3 h3
  obtain⟨y0,y1,y2,rfl⟩:=list3 h1
  obtain⟨d0,a0,b0,r0⟩:=(OpA.list (α:=VarE) Tryz.underlying22 (by kernel_rfl) (fun _=>rfl) op_VarE).open_ _ _ _ _ _ _ _ _ (h4 0 _ _ _ rfl rfl rfl)
  obtain⟨_,_,e0,r0,rn0⟩:=r0
  cases e0
  obtain⟨d1,a1,b1,r1⟩:=(OpA.list (α:=ExtE) Tryz.underlying23 (by kernel_rfl) (fun _=>rfl) op_ExtE).open_ _ _ _ _ _ _ _ _ (h4 1 _ _ _ rfl rfl rfl)
  obtain⟨_,_,e1,r1,rn1⟩:=r1
  cases e1
  obtain⟨d2,a2,b2,r2⟩:=(OpA.list (α:=FnE) Tryz.underlying24 (by kernel_rfl) (fun _=>rfl) op_FnE).open_ _ _ _ _ _ _ _ _ (h4 2 _ _ _ rfl rfl rfl)
  obtain⟨_,_,e2,r2,rn2⟩:=r2
  cases e2
  refine⟨⟨d0,d1,d2⟩,?_,⟨b0,b1,b2⟩,?_⟩
  ·rw[h2]
   have e:siz (⟨d0,d1,d2⟩:ModE)=siz d0+siz d1+siz d2:=rfl
   rw[e,bulk_agg]
   simp only[List.map_cons,List.map_nil,bulk_cons,bulk_nil]
   omega
  ·exact⟨_,_,rfl,r0,⟨_,_,rfl,r1,⟨_,_,rfl,r2,rfl⟩⟩⟩
theorem wkrow1 {g g':Nat->List AV} (h:wks (g 0) (g' 0)): ∀i,i<1->wks (g i) (g' i):=fun i hi=>by
 obtain rfl:i=0:=by omega
 exact h
theorem wkrow2 {g g':Nat->List AV} (h:wks (g 0) (g' 0)/\wks (g 1) (g' 1)): ∀i,i<2->wks (g i) (g' i):=fun i hi=>by
 match i,hi with
 |0,_=>exact h.1
 |1,_=>exact h.2
theorem wkInt (x:Int):wks (Enc.enc x) (Enc.enc x):=⟨⟨rfl,rfl⟩,trivial⟩
theorem wkOpd (x:Opd):wks (Enc.enc x) (Enc.enc x):=⟨⟨rfl,rfl⟩,⟨rfl,rfl⟩,⟨rfl,rfl⟩,trivial⟩
theorem wkL {α:Type} [Enc α] (h: ∀x:α,wks (Enc.enc x) (Enc.enc x)) (l:List α):wk (eL l) (eL l):=⟨rfl,rfl,fun i _=>h _⟩
theorem wkIns (x:InsE):wks (Enc.enc x) (Enc.enc x):=⟨⟨rfl,rfl⟩,⟨rfl,rfl⟩,⟨rfl,rfl⟩,⟨rfl,rfl⟩,⟨rfl,rfl⟩,wkL wkOpd _,wkL wkInt _,trivial⟩
theorem wkBlk (x:BlkE):wks (Enc.enc x) (Enc.enc x):=⟨wkL wkIns _,trivial⟩
theorem rngA_at {α:Type} [Enc α] [Rng α] {l:List α} (h:Rng.rng l) (hd:Rng.rng (Enc.d:α)) (i:Nat):Rng.rng (l.getD i Enc.d):=by
 rcases Nat.lt_or_ge i l.length with hi|hi
 ·rw[List.getD_eq_getElem?_getD,List.getElem?_eq_getElem hi];exact h _ (List.getElem_mem hi)
 ·rw[List.getD_eq_getElem?_getD,List.getElem?_eq_none hi];exact hd
theorem rngA0:rngI 0:=by unfold rngI;omega
theorem rngA_ins:Rng.rng (Enc.d:InsE):=⟨rngA0,rngA0,rngA0,rngA0,rngA0,fun x h=>(by cases h),fun x h=>(by cases h)⟩
theorem rngA_blk:Rng.rng (Enc.d:BlkE):=fun x h=>(by cases h)
theorem rngA_opd:Rng.rng (Enc.d:Opd):=⟨rngA0,rngA0,by unfold rngU;show(0:Int)<=0/\(0:Int)<_;omega⟩
theorem rngA_fn:Rng.rng (Enc.d:FnE):=⟨trivial,fun x h=>(by cases h),rngA0,fun x h=>(by cases h)⟩
theorem inIA_of {x:Int} (h:rngI x):inI x:=by unfold rngI at h;unfold inI;omega
theorem rngA_iAt {f:FnE} (h:Rng.rng f) (b i:Nat):Rng.rng (iAt f b i):=by
 obtain⟨_,_,_,h4⟩:=h
 have h5:Rng.rng (f.blocks.getD b Enc.d):=rngA_at h4 rngA_blk b
 exact rngA_at (show Rng.rng (f.blocks.getD b Enc.d).code from h5) rngA_ins i
theorem rngA_f {m:ModE} (h:Rng.rng m) (q:Nat):Rng.rng (fnA m q):=rngA_at h.2.2 rngA_fn q
theorem RngV.of {m:ModE} (h:Rng.rng m):RngV m where
 reg:=fun q b i=>inIA_of (rngA_iAt (rngA_f h q) b i).2.1
 n:=fun q b i=>inIA_of (rngA_iAt (rngA_f h q) b i).2.2.2.1
 arg:=fun q b i k=>inIA_of (rngA_at (rngA_iAt (rngA_f h q) b i).2.2.2.2.2.1 rngA_opd k).2.1
theorem rngA_C1 {f:FnE} (h:Rng.rng f) (i:Nat):inI ((C1 f).getD i Enc.d).n:=by
 rcases Nat.lt_or_ge i (Code f).length with hi|hi
 ·obtain⟨b,k,h1,h2,rfl⟩:=kd_all hi
  rw[kd_1 h1 h2];exact inIA_of (rngA_iAt h b k).2.2.2.1
 ·rw[List.getD_eq_getElem?_getD,List.getElem?_eq_none (by rw[C1_len];exact hi)]
  exact inIA_of rngA0
def liveM (n:Int):ModE:=⟨[],[],[⟨⟨#[102]⟩,[8],8,[⟨[⟨1,1,8,0,0,[⟨1,0,0⟩,⟨2,0,3⟩],[]⟩,⟨33,-1,8,0,0,[⟨1,n,0⟩],[]⟩]⟩]⟩]⟩
theorem live_rng (n:Int) (hn:rngI n):Rng.rng (liveM n):=by
 refine⟨fun x hx=>(by cases hx),fun x hx=>(by cases hx),fun x hx=>?_⟩
 obtain rfl:=List.mem_singleton.1 hx
 refine⟨trivial,fun x hx=>?_,by show rngI 8;unfold rngI;omega,fun x hx=>?_⟩
 ·obtain rfl:=List.mem_singleton.1 hx
  show rngI 8;unfold rngI;omega
 obtain rfl:=List.mem_singleton.1 hx
 show∀x∈_,Rng.rng x
 intro x hx
 simp only[List.mem_cons,List.not_mem_nil,or_false] at hx
 have r: ∀z:Int,-100<=z/\z<=100->rngI z:=fun z h=>by unfold rngI;omega
 rcases hx with rfl|rfl
 ·refine⟨r 1 (by decide),r 1 (by decide),r 8 (by decide),r 0 (by decide),r 0 (by decide),fun x hx=>?_,fun x hx=>(by cases hx)⟩
  have hx:x∈[(⟨1,0,0⟩:Opd),⟨2,0,3⟩]:=hx
  simp only[List.mem_cons,List.not_mem_nil,or_false] at hx
  rcases hx with rfl|rfl
  ·exact⟨r 1 (by decide),r 0 (by decide),show rngU 0 by unfold rngU;omega⟩
  ·exact⟨r 2 (by decide),r 0 (by decide),show rngU 3 by unfold rngU;omega⟩
 ·refine⟨r 33 (by decide),r (-1) (by decide),r 8 (by decide),r 0 (by decide),r 0 (by decide),fun x hx=>?_,fun x hx=>(by cases hx)⟩
  obtain rfl:=List.mem_singleton.1 hx
  exact⟨r 1 (by decide),hn,show rngU 0 by unfold rngU;omega⟩
theorem live_fault: ∀R T,CheckF (liveM 2) R T=⟨10,⟨0,0,1⟩⟩:=fun R T=>by
 show(if(headsF (liveM 2)).code=0 then chk (liveM 2) R T (fnA (liveM 2) 0) 0 else headsF (liveM 2))=_
 rw[if_pos (by decide+kernel)]
 unfold chk
 rw[if_pos (by decide+kernel),if_pos (by decide+kernel),if_pos (by decide+kernel),if_neg (by decide+kernel)]
 decide+kernel
theorem live_right : ∀ R T, CheckF (liveM 1) R T = ⟨0, ⟨0, 0, 0⟩⟩ := fun R T => by
  show (if (headsF (liveM 1)).code = 0 then chk (liveM 1) R T (fnA (liveM 1) 0) 0 else headsF (liveM 1)) = _
  rw [if_pos (by decide +kernel)]
  unfold chk
  rw [if_pos (by decide +kernel), if_pos (by decide +kernel), if_pos (by decide +kernel), if_pos (by decide +kernel), if_pos (by decide +kernel)]
  refine firstF_no fun i hi => ?_
  have hi : i < 2 := hi
  unfold ordI
  match i, hi with
  | 0, _ => rw [firstC_no fun k hk => ?_]
            match k, hk with
            | 0, _ => exact if_pos (by decide +kernel)
            | 1, _ => exact if_pos (by decide +kernel)
  | 1, _ => rw [firstC_no fun k hk => ?_]
            match k, hk with
            | 0, _ =>
              unfold ordC
              rw [if_neg (by decide +kernel)]
              split
              · rfl
              · rw [if_neg (by decide +kernel), if_pos (by decide +kernel), if_pos (by decide +kernel)]
theorem lives8_S:ASpec Tryz.prog 9 [] (.b true) []:=by
 obtain⟨R,hR⟩: ∃R:FnE->List Bool,∀f,isRG f (-1) (R f):=⟨fun f=>Classical.choose (isRG_ex f (-1)),fun f=>Classical.choose_spec (isRG_ex f (-1))⟩
 obtain⟨T,hT⟩: ∃T:FnE->List (List Bool),∀f,isTab f (T f):=⟨fun f=>Classical.choose (isTab_ex f),fun f=>Classical.choose_spec (isTab_ex f)⟩
 have k1:=check_S (liveM 1) R T hR hT (by decide+kernel) (.of (live_rng 1 (by unfold rngI;omega)))
 have k2:=check_S (liveM 2) R T hR hT (by decide+kernel) (.of (live_rng 2 (by unfold rngI;omega)))
 rw[live_right] at k1
 rw[live_fault] at k2
 have kp:=live_S
 rw[live_F] at kp
 refine ASpec.enter TYok mixed Tryz.func9 rfl Tryz.call9 Tryz.ntmps9 rfl (rs:=[.tmp 0]) rfl (nodupB_ok rfl) (Clo.one rfl) (keep:=[0,1,2,3,5,6]) ?_;conv=>whnf
 repeat' first|(refine iG (fun hb hc=>?_) (fun hb hc=>?_)<;>first|exact hc.elim|(exfalso;omega)|conv=>whnf)|(refine gqs ?_;conv=>whnf)|(refine gqc (x:=fun _=>kp) (k:= ?_);conv=>whnf)|(refine yt ?_;conv=>whnf)|exact⟨_,.keep rfl rfl⟩|fail
 ·exact absurd hb (by decide)
 (try(first|refine yt ?_|refine CallW.lent ?_);(conv=>whnf));(repeat(refine yb ?_;(conv=>whnf)));(first|refine cK (fun _=>k1.weak (by repeat' first|exact trivial|exact rfl|refine And.intro ?_ ?_|exact fun i _=>wkInt _|refine wkrow1 ?_|refine wkrow2 ?_)) ?_|refine cL (fun _=>k1.weak (by repeat' first|exact trivial|exact rfl|refine And.intro ?_ ?_|exact fun i _=>wkInt _|refine wkrow1 ?_|refine wkrow2 ?_)) ?_);conv=>whnf
 repeat' first|(refine iG (fun hb hc=>?_) (fun hb hc=>?_)<;>first|exact hc.elim|(exfalso;omega)|conv=>whnf)|(refine gqs ?_;conv=>whnf)|(refine yt ?_;conv=>whnf)|exact⟨_,.keep rfl rfl⟩|fail
 (try(first|refine yt ?_|refine CallW.lent ?_);(conv=>whnf));(repeat(refine yb ?_;(conv=>whnf)));(first|refine cK (fun _=>k2.weak (by repeat' first|exact trivial|exact rfl|refine And.intro ?_ ?_|exact fun i _=>wkInt _|refine wkrow1 ?_|refine wkrow2 ?_)) ?_|refine cL (fun _=>k2.weak (by repeat' first|exact trivial|exact rfl|refine And.intro ?_ ?_|exact fun i _=>wkInt _|refine wkrow1 ?_|refine wkrow2 ?_)) ?_);conv=>whnf
 repeat' first|(refine iG (fun hb hc=>?_) (fun hb hc=>?_)<;>first|exact hc.elim|(exfalso;omega)|conv=>whnf)|(refine gqs ?_;conv=>whnf)|(refine yt ?_;conv=>whnf)|exact⟨_,.keep rfl rfl⟩|fail
theorem Long8_S (m:ModE) (hm:siz m<4294967296):ASpec Tryz.prog 10 [eS m] (.b (!decide ((modQ m:Int)<=3000))) []:=by
 have h1:=funcs_le m
 refine ASpec.enter TYok mixed Tryz.func10 rfl Tryz.call10 Tryz.ntmps10 rfl (rs:=[.tmp 2]) rfl (nodupB_ok rfl) (Clo.one rfl) (keep:=[0,1,2,4,6,7,8]) ?_;conv=>whnf
 repeat' first|(refine iG (fun hb hc=>?_) (fun hb hc=>?_)<;>first|exact hc.elim|(exfalso;omega)|conv=>whnf)|(refine gqs ?_;conv=>whnf)|(refine yt ?_;conv=>whnf)|exact⟨_,.keep rfl rfl⟩|fail
 refine lp [8] (fun q:Nat=>[.i .i64 q]) (fun q=>[(1,bx m)]) (fun q=>q<=m.funcs.length) (fun q=>m.funcs.length-q) 0 (Nat.zero_le _) ?_ fun q hq=>?_
 ·refine eP [] [] ?_ ?_<;>repeat' first|exact eN|refine And.intro ?_ ?_
 conv=>whnf
 have h2:=blocks_le (m.funcs.getD q Enc.d)
 have h3:=fn_le m q
 repeat' first|(refine iG (fun hb hc=>?_) (fun hb hc=>?_)<;>first|exact hc.elim|(exfalso;omega)|conv=>whnf)|(refine gqs ?_;conv=>whnf)|(refine gqc (x:=fun _=>Few_S m 3000 hm) (k:= ?_);conv=>whnf)|(refine yt ?_;conv=>whnf)|exact⟨_,.keep rfl rfl⟩|fail
 ·refine .mk (q+1) (by omega) (by omega) ?_
  refine eP [] [] ?_ ?_<;>repeat' first|exact eN|refine And.intro ?_ ?_
def sufV (c:Nat->Int) (n:Nat):Nat->Int
 |0=>0
 |q+1=>if c (n-(q+1))=0 then sufV c n q else c (n-(q+1))
theorem sufV_none {c:Nat->Int} {n:Nat} (h: ∀j,j<n->c j=0): ∀q,q<=n->sufV c n q=0
 |0,_=>rfl
 |q+1,hq=>by rw[sufV,if_pos (h _ (by omega)),sufV_none h q (by omega)]
theorem sufV_some {c:Nat->Int} {n i:Nat} (hi:i<n) (h:c i≠0) (hv: ∀j,j<i->c j=0): ∀q,q<=n->n-q<=i->sufV c n q=c i
 |0,_,h2=>by omega
 |q+1,hq,h2=>by
  rw[sufV]
  by_cases e:n-(q+1)=i
  ·rw[e,if_neg h]
  ·rw[if_pos (hv _ (by omega)),sufV_some hi h hv q (by omega) (by omega)]
theorem sufV_first (c:Nat->Int) (n:Nat):sufV c n n=firstV c n:=by
 unfold firstV
 cases hq:firstC c n with
 |none=>
  refine sufV_none (fun j hj=>?_) n (Nat.le_refl _)
  have:=List.find?_eq_none.1 hq j (List.mem_range.2 hj)
  simpa using this
 |some i=>
  obtain⟨h1,h2,h3⟩:=List.find?_range_eq_some.1 hq
  exact sufV_some (List.mem_range.1 h2) (by simpa using h1) (fun j hj=>by simpa using h3 j hj) n (Nat.le_refl _) (by omega)
theorem types8_S (f:FnE) (hf:siz f<4294967296):ASpec Tryz.prog 18 [eS f] (eL (TypesL f)) []:=by
 have h1:=Code_siz f
 have h2:=C1_len f
 have h3:=C2_len f
 have h9:=params_le f
 refine ASpec.enter TYok mixed Tryz.func18 rfl Tryz.call18 Tryz.ntmps18 rfl (rs:=[.tmp 2]) rfl (nodupB_ok rfl) (Clo.one rfl) (keep:=[0,1,2,3,4,6,7,8]) ?_;conv=>whnf
 repeat' first|(refine iG (fun hb hc=>?_) (fun hb hc=>?_)<;>first|exact hc.elim|(exfalso;omega)|conv=>whnf)|(refine gqs ?_;conv=>whnf)|(refine gqc (x:=fun _=>Code_C 140 141 (by decide) f hf) (k:= ?_);conv=>whnf)|(refine yt ?_;conv=>whnf)|exact⟨_,.keep rfl rfl⟩|fail
 refine lp [6] (fun q:Nat=>[.i .i64 (((Code f).length:Int)-1-q)]) (fun q=>[(9,.row none 1 4096 fun r=>[.i .i64 (sufV (tyC f r) (Code f).length q)]),(1,bx f),(140,oL (C1 f)),(141,oL (C2 f))]) (fun q=>q<=(Code f).length) (fun q=>(Code f).length-q) 0 (Nat.zero_le _) ?_ fun q hq=>?_
 ·refine eP [] [] ?_ ?_<;>repeat' first|exact eN|refine And.intro ?_ ?_
 rcases Nat.lt_or_ge q (Code f).length with hlt|hge
 ·obtain⟨i,hi,hiq⟩: ∃i:Nat,((Code f).length:Int)-1-q=i/\i=(Code f).length-(q+1):=⟨(Code f).length-(q+1),by omega,rfl⟩
  rw[hi]
  have e1: ∀r:Int,sufV (tyC f r) (Code f).length (q+1)=if tyC f r i=0 then sufV (tyC f r) (Code f).length q else tyC f r i:=fun r=>by rw[sufV,hiq]
  conv=>whnf
  repeat' first|(refine iG (fun hb hc=>?_) (fun hb hc=>?_)<;>first|exact hc.elim|(exfalso;omega)|conv=>whnf)|(refine gqs ?_;conv=>whnf)|(refine gqc (x:=fun _=>Result_S _) (k:= ?_);conv=>whnf)|(refine yt ?_;conv=>whnf)|exact⟨_,.keep rfl rfl⟩|fail
  ·refine .mk (q+1) (by omega) (by omega) ?_
   refine eP [] [] ?_ ?_<;>repeat' first|exact eN|refine And.intro ?_ ?_
   intro j hj
   show setF (fun r=>[AV.i .i64 (sufV (tyC f r) (Code f).length q)]) (addZ 0 ((C1 f).getD i Enc.d).reg.toNat) [AV.i .i64 (Result ((C1 f).getD i Enc.d))] j=[AV.i .i64 (sufV (tyC f j) (Code f).length (q+1))]
   rw[e1]
   unfold setF
   have hc':(0<=((C1 f).getD i Enc.d).reg/\((C1 f).getD i Enc.d).reg<=4095)/\ ¬Result ((C1 f).getD i Enc.d)=0:=hc
   rw[addZ_eq]
   by_cases e:j=0+((C1 f).getD i Enc.d).reg.toNat
   ·rw[if_pos e,show tyC f j i=Result ((C1 f).getD i Enc.d) from if_pos (by omega),if_neg hc'.2]
   ·have e2:((C1 f).getD i Enc.d).reg≠j:=by omega
    rw[if_neg e,show tyC f j i=0 from if_neg e2,if_pos rfl]
  ·refine .mk (q+1) (by omega) (by omega) ?_
   refine eP [] [] ?_ ?_<;>repeat' first|exact eN|refine And.intro ?_ ?_
   intro j hj
   show[AV.i .i64 (sufV (tyC f j) (Code f).length q)]=[AV.i .i64 (sufV (tyC f j) (Code f).length (q+1))]
   rw[e1,if_pos]
   unfold tyC
   split
   ·refine Decidable.byContradiction fun g=>?_
    have hj2:j<4096:=hj
    rcases hc with(hc|hc)|hc
    ·omega
    ·omega
    ·exact g hc
   ·rfl
 ·obtain rfl:q=(Code f).length:=by omega
  have e0: ∀r:Int,sufV (tyC f r) (Code f).length (Code f).length=tyM f (Code f).length r:=fun r=>sufV_first _ _
  conv=>whnf
  repeat' first|(refine iG (fun hb hc=>?_) (fun hb hc=>?_)<;>first|exact hc.elim|(exfalso;omega)|conv=>whnf)|(refine gqs ?_;conv=>whnf)|(refine yt ?_;conv=>whnf)|exact⟨_,.keep rfl rfl⟩|fail
  refine lp [8] (fun q:Nat=>[.i .i64 q]) (fun q=>[(9,.row none 1 4096 fun r=>[.i .i64 (tyR f q r)]),(1,bx f)]) (fun q=>q<=f.params.length) (fun q=>f.params.length-q) 0 (Nat.zero_le _) ?_ fun q hq=>?_
  ·refine eP [] [] ?_ ?_<;>repeat' first|exact eN|refine And.intro ?_ ?_
   intro j hj
   show[AV.i .i64 (sufV (tyC f j) (Code f).length (Code f).length)]=[AV.i .i64 (tyR f 0 j)]
   rw[e0]
   unfold tyR
   rw[if_neg (Nat.not_lt_zero _)]
  conv=>whnf
  repeat' first|(refine iG (fun hb hc=>?_) (fun hb hc=>?_)<;>first|exact hc.elim|(exfalso;omega)|conv=>whnf)|(refine gqs ?_;conv=>whnf)|(refine yt ?_;conv=>whnf)|exact⟨_,.keep rfl rfl⟩|fail
  ·refine .mk (q+1) (by omega) (by omega) ?_
   refine eP [] [] ?_ ?_<;>repeat' first|exact eN|refine And.intro ?_ ?_
   intro j hj
   show setF (fun r=>[AV.i .i64 (tyR f q r)]) (addZ 0 (q:Int).toNat) [AV.i .i64 (f.params.getD q Enc.d)] j=[AV.i .i64 (tyR f (q+1) j)]
   unfold setF tyR
   rw[addZ_eq,Int.toNat_natCast,Nat.zero_add]
   by_cases e:j=q
   ·rw[if_pos e,if_pos (by omega),e]
   ·rw[if_neg e]
    show[AV.i .i64 (if j<q then f.params.getD j Enc.d else tyM f (Code f).length j)]=_
    by_cases e2:j<q
    ·rw[if_pos e2,if_pos (by omega)]
    ·rw[if_neg e2,if_neg (by omega)]
  ·have hge:f.params.length<=q\/4096<=q:=by omega
   refine⟨_,.freeze (N:=4096) (by rw[lk_cons,if_pos rfl]) (by decide) (by rw[TypesL_len];rfl) (fun x hx=>?_) rfl⟩
   rw[TypesL_len] at hx
   show[AV.i .i64 (tyR f q x)]=[AV.i .i64 ((TypesL f).getD x Enc.d)]
   rw[<-types_eq f x hx]
   unfold tyR
   by_cases e2:x<q
   ·rw[if_pos e2]
    by_cases e3:x<f.params.length
    ·rw[if_pos e3]
    ·exfalso;omega
   ·rw[if_neg e2,if_neg (by omega)]
theorem VerifyChecks_S (m:ModE) (hm:siz m<=1048576) (hr:Rng.rng m):ASpec Tryz.prog 3 [eS m] (.b true) []:=by
 have h2:siz m<4294967296:=by omega
 obtain⟨R,hR⟩: ∃R:FnE->List Bool,∀f,isRG f (-1) (R f):=⟨fun f=>Classical.choose (isRG_ex f (-1)),fun f=>Classical.choose_spec (isRG_ex f (-1))⟩
 obtain⟨T,hT⟩: ∃T:FnE->List (List Bool),∀f,isTab f (T f):=⟨fun f=>Classical.choose (isTab_ex f),fun f=>Classical.choose_spec (isTab_ex f)⟩
 refine ASpec.enter TYok mixed Tryz.func3 rfl Tryz.call3 Tryz.ntmps3 rfl (rs:=[.tmp 2]) rfl (nodupB_ok rfl) (Clo.one rfl) (keep:=[0,1,2,3,4,5,6]) ?_;conv=>whnf
 repeat' first|(refine iG (fun hb hc=>?_) (fun hb hc=>?_)<;>first|exact hc.elim|(exfalso;omega)|conv=>whnf)|(refine gqs ?_;conv=>whnf)|(refine gqc (x:=fun _=>lives8_S) (k:= ?_);conv=>whnf)|(refine gqc (x:=fun _=>Long8_S m h2) (k:= ?_);conv=>whnf)|(refine gqc (x:=fun _=>Copy_S m h2) (k:= ?_);conv=>whnf)|(refine gqc (x:=fun _=>check_S m R T hR hT h2 (.of hr)) (k:= ?_);conv=>whnf)|(refine gqc (x:=fun _=>Check_S m R T hR hT h2 (fun b i=>rngA_C1 (rngA_f hr b) i)) (k:= ?_);conv=>whnf)|(refine gqc (x:=fun _=>Same_S m m h2) (k:= ?_);conv=>whnf)|(refine yt ?_;conv=>whnf)|exact⟨_,.keep rfl rfl⟩|fail
 ·simp at hb
 ·exact⟨_,.keep (congrArg AV.b (by simp only[decide_true,Bool.and_self];rfl)) rfl⟩
theorem VerifyTypes_S (f:FnE) (hm:siz f<=1048576) (hr:Rng.rng f):ASpec Tryz.prog 4 [eS f] (.b true) []:=by
 have h2:siz f<4294967296:=by omega
 have h:=Few_S ⟨[],[],[f]⟩ 3000 (by show(0+0+(0+1+(siz f+0)))<_;omega)
 have hi:=Ints_S (TypesL f) (TypesL f) (by rw[TypesL_len];decide)
 refine ASpec.enter TYok mixed Tryz.func4 rfl Tryz.call4 Tryz.ntmps4 rfl (rs:=[.tmp 2]) rfl (nodupB_ok rfl) (Clo.one rfl) (keep:=[0,1,2]) ?_;conv=>whnf
 repeat' first|(refine iG (fun hb hc=>?_) (fun hb hc=>?_)<;>first|exact hc.elim|(exfalso;omega)|conv=>whnf)|(refine gqs ?_;conv=>whnf)|(refine gqc (x:=fun _=>lives8_S) (k:= ?_);conv=>whnf)|((first|refine cK (fun _=>h.weak (by repeat' first|exact trivial|exact rfl|refine And.intro ?_ ?_|refine wkrow1 ?_|exact fun i _=>wkInt _|exact fun i _=>wkBlk _)) ?_|((try(refine CallW.lent ?_;(conv=>whnf);repeat(refine yb ?_;(conv=>whnf))));refine cL (fun _=>h.weak (by repeat' first|exact trivial|exact rfl|refine And.intro ?_ ?_|refine wkrow1 ?_|exact fun i _=>wkInt _|exact fun i _=>wkBlk _)) ?_));conv=>whnf)|(refine gqc (x:=fun _=>types_S f h2 (fun b i=>inIA_of (rngA_iAt hr b i).2.1)) (k:= ?_);conv=>whnf)|(refine gqc (x:=fun _=>types8_S f h2) (k:= ?_);conv=>whnf)|(refine gqc (x:=fun _=>hi) (k:= ?_);conv=>whnf)|(refine yt ?_;conv=>whnf)|exact⟨_,.keep rfl rfl⟩|fail
 ·simp at hb
 ·exact⟨_,.keep (congrArg AV.b (decide_eq_true rfl)) rfl⟩
theorem doorOwn:ownKnob Tryz.prog.godebug=none:=by kernel_rfl
theorem doorLaidOut:laidOutB Tryz.prog=true:=by kernel_rfl
def doorLaid:List (String×DataW Unit):=[("math/bits.deBruijn32tab",Rows.laid_math_bits_deBruijn32tab),("math/bits.deBruijn64tab",Rows.laid_math_bits_deBruijn64tab),("internal/strconv.uint64pow10",Rows.laid_internal_strconv_uint64pow10),("strconv.ErrRange",Rows.laid_strconv_ErrRange),("strconv.ErrSyntax",Rows.laid_strconv_ErrSyntax),("unicode.White_Space",Rows.laid_unicode_White_Space),("strings.asciiSpace",Rows.laid_strings_asciiSpace)]
theorem vars_of {w:World} (h:laidMetH Tryz.prog doorLaid w):Vr w:=by
 have hL:laidMet Tryz.prog doorLaid w:=h
 have e1:(Rows.laid_internal_strconv_uint64pow10:DataW Unit)=Lib.tabData .u64 Lib.pow10Tab:=by kernel_rfl
 have e2:(Rows.laid_strings_asciiSpace:DataW Unit)=Lib.tabData .u8 Lib.asciiSpaceTab:=by kernel_rfl
 unfold doorLaid at hL
 rw[e1,e2] at hL
 refine⟨?_,?_⟩
 ·exact Lib.tabIs_of_head (g:=5) (by kernel_rfl) (by kernel_rfl) Tryz.underlying223 Tryz.underlying54 (by kernel_rfl) (by kernel_rfl) hL.tail.tail
 ·exact Lib.tabIs_of_head (g:=1) (by kernel_rfl) (by kernel_rfl) Tryz.underlying201 Tryz.underlying5 (by kernel_rfl) (by kernel_rfl) hL.tail.tail.tail.tail.tail.tail
theorem vars_stay {w:World} (h:Vr w):Rob allS w Vr:=fun w' hs hq=>by
 have hb: ∀ {g:Nat} {n:String} {k:IntKind} {zs:List Int},Tryz.prog.globalNamed n=some g->Lib.TabIs Tryz.prog w n k zs->Lib.TabIs Tryz.prog w' n k zs:=fun {g n k zs} hg ht=>by
  unfold Lib.TabIs World.var? at ht⊢
  rw[hg,Option.bind_some] at ht⊢
  have hlt:g<w.heap.size:=by
   rcases Nat.lt_or_ge g w.heap.size with q|q
   ·exact q
   ·rw[Array.getElem?_eq_none q] at ht;cases ht
  rw[hq g hlt trivial];exact ht
 exact⟨hb (g:=5) (by kernel_rfl) h.1,hb (g:=1) (by kernel_rfl) h.2⟩
theorem laid_met (os:Go.Os) (args:Array Value):laidMet Tryz.prog doorLaid ((World.laidAll Tryz.prog os doorLaid).forCall (fun _ _=>0) ⟨#[],args,[]⟩).memory:=
 laidMet_laidAll args (by kernel_rfl) (by kernel_rfl)
end Go.Proofs.YtnfdieeaelhpbaaGreatDoor
