/- The engine and the contracts of the functions that the statement reaches, part 4. -/
import Derived.Test.YtjfdbmfcnhjfoaaGreatMc
set_option linter.unusedVariables false
set_option linter.unusedSimpArgs false
set_option maxRecDepth 100000
set_option maxHeartbeats 8000000
namespace Go.Proofs.YtjfdbmfcnhjfoaaGreat
open Go.RowKit
def pinO (pin : Nat -> Nat) : Os -> Os
 | []=>[]
 | (i,.box _ q cs) :: o=>(i,.box (some (pin i)) q cs) :: pinO pin o
 | (i,.row q e n g) :: o=>(i,.row q e n g) :: pinO pin o
 | (i,.tree e n g) :: o=>(i,.tree e n g) :: pinO pin o
 | (i,.mp e n g fF) :: o=>(i,.mp e (pin i + 1) g fF) :: pinO pin o
def pinN (pin : Nat -> Nat) (os : Os) : Os -> Os
 | []=>[]
 | (i,.box _ q cs) :: o=>match lk os i with
  | some (.box _ _ _)=>(i,.box (some (pin i)) q cs) :: pinN pin os o
  | _=>(i,.box none q cs) :: pinN pin os o
 | (i,.row q e n g) :: o=>(i,.row q e n g) :: pinN pin os o
 | (i,.tree e n g) :: o=>(i,.tree e n g) :: pinN pin os o
 | (i,.mp e n g fF) :: o=>match lk os i with
  | some (.mp _ _ _ _)=>(i,.mp e (pin i + 1) g fF) :: pinN pin os o
  | _=>(i,.mp e 0 g fF) :: pinN pin os o
theorem pinO_keys {pin : Nat -> Nat} : ∀ {o : Os},(pinO pin o).map (·.1) = o.map (·.1)
 | []=>rfl
 | (i,.box _ _ cs) :: o=>by simp only [pinO,List.map_cons,pinO_keys]
 | (i,.row q e n g) :: o=>by simp only [pinO,List.map_cons,pinO_keys]
 | (i,.tree e n g) :: o=>by simp only [pinO,List.map_cons,pinO_keys]
 | (i,.mp e n g fF) :: o=>by simp only [pinO,List.map_cons,pinO_keys]
theorem pinN_keys {pin : Nat -> Nat} {os : Os} : ∀ {o : Os},(pinN pin os o).map (·.1) = o.map (·.1)
 | []=>rfl
 | (i,.box _ _ cs) :: o=>by
  simp only [pinN]
  split <;> simp only [List.map_cons,pinN_keys]
 | (i,.row q e n g) :: o=>by simp only [pinN,List.map_cons,pinN_keys]
 | (i,.tree e n g) :: o=>by simp only [pinN,List.map_cons,pinN_keys]
 | (i,.mp e n g fF) :: o=>by
  simp only [pinN]
  split <;> simp only [List.map_cons,pinN_keys]
theorem lk_pinO {pin : Nat -> Nat} {i : Nat} {ob : Obj} : ∀ {o : Os},lk (pinO pin o) i = some ob -> (∃ p q cs,lk o i = some (.box p q cs) /\ ob = .box (some (pin i)) q cs) \/ (∃ Φ k n F,lk o i = some (.mp Φ k n F) /\ ob = .mp Φ (pin i + 1) n F) \/ (lk o i = some ob /\ isBox ob = false)
 | [],h=>by simp [pinO,lk] at h
 | (j,.box p q cs) :: o,h=>by
  simp only [pinO] at h
  rw [lk_cons] at h ⊢
  split at h
  ·rename_i e; cases h; subst e; rw [if_pos rfl]; exact .inl ⟨p,q,cs,rfl,rfl⟩
  ·rename_i e; rw [if_neg e]; exact lk_pinO h
 | (j,.row q e n g) :: o,h=>by
  simp only [pinO] at h
  rw [lk_cons] at h ⊢
  split at h
  ·rename_i e; cases h; subst e; rw [if_pos rfl]; exact .inr (.inr ⟨rfl,rfl⟩)
  ·rename_i e; rw [if_neg e]; exact lk_pinO h
 | (j,.tree e n g) :: o,h=>by
  simp only [pinO] at h
  rw [lk_cons] at h ⊢
  split at h
  ·rename_i e; cases h; subst e; rw [if_pos rfl]; exact .inr (.inr ⟨rfl,rfl⟩)
  ·rename_i e; rw [if_neg e]; exact lk_pinO h
 | (j,.mp e n g fF) :: o,h=>by
  simp only [pinO] at h
  rw [lk_cons] at h ⊢
  split at h
  ·rename_i e'; cases h; subst e'; rw [if_pos rfl]; exact .inr (.inl ⟨e,n,g,fF,rfl,rfl⟩)
  ·rename_i e; rw [if_neg e]; exact lk_pinO h
theorem lk_pinN {pin : Nat -> Nat} {os : Os} {i : Nat} {ob : Obj} : ∀ {o : Os},lk o i = some ob -> (∃ p q cs,ob = .box p q cs /\ ((∃ p' q' cs',lk os i = some (.box p' q' cs')) /\ lk (pinN pin os o) i = some (.box (some (pin i)) q cs) \/ (∀ p' q' cs',lk os i ≠ some (.box p' q' cs')) /\ lk (pinN pin os o) i = some (.box none q cs))) \/
  (∃ Φ k n F,ob = .mp Φ k n F /\ ((∃ a b c d,lk os i = some (.mp a b c d)) /\ lk (pinN pin os o) i = some (.mp Φ (pin i + 1) n F) \/ (∀ a b c d,lk os i ≠ some (.mp a b c d)) /\ lk (pinN pin os o) i = some (.mp Φ 0 n F))) \/ ((isBox ob = false /\ ∀ a b c d,ob ≠ .mp a b c d) /\ lk (pinN pin os o) i = some ob)
 | [],h=>by simp [lk] at h
 | (j,.box p q cs) :: o,h=>by
  rw [lk_cons] at h
  split at h
  ·rename_i e; cases h; subst e
   refine .inl ⟨p,q,cs,rfl,?_⟩
   simp only [pinN]
   split
   ·rename_i p' q' cs' hq; exact .inl ⟨⟨p',q',cs',hq⟩,by rw [lk_cons,if_pos rfl]⟩
   ·rename_i hq; exact .inr ⟨fun p' q' cs' e=>hq p' q' cs' e,by rw [lk_cons,if_pos rfl]⟩
  ·rename_i e
   have := lk_pinN (pin := pin) (os := os) h
   simp only [pinN]
   split <;> (rw [lk_cons,if_neg e]; exact this)
 | (j,.row q e n g) :: o,h=>by
  rw [lk_cons] at h
  split at h
  ·rename_i e; cases h; subst e
   exact .inr (.inr ⟨⟨rfl,fun _ _ _ _ h=>nomatch h⟩,by simp only [pinN]; rw [lk_cons,if_pos rfl]⟩)
  ·rename_i e
   have := lk_pinN (pin := pin) (os := os) h
   simp only [pinN]
   rw [lk_cons,if_neg e]; exact this
 | (j,.tree e n g) :: o,h=>by
  rw [lk_cons] at h
  split at h
  ·rename_i e; cases h; subst e
   exact .inr (.inr ⟨⟨rfl,fun _ _ _ _ h=>nomatch h⟩,by simp only [pinN]; rw [lk_cons,if_pos rfl]⟩)
  ·rename_i e
   have := lk_pinN (pin := pin) (os := os) h
   simp only [pinN]
   rw [lk_cons,if_neg e]; exact this
 | (j,.mp Φ k n F) :: o,h=>by
  rw [lk_cons] at h
  split at h
  ·rename_i e; cases h; subst e
   refine .inr (.inl ⟨Φ,k,n,F,rfl,?_⟩)
   simp only [pinN]
   split
   ·rename_i a b c d hq; exact .inl ⟨⟨a,b,c,d,hq⟩,by rw [lk_cons,if_pos rfl]⟩
   ·rename_i hq; exact .inr ⟨fun a b c d e=>hq a b c d e,by rw [lk_cons,if_pos rfl]⟩
  ·rename_i e
   have := lk_pinN (pin := pin) (os := os) h
   simp only [pinN]
   split <;> (rw [lk_cons,if_neg e]; exact this)
def fixB (no : Os) : Os -> Bool
 | []=>true
 | (_,.box _ _ _) :: o=>fixB no o
 | (i,.mp _ _ _ _) :: o=>(match lk no i with
  | some (.mp _ _ _ _)=>true
  | none=>true
  | _=>false) && fixB no o
 | (_,.row _ _ _ _) :: _=>false
 | (_,.tree _ _ _) :: _=>false
theorem fixB_at {no : Os} {i : Nat} {ob : Obj} : ∀ {o : Os},fixB no o = true -> lk o i = some ob -> isBox ob = true \/ ((∃ a b c d,ob = .mp a b c d) /\ ∀ ob',lk no i = some ob' -> ∃ a b c d,ob' = .mp a b c d)
 | [],_,h=>by simp [lk] at h
 | (j,.box p q cs) :: o,hk,h=>by
  rw [lk_cons] at h
  split at h
  ·cases h; exact .inl rfl
  ·simp only [fixB] at hk; exact fixB_at hk h
 | (j,.mp a b c d) :: o,hk,h=>by
  simp only [fixB,Bool.and_eq_true] at hk
  rw [lk_cons] at h
  split at h
  ·rename_i e; cases h; subst e
   refine .inr ⟨⟨a,b,c,d,rfl⟩,fun ob' h'=>?_⟩
   have := hk.1
   rw [h'] at this
   cases ob' with
   | mp a b c d=>exact ⟨a,b,c,d,rfl⟩
   | box _ _ _=>cases this
   | row _ _ _ _=>cases this
   | tree _ _ _=>cases this
  ·exact fixB_at hk.2 h
 | (j,.row q e n g) :: o,hk,h=>nomatch hk
 | (j,.tree e n g) :: o,hk,h=>nomatch hk
def okNo (os : Os) : Os -> Bool
 | []=>true
 | (_,.box none _ _) :: o=>okNo os o
 | (_,.box (some _) _ _) :: _=>false
 | (i,.row _ _ _ _) :: o=>(match lk os i with
  | some (.box _ _ _)=>false
  | _=>true) && okNo os o
 | (i,.tree _ _ _) :: o=>(match lk os i with
  | some (.box _ _ _)=>false
  | _=>true) && okNo os o
 | (i,.mp _ k _ _) :: o=>(match lk os i,Nat.beq k 0 with
  | some (.box _ _ _),_=>false
  | _,b=>b) && okNo os o
theorem okNo_at {os : Os} {i : Nat} {ob : Obj} : ∀ {o : Os},okNo os o = true -> lk o i = some ob -> (∃ q cs,ob = .box none q cs) \/ (isBox ob = false /\ (∀ a b c d,ob = .mp a b c d -> b = 0) /\ ∀ p q cs,lk os i ≠ some (.box p q cs))
 | [],_,h=>by simp [lk] at h
 | (j,.box none q cs) :: o,hk,h=>by
  rw [lk_cons] at h
  split at h
  ·cases h; exact .inl ⟨_,_,rfl⟩
  ·simp only [okNo] at hk; exact okNo_at hk h
 | (j,.box (some p) q cs) :: o,hk,h=>nomatch hk
 | (j,.row q e n g) :: o,hk,h=>by
  simp only [okNo,Bool.and_eq_true] at hk
  rw [lk_cons] at h
  split at h
  ·rename_i e; cases h; subst e
   refine .inr ⟨rfl,(fun _ _ _ _ h=>nomatch h),fun p q cs e=>?_⟩
   have := hk.1
   rw [e] at this; cases this
  ·exact okNo_at hk.2 h
 | (j,.tree e n g) :: o,hk,h=>by
  simp only [okNo,Bool.and_eq_true] at hk
  rw [lk_cons] at h
  split at h
  ·rename_i e; cases h; subst e
   refine .inr ⟨rfl,(fun _ _ _ _ h=>nomatch h),fun p q cs e=>?_⟩
   have := hk.1
   rw [e] at this; cases this
  ·exact okNo_at hk.2 h
 | (j,.mp e n g fF) :: o,hk,h=>by
  simp only [okNo,Bool.and_eq_true] at hk
  rw [lk_cons] at h
  split at h
  ·rename_i e; cases h; subst e
   have h1 := hk.1
   split at h1
   ·cases h1
   ·rename_i hq
    refine .inr ⟨rfl,(fun a b c d e=>?_),fun p q cs e=>hq p q cs e⟩
    cases e; exact Nat.eq_of_beq_eq_true h1
  ·exact okNo_at hk.2 h
def RetM (T : TT) (rs : List ResultVar) (pin : Nat -> Nat) (os : Os) (s : Sl) (o : Os) (r : AV) (no : Os) : Prop :=
 retA T s o rs fun v=>∃ ρ nl,mat ρ nl v r /\ entO ρ nl o (pinN pin os no) /\ (nodupB (srcs ρ nl (pinN pin os no)) && nodupB (keysN no)) = true
def endM (T : TT) (rs : List ResultVar) (pin : Nat -> Nat) (os : Os) (r : AV) (no : Os) : Ex -> Sl -> Os -> Prop
 | .r,s,o=>RetM T rs pin os s o r no
 | .n,s,o=>RetM T rs pin os s o r no
 | .x _,_,_=>False
theorem end_key {fx : Bool} {os no : Os} {v r : AV} {m : Nat} {ds : List Deferred} {S : Nat -> Prop} {β β1 : Nat -> Wt} {w w' : World} {hvr : Rob S w Vr} {hap : ∀ k,S k -> k ∉ feet os β} {s' : Sl} {o' : Os} {a : Act} {u : Value} {ρ : List (Nat × Nat)} {nl : List Nat} (hob : OB S β w os) (hok : okNo os no = true) (hfx : (!fx || fixB no os) = true)
  (hg : Gam ⟨m,S,w,feet os β,hvr,hap,ds⟩ [] s' o' β1 a w') (hmat : mat ρ nl v r) (hent : entO ρ nl o' (pinN (fun i=>(β i).foot.headD 0) os no)) (hn : (nodupB (srcs ρ nl (pinN (fun i=>(β i).foot.headD 0) os no)) && nodupB (keysN no)) = true) (hrel : rel (Env.good ⟨m,S,w,feet os β,hvr,hap,ds⟩ o' β1) β1 w' v u) :
  ∃ β',BelowX (feet os β) w w' /\ (∀ id ob,lk no id = some ob -> orel (fun k=>(S k \/ w.heap.size <= k \/ k ∈ feet os β) /\ k ∉ feet no β') β' w' (β' id) ob) /\ (∀ k ∈ feet no β',(w.heap.size <= k \/ k ∈ feet os β) /\ k < w'.heap.size) /\ (feet no β').Nodup /\ (no.map (·.1)).Nodup /\
    (∀ id ob,lk os id = some ob -> (fx || isBox ob) = true -> (lk no id).isSome = true -> β' id = β id) /\ rel (fun k=>(S k \/ w.heap.size <= k \/ k ∈ feet os β) /\ k ∉ feet no β') β' w' r u := by
 let pin : Nat -> Nat := fun i=>(β i).foot.headD 0
 have hβ : ∀ i p q cs,lk os i = some (.box p q cs) -> β i = ⟨some ⟨pin i,0,none⟩,0,[pin i],true,sub0⟩ := fun i p q cs hl=>by
  obtain ⟨b,us,ty,h1,h2,h3,h4,h5,h6,h7⟩ := hob.objs i _ hl
  have hp : pin i = b := by show (β i).foot.headD 0 = b; rw [h2]; rfl
  rw [hp]
  cases hq : β i with
  | mk a cap foot ok sub=>rw [hq] at h1 h2 h5 h6; simp only at h1 h2 h5 h6; rw [h1,h2,h5,h6.1,h6.2]
 have hβm : ∀ i a b c d,lk os i = some (.mp a b c d) -> β i = ⟨some ⟨pin i,0,none⟩,0,[pin i],true,sub0⟩ := fun i a b c d hl=>by
  obtain ⟨⟨h1,h2,h3⟩,b,x,h4,h5,_⟩ := hob.objs i _ hl
  have hp : pin i = b := by show (β i).foot.headD 0 = b; rw [h5]; rfl
  rw [hp]
  cases hq : β i with
  | mk a cap foot ok sub=>rw [hq] at h1 h2 h3 h4 h5; simp only at h1 h2 h3 h4 h5; rw [h1,h2,h3,h4,h5]
 simp only [Bool.and_eq_true] at hn
 have hfn : feet (pinN pin os no) (remap ρ nl β1) = feet no (remap ρ nl β1) := feet_keys pinN_keys
 obtain ⟨hf1,hf2⟩ := entO_feet hg.nodup hg.keys hent (nodupB_ok hn.1)
 rw [hfn] at hf1 hf2
 have hsub : ∀ k ∈ feet no (remap ρ nl β1),k ∈ feet o' β1 := fun k hk=>by
  obtain ⟨i,_,hki,hi⟩ := hf2 k hk
  obtain ⟨ob,hob⟩ := Option.isSome_iff_exists.1 hi
  exact foot_feet hob k hki
 have hc : Comp (Env.good ⟨m,S,w,feet os β,hvr,hap,ds⟩ o' β1) w' (fun k=>(S k \/ w.heap.size <= k \/ k ∈ feet os β) /\ k ∉ feet no (remap ρ nl β1)) w' := ⟨Nat.le_refl _,fun k _ hg=>⟨⟨hg.1,fun q=>hg.2 (hsub k q)⟩,rfl⟩⟩
 have hob' : ∀ id ob',lk (pinN pin os no) id = some ob' -> orel (fun k=>(S k \/ w.heap.size <= k \/ k ∈ feet os β) /\ k ∉ feet no (remap ρ nl β1)) (remap ρ nl β1) w' (remap ρ nl β1 id) ob' := fun id ob' hl=>by
  rcases entO_at hent hl with ⟨hm,⟨q,e,g,rfl⟩|⟨e,g,rfl⟩⟩|⟨hm,ob,h1,h2⟩
  ·unfold remap
   rw [hm]
   exact ⟨Nat.le_refl _,Nat.zero_le _,.inl ⟨rfl,rfl,rfl⟩⟩
  ·unfold remap
   rw [hm]
   exact orel_nilT
  ·have e1 : remap ρ nl β1 id = β1 (rho ρ id) := by unfold remap; rw [hm]; rfl
   rw [e1]
   exact matO_ok hc ob ob' h2 (hg.objs _ _ h1)
 refine ⟨remap ρ nl β1,hg.below,fun id ob hl=>?_,fun k hk=>⟨(hg.new k (hsub k hk)).1,(hg.new k (hsub k hk)).2⟩,hf1,by rw [<- keysN_eq]; exact nodupB_ok hn.2,fun id ob hl hbx hs=>?_,mat_ok hc _ _ _ hmat hrel⟩
 ·rcases lk_pinN (pin := pin) (os := os) hl with ⟨p,q0,cs,rfl,⟨_,h2⟩|⟨_,h2⟩⟩|⟨Φ,k0,n0,F0,rfl,⟨_,h2⟩|⟨_,h2⟩⟩|⟨_,h2⟩
  ·obtain ⟨b,us,ty,g1,g2,g3,g4,g5,g6,g7⟩ := hob' _ _ h2
   cases p with
   | none=>exact ⟨b,us,ty,g1,g2,g3,g4,g5,g6,(fun _ h=>nomatch h),g7.2⟩
   | some q=>rcases okNo_at hok hl with ⟨_,_,e⟩|⟨e,_⟩ <;> cases e
  ·obtain ⟨b,us,ty,g1,g2,g3,g4,g5,g6,g7⟩ := hob' _ _ h2
   cases p with
   | none=>exact ⟨b,us,ty,g1,g2,g3,g4,g5,g6,(fun _ h=>nomatch h),g7.2⟩
   | some q=>rcases okNo_at hok hl with ⟨_,_,e⟩|⟨e,_⟩ <;> cases e
  ·have hk0 : k0 = 0 := by
    rcases okNo_at hok hl with ⟨_,_,e⟩|⟨_,e,_⟩
    ·cases e
    ·exact e _ _ _ _ rfl
   subst hk0
   obtain ⟨g1,b,x,g2,g3,g4,g5,g6⟩ := hob' _ _ h2
   exact ⟨g1,b,x,g2,g3,g4,g5,fun _ h=>nomatch h⟩
  ·have hk0 : k0 = 0 := by
    rcases okNo_at hok hl with ⟨_,_,e⟩|⟨_,e,_⟩
    ·cases e
    ·exact e _ _ _ _ rfl
   subst hk0
   exact hob' _ _ h2
  ·exact hob' _ _ h2
 ·obtain ⟨ob',hob2⟩ := Option.isSome_iff_exists.1 hs
  have hcase : isBox ob = true \/ ((∃ a b c d,ob = .mp a b c d) /\ ∀ ob',lk no id = some ob' -> ∃ a b c d,ob' = .mp a b c d) := by
   cases hbb : isBox ob with
   | true=>exact .inl rfl
   | false =>
    rw [hbb,Bool.or_false] at hbx
    rw [hbx] at hfx
    have := fixB_at (show fixB no os = true from hfx) hl
    rw [hbb] at this
    exact .inr (this.resolve_left (fun h=>nomatch h))
  rcases hcase with hbx|⟨⟨a1,a2,a3,a4,rfl⟩,hmp⟩
  ·cases ob with
   | row q e n g=>cases hbx
   | tree e n g=>cases hbx
   | mp _ _ _ _=>cases hbx
   | box p q0 cs =>
    rcases lk_pinN (pin := pin) (os := os) hob2 with ⟨p',q',cs',rfl,⟨_,h2⟩|⟨h1,h2⟩⟩|⟨Φ,k0,n0,F0,rfl,_⟩|⟨h1,h2⟩
    ·obtain ⟨b,us,ty,g1,g2,g3,g4,g5,g6,g7⟩ := hob' _ _ h2
     rw [hβ _ _ _ _ hl]
     have hb := g7.1 _ rfl
     subst hb
     cases hq : remap ρ nl β1 id with
     | mk a cap foot ok sub=>rw [hq] at g1 g2 g5 g6; simp only at g1 g2 g5 g6; rw [g1,g2,g5,g6.1,g6.2]
    ·exact absurd hl (h1 _ _ _)
    ·rcases okNo_at hok hob2 with ⟨_,_,e⟩|⟨_,_,e⟩
     ·cases e
     ·exact absurd hl (e _ _ _)
    ·rcases okNo_at hok hob2 with ⟨_,_,rfl⟩|⟨_,_,e⟩
     ·cases h1.1
     ·exact absurd hl (e _ _ _)
  ·obtain ⟨b1,b2,b3,b4,rfl⟩ := hmp _ hob2
   rcases lk_pinN (pin := pin) (os := os) hob2 with ⟨p',q',cs',e,_⟩|⟨Φ,k0,n0,F0,e,⟨_,h2⟩|⟨h1,_⟩⟩|⟨h1,_⟩
   ·cases e
   ·obtain ⟨⟨g1,g2,g3⟩,b,x,g4,g5,_,_,g6⟩ := hob' _ _ h2
    rw [hβm _ _ _ _ _ hl]
    have hb := g6 _ rfl
    subst hb
    cases hq : remap ρ nl β1 id with
    | mk a cap foot ok sub=>rw [hq] at g1 g2 g3 g4 g5; simp only at g1 g2 g3 g4 g5; rw [g1,g2,g3,g4,g5]
   ·exact absurd hl (h1 _ _ _ _)
   ·exact absurd rfl (h1.2 _ _ _ _)
theorem start_gam {args : List AV} {os : Os} {n : Nat} {ds : List Deferred} {S : Nat -> Prop} {β : Nat -> Wt} {w : World} {hvr : Rob S w Vr} {hap : ∀ k,S k -> k ∉ feet os β} {us : List Value} {a : Act} (hob : OB S β w os) (hus : rels S β w args us) (hlen : args.length <= n) (ha : a.tmps = us.toArray ++ Array.replicate (n - us.toArray.size) undef) (hd : a.defers = ds) :
  Gam ⟨n,S,w,feet os β,hvr,hap,ds⟩ [] (startA args 0) (pinO (fun i=>(β i).foot.headD 0) os) β a w := by
 let pin : Nat -> Nat := fun i=>(β i).foot.headD 0
 have hl := rels_len hus
 have hfe : feet (pinO pin os) β = feet os β := feet_keys pinO_keys
 refine ⟨by rw [ha]; simp; omega,hd,TbOk.nil,fun d c v hl'=>?_,fun id ob hl'=>?_,BelowX.refl _ _,fun k hk=>?_,by rw [hfe]; exact hob.nodup,by rw [pinO_keys]; exact hob.keys⟩
 ·obtain ⟨rfl,_,h3⟩ := lk_startA hl'
  obtain ⟨u,e1,e2⟩ := rels_get hus h3
  refine ⟨u,?_,fun _=>?_⟩
  ·have hd : d < us.length := (List.getElem?_eq_some_iff.1 (by simpa using e1)).1
   rw [tg_zero TbOk.nil]
   show a.tmps[d]? = some u
   rw [ha,Array.getElem?_append_left (by simpa using hd)]
   simpa using e1
  ·refine rel_mono ?_ _ _ e2
   refine ⟨Nat.le_refl _,fun k hk hs=>⟨⟨.inl hs,?_⟩,rfl⟩⟩
   rw [hfe]; exact hap k hs
 ·have hc2 : Comp S w (Env.good ⟨n,S,w,feet os β,hvr,hap,ds⟩ (pinO pin os) β) w := ⟨Nat.le_refl _,fun k hk hs=>⟨⟨.inl hs,by rw [hfe]; exact hap k hs⟩,rfl⟩⟩
  rcases lk_pinO hl' with ⟨p,q0,cs,h1,rfl⟩|⟨Φ,k0,n0,F0,h1,rfl⟩|⟨h1,h2⟩
  ·obtain ⟨b,us,ty,g1,g2,g3,g4,g5,g6,g7⟩ := hob.objs _ _ h1
   have hp : pin id = b := by show (β id).foot.headD 0 = b; rw [g2]; rfl
   exact ⟨b,us,ty,g1,g2,g3,rels_mono hc2 _ _ g4,g5,g6,(fun b0 e=>by cases e; exact hp.symm),g7.2⟩
  ·obtain ⟨g1,b,x,g2,g3,g4,g5,g6⟩ := hob.objs _ _ h1
   have hp : pin id = b := by show (β id).foot.headD 0 = b; rw [g3]; rfl
   exact ⟨g1,b,x,g2,g3,g4,g5,fun b0 e=>hp.symm.trans (Nat.succ.inj e)⟩
  ·exact orel_mono hc2 (fun _ _=>rfl) (hob.objs _ _ h1)
 ·rw [hfe] at hk; exact ⟨.inr hk,hob.lt k hk⟩
theorem ret_key {fx : Bool} {P : Program} {T : TT} {fn : Func} {rs : List ResultVar} {os no : Os} {r : AV} {m : Nat} {ds : List Deferred} {S : Nat -> Prop} {β β1 : Nat -> Wt} {w w' : World} {hvr : Rob S w Vr} {hap : ∀ k,S k -> k ∉ feet os β} {s' : Sl} {o' : Os} {a : Act} (hT : TTok P T) (hr : fn.results = rs.toArray) (hob : OB S β w os) (hok : okNo os no = true) (hfx : (!fx || fixB no os) = true)
  (hg : Gam ⟨m,S,w,feet os β,hvr,hap,ds⟩ [] s' o' β1 a w') (hR : RetM T rs (fun i=>(β i).foot.headD 0) os s' o' r no) :
  ∃ u β',(results fn a.tmps).run P w' = .ok u w' /\ BelowX (feet os β) w w' /\ (∀ id ob,lk no id = some ob -> orel (fun k=>(S k \/ w.heap.size <= k \/ k ∈ feet os β) /\ k ∉ feet no β') β' w' (β' id) ob) /\ (∀ k ∈ feet no β',(w.heap.size <= k \/ k ∈ feet os β) /\ k < w'.heap.size) /\ (feet no β').Nodup /\ (no.map (·.1)).Nodup /\
    (∀ id ob,lk os id = some ob -> (fx || isBox ob) = true -> (lk no id).isSome = true -> β' id = β id) /\ rel (fun k=>(S k \/ w.heap.size <= k \/ k ∈ feet os β) /\ k ∉ feet no β') β' w' r u := by
 obtain ⟨v,⟨ρ,nl,hmat,hent,hn⟩,hv⟩ := retA_ok (P := P) hT hr hR
 obtain ⟨u,hrun,hrel⟩ := hv _ β1 a w' hg
 obtain ⟨β',h1⟩ := end_key hob hok hfx hg hmat hent hn hrel
 exact ⟨u,β',hrun,h1⟩
theorem ASpecM.enter {fx : Bool} {P : Program} {T : TT} {n : Nat} {keep : List Nat} {f : FuncId} {fn : Func} {c : Code} {args : List AV} {os : Os} {r : AV} {no : Os} {rs : List ResultVar} (hT : TTok P T) (hm : P.follows .mixedOrders = true) (hf : P.funcs[f]? = some fn) (hb : fn.body = some c) (hcall : ∀ args w,(callFunc f args).run P w = .ok (.enter f args) w)
  (hnt : fn.ntmps = n) (hlen : Nat.ble args.length n = true) (hr : fn.results = rs.toArray) (hclo : Clo r no) (hok : okNo os no = true) (h : ∀ pin,runC P T n noZ keep c (startA args 0) (pinO pin os) (endM T rs pin os r no)) (hfx : (!fx || fixB no os) = true := by rfl) : ASpecF fx P f args os r no := by
 subst hnt
 refine ⟨hcall,hclo,fun S β w us hob hap hus hvr=>?_⟩
 have hlen := Nat.le_of_ble_eq_true hlen
 refine calls_of_wp hf hb (runC_ok (E := ⟨fn.ntmps,S,w,feet os β,hvr,hap,[]⟩) (Q := bodyPost P fn _) hT hm (h _) rfl noZ_ok (fun e s' o' hk' β1 a w' hg=>?_) β _ w (start_gam hob hus hlen rfl rfl))
 cases e with
 | n=>obtain ⟨u,β',h1,h2⟩ := ret_key hT hr hob hok hfx hg hk'; exact ⟨hg.defers,u,h1,u,β',rfl,h2⟩
 | r=>obtain ⟨u,β',h1,h2⟩ := ret_key hT hr hob hok hfx hg hk'; exact ⟨hg.defers,u,h1,u,β',rfl,h2⟩
 | x i=>cases hk'
def endT (T : TT) (rs : List ResultVar) (pin : Nat -> Nat) (os : Os) (t : Prop) (r : AV) (no : Os) : Ex -> Sl -> Os -> Prop
 | .r,s,o=>t /\ RetM T rs pin os s o r no
 | .n,s,o=>t /\ RetM T rs pin os s o r no
 | .x _,_,_=>False
def endZ (pin : Nat -> Nat) (os : Os) (t : Prop) (r : AV) (no : Os) (v : AV) (o : Os) : Prop := ¬t /\ ∃ ρ nl,mat ρ nl v r /\ entO ρ nl o (pinN pin os no) /\ (nodupB (srcs ρ nl (pinN pin os no)) && nodupB (keysN no)) = true
theorem ASpecO.enter {fx : Bool} {P : Program} {T : TT} {n : Nat} {keep : List Nat} {f : FuncId} {fn : Func} {c : Code} {args : List AV} {os : Os} {t : Prop} {r : AV} {no : Os} {v : AV} {no' : Os} {rs : List ResultVar} (hT : TTok P T) (hm : P.follows .mixedOrders = true) (hf : P.funcs[f]? = some fn) (hb : fn.body = some c) (hcall : ∀ args w,(callFunc f args).run P w = .ok (.enter f args) w)
  (hnt : fn.ntmps = n) (hlen : Nat.ble args.length n = true) (hr : fn.results = rs.toArray) (hclo : Clo r no) (hclo' : Clo v no') (hok : (okNo os no && okNo os no') = true) (h : ∀ pin,runC P T n (endZ pin os t v no') keep c (startA args 0) (pinO pin os) (endT T rs pin os t r no)) (hfx : (!fx || (fixB no os && fixB no' os)) = true := by rfl) : ASpecO fx P f args os t r no v no' := by
 subst hnt
 have hlen := Nat.le_of_ble_eq_true hlen
 rw [Bool.and_eq_true] at hok
 have hfx1 : (!fx || fixB no os) = true := by cases fx; rfl; exact (Bool.and_eq_true _ _ ▸ hfx : _ /\ _).1
 have hfx2 : (!fx || fixB no' os) = true := by cases fx; rfl; exact (Bool.and_eq_true _ _ ▸ hfx : _ /\ _).2
 refine ⟨fun ht=>⟨hcall,hclo,fun S β w us hob hap hus hvr=>?_⟩,fun ht=>⟨hcall,hclo',fun S β w us hob hap hus hvr=>?_⟩⟩
 ·refine calls_of_wp hf hb (runC_ok (E := ⟨fn.ntmps,S,w,feet os β,hvr,hap,[]⟩) (Q := bodyPost P fn _) hT hm (h _) rfl (fun v o hz=>absurd ht hz.1) (fun e s' o' hk' β1 a w' hg=>?_) β _ w (start_gam hob hus hlen rfl rfl))
  cases e with
  | n=>obtain ⟨u,β',h1,h2⟩ := ret_key hT hr hob hok.1 hfx1 hg hk'.2; exact ⟨hg.defers,u,h1,u,β',rfl,h2⟩
  | r=>obtain ⟨u,β',h1,h2⟩ := ret_key hT hr hob hok.1 hfx1 hg hk'.2; exact ⟨hg.defers,u,h1,u,β',rfl,h2⟩
  | x i=>cases hk'
 ·refine calls_of_wp hf hb (runC_ok (E := ⟨fn.ntmps,S,w,feet os β,hvr,hap,[]⟩) (Q := bodyPost P fn _) hT hm (h _) rfl (fun v o hz β1 a w' u hg hrel=>?_) (fun e s' o' hk' β1 a w' hg=>?_) β _ w (start_gam hob hus hlen rfl rfl))
  ·obtain ⟨_,ρ,nl,hmat,hent,hn⟩ := hz
   obtain ⟨β',h1⟩ := end_key hob hok.2 hfx2 hg hmat hent hn hrel
   exact ⟨hg.defers,u,β',rfl,h1⟩
  ·cases e with
   | n=>exact absurd hk'.1 ht
   | r=>exact absurd hk'.1 ht
   | x i=>cases hk'
def width (w : Int) : Bool := decide (1 <= w) && decide (w <= 64)
def Cut (w v : Int) : Int := if 64 <= w then v else v % 2 ^ w.toNat
theorem Cut_in (w v : Int) (h1 : 0 <= v) (h2 : v < 18446744073709551616) : 0 <= Cut w v /\ Cut w v < 18446744073709551616 := by
 unfold Cut; split
 ·exact ⟨h1,h2⟩
 ·have hp := pow_lt (n := w.toNat) (by omega)
  have := Int.emod_nonneg v (b := 2 ^ w.toNat) (by omega)
  have := Int.emod_lt_of_pos v hp.1
  omega
theorem width_S (w : Int) : ASpec Tryz.prog 135 [.i .i64 w] (.b (width w)) [] := by
 refine ASpec.enter TYok mixed Tryz.func135 rfl Tryz.call135 Tryz.ntmps135 rfl (rs := [.tmp 2]) rfl (nodupB_ok rfl) (Clo.one rfl) (keep := [0,2]) ?_; conv=>whnf
 repeat' first|(refine iF (fun hb=>?_) (fun hb=>?_) <;> (try simp only [yv] at hb) <;> (have hc := hb; try simp only [sB,Int.reduceToNat] at hc; try simp only [addZ0] at hc) <;> first|(exfalso; omega)|conv=>whnf)|((first|refine ya ?_|refine yb ?_|refine yc ?_|refine yd ?_|refine yf ?_|refine yh ?_|refine yj ?_|refine dD ?_|refine dF ?_|refine d0 ?_|refine d1 ?_|refine dL ?_|refine dP ?_|refine yl ?_|refine ym ?_|refine yn ?_|refine ⟨_,fun _=>(IntKind.wrap_u64 _).symm,?_⟩); conv=>whnf)|(refine yt ?_; conv=>whnf)|exact ⟨_,.keep rfl rfl⟩|fail
theorem Cut_S (w v : Int) (h0 : 0 <= w) (h1 : 0 <= v) (h2 : v < 18446744073709551616) : ASpec Tryz.prog 133 [.i .i64 w,.i .u64 v] (.i .u64 (Cut w v)) [] := by
 have hp := pow_lt' w
 refine ASpec.enter TYok mixed Tryz.func133 rfl Tryz.call133 Tryz.ntmps133 rfl (rs := [.tmp 4]) rfl (nodupB_ok rfl) (Clo.one rfl) (keep := [0,1,4]) ?_; conv=>whnf
 repeat' first|(refine iF (fun hb=>?_) (fun hb=>?_) <;> (try simp only [yv] at hb) <;> (have hc := hb; try simp only [sB,Int.reduceToNat] at hc; try simp only [addZ0] at hc) <;> first|(exfalso; omega)|conv=>whnf)|((first|refine ya ?_|refine yb ?_|refine yc ?_|refine yd ?_|refine yf ?_|refine yh ?_|refine yj ?_|refine dD ?_|refine dF ?_|refine d0 ?_|refine d1 ?_|refine dL ?_|refine dP ?_|refine yl ?_|refine ym ?_|refine yn ?_|refine ⟨_,fun _=>(IntKind.wrap_u64 _).symm,?_⟩); conv=>whnf)|(refine yt ?_; conv=>whnf)|exact ⟨_,.keep rfl rfl⟩|fail
 ·exact ⟨_,.keep (by (try simp only [pickB_or,pickB_and]); unfold Cut; repeat' (first|rfl|omega|split|(simp_all; done))) rfl⟩
 exact ⟨_,.keep (by rw [Cut,if_neg hc,Int.tmod_eq_emod_of_nonneg h1]) rfl⟩
def half (w : Int) : Int := 2 ^ (w - 1).toNat
theorem half_S (w : Int) (h0 : 1 <= w) (h1 : w <= 64) : ASpec Tryz.prog 151 [.i .i64 w] (.i .u64 (half w)) [] := by
 refine ASpec.enter TYok mixed Tryz.func151 rfl Tryz.call151 Tryz.ntmps151 rfl (rs := [.tmp 2]) rfl (nodupB_ok rfl) (Clo.one rfl) (keep := [0,2]) ?_; conv=>whnf
 repeat' first|(refine iF (fun hb=>?_) (fun hb=>?_) <;> (try simp only [yv] at hb) <;> (have hc := hb; try simp only [sB,Int.reduceToNat] at hc; try simp only [addZ0] at hc) <;> first|(exfalso; omega)|conv=>whnf)|((first|refine ya ?_|refine yb ?_|refine yc ?_|refine yd ?_|refine yf ?_|refine yh ?_|refine yj ?_|refine dD ?_|refine dF ?_|refine d0 ?_|refine d1 ?_|refine dL ?_|refine dP ?_|refine yl ?_|refine ym ?_|refine yn ?_|refine ⟨_,fun _=>(IntKind.wrap_u64 _).symm,?_⟩); conv=>whnf)|(refine yt ?_; conv=>whnf)|exact ⟨_,.keep rfl rfl⟩|fail
def Flags (op : Int) : Int := if op = 1 \/ op = 2 \/ op = 3 \/ op = 11 then 3 else if op = 4 \/ op = 5 \/ op = 12 \/ op = 13 then 4 else 0
theorem Flags_S (op : Int) : ASpec Tryz.prog 72 [.i .i64 op] (.i .i64 (Flags op)) [] := by
 refine ASpec.enter TYok mixed Tryz.func72 rfl Tryz.call72 Tryz.ntmps72 rfl (rs := [.tmp 2]) rfl (nodupB_ok rfl) (Clo.one rfl) (keep := [0,2]) ?_; conv=>whnf
 repeat' first|(refine iF (fun hb=>?_) (fun hb=>?_) <;> (try simp only [yv] at hb) <;> (have hc := hb; try simp only [sB,Int.reduceToNat] at hc; try simp only [addZ0] at hc) <;> first|(exfalso; omega)|conv=>whnf)|((first|refine ya ?_|refine yb ?_|refine yc ?_|refine yd ?_|refine yf ?_|refine yh ?_|refine yj ?_|refine dD ?_|refine dF ?_|refine d0 ?_|refine d1 ?_|refine dL ?_|refine dP ?_|refine yl ?_|refine ym ?_|refine yn ?_|refine ⟨_,fun _=>(IntKind.wrap_u64 _).symm,?_⟩); conv=>whnf)|(refine yt ?_; conv=>whnf)|exact ⟨_,.keep rfl rfl⟩|fail
 all_goals exact ⟨_,.keep (by (try simp only [pickB_or,pickB_and]); unfold Flags; repeat' (first|rfl|omega|split|(simp_all; done))) rfl⟩
def Mask (w : Int) : Int := if 1 <= w /\ w <= 64 then Cut w 18446744073709551615 else 0
theorem Mask_S (w : Int) : ASpec Tryz.prog 118 [.i .i64 w] (.i .u64 (Mask w)) [] := by
 refine ASpec.enter TYok mixed Tryz.func118 rfl Tryz.call118 Tryz.ntmps118 rfl (rs := [.tmp 2]) rfl (nodupB_ok rfl) (Clo.one rfl) (keep := [0,2,3]) ?_; conv=>whnf
 repeat' first|(refine iF (fun hb=>?_) (fun hb=>?_) <;> (try simp only [yv] at hb) <;> (have hc := hb; try simp only [sB,Int.reduceToNat] at hc; try simp only [addZ0] at hc) <;> first|(exfalso; omega)|conv=>whnf)|((first|refine ya ?_|refine yb ?_|refine yc ?_|refine yd ?_|refine yf ?_|refine yh ?_|refine yj ?_|refine dD ?_|refine dF ?_|refine d0 ?_|refine d1 ?_|refine dL ?_|refine dP ?_|refine yl ?_|refine ym ?_|refine yn ?_|refine ⟨_,fun _=>(IntKind.wrap_u64 _).symm,?_⟩); conv=>whnf)|((first|refine cK (fun _=>width_S _) ?_|((try (refine CallW.lent ?_; (conv=>whnf); repeat (refine yb ?_; (conv=>whnf)))); refine cL (fun _=>width_S _) ?_)); conv=>whnf)|(refine yt ?_; conv=>whnf)|exact ⟨_,.keep rfl rfl⟩|fail
 ·exact ⟨_,.keep (by rw [Mask,if_neg (by simp [width] at hc; omega)]) rfl⟩
 simp [width] at hb
 repeat' first|(refine iF (fun hb=>?_) (fun hb=>?_) <;> (try simp only [yv] at hb) <;> (have hc := hb; try simp only [sB,Int.reduceToNat] at hc; try simp only [addZ0] at hc) <;> first|(exfalso; omega)|conv=>whnf)|((first|refine ya ?_|refine yb ?_|refine yc ?_|refine yd ?_|refine yf ?_|refine yh ?_|refine yj ?_|refine dD ?_|refine dF ?_|refine d0 ?_|refine d1 ?_|refine dL ?_|refine dP ?_|refine yl ?_|refine ym ?_|refine yn ?_|refine ⟨_,fun _=>(IntKind.wrap_u64 _).symm,?_⟩); conv=>whnf)|((first|refine cK (fun _=>Cut_S _ _ (by omega) (by omega) (by omega)) ?_|((try (refine CallW.lent ?_; (conv=>whnf); repeat (refine yb ?_; (conv=>whnf)))); refine cL (fun _=>Cut_S _ _ (by omega) (by omega) (by omega)) ?_)); conv=>whnf)|(refine yt ?_; conv=>whnf)|exact ⟨_,.keep rfl rfl⟩|fail
 exact ⟨_,.keep (by rw [Mask,if_pos hb]) rfl⟩
structure BigE where
 hi : Int
 lo : Int
 below : Bool
 deriving DecidableEq
instance : Enc BigE := ⟨fun x=>[.i .u64 x.hi,.i .u64 x.lo,.b x.below],3,⟨0,0,false⟩⟩
def With (w v : Int) : BigE := if Cut w v < half w then ⟨0,Cut w v,false⟩ else ⟨0,Cut w ((0 - Cut w v) % 18446744073709551616),true⟩
theorem With_S (w v : Int) (h0 : 1 <= w) (h3 : w <= 64) (h1 : 0 <= v) (h2 : v < 18446744073709551616) : ASpec Tryz.prog 137 [.i .i64 w,.i .u64 v] (eS (With w v)) [] := by
 have h5 := Cut_in w v h1 h2
 refine ASpec.enter TYok mixed Tryz.func137 rfl Tryz.call137 Tryz.ntmps137 rfl (rs := [.cell 4 167]) rfl (nodupB_ok rfl) (Clo.one rfl) (keep := [0,1,4]) ?_; conv=>whnf
 repeat' first|(refine iF (fun hb=>?_) (fun hb=>?_) <;> (try simp only [yv] at hb) <;> (have hc := hb; try simp only [sB,Int.reduceToNat] at hc; try simp only [addZ0] at hc) <;> first|(exfalso; omega)|conv=>whnf)|((first|refine ya ?_|refine yb ?_|refine yc ?_|refine yd ?_|refine yf ?_|refine yh ?_|refine yj ?_|refine dD ?_|refine dF ?_|refine d0 ?_|refine d1 ?_|refine dL ?_|refine dP ?_|refine yl ?_|refine ym ?_|refine yn ?_|refine ⟨_,fun _=>(IntKind.wrap_u64 _).symm,?_⟩); conv=>whnf)|((first|refine cK (fun _=>Cut_S _ _ (by omega) (by omega) (by omega)) ?_|((try (refine CallW.lent ?_; (conv=>whnf); repeat (refine yb ?_; (conv=>whnf)))); refine cL (fun _=>Cut_S _ _ (by omega) (by omega) (by omega)) ?_)); conv=>whnf)|((first|refine cK (fun _=>half_S _ (by omega) (by omega)) ?_|((try (refine CallW.lent ?_; (conv=>whnf); repeat (refine yb ?_; (conv=>whnf)))); refine cL (fun _=>half_S _ (by omega) (by omega)) ?_)); conv=>whnf)|(refine yt ?_; conv=>whnf)|exact ⟨_,.keep rfl rfl⟩|fail
 all_goals exact ⟨_,.keep (by (try simp only [pickB_or,pickB_and]); unfold With; repeat' (first|rfl|omega|split|(simp_all; done))) rfl⟩
def Wrapped (w : Int) (a : BigE) : Int := if a.below then Cut w ((0 - a.lo) % 18446744073709551616) else Cut w a.lo
theorem Wrapped_S (w : Int) (a : BigE) (h0 : 0 <= w) (h1 : 0 <= a.lo) (h2 : a.lo < 18446744073709551616) : ASpec Tryz.prog 136 [.i .i64 w,eS a] (.i .u64 (Wrapped w a)) [] := by
 refine ASpec.enter TYok mixed Tryz.func136 rfl Tryz.call136 Tryz.ntmps136 rfl (rs := [.tmp 4]) rfl (nodupB_ok rfl) (Clo.one rfl) (keep := [0,1,3,4]) ?_; conv=>whnf
 repeat' first|(refine iF (fun hb=>?_) (fun hb=>?_) <;> (try simp only [yv] at hb) <;> (have hc := hb; try simp only [sB,Int.reduceToNat] at hc; try simp only [addZ0] at hc) <;> first|(exfalso; omega)|conv=>whnf)|((first|refine ya ?_|refine yb ?_|refine yc ?_|refine yd ?_|refine yf ?_|refine yh ?_|refine yj ?_|refine dD ?_|refine dF ?_|refine d0 ?_|refine d1 ?_|refine dL ?_|refine dP ?_|refine yl ?_|refine ym ?_|refine yn ?_|refine ⟨_,fun _=>(IntKind.wrap_u64 _).symm,?_⟩); conv=>whnf)|((first|refine cK (fun _=>Cut_S _ _ (by omega) (by omega) (by omega)) ?_|((try (refine CallW.lent ?_; (conv=>whnf); repeat (refine yb ?_; (conv=>whnf)))); refine cL (fun _=>Cut_S _ _ (by omega) (by omega) (by omega)) ?_)); conv=>whnf)|(refine yt ?_; conv=>whnf)|exact ⟨_,.keep rfl rfl⟩|fail
 all_goals exact ⟨_,.keep (by (try simp only [pickB_or,pickB_and]); unfold Wrapped; repeat' (first|rfl|omega|split|(simp_all; done))) rfl⟩
def Convert (op a b v : Int) : Int × Bool :=
 if ¬(width a = true /\ width b = true) then (0,false)
 else if op = 20 /\ a < b then (Cut a v,true)
 else if op = 21 /\ a < b then (Wrapped b (With a v),true)
 else if op = 22 /\ b < a then (Cut b v,true) else (0,false)
theorem With_in (w v : Int) (h1 : 0 <= v) (h2 : v < 18446744073709551616) : 0 <= (With w v).lo /\ (With w v).lo < 18446744073709551616 := by
 unfold With; split
 ·exact Cut_in w v h1 h2
 ·exact Cut_in w _ (by omega) (by omega)
theorem Convert_S (op a b v : Int) (h1 : 0 <= v) (h2 : v < 18446744073709551616) : ASpec Tryz.prog 110 [.i .i64 op,.i .i64 a,.i .i64 b,.i .u64 v] (.tup [.i .u64 (Convert op a b v).1,.b (Convert op a b v).2]) [] := by
 have h3 := With_in a v h1 h2
 refine ASpec.enter TYok mixed Tryz.func110 rfl Tryz.call110 Tryz.ntmps110 rfl (rs := [.tmp 8,.tmp 9]) rfl (nodupB_ok rfl) (Clo.one rfl) (keep := [0,1,2,3,8,9,10]) ?_; conv=>whnf
 repeat' first|(refine iF (fun hb=>?_) (fun hb=>?_) <;> (try simp only [yv] at hb) <;> (have hc := hb; try simp only [sB,Int.reduceToNat] at hc; try simp only [addZ0] at hc) <;> first|(exfalso; omega)|conv=>whnf)|((first|refine ya ?_|refine yb ?_|refine yc ?_|refine yd ?_|refine yf ?_|refine yh ?_|refine yj ?_|refine dD ?_|refine dF ?_|refine d0 ?_|refine d1 ?_|refine dL ?_|refine dP ?_|refine yl ?_|refine ym ?_|refine yn ?_|refine ⟨_,fun _=>(IntKind.wrap_u64 _).symm,?_⟩); conv=>whnf)|((first|refine cK (fun _=>width_S _) ?_|((try (refine CallW.lent ?_; (conv=>whnf); repeat (refine yb ?_; (conv=>whnf)))); refine cL (fun _=>width_S _) ?_)); conv=>whnf)|((first|refine cK (fun _=>Cut_S _ _ (by simp [width] at *; omega) h1 h2) ?_|((try (refine CallW.lent ?_; (conv=>whnf); repeat (refine yb ?_; (conv=>whnf)))); refine cL (fun _=>Cut_S _ _ (by simp [width] at *; omega) h1 h2) ?_)); conv=>whnf)|((first|refine cK (fun _=>With_S _ _ (by simp [width] at *; omega) (by simp [width] at *; omega) h1 h2) ?_|((try (refine CallW.lent ?_; (conv=>whnf); repeat (refine yb ?_; (conv=>whnf)))); refine cL (fun _=>With_S _ _ (by simp [width] at *; omega) (by simp [width] at *; omega) h1 h2) ?_)); conv=>whnf)|((first|refine cK (fun _=>Wrapped_S _ _ (by simp [width] at *; omega) (by omega) (by omega)) ?_|((try (refine CallW.lent ?_; (conv=>whnf); repeat (refine yb ?_; (conv=>whnf)))); refine cL (fun _=>Wrapped_S _ _ (by simp [width] at *; omega) (by omega) (by omega)) ?_)); conv=>whnf)|(refine yt ?_; conv=>whnf)|exact ⟨_,.keep rfl rfl⟩|fail
 all_goals exact ⟨_,.keep (by (try simp only [pickB_or,pickB_and]); unfold Convert; repeat' (first|rfl|omega|split|(simp_all; done))) rfl⟩
def Result (x : InsE) : Int := if x.op < 1 \/ 30 < x.op then 0 else if x.op = 14 \/ x.op = 15 \/ x.op = 16 \/ x.op = 17 \/ x.op = 18 \/ x.op = 19 then 1 else if x.op = 26 \/ x.op = 29 then 65 else if x.op = 28 then 0 else x.t
theorem Result_S (x : InsE) : ASpec Tryz.prog 66 [eS x] (.i .i64 (Result x)) [] := by
 refine ASpec.enter TYok mixed Tryz.func66 rfl Tryz.call66 Tryz.ntmps66 rfl (rs := [.tmp 2]) rfl (nodupB_ok rfl) (Clo.one rfl) (keep := [0,1,2,3,12]) ?_; conv=>whnf
 repeat' first|(refine iF (fun hb=>?_) (fun hb=>?_) <;> (try simp only [yv] at hb) <;> (have hc := hb; try simp only [sB,Int.reduceToNat] at hc; try simp only [addZ0] at hc) <;> first|(exfalso; omega)|conv=>whnf)|((first|refine ya ?_|refine yb ?_|refine yc ?_|refine yd ?_|refine yf ?_|refine yh ?_|refine yj ?_|refine dD ?_|refine dF ?_|refine d0 ?_|refine d1 ?_|refine dL ?_|refine dP ?_|refine yl ?_|refine ym ?_|refine yn ?_|refine ⟨_,fun _=>(IntKind.wrap_u64 _).symm,?_⟩); conv=>whnf)|(refine yt ?_; conv=>whnf)|exact ⟨_,.keep rfl rfl⟩|fail
 all_goals exact ⟨_,.keep (by (try simp only [pickB_or,pickB_and]); unfold Result; repeat' (first|rfl|omega|split|(simp_all; done))) rfl⟩
def Ends (op : Int) : Bool := decide (op = 31) || decide (op = 32) || decide (op = 33) || decide (op = 34)
theorem Ends_S (op : Int) : ASpec Tryz.prog 70 [.i .i64 op] (.b (Ends op)) [] := by
 refine ASpec.enter TYok mixed Tryz.func70 rfl Tryz.call70 Tryz.ntmps70 rfl (rs := [.tmp 2]) rfl (nodupB_ok rfl) (Clo.one rfl) (keep := [0,2]) ?_; conv=>whnf
 repeat' first|(refine iF (fun hb=>?_) (fun hb=>?_) <;> (try simp only [yv] at hb) <;> (have hc := hb; try simp only [sB,Int.reduceToNat] at hc; try simp only [addZ0] at hc) <;> first|(exfalso; omega)|conv=>whnf)|((first|refine ya ?_|refine yb ?_|refine yc ?_|refine yd ?_|refine yf ?_|refine yh ?_|refine yj ?_|refine dD ?_|refine dF ?_|refine d0 ?_|refine d1 ?_|refine dL ?_|refine dP ?_|refine yl ?_|refine ym ?_|refine yn ?_|refine ⟨_,fun _=>(IntKind.wrap_u64 _).symm,?_⟩); conv=>whnf)|(refine yt ?_; conv=>whnf)|exact ⟨_,.keep rfl rfl⟩|fail
theorem ext_getD {α : Type} [Enc α] {a b : List α} (hl : a.length = b.length) (h : ∀ i,i < a.length -> a.getD i Enc.d = b.getD i Enc.d) : a = b := by
 refine List.ext_getElem hl fun i h1 h2=>?_
 have := h i h1
 rwa [List.getD_eq_getElem?_getD,List.getD_eq_getElem?_getD,List.getElem?_eq_getElem h1,List.getElem?_eq_getElem h2] at this
theorem all_step {P : Nat -> Prop} {q : Nat} (h : ∀ i,i < q -> P i) (hq : P q) : ∀ i,i < q + 1 -> P i := fun i hi=>if e : i = q then e ▸ hq else h i (by omega)
theorem Ints_S (a b : List Int) (ha : a.length < 9223372036854775807) : ASpec Tryz.prog 32 [eL a,eL b] (.b (decide (a = b))) [] := by
 refine ASpec.enter TYok mixed Tryz.func32 rfl Tryz.call32 Tryz.ntmps32 rfl (rs := [.tmp 4]) rfl (nodupB_ok rfl) (Clo.one rfl) (keep := [0,1,4,5]) ?_; conv=>whnf
 repeat' first|(refine iF (fun hb=>?_) (fun hb=>?_) <;> (try simp only [yv] at hb) <;> (have hc := hb; try simp only [sB,Int.reduceToNat] at hc; try simp only [addZ0] at hc) <;> first|(exfalso; omega)|conv=>whnf)|((first|refine ya ?_|refine yb ?_|refine yc ?_|refine yd ?_|refine yf ?_|refine yh ?_|refine yj ?_|refine dD ?_|refine dF ?_|refine d0 ?_|refine d1 ?_|refine dL ?_|refine dP ?_|refine yl ?_|refine ym ?_|refine yn ?_|refine ⟨_,fun _=>(IntKind.wrap_u64 _).symm,?_⟩); conv=>whnf)|(refine yt ?_; conv=>whnf)|exact ⟨_,.keep rfl rfl⟩|fail
 ·exact ⟨_,.keep (congrArg AV.b (decide_eq_false fun e=>by subst e; simp at hb).symm) rfl⟩
 simp at hb
 refine lp [5] (fun q : Nat=>[.i .i64 q]) (fun q=>[]) (fun q=>q <= a.length /\ ∀ i,i < q -> a.getD i Enc.d = b.getD i Enc.d) (fun q=>a.length - q) 0 ⟨by omega,fun i h=>by omega⟩ ?_ fun q hq=>?_
 ·refine eP [] [] ?_ ?_ <;> repeat' first|exact eN|refine And.intro ?_ ?_
 conv=>whnf
 obtain ⟨hq,hv⟩ := hq
 repeat' first|(refine iF (fun hb=>?_) (fun hb=>?_) <;> (try simp only [yv] at hb) <;> (have hc := hb; try simp only [sB,Int.reduceToNat] at hc; try simp only [addZ0] at hc) <;> first|(exfalso; omega)|conv=>whnf)|((first|refine ya ?_|refine yb ?_|refine yc ?_|refine yd ?_|refine yf ?_|refine yh ?_|refine yj ?_|refine dD ?_|refine dF ?_|refine d0 ?_|refine d1 ?_|refine dL ?_|refine dP ?_|refine yl ?_|refine ym ?_|refine yn ?_|refine ⟨_,fun _=>(IntKind.wrap_u64 _).symm,?_⟩); conv=>whnf)|(refine yt ?_; conv=>whnf)|exact ⟨_,.keep rfl rfl⟩|fail
 ·exact ⟨_,.keep (congrArg AV.b (decide_eq_false fun e=>hc (by rw [e])).symm) rfl⟩
 ·refine .mk (q + 1) ⟨by omega,all_step hv hc⟩ (by omega) ?_
  refine eP [] [] ?_ ?_ <;> repeat' first|exact eN|refine And.intro ?_ ?_
 ·exact ⟨_,.keep (congrArg AV.b (decide_eq_true (ext_getD (by omega) fun i hi=>hv i (by omega))).symm) rfl⟩
theorem Opd.ext3 : ∀ {x y : Opd},x.k = y.k -> x.n = y.n -> x.b = y.b -> x = y
 | ⟨_,_,_⟩,⟨_,_,_⟩,rfl,rfl,rfl=>rfl
theorem Instrs_S (a b : InsE) (ha : siz a < 4294967296) : ASpec Tryz.prog 33 [eS a,eS b] (.b (decide (a = b))) [] := by
 have h1 := args_le a
 have h2 := to_le a
 refine ASpec.enter TYok mixed Tryz.func33 rfl Tryz.call33 Tryz.ntmps33 rfl (rs := [.tmp 4]) rfl (nodupB_ok rfl) (Clo.one rfl) (keep := [0,1,2,3,4,5]) ?_; conv=>whnf
 repeat' first|(refine iF (fun hb=>?_) (fun hb=>?_) <;> (try simp only [yv] at hb) <;> (have hc := hb; try simp only [sB,Int.reduceToNat] at hc; try simp only [addZ0] at hc) <;> first|(exfalso; omega)|conv=>whnf)|((first|refine ya ?_|refine yb ?_|refine yc ?_|refine yd ?_|refine yf ?_|refine yh ?_|refine yj ?_|refine dD ?_|refine dF ?_|refine d0 ?_|refine d1 ?_|refine dL ?_|refine dP ?_|refine yl ?_|refine ym ?_|refine yn ?_|refine ⟨_,fun _=>(IntKind.wrap_u64 _).symm,?_⟩); conv=>whnf)|(refine yt ?_; conv=>whnf)|exact ⟨_,.keep rfl rfl⟩|fail
 ·exact ⟨_,.keep (congrArg AV.b (decide_eq_false fun e=>by subst e; simp at hb).symm) rfl⟩
 refine lp [5] (fun q : Nat=>[.i .i64 q]) (fun q=>[(2,bx a),(3,bx b)]) (fun q=>q <= a.args.length /\ ∀ i,i < q -> a.args.getD i Enc.d = b.args.getD i Enc.d) (fun q=>a.args.length - q) 0 ⟨by omega,fun i h=>by omega⟩ ?_ fun q hq=>?_
 ·refine eP [] [] ?_ ?_ <;> repeat' first|exact eN|refine And.intro ?_ ?_
 conv=>whnf
 obtain ⟨hq,hv⟩ := hq
 repeat' first|(refine iF (fun hb=>?_) (fun hb=>?_) <;> (try simp only [yv] at hb) <;> (have hc := hb; try simp only [sB,Int.reduceToNat] at hc; try simp only [addZ0] at hc) <;> first|(exfalso; omega)|conv=>whnf)|((first|refine ya ?_|refine yb ?_|refine yc ?_|refine yd ?_|refine yf ?_|refine yh ?_|refine yj ?_|refine dD ?_|refine dF ?_|refine d0 ?_|refine d1 ?_|refine dL ?_|refine dP ?_|refine yl ?_|refine ym ?_|refine yn ?_|refine ⟨_,fun _=>(IntKind.wrap_u64 _).symm,?_⟩); conv=>whnf)|((first|refine cK (fun _=>Ints_S _ _ (by omega)) ?_|((try (refine CallW.lent ?_; (conv=>whnf); repeat (refine yb ?_; (conv=>whnf)))); refine cL (fun _=>Ints_S _ _ (by omega)) ?_)); conv=>whnf)|(refine yt ?_; conv=>whnf)|exact ⟨_,.keep rfl rfl⟩|fail
 ·refine ⟨_,.keep (congrArg AV.b (decide_eq_false fun e=>?_).symm) rfl⟩
  subst e; simp at hb
 ·refine .mk (q + 1) ⟨by omega,all_step hv ?_⟩ (by omega) ?_
  ·exact Opd.ext3 hc.1 hc.2.1 hc.2.2
  ·refine eP [] [] ?_ ?_ <;> repeat' first|exact eN|refine And.intro ?_ ?_
 ·refine ⟨_,.keep (congrArg AV.b ?_) rfl⟩
  have e : a.args = b.args := ext_getD (by omega) fun i hi=>hv i (by omega)
  cases a; cases b; simp_all
def Callee (m : ModE) (n : Int) : List Int × Int × Bool :=
 if 0 <= n /\ n < m.funcs.length then ((m.funcs.getD n.toNat Enc.d).params,(m.funcs.getD n.toNat Enc.d).ret,true)
 else if n < 0 /\ -(m.exts.length : Int) <= n then ((m.exts.getD (-1 - n).toNat Enc.d).params,(m.exts.getD (-1 - n).toNat Enc.d).ret,true) else ([],0,false)
theorem Callee_S (m : ModE) (n : Int) (hm : siz m < 4294967296) (hn : -9223372036854775808 <= n) (hn2 : n <= 9223372036854775807) : ASpec Tryz.prog 116 [eS m,.i .i64 n] (.tup [eL (Callee m n).1,.i .i64 (Callee m n).2.1,.b (Callee m n).2.2]) [] := by
 have h1 := len_siz m.funcs
 have h2 := len_siz m.exts
 have h3 : siz m = siz m.vars + siz m.exts + siz m.funcs := rfl
 refine ASpec.enter TYok mixed Tryz.func116 rfl Tryz.call116 Tryz.ntmps116 rfl (rs := [.tmp 4,.tmp 5,.tmp 6]) rfl (nodupB_ok rfl) (Clo.one rfl) (keep := [0,1,2,4,5,6]) ?_; conv=>whnf
 repeat' first|(refine iF (fun hb=>?_) (fun hb=>?_) <;> (try simp only [yv] at hb) <;> (have hc := hb; try simp only [sB,Int.reduceToNat] at hc; try simp only [addZ0] at hc) <;> first|(exfalso; omega)|conv=>whnf)|((first|refine ya ?_|refine yb ?_|refine yc ?_|refine yd ?_|refine yf ?_|refine yh ?_|refine yj ?_|refine dD ?_|refine dF ?_|refine d0 ?_|refine d1 ?_|refine dL ?_|refine dP ?_|refine yl ?_|refine ym ?_|refine yn ?_|refine ⟨_,fun _=>(IntKind.wrap_u64 _).symm,?_⟩); conv=>whnf)|(refine yt ?_; conv=>whnf)|exact ⟨_,.keep rfl rfl⟩|fail
 ·exact ⟨_,.keep (by rw [Callee,if_pos hc]; rfl) rfl⟩
 ·exact ⟨_,.keep (by rw [Callee,if_neg (by omega),if_pos (by omega)]; rfl) rfl⟩
 ·rw [Callee,if_neg (by omega),if_neg (by omega)]
  exact ⟨_,.tup (.cons (.nilF rfl) (.cons (.keep rfl rfl) (.cons (.keep rfl rfl) .nil (nodupB_ok rfl)) (nodupB_ok rfl)) (nodupB_ok rfl))⟩
def pairs (f : FnE) (b k : Nat) : List (InsE × Plc) := (List.range k).map fun i=>((f.blocks.getD b Enc.d).code.getD i Enc.d,⟨0,b,i⟩)
def codeTo (f : FnE) (b k : Nat) : List (InsE × Plc) := ((List.range b).flatMap fun b=>pairs f b (f.blocks.getD b Enc.d).code.length) ++ pairs f b k
def Code (f : FnE) : List (InsE × Plc) := codeTo f f.blocks.length 0
theorem codeTo_snoc (f : FnE) (b k : Nat) : codeTo f b (k + 1) = codeTo f b k ++ [((f.blocks.getD b Enc.d).code.getD k Enc.d,⟨0,b,k⟩)] := by
 unfold codeTo pairs; rw [List.range_succ,List.map_append,List.append_assoc]; rfl
theorem codeTo_next (f : FnE) (b : Nat) : codeTo f (b + 1) 0 = codeTo f b (f.blocks.getD b Enc.d).code.length := by
 unfold codeTo; rw [List.range_succ,List.flatMap_append,List.flatMap_singleton]; simp [pairs]
theorem sum_take {α : Type} (g : α -> Nat) (d : α) : ∀ (l : List α) (b : Nat),b < l.length -> ((l.take b).map g).sum + g (l.getD b d) <= (l.map g).sum
 | x :: l,0,_=>by simp
 | x :: l,b + 1,h=>by
  have := sum_take g d l b (by simpa using h)
  simp only [List.take_succ_cons,List.map_cons,List.sum_cons,List.getD_cons_succ]; omega
theorem sum_le {α : Type} {g h : α -> Nat} (hgh : ∀ x,g x <= h x) : ∀ l : List α,(l.map g).sum <= (l.map h).sum
 | []=>Nat.le_refl _
 | x :: l=>by have := sum_le hgh l; have := hgh x; simp only [List.map_cons,List.sum_cons]; omega
theorem codeTo_len (f : FnE) (b : Nat) : ∀ k,(codeTo f b k).length = ((List.range b).map fun b=>(f.blocks.getD b Enc.d).code.length).sum + k := fun k=>by
 simp [codeTo,pairs,List.length_flatMap]
theorem range_take {α : Type} (g : α -> Nat) (d : α) (l : List α) : ∀ b,b <= l.length -> ((List.range b).map fun b=>g (l.getD b d)).sum = ((l.take b).map g).sum
 | 0,_=>by simp
 | b + 1,h=>by
  rw [List.range_succ,List.map_append,List.sum_append,range_take g d l b (by omega),List.take_add_one,List.map_append,List.sum_append,List.getElem?_eq_getElem (by omega)]
  simp [List.getElem?_eq_getElem (show b < l.length by omega)]
theorem codeTo_siz (f : FnE) (b k : Nat) (hb : b < f.blocks.length) (hk : k <= (f.blocks.getD b Enc.d).code.length) : (codeTo f b k).length <= siz f := by
 rw [codeTo_len,range_take (fun x : BlkE=>x.code.length) Enc.d f.blocks b (by omega)]
 have h1 := sum_take (fun x : BlkE=>x.code.length) Enc.d f.blocks b hb
 have h2 := sum_le (g := fun x : BlkE=>x.code.length) (h := siz) (fun x=>len_siz x.code) f.blocks
 have h3 : siz f = siz f.name + siz f.params + (f.blocks.length + (f.blocks.map siz).sum) := rfl
 omega
theorem Clo.rows {d d' e off n e' n' e2 off2 n2 e3 n3 : Nat} {g g' : Nat -> List AV} : Clo (.tup [.orow d e off n,.orow d' e2 off2 n2]) [(d,.row none e' n' g),(d',.row none e3 n3 g')] := by
 refine ⟨fun id hm=>?_,fun i ob h id hm=>?_⟩
 ·simp only [men,mens,Bool.or_false,Bool.or_eq_true] at hm
  rw [lk_cons]; split
  ·rfl
  ·rename_i q; rw [lk_cons]; split
   ·rfl
   ·rename_i q2; rcases hm with h|h <;> have := Nat.eq_of_beq_eq_true h <;> subst this <;> contradiction
 ·rw [lk_cons] at h
  split at h
  ·cases h; cases hm
  ·rw [lk_cons] at h
   split at h
   ·cases h; cases hm
   ·simp [lk] at h
theorem Code_S (d d' : Nat) (hd : d ≠ d') (f : FnE) (hs : siz f < 4294967296) : ASpec Tryz.prog 26 [eS f] (.tup [.orow d 7 0 ((Code f).map Prod.fst).length,.orow d' 3 0 ((Code f).map Prod.snd).length]) [(d,oL ((Code f).map Prod.fst)),(d',oL ((Code f).map Prod.snd))] := by
 have h1 := blocks_le f
 have hnd : [d,d'].Nodup := nd2 hd
 refine ASpec.enter TYok mixed Tryz.func26 rfl Tryz.call26 Tryz.ntmps26 rfl (rs := [.tmp 2,.tmp 3]) rfl (hnd) (Clo.rows) (keep := [0,1,2,3,4,5,6,7]) ?_; conv=>whnf
 refine lp [6,4,5] (fun b : Nat=>[.i .i64 b,.orow 4 7 0 ((codeTo f b 0).map Prod.fst).length,.orow 5 3 0 ((codeTo f b 0).map Prod.snd).length]) (fun b=>[(4,oL ((codeTo f b 0).map Prod.fst)),(5,oL ((codeTo f b 0).map Prod.snd)),(1,bx f)]) (fun q=>q <= f.blocks.length) (fun q=>f.blocks.length - q) 0 (by omega) ?_ fun b hb0=>?_
 ·refine eP [] [4,5] ?_ ?_ <;> repeat' first|exact eN|refine And.intro ?_ ?_
 conv=>whnf
 repeat' first|(refine iF (fun hb=>?_) (fun hb=>?_) <;> (try simp only [yv] at hb) <;> (have hc := hb; try simp only [sB,Int.reduceToNat] at hc; try simp only [addZ0] at hc) <;> first|(exfalso; omega)|conv=>whnf)|((first|refine ya ?_|refine yb ?_|refine yc ?_|refine yd ?_|refine yf ?_|refine yh ?_|refine yj ?_|refine dD ?_|refine dF ?_|refine d0 ?_|refine d1 ?_|refine dL ?_|refine dP ?_|refine yl ?_|refine ym ?_|refine yn ?_|refine ⟨_,fun _=>(IntKind.wrap_u64 _).symm,?_⟩); conv=>whnf)|(refine yt ?_; conv=>whnf)|exact ⟨_,.keep rfl rfl⟩|fail
 ·have h2 := code_le f b
  refine lp [7,4,5] (fun q : Nat=>[.i .i64 q,.orow 4 7 0 ((codeTo f b q).map Prod.fst).length,.orow 5 3 0 ((codeTo f b q).map Prod.snd).length]) (fun q=>[(4,oL ((codeTo f b q).map Prod.fst)),(5,oL ((codeTo f b q).map Prod.snd)),(1,bx f)]) (fun q=>q <= (f.blocks.getD b Enc.d).code.length) (fun q=>(f.blocks.getD b Enc.d).code.length - q) 0 (by omega) ?_ fun q hq=>?_
  ·refine eP [] [] ?_ ?_ <;> repeat' first|exact eN|refine And.intro ?_ ?_
  conv=>whnf
  have h3 := codeTo_siz f b q (by omega) hq
  have h4 : ((codeTo f b q).map Prod.fst).length = (codeTo f b q).length := List.length_map _
  have h5 : ((codeTo f b q).map Prod.snd).length = (codeTo f b q).length := List.length_map _
  repeat' first|(refine iF (fun hb=>?_) (fun hb=>?_) <;> (try simp only [yv] at hb) <;> (have hc := hb; try simp only [sB,Int.reduceToNat] at hc; try simp only [addZ0] at hc) <;> first|(exfalso; omega)|conv=>whnf)|((first|refine ya ?_|refine yb ?_|refine yc ?_|refine yd ?_|refine yf ?_|refine yh ?_|refine yj ?_|refine dD ?_|refine dF ?_|refine d0 ?_|refine d1 ?_|refine dL ?_|refine dP ?_|refine yl ?_|refine ym ?_|refine yn ?_|refine ⟨_,fun _=>(IntKind.wrap_u64 _).symm,?_⟩); conv=>whnf)|(refine yt ?_; conv=>whnf)|exact ⟨_,.keep rfl rfl⟩|fail
  ·have e1 : (codeTo f b (q + 1)).map Prod.fst = (codeTo f b q).map Prod.fst ++ [(f.blocks.getD b Enc.d).code.getD q Enc.d] := by rw [codeTo_snoc,List.map_append]; rfl
   have e2 : (codeTo f b (q + 1)).map Prod.snd = (codeTo f b q).map Prod.snd ++ [⟨0,b,q⟩] := by rw [codeTo_snoc,List.map_append]; rfl
   refine .mk (q + 1) (by omega) (by omega) ?_
   refine eP [(4,37),(5,43)] [] ?_ ?_ <;> repeat' first|exact eN|refine And.intro ?_ ?_|exact snoc_len e1|exact snoc_get e1 rfl|rw [e1]|exact snoc_len e2|exact snoc_get e2 rfl|rw [e2]
  ·have e : codeTo f (b + 1) 0 = codeTo f b q := by rw [codeTo_next]; congr 1; omega
   refine .mk (b + 1) (by omega) (by omega) ?_
   rw [e]
   refine eP [] [] ?_ ?_ <;> repeat' first|exact eN|refine And.intro ?_ ?_
 ·have e : codeTo f b 0 = Code f := by rw [Code]; congr 1; omega
  rw [e]
  exact ⟨_,.tup (.cons (.give rfl rfl rfl (fun _ _=>rfl) rfl) (.cons (.give rfl rfl rfl (fun _ _=>rfl) rfl) .nil (nd1 _)) hnd)⟩
theorem find_take {α : Type} {p : α -> Bool} (d : α) : ∀ {l : List α} {q : Nat},q < l.length -> (∀ i,i < q -> p (l.getD i d) = false) -> p (l.getD q d) = true -> l.find? p = some (l.getD q d)
 | x :: l,0,_,_,h=>by simp at h ⊢; simp [h]
 | x :: l,q + 1,hq,hn,h=>by
  rw [List.find?_cons,show p x = false from hn 0 (by omega)]
  exact find_take d (by simpa using hq) (fun i hi=>hn (i + 1) (by omega)) h
theorem find_no {α : Type} {p : α -> Bool} (d : α) {l : List α} (hn : ∀ i,i < l.length -> p (l.getD i d) = false) : l.find? p = none := by
 rw [List.find?_eq_none]; intro x hx
 obtain ⟨i,h,rfl⟩ := List.getElem_of_mem hx
 have := hn i h
 rw [List.getD_eq_getElem?_getD,List.getElem?_eq_getElem h] at this
 simpa using this
theorem getD_map {α β : Type} (g : α -> β) (l : List α) (i : Nat) (d : α) (e : β) (h : g d = e) : (l.map g).getD i e = g (l.getD i d) := by
 subst h; rw [List.getD_eq_getElem?_getD,List.getD_eq_getElem?_getD,List.getElem?_map]; cases l[i]? <;> rfl
def dfP (reg : Int) (p : InsE × Plc) : Bool := decide (p.1.reg = reg) && !decide (Result p.1 = 0)
def noP : InsE × Plc := (Enc.d,Enc.d)
def Def (f : FnE) (reg : Int) : Plc × Bool := match (Code f).find? (dfP reg) with
 | some p=>(p.2,true)
 | none=>(⟨0,0,0⟩,false)
theorem Code_siz (f : FnE) : (Code f).length <= siz f := by
 unfold Code
 rcases Nat.eq_zero_or_pos f.blocks.length with h|h
 ·rw [h]; exact Nat.zero_le _
 ·obtain ⟨n,hn⟩ : ∃ n,f.blocks.length = n + 1 := ⟨f.blocks.length - 1,by omega⟩
  rw [hn,codeTo_next]; exact codeTo_siz f n _ (by omega) (Nat.le_refl _)
theorem Def_S (f : FnE) (reg : Int) (hs : siz f < 4294967296) : ASpec Tryz.prog 74 [eS f,.i .i64 reg] (.tup [eS (Def f reg).1,.b (Def f reg).2]) [] := by
 have h1 := Code_siz f
 have h2 : ((Code f).map Prod.fst).length = (Code f).length := List.length_map _
 have h3 : ((Code f).map Prod.snd).length = (Code f).length := List.length_map _
 refine ASpec.enter TYok mixed Tryz.func74 rfl Tryz.call74 Tryz.ntmps74 rfl (rs := [.cell 4 28,.tmp 5]) rfl (nodupB_ok rfl) (Clo.one rfl) (keep := [0,1,2,4,5,6,7,8]) ?_; conv=>whnf
 repeat' first|(refine iF (fun hb=>?_) (fun hb=>?_) <;> (try simp only [yv] at hb) <;> (have hc := hb; try simp only [sB,Int.reduceToNat] at hc; try simp only [addZ0] at hc) <;> first|(exfalso; omega)|conv=>whnf)|((first|refine ya ?_|refine yb ?_|refine yc ?_|refine yd ?_|refine yf ?_|refine yh ?_|refine yj ?_|refine dD ?_|refine dF ?_|refine d0 ?_|refine d1 ?_|refine dL ?_|refine dP ?_|refine yl ?_|refine ym ?_|refine yn ?_|refine ⟨_,fun _=>(IntKind.wrap_u64 _).symm,?_⟩); conv=>whnf)|((first|refine cK (fun _=>Code_S 40 41 (by decide) f hs) ?_|((try (refine CallW.lent ?_; (conv=>whnf); repeat (refine yb ?_; (conv=>whnf)))); refine cL (fun _=>Code_S 40 41 (by decide) f hs) ?_)); conv=>whnf)|(refine yt ?_; conv=>whnf)|exact ⟨_,.keep rfl rfl⟩|fail
 refine lp [8] (fun q : Nat=>[.i .i64 q]) (fun q=>[(40,oL ((Code f).map Prod.fst)),(41,oL ((Code f).map Prod.snd)),(2,bx f),(4,bx (Enc.d : Plc))]) (fun q=>q <= (Code f).length /\ ∀ i,i < q -> dfP reg ((Code f).getD i noP) = false) (fun q=>(Code f).length - q) 0 ⟨by omega,fun i h=>by omega⟩ ?_ fun q hq=>?_
 ·refine eP [] [] ?_ ?_ <;> repeat' first|exact eN|refine And.intro ?_ ?_
 conv=>whnf
 obtain ⟨hq,hv⟩ := hq
 have h4 := getD_map Prod.fst (Code f) q noP Enc.d rfl
 have h5 := getD_map Prod.snd (Code f) q noP Enc.d rfl
 repeat' first|(refine iF (fun hb=>?_) (fun hb=>?_) <;> (try simp only [yv] at hb) <;> (have hc := hb; try simp only [sB,Int.reduceToNat] at hc; try simp only [addZ0] at hc) <;> first|(exfalso; omega)|conv=>whnf)|((first|refine ya ?_|refine yb ?_|refine yc ?_|refine yd ?_|refine yf ?_|refine yh ?_|refine yj ?_|refine dD ?_|refine dF ?_|refine d0 ?_|refine d1 ?_|refine dL ?_|refine dP ?_|refine yl ?_|refine ym ?_|refine yn ?_|refine ⟨_,fun _=>(IntKind.wrap_u64 _).symm,?_⟩); conv=>whnf)|((first|refine cK (fun _=>Result_S _) ?_|((try (refine CallW.lent ?_; (conv=>whnf); repeat (refine yb ?_; (conv=>whnf)))); refine cL (fun _=>Result_S _) ?_)); conv=>whnf)|(refine yt ?_; conv=>whnf)|exact ⟨_,.keep rfl rfl⟩|fail
 ·have e : Def f reg = (((Code f).getD q noP).2,true) := by
   unfold Def; rw [find_take noP (by omega) hv (by unfold dfP; rw [<- h4]; exact hb)]
  exact ⟨_,.keep (by rw [e,<- h5]; rfl) rfl⟩
 ·refine .mk (q + 1) ⟨by omega,all_step hv (by unfold dfP; rw [<- h4]; exact hb)⟩ (by omega) ?_
  refine eP [] [] ?_ ?_ <;> repeat' first|exact eN|refine And.intro ?_ ?_
 ·have e : Def f reg = (⟨0,0,0⟩,false) := by unfold Def; rw [find_no noP fun i hi=>hv i (by omega)]
  exact ⟨_,.keep (by rw [e]; rfl) rfl⟩
theorem BlkE.ext1 : ∀ {x y : BlkE},x.code = y.code -> x = y
 | ⟨_⟩,⟨_⟩,rfl=>rfl
theorem Funcs_S (a b : FnE) (ha : siz a < 4294967296) : ASpec Tryz.prog 13 [eS a,eS b] (.b (decide (a = b))) [] := by
 have h1 := blocks_le a
 have h2 := params_le a
 refine ASpec.enter TYok mixed Tryz.func13 rfl Tryz.call13 Tryz.ntmps13 rfl (rs := [.tmp 4]) rfl (nodupB_ok rfl) (Clo.one rfl) (keep := [0,1,2,3,4,5,6,7,8]) ?_; conv=>whnf
 repeat' first|(refine iF (fun hb=>?_) (fun hb=>?_) <;> (try simp only [yv] at hb) <;> (have hc := hb; try simp only [sB,Int.reduceToNat] at hc; try simp only [addZ0] at hc) <;> first|(exfalso; omega)|conv=>whnf)|((first|refine ya ?_|refine yb ?_|refine yc ?_|refine yd ?_|refine yf ?_|refine yh ?_|refine yj ?_|refine dD ?_|refine dF ?_|refine d0 ?_|refine d1 ?_|refine dL ?_|refine dP ?_|refine yl ?_|refine ym ?_|refine yn ?_|refine ⟨_,fun _=>(IntKind.wrap_u64 _).symm,?_⟩); conv=>whnf)|((first|refine cK (fun _=>Ints_S _ _ (by omega)) ?_|((try (refine CallW.lent ?_; (conv=>whnf); repeat (refine yb ?_; (conv=>whnf)))); refine cL (fun _=>Ints_S _ _ (by omega)) ?_)); conv=>whnf)|(refine yt ?_; conv=>whnf)|exact ⟨_,.keep rfl rfl⟩|fail
 ·refine ⟨_,.keep (congrArg AV.b (decide_eq_false fun e=>?_).symm) rfl⟩
  subst e; simp at hb
 refine lp [6] (fun q : Nat=>[.i .i64 q]) (fun q=>[(2,bx a),(3,bx b)]) (fun q=>q <= a.blocks.length /\ ∀ i,i < q -> a.blocks.getD i Enc.d = b.blocks.getD i Enc.d) (fun q=>a.blocks.length - q) 0 ⟨by omega,fun i h=>by omega⟩ ?_ fun q hq=>?_
 ·refine eP [] [] ?_ ?_ <;> repeat' first|exact eN|refine And.intro ?_ ?_
 conv=>whnf
 obtain ⟨hq,hv⟩ := hq
 have h3 := code_le a q
 repeat' first|(refine iF (fun hb=>?_) (fun hb=>?_) <;> (try simp only [yv] at hb) <;> (have hc := hb; try simp only [sB,Int.reduceToNat] at hc; try simp only [addZ0] at hc) <;> first|(exfalso; omega)|conv=>whnf)|((first|refine ya ?_|refine yb ?_|refine yc ?_|refine yd ?_|refine yf ?_|refine yh ?_|refine yj ?_|refine dD ?_|refine dF ?_|refine d0 ?_|refine d1 ?_|refine dL ?_|refine dP ?_|refine yl ?_|refine ym ?_|refine yn ?_|refine ⟨_,fun _=>(IntKind.wrap_u64 _).symm,?_⟩); conv=>whnf)|(refine yt ?_; conv=>whnf)|exact ⟨_,.keep rfl rfl⟩|fail
 ·refine ⟨_,.keep (congrArg AV.b (decide_eq_false fun e=>hc ?_).symm) rfl⟩
  rw [e]
 ·refine lp [7] (fun k : Nat=>[.i .i64 k]) (fun k=>[(2,bx a),(3,bx b)]) (fun k=>k <= (a.blocks.getD q Enc.d).code.length /\ ∀ i,i < k -> (a.blocks.getD q Enc.d).code.getD i Enc.d = (b.blocks.getD q Enc.d).code.getD i Enc.d) (fun k=>(a.blocks.getD q Enc.d).code.length - k) 0 ⟨by omega,fun i h=>by omega⟩ ?_ fun k hk=>?_
  ·refine eP [] [] ?_ ?_ <;> repeat' first|exact eN|refine And.intro ?_ ?_
  conv=>whnf
  obtain ⟨hk,hw⟩ := hk
  have h4 := ins_le a q k
  repeat' first|(refine iF (fun hb=>?_) (fun hb=>?_) <;> (try simp only [yv] at hb) <;> (have hc := hb; try simp only [sB,Int.reduceToNat] at hc; try simp only [addZ0] at hc) <;> first|(exfalso; omega)|conv=>whnf)|((first|refine ya ?_|refine yb ?_|refine yc ?_|refine yd ?_|refine yf ?_|refine yh ?_|refine yj ?_|refine dD ?_|refine dF ?_|refine d0 ?_|refine d1 ?_|refine dL ?_|refine dP ?_|refine yl ?_|refine ym ?_|refine yn ?_|refine ⟨_,fun _=>(IntKind.wrap_u64 _).symm,?_⟩); conv=>whnf)|((first|refine cK (fun _=>Instrs_S _ _ (Nat.lt_of_le_of_lt h4 ha)) ?_|((try (refine CallW.lent ?_; (conv=>whnf); repeat (refine yb ?_; (conv=>whnf)))); refine cL (fun _=>Instrs_S _ _ (Nat.lt_of_le_of_lt h4 ha)) ?_)); conv=>whnf)|(refine yt ?_; conv=>whnf)|exact ⟨_,.keep rfl rfl⟩|fail
  ·exact ⟨_,.keep (congrArg AV.b (decide_eq_false fun e=>hc (by rw [e])).symm) rfl⟩
  ·refine .mk (k + 1) ⟨by omega,all_step hw hc⟩ (by omega) ?_
   refine eP [] [] ?_ ?_ <;> repeat' first|exact eN|refine And.intro ?_ ?_
  ·refine .mk (q + 1) ⟨by omega,all_step hv (BlkE.ext1 (ext_getD (by omega) fun i hi=>hw i (by omega)))⟩ (by omega) ?_
   refine eP [] [] ?_ ?_ <;> repeat' first|exact eN|refine And.intro ?_ ?_
 ·refine ⟨_,.keep (congrArg AV.b ?_) rfl⟩
  have e : a.blocks = b.blocks := ext_getD (by omega) fun i hi=>hv i (by omega)
  cases a; cases b; simp_all
def cfO (f : FnE) (b : Nat) : Os := [(1,bx f),(2,bx (Enc.d : FnE)),(3,.box none none [.s f.name,.orow 19 1 0 f.params.length,.i .i64 f.ret,.orow 73 1 0 b]),(19,oL f.params),(73,.row none 1 b fun i=>Enc.enc (f.blocks.getD i Enc.d))]
theorem CopyFunc_S (f : FnE) (hs : siz f < 4294967296) : ASpec Tryz.prog 8 [eS f] (eS f) [] := by
 have h1 := blocks_le f
 have h2 := params_le f
 refine ASpec.enter TYok mixed Tryz.func8 rfl Tryz.call8 Tryz.ntmps8 rfl (rs := [.cell 2 34]) rfl (nodupB_ok rfl) (Clo.one rfl) (keep := [0,1,2,3,4,5,6,7,8,9]) ?_; conv=>whnf
 repeat' first|(refine iF (fun hb=>?_) (fun hb=>?_) <;> (try simp only [yv] at hb) <;> (have hc := hb; try simp only [sB,Int.reduceToNat] at hc; try simp only [addZ0] at hc) <;> first|(exfalso; omega)|conv=>whnf)|((first|refine ya ?_|refine yb ?_|refine yc ?_|refine yd ?_|refine yf ?_|refine yh ?_|refine yj ?_|refine dD ?_|refine dF ?_|refine d0 ?_|refine d1 ?_|refine dL ?_|refine dP ?_|refine yl ?_|refine ym ?_|refine yn ?_|refine ⟨_,fun _=>(IntKind.wrap_u64 _).symm,?_⟩); conv=>whnf)|(refine yt ?_; conv=>whnf)|exact ⟨_,.keep rfl rfl⟩|fail
 refine lp [4] (fun b : Nat=>[.i .i64 b]) (cfO f) (fun b=>b <= f.blocks.length) (fun b=>f.blocks.length - b) 0 (by omega) ?_ fun b hb0=>?_
 ·refine eP [] [73] ?_ ?_ <;> repeat' first|exact eN|refine And.intro ?_ ?_
 conv=>whnf
 have h3 := code_le f b
 repeat' first|(refine iF (fun hb=>?_) (fun hb=>?_) <;> (try simp only [yv] at hb) <;> (have hc := hb; try simp only [sB,Int.reduceToNat] at hc; try simp only [addZ0] at hc) <;> first|(exfalso; omega)|conv=>whnf)|((first|refine ya ?_|refine yb ?_|refine yc ?_|refine yd ?_|refine yf ?_|refine yh ?_|refine yj ?_|refine dD ?_|refine dF ?_|refine d0 ?_|refine d1 ?_|refine dL ?_|refine dP ?_|refine yl ?_|refine ym ?_|refine yn ?_|refine ⟨_,fun _=>(IntKind.wrap_u64 _).symm,?_⟩); conv=>whnf)|(refine yt ?_; conv=>whnf)|exact ⟨_,.keep rfl rfl⟩|fail
 ·refine lp [6,5] (fun k : Nat=>[.i .i64 k,.orow 5 7 0 k]) (fun k=>(5,.row none 7 k fun i=>Enc.enc ((f.blocks.getD b Enc.d).code.getD i Enc.d)) :: cfO f b) (fun k=>k <= (f.blocks.getD b Enc.d).code.length) (fun k=>(f.blocks.getD b Enc.d).code.length - k) 0 (by omega) ?_ fun k hk=>?_
  ·refine eP [] [5] ?_ ?_ <;> repeat' first|exact eN|refine And.intro ?_ ?_
  conv=>whnf
  have h4 := ins_le f b k
  have h5 := args_le ((f.blocks.getD b Enc.d).code.getD k Enc.d)
  have h6 := to_le ((f.blocks.getD b Enc.d).code.getD k Enc.d)
  repeat' first|(refine iF (fun hb=>?_) (fun hb=>?_) <;> (try simp only [yv] at hb) <;> (have hc := hb; try simp only [sB,Int.reduceToNat] at hc; try simp only [addZ0] at hc) <;> first|(exfalso; omega)|conv=>whnf)|((first|refine ya ?_|refine yb ?_|refine yc ?_|refine yd ?_|refine yf ?_|refine yh ?_|refine yj ?_|refine dD ?_|refine dF ?_|refine d0 ?_|refine d1 ?_|refine dL ?_|refine dP ?_|refine yl ?_|refine ym ?_|refine yn ?_|refine ⟨_,fun _=>(IntKind.wrap_u64 _).symm,?_⟩); conv=>whnf)|(refine yt ?_; conv=>whnf)|exact ⟨_,.keep rfl rfl⟩|fail
  ·refine .mk (k + 1) (by omega) (by omega) ?_
   refine eP [(5,63)] [] ?_ ?_ <;> repeat' first|exact eN|refine And.intro ?_ ?_
   exact snoc_fun rfl
  ·obtain rfl : k = (f.blocks.getD b Enc.d).code.length := by omega
   refine .mk (b + 1) (by omega) (by omega) ?_
   refine eP [(73,69)] [] ?_ ?_ <;> repeat' first|exact eN|refine And.intro ?_ ?_
   exact snoc_fun rfl
 ·have e : b = f.blocks.length := by omega
  subst e
  exact ⟨_,.agg (.cons (.keep rfl rfl) (.cons (.freeze rfl (by omega) rfl (fun _ _=>rfl) rfl) (.cons (.keep rfl rfl) (.cons (.freeze rfl (by omega) rfl (fun _ _=>rfl) rfl) .nil (nodupB_ok rfl)) (nodupB_ok rfl)) (nodupB_ok rfl)) (nodupB_ok rfl))⟩
theorem Has_S (l : List Int) (x : Int) (hl : l.length < 9223372036854775807) : ASpec Tryz.prog 121 [eL l,.i .i64 x] (.b (l.contains x)) [] := by
 refine ASpec.enter TYok mixed Tryz.func121 rfl Tryz.call121 Tryz.ntmps121 rfl (rs := [.tmp 4]) rfl (nodupB_ok rfl) (Clo.one rfl) (keep := [0,1,4,5]) ?_; conv=>whnf
 refine lp [5] (fun q : Nat=>[.i .i64 q]) (fun q=>[]) (fun q=>q <= l.length /\ l.contains x = (l.drop q).contains x) (fun q=>l.length - q) 0 ⟨by omega,rfl⟩ ?_ fun q hq=>?_
 ·refine eP [] [] ?_ ?_ <;> repeat' first|exact eN|refine And.intro ?_ ?_
 conv=>whnf
 obtain ⟨hq,hv⟩ := hq
 repeat' first|(refine iF (fun hb=>?_) (fun hb=>?_) <;> (try simp only [yv] at hb) <;> (have hc := hb; try simp only [sB,Int.reduceToNat] at hc; try simp only [addZ0] at hc) <;> first|(exfalso; omega)|conv=>whnf)|((first|refine ya ?_|refine yb ?_|refine yc ?_|refine yd ?_|refine yf ?_|refine yh ?_|refine yj ?_|refine dD ?_|refine dF ?_|refine d0 ?_|refine d1 ?_|refine dL ?_|refine dP ?_|refine yl ?_|refine ym ?_|refine yn ?_|refine ⟨_,fun _=>(IntKind.wrap_u64 _).symm,?_⟩); conv=>whnf)|(refine yt ?_; conv=>whnf)|exact ⟨_,.keep rfl rfl⟩|fail
 ·exact ⟨_,.keep (congrArg AV.b (by rw [hv,contains_drop x (by omega)]; simp at hc; simp [hc])) rfl⟩
 ·refine .mk (q + 1) ⟨by omega,?_⟩ (by omega) ?_
  ·rw [hv,contains_drop x (by omega)]; simp at hc; simp [hc]
  ·refine eP [] [] ?_ ?_ <;> repeat' first|exact eN|refine And.intro ?_ ?_
 ·exact ⟨_,.keep (congrArg AV.b (by rw [hv,List.drop_eq_nil_of_le (by omega)]; rfl)) rfl⟩
def Count (t : Int) : Int := if t = 65 then 8 else if t < 1 \/ 64 < t then 0 else (t + 7) / 8
theorem Count_S (t : Int) : ASpec Tryz.prog 141 [.i .i64 t] (.i .i64 (Count t)) [] := by
 refine ASpec.enter TYok mixed Tryz.func141 rfl Tryz.call141 Tryz.ntmps141 rfl (rs := [.tmp 2]) rfl (nodupB_ok rfl) (Clo.one rfl) (keep := [0,2,3]) ?_; conv=>whnf
 repeat' first|(refine iF (fun hb=>?_) (fun hb=>?_) <;> (try simp only [yv] at hb) <;> (have hc := hb; try simp only [sB,Int.reduceToNat] at hc; try simp only [addZ0] at hc) <;> first|(exfalso; omega)|conv=>whnf)|((first|refine ya ?_|refine yb ?_|refine yc ?_|refine yd ?_|refine yf ?_|refine yh ?_|refine yj ?_|refine dD ?_|refine dF ?_|refine d0 ?_|refine d1 ?_|refine dL ?_|refine dP ?_|refine yl ?_|refine ym ?_|refine yn ?_|refine ⟨_,fun _=>(IntKind.wrap_u64 _).symm,?_⟩); conv=>whnf)|(refine yt ?_; conv=>whnf)|exact ⟨_,.keep rfl rfl⟩|fail
 ·exact ⟨_,.keep (by (try simp only [pickB_or,pickB_and]); unfold Count; repeat' (first|rfl|omega|split|(simp_all; done))) rfl⟩
 ·exact ⟨_,.keep (by (try simp only [pickB_or,pickB_and]); unfold Count; repeat' (first|rfl|omega|split|(simp_all; done))) rfl⟩
 refine lp [3] (fun q : Nat=>[.i .i64 (q + 1)]) (fun q=>[]) (fun q=>8 * (q : Int) < t) (fun q=>64 - q) 0 (by omega) ?_ fun q hq=>?_
 ·refine eP [] [] ?_ ?_ <;> repeat' first|exact eN|refine And.intro ?_ ?_
 conv=>whnf
 repeat' first|(refine iF (fun hb=>?_) (fun hb=>?_) <;> (try simp only [yv] at hb) <;> (have hc := hb; try simp only [sB,Int.reduceToNat] at hc; try simp only [addZ0] at hc) <;> first|(exfalso; omega)|conv=>whnf)|((first|refine ya ?_|refine yb ?_|refine yc ?_|refine yd ?_|refine yf ?_|refine yh ?_|refine yj ?_|refine dD ?_|refine dF ?_|refine d0 ?_|refine d1 ?_|refine dL ?_|refine dP ?_|refine yl ?_|refine ym ?_|refine yn ?_|refine ⟨_,fun _=>(IntKind.wrap_u64 _).symm,?_⟩); conv=>whnf)|(refine yt ?_; conv=>whnf)|exact ⟨_,.keep rfl rfl⟩|fail
 ·refine .mk (q + 1) (by omega) (by omega) ?_
  refine eP [] [] ?_ ?_ <;> repeat' first|exact eN|refine And.intro ?_ ?_
 ·exact ⟨_,.keep (congrArg (AV.i _) (by rw [Count,if_neg (by omega),if_neg (by omega)]; omega)) rfl⟩
def kindB (s : ByteArray) (i : Int) : Int := if (s.size : Int) <= i then 0 else if (97 <= byteAt s i /\ byteAt s i <= 122) \/ byteAt s i = 95 then 1 else if 48 <= byteAt s i /\ byteAt s i <= 57 then 2 else 0
theorem kind_S (s : ByteArray) (i : Int) (hi : 0 <= i) : ASpec Tryz.prog 139 [.s s,.i .i64 i] (.i .i64 (kindB s i)) [] := by
 refine ASpec.enter TYok mixed Tryz.func139 rfl Tryz.call139 Tryz.ntmps139 rfl (rs := [.tmp 4]) rfl (nodupB_ok rfl) (Clo.one rfl) (keep := [0,1,4,5]) ?_; conv=>whnf
 repeat' first|(refine iF (fun hb=>?_) (fun hb=>?_) <;> (try simp only [yv] at hb) <;> (have hc := hb; try simp only [sB,Int.reduceToNat] at hc; try simp only [addZ0] at hc) <;> first|(exfalso; omega)|conv=>whnf)|((first|refine ya ?_|refine yb ?_|refine yc ?_|refine yd ?_|refine yf ?_|refine yh ?_|refine yj ?_|refine dD ?_|refine dF ?_|refine d0 ?_|refine d1 ?_|refine dL ?_|refine dP ?_|refine yl ?_|refine ym ?_|refine yn ?_|refine ⟨_,fun _=>(IntKind.wrap_u64 _).symm,?_⟩); conv=>whnf)|(refine yt ?_; conv=>whnf)|exact ⟨_,.keep rfl rfl⟩|fail
 all_goals exact ⟨_,.keep (by (try simp only [pickB_or,pickB_and]); unfold kindB; repeat' (first|rfl|omega|split|(simp_all; done))) rfl⟩
def runN (p : Nat -> Bool) : Nat -> Nat -> Nat
 | 0,_=>0
 | f + 1,j=>bif p j then runN p f (j + 1) + 1 else 0
theorem runN_eq {p : Nat -> Bool} : ∀ {q f a : Nat},q <= f -> (∀ j,j < q -> p (a + j) = true) -> p (a + q) = false -> runN p f a = q
 | 0,0,a,_,_,_=>rfl
 | 0,f + 1,a,_,_,h=>by rw [runN,show p a = false from h]; rfl
 | q + 1,f + 1,a,hf,hj,h=>by
  rw [runN,show p a = true from hj 0 (by omega),cond_true,runN_eq (q := q) (by omega) (fun j h'=>by rw [show a + 1 + j = a + (j + 1) by omega]; exact hj _ (by omega)) (by rw [show a + 1 + q = a + (q + 1) by omega]; exact h)]
def kp (s : ByteArray) (j : Nat) : Bool := !decide (kindB s j = 0)
def wordN (s : ByteArray) (i : Nat) : Nat := if kindB s i = 1 then runN (kp s) s.size (i + 1) + 1 else 0
theorem kind_lt {s : ByteArray} {i : Int} (h : kindB s i ≠ 0) : i < s.size := by
 unfold kindB at h; split at h
 ·exact absurd rfl h
 ·omega
theorem word_S (s : ByteArray) (i : Nat) (hi : i <= s.size) (hs : s.size < 4294967296) : ASpec Tryz.prog 113 [.s s,.i .i64 i] (.i .i64 (wordN s i)) [] := by
 refine ASpec.enter TYok mixed Tryz.func113 rfl Tryz.call113 Tryz.ntmps113 rfl (rs := [.tmp 4]) rfl (nodupB_ok rfl) (Clo.one rfl) (keep := [0,1,4,5]) ?_; conv=>whnf
 repeat' first|(refine iF (fun hb=>?_) (fun hb=>?_) <;> (try simp only [yv] at hb) <;> (have hc := hb; try simp only [sB,Int.reduceToNat] at hc; try simp only [addZ0] at hc) <;> first|(exfalso; omega)|conv=>whnf)|((first|refine ya ?_|refine yb ?_|refine yc ?_|refine yd ?_|refine yf ?_|refine yh ?_|refine yj ?_|refine dD ?_|refine dF ?_|refine d0 ?_|refine d1 ?_|refine dL ?_|refine dP ?_|refine yl ?_|refine ym ?_|refine yn ?_|refine ⟨_,fun _=>(IntKind.wrap_u64 _).symm,?_⟩); conv=>whnf)|((first|refine cK (fun _=>kind_S _ _ (by omega)) ?_|((try (refine CallW.lent ?_; (conv=>whnf); repeat (refine yb ?_; (conv=>whnf)))); refine cL (fun _=>kind_S _ _ (by omega)) ?_)); conv=>whnf)|(refine yt ?_; conv=>whnf)|exact ⟨_,.keep rfl rfl⟩|fail
 ·exact ⟨_,.keep (by (try simp only [pickB_or,pickB_and]); unfold wordN; repeat' (first|rfl|omega|split|(simp_all; done))) rfl⟩
 have h0 := kind_lt (s := s) (i := i) (by omega)
 refine lp [5] (fun q : Nat=>[.i .i64 (q + 1)]) (fun q=>[]) (fun q=>i + 1 + q <= s.size /\ ∀ j,j < q -> kp s (i + 1 + j) = true) (fun q=>s.size - q) 0 ⟨by omega,fun j h=>by omega⟩ ?_ fun q hq=>?_
 ·refine eP [] [] ?_ ?_ <;> repeat' first|exact eN|refine And.intro ?_ ?_
 conv=>whnf
 obtain ⟨hq,hv⟩ := hq
 repeat' first|(refine iF (fun hb=>?_) (fun hb=>?_) <;> (try simp only [yv] at hb) <;> (have hc := hb; try simp only [sB,Int.reduceToNat] at hc; try simp only [addZ0] at hc) <;> first|(exfalso; omega)|conv=>whnf)|((first|refine ya ?_|refine yb ?_|refine yc ?_|refine yd ?_|refine yf ?_|refine yh ?_|refine yj ?_|refine dD ?_|refine dF ?_|refine d0 ?_|refine d1 ?_|refine dL ?_|refine dP ?_|refine yl ?_|refine ym ?_|refine yn ?_|refine ⟨_,fun _=>(IntKind.wrap_u64 _).symm,?_⟩); conv=>whnf)|((first|refine cK (fun _=>kind_S _ _ (by omega)) ?_|((try (refine CallW.lent ?_; (conv=>whnf); repeat (refine yb ?_; (conv=>whnf)))); refine cL (fun _=>kind_S _ _ (by omega)) ?_)); conv=>whnf)|(refine yt ?_; conv=>whnf)|exact ⟨_,.keep rfl rfl⟩|fail
 ·have h1 := kind_lt hc
  refine .mk (q + 1) ⟨by omega,all_step hv ?_⟩ (by omega) ?_
  ·have e : ((i + 1 + q : Nat) : Int) = i + (q + 1) := by omega
   unfold kp; rw [e]; exact hb
  ·refine eP [] [] ?_ ?_ <;> repeat' first|exact eN|refine And.intro ?_ ?_
 ·have e : ((i + 1 + q : Nat) : Int) = i + (q + 1) := by omega
  refine ⟨_,.keep (congrArg (AV.i _) ?_) rfl⟩
  rw [wordN,if_pos (by omega),runN_eq (q := q) (by omega) hv (by unfold kp; rw [e]; exact hb)]; rfl
def Word (s : ByteArray) : Bool := decide (0 < (s.size : Int)) && decide ((wordN s 0 : Int) = s.size)
theorem Word_S (s : ByteArray) (hs : s.size < 4294967296) : ASpec Tryz.prog 68 [.s s] (.b (Word s)) [] := by
 refine ASpec.enter TYok mixed Tryz.func68 rfl Tryz.call68 Tryz.ntmps68 rfl (rs := [.tmp 2]) rfl (nodupB_ok rfl) (Clo.one rfl) (keep := [0,2]) ?_; conv=>whnf
 repeat' first|(refine iF (fun hb=>?_) (fun hb=>?_) <;> (try simp only [yv] at hb) <;> (have hc := hb; try simp only [sB,Int.reduceToNat] at hc; try simp only [addZ0] at hc) <;> first|(exfalso; omega)|conv=>whnf)|((first|refine ya ?_|refine yb ?_|refine yc ?_|refine yd ?_|refine yf ?_|refine yh ?_|refine yj ?_|refine dD ?_|refine dF ?_|refine d0 ?_|refine d1 ?_|refine dL ?_|refine dP ?_|refine yl ?_|refine ym ?_|refine yn ?_|refine ⟨_,fun _=>(IntKind.wrap_u64 _).symm,?_⟩); conv=>whnf)|((first|refine cK (fun _=>word_S _ 0 (by omega) hs) ?_|((try (refine CallW.lent ?_; (conv=>whnf); repeat (refine yb ?_; (conv=>whnf)))); refine cL (fun _=>word_S _ 0 (by omega) hs) ?_)); conv=>whnf)|(refine yt ?_; conv=>whnf)|exact ⟨_,.keep rfl rfl⟩|fail
theorem irEnds_S (op : Int) : ASpec Tryz.prog 124 [.i .i64 op] (.b (Ends op)) [] := by
 have e : Ends op = (decide (31 <= op) && decide (op <= 34)) := by
  unfold Ends; rw [Bool.eq_iff_iff]; simp only [Bool.or_eq_true,Bool.and_eq_true,decide_eq_true_eq]; omega
 rw [e]
 refine ASpec.enter TYok mixed Tryz.func124 rfl Tryz.call124 Tryz.ntmps124 rfl (rs := [.tmp 2]) rfl (nodupB_ok rfl) (Clo.one rfl) (keep := [0,2]) ?_; conv=>whnf
 repeat' first|(refine iF (fun hb=>?_) (fun hb=>?_) <;> (try simp only [yv] at hb) <;> (have hc := hb; try simp only [sB,Int.reduceToNat] at hc; try simp only [addZ0] at hc) <;> first|(exfalso; omega)|conv=>whnf)|((first|refine ya ?_|refine yb ?_|refine yc ?_|refine yd ?_|refine yf ?_|refine yh ?_|refine yj ?_|refine dD ?_|refine dF ?_|refine d0 ?_|refine d1 ?_|refine dL ?_|refine dP ?_|refine yl ?_|refine ym ?_|refine yn ?_|refine ⟨_,fun _=>(IntKind.wrap_u64 _).symm,?_⟩); conv=>whnf)|(refine yt ?_; conv=>whnf)|exact ⟨_,.keep rfl rfl⟩|fail
theorem irResult_S (x : InsE) : ASpec Tryz.prog 61 [eS x] (.i .i64 (Result x)) [] := by
 refine ASpec.enter TYok mixed Tryz.func61 rfl Tryz.call61 Tryz.ntmps61 rfl (rs := [.tmp 2]) rfl (nodupB_ok rfl) (Clo.one rfl) (keep := [0,1,2,3]) ?_; conv=>whnf
 repeat' first|(refine iF (fun hb=>?_) (fun hb=>?_) <;> (try simp only [yv] at hb) <;> (have hc := hb; try simp only [sB,Int.reduceToNat] at hc; try simp only [addZ0] at hc) <;> first|(exfalso; omega)|conv=>whnf)|((first|refine ya ?_|refine yb ?_|refine yc ?_|refine yd ?_|refine yf ?_|refine yh ?_|refine yj ?_|refine dD ?_|refine dF ?_|refine d0 ?_|refine d1 ?_|refine dL ?_|refine dP ?_|refine yl ?_|refine ym ?_|refine yn ?_|refine ⟨_,fun _=>(IntKind.wrap_u64 _).symm,?_⟩); conv=>whnf)|(refine yt ?_; conv=>whnf)|exact ⟨_,.keep rfl rfl⟩|fail
 all_goals exact ⟨_,.keep (by (try simp only [pickB_or,pickB_and]); unfold Result; repeat' (first|rfl|omega|split|(simp_all; done))) rfl⟩
def quiet (op k : Int) : Bool := if op = 27 \/ op = 14 \/ op = 15 then true else if op = 28 then decide (k = 1) else if op = 29 then decide (k = 0) else false
theorem quiet_S (op k : Int) : ASpec Tryz.prog 123 [.i .i64 op,.i .i64 k] (.b (quiet op k)) [] := by
 refine ASpec.enter TYok mixed Tryz.func123 rfl Tryz.call123 Tryz.ntmps123 rfl (rs := [.tmp 4]) rfl (nodupB_ok rfl) (Clo.one rfl) (keep := [0,1,4,5]) ?_; conv=>whnf
 repeat' first|(refine iF (fun hb=>?_) (fun hb=>?_) <;> (try simp only [yv] at hb) <;> (have hc := hb; try simp only [sB,Int.reduceToNat] at hc; try simp only [addZ0] at hc) <;> first|(exfalso; omega)|conv=>whnf)|((first|refine ya ?_|refine yb ?_|refine yc ?_|refine yd ?_|refine yf ?_|refine yh ?_|refine yj ?_|refine dD ?_|refine dF ?_|refine d0 ?_|refine d1 ?_|refine dL ?_|refine dP ?_|refine yl ?_|refine ym ?_|refine yn ?_|refine ⟨_,fun _=>(IntKind.wrap_u64 _).symm,?_⟩); conv=>whnf)|(refine yt ?_; conv=>whnf)|exact ⟨_,.keep rfl rfl⟩|fail
 all_goals exact ⟨_,.keep (by (try simp only [pickB_or,pickB_and]); unfold quiet; repeat' (first|rfl|omega|split|(simp_all; done))) rfl⟩
theorem mem_Code {f : FnE} {x : InsE × Plc} (h : x ∈ Code f) : ∃ b i : Nat,b < f.blocks.length /\ i < (f.blocks.getD b Enc.d).code.length /\ x = ((f.blocks.getD b Enc.d).code.getD i Enc.d,⟨0,b,i⟩) := by
 simp only [Code,codeTo,pairs,List.range_zero,List.map_nil,List.append_nil,List.mem_flatMap,List.mem_map,List.mem_range] at h
 obtain ⟨b,hb,i,hi,rfl⟩ := h
 exact ⟨b,i,hb,hi,rfl⟩
theorem Def_mem {f : FnE} {reg : Int} (h : (Def f reg).2 = true) : ∃ b i : Nat,b < f.blocks.length /\ i < (f.blocks.getD b Enc.d).code.length /\ (Def f reg).1 = ⟨0,b,i⟩ := by
 unfold Def at h ⊢
 cases hq : (Code f).find? (dfP reg) with
 | none=>rw [hq] at h; cases h
 | some p =>
  obtain ⟨b,i,hb,hi,rfl⟩ := mem_Code (List.mem_of_find?_eq_some hq)
  exact ⟨b,i,hb,hi,rfl⟩
def Maker (f : FnE) (v : Opd) : InsE × Int := if v.k = 1 /\ (Def f v.n).2 = true then ((f.blocks.getD (Def f v.n).1.b.toNat Enc.d).code.getD (Def f v.n).1.i.toNat Enc.d,(Def f v.n).1.b) else (Enc.d,-1)
structure FaultE where
 code : Int
 at' : Plc
 deriving DecidableEq
instance : Enc FaultE := ⟨fun x=>[.i .i64 x.code,.i .i64 x.at'.f,.i .i64 x.at'.b,.i .i64 x.at'.i],4,⟨0,⟨0,0,0⟩⟩⟩
theorem at_S (c f b i : Int) : ASpec Tryz.prog 67 [.i .i64 c,.i .i64 f,.i .i64 b,.i .i64 i] (eS (⟨c,⟨f,b,i⟩⟩ : FaultE)) [] := by
 refine ASpec.enter TYok mixed Tryz.func67 rfl Tryz.call67 Tryz.ntmps67 rfl (rs := [.cell 8 54]) rfl (nodupB_ok rfl) (Clo.one rfl) (keep := [0,1,2,3,8]) ?_; conv=>whnf
 repeat' first|(refine iF (fun hb=>?_) (fun hb=>?_) <;> (try simp only [yv] at hb) <;> (have hc := hb; try simp only [sB,Int.reduceToNat] at hc; try simp only [addZ0] at hc) <;> first|(exfalso; omega)|conv=>whnf)|((first|refine ya ?_|refine yb ?_|refine yc ?_|refine yd ?_|refine yf ?_|refine yh ?_|refine yj ?_|refine dD ?_|refine dF ?_|refine d0 ?_|refine d1 ?_|refine dL ?_|refine dP ?_|refine yl ?_|refine ym ?_|refine yn ?_|refine ⟨_,fun _=>(IntKind.wrap_u64 _).symm,?_⟩); conv=>whnf)|(refine yt ?_; conv=>whnf)|exact ⟨_,.keep rfl rfl⟩|fail
theorem any_at {α : Type} {p : α -> Bool} {l : List α} {q : Nat} (d : α) (hq : q < l.length) (h : p (l.getD q d) = true) : l.any p = true := by
 rw [List.getD_eq_getElem?_getD,List.getElem?_eq_getElem hq] at h
 exact List.any_eq_true.2 ⟨_,List.getElem_mem hq,h⟩
theorem any_no {α : Type} {p : α -> Bool} {l : List α} (d : α) (h : ∀ i,i < l.length -> p (l.getD i d) = false) : l.any p = false := by
 rw [<- Bool.not_eq_true,List.any_eq_true]
 rintro ⟨x,hx,hp⟩
 obtain ⟨i,hi,rfl⟩ := List.getElem_of_mem hx
 have := h i hi
 rw [List.getD_eq_getElem?_getD,List.getElem?_eq_getElem hi] at this
 rw [show p l[i] = false from this] at hp; cases hp
def badP (most p : Int) : Bool := decide (p < 1) || decide (most < p)
def headF (name : ByteArray) (known : List ByteArray) (params : List Int) (ret most : Int) : Int :=
 if Word name = false then 4 else if (known.any fun k=>decide (k = name)) = true then 5 else if 8 < params.length then 6 else if params.any (badP most) = true then 7 else if ret < 0 \/ most < ret then 7 else 0
theorem head_S (name : ByteArray) (known : List ByteArray) (params : List Int) (ret most : Int) (h1 : name.size < 4294967296) (h2 : known.length < 4294967296) : ASpec Tryz.prog 69 [.s name,eL known,eL params,.i .i64 ret,.i .i64 most] (.i .i64 (headF name known params ret most)) [] := by
 refine ASpec.enter TYok mixed Tryz.func69 rfl Tryz.call69 Tryz.ntmps69 rfl (rs := [.tmp 10]) rfl (nodupB_ok rfl) (Clo.one rfl) (keep := [0,1,2,3,4,10,11,12,13]) ?_; conv=>whnf
 repeat' first|(refine iF (fun hb=>?_) (fun hb=>?_) <;> (try simp only [yv] at hb) <;> (have hc := hb; try simp only [sB,Int.reduceToNat] at hc; try simp only [addZ0] at hc) <;> first|(exfalso; omega)|conv=>whnf)|((first|refine ya ?_|refine yb ?_|refine yc ?_|refine yd ?_|refine yf ?_|refine yh ?_|refine yj ?_|refine dD ?_|refine dF ?_|refine d0 ?_|refine d1 ?_|refine dL ?_|refine dP ?_|refine yl ?_|refine ym ?_|refine yn ?_|refine ⟨_,fun _=>(IntKind.wrap_u64 _).symm,?_⟩); conv=>whnf)|((first|refine cK (fun _=>Word_S _ h1) ?_|((try (refine CallW.lent ?_; (conv=>whnf); repeat (refine yb ?_; (conv=>whnf)))); refine cL (fun _=>Word_S _ h1) ?_)); conv=>whnf)|(refine yt ?_; conv=>whnf)|exact ⟨_,.keep rfl rfl⟩|fail
 ·exact ⟨_,.keep (by (try simp only [pickB_or,pickB_and]); unfold headF; repeat' (first|rfl|omega|split|(simp_all; done))) rfl⟩
 have e1 := hc
 refine lp [12] (fun q : Nat=>[.i .i64 q]) (fun q=>[]) (fun q=>q <= known.length /\ ∀ i,i < q -> decide (known.getD i Enc.d = name) = false) (fun q=>known.length - q) 0 ⟨by omega,fun i h=>by omega⟩ ?_ fun q hq=>?_
 ·refine eP [] [] ?_ ?_ <;> repeat' first|exact eN|refine And.intro ?_ ?_
 conv=>whnf
 obtain ⟨hq,hv⟩ := hq
 repeat' first|(refine iF (fun hb=>?_) (fun hb=>?_) <;> (try simp only [yv] at hb) <;> (have hc := hb; try simp only [sB,Int.reduceToNat] at hc; try simp only [addZ0] at hc) <;> first|(exfalso; omega)|conv=>whnf)|((first|refine ya ?_|refine yb ?_|refine yc ?_|refine yd ?_|refine yf ?_|refine yh ?_|refine yj ?_|refine dD ?_|refine dF ?_|refine d0 ?_|refine d1 ?_|refine dL ?_|refine dP ?_|refine yl ?_|refine ym ?_|refine yn ?_|refine ⟨_,fun _=>(IntKind.wrap_u64 _).symm,?_⟩); conv=>whnf)|(refine yt ?_; conv=>whnf)|exact ⟨_,.keep rfl rfl⟩|fail
 ·have e2 : (known.any fun k=>decide (k = name)) = true := any_at Enc.d (by omega) hb
  exact ⟨_,.keep (by rw [headF,if_neg (by rw [e1]; simp),if_pos e2]) rfl⟩
 ·refine .mk (q + 1) ⟨by omega,all_step hv hb⟩ (by omega) ?_
  refine eP [] [] ?_ ?_ <;> repeat' first|exact eN|refine And.intro ?_ ?_
 ·have e2 : (known.any fun k=>decide (k = name)) = false := any_no Enc.d fun i hi=>hv i (by omega)
  exact ⟨_,.keep (by rw [headF,if_neg (by rw [e1]; simp),if_neg (by rw [e2]; simp),if_pos (by omega)]) rfl⟩
 have e2 : (known.any fun k=>decide (k = name)) = false := any_no Enc.d fun i hi=>hv i (by omega)
 have e3 : ¬ 8 < params.length := by omega
 refine lp [13] (fun q : Nat=>[.i .i64 q]) (fun q=>[]) (fun q=>q <= params.length /\ ∀ i,i < q -> badP most (params.getD i Enc.d) = false) (fun q=>params.length - q) 0 ⟨by omega,fun i h=>by omega⟩ ?_ fun k hk=>?_
 ·refine eP [] [] ?_ ?_ <;> repeat' first|exact eN|refine And.intro ?_ ?_
 conv=>whnf
 obtain ⟨hk,hw⟩ := hk
 repeat' first|(refine iF (fun hb=>?_) (fun hb=>?_) <;> (try simp only [yv] at hb) <;> (have hc := hb; try simp only [sB,Int.reduceToNat] at hc; try simp only [addZ0] at hc) <;> first|(exfalso; omega)|conv=>whnf)|((first|refine ya ?_|refine yb ?_|refine yc ?_|refine yd ?_|refine yf ?_|refine yh ?_|refine yj ?_|refine dD ?_|refine dF ?_|refine d0 ?_|refine d1 ?_|refine dL ?_|refine dP ?_|refine yl ?_|refine ym ?_|refine yn ?_|refine ⟨_,fun _=>(IntKind.wrap_u64 _).symm,?_⟩); conv=>whnf)|(refine yt ?_; conv=>whnf)|exact ⟨_,.keep rfl rfl⟩|fail
 ·have e4 : params.any (badP most) = true := any_at Enc.d (by omega) hb
  exact ⟨_,.keep (by rw [headF,if_neg (by rw [e1]; simp),if_neg (by rw [e2]; simp),if_neg e3,if_pos e4]) rfl⟩
 ·refine .mk (k + 1) ⟨by omega,all_step hw hb⟩ (by omega) ?_
  refine eP [] [] ?_ ?_ <;> repeat' first|exact eN|refine And.intro ?_ ?_
 all_goals have e4 : params.any (badP most) = false := any_no Enc.d fun i hi=>hw i (by omega)
 ·exact ⟨_,.keep (by rw [headF,if_neg (by rw [e1]; simp),if_neg (by rw [e2]; simp),if_neg e3,if_neg (by rw [e4]; simp),if_pos (by omega)]) rfl⟩
 ·exact ⟨_,.keep (by rw [headF,if_neg (by rw [e1]; simp),if_neg (by rw [e2]; simp),if_neg e3,if_neg (by rw [e4]; simp),if_neg (by omega)]) rfl⟩
def firstC (c : Nat -> Int) (n : Nat) : Option Nat := (List.range n).find? fun i=>!decide (c i = 0)
theorem range_getD {n i : Nat} (h : i < n) : (List.range n).getD i 0 = i := by
 rw [List.getD_eq_getElem?_getD,List.getElem?_range h]; rfl
theorem firstC_at {c : Nat -> Int} {n q : Nat} (hq : q < n) (hv : ∀ i,i < q -> c i = 0) (h : c q ≠ 0) : firstC c n = some q := by
 unfold firstC
 rw [find_take 0 (q := q) (by simpa using hq) (fun i hi=>by rw [range_getD (by omega),hv i hi]; rfl) (by rw [range_getD hq]; simp [h]),range_getD hq]
theorem firstC_no {c : Nat -> Int} {n : Nat} (hv : ∀ i,i < n -> c i = 0) : firstC c n = none := by
 unfold firstC
 exact find_no 0 fun i hi=>by rw [List.length_range] at hi; rw [range_getD hi,hv i hi]; rfl
def varCode (m : ModE) (i : Nat) : Int :=
 let x := m.vars.getD i Enc.d
 if Word x.name = false then 4 else if ((m.vars.take i).any fun y=>decide (y.name = x.name)) = true then 5 else if x.size < 1 \/ 64 < x.size then 6 else 0
def extCode (m : ModE) (i : Nat) : Int :=
 let x := m.exts.getD i Enc.d
 headF x.name ((m.exts.take i).map (·.name)) x.params x.ret 64
def fnCode (m : ModE) (i : Nat) : Int :=
 let x := m.funcs.getD i Enc.d
 headF x.name (m.exts.map (·.name) ++ (m.funcs.take i).map (·.name)) x.params x.ret 65
def headsF (m : ModE) : FaultE :=
 if 8 < m.vars.length \/ 8 < m.exts.length \/ 8 < m.funcs.length then ⟨6,⟨-1,0,0⟩⟩ else
 match firstC (varCode m) m.vars.length with
 | some i=>⟨varCode m i,⟨-1,0,0⟩⟩
 | none=>match firstC (extCode m) m.exts.length with
  | some i=>⟨extCode m i,⟨-1,0,0⟩⟩
  | none=>match firstC (fnCode m) m.funcs.length with
   | some i=>⟨fnCode m i,⟨i,0,0⟩⟩
   | none=>⟨0,⟨0,0,0⟩⟩
theorem headsF_var {m : ModE} {q : Nat} (k1 : ¬(8 < m.vars.length \/ 8 < m.exts.length \/ 8 < m.funcs.length)) (hq : q < m.vars.length) (hv : ∀ i,i < q -> varCode m i = 0) (h : varCode m q ≠ 0) : headsF m = ⟨varCode m q,⟨-1,0,0⟩⟩ := by
 rw [headsF,if_neg k1,firstC_at hq hv h]
theorem headsF_ext {m : ModE} {q : Nat} (k1 : ¬(8 < m.vars.length \/ 8 < m.exts.length \/ 8 < m.funcs.length)) (k2 : firstC (varCode m) m.vars.length = none) (hq : q < m.exts.length) (hv : ∀ i,i < q -> extCode m i = 0) (h : extCode m q ≠ 0) : headsF m = ⟨extCode m q,⟨-1,0,0⟩⟩ := by
 rw [headsF,if_neg k1,k2,firstC_at hq hv h]
theorem headsF_fn {m : ModE} {q : Nat} (k1 : ¬(8 < m.vars.length \/ 8 < m.exts.length \/ 8 < m.funcs.length)) (k2 : firstC (varCode m) m.vars.length = none) (k3 : firstC (extCode m) m.exts.length = none) (hq : q < m.funcs.length) (hv : ∀ i,i < q -> fnCode m i = 0) (h : fnCode m q ≠ 0) : headsF m = ⟨fnCode m q,⟨q,0,0⟩⟩ := by
 rw [headsF,if_neg k1,k2,k3,firstC_at hq hv h]
theorem take_any {α : Type} {p : α -> Bool} {l : List α} {q k : Nat} (d : α) (hk : k < q) (hq : q <= l.length) (h : p (l.getD k d) = true) : (l.take q).any p = true := by
 refine any_at (q := k) d (by rw [List.length_take]; omega) ?_
 rwa [List.getD_eq_getElem?_getD,List.getElem?_take_of_lt hk,<- List.getD_eq_getElem?_getD]
theorem take_no {α : Type} {p : α -> Bool} {l : List α} {q : Nat} (d : α) (h : ∀ k,k < q -> p (l.getD k d) = false) : (l.take q).any p = false := by
 refine any_no d fun i hi=>?_
 rw [List.length_take] at hi
 rw [List.getD_eq_getElem?_getD,List.getElem?_take_of_lt (by omega),<- List.getD_eq_getElem?_getD]
 exact h i (by omega)
theorem heads_S (m : ModE) (hs : siz m < 4294967296) : ASpec Tryz.prog 38 [eS m] (eS (headsF m)) [] := by
 have h0 : siz m = siz m.vars + siz m.exts + siz m.funcs := rfl
 refine ASpec.enter TYok mixed Tryz.func38 rfl Tryz.call38 Tryz.ntmps38 rfl (rs := [.cell 2 54]) rfl (nodupB_ok rfl) (Clo.one rfl) (keep := [0,1,2,3,4,5,6,7,8,9,10,11,12]) ?_; conv=>whnf
 repeat' first|(refine iF (fun hb=>?_) (fun hb=>?_) <;> (try simp only [yv] at hb) <;> (have hc := hb; try simp only [sB,Int.reduceToNat] at hc; try simp only [addZ0] at hc) <;> first|(exfalso; omega)|conv=>whnf)|((first|refine ya ?_|refine yb ?_|refine yc ?_|refine yd ?_|refine yf ?_|refine yh ?_|refine yj ?_|refine dD ?_|refine dF ?_|refine d0 ?_|refine d1 ?_|refine dL ?_|refine dP ?_|refine yl ?_|refine ym ?_|refine yn ?_|refine ⟨_,fun _=>(IntKind.wrap_u64 _).symm,?_⟩); conv=>whnf)|((first|refine cK (fun _=>at_S _ _ _ _) ?_|((try (refine CallW.lent ?_; (conv=>whnf); repeat (refine yb ?_; (conv=>whnf)))); refine cL (fun _=>at_S _ _ _ _) ?_)); conv=>whnf)|(refine yt ?_; conv=>whnf)|exact ⟨_,.keep rfl rfl⟩|fail
 ·exact ⟨_,.keep (by rw [headsF,if_pos (by omega)]; rfl) rfl⟩
 have k1 : ¬(8 < m.vars.length \/ 8 < m.exts.length \/ 8 < m.funcs.length) := by omega
 refine lp [3] (fun q : Nat=>[.i .i64 q]) (fun q=>[(1,bx m),(2,bx (Enc.d : FaultE))]) (fun q=>q <= m.vars.length /\ ∀ i,i < q -> varCode m i = 0) (fun q=>m.vars.length - q) 0 ⟨by omega,fun i h=>by omega⟩ ?_ fun q hq=>?_
 ·refine eP [] [] ?_ ?_ <;> repeat' first|exact eN|refine And.intro ?_ ?_
 conv=>whnf
 obtain ⟨hq,hv⟩ := hq
 have h1 : (m.vars.getD q Enc.d).name.size <= siz m.vars := siz_at m.vars q
 repeat' first|(refine iF (fun hb=>?_) (fun hb=>?_) <;> (try simp only [yv] at hb) <;> (have hc := hb; try simp only [sB,Int.reduceToNat] at hc; try simp only [addZ0] at hc) <;> first|(exfalso; omega)|conv=>whnf)|((first|refine ya ?_|refine yb ?_|refine yc ?_|refine yd ?_|refine yf ?_|refine yh ?_|refine yj ?_|refine dD ?_|refine dF ?_|refine d0 ?_|refine d1 ?_|refine dL ?_|refine dP ?_|refine yl ?_|refine ym ?_|refine yn ?_|refine ⟨_,fun _=>(IntKind.wrap_u64 _).symm,?_⟩); conv=>whnf)|((first|refine cK (fun _=>Word_S _ (by simp only [Int.toNat_natCast]; omega)) ?_|((try (refine CallW.lent ?_; (conv=>whnf); repeat (refine yb ?_; (conv=>whnf)))); refine cL (fun _=>Word_S _ (by simp only [Int.toNat_natCast]; omega)) ?_)); conv=>whnf)|((first|refine cK (fun _=>at_S _ _ _ _) ?_|((try (refine CallW.lent ?_; (conv=>whnf); repeat (refine yb ?_; (conv=>whnf)))); refine cL (fun _=>at_S _ _ _ _) ?_)); conv=>whnf)|(refine yt ?_; conv=>whnf)|exact ⟨_,.keep rfl rfl⟩|fail
 ·have e : varCode m q = 4 := by simp only [varCode]; rw [if_pos hc]
  exact ⟨_,.keep (by rw [headsF_var k1 (by omega) hv (by omega),e]; rfl) rfl⟩
 ·have e1 := hc
  refine lp [5] (fun k : Nat=>[.i .i64 k]) (fun k=>[(1,bx m),(2,bx (Enc.d : FaultE))]) (fun k=>k <= q /\ ∀ i,i < k -> decide ((m.vars.getD i Enc.d).name = (m.vars.getD q Enc.d).name) = false) (fun k=>q - k) 0 ⟨by omega,fun i h=>by omega⟩ ?_ fun k hk=>?_
  ·refine eP [] [] ?_ ?_ <;> repeat' first|exact eN|refine And.intro ?_ ?_
  conv=>whnf
  obtain ⟨hk,hw⟩ := hk
  repeat' first|(refine iF (fun hb=>?_) (fun hb=>?_) <;> (try simp only [yv] at hb) <;> (have hc := hb; try simp only [sB,Int.reduceToNat] at hc; try simp only [addZ0] at hc) <;> first|(exfalso; omega)|conv=>whnf)|((first|refine ya ?_|refine yb ?_|refine yc ?_|refine yd ?_|refine yf ?_|refine yh ?_|refine yj ?_|refine dD ?_|refine dF ?_|refine d0 ?_|refine d1 ?_|refine dL ?_|refine dP ?_|refine yl ?_|refine ym ?_|refine yn ?_|refine ⟨_,fun _=>(IntKind.wrap_u64 _).symm,?_⟩); conv=>whnf)|((first|refine cK (fun _=>at_S _ _ _ _) ?_|((try (refine CallW.lent ?_; (conv=>whnf); repeat (refine yb ?_; (conv=>whnf)))); refine cL (fun _=>at_S _ _ _ _) ?_)); conv=>whnf)|(refine yt ?_; conv=>whnf)|exact ⟨_,.keep rfl rfl⟩|fail
  ·have e : varCode m q = 5 := by simp only [varCode]; rw [if_neg (by rw [e1]; simp),if_pos (take_any Enc.d (by omega) hq hb)]
   exact ⟨_,.keep (by rw [headsF_var k1 (by omega) hv (by omega),e]; rfl) rfl⟩
  ·refine .mk (k + 1) ⟨by omega,all_step hw hb⟩ (by omega) ?_
   refine eP [] [] ?_ ?_ <;> repeat' first|exact eN|refine And.intro ?_ ?_
  ·have e : varCode m q = 6 := by simp only [varCode]; rw [if_neg (by rw [e1]; simp),if_neg (by rw [take_no Enc.d fun i hi=>hw i (by omega)]; simp),if_pos hc]
   exact ⟨_,.keep (by rw [headsF_var k1 (by omega) hv (by omega),e]; rfl) rfl⟩
  ·have e : varCode m q = 0 := by simp only [varCode]; rw [if_neg (by rw [e1]; simp),if_neg (by rw [take_no Enc.d fun i hi=>hw i (by omega)]; simp),if_neg (by omega)]
   refine .mk (q + 1) ⟨by omega,all_step hv e⟩ (by omega) ?_
   refine eP [] [] ?_ ?_ <;> repeat' first|exact eN|refine And.intro ?_ ?_
 have k2 : firstC (varCode m) m.vars.length = none := firstC_no fun i hi=>hv i (by omega)
 have f1 : ∀ q,q <= m.exts.length -> ((m.exts.take q).map (·.name)).length = q := fun q h=>by rw [List.length_map,List.length_take]; omega
 have h2 := len_siz m.exts
 have h3 := len_siz m.funcs
 refine lp [7,6] (fun q : Nat=>[.i .i64 q,.orow 6 1 0 ((m.exts.take q).map (·.name)).length]) (fun q=>[(6,oL ((m.exts.take q).map (·.name))),(1,bx m),(2,bx (Enc.d : FaultE))]) (fun q=>q <= m.exts.length /\ ∀ i,i < q -> extCode m i = 0) (fun q=>m.exts.length - q) 0 ⟨by omega,fun i h=>by omega⟩ ?_ fun q hq=>?_
 ·refine eP [] [6] ?_ ?_ <;> repeat' first|exact eN|refine And.intro ?_ ?_
 conv=>whnf
 obtain ⟨hq,hx⟩ := hq
 have h4 : siz (m.exts.getD q Enc.d) <= siz m.exts := siz_at m.exts q
 have h5 : siz (m.exts.getD q Enc.d) = (m.exts.getD q Enc.d).name.size + siz (m.exts.getD q Enc.d).params := rfl
 have h6 := f1 q hq
 repeat' first|(refine iF (fun hb=>?_) (fun hb=>?_) <;> (try simp only [yv] at hb) <;> (have hc := hb; try simp only [sB,Int.reduceToNat] at hc; try simp only [addZ0] at hc) <;> first|(exfalso; omega)|conv=>whnf)|((first|refine ya ?_|refine yb ?_|refine yc ?_|refine yd ?_|refine yf ?_|refine yh ?_|refine yj ?_|refine dD ?_|refine dF ?_|refine d0 ?_|refine d1 ?_|refine dL ?_|refine dP ?_|refine yl ?_|refine ym ?_|refine yn ?_|refine ⟨_,fun _=>(IntKind.wrap_u64 _).symm,?_⟩); conv=>whnf)|((first|refine cK (fun _=>head_S _ ((m.exts.take q).map (·.name)) _ _ _ (by simp only [Int.toNat_natCast]; omega) (by omega)) ?_|((try (refine CallW.lent ?_; (conv=>whnf); repeat (refine yb ?_; (conv=>whnf)))); refine cL (fun _=>head_S _ ((m.exts.take q).map (·.name)) _ _ _ (by simp only [Int.toNat_natCast]; omega) (by omega)) ?_)); conv=>whnf)|((first|refine cK (fun _=>at_S _ _ _ _) ?_|((try (refine CallW.lent ?_; (conv=>whnf); repeat (refine yb ?_; (conv=>whnf)))); refine cL (fun _=>at_S _ _ _ _) ?_)); conv=>whnf)|(refine yt ?_; conv=>whnf)|exact ⟨_,.keep rfl rfl⟩|fail
 ·exact ⟨_,.keep (by rw [headsF_ext k1 k2 (by omega) hx hc]; rfl) rfl⟩
 ·have e : (m.exts.take (q + 1)).map (·.name) = (m.exts.take q).map (·.name) ++ [(m.exts.getD q Enc.d).name] := by
   rw [List.take_add_one,List.map_append,List.getD_eq_getElem?_getD,List.getElem?_eq_getElem (by omega)]; rfl
  refine .mk (q + 1) ⟨by omega,all_step hx hc⟩ (by omega) ?_
  refine eP [(6,111)] [] ?_ ?_ <;> repeat' first|exact eN|refine And.intro ?_ ?_|exact snoc_len e|exact snoc_get e rfl|rw [e]
 have k3 : firstC (extCode m) m.exts.length = none := firstC_no fun i hi=>hx i (by omega)
 obtain rfl : q = m.exts.length := by omega
 rw [List.take_length]
 let kn (q : Nat) : List ByteArray := m.exts.map (·.name) ++ (m.funcs.take q).map (·.name)
 have f2 : ∀ q,q <= m.funcs.length -> (kn q).length = m.exts.length + q := fun q h=>by
  simp only [kn]; rw [List.length_append,List.length_map,List.length_map,List.length_take]; omega
 have f3 : m.exts.map (·.name) = kn 0 := by simp [kn]
 rw [f3]
 refine lp [10,6] (fun q : Nat=>[.i .i64 q,.orow 6 1 0 (kn q).length]) (fun q=>[(6,oL (kn q)),(1,bx m),(2,bx (Enc.d : FaultE))]) (fun q=>q <= m.funcs.length /\ ∀ i,i < q -> fnCode m i = 0) (fun q=>m.funcs.length - q) 0 ⟨by omega,fun i h=>by omega⟩ ?_ fun q hq=>?_
 ·refine eP [] [] ?_ ?_ <;> repeat' first|exact eN|refine And.intro ?_ ?_
 conv=>whnf
 obtain ⟨hq,hy⟩ := hq
 have g4 : siz (m.funcs.getD q Enc.d) <= siz m.funcs := siz_at m.funcs q
 have g5 : siz (m.funcs.getD q Enc.d) = (m.funcs.getD q Enc.d).name.size + siz (m.funcs.getD q Enc.d).params + siz (m.funcs.getD q Enc.d).blocks := rfl
 have g6 := f2 q hq
 repeat' first|(refine iF (fun hb=>?_) (fun hb=>?_) <;> (try simp only [yv] at hb) <;> (have hc := hb; try simp only [sB,Int.reduceToNat] at hc; try simp only [addZ0] at hc) <;> first|(exfalso; omega)|conv=>whnf)|((first|refine ya ?_|refine yb ?_|refine yc ?_|refine yd ?_|refine yf ?_|refine yh ?_|refine yj ?_|refine dD ?_|refine dF ?_|refine d0 ?_|refine d1 ?_|refine dL ?_|refine dP ?_|refine yl ?_|refine ym ?_|refine yn ?_|refine ⟨_,fun _=>(IntKind.wrap_u64 _).symm,?_⟩); conv=>whnf)|((first|refine cK (fun _=>head_S _ (kn q) _ _ _ (by simp only [Int.toNat_natCast]; omega) (by omega)) ?_|((try (refine CallW.lent ?_; (conv=>whnf); repeat (refine yb ?_; (conv=>whnf)))); refine cL (fun _=>head_S _ (kn q) _ _ _ (by simp only [Int.toNat_natCast]; omega) (by omega)) ?_)); conv=>whnf)|((first|refine cK (fun _=>at_S _ _ _ _) ?_|((try (refine CallW.lent ?_; (conv=>whnf); repeat (refine yb ?_; (conv=>whnf)))); refine cL (fun _=>at_S _ _ _ _) ?_)); conv=>whnf)|(refine yt ?_; conv=>whnf)|exact ⟨_,.keep rfl rfl⟩|fail
 ·exact ⟨_,.keep (by rw [headsF_fn k1 k2 k3 (by omega) hy hc]; rfl) rfl⟩
 ·have e : kn (q + 1) = kn q ++ [(m.funcs.getD q Enc.d).name] := by
   simp only [kn]; rw [List.take_add_one,List.map_append,List.getD_eq_getElem?_getD,List.getElem?_eq_getElem (by omega),List.append_assoc]; rfl
  refine .mk (q + 1) ⟨by omega,all_step hy hc⟩ (by omega) ?_
  refine eP [(6,141)] [] ?_ ?_ <;> repeat' first|exact eN|refine And.intro ?_ ?_|exact snoc_len e|exact snoc_get e rfl|rw [e]
 ·have k4 : firstC (fnCode m) m.funcs.length = none := firstC_no fun i hi=>hy i (by omega)
  exact ⟨_,.keep (by rw [headsF,if_neg k1,k2,k3,k4]; rfl) rfl⟩
def codeB (f : FnE) (b : Nat) : List InsE := (f.blocks.getD b Enc.d).code
def lastB (f : FnE) (b : Nat) : InsE := (codeB f b).getD (((codeB f b).length : Int) - 1).toNat Enc.d
def earlyC (f : FnE) (b i : Nat) : Int := if Ends ((codeB f b).getD i Enc.d).op = true then 9 else 0
def toC (f : FnE) (b i : Nat) : Int := if (lastB f b).to.getD i Enc.d < 1 \/ (f.blocks.length : Int) <= (lastB f b).to.getD i Enc.d then 8 else 0
def blkF (f : FnE) (n : Int) (b : Nat) : FaultE :=
 if (codeB f b).length = 0 then ⟨9,⟨n,b,0⟩⟩ else if Ends (lastB f b).op = false then ⟨9,⟨n,b,0⟩⟩ else
 match firstC (earlyC f b) ((codeB f b).length - 1) with
 | some i=>⟨9,⟨n,b,i⟩⟩
 | none=>match firstC (toC f b) (lastB f b).to.length with
  | some i=>⟨8,⟨n,b,((codeB f b).length : Int) - 1⟩⟩
  | none=>⟨0,⟨0,0,0⟩⟩
def blocksF (f : FnE) (n : Int) : FaultE :=
 if f.blocks.length < 1 \/ 64 < f.blocks.length \/ 400 < (Code f).length then ⟨6,⟨n,0,0⟩⟩ else
 match firstC (fun b=>(blkF f n b).code) f.blocks.length with
 | some b=>blkF f n b
 | none=>⟨0,⟨0,0,0⟩⟩
theorem blocksF_at {f : FnE} {n : Int} {b : Nat} {x : FaultE} (k1 : ¬(f.blocks.length < 1 \/ 64 < f.blocks.length \/ 400 < (Code f).length)) (hb : b < f.blocks.length) (hv : ∀ i,i < b -> (blkF f n i).code = 0) (h : blkF f n b = x) (hx : x.code ≠ 0) : blocksF f n = x := by
 rw [blocksF,if_neg k1,firstC_at (c := fun b=>(blkF f n b).code) hb hv (by rw [h]; exact hx)]; exact h
theorem blocks_S (f : FnE) (n : Int) (hs : siz f < 4294967296) : ASpec Tryz.prog 39 [eS f,.i .i64 n] (eS (blocksF f n)) [] := by
 have h1 : ((Code f).map Prod.fst).length = (Code f).length := List.length_map _
 have h2 := Code_siz f
 have h3 := blocks_le f
 refine ASpec.enter TYok mixed Tryz.func39 rfl Tryz.call39 Tryz.ntmps39 rfl (rs := [.cell 4 54]) rfl (nodupB_ok rfl) (Clo.one rfl) (keep := [0,1,2,4,5,7,8,9,10,11,12,13]) ?_; conv=>whnf
 repeat' first|(refine iF (fun hb=>?_) (fun hb=>?_) <;> (try simp only [yv] at hb) <;> (have hc := hb; try simp only [sB,Int.reduceToNat] at hc; try simp only [addZ0] at hc) <;> first|(exfalso; omega)|conv=>whnf)|((first|refine ya ?_|refine yb ?_|refine yc ?_|refine yd ?_|refine yf ?_|refine yh ?_|refine yj ?_|refine dD ?_|refine dF ?_|refine d0 ?_|refine d1 ?_|refine dL ?_|refine dP ?_|refine yl ?_|refine ym ?_|refine yn ?_|refine ⟨_,fun _=>(IntKind.wrap_u64 _).symm,?_⟩); conv=>whnf)|((first|refine cK (fun _=>Code_S 130 131 (by decide) f hs) ?_|((try (refine CallW.lent ?_; (conv=>whnf); repeat (refine yb ?_; (conv=>whnf)))); refine cL (fun _=>Code_S 130 131 (by decide) f hs) ?_)); conv=>whnf)|((first|refine cK (fun _=>at_S _ _ _ _) ?_|((try (refine CallW.lent ?_; (conv=>whnf); repeat (refine yb ?_; (conv=>whnf)))); refine cL (fun _=>at_S _ _ _ _) ?_)); conv=>whnf)|(refine yt ?_; conv=>whnf)|exact ⟨_,.keep rfl rfl⟩|fail
 ·exact ⟨_,.keep (by rw [blocksF,if_pos (by omega)]; rfl) rfl⟩
 have k1 : ¬(f.blocks.length < 1 \/ 64 < f.blocks.length \/ 400 < (Code f).length) := by omega
 refine lp [7] (fun q : Nat=>[.i .i64 q]) (fun q=>[(2,bx f),(4,bx (Enc.d : FaultE)),(130,oL ((Code f).map Prod.fst)),(131,oL ((Code f).map Prod.snd))]) (fun q=>q <= f.blocks.length /\ ∀ i,i < q -> (blkF f n i).code = 0) (fun q=>f.blocks.length - q) 0 ⟨by omega,fun i h=>by omega⟩ ?_ fun b hq=>?_
 ·refine eP [] [] ?_ ?_ <;> repeat' first|exact eN|refine And.intro ?_ ?_
 conv=>whnf
 obtain ⟨hq,hv⟩ := hq
 have h4 : (codeB f b).length <= siz f := code_le f b
 have h5 : codeB f b = (f.blocks.getD b Enc.d).code := rfl
 rw [h5] at h4
 repeat' first|(refine iF (fun hb=>?_) (fun hb=>?_) <;> (try simp only [yv] at hb) <;> (have hc := hb; try simp only [sB,Int.reduceToNat] at hc; try simp only [addZ0] at hc) <;> first|(exfalso; omega)|conv=>whnf)|((first|refine ya ?_|refine yb ?_|refine yc ?_|refine yd ?_|refine yf ?_|refine yh ?_|refine yj ?_|refine dD ?_|refine dF ?_|refine d0 ?_|refine d1 ?_|refine dL ?_|refine dP ?_|refine yl ?_|refine ym ?_|refine yn ?_|refine ⟨_,fun _=>(IntKind.wrap_u64 _).symm,?_⟩); conv=>whnf)|((first|refine cK (fun _=>Ends_S _) ?_|((try (refine CallW.lent ?_; (conv=>whnf); repeat (refine yb ?_; (conv=>whnf)))); refine cL (fun _=>Ends_S _) ?_)); conv=>whnf)|((first|refine cK (fun _=>at_S _ _ _ _) ?_|((try (refine CallW.lent ?_; (conv=>whnf); repeat (refine yb ?_; (conv=>whnf)))); refine cL (fun _=>at_S _ _ _ _) ?_)); conv=>whnf)|(refine yt ?_; conv=>whnf)|exact ⟨_,.keep rfl rfl⟩|fail
 ·have e : blkF f n b = ⟨9,⟨n,b,0⟩⟩ := by rw [blkF,if_pos (by rw [h5]; omega)]
  exact ⟨_,.keep (by rw [blocksF_at k1 (by omega) hv e (by simp)]; rfl) rfl⟩
 ·have e : blkF f n b = ⟨9,⟨n,b,0⟩⟩ := by rw [blkF,if_neg (by rw [h5]; omega),if_pos (show Ends (lastB f b).op = false from hc)]
  exact ⟨_,.keep (by rw [blocksF_at k1 (by omega) hv e (by simp)]; rfl) rfl⟩
 ·have e1 : ¬Ends (lastB f b).op = false := by rw [show Ends (lastB f b).op = true from hc]; simp
  have e0 : ¬(codeB f b).length = 0 := by rw [h5]; omega
  have h8 : ((f.blocks.getD b Enc.d).code.getD (((f.blocks.getD b Enc.d).code.length : Int) - 1).toNat Enc.d).to.length <= siz f := Nat.le_trans (to_le _) (ins_le f b _)
  have h9 : (lastB f b).to.length = ((f.blocks.getD b Enc.d).code.getD (((f.blocks.getD b Enc.d).code.length : Int) - 1).toNat Enc.d).to.length := rfl
  refine lp [10] (fun q : Nat=>[.i .i64 q]) (fun q=>[(2,bx f),(4,bx (Enc.d : FaultE)),(130,oL ((Code f).map Prod.fst)),(131,oL ((Code f).map Prod.snd))]) (fun k=>k <= (codeB f b).length - 1 /\ ∀ i,i < k -> earlyC f b i = 0) (fun k=>(codeB f b).length - k) 0 ⟨by omega,fun i h=>by omega⟩ ?_ fun k hk=>?_
  ·refine eP [] [] ?_ ?_ <;> repeat' first|exact eN|refine And.intro ?_ ?_
  conv=>whnf
  obtain ⟨hk,hw⟩ := hk
  rw [h5] at hk
  repeat' first|(refine iF (fun hb=>?_) (fun hb=>?_) <;> (try simp only [yv] at hb) <;> (have hc := hb; try simp only [sB,Int.reduceToNat] at hc; try simp only [addZ0] at hc) <;> first|(exfalso; omega)|conv=>whnf)|((first|refine ya ?_|refine yb ?_|refine yc ?_|refine yd ?_|refine yf ?_|refine yh ?_|refine yj ?_|refine dD ?_|refine dF ?_|refine d0 ?_|refine d1 ?_|refine dL ?_|refine dP ?_|refine yl ?_|refine ym ?_|refine yn ?_|refine ⟨_,fun _=>(IntKind.wrap_u64 _).symm,?_⟩); conv=>whnf)|((first|refine cK (fun _=>Ends_S _) ?_|((try (refine CallW.lent ?_; (conv=>whnf); repeat (refine yb ?_; (conv=>whnf)))); refine cL (fun _=>Ends_S _) ?_)); conv=>whnf)|((first|refine cK (fun _=>at_S _ _ _ _) ?_|((try (refine CallW.lent ?_; (conv=>whnf); repeat (refine yb ?_; (conv=>whnf)))); refine cL (fun _=>at_S _ _ _ _) ?_)); conv=>whnf)|(refine yt ?_; conv=>whnf)|exact ⟨_,.keep rfl rfl⟩|fail
  ·have e : blkF f n b = ⟨9,⟨n,b,k⟩⟩ := by rw [blkF,if_neg e0,if_neg e1,firstC_at (by rw [h5]; omega) hw (by unfold earlyC; rw [if_pos (show Ends ((codeB f b).getD k Enc.d).op = true from hc)]; decide)]
   exact ⟨_,.keep (by rw [blocksF_at k1 (by omega) hv e (by simp)]; rfl) rfl⟩
  ·refine .mk (k + 1) ⟨by rw [h5]; omega,all_step hw (by unfold earlyC; rw [if_neg (fun h=>by rw [show Ends ((codeB f b).getD k Enc.d).op = false from hc] at h; cases h)])⟩ (by rw [h5]; omega) ?_
   refine eP [] [] ?_ ?_ <;> repeat' first|exact eN|refine And.intro ?_ ?_
  have e2 : firstC (earlyC f b) ((codeB f b).length - 1) = none := firstC_no fun i hi=>hw i (by rw [h5] at hi; omega)
  refine lp [13] (fun q : Nat=>[.i .i64 q]) (fun q=>[(2,bx f),(4,bx (Enc.d : FaultE)),(130,oL ((Code f).map Prod.fst)),(131,oL ((Code f).map Prod.snd))]) (fun j=>j <= (lastB f b).to.length /\ ∀ i,i < j -> toC f b i = 0) (fun j=>(lastB f b).to.length - j) 0 ⟨by omega,fun i h=>by omega⟩ ?_ fun j hj=>?_
  ·refine eP [] [] ?_ ?_ <;> repeat' first|exact eN|refine And.intro ?_ ?_
  conv=>whnf
  obtain ⟨hj,hz⟩ := hj
  repeat' first|(refine iF (fun hb=>?_) (fun hb=>?_) <;> (try simp only [yv] at hb) <;> (have hc := hb; try simp only [sB,Int.reduceToNat] at hc; try simp only [addZ0] at hc) <;> first|(exfalso; omega)|conv=>whnf)|((first|refine ya ?_|refine yb ?_|refine yc ?_|refine yd ?_|refine yf ?_|refine yh ?_|refine yj ?_|refine dD ?_|refine dF ?_|refine d0 ?_|refine d1 ?_|refine dL ?_|refine dP ?_|refine yl ?_|refine ym ?_|refine yn ?_|refine ⟨_,fun _=>(IntKind.wrap_u64 _).symm,?_⟩); conv=>whnf)|((first|refine cK (fun _=>at_S _ _ _ _) ?_|((try (refine CallW.lent ?_; (conv=>whnf); repeat (refine yb ?_; (conv=>whnf)))); refine cL (fun _=>at_S _ _ _ _) ?_)); conv=>whnf)|(refine yt ?_; conv=>whnf)|exact ⟨_,.keep rfl rfl⟩|fail
  ·have e3 : toC f b j ≠ 0 := by unfold toC; rw [if_pos (show (lastB f b).to.getD j Enc.d < 1 \/ (f.blocks.length : Int) <= (lastB f b).to.getD j Enc.d from hc)]; decide
   have e : blkF f n b = ⟨8,⟨n,b,((codeB f b).length : Int) - 1⟩⟩ := by rw [blkF,if_neg e0,if_neg e1,e2]; simp only; rw [firstC_at (by omega) hz e3]
   exact ⟨_,.keep (by rw [blocksF_at k1 (by omega) hv e (by simp)]; rfl) rfl⟩
  ·have e3 : toC f b j = 0 := by unfold toC; rw [if_neg (show ¬((lastB f b).to.getD j Enc.d < 1 \/ (f.blocks.length : Int) <= (lastB f b).to.getD j Enc.d) from fun h=>h.elim hc.1 hc.2)]
   refine .mk (j + 1) ⟨by omega,all_step hz e3⟩ (by omega) ?_
   refine eP [] [] ?_ ?_ <;> repeat' first|exact eN|refine And.intro ?_ ?_
  ·have e : blkF f n b = ⟨0,⟨0,0,0⟩⟩ := by rw [blkF,if_neg e0,if_neg e1,e2]; simp only; rw [firstC_no fun i hi=>hz i (by omega)]
   refine .mk (b + 1) ⟨by omega,all_step hv (by rw [e])⟩ (by omega) ?_
   refine eP [] [] ?_ ?_ <;> repeat' first|exact eN|refine And.intro ?_ ?_
 ·have e : firstC (fun b=>(blkF f n b).code) f.blocks.length = none := firstC_no fun i hi=>hv i (by omega)
  exact ⟨_,.keep (by rw [blocksF,if_neg k1,e]; rfl) rfl⟩
def TypeR (f : FnE) (reg : Int) : Int := if reg < 0 then 0 else if reg < f.params.length then f.params.getD reg.toNat Enc.d else if (Def f reg).2 = false then 0 else Result ((f.blocks.getD (Def f reg).1.b.toNat Enc.d).code.getD (Def f reg).1.i.toNat Enc.d)
theorem Type_S (f : FnE) (reg : Int) (hs : siz f < 4294967296) : ASpec Tryz.prog 117 [eS f,.i .i64 reg] (.i .i64 (TypeR f reg)) [] := by
 have h1 := params_le f
 have h2 : (Def f reg).2 = true -> 0 <= (Def f reg).1.b /\ (Def f reg).1.b < f.blocks.length /\ 0 <= (Def f reg).1.i /\ (Def f reg).1.i < (f.blocks.getD (Def f reg).1.b.toNat Enc.d).code.length := fun h=>by
  obtain ⟨b,i,hb,hi,e⟩ := Def_mem h
  rw [e]; simp only [Int.toNat_natCast]; omega
 refine ASpec.enter TYok mixed Tryz.func117 rfl Tryz.call117 Tryz.ntmps117 rfl (rs := [.tmp 4]) rfl (nodupB_ok rfl) (Clo.one rfl) (keep := [0,1,2,4,5,6]) ?_; conv=>whnf
 repeat' first|(refine iF (fun hb=>?_) (fun hb=>?_) <;> (try simp only [yv] at hb) <;> (have hc := hb; try simp only [sB,Int.reduceToNat] at hc; try simp only [addZ0] at hc) <;> first|(exfalso; omega)|conv=>whnf)|((first|refine ya ?_|refine yb ?_|refine yc ?_|refine yd ?_|refine yf ?_|refine yh ?_|refine yj ?_|refine dD ?_|refine dF ?_|refine d0 ?_|refine d1 ?_|refine dL ?_|refine dP ?_|refine yl ?_|refine ym ?_|refine yn ?_|refine ⟨_,fun _=>(IntKind.wrap_u64 _).symm,?_⟩); conv=>whnf)|((first|refine cK (fun _=>Def_S _ _ hs) ?_|((try (refine CallW.lent ?_; (conv=>whnf); repeat (refine yb ?_; (conv=>whnf)))); refine cL (fun _=>Def_S _ _ hs) ?_)); conv=>whnf)|(refine yt ?_; conv=>whnf)|exact ⟨_,.keep rfl rfl⟩|fail
 ·exact ⟨_,.keep (by rw [TypeR,if_pos hc]) rfl⟩
 ·exact ⟨_,.keep (by rw [TypeR,if_neg (by omega),if_pos hc]) rfl⟩
 ·exact ⟨_,.keep (by rw [TypeR,if_neg (by omega),if_neg (by omega),if_pos hc]) rfl⟩
 have h3 := h2 hc
 repeat' first|(refine iF (fun hb=>?_) (fun hb=>?_) <;> (try simp only [yv] at hb) <;> (have hc := hb; try simp only [sB,Int.reduceToNat] at hc; try simp only [addZ0] at hc) <;> first|(exfalso; omega)|conv=>whnf)|((first|refine ya ?_|refine yb ?_|refine yc ?_|refine yd ?_|refine yf ?_|refine yh ?_|refine yj ?_|refine dD ?_|refine dF ?_|refine d0 ?_|refine d1 ?_|refine dL ?_|refine dP ?_|refine yl ?_|refine ym ?_|refine yn ?_|refine ⟨_,fun _=>(IntKind.wrap_u64 _).symm,?_⟩); conv=>whnf)|((first|refine cK (fun _=>Result_S _) ?_|((try (refine CallW.lent ?_; (conv=>whnf); repeat (refine yb ?_; (conv=>whnf)))); refine cL (fun _=>Result_S _) ?_)); conv=>whnf)|(refine yt ?_; conv=>whnf)|exact ⟨_,.keep rfl rfl⟩|fail
 exact ⟨_,.keep (by rw [TypeR,if_neg (by omega),if_neg (by omega),if_neg (by rw [hc]; simp)]) rfl⟩
def conv (op : Int) : Bool := decide (op = 20) || decide (op = 21) || decide (op = 22)
theorem conversion_S (op : Int) : ASpec Tryz.prog 115 [.i .i64 op] (.b (conv op)) [] := by
 refine ASpec.enter TYok mixed Tryz.func115 rfl Tryz.call115 Tryz.ntmps115 rfl (rs := [.tmp 2]) rfl (nodupB_ok rfl) (Clo.one rfl) (keep := [0,2]) ?_; conv=>whnf
 repeat' first|(refine iF (fun hb=>?_) (fun hb=>?_) <;> (try simp only [yv] at hb) <;> (have hc := hb; try simp only [sB,Int.reduceToNat] at hc; try simp only [addZ0] at hc) <;> first|(exfalso; omega)|conv=>whnf)|((first|refine ya ?_|refine yb ?_|refine yc ?_|refine yd ?_|refine yf ?_|refine yh ?_|refine yj ?_|refine dD ?_|refine dF ?_|refine d0 ?_|refine d1 ?_|refine dL ?_|refine dP ?_|refine yl ?_|refine ym ?_|refine yn ?_|refine ⟨_,fun _=>(IntKind.wrap_u64 _).symm,?_⟩); conv=>whnf)|(refine yt ?_; conv=>whnf)|exact ⟨_,.keep rfl rfl⟩|fail
def many (f : FnE) (x : InsE) : Int × Int :=
 if x.op = 23 then (3,0) else if x.op = 25 then (x.args.length,x.args.length) else if x.op = 30 then (x.args.length,0) else if x.op = 26 \/ x.op = 34 then (0,0)
 else if x.op = 31 then (0,1) else if x.op = 32 then (1,2) else if x.op = 20 \/ x.op = 21 \/ x.op = 22 \/ x.op = 24 \/ x.op = 27 then (1,0)
 else if x.op = 33 then (if f.ret = 0 then (0,0) else (1,0)) else if 1 <= x.op /\ x.op <= 29 then (2,0) else (-1,-1)
theorem many_S (f : FnE) (x : InsE) : ASpec Tryz.prog 114 [eS f,eS x] (.tup [.i .i64 (many f x).1,.i .i64 (many f x).2]) [] := by
 refine ASpec.enter TYok mixed Tryz.func114 rfl Tryz.call114 Tryz.ntmps114 rfl (rs := [.tmp 4,.tmp 5]) rfl (nodupB_ok rfl) (Clo.one rfl) (keep := [0,1,2,3,4,5,6,11]) ?_; conv=>whnf
 repeat' first|(refine iF (fun hb=>?_) (fun hb=>?_) <;> (try simp only [yv] at hb) <;> (have hc := hb; try simp only [sB,Int.reduceToNat] at hc; try simp only [addZ0] at hc) <;> first|(exfalso; omega)|conv=>whnf)|((first|refine ya ?_|refine yb ?_|refine yc ?_|refine yd ?_|refine yf ?_|refine yh ?_|refine yj ?_|refine dD ?_|refine dF ?_|refine d0 ?_|refine d1 ?_|refine dL ?_|refine dP ?_|refine yl ?_|refine ym ?_|refine yn ?_|refine ⟨_,fun _=>(IntKind.wrap_u64 _).symm,?_⟩); conv=>whnf)|(refine yt ?_; conv=>whnf)|exact ⟨_,.keep rfl rfl⟩|fail
 all_goals exact ⟨_,.keep (by (try simp only [pickB_or,pickB_and]); unfold many; repeat' (first|rfl|omega|split|(simp_all; done))) rfl⟩
def typedF (m : ModE) (f : FnE) (x : InsE) : Int :=
 if conv x.op = true then (if (Convert x.op x.n x.t 0).2 = false then 7 else 0)
 else if x.op = 30 then (if (Callee m x.n).2.2 = false then 4 else if (Callee m x.n).2.1 ≠ x.t then 7 else if (Callee m x.n).1.length ≠ x.args.length then 13 else 0)
 else if x.op = 33 then (if x.t ≠ f.ret then 7 else 0)
 else if x.op = 26 \/ x.op = 29 \/ x.op = 31 \/ x.op = 32 \/ x.op = 34 then 0
 else if x.op <= 13 \/ (16 <= x.op /\ x.op <= 19) then (if x.t < 1 \/ 64 < x.t then 7 else 0)
 else if x.t < 1 \/ 65 < x.t then 7 else 0
theorem typed_S (m : ModE) (f : FnE) (x : InsE) (hm : siz m < 4294967296) (h1 : -9223372036854775808 <= x.n) (h2 : x.n <= 9223372036854775807) : ASpec Tryz.prog 73 [eS m,eS f,eS x] (.i .i64 (typedF m f x)) [] := by
 refine ASpec.enter TYok mixed Tryz.func73 rfl Tryz.call73 Tryz.ntmps73 rfl (rs := [.tmp 6]) rfl (nodupB_ok rfl) (Clo.one rfl) (keep := [0,1,2,3,4,5,6,7,9,10,11,12,13,31]) ?_; conv=>whnf
 repeat' first|(refine iF (fun hb=>?_) (fun hb=>?_) <;> (try simp only [yv] at hb) <;> (have hc := hb; try simp only [sB,Int.reduceToNat] at hc; try simp only [addZ0] at hc) <;> first|(exfalso; omega)|conv=>whnf)|((first|refine ya ?_|refine yb ?_|refine yc ?_|refine yd ?_|refine yf ?_|refine yh ?_|refine yj ?_|refine dD ?_|refine dF ?_|refine d0 ?_|refine d1 ?_|refine dL ?_|refine dP ?_|refine yl ?_|refine ym ?_|refine yn ?_|refine ⟨_,fun _=>(IntKind.wrap_u64 _).symm,?_⟩); conv=>whnf)|((first|refine cK (fun _=>conversion_S _) ?_|((try (refine CallW.lent ?_; (conv=>whnf); repeat (refine yb ?_; (conv=>whnf)))); refine cL (fun _=>conversion_S _) ?_)); conv=>whnf)|((first|refine cK (fun _=>Convert_S _ _ _ _ (by omega) (by omega)) ?_|((try (refine CallW.lent ?_; (conv=>whnf); repeat (refine yb ?_; (conv=>whnf)))); refine cL (fun _=>Convert_S _ _ _ _ (by omega) (by omega)) ?_)); conv=>whnf)|((first|refine cK (fun _=>Callee_S _ _ hm h1 h2) ?_|((try (refine CallW.lent ?_; (conv=>whnf); repeat (refine yb ?_; (conv=>whnf)))); refine cL (fun _=>Callee_S _ _ hm h1 h2) ?_)); conv=>whnf)|(refine yt ?_; conv=>whnf)|exact ⟨_,.keep rfl rfl⟩|fail
 all_goals exact ⟨_,.keep (by (try simp only [pickB_or,pickB_and]); unfold typedF; repeat' (first|rfl|omega|split|(simp_all; done))) rfl⟩
def operandF (m : ModE) (f : FnE) (v : Opd) (want : Int) : Int :=
 if v.k = 1 then (if v.b ≠ 0 then 15 else if v.n <= 4095 then (if TypeR f v.n = 0 then 10 else if TypeR f v.n ≠ want then 7 else 0) else 10)
 else if v.k = 2 then (if v.n ≠ 0 then 15 else if want = 65 \/ Mask want < v.b then 7 else 0)
 else if v.k = 3 \/ v.k = 4 then (if v.n ≠ 0 \/ v.b ≠ 0 then 15 else if v.k = 4 /\ want ≠ 65 then 7 else 0)
 else if v.k = 5 then (if v.b ≠ 0 then 15 else if v.n < 0 \/ m.vars.length <= v.n then 4 else if want ≠ 65 then 7 else 0)
 else 15
theorem operand_S (m : ModE) (f : FnE) (v : Opd) (want : Int) (hf : siz f < 4294967296) : ASpec Tryz.prog 75 [eS m,eS f,eS v,.i .i64 want] (.i .i64 (operandF m f v want)) [] := by
 refine ASpec.enter TYok mixed Tryz.func75 rfl Tryz.call75 Tryz.ntmps75 rfl (rs := [.tmp 8]) rfl (nodupB_ok rfl) (Clo.one rfl) (keep := [0,1,2,3,4,5,6,8,9,11]) ?_; conv=>whnf
 repeat' first|(refine iF (fun hb=>?_) (fun hb=>?_) <;> (try simp only [yv] at hb) <;> (have hc := hb; try simp only [sB,Int.reduceToNat] at hc; try simp only [addZ0] at hc) <;> first|(exfalso; omega)|conv=>whnf)|((first|refine ya ?_|refine yb ?_|refine yc ?_|refine yd ?_|refine yf ?_|refine yh ?_|refine yj ?_|refine dD ?_|refine dF ?_|refine d0 ?_|refine d1 ?_|refine dL ?_|refine dP ?_|refine yl ?_|refine ym ?_|refine yn ?_|refine ⟨_,fun _=>(IntKind.wrap_u64 _).symm,?_⟩); conv=>whnf)|((first|refine cK (fun _=>Type_S _ _ hf) ?_|((try (refine CallW.lent ?_; (conv=>whnf); repeat (refine yb ?_; (conv=>whnf)))); refine cL (fun _=>Type_S _ _ hf) ?_)); conv=>whnf)|((first|refine cK (fun _=>Mask_S _) ?_|((try (refine CallW.lent ?_; (conv=>whnf); repeat (refine yb ?_; (conv=>whnf)))); refine cL (fun _=>Mask_S _) ?_)); conv=>whnf)|(refine yt ?_; conv=>whnf)|exact ⟨_,.keep rfl rfl⟩|fail
 all_goals exact ⟨_,.keep (by (try simp only [pickB_or,pickB_and]); unfold operandF; repeat' (first|rfl|omega|split|(simp_all; done))) rfl⟩
def formedF (f : FnE) (x : InsE) (b : Int) : Bool :=
 if (many f x).1 ≠ x.args.length \/ (many f x).2 ≠ x.to.length then false
 else if ¬(decide (Result x = 0) = decide (x.reg = -1)) then false
 else if x.n ≠ 0 /\ conv x.op = false /\ x.op ≠ 26 /\ x.op ≠ 30 then false
 else if x.op = 26 then (decide (b = 0) && decide (x.t = 65) && decide (1 <= x.n) && decide (x.n <= 64))
 else if x.op = 29 then decide (x.t = 65)
 else if x.op = 31 \/ x.op = 32 \/ x.op = 34 then decide (x.t = 0) else true
theorem formed_S (f : FnE) (x : InsE) (b : Int) : ASpec Tryz.prog 71 [eS f,eS x,.i .i64 b] (.b (formedF f x b)) [] := by
 refine ASpec.enter TYok mixed Tryz.func71 rfl Tryz.call71 Tryz.ntmps71 rfl (rs := [.tmp 6]) rfl (nodupB_ok rfl) (Clo.one rfl) (keep := [0,1,2,3,4,6,7,8,9,56]) ?_; conv=>whnf
 repeat' first|(refine iF (fun hb=>?_) (fun hb=>?_) <;> (try simp only [yv] at hb) <;> (have hc := hb; try simp only [sB,Int.reduceToNat] at hc; try simp only [addZ0] at hc) <;> first|(exfalso; omega)|conv=>whnf)|((first|refine ya ?_|refine yb ?_|refine yc ?_|refine yd ?_|refine yf ?_|refine yh ?_|refine yj ?_|refine dD ?_|refine dF ?_|refine d0 ?_|refine d1 ?_|refine dL ?_|refine dP ?_|refine yl ?_|refine ym ?_|refine yn ?_|refine ⟨_,fun _=>(IntKind.wrap_u64 _).symm,?_⟩); conv=>whnf)|((first|refine cK (fun _=>many_S _ _) ?_|((try (refine CallW.lent ?_; (conv=>whnf); repeat (refine yb ?_; (conv=>whnf)))); refine cL (fun _=>many_S _ _) ?_)); conv=>whnf)|((first|refine cK (fun _=>Result_S _) ?_|((try (refine CallW.lent ?_; (conv=>whnf); repeat (refine yb ?_; (conv=>whnf)))); refine cL (fun _=>Result_S _) ?_)); conv=>whnf)|((first|refine cK (fun _=>conversion_S _) ?_|((try (refine CallW.lent ?_; (conv=>whnf); repeat (refine yb ?_; (conv=>whnf)))); refine cL (fun _=>conversion_S _) ?_)); conv=>whnf)|(refine yt ?_; conv=>whnf)|exact ⟨_,.keep rfl rfl⟩|fail
 all_goals try simp only [pickB_and]
 all_goals exact ⟨_,.keep (by (try simp only [pickB_or,pickB_and]); unfold formedF; repeat' (first|rfl|omega|split|(simp_all; done))) rfl⟩
def wantedF (m : ModE) (x : InsE) (k : Int) : Int :=
 if conv x.op = true then x.n else if (x.op = 23 /\ k = 0) \/ x.op = 32 then 1
 else if x.op = 27 \/ (x.op = 28 /\ k = 1) \/ (x.op = 29 /\ k = 0) then 65 else if x.op = 29 then 64
 else if x.op = 30 then (Callee m x.n).1.getD k.toNat Enc.d else x.t
theorem Wanted_S (m : ModE) (x : InsE) (k : Int) (hm : siz m < 4294967296) (h1 : -9223372036854775808 <= x.n) (h2 : x.n <= 9223372036854775807) (hk : x.op = 30 -> 0 <= k /\ k < (Callee m x.n).1.length) : ASpec Tryz.prog 76 [eS m,eS x,.i .i64 k] (.i .i64 (wantedF m x k)) [] := by
 refine ASpec.enter TYok mixed Tryz.func76 rfl Tryz.call76 Tryz.ntmps76 rfl (rs := [.tmp 6]) rfl (nodupB_ok rfl) (Clo.one rfl) (keep := [0,1,2,3,4,6,7,8]) ?_; conv=>whnf
 repeat' first|(refine iF (fun hb=>?_) (fun hb=>?_) <;> (try simp only [yv] at hb) <;> (have hc := hb; try simp only [sB,Int.reduceToNat] at hc; try simp only [addZ0] at hc) <;> first|(exfalso; omega)|conv=>whnf)|((first|refine ya ?_|refine yb ?_|refine yc ?_|refine yd ?_|refine yf ?_|refine yh ?_|refine yj ?_|refine dD ?_|refine dF ?_|refine d0 ?_|refine d1 ?_|refine dL ?_|refine dP ?_|refine yl ?_|refine ym ?_|refine yn ?_|refine ⟨_,fun _=>(IntKind.wrap_u64 _).symm,?_⟩); conv=>whnf)|((first|refine cK (fun _=>conversion_S _) ?_|((try (refine CallW.lent ?_; (conv=>whnf); repeat (refine yb ?_; (conv=>whnf)))); refine cL (fun _=>conversion_S _) ?_)); conv=>whnf)|((first|refine cK (fun _=>Callee_S _ _ hm h1 h2) ?_|((try (refine CallW.lent ?_; (conv=>whnf); repeat (refine yb ?_; (conv=>whnf)))); refine cL (fun _=>Callee_S _ _ hm h1 h2) ?_)); conv=>whnf)|(refine yt ?_; conv=>whnf)|exact ⟨_,.keep rfl rfl⟩|fail
 all_goals exact ⟨_,.keep (by (try simp only [pickB_or,pickB_and]); unfold wantedF; repeat' (first|rfl|omega|split|(simp_all; done))) rfl⟩
def C1 (f : FnE) : List InsE := (Code f).map Prod.fst
def C2 (f : FnE) : List Plc := (Code f).map Prod.snd
theorem C1_len (f : FnE) : (C1 f).length = (Code f).length := List.length_map _
theorem C2_len (f : FnE) : (C2 f).length = (Code f).length := List.length_map _
theorem Code_C (d d' : Nat) (hd : d ≠ d') (f : FnE) (hs : siz f < 4294967296) : ASpec Tryz.prog 26 [eS f] (.tup [.orow d 7 0 (C1 f).length,.orow d' 3 0 (C2 f).length]) [(d,oL (C1 f)),(d',oL (C2 f))] := Code_S d d' hd f hs
def regF (f : FnE) (n : Int) (i : Nat) : FaultE :=
 if Result ((C1 f).getD i Enc.d) = 0 then ⟨0,⟨0,0,0⟩⟩
 else if ((C1 f).getD i Enc.d).reg < f.params.length \/ 4095 < ((C1 f).getD i Enc.d).reg then ⟨10,⟨n,((C2 f).getD i Enc.d).b,((C2 f).getD i Enc.d).i⟩⟩
 else if (Def f ((C1 f).getD i Enc.d).reg).1 ≠ (C2 f).getD i Enc.d then ⟨5,⟨n,((C2 f).getD i Enc.d).b,((C2 f).getD i Enc.d).i⟩⟩ else ⟨0,⟨0,0,0⟩⟩
def firstF (c : Nat -> FaultE) (n : Nat) : FaultE := match firstC (fun i=>(c i).code) n with
 | some i=>c i
 | none=>⟨0,⟨0,0,0⟩⟩
theorem firstF_at {c : Nat -> FaultE} {n q : Nat} {x : FaultE} (hq : q < n) (hv : ∀ i,i < q -> (c i).code = 0) (h : c q = x) (hx : x.code ≠ 0) : firstF c n = x := by
 rw [firstF,firstC_at (c := fun i=>(c i).code) hq hv (by rw [h]; exact hx)]; exact h
theorem firstF_no {c : Nat -> FaultE} {n : Nat} (hv : ∀ i,i < n -> (c i).code = 0) : firstF c n = ⟨0,⟨0,0,0⟩⟩ := by
 rw [firstF,firstC_no hv]
theorem place_ne {p q : Plc} (h : (!(decide (p.f = q.f) && (decide (p.b = q.b) && decide (p.i = q.i)))) = true) : p ≠ q := fun e=>by subst e; simp at h
theorem place_eq {p q : Plc} (h : (!(decide (p.f = q.f) && (decide (p.b = q.b) && decide (p.i = q.i)))) = false) : p = q := by
 simp only [Bool.not_eq_false',Bool.and_eq_true,decide_eq_true_eq] at h
 cases p; cases q; simp_all
def registersF (f : FnE) (n : Int) : FaultE := firstF (regF f n) (Code f).length
theorem registers_S (f : FnE) (n : Int) (hs : siz f < 4294967296) : ASpec Tryz.prog 41 [eS f,.i .i64 n] (eS (registersF f n)) [] := by
 have h1 := Code_siz f
 have h2 := C1_len f
 have h3 := C2_len f
 refine ASpec.enter TYok mixed Tryz.func41 rfl Tryz.call41 Tryz.ntmps41 rfl (rs := [.cell 4 54]) rfl (nodupB_ok rfl) (Clo.one rfl) (keep := [0,1,2,4,5,6,7,8]) ?_; conv=>whnf
 repeat' first|(refine iF (fun hb=>?_) (fun hb=>?_) <;> (try simp only [yv] at hb) <;> (have hc := hb; try simp only [sB,Int.reduceToNat] at hc; try simp only [addZ0] at hc) <;> first|(exfalso; omega)|conv=>whnf)|((first|refine ya ?_|refine yb ?_|refine yc ?_|refine yd ?_|refine yf ?_|refine yh ?_|refine yj ?_|refine dD ?_|refine dF ?_|refine d0 ?_|refine d1 ?_|refine dL ?_|refine dP ?_|refine yl ?_|refine ym ?_|refine yn ?_|refine ⟨_,fun _=>(IntKind.wrap_u64 _).symm,?_⟩); conv=>whnf)|((first|refine cK (fun _=>Code_C 140 141 (by decide) f hs) ?_|((try (refine CallW.lent ?_; (conv=>whnf); repeat (refine yb ?_; (conv=>whnf)))); refine cL (fun _=>Code_C 140 141 (by decide) f hs) ?_)); conv=>whnf)|(refine yt ?_; conv=>whnf)|exact ⟨_,.keep rfl rfl⟩|fail
 have k1 := params_le f
 refine lp [7] (fun q : Nat=>[.i .i64 q]) (fun q=>[(2,bx f),(4,bx (Enc.d : FaultE)),(140,oL (C1 f)),(141,oL (C2 f))]) (fun q=>q <= (Code f).length /\ ∀ i,i < q -> (regF f n i).code = 0) (fun q=>(Code f).length - q) 0 ⟨by omega,fun i h=>by omega⟩ ?_ fun q hq=>?_
 ·refine eP [] [] ?_ ?_ <;> repeat' first|exact eN|refine And.intro ?_ ?_
 conv=>whnf
 obtain ⟨hq,hv⟩ := hq
 repeat' first|(refine iF (fun hb=>?_) (fun hb=>?_) <;> (try simp only [yv] at hb) <;> (have hc := hb; try simp only [sB,Int.reduceToNat] at hc; try simp only [addZ0] at hc) <;> first|(exfalso; omega)|conv=>whnf)|((first|refine ya ?_|refine yb ?_|refine yc ?_|refine yd ?_|refine yf ?_|refine yh ?_|refine yj ?_|refine dD ?_|refine dF ?_|refine d0 ?_|refine d1 ?_|refine dL ?_|refine dP ?_|refine yl ?_|refine ym ?_|refine yn ?_|refine ⟨_,fun _=>(IntKind.wrap_u64 _).symm,?_⟩); conv=>whnf)|((first|refine cK (fun _=>Result_S _) ?_|((try (refine CallW.lent ?_; (conv=>whnf); repeat (refine yb ?_; (conv=>whnf)))); refine cL (fun _=>Result_S _) ?_)); conv=>whnf)|((first|refine cK (fun _=>at_S _ _ _ _) ?_|((try (refine CallW.lent ?_; (conv=>whnf); repeat (refine yb ?_; (conv=>whnf)))); refine cL (fun _=>at_S _ _ _ _) ?_)); conv=>whnf)|((first|refine cK (fun _=>Def_S _ _ hs) ?_|((try (refine CallW.lent ?_; (conv=>whnf); repeat (refine yb ?_; (conv=>whnf)))); refine cL (fun _=>Def_S _ _ hs) ?_)); conv=>whnf)|(refine yt ?_; conv=>whnf)|exact ⟨_,.keep rfl rfl⟩|fail
 ·have e : regF f n q = ⟨0,⟨0,0,0⟩⟩ := by rw [regF,if_pos (show Result ((C1 f).getD q Enc.d) = 0 from hc)]
  refine .mk (q + 1) ⟨by omega,all_step hv (by rw [e])⟩ (by omega) ?_
  refine eP [] [] ?_ ?_ <;> repeat' first|exact eN|refine And.intro ?_ ?_
 ·have e : regF f n q = ⟨10,⟨n,((C2 f).getD q Enc.d).b,((C2 f).getD q Enc.d).i⟩⟩ := by rw [regF,if_neg (show ¬Result ((C1 f).getD q Enc.d) = 0 from by assumption),if_pos (show ((C1 f).getD q Enc.d).reg < f.params.length \/ 4095 < ((C1 f).getD q Enc.d).reg from hc)]
  exact ⟨_,.keep (by rw [registersF,firstF_at (by omega) hv e (by simp)]; rfl) rfl⟩
 ·have e : regF f n q = ⟨5,⟨n,((C2 f).getD q Enc.d).b,((C2 f).getD q Enc.d).i⟩⟩ := by rw [regF,if_neg (show ¬Result ((C1 f).getD q Enc.d) = 0 from by assumption),if_neg (show ¬(((C1 f).getD q Enc.d).reg < f.params.length \/ 4095 < ((C1 f).getD q Enc.d).reg) from fun h=>by rename_i hz; exact h.elim hz.1 hz.2),if_pos (show (Def f ((C1 f).getD q Enc.d).reg).1 ≠ (C2 f).getD q Enc.d from place_ne hb)]
  exact ⟨_,.keep (by rw [registersF,firstF_at (by omega) hv e (by simp)]; rfl) rfl⟩
 ·have e : regF f n q = ⟨0,⟨0,0,0⟩⟩ := by rw [regF,if_neg (show ¬Result ((C1 f).getD q Enc.d) = 0 from by assumption),if_neg (show ¬(((C1 f).getD q Enc.d).reg < f.params.length \/ 4095 < ((C1 f).getD q Enc.d).reg) from fun h=>by rename_i hz; exact h.elim hz.1 hz.2),if_neg (fun h=>h (place_eq hb))]
  refine .mk (q + 1) ⟨by omega,all_step hv (by rw [e])⟩ (by omega) ?_
  refine eP [] [] ?_ ?_ <;> repeat' first|exact eN|refine And.intro ?_ ?_
 ·exact ⟨_,.keep (by rw [registersF,firstF_no fun i hi=>hv i (by omega)]; rfl) rfl⟩
abbrev at2 (f : FnE) (n c : Int) (i : Nat) : FaultE := ⟨c,⟨n,((C2 f).getD i Enc.d).b,((C2 f).getD i Enc.d).i⟩⟩
def formC (m : ModE) (f : FnE) (n : Int) (i : Nat) : FaultE :=
 if formedF f ((C1 f).getD i Enc.d) ((C2 f).getD i Enc.d).b = false then at2 f n 15 i
 else if bits .andNot .i64 ((C1 f).getD i Enc.d).f (Flags ((C1 f).getD i Enc.d).op) ≠ 0 then at2 f n 14 i
 else at2 f n (typedF m f ((C1 f).getD i Enc.d)) i
def formsF (m : ModE) (f : FnE) (n : Int) : FaultE := firstF (formC m f n) (Code f).length
theorem bf {b : Bool} (h : b = true) : ¬ b = false := by rw [h]; simp
theorem forms_S (m : ModE) (f : FnE) (n : Int) (hm : siz m < 4294967296) (hs : siz f < 4294967296) (hr : ∀ i,inI ((C1 f).getD i Enc.d).n) : ASpec Tryz.prog 40 [eS m,eS f,.i .i64 n] (eS (formsF m f n)) [] := by
 have h1 := Code_siz f
 have h2 := C1_len f
 have h3 := C2_len f
 refine ASpec.enter TYok mixed Tryz.func40 rfl Tryz.call40 Tryz.ntmps40 rfl (rs := [.cell 6 54]) rfl (nodupB_ok rfl) (Clo.one rfl) (keep := [0,1,2,3,4,6,7,8,9,10,11]) ?_; conv=>whnf
 repeat' first|(refine iF (fun hb=>?_) (fun hb=>?_) <;> (try simp only [yv] at hb) <;> (have hc := hb; try simp only [sB,Int.reduceToNat] at hc; try simp only [addZ0] at hc) <;> first|(exfalso; omega)|conv=>whnf)|((first|refine ya ?_|refine yb ?_|refine yc ?_|refine yd ?_|refine yf ?_|refine yh ?_|refine yj ?_|refine dD ?_|refine dF ?_|refine d0 ?_|refine d1 ?_|refine dL ?_|refine dP ?_|refine yl ?_|refine ym ?_|refine yn ?_|refine ⟨_,fun _=>(IntKind.wrap_u64 _).symm,?_⟩); conv=>whnf)|((first|refine cK (fun _=>Code_C 140 141 (by decide) f hs) ?_|((try (refine CallW.lent ?_; (conv=>whnf); repeat (refine yb ?_; (conv=>whnf)))); refine cL (fun _=>Code_C 140 141 (by decide) f hs) ?_)); conv=>whnf)|(refine yt ?_; conv=>whnf)|exact ⟨_,.keep rfl rfl⟩|fail
 refine lp [9] (fun q : Nat=>[.i .i64 q]) (fun q=>[(3,bx m),(4,bx f),(6,bx (Enc.d : FaultE)),(140,oL (C1 f)),(141,oL (C2 f))]) (fun q=>q <= (Code f).length /\ ∀ i,i < q -> (formC m f n i).code = 0) (fun q=>(Code f).length - q) 0 ⟨by omega,fun i h=>by omega⟩ ?_ fun q hq=>?_
 ·refine eP [] [] ?_ ?_ <;> repeat' first|exact eN|refine And.intro ?_ ?_
 conv=>whnf
 obtain ⟨hq,hv⟩ := hq
 repeat' first|(refine iF (fun hb=>?_) (fun hb=>?_) <;> (try simp only [yv] at hb) <;> (have hc := hb; try simp only [sB,Int.reduceToNat] at hc; try simp only [addZ0] at hc) <;> first|(exfalso; omega)|conv=>whnf)|((first|refine ya ?_|refine yb ?_|refine yc ?_|refine yd ?_|refine yf ?_|refine yh ?_|refine yj ?_|refine dD ?_|refine dF ?_|refine d0 ?_|refine d1 ?_|refine dL ?_|refine dP ?_|refine yl ?_|refine ym ?_|refine yn ?_|refine ⟨_,fun _=>(IntKind.wrap_u64 _).symm,?_⟩); conv=>whnf)|((first|refine cK (fun _=>formed_S _ _ _) ?_|((try (refine CallW.lent ?_; (conv=>whnf); repeat (refine yb ?_; (conv=>whnf)))); refine cL (fun _=>formed_S _ _ _) ?_)); conv=>whnf)|((first|refine cK (fun _=>at_S _ _ _ _) ?_|((try (refine CallW.lent ?_; (conv=>whnf); repeat (refine yb ?_; (conv=>whnf)))); refine cL (fun _=>at_S _ _ _ _) ?_)); conv=>whnf)|((first|refine cK (fun _=>Flags_S _) ?_|((try (refine CallW.lent ?_; (conv=>whnf); repeat (refine yb ?_; (conv=>whnf)))); refine cL (fun _=>Flags_S _) ?_)); conv=>whnf)|((first|refine cK (fun _=>typed_S _ _ _ hm (hr _).1 (hr _).2) ?_|((try (refine CallW.lent ?_; (conv=>whnf); repeat (refine yb ?_; (conv=>whnf)))); refine cL (fun _=>typed_S _ _ _ hm (hr _).1 (hr _).2) ?_)); conv=>whnf)|(refine yt ?_; conv=>whnf)|exact ⟨_,.keep rfl rfl⟩|fail
 ·have e : formC m f n q = at2 f n 15 q := by rw [formC,if_pos hc]
  exact ⟨_,.keep (by rw [formsF,firstF_at (by omega) hv e (by simp)]; rfl) rfl⟩
 ·have e : formC m f n q = at2 f n 14 q := by rw [formC,if_neg (bf (by assumption)),if_pos hc]
  exact ⟨_,.keep (by rw [formsF,firstF_at (by omega) hv e (by simp)]; rfl) rfl⟩
 ·have e : formC m f n q = at2 f n (typedF m f ((C1 f).getD q Enc.d)) q := by rw [formC,if_neg (bf (by assumption)),if_neg (fun h=>h (by assumption))]
  exact ⟨_,.keep (by rw [formsF,firstF_at (by omega) hv e hc]; rfl) rfl⟩
 ·have e : formC m f n q = at2 f n (typedF m f ((C1 f).getD q Enc.d)) q := by rw [formC,if_neg (bf (by assumption)),if_neg (fun h=>h (by assumption))]
  refine .mk (q + 1) ⟨by omega,all_step hv (by rw [e]; exact hc)⟩ (by omega) ?_
  refine eP [] [] ?_ ?_ <;> repeat' first|exact eN|refine And.intro ?_ ?_
 ·exact ⟨_,.keep (by rw [formsF,firstF_no fun i hi=>hv i (by omega)]; rfl) rfl⟩
theorem Code_mem {f : FnE} {p : InsE × Plc} (h : p ∈ Code f) : ∃ b k : Nat,b < f.blocks.length /\ k < (f.blocks.getD b Enc.d).code.length /\ p = ((f.blocks.getD b Enc.d).code.getD k Enc.d,⟨0,b,k⟩) := by
 unfold Code codeTo at h
 rw [List.mem_append] at h
 rcases h with h|h
 ·obtain ⟨b,hb,h⟩ := List.mem_flatMap.1 h
  unfold pairs at h
  obtain ⟨k,hk,rfl⟩ := List.mem_map.1 h
  exact ⟨b,k,List.mem_range.1 hb,List.mem_range.1 hk,rfl⟩
 ·unfold pairs at h
  simp at h
theorem Code_get {f : FnE} {q : Nat} (hq : q < (Code f).length) : ∃ b k : Nat,b < f.blocks.length /\ k < (f.blocks.getD b Enc.d).code.length /\ (C1 f).getD q Enc.d = (f.blocks.getD b Enc.d).code.getD k Enc.d /\ (C2 f).getD q Enc.d = ⟨0,b,k⟩ := by
 obtain ⟨b,k,h1,h2,h3⟩ := Code_mem (List.getElem_mem hq)
 have e : (Code f).getD q noP = (Code f)[q] := by rw [List.getD_eq_getElem?_getD,List.getElem?_eq_getElem hq]; rfl
 refine ⟨b,k,h1,h2,?_,?_⟩
 ·rw [C1,getD_map Prod.fst (Code f) q noP Enc.d rfl,e,h3]
 ·rw [C2,getD_map Prod.snd (Code f) q noP Enc.d rfl,e,h3]
theorem C1_args {f : FnE} {q : Nat} (hq : q < (Code f).length) : ((C1 f).getD q Enc.d).args.length <= siz f := by
 obtain ⟨b,k,_,_,h,_⟩ := Code_get hq
 rw [h]; exact Nat.le_trans (args_le _) (ins_le f b k)
theorem C1_to {f : FnE} {q : Nat} (hq : q < (Code f).length) : ((C1 f).getD q Enc.d).to.length <= siz f := by
 obtain ⟨b,k,_,_,h,_⟩ := Code_get hq
 rw [h]; exact Nat.le_trans (to_le _) (ins_le f b k)
def oprC (m : ModE) (f : FnE) (x : InsE) (k : Nat) : Int := operandF m f (x.args.getD k Enc.d) (wantedF m x k)
def opsC (m : ModE) (f : FnE) (n : Int) (i : Nat) : FaultE := match firstC (oprC m f ((C1 f).getD i Enc.d)) ((C1 f).getD i Enc.d).args.length with
 | some k=>at2 f n (oprC m f ((C1 f).getD i Enc.d) k) i
 | none=>⟨0,⟨0,0,0⟩⟩
def operandsF (m : ModE) (f : FnE) (n : Int) : FaultE := firstF (opsC m f n) (Code f).length
theorem operands_S (m : ModE) (f : FnE) (n : Int) (hm : siz m < 4294967296) (hs : siz f < 4294967296) (hr : ∀ i,inI ((C1 f).getD i Enc.d).n)
  (hcal : ∀ i,i < (Code f).length -> ((C1 f).getD i Enc.d).op = 30 -> ((C1 f).getD i Enc.d).args.length = (Callee m ((C1 f).getD i Enc.d).n).1.length) : ASpec Tryz.prog 42 [eS m,eS f,.i .i64 n] (eS (operandsF m f n)) [] := by
 have h1 := Code_siz f
 have h2 := C1_len f
 have h3 := C2_len f
 refine ASpec.enter TYok mixed Tryz.func42 rfl Tryz.call42 Tryz.ntmps42 rfl (rs := [.cell 6 54]) rfl (nodupB_ok rfl) (Clo.one rfl) (keep := [0,1,2,3,4,6,7,8,9,10,11]) ?_; conv=>whnf
 repeat' first|(refine iF (fun hb=>?_) (fun hb=>?_) <;> (try simp only [yv] at hb) <;> (have hc := hb; try simp only [sB,Int.reduceToNat] at hc; try simp only [addZ0] at hc) <;> first|(exfalso; omega)|conv=>whnf)|((first|refine ya ?_|refine yb ?_|refine yc ?_|refine yd ?_|refine yf ?_|refine yh ?_|refine yj ?_|refine dD ?_|refine dF ?_|refine d0 ?_|refine d1 ?_|refine dL ?_|refine dP ?_|refine yl ?_|refine ym ?_|refine yn ?_|refine ⟨_,fun _=>(IntKind.wrap_u64 _).symm,?_⟩); conv=>whnf)|((first|refine cK (fun _=>Code_C 140 141 (by decide) f hs) ?_|((try (refine CallW.lent ?_; (conv=>whnf); repeat (refine yb ?_; (conv=>whnf)))); refine cL (fun _=>Code_C 140 141 (by decide) f hs) ?_)); conv=>whnf)|(refine yt ?_; conv=>whnf)|exact ⟨_,.keep rfl rfl⟩|fail
 refine lp [9] (fun q : Nat=>[.i .i64 q]) (fun q=>[(3,bx m),(4,bx f),(6,bx (Enc.d : FaultE)),(140,oL (C1 f)),(141,oL (C2 f))]) (fun q=>q <= (Code f).length /\ ∀ i,i < q -> (opsC m f n i).code = 0) (fun q=>(Code f).length - q) 0 ⟨by omega,fun i h=>by omega⟩ ?_ fun q hq=>?_
 ·refine eP [] [] ?_ ?_ <;> repeat' first|exact eN|refine And.intro ?_ ?_
 conv=>whnf
 obtain ⟨hq,hv⟩ := hq
 repeat' first|(refine iF (fun hb=>?_) (fun hb=>?_) <;> (try simp only [yv] at hb) <;> (have hc := hb; try simp only [sB,Int.reduceToNat] at hc; try simp only [addZ0] at hc) <;> first|(exfalso; omega)|conv=>whnf)|((first|refine ya ?_|refine yb ?_|refine yc ?_|refine yd ?_|refine yf ?_|refine yh ?_|refine yj ?_|refine dD ?_|refine dF ?_|refine d0 ?_|refine d1 ?_|refine dL ?_|refine dP ?_|refine yl ?_|refine ym ?_|refine yn ?_|refine ⟨_,fun _=>(IntKind.wrap_u64 _).symm,?_⟩); conv=>whnf)|(refine yt ?_; conv=>whnf)|exact ⟨_,.keep rfl rfl⟩|fail
 ·have hcq := hcal q (by omega)
  have h4 := C1_args (f := f) (q := q) (by omega)
  refine lp [10] (fun k : Nat=>[.i .i64 k]) (fun q=>[(3,bx m),(4,bx f),(6,bx (Enc.d : FaultE)),(140,oL (C1 f)),(141,oL (C2 f))]) (fun k=>k <= ((C1 f).getD q Enc.d).args.length /\ ∀ i,i < k -> oprC m f ((C1 f).getD q Enc.d) i = 0) (fun k=>((C1 f).getD q Enc.d).args.length - k) 0 ⟨by omega,fun i h=>by omega⟩ ?_ fun k hk=>?_
  ·refine eP [] [] ?_ ?_ <;> repeat' first|exact eN|refine And.intro ?_ ?_
  conv=>whnf
  obtain ⟨hk,hw⟩ := hk
  repeat' first|(refine iF (fun hb=>?_) (fun hb=>?_) <;> (try simp only [yv] at hb) <;> (have hc := hb; try simp only [sB,Int.reduceToNat] at hc; try simp only [addZ0] at hc) <;> first|(exfalso; omega)|conv=>whnf)|((first|refine ya ?_|refine yb ?_|refine yc ?_|refine yd ?_|refine yf ?_|refine yh ?_|refine yj ?_|refine dD ?_|refine dF ?_|refine d0 ?_|refine d1 ?_|refine dL ?_|refine dP ?_|refine yl ?_|refine ym ?_|refine yn ?_|refine ⟨_,fun _=>(IntKind.wrap_u64 _).symm,?_⟩); conv=>whnf)|(refine yt ?_; conv=>whnf)|exact ⟨_,.keep rfl rfl⟩|fail
  ·have hcq2 : ((C1 f).getD q Enc.d).op = 30 -> 0 <= (k : Int) /\ (k : Int) < (Callee m ((C1 f).getD q Enc.d).n).1.length := fun h=>by have := hcq h; have : (k : Int) < ((C1 f).getD q Enc.d).args.length := hc; omega
   repeat' first|(refine iF (fun hb=>?_) (fun hb=>?_) <;> (try simp only [yv] at hb) <;> (have hc := hb; try simp only [sB,Int.reduceToNat] at hc; try simp only [addZ0] at hc) <;> first|(exfalso; omega)|conv=>whnf)|((first|refine ya ?_|refine yb ?_|refine yc ?_|refine yd ?_|refine yf ?_|refine yh ?_|refine yj ?_|refine dD ?_|refine dF ?_|refine d0 ?_|refine d1 ?_|refine dL ?_|refine dP ?_|refine yl ?_|refine ym ?_|refine yn ?_|refine ⟨_,fun _=>(IntKind.wrap_u64 _).symm,?_⟩); conv=>whnf)|((first|refine cK (fun _=>Wanted_S _ _ _ hm (hr _).1 (hr _).2 hcq2) ?_|((try (refine CallW.lent ?_; (conv=>whnf); repeat (refine yb ?_; (conv=>whnf)))); refine cL (fun _=>Wanted_S _ _ _ hm (hr _).1 (hr _).2 hcq2) ?_)); conv=>whnf)|((first|refine cK (fun _=>operand_S _ _ _ _ hs) ?_|((try (refine CallW.lent ?_; (conv=>whnf); repeat (refine yb ?_; (conv=>whnf)))); refine cL (fun _=>operand_S _ _ _ _ hs) ?_)); conv=>whnf)|((first|refine cK (fun _=>at_S _ _ _ _) ?_|((try (refine CallW.lent ?_; (conv=>whnf); repeat (refine yb ?_; (conv=>whnf)))); refine cL (fun _=>at_S _ _ _ _) ?_)); conv=>whnf)|(refine yt ?_; conv=>whnf)|exact ⟨_,.keep rfl rfl⟩|fail
   ·have e : opsC m f n q = at2 f n (oprC m f ((C1 f).getD q Enc.d) k) q := by rw [opsC,firstC_at (c := oprC m f ((C1 f).getD q Enc.d)) (by omega) hw hc]
    exact ⟨_,.keep (by rw [operandsF,firstF_at (by omega) hv e hc]; rfl) rfl⟩
   ·refine .mk (k + 1) ⟨by omega,all_step hw hc⟩ (by omega) ?_
    refine eP [] [] ?_ ?_ <;> repeat' first|exact eN|refine And.intro ?_ ?_
  ·have e : opsC m f n q = ⟨0,⟨0,0,0⟩⟩ := by rw [opsC,firstC_no fun i hi=>hw i (by omega)]
   refine .mk (q + 1) ⟨by omega,all_step hv (by rw [e])⟩ (by omega) ?_
   refine eP [] [] ?_ ?_ <;> repeat' first|exact eN|refine And.intro ?_ ?_
 ·exact ⟨_,.keep (by rw [operandsF,firstF_no fun i hi=>hv i (by omega)]; rfl) rfl⟩
mutual
def wk : AV -> AV -> Prop
 | .i k z,.i k' z'=>k = k' /\ z = z'
 | .b t,.b t'=>t = t'
 | .s x,.s x'=>x = x'
 | .v x,.v x'=>x = x'
 | .nil,.nil=>True
 | .nil,.row none _ n _=>n = 0
 | .row nz e n g,.row none e' n' g'=>e = e' /\ n = n' /\ ∀ i,i < n' -> wks (g i) (g' i)
 | .agg cs,.agg cs'=>wks cs cs'
 | .tup cs,.tup cs'=>wks cs cs'
 | .any,.any=>True
 | _,_=>False
def wks : List AV -> List AV -> Prop
 | [],[]=>True
 | x :: xs,y :: ys=>wk x y /\ wks xs ys
 | _,_=>False
end
mutual
theorem wk_ok {S : Nat -> Prop} {β : Nat -> Wt} {w : World} : ∀ (x y : AV) (u : Value),wk x y -> rel S β w x u -> rel S β w y u
 | .i k z,y,u,h,hr=>by
  cases y <;> simp only [wk] at h <;> try exact h.elim
  obtain ⟨rfl,rfl⟩ := h; exact hr
 | .b t,y,u,h,hr=>by
  cases y <;> simp only [wk] at h <;> try exact h.elim
  subst h; exact hr
 | .s t,y,u,h,hr=>by
  cases y <;> simp only [wk] at h <;> try exact h.elim
  subst h; exact hr
 | .v t,y,u,h,hr=>by
  cases y <;> simp only [wk] at h <;> try exact h.elim
  subst h; exact hr
 | .nil,y,u,h,hr=>by
  unfold rel at hr
  subst hr
  cases y with
  | nil=>rfl
  | row nz e n g =>
   cases nz with
   | none =>
    simp only [wk] at h
    subst h
    exact ⟨none,0,fun _=>[],rfl,(fun z hz=>by cases hz),⟨Nat.zero_le _,Nat.zero_le _⟩,fun i hi=>by omega⟩
   | some b=>simp only [wk] at h
  | _=>simp only [wk] at h
 | .row nz e n g,y,u,h,hr=>by
  cases y with
  | row nz' e' n' g' =>
   cases nz' with
   | none =>
    simp only [wk] at h
    obtain ⟨rfl,rfl,hg⟩ := h
    unfold rel at hr ⊢
    obtain ⟨a,cap,us,h1,h2,h3,h4⟩ := hr
    exact ⟨a,cap,us,h1,(fun z hz=>by cases hz),h3,fun i hi=>⟨(h4 i hi).1,(h4 i hi).2.1,wks_ok (g i) (g' i) (us i) (hg i hi) (h4 i hi).2.2⟩⟩
   | some b=>simp only [wk] at h
  | _=>simp only [wk] at h
 | .agg cs,y,u,h,hr=>by
  cases y with
  | agg cs'=>simp only [wk] at h; obtain ⟨us,h1,h2⟩ := hr; exact ⟨us,h1,wks_ok cs cs' us h h2⟩
  | _=>simp only [wk] at h
 | .tup cs,y,u,h,hr=>by
  cases y with
  | tup cs'=>simp only [wk] at h; obtain ⟨us,h1,h2⟩ := hr; exact ⟨us,h1,wks_ok cs cs' us h h2⟩
  | _=>simp only [wk] at h
 | .any,y,u,h,hr=>by
  cases y <;> simp only [wk] at h <;> try exact h.elim
  exact hr
 | .cp _,y,u,h,hr=>by cases y <;> simp only [wk] at h
 | .op _ _,y,u,h,hr=>by cases y <;> simp only [wk] at h
 | .orow _ _ _ _,y,u,h,hr=>by cases y <;> simp only [wk] at h
 | .rp _ _ _ _,y,u,h,hr=>by cases y <;> simp only [wk] at h
 | .pth _ _ _ _ _,y,u,h,hr=>by cases y <;> simp only [wk] at h
 | .pp _ _ _ _ _,y,u,h,hr=>by cases y <;> simp only [wk] at h
 | .clo _ _,y,u,h,hr=>by cases y <;> simp only [wk] at h
 | .omap _,y,u,h,hr=>by cases y <;> simp only [wk] at h
 | .ifc _ _,y,u,h,hr=>by cases y <;> simp only [wk] at h
theorem wks_ok {S : Nat -> Prop} {β : Nat -> Wt} {w : World} : ∀ (x y : List AV) (u : List Value),wks x y -> rels S β w x u -> rels S β w y u
 | [],y,u,h,hr=>by
  cases y with
  | nil=>exact hr
  | cons=>simp only [wks] at h
 | x :: xs,y,u,h,hr=>by
  cases y with
  | nil=>simp only [wks] at h
  | cons y ys =>
   simp only [wks] at h
   obtain ⟨u,us,h1,h2,h3⟩ := hr
   exact ⟨u,us,h1,wk_ok x y u h.1 h2,wks_ok xs ys us h.2 h3⟩
end
theorem ASpec.weak {P : Program} {f : FuncId} {vs args : List AV} {r : AV} {no : Os} (h : ASpec P f args r no) (hw : wks vs args) : ASpec P f vs r no :=
 ⟨h.1,h.2.1,fun S w us hr hv=>h.2.2 S w us (wks_ok _ _ _ hw hr) hv⟩
theorem ASpec.gives {P : Program} {f : FuncId} {args : List AV} {v r : AV} {os o' no : Os} (h : ASpec P f args v os) (hg : Gives os v o' r no) (hclo : Clo r no) (hk : (no.map (·.1)).Nodup) : ASpec P f args r no := by
 refine ⟨h.1,hclo,fun S w us hr hv=>(h.2.2 S w us hr hv).mono ?_⟩
 rintro e w' ⟨v0,β,rfl,hb,h1,h2,h3,h4,h5⟩
 obtain ⟨β1,g1,g2,g3⟩ := hg.2 _ β w' v0 ⟨h1,h3,h4,fun k hk=>(h2 k hk).2⟩ h5
 obtain ⟨g4,g5⟩ := g3 (fun k=>(S k \/ w.heap.size <= k) /\ k ∉ feet no β1) β1 (fun _ _=>rfl) (fun k _ hk=>⟨hk.1,fun hq=>hk.2 (g2 k hq).1⟩) fun k q1 q2 q3=>⟨.inr (h2 k q1).1,q3⟩
 exact ⟨v0,β1,rfl,hb,g5,fun k hk=>h2 k (g2 k hk).1,g1,hk,g4⟩
theorem Clo.row0 {e n : Nat} {g : Nat -> List AV} (h : ∀ id,men id (.row none e n g) = false) : Clo (.row none e n g) [] := ⟨fun id hm=>(by rw [h] at hm; cases hm),fun i ob hl=>(by simp [lk] at hl)⟩
theorem Clo.tree {d e off n e' n' : Nat} {g : Nat -> List AV} : Clo (.orow d e off n) [(d,.tree e' n' g)] := by
 refine ⟨fun id hm=>?_,fun i ob h id hm=>?_⟩
 ·simp only [men] at hm; have := Nat.eq_of_beq_eq_true hm; subst this; rw [lk_cons,if_pos rfl]; rfl
 ·rw [lk_cons] at h
  split at h
  ·cases h; cases hm
  ·simp [lk] at h
mutual
theorem teq_refl : ∀ x : AV,teq x x
 | .row none e n g=>by unfold teq; exact ⟨rfl,rfl,fun i _=>teqs_refl (g i)⟩
 | .row (some b) e n g=>by unfold teq; rfl
 | .nil=>by unfold teq; rfl
 | .i _ _=>by unfold teq; rfl
 | .b _=>by unfold teq; rfl
 | .s _=>by unfold teq; rfl
 | .v _=>by unfold teq; rfl
 | .agg _=>by unfold teq; rfl
 | .tup _=>by unfold teq; rfl
 | .cp _=>by unfold teq; rfl
 | .op _ _=>by unfold teq; rfl
 | .orow _ _ _ _=>by unfold teq; rfl
 | .rp _ _ _ _=>by unfold teq; rfl
 | .clo _ _=>by unfold teq; rfl
 | .omap _=>by unfold teq; rfl
 | .ifc _ _=>by unfold teq; rfl
 | .any=>by unfold teq; rfl
 | .pth _ _ _ _ _=>by unfold teq; rfl
 | .pp _ _ _ _ _=>by unfold teq; rfl
theorem teqs_refl : ∀ x : List AV,teqs x x
 | []=>by unfold teqs; rfl
 | x :: xs=>by unfold teqs; exact ⟨teq_refl x,teqs_refl xs⟩
end
theorem teqs_of {x y : List AV} (h : x = y) : teqs x y := h ▸ teqs_refl x
theorem leafs_cat {n : Nat} {f g : Nat -> List AV} (h1 : ∀ i,leafs (f i) = true) (h2 : ∀ i,leafs (g i) = true) (i : Nat) : leafs (catF n f g i) = true := by
 unfold catF
 split
 ·exact h1 _
 ·exact h2 _
theorem leafs_lit1 {l : List AV} (h : leafs l = true) (i : Nat) : leafs (litF [l] i) = true := by
 exact h
theorem tree_snoc {α : Type} [Enc α] {g : Nat -> List AV} {g' : Nat -> List AV} {k t : Nat} {l l' : List α} {x : α} {cs : List AV} (hk : t = k -> l' = l ++ [x]) (hc : cs = Enc.enc x) (hg : t = k -> ∃ y,g k = [y]) (h1 : t = k -> g' t = [eL l']) (h2 : t ≠ k -> g' t = g t) :
  teqs (setG (updG [] g k 0 [.any]) k 0 [.row none (Enc.sz α) (l.length + 1) (catF l.length (offF 0 fun i=>Enc.enc (l.getD i Enc.d)) (litF [cs]))] t) (g' t) := by
 by_cases e : t = k
 ·subst e
  obtain ⟨y,hy⟩ := hg rfl
  rw [h1 rfl]
  have e1 : setG (updG [] g t 0 [.any]) t 0 [.row none (Enc.sz α) (l.length + 1) (catF l.length (offF 0 fun i=>Enc.enc (l.getD i Enc.d)) (litF [cs]))] t = [.row none (Enc.sz α) (l.length + 1) (catF l.length (offF 0 fun i=>Enc.enc (l.getD i Enc.d)) (litF [cs]))] := by
   simp only [setG,updG,if_true,hy]; rfl
  rw [e1]
  have hl := hk rfl
  unfold teqs
  refine ⟨?_,by unfold teqs; rfl⟩
  unfold eL teq
  exact ⟨rfl,snoc_len hl,fun i hi=>teqs_of (snoc_get hl hc i hi)⟩
 ·rw [h2 e]
  have e1 : setG (updG [] g k 0 [.any]) k 0 [.row none (Enc.sz α) (l.length + 1) (catF l.length (offF 0 fun i=>Enc.enc (l.getD i Enc.d)) (litF [cs]))] t = g t := by
   simp only [setG,updG,if_neg e]
  rw [e1]
  exact teqs_refl _
theorem tree_put {α : Type} [Enc α] {g : Nat -> List AV} {g' : Nat -> List AV} {k t : Nat} {l : List α} (hg : t = k -> ∃ y,g k = [y]) (h1 : t = k -> g' t = [eL l]) (h2 : t ≠ k -> teqs (g t) (g' t)) :
  teqs (setG g k 0 [.row none (Enc.sz α) l.length fun i=>Enc.enc (l.getD i Enc.d)] t) (g' t) := by
 by_cases e : t = k
 ·subst e
  obtain ⟨y,hy⟩ := hg rfl
  rw [h1 rfl]
  have e1 : setG g t 0 [.row none (Enc.sz α) l.length fun i=>Enc.enc (l.getD i Enc.d)] t = [eL l] := by
   simp only [setG,if_true,hy]; rfl
  rw [e1]
  exact teqs_refl _
 ·have e1 : setG g k 0 [.row none (Enc.sz α) l.length fun i=>Enc.enc (l.getD i Enc.d)] t = g t := by
   simp only [setG,if_neg e]
  rw [e1]
  exact h2 e
theorem tree_putR {g : Nat -> List AV} {g' : Nat -> List AV} {k t e n : Nat} {gt : Nat -> List AV} (hg : t = k -> ∃ y,g k = [y]) (h1 : t = k -> ∃ x,g' t = [x] /\ teq (.row none e n gt) x) (h2 : t ≠ k -> teqs (g t) (g' t)) :
  teqs (setG g k 0 [.row none e n gt] t) (g' t) := by
 by_cases q : t = k
 ·subst q
  obtain ⟨y,hy⟩ := hg rfl
  obtain ⟨x,hx,ht⟩ := h1 rfl
  rw [hx]
  have e1 : setG g t 0 [.row none e n gt] t = [.row none e n gt] := by
   simp only [setG,if_true,hy]; rfl
  rw [e1]
  unfold teqs
  exact ⟨ht,by unfold teqs; rfl⟩
 ·have e1 : setG g k 0 [.row none e n gt] t = g t := by
   simp only [setG,if_neg q]
  rw [e1]
  exact h2 q
theorem tree_setB {G G' : Nat -> List AV} {a t j n : Nat} {v : Bool} {g g' : Nat -> Bool} (hG : t = a -> G a = [.row none 1 n fun i=>[.b (g i)]]) (hG' : t = a -> G' t = [.row none 1 n fun i=>[.b (g' i)]]) (hg : t = a -> ∀ i,i < n -> g' i = if i = j then v else g i) (h2 : t ≠ a -> G' t = G t) :
  teqs (updG ([] ++ [(a,0)]) G j 0 [.b v] t) (G' t) := by
 by_cases q : t = a
 ·subst q
  have e := hG rfl
  rw [hG' rfl]
  have e1 : updG ([] ++ [(t,0)]) G j 0 [.b v] t = [.row none 1 n (setG (fun i=>[.b (g i)]) j 0 [.b v])] := by
   simp only [List.nil_append,updG,setC,if_true,e,nthN,List.set]
  rw [e1]
  unfold teqs
  refine ⟨?_,by unfold teqs; rfl⟩
  unfold teq
  refine ⟨rfl,rfl,fun i hi=>teqs_of ?_⟩
  have := hg rfl i hi
  unfold setG
  by_cases e : i = j
  ·subst e; rw [if_pos rfl] at this ⊢; show [AV.b v] = [AV.b (g' i)]; rw [this]
  ·rw [if_neg e] at this ⊢; show [AV.b (g i)] = [AV.b (g' i)]; rw [this]
 ·rw [h2 q]
  have e1 : updG ([] ++ [(a,0)]) G j 0 [.b v] t = G t := by
   simp only [List.nil_append,updG,setC,if_neg q]
  rw [e1]
  exact teqs_refl _
theorem Gives.wk {o : Os} {v r : AV} (h : wk v r) (hn : noOwn v = true) : Gives o v o r [] := by
 refine ⟨List.Sublist.refl _,fun S β w u ho hr=>⟨W0,List.nodup_nil,(fun k hk=>by cases hk),fun S' β' _ hS _=>⟨wk_ok _ _ _ h (rel_W0 (rel_mono ⟨Nat.le_refl _,fun k hk hs=>⟨hS k hk hs,rfl⟩⟩ _ _ (noOwn_rel hn hr))),fun id ob hl=>by simp [lk] at hl⟩⟩⟩
theorem oL_frz {α : Type} [Enc α] {f : FuncId} {args : List AV} {d : Nat} {l : List α} (hid : ∀ id,men id (eL l) = false) (h : ASpec Tryz.prog f args (.orow d (Enc.sz α) 0 l.length) [(d,oL l)]) : ASpec Tryz.prog f args (eL l) [] :=
 h.gives (.freeze (N := l.length) (q := none) (e' := Enc.sz α) (g := fun i=>Enc.enc (l.getD i Enc.d)) (by rw [lk_cons,if_pos rfl]; rfl) (by omega) rfl (fun i _=>rfl) rfl) (Clo.row0 hid) (by simp)
theorem Maker_S (f : FnE) (v : Opd) (hs : siz f < 4294967296) : ASpec Tryz.prog 84 [eS f,eS v] (.tup [eS (Maker f v).1,.i .i64 (Maker f v).2]) [] := by
 have hDef : (Def f v.n).2 = true -> (∃ b i : Nat,(Def f v.n).1 = ⟨0,b,i⟩ /\ b < f.blocks.length /\ i < (f.blocks.getD b Enc.d).code.length) := fun h=>by
  obtain ⟨b,i,h1,h2,h3⟩ := Def_mem h; exact ⟨b,i,h3,h1,h2⟩
 refine ASpec.enter TYok mixed Tryz.func84 rfl Tryz.call84 Tryz.ntmps84 rfl (rs := [.cell 4 45,.tmp 5]) rfl (nodupB_ok rfl) (Clo.one rfl) (keep := [0,1,2,3,4,5,6,7]) ?_; conv=>whnf
 repeat' first|(refine iF (fun hb=>?_) (fun hb=>?_) <;> (try simp only [yv] at hb) <;> (have hc := hb; try simp only [sB,Int.reduceToNat] at hc; try simp only [addZ0] at hc) <;> first|(exfalso; omega)|conv=>whnf)|((first|refine ya ?_|refine yb ?_|refine yc ?_|refine yd ?_|refine yf ?_|refine yh ?_|refine yj ?_|refine dD ?_|refine dF ?_|refine d0 ?_|refine d1 ?_|refine dL ?_|refine dP ?_|refine yl ?_|refine ym ?_|refine yn ?_|refine ⟨_,fun _=>(IntKind.wrap_u64 _).symm,?_⟩); conv=>whnf)|((first|refine cK (fun _=>Def_S f _ hs) ?_|((try (refine CallW.lent ?_; (conv=>whnf); repeat (refine yb ?_; (conv=>whnf)))); refine cL (fun _=>Def_S f _ hs) ?_)); conv=>whnf)|(refine yt ?_; conv=>whnf)|exact ⟨_,.keep rfl rfl⟩|fail
 ·have e : Maker f v = (Enc.d,-1) := by rw [Maker,if_neg (fun h=>hc h.1)]
  rw [e]
  exact ⟨_,.wk (by simp [wk,wks,eS,eL,Enc.enc,Enc.d,constC]) rfl⟩
 ·have e : Maker f v = (Enc.d,-1) := by rw [Maker,if_neg (fun h=>by rw [hc] at h; cases h.2)]
  rw [e]
  exact ⟨_,.wk (by simp [wk,wks,eS,eL,Enc.enc,Enc.d,constC]) rfl⟩
 ·obtain ⟨b,i,h3,h1,h2⟩ := hDef hc
  have h4 : (Def f v.n).1.b = b := by rw [h3]
  have h5 : (Def f v.n).1.i = i := by rw [h3]
  have h6 : i < (f.blocks.getD (Def f v.n).1.b.toNat Enc.d).code.length := by rw [h4,Int.toNat_natCast]; exact h2
  have h7 := code_le f (Def f v.n).1.b.toNat
  refine And.intro (by omega) ?_
  conv=>whnf
  repeat' first|(refine iF (fun hb=>?_) (fun hb=>?_) <;> (try simp only [yv] at hb) <;> (have hc := hb; try simp only [sB,Int.reduceToNat] at hc; try simp only [addZ0] at hc) <;> first|(exfalso; omega)|conv=>whnf)|((first|refine ya ?_|refine yb ?_|refine yc ?_|refine yd ?_|refine yf ?_|refine yh ?_|refine yj ?_|refine dD ?_|refine dF ?_|refine d0 ?_|refine d1 ?_|refine dL ?_|refine dP ?_|refine yl ?_|refine ym ?_|refine yn ?_|refine ⟨_,fun _=>(IntKind.wrap_u64 _).symm,?_⟩); conv=>whnf)|(refine yt ?_; conv=>whnf)|exact ⟨_,.keep rfl rfl⟩|fail
  rename_i hk
  have e : Maker f v = ((f.blocks.getD (Def f v.n).1.b.toNat Enc.d).code.getD (Def f v.n).1.i.toNat Enc.d,(Def f v.n).1.b) := by rw [Maker,if_pos ⟨hk,hc⟩]
  rw [e]
  exact ⟨_,.keep rfl rfl⟩
structure RS where
 v : Opd
 met : List Int
 off : Int
 of2 : Int
 kn : Bool
def rootStep (f : FnE) (s : RS) : RS := ⟨(Maker f s.v).1.args.getD 0 Enc.d,s.met ++ [s.v.n],(s.off + ((Maker f s.v).1.args.getD 1 Enc.d).b) % 18446744073709551616,
 (if ((Maker f s.v).1.args.getD 1 Enc.d).k = 2 then IntKind.i64.wrap (s.of2 + IntKind.i64.wrap ((Maker f s.v).1.args.getD 1 Enc.d).b) else s.of2),s.kn && decide (((Maker f s.v).1.args.getD 1 Enc.d).k = 2)⟩
def rootN (f : FnE) : Nat -> RS -> RS
 | 0,s=>s
 | k + 1,s=>if ¬((Maker f s.v).1.op = 29 /\ 2 <= (Maker f s.v).1.args.length) then s else if s.met.contains s.v.n = true then { s with kn := false } else rootN f k (rootStep f s)
def RootE (f : FnE) (v : Opd) : RS := rootN f ((Code f).length + 1) ⟨v,[],0,0,true⟩
theorem nodup_len {l m : List Int} (h : l.Nodup) (hm : ∀ x ∈ l,x ∈ m) : l.length <= m.length := by
 induction l generalizing m with
 | nil=>exact Nat.zero_le _
 | cons x l ih =>
  rw [List.nodup_cons] at h
  have hx := hm x List.mem_cons_self
  have := ih h.2 (m := m.erase x) fun y hy=>(List.mem_erase_of_ne (fun e=>by subst e; exact h.1 hy)).2 (hm y (List.mem_cons_of_mem _ hy))
  rw [List.length_erase_of_mem hx] at this
  have : 0 < m.length := List.length_pos_of_mem hx
  simp only [List.length_cons]; omega
theorem Def_reg {f : FnE} {r : Int} (h : (Def f r).2 = true) : r ∈ (Code f).map fun p=>p.1.reg := by
 unfold Def at h
 cases hq : (Code f).find? (dfP r) with
 | none=>rw [hq] at h; cases h
 | some p =>
  have h1 := List.find?_some hq
  unfold dfP at h1
  simp only [Bool.and_eq_true,decide_eq_true_eq] at h1
  exact List.mem_map.2 ⟨p,List.mem_of_find?_eq_some hq,h1.1⟩
theorem Maker_def {f : FnE} {v : Opd} (h : ¬(Maker f v).1.op = 0) : v.k = 1 /\ (Def f v.n).2 = true := by
 unfold Maker at h
 split at h
 ·assumption
 ·exact absurd rfl h
structure RI (f : FnE) (v : Opd) (s : RS) : Prop where
 eq : RootE f v = rootN f ((Code f).length + 1 - s.met.length) s
 nd : s.met.Nodup
 df : ∀ x ∈ s.met,(Def f x).2 = true
 lo : 0 <= s.off
 hi : s.off < 18446744073709551616
 l2 : -9223372036854775808 <= s.of2 /\ s.of2 <= 9223372036854775807
theorem RI.len {f : FnE} {v : Opd} {s : RS} (h : RI f v s) : s.met.length <= (Code f).length := by
 have := nodup_len h.nd (m := (Code f).map fun p=>p.1.reg) fun x hx=>Def_reg (h.df x hx)
 rwa [List.length_map] at this
theorem RI.start (f : FnE) (v : Opd) : RI f v ⟨v,[],0,0,true⟩ := ⟨rfl,List.nodup_nil,(fun x hx=>by cases hx),Int.le_refl _,by show (0 : Int) < _; decide,⟨by show _ <= (0 : Int); decide,by show (0 : Int) <= _; decide⟩⟩
theorem RI.stop {f : FnE} {v : Opd} {s : RS} (h : RI f v s) (hg : ¬((Maker f s.v).1.op = 29 /\ 2 <= (Maker f s.v).1.args.length)) : RootE f v = s := by
 have hl := h.len
 rw [h.eq]
 obtain ⟨k,hk⟩ : ∃ k,(Code f).length + 1 - s.met.length = k + 1 := ⟨_,(by omega : _ = ((Code f).length - s.met.length) + 1)⟩
 rw [hk,rootN,if_pos hg]
theorem RI.met {f : FnE} {v : Opd} {s : RS} (h : RI f v s) (hg : (Maker f s.v).1.op = 29 /\ 2 <= (Maker f s.v).1.args.length) (hm : s.met.contains s.v.n = true) : RootE f v = { s with kn := false } := by
 have hl := h.len
 rw [h.eq]
 obtain ⟨k,hk⟩ : ∃ k,(Code f).length + 1 - s.met.length = k + 1 := ⟨_,(by omega : _ = ((Code f).length - s.met.length) + 1)⟩
 rw [hk,rootN,if_neg (fun q=>q hg),if_pos hm]
theorem wrap_i64_in (x : Int) : -9223372036854775808 <= IntKind.i64.wrap x /\ IntKind.i64.wrap x <= 9223372036854775807 := by
 rw [IntKind.wrap_i64]; omega
theorem RI.step {f : FnE} {v : Opd} {s : RS} (h : RI f v s) (hg : (Maker f s.v).1.op = 29 /\ 2 <= (Maker f s.v).1.args.length) (hm : s.met.contains s.v.n = false) : RI f v (rootStep f s) := by
 have hl := h.len
 have hd := Maker_def (f := f) (v := s.v) (by rw [hg.1]; decide)
 have hnm : s.v.n ∉ s.met := by simpa using hm
 refine ⟨?_,?_,fun x hx=>?_,by unfold rootStep; simp only; omega,by unfold rootStep; simp only; omega,?_⟩
 ·rw [h.eq]
  have hk : (Code f).length + 1 - s.met.length = ((Code f).length + 1 - (rootStep f s).met.length) + 1 := by unfold rootStep; simp only [List.length_append,List.length_cons,List.length_nil]; omega
  rw [hk,rootN,if_neg (fun q=>q hg),if_neg (by rw [hm]; simp)]
 ·unfold rootStep
  exact List.nodup_append.2 ⟨h.nd,by simp,fun x hx y hy e=>by rw [List.mem_singleton] at hy; subst hy; subst e; exact hnm hx⟩
 ·unfold rootStep at hx
  rcases List.mem_append.1 hx with hx|hx
  ·exact h.df x hx
  ·rw [List.mem_singleton] at hx; subst hx; exact hd.2
 ·unfold rootStep; simp only
  split
  ·exact wrap_i64_in _
  ·exact h.l2
theorem Root_S (f : FnE) (v : Opd) (hs : siz f < 4294967296) : ASpec Tryz.prog 83 [eS f,eS v] (.tup [eS (RootE f v).v,.i .i64 (if (RootE f v).kn then IntKind.i64.wrap (RootE f v).off else 0),.b (RootE f v).kn]) [] := by
 have h1 := Code_siz f
 refine ASpec.enter TYok mixed Tryz.func83 rfl Tryz.call83 Tryz.ntmps83 rfl (rs := [.cell 4 47,.tmp 5,.tmp 6]) rfl (nodupB_ok rfl) (Clo.one rfl) (keep := [0,1,2,3,4,5,6,7,8,9,10,12]) ?_; conv=>whnf
 repeat' first|(refine iF (fun hb=>?_) (fun hb=>?_) <;> (try simp only [yv] at hb) <;> (have hc := hb; try simp only [sB,Int.reduceToNat] at hc; try simp only [addZ0] at hc) <;> first|(exfalso; omega)|conv=>whnf)|((first|refine ya ?_|refine yb ?_|refine yc ?_|refine yd ?_|refine yf ?_|refine yh ?_|refine yj ?_|refine dD ?_|refine dF ?_|refine d0 ?_|refine d1 ?_|refine dL ?_|refine dP ?_|refine yl ?_|refine ym ?_|refine yn ?_|refine ⟨_,fun _=>(IntKind.wrap_u64 _).symm,?_⟩); conv=>whnf)|(refine yt ?_; conv=>whnf)|exact ⟨_,.keep rfl rfl⟩|fail
 refine lp [7,8,9] (fun s : RS=>[.orow 7 1 0 s.met.length,.i .u64 s.off,.b s.kn]) (fun s=>[(7,oL s.met),(3,bx s.v),(2,bx f),(4,bx (Enc.d : Opd))]) (fun s=>RI f v s) (fun s=>(Code f).length + 1 - s.met.length) ⟨v,[],0,0,true⟩ (RI.start f v) ?_ fun s hI=>?_
 ·refine eP [] [7] ?_ ?_ <;> repeat' first|exact eN|refine And.intro ?_ ?_
 conv=>whnf
 have hl := hI.len
 repeat' first|(refine iF (fun hb=>?_) (fun hb=>?_) <;> (try simp only [yv] at hb) <;> (have hc := hb; try simp only [sB,Int.reduceToNat] at hc; try simp only [addZ0] at hc) <;> first|(exfalso; omega)|conv=>whnf)|((first|refine ya ?_|refine yb ?_|refine yc ?_|refine yd ?_|refine yf ?_|refine yh ?_|refine yj ?_|refine dD ?_|refine dF ?_|refine d0 ?_|refine d1 ?_|refine dL ?_|refine dP ?_|refine yl ?_|refine ym ?_|refine yn ?_|refine ⟨_,fun _=>(IntKind.wrap_u64 _).symm,?_⟩); conv=>whnf)|((first|refine cK (fun _=>Maker_S f _ hs) ?_|((try (refine CallW.lent ?_; (conv=>whnf); repeat (refine yb ?_; (conv=>whnf)))); refine cL (fun _=>Maker_S f _ hs) ?_)); conv=>whnf)|((first|refine cK (fun _=>Has_S _ _ (by omega)) ?_|((try (refine CallW.lent ?_; (conv=>whnf); repeat (refine yb ?_; (conv=>whnf)))); refine cL (fun _=>Has_S _ _ (by omega)) ?_)); conv=>whnf)|(refine yt ?_; conv=>whnf)|exact ⟨_,.keep rfl rfl⟩|fail
 ·have e := hI.stop (fun h=>by omega)
  rw [e,hc]
  exact ⟨_,.keep rfl rfl⟩
 ·have e := hI.stop (fun h=>by omega)
  rw [e,hc]
  refine ⟨_,fun _=>rfl,?_⟩
  conv=>whnf
  repeat' first|(refine iF (fun hb=>?_) (fun hb=>?_) <;> (try simp only [yv] at hb) <;> (have hc := hb; try simp only [sB,Int.reduceToNat] at hc; try simp only [addZ0] at hc) <;> first|(exfalso; omega)|conv=>whnf)|((first|refine ya ?_|refine yb ?_|refine yc ?_|refine yd ?_|refine yf ?_|refine yh ?_|refine yj ?_|refine dD ?_|refine dF ?_|refine d0 ?_|refine d1 ?_|refine dL ?_|refine dP ?_|refine yl ?_|refine ym ?_|refine yn ?_|refine ⟨_,fun _=>(IntKind.wrap_u64 _).symm,?_⟩); conv=>whnf)|(refine yt ?_; conv=>whnf)|exact ⟨_,.keep rfl rfl⟩|fail
 ·have e := hI.met ⟨by omega,by omega⟩ (by assumption)
  rw [e]
  exact ⟨_,.keep rfl rfl⟩
 ·cases hb
 ·have hs2 := hI.step ⟨by omega,by omega⟩ hc
  have e : (rootStep f s).met = s.met ++ [s.v.n] := rfl
  refine .mk (rootStep f s) hs2 (by rw [e,List.length_append]; simp only [List.length_cons,List.length_nil]; omega) ?_
  refine eP [(7,37)] [] ?_ ?_ <;> repeat' first|exact eN|refine And.intro ?_ ?_|exact snoc_len e|exact snoc_get e rfl|rw [e]
  all_goals skip
def gepOf (x : InsE) (r : Int) : Bool := decide (x.op = 29) && decide (0 < x.args.length) && decide ((x.args.getD 0 Enc.d).k = 1) && decide ((x.args.getD 0 Enc.d).n = r)
inductive KinR (f : FnE) (reg : Int) : Int -> Prop
 | self : KinR f reg reg
 | step {r : Int} {x : InsE} : KinR f reg r -> x ∈ C1 f -> gepOf x r = true -> KinR f reg x.reg
def kinStep (r : Int) (l : List Int) (x : InsE) : List Int := if gepOf x r && !l.contains x.reg then l ++ [x.reg] else l
def kinScan (f : FnE) (r : Int) (l : List Int) (q : Nat) : List Int := ((C1 f).take q).foldl (kinStep r) l
def kinGo (f : FnE) : Nat -> List Int -> Nat -> List Int
 | 0,l,i=>l
 | k + 1,l,i=>if i < l.length then kinGo f k (kinScan f (l.getD i 0) l (C1 f).length) (i + 1) else l
def Kin (f : FnE) (reg : Int) : List Int := kinGo f ((Code f).length + 2) [reg] 0
theorem kinStep_pre (r : Int) (l : List Int) (x : InsE) : ∃ t,kinStep r l x = l ++ t := by
 unfold kinStep; split
 ·exact ⟨_,rfl⟩
 ·exact ⟨[],(List.append_nil _).symm⟩
theorem kinFold_pre (r : Int) : ∀ (xs : List InsE) (l : List Int),∃ t,xs.foldl (kinStep r) l = l ++ t
 | [],l=>⟨[],(List.append_nil _).symm⟩
 | x :: xs,l=>by
  obtain ⟨t,h⟩ := kinStep_pre r l x
  obtain ⟨t',h'⟩ := kinFold_pre r xs (kinStep r l x)
  exact ⟨t ++ t',by rw [List.foldl_cons,h',h,List.append_assoc]⟩
theorem kinFold_nd (r : Int) : ∀ (xs : List InsE) {l : List Int},l.Nodup -> (xs.foldl (kinStep r) l).Nodup
 | [],l,h=>h
 | x :: xs,l,h=>by
  rw [List.foldl_cons]
  refine kinFold_nd r xs ?_
  unfold kinStep
  split
  ·rename_i hc
   simp only [Bool.and_eq_true,Bool.not_eq_true',List.contains_eq_mem,decide_eq_false_iff_not] at hc
   exact List.nodup_append.2 ⟨h,by simp,fun a ha b hb e=>by rw [List.mem_singleton] at hb; subst hb; subst e; exact hc.2 ha⟩
  ·exact h
theorem kinFold_mem (r : Int) : ∀ (xs : List InsE) {l : List Int} {y : Int},y ∈ xs.foldl (kinStep r) l -> y ∈ l \/ ∃ x ∈ xs,gepOf x r = true /\ y = x.reg
 | [],l,y,h=>.inl h
 | x :: xs,l,y,h=>by
  rw [List.foldl_cons] at h
  rcases kinFold_mem r xs h with h|⟨z,hz,h1,h2⟩
  ·unfold kinStep at h
   split at h
   ·rename_i hc
    simp only [Bool.and_eq_true] at hc
    rcases List.mem_append.1 h with h|h
    ·exact .inl h
    ·rw [List.mem_singleton] at h; exact .inr ⟨x,List.mem_cons_self,hc.1,h⟩
   ·exact .inl h
  ·exact .inr ⟨z,List.mem_cons_of_mem _ hz,h1,h2⟩
theorem kinFold_cl (r : Int) : ∀ (xs : List InsE) {l : List Int} {x : InsE},x ∈ xs -> gepOf x r = true -> x.reg ∈ xs.foldl (kinStep r) l
 | x0 :: xs,l,x,h,hg=>by
  rw [List.foldl_cons]
  rcases List.mem_cons.1 h with rfl|h
  ·obtain ⟨t,ht⟩ := kinFold_pre r xs (kinStep r l x)
   rw [ht]
   refine List.mem_append_left _ ?_
   unfold kinStep
   by_cases hc : l.contains x.reg = true
   ·rw [if_neg (by rw [hc]; simp)]; simpa using hc
   ·rw [if_pos (by rw [hg]; simpa using hc)]; simp
  ·exact kinFold_cl r xs h hg
structure KI (f : FnE) (reg : Int) (l : List Int) (i : Nat) : Prop where
 nd : l.Nodup
 sub : ∀ x ∈ l,x ∈ reg :: (C1 f).map (·.reg)
 snd : ∀ x ∈ l,KinR f reg x
 cl : ∀ j,j < i -> ∀ x ∈ C1 f,gepOf x (l.getD j 0) = true -> x.reg ∈ l
 me : reg ∈ l
 le : i <= l.length
theorem KI.len {f : FnE} {reg : Int} {l : List Int} {i : Nat} (h : KI f reg l i) : l.length <= (Code f).length + 1 := by
 have := nodup_len h.nd h.sub
 simp only [List.length_cons,List.length_map,C1_len] at this
 exact this
theorem KI.start (f : FnE) (reg : Int) : KI f reg [reg] 0 := ⟨by simp,fun x hx=>by rw [List.mem_singleton] at hx; subst hx; exact List.mem_cons_self,fun x hx=>by rw [List.mem_singleton] at hx; subst hx; exact .self,fun j hj=>by omega,List.mem_singleton.2 rfl,Nat.zero_le _⟩
theorem getD_pre {l t : List Int} {j : Nat} (hj : j < l.length) : (l ++ t).getD j 0 = l.getD j 0 := by
 rw [List.getD_eq_getElem?_getD,List.getD_eq_getElem?_getD,List.getElem?_append_left hj]
theorem KI.step {f : FnE} {reg : Int} {l : List Int} {i : Nat} (h : KI f reg l i) (hi : i < l.length) : KI f reg (kinScan f (l.getD i 0) l (C1 f).length) (i + 1) := by
 unfold kinScan
 rw [List.take_of_length_le (Nat.le_refl _)]
 have hmem : l.getD i 0 ∈ l := by rw [List.getD_eq_getElem?_getD,List.getElem?_eq_getElem hi]; exact List.getElem_mem hi
 obtain ⟨t,ht⟩ := kinFold_pre (l.getD i 0) (C1 f) l
 refine ⟨kinFold_nd _ _ h.nd,fun x hx=>?_,fun x hx=>?_,fun j hj x hx hg=>?_,by rw [ht]; exact List.mem_append_left _ h.me,by rw [ht,List.length_append]; omega⟩
 ·rcases kinFold_mem _ _ hx with hx|⟨y,hy,_,rfl⟩
  ·exact h.sub x hx
  ·exact List.mem_cons_of_mem _ (List.mem_map.2 ⟨y,hy,rfl⟩)
 ·rcases kinFold_mem _ _ hx with hx|⟨y,hy,hg,rfl⟩
  ·exact h.snd x hx
  ·exact .step (h.snd _ hmem) hy hg
 ·have hjl : j < l.length := by omega
  rw [ht,getD_pre hjl] at hg
  by_cases e : j = i
  ·subst e; exact kinFold_cl _ _ hx hg
  ·rw [ht]; exact List.mem_append_left _ (h.cl j (by omega) x hx hg)
theorem kinGo_ok {f : FnE} {reg : Int} : ∀ {k : Nat} {l : List Int} {i : Nat},KI f reg l i -> (Code f).length + 2 <= k + i -> KI f reg (kinGo f k l i) (kinGo f k l i).length
 | 0,l,i,h,hk=>by have := h.len; have := h.le; omega
 | k + 1,l,i,h,hk=>by
  unfold kinGo
  split
  ·rename_i hi; exact kinGo_ok (h.step hi) (by omega)
  ·rename_i hi
   have : i = l.length := by have := h.le; omega
   subst this
   exact h
theorem Kin_KI (f : FnE) (reg : Int) : KI f reg (Kin f reg) (Kin f reg).length := kinGo_ok (.start f reg) (by omega)
theorem Kin_mem (f : FnE) (reg r : Int) : r ∈ Kin f reg ↔ KinR f reg r := by
 have h := Kin_KI f reg
 refine ⟨h.snd r,fun hr=>?_⟩
 induction hr with
 | self=>exact h.me
 | step hr hx hg ih =>
  obtain ⟨j,hj,rfl⟩ := List.getElem_of_mem ih
  refine h.cl j hj _ hx ?_
  rw [List.getD_eq_getElem?_getD,List.getElem?_eq_getElem hj]; exact hg
def escC (f : FnE) (reg : Int) (x : InsE) (k : Nat) : Bool := decide ((x.args.getD k Enc.d).k = 1) && (Kin f reg).contains (x.args.getD k Enc.d).n && !quiet x.op k
def escI (f : FnE) (reg : Int) (x : InsE) : Bool := (List.range x.args.length).any (escC f reg x)
def EscE (f : FnE) (reg : Int) : Bool := (C1 f).any (escI f reg)
theorem kinScan_succ {f : FnE} {r : Int} {l : List Int} {q : Nat} (hq : q < (C1 f).length) : kinScan f r l (q + 1) = kinStep r (kinScan f r l q) ((C1 f).getD q Enc.d) := by
 unfold kinScan
 rw [List.take_add_one,List.getElem?_eq_getElem hq,List.foldl_append,List.getD_eq_getElem?_getD,List.getElem?_eq_getElem hq]; rfl
theorem kinScan_pre (f : FnE) (r : Int) (l : List Int) (q : Nat) : ∃ t,kinScan f r l q = l ++ t := kinFold_pre _ _ _
theorem kinScan_len {f : FnE} {reg r : Int} {l : List Int} {i q : Nat} (h : KI f reg l i) : (kinScan f r l q).length <= (Code f).length + 1 := by
 have := nodup_len (kinFold_nd r ((C1 f).take q) h.nd) (m := reg :: (C1 f).map (·.reg)) fun x hx=>by
  rcases kinFold_mem _ _ hx with hx|⟨y,hy,_,rfl⟩
  ·exact h.sub x hx
  ·exact List.mem_cons_of_mem _ (List.mem_map.2 ⟨y,List.mem_of_mem_take hy,rfl⟩)
 simp only [List.length_cons,List.length_map,C1_len] at this
 exact this
theorem Kin_S (f : FnE) (reg : Int) (hs : siz f < 4294967296) : ASpec Tryz.prog 122 [eS f,.i .i64 reg] (.orow 12 1 0 (Kin f reg).length) [(12,oL (Kin f reg))] := by
 have h1 := Code_siz f
 have h2 := C1_len f
 refine ASpec.enter TYok mixed Tryz.func122 rfl Tryz.call122 Tryz.ntmps122 rfl (rs := [.tmp 4]) rfl (nd1 _) (Clo.row) (keep := [0,1,2,4,5,6,8,9,10]) ?_; conv=>whnf
 refine LitW.own ?_
 conv=>whnf
 repeat' first|(refine iF (fun hb=>?_) (fun hb=>?_) <;> (try simp only [yv] at hb) <;> (have hc := hb; try simp only [sB,Int.reduceToNat] at hc; try simp only [addZ0] at hc) <;> first|(exfalso; omega)|conv=>whnf)|((first|refine ya ?_|refine yb ?_|refine yc ?_|refine yd ?_|refine yf ?_|refine yh ?_|refine yj ?_|refine dD ?_|refine dF ?_|refine d0 ?_|refine d1 ?_|refine dL ?_|refine dP ?_|refine yl ?_|refine ym ?_|refine yn ?_|refine ⟨_,fun _=>(IntKind.wrap_u64 _).symm,?_⟩); conv=>whnf)|((first|refine cK (fun _=>Code_C 140 141 (by decide) f hs) ?_|((try (refine CallW.lent ?_; (conv=>whnf); repeat (refine yb ?_; (conv=>whnf)))); refine cL (fun _=>Code_C 140 141 (by decide) f hs) ?_)); conv=>whnf)|(refine yt ?_; conv=>whnf)|exact ⟨_,.keep rfl rfl⟩|fail
 refine lp [5,8] (fun p : List Int × Nat=>[.orow 5 1 0 p.1.length,.i .i64 p.2]) (fun p=>[(5,oL p.1),(140,oL (C1 f)),(2,bx f)]) (fun p=>KI f reg p.1 p.2 /\ Kin f reg = kinGo f ((Code f).length + 2 - p.2) p.1 p.2) (fun p=>(Code f).length + 2 - p.2) ([reg],0) ⟨.start f reg,rfl⟩ ?_ fun p hp=>?_
 ·refine eP [(5,12)] [] ?_ ?_ <;> repeat' first|exact eN|refine And.intro ?_ ?_
  intro i hi
  have hi' : i = 0 := by simp at hi; omega
  subst hi'; rfl
 obtain ⟨hk,he⟩ := hp
 have hl := hk.len
 have hl2 := hk.le
 conv=>whnf
 repeat' first|(refine iF (fun hb=>?_) (fun hb=>?_) <;> (try simp only [yv] at hb) <;> (have hc := hb; try simp only [sB,Int.reduceToNat] at hc; try simp only [addZ0] at hc) <;> first|(exfalso; omega)|conv=>whnf)|((first|refine ya ?_|refine yb ?_|refine yc ?_|refine yd ?_|refine yf ?_|refine yh ?_|refine yj ?_|refine dD ?_|refine dF ?_|refine d0 ?_|refine d1 ?_|refine dL ?_|refine dP ?_|refine yl ?_|refine ym ?_|refine yn ?_|refine ⟨_,fun _=>(IntKind.wrap_u64 _).symm,?_⟩); conv=>whnf)|(refine yt ?_; conv=>whnf)|exact ⟨_,.keep rfl rfl⟩|fail
 ·have hi : p.2 < p.1.length := by omega
  have hpre : ∀ q,(kinScan f (p.1.getD p.2 0) p.1 q).getD p.2 0 = p.1.getD p.2 0 := fun q=>by
   obtain ⟨t,ht⟩ := kinScan_pre f (p.1.getD p.2 0) p.1 q
   rw [ht,getD_pre hi]
  refine lp [5,9] (fun q : Nat=>[.orow 5 1 0 (kinScan f (p.1.getD p.2 0) p.1 q).length,.i .i64 q]) (fun q=>[(5,oL (kinScan f (p.1.getD p.2 0) p.1 q)),(140,oL (C1 f)),(2,bx f)]) (fun q=>q <= (C1 f).length) (fun q=>(C1 f).length - q) 0 (Nat.zero_le _) ?_ fun q hq=>?_
  ·refine eP [] [] ?_ ?_ <;> repeat' first|exact eN|refine And.intro ?_ ?_
  have h4 : (kinScan f (p.1.getD p.2 0) p.1 q).length <= (Code f).length + 1 := kinScan_len hk
  have h5 : p.2 < (kinScan f (p.1.getD p.2 0) p.1 q).length := by
   obtain ⟨t,ht⟩ := kinScan_pre f (p.1.getD p.2 0) p.1 q
   rw [ht,List.length_append]; omega
  conv=>whnf
  have hr : (kinScan f (p.1.getD p.2 0) p.1 q).getD p.2 Enc.d = p.1.getD p.2 0 := hpre q
  repeat' first|(refine iF (fun hb=>?_) (fun hb=>?_) <;> (try simp only [yv] at hb) <;> (have hc := hb; try simp only [sB,Int.reduceToNat] at hc; try simp only [addZ0] at hc) <;> first|(exfalso; omega)|conv=>whnf)|((first|refine ya ?_|refine yb ?_|refine yc ?_|refine yd ?_|refine yf ?_|refine yh ?_|refine yj ?_|refine dD ?_|refine dF ?_|refine d0 ?_|refine d1 ?_|refine dL ?_|refine dP ?_|refine yl ?_|refine ym ?_|refine yn ?_|refine ⟨_,fun _=>(IntKind.wrap_u64 _).symm,?_⟩); conv=>whnf)|((first|refine cK (fun _=>Has_S _ _ (by omega)) ?_|((try (refine CallW.lent ?_; (conv=>whnf); repeat (refine yb ?_; (conv=>whnf)))); refine cL (fun _=>Has_S _ _ (by omega)) ?_)); conv=>whnf)|(refine yt ?_; conv=>whnf)|exact ⟨_,.keep rfl rfl⟩|fail
  ·have hg : gepOf ((C1 f).getD q Enc.d) (p.1.getD p.2 0) = false := by
    rw [hr] at hc
    cases hq : gepOf ((C1 f).getD q Enc.d) (p.1.getD p.2 0) with
    | false=>rfl
    | true =>
     exfalso
     unfold gepOf at hq
     simp only [Bool.and_eq_true,decide_eq_true_eq] at hq
     omega
   have e : kinScan f (p.1.getD p.2 0) p.1 (q + 1) = kinScan f (p.1.getD p.2 0) p.1 q := by rw [kinScan_succ (by omega),kinStep,hg]; rfl
   refine .mk (q + 1) (by omega) (by omega) ?_
   rw [<- e]
   refine eP [] [] ?_ ?_ <;> repeat' first|exact eN|refine And.intro ?_ ?_
  ·have hg : gepOf ((C1 f).getD q Enc.d) (p.1.getD p.2 0) = true := by
    rename_i hz
    rw [hr] at hz
    unfold gepOf
    simp only [Bool.and_eq_true,decide_eq_true_eq]
    omega
   have e : kinScan f (p.1.getD p.2 0) p.1 (q + 1) = kinScan f (p.1.getD p.2 0) p.1 q ++ [((C1 f).getD q Enc.d).reg] := by rw [kinScan_succ (by omega),kinStep,hg,hc]; rfl
   refine .mk (q + 1) (by omega) (by omega) ?_
   refine eP [(5,87)] [] ?_ ?_ <;> repeat' first|exact eN|refine And.intro ?_ ?_|exact snoc_len e|exact snoc_get e rfl|rw [e]
  ·have e : kinScan f (p.1.getD p.2 0) p.1 (q + 1) = kinScan f (p.1.getD p.2 0) p.1 q := by rw [kinScan_succ (by omega),kinStep,hc,if_neg (by simp)]
   refine .mk (q + 1) (by omega) (by omega) ?_
   rw [<- e]
   refine eP [] [] ?_ ?_ <;> repeat' first|exact eN|refine And.intro ?_ ?_
  ·have e : kinScan f (p.1.getD p.2 0) p.1 q = kinScan f (p.1.getD p.2 0) p.1 (C1 f).length := by rw [show q = (C1 f).length by omega]
   refine .mk (kinScan f (p.1.getD p.2 0) p.1 (C1 f).length,p.2 + 1) ⟨hk.step hi,?_⟩ (by show (Code f).length + 2 - (p.2 + 1) < _; omega) ?_
   ·rw [he]
    obtain ⟨k,hk'⟩ : ∃ k,(Code f).length + 2 - p.2 = k + 1 := ⟨_,(by omega : _ = ((Code f).length + 1 - p.2) + 1)⟩
    rw [hk',kinGo,if_pos hi]
    congr 1
    omega
   ·rw [e]
    refine eP [] [] ?_ ?_ <;> repeat' first|exact eN|refine And.intro ?_ ?_
 ·have e : Kin f reg = p.1 := by
   rw [he]
   obtain ⟨k,hk'⟩ : ∃ k,(Code f).length + 2 - p.2 = k + 1 := ⟨_,(by omega : _ = ((Code f).length + 1 - p.2) + 1)⟩
   rw [hk',kinGo,if_neg (by omega)]
  exact ⟨_,.give rfl rfl (by rw [e]) (fun i hi=>by rw [e]) rfl⟩
theorem Kin_F (f : FnE) (reg : Int) (hs : siz f < 4294967296) : ASpec Tryz.prog 122 [eS f,.i .i64 reg] (eL (Kin f reg)) [] := oL_frz (fun _=>rfl) (Kin_S f reg hs)
theorem any_true {p : Nat -> Bool} {n q : Nat} (hq : q < n) (h : p q = true) : (List.range n).any p = true := List.any_eq_true.2 ⟨q,List.mem_range.2 hq,h⟩
theorem any_false {p : Nat -> Bool} {n : Nat} (h : ∀ q,q < n -> p q = false) : (List.range n).any p = false := by
 rw [List.any_eq_false]; intro q hq; rw [h q (List.mem_range.1 hq)]; simp
theorem anyL_true {p : InsE -> Bool} {l : List InsE} {q : Nat} (hq : q < l.length) (h : p (l.getD q Enc.d) = true) : l.any p = true := by
 rw [List.getD_eq_getElem?_getD,List.getElem?_eq_getElem hq] at h
 exact List.any_eq_true.2 ⟨_,List.getElem_mem hq,h⟩
theorem anyL_false {p : InsE -> Bool} {l : List InsE} (h : ∀ q,q < l.length -> p (l.getD q Enc.d) = false) : l.any p = false := by
 rw [List.any_eq_false]; intro x hx
 obtain ⟨q,hq,rfl⟩ := List.getElem_of_mem hx
 have := h q hq
 rw [List.getD_eq_getElem?_getD,List.getElem?_eq_getElem hq] at this
 rw [show p l[q] = false from this]; simp
theorem all_stepB {p : Nat -> Bool} {q : Nat} (h : ∀ i,i < q -> p i = false) (h2 : p q = false) : ∀ i,i < q + 1 -> p i = false := fun i hi=>by
 by_cases e : i = q
 ·rw [e]; exact h2
 ·exact h i (by omega)
theorem Escapes_S (f : FnE) (reg : Int) (hs : siz f < 4294967296) : ASpec Tryz.prog 85 [eS f,.i .i64 reg] (.b (EscE f reg)) [] := by
 have h1 := Code_siz f
 have h2 := C1_len f
 have h3 := (Kin_KI f reg).len
 refine ASpec.enter TYok mixed Tryz.func85 rfl Tryz.call85 Tryz.ntmps85 rfl (rs := [.tmp 4]) rfl (nodupB_ok rfl) (Clo.one rfl) (keep := [0,1,2,4,5,6,8,9,10,11,12]) ?_; conv=>whnf
 repeat' first|(refine iF (fun hb=>?_) (fun hb=>?_) <;> (try simp only [yv] at hb) <;> (have hc := hb; try simp only [sB,Int.reduceToNat] at hc; try simp only [addZ0] at hc) <;> first|(exfalso; omega)|conv=>whnf)|((first|refine ya ?_|refine yb ?_|refine yc ?_|refine yd ?_|refine yf ?_|refine yh ?_|refine yj ?_|refine dD ?_|refine dF ?_|refine d0 ?_|refine d1 ?_|refine dL ?_|refine dP ?_|refine yl ?_|refine ym ?_|refine yn ?_|refine ⟨_,fun _=>(IntKind.wrap_u64 _).symm,?_⟩); conv=>whnf)|((first|refine cK (fun _=>Kin_F f reg hs) ?_|((try (refine CallW.lent ?_; (conv=>whnf); repeat (refine yb ?_; (conv=>whnf)))); refine cL (fun _=>Kin_F f reg hs) ?_)); conv=>whnf)|((first|refine cK (fun _=>Code_C 140 141 (by decide) f hs) ?_|((try (refine CallW.lent ?_; (conv=>whnf); repeat (refine yb ?_; (conv=>whnf)))); refine cL (fun _=>Code_C 140 141 (by decide) f hs) ?_)); conv=>whnf)|(refine yt ?_; conv=>whnf)|exact ⟨_,.keep rfl rfl⟩|fail
 refine lp [8] (fun q : Nat=>[.i .i64 q]) (fun q=>[(2,bx f),(140,oL (C1 f))]) (fun q=>q <= (Code f).length /\ ∀ i,i < q -> escI f reg ((C1 f).getD i Enc.d) = false) (fun q=>(Code f).length - q) 0 ⟨by omega,fun i h=>by omega⟩ ?_ fun q hq=>?_
 ·refine eP [] [] ?_ ?_ <;> repeat' first|exact eN|refine And.intro ?_ ?_
 conv=>whnf
 obtain ⟨hq,hv⟩ := hq
 repeat' first|(refine iF (fun hb=>?_) (fun hb=>?_) <;> (try simp only [yv] at hb) <;> (have hc := hb; try simp only [sB,Int.reduceToNat] at hc; try simp only [addZ0] at hc) <;> first|(exfalso; omega)|conv=>whnf)|((first|refine ya ?_|refine yb ?_|refine yc ?_|refine yd ?_|refine yf ?_|refine yh ?_|refine yj ?_|refine dD ?_|refine dF ?_|refine d0 ?_|refine d1 ?_|refine dL ?_|refine dP ?_|refine yl ?_|refine ym ?_|refine yn ?_|refine ⟨_,fun _=>(IntKind.wrap_u64 _).symm,?_⟩); conv=>whnf)|(refine yt ?_; conv=>whnf)|exact ⟨_,.keep rfl rfl⟩|fail
 ·have h4 := C1_args (f := f) (q := q) (by omega)
  refine lp [9] (fun k : Nat=>[.i .i64 k]) (fun q=>[(2,bx f),(140,oL (C1 f))]) (fun k=>k <= ((C1 f).getD q Enc.d).args.length /\ ∀ j,j < k -> escC f reg ((C1 f).getD q Enc.d) j = false) (fun k=>((C1 f).getD q Enc.d).args.length - k) 0 ⟨by omega,fun i h=>by omega⟩ ?_ fun k hk=>?_
  ·refine eP [] [] ?_ ?_ <;> repeat' first|exact eN|refine And.intro ?_ ?_
  conv=>whnf
  obtain ⟨hk,hw⟩ := hk
  repeat' first|(refine iF (fun hb=>?_) (fun hb=>?_) <;> (try simp only [yv] at hb) <;> (have hc := hb; try simp only [sB,Int.reduceToNat] at hc; try simp only [addZ0] at hc) <;> first|(exfalso; omega)|conv=>whnf)|((first|refine ya ?_|refine yb ?_|refine yc ?_|refine yd ?_|refine yf ?_|refine yh ?_|refine yj ?_|refine dD ?_|refine dF ?_|refine d0 ?_|refine d1 ?_|refine dL ?_|refine dP ?_|refine yl ?_|refine ym ?_|refine yn ?_|refine ⟨_,fun _=>(IntKind.wrap_u64 _).symm,?_⟩); conv=>whnf)|((first|refine cK (fun _=>Has_S _ _ (by omega)) ?_|((try (refine CallW.lent ?_; (conv=>whnf); repeat (refine yb ?_; (conv=>whnf)))); refine cL (fun _=>Has_S _ _ (by omega)) ?_)); conv=>whnf)|((first|refine cK (fun _=>quiet_S _ _) ?_|((try (refine CallW.lent ?_; (conv=>whnf); repeat (refine yb ?_; (conv=>whnf)))); refine cL (fun _=>quiet_S _ _) ?_)); conv=>whnf)|(refine yt ?_; conv=>whnf)|exact ⟨_,.keep rfl rfl⟩|fail
  ·have e : escC f reg ((C1 f).getD q Enc.d) k = false := by unfold escC; rw [decide_eq_false hc]; rfl
   refine .mk (k + 1) ⟨by omega,all_stepB hw e⟩ (by omega) ?_
   refine eP [] [] ?_ ?_ <;> repeat' first|exact eN|refine And.intro ?_ ?_
  ·have e : escC f reg ((C1 f).getD q Enc.d) k = true := by
    unfold escC
    rename_i hz
    rw [decide_eq_true hz,hc.1,hc.2]; rfl
   exact ⟨_,.keep (congrArg AV.b (by rw [EscE,anyL_true (q := q) (by omega) (show escI f reg ((C1 f).getD q Enc.d) = true from any_true (q := k) (by omega) e)])) rfl⟩
  ·have e : escC f reg ((C1 f).getD q Enc.d) k = false := by
    unfold escC
    rename_i hz
    rw [decide_eq_true hz]
    rcases hc with h|h
    ·rw [h]; rfl
    ·rw [h]; simp
   refine .mk (k + 1) ⟨by omega,all_stepB hw e⟩ (by omega) ?_
   refine eP [] [] ?_ ?_ <;> repeat' first|exact eN|refine And.intro ?_ ?_
  ·have e : escI f reg ((C1 f).getD q Enc.d) = false := any_false fun k' hk'=>hw k' (by omega)
   refine .mk (q + 1) ⟨by omega,all_stepB hv e⟩ (by omega) ?_
   refine eP [] [] ?_ ?_ <;> repeat' first|exact eN|refine And.intro ?_ ?_
 ·exact ⟨_,.keep (congrArg AV.b (by rw [EscE,anyL_false fun i hi=>hv i (by omega)])) rfl⟩
def allocaE (f : FnE) (v : Opd) : Bool := decide ((Maker f v).1.op = 26)
def stableE (f : FnE) (v : Opd) : Bool := decide (v.k = 5) || (decide (v.k = 1) && ((decide (0 <= v.n) && decide (v.n < f.params.length)) || decide ((Maker f v).2 = 0)))
def aloneE (f : FnE) (v : Opd) : Bool := allocaE f v && !EscE f v.n
theorem alloca_S (f : FnE) (v : Opd) (hs : siz f < 4294967296) : ASpec Tryz.prog 142 [eS f,eS v] (.b (allocaE f v)) [] := by
 refine ASpec.enter TYok mixed Tryz.func142 rfl Tryz.call142 Tryz.ntmps142 rfl (rs := [.tmp 4]) rfl (nodupB_ok rfl) (Clo.one rfl) (keep := [0,1,2,3,4,5]) ?_; conv=>whnf
 repeat' first|(refine iF (fun hb=>?_) (fun hb=>?_) <;> (try simp only [yv] at hb) <;> (have hc := hb; try simp only [sB,Int.reduceToNat] at hc; try simp only [addZ0] at hc) <;> first|(exfalso; omega)|conv=>whnf)|((first|refine ya ?_|refine yb ?_|refine yc ?_|refine yd ?_|refine yf ?_|refine yh ?_|refine yj ?_|refine dD ?_|refine dF ?_|refine d0 ?_|refine d1 ?_|refine dL ?_|refine dP ?_|refine yl ?_|refine ym ?_|refine yn ?_|refine ⟨_,fun _=>(IntKind.wrap_u64 _).symm,?_⟩); conv=>whnf)|((first|refine cK (fun _=>Maker_S f _ hs) ?_|((try (refine CallW.lent ?_; (conv=>whnf); repeat (refine yb ?_; (conv=>whnf)))); refine cL (fun _=>Maker_S f _ hs) ?_)); conv=>whnf)|(refine yt ?_; conv=>whnf)|exact ⟨_,.keep rfl rfl⟩|fail
theorem stable_S (f : FnE) (v : Opd) (hs : siz f < 4294967296) : ASpec Tryz.prog 140 [eS f,eS v] (.b (stableE f v)) [] := by
 have h1 := params_le f
 refine ASpec.enter TYok mixed Tryz.func140 rfl Tryz.call140 Tryz.ntmps140 rfl (rs := [.tmp 4]) rfl (nodupB_ok rfl) (Clo.one rfl) (keep := [0,1,2,3,4,6]) ?_; conv=>whnf
 repeat' first|(refine iF (fun hb=>?_) (fun hb=>?_) <;> (try simp only [yv] at hb) <;> (have hc := hb; try simp only [sB,Int.reduceToNat] at hc; try simp only [addZ0] at hc) <;> first|(exfalso; omega)|conv=>whnf)|((first|refine ya ?_|refine yb ?_|refine yc ?_|refine yd ?_|refine yf ?_|refine yh ?_|refine yj ?_|refine dD ?_|refine dF ?_|refine d0 ?_|refine d1 ?_|refine dL ?_|refine dP ?_|refine yl ?_|refine ym ?_|refine yn ?_|refine ⟨_,fun _=>(IntKind.wrap_u64 _).symm,?_⟩); conv=>whnf)|((first|refine cK (fun _=>Maker_S f _ hs) ?_|((try (refine CallW.lent ?_; (conv=>whnf); repeat (refine yb ?_; (conv=>whnf)))); refine cL (fun _=>Maker_S f _ hs) ?_)); conv=>whnf)|(refine yt ?_; conv=>whnf)|exact ⟨_,.keep rfl rfl⟩|fail
 ·exact ⟨_,.keep (congrArg AV.b (by rw [stableE,decide_eq_true hc]; rfl)) rfl⟩
 ·exact ⟨_,.keep (congrArg AV.b (by rename_i hz; rw [stableE,decide_eq_false hz,decide_eq_false hc]; rfl)) rfl⟩
 ·refine ⟨_,.keep (congrArg AV.b ?_) rfl⟩
  rename_i hz
  rw [stableE,decide_eq_false hz,decide_eq_true hc,pickB_and,pickB_or]; rfl
theorem alone_S (f : FnE) (v : Opd) (hs : siz f < 4294967296) : ASpec Tryz.prog 143 [eS f,eS v] (.b (aloneE f v)) [] := by
 refine ASpec.enter TYok mixed Tryz.func143 rfl Tryz.call143 Tryz.ntmps143 rfl (rs := [.tmp 4]) rfl (nodupB_ok rfl) (Clo.one rfl) (keep := [0,1,2,3,4,5]) ?_; conv=>whnf
 repeat' first|(refine iF (fun hb=>?_) (fun hb=>?_) <;> (try simp only [yv] at hb) <;> (have hc := hb; try simp only [sB,Int.reduceToNat] at hc; try simp only [addZ0] at hc) <;> first|(exfalso; omega)|conv=>whnf)|((first|refine ya ?_|refine yb ?_|refine yc ?_|refine yd ?_|refine yf ?_|refine yh ?_|refine yj ?_|refine dD ?_|refine dF ?_|refine d0 ?_|refine d1 ?_|refine dL ?_|refine dP ?_|refine yl ?_|refine ym ?_|refine yn ?_|refine ⟨_,fun _=>(IntKind.wrap_u64 _).symm,?_⟩); conv=>whnf)|((first|refine cK (fun _=>alloca_S f _ hs) ?_|((try (refine CallW.lent ?_; (conv=>whnf); repeat (refine yb ?_; (conv=>whnf)))); refine cL (fun _=>alloca_S f _ hs) ?_)); conv=>whnf)|((first|refine cK (fun _=>Escapes_S f _ hs) ?_|((try (refine CallW.lent ?_; (conv=>whnf); repeat (refine yb ?_; (conv=>whnf)))); refine cL (fun _=>Escapes_S f _ hs) ?_)); conv=>whnf)|(refine yt ?_; conv=>whnf)|exact ⟨_,.keep rfl rfl⟩|fail
 ·exact ⟨_,.keep (congrArg AV.b (by rw [aloneE,hc]; rfl)) rfl⟩
 ·exact ⟨_,.keep (congrArg AV.b (by rw [aloneE,hc]; rfl)) rfl⟩
def xoff (s : RS) : Int := if s.kn = true then IntKind.i64.wrap s.off else 0
def ddE (a b : RS) : Int := (xoff b % 18446744073709551616 - xoff a % 18446744073709551616) % 18446744073709551616
def AskedE (f : FnE) (p : Opd) (t : Int) (q : Opd) (u : Int) : Int :=
 if (((RootE f p).v.k = 3 \/ (RootE f p).v.k = 4) \/ (RootE f q).v.k = 3) \/ (RootE f q).v.k = 4 then 0
 else if (RootE f p).v = (RootE f q).v then
  if (stableE f (RootE f p).v = false \/ (RootE f p).kn = false) \/ (RootE f q).kn = false then 1
  else if ddE (RootE f p) (RootE f q) = 0 then if Count t % 18446744073709551616 = Count u % 18446744073709551616 then 2 else 1
  else if Count t % 18446744073709551616 <= ddE (RootE f p) (RootE f q) /\ Count u % 18446744073709551616 <= (0 - ddE (RootE f p) (RootE f q)) % 18446744073709551616 then 0 else 1
 else if ((RootE f p).v.k = 5 \/ allocaE f (RootE f p).v = true) /\ ((RootE f q).v.k = 5 \/ allocaE f (RootE f q).v = true) then 0
 else if aloneE f (RootE f p).v = true \/ aloneE f (RootE f q).v = true then 0 else 1
theorem opd_eq {a b : Opd} (h : a.k = b.k /\ a.n = b.n /\ a.b = b.b) : a = b := by
 cases a; cases b; simp_all
theorem opd_ne {a b : Opd} (h : ¬a.k = b.k \/ ¬a.n = b.n \/ ¬a.b = b.b) : ¬a = b := fun e=>by subst e; simp at h
theorem Asked_S (f : FnE) (p : Opd) (t : Int) (q : Opd) (u : Int) (hs : siz f < 4294967296) : ASpec Tryz.prog 120 [eS f,eS p,.i .i64 t,eS q,.i .i64 u] (.i .i64 (AskedE f p t q u)) [] := by
 refine ASpec.enter TYok mixed Tryz.func120 rfl Tryz.call120 Tryz.ntmps120 rfl (rs := [.tmp 10]) rfl (nodupB_ok rfl) (Clo.one rfl) (keep := [0,1,2,3,4,5,6,8,10,11,12,13,14,15,16,17,18,19,20,21,22]) ?_; conv=>whnf
 repeat' first|(refine iF (fun hb=>?_) (fun hb=>?_) <;> (try simp only [yv] at hb) <;> (have hc := hb; try simp only [sB,Int.reduceToNat] at hc; try simp only [addZ0] at hc) <;> first|(exfalso; omega)|conv=>whnf)|((first|refine ya ?_|refine yb ?_|refine yc ?_|refine yd ?_|refine yf ?_|refine yh ?_|refine yj ?_|refine dD ?_|refine dF ?_|refine d0 ?_|refine d1 ?_|refine dL ?_|refine dP ?_|refine yl ?_|refine ym ?_|refine yn ?_|refine ⟨_,fun _=>(IntKind.wrap_u64 _).symm,?_⟩); conv=>whnf)|((first|refine cK (fun _=>Root_S f _ hs) ?_|((try (refine CallW.lent ?_; (conv=>whnf); repeat (refine yb ?_; (conv=>whnf)))); refine cL (fun _=>Root_S f _ hs) ?_)); conv=>whnf)|((first|refine cK (fun _=>stable_S f _ hs) ?_|((try (refine CallW.lent ?_; (conv=>whnf); repeat (refine yb ?_; (conv=>whnf)))); refine cL (fun _=>stable_S f _ hs) ?_)); conv=>whnf)|((first|refine cK (fun _=>Count_S _) ?_|((try (refine CallW.lent ?_; (conv=>whnf); repeat (refine yb ?_; (conv=>whnf)))); refine cL (fun _=>Count_S _) ?_)); conv=>whnf)|((first|refine cK (fun _=>alloca_S f _ hs) ?_|((try (refine CallW.lent ?_; (conv=>whnf); repeat (refine yb ?_; (conv=>whnf)))); refine cL (fun _=>alloca_S f _ hs) ?_)); conv=>whnf)|((first|refine cK (fun _=>alone_S f _ hs) ?_|((try (refine CallW.lent ?_; (conv=>whnf); repeat (refine yb ?_; (conv=>whnf)))); refine cL (fun _=>alone_S f _ hs) ?_)); conv=>whnf)|(refine yt ?_; conv=>whnf)|exact ⟨_,.keep rfl rfl⟩|fail
 ·exact ⟨_,.keep (congrArg (AV.i _) (by rw [AskedE,if_pos hc])) rfl⟩
 ·have z0 : ¬((((RootE f p).v.k = 3 \/ (RootE f p).v.k = 4) \/ (RootE f q).v.k = 3) \/ (RootE f q).v.k = 4) := by omega
  have z1 : (RootE f p).v = (RootE f q).v := opd_eq (by assumption)
  exact ⟨_,.keep (congrArg (AV.i _) (by rw [AskedE,if_neg z0,if_pos z1,if_pos hc])) rfl⟩
 ·have z0 : ¬((((RootE f p).v.k = 3 \/ (RootE f p).v.k = 4) \/ (RootE f q).v.k = 3) \/ (RootE f q).v.k = 4) := by omega
  have z1 : (RootE f p).v = (RootE f q).v := opd_eq (by assumption)
  have zs : (stableE f (RootE f p).v = true /\ (RootE f p).kn = true) /\ (RootE f q).kn = true := by assumption
  have z2 : ¬((stableE f (RootE f p).v = false \/ (RootE f p).kn = false) \/ (RootE f q).kn = false) := by rw [zs.1.1,zs.1.2,zs.2]; simp
  have z3 : ddE (RootE f p) (RootE f q) = 0 := by assumption
  exact ⟨_,.keep (congrArg (AV.i _) (by rw [AskedE,if_neg z0,if_pos z1,if_neg z2,if_pos z3,if_pos hc])) rfl⟩
 ·have z0 : ¬((((RootE f p).v.k = 3 \/ (RootE f p).v.k = 4) \/ (RootE f q).v.k = 3) \/ (RootE f q).v.k = 4) := by omega
  have z1 : (RootE f p).v = (RootE f q).v := opd_eq (by assumption)
  have zs : (stableE f (RootE f p).v = true /\ (RootE f p).kn = true) /\ (RootE f q).kn = true := by assumption
  have z2 : ¬((stableE f (RootE f p).v = false \/ (RootE f p).kn = false) \/ (RootE f q).kn = false) := by rw [zs.1.1,zs.1.2,zs.2]; simp
  have z3 : ddE (RootE f p) (RootE f q) = 0 := by assumption
  exact ⟨_,.keep (congrArg (AV.i _) (by rw [AskedE,if_neg z0,if_pos z1,if_neg z2,if_pos z3,if_neg hc])) rfl⟩
 ·have z0 : ¬((((RootE f p).v.k = 3 \/ (RootE f p).v.k = 4) \/ (RootE f q).v.k = 3) \/ (RootE f q).v.k = 4) := by omega
  have z1 : (RootE f p).v = (RootE f q).v := opd_eq (by assumption)
  have zs : (stableE f (RootE f p).v = true /\ (RootE f p).kn = true) /\ (RootE f q).kn = true := by assumption
  have z2 : ¬((stableE f (RootE f p).v = false \/ (RootE f p).kn = false) \/ (RootE f q).kn = false) := by rw [zs.1.1,zs.1.2,zs.2]; simp
  have z3 : ¬ddE (RootE f p) (RootE f q) = 0 := by assumption
  exact ⟨_,.keep (congrArg (AV.i _) (by rw [AskedE,if_neg z0,if_pos z1,if_neg z2,if_neg z3,if_pos (show Count t % 18446744073709551616 <= ddE (RootE f p) (RootE f q) /\ Count u % 18446744073709551616 <= (0 - ddE (RootE f p) (RootE f q)) % 18446744073709551616 from hc)])) rfl⟩
 ·have z0 : ¬((((RootE f p).v.k = 3 \/ (RootE f p).v.k = 4) \/ (RootE f q).v.k = 3) \/ (RootE f q).v.k = 4) := by omega
  have z1 : (RootE f p).v = (RootE f q).v := opd_eq (by assumption)
  have zs : (stableE f (RootE f p).v = true /\ (RootE f p).kn = true) /\ (RootE f q).kn = true := by assumption
  have z2 : ¬((stableE f (RootE f p).v = false \/ (RootE f p).kn = false) \/ (RootE f q).kn = false) := by rw [zs.1.1,zs.1.2,zs.2]; simp
  have z3 : ¬ddE (RootE f p) (RootE f q) = 0 := by assumption
  exact ⟨_,.keep (congrArg (AV.i _) (by rw [AskedE,if_neg z0,if_pos z1,if_neg z2,if_neg z3,if_neg (fun h=>hc.elim (fun x=>x h.1) (fun x=>x h.2))])) rfl⟩
 ·have z0 : ¬((((RootE f p).v.k = 3 \/ (RootE f p).v.k = 4) \/ (RootE f q).v.k = 3) \/ (RootE f q).v.k = 4) := by omega
  have z1 : ¬(RootE f p).v = (RootE f q).v := opd_ne (by assumption)
  exact ⟨_,.keep (congrArg (AV.i _) (by rw [AskedE,if_neg z0,if_neg z1,if_pos hc])) rfl⟩
 ·have z0 : ¬((((RootE f p).v.k = 3 \/ (RootE f p).v.k = 4) \/ (RootE f q).v.k = 3) \/ (RootE f q).v.k = 4) := by omega
  have z1 : ¬(RootE f p).v = (RootE f q).v := opd_ne (by assumption)
  have zo : ¬(RootE f p).v.k = 5 /\ allocaE f (RootE f p).v = false \/ ¬(RootE f q).v.k = 5 /\ allocaE f (RootE f q).v = false := by assumption
  have z2 : ¬(((RootE f p).v.k = 5 \/ allocaE f (RootE f p).v = true) /\ ((RootE f q).v.k = 5 \/ allocaE f (RootE f q).v = true)) := fun h=>zo.elim (fun x=>h.1.elim x.1 fun y=>by rw [x.2] at y; cases y) fun x=>h.2.elim x.1 fun y=>by rw [x.2] at y; cases y
  exact ⟨_,.keep (congrArg (AV.i _) (by rw [AskedE,if_neg z0,if_neg z1,if_neg z2,if_pos hc])) rfl⟩
 ·have z0 : ¬((((RootE f p).v.k = 3 \/ (RootE f p).v.k = 4) \/ (RootE f q).v.k = 3) \/ (RootE f q).v.k = 4) := by omega
  have z1 : ¬(RootE f p).v = (RootE f q).v := opd_ne (by assumption)
  have zo : ¬(RootE f p).v.k = 5 /\ allocaE f (RootE f p).v = false \/ ¬(RootE f q).v.k = 5 /\ allocaE f (RootE f q).v = false := by assumption
  have z2 : ¬(((RootE f p).v.k = 5 \/ allocaE f (RootE f p).v = true) /\ ((RootE f q).v.k = 5 \/ allocaE f (RootE f q).v = true)) := fun h=>zo.elim (fun x=>h.1.elim x.1 fun y=>by rw [x.2] at y; cases y) fun x=>h.2.elim x.1 fun y=>by rw [x.2] at y; cases y
  exact ⟨_,.keep (congrArg (AV.i _) (by rw [AskedE,if_neg z0,if_neg z1,if_neg z2,if_neg (fun h=>h.elim (fun x=>by rw [hc.1] at x; cases x) (fun x=>by rw [hc.2] at x; cases x))])) rfl⟩
def safeE (f : FnE) (v : Opd) : Bool := decide (v.k = 3 \/ v.k = 4) || (decide ((Maker f v).1.op = 26) && !EscE f v.n)
def meetsE (f : FnE) (x y : InsE) : Int :=
 if x.op = 28 then AskedE f (x.args.getD 1 Enc.d) x.t (y.args.getD 0 Enc.d) y.t
 else if x.op = 30 /\ safeE f (RootE f (y.args.getD 0 Enc.d)).v = false then 1 else 0
theorem Meets_S (f : FnE) (x y : InsE) (hs : siz f < 4294967296) (hx : x.op = 28 -> 2 <= x.args.length) (hy : 1 <= y.args.length) (hx2 : x.args.length < 4294967296) (hy2 : y.args.length < 4294967296) : ASpec Tryz.prog 81 [eS f,eS x,eS y] (.i .i64 (meetsE f x y)) [] := by
 refine ASpec.enter TYok mixed Tryz.func81 rfl Tryz.call81 Tryz.ntmps81 rfl (rs := [.tmp 6]) rfl (nodupB_ok rfl) (Clo.one rfl) (keep := [0,1,2,3,4,5,6,7,10,12]) ?_; conv=>whnf
 repeat' first|(refine iF (fun hb=>?_) (fun hb=>?_) <;> (try simp only [yv] at hb) <;> (have hc := hb; try simp only [sB,Int.reduceToNat] at hc; try simp only [addZ0] at hc) <;> first|(exfalso; omega)|conv=>whnf)|((first|refine ya ?_|refine yb ?_|refine yc ?_|refine yd ?_|refine yf ?_|refine yh ?_|refine yj ?_|refine dD ?_|refine dF ?_|refine d0 ?_|refine d1 ?_|refine dL ?_|refine dP ?_|refine yl ?_|refine ym ?_|refine yn ?_|refine ⟨_,fun _=>(IntKind.wrap_u64 _).symm,?_⟩); conv=>whnf)|((first|refine cK (fun _=>Asked_S f _ _ _ _ hs) ?_|((try (refine CallW.lent ?_; (conv=>whnf); repeat (refine yb ?_; (conv=>whnf)))); refine cL (fun _=>Asked_S f _ _ _ _ hs) ?_)); conv=>whnf)|((first|refine cK (fun _=>Root_S f _ hs) ?_|((try (refine CallW.lent ?_; (conv=>whnf); repeat (refine yb ?_; (conv=>whnf)))); refine cL (fun _=>Root_S f _ hs) ?_)); conv=>whnf)|((first|refine cK (fun _=>Maker_S f _ hs) ?_|((try (refine CallW.lent ?_; (conv=>whnf); repeat (refine yb ?_; (conv=>whnf)))); refine cL (fun _=>Maker_S f _ hs) ?_)); conv=>whnf)|((first|refine cK (fun _=>Escapes_S f _ hs) ?_|((try (refine CallW.lent ?_; (conv=>whnf); repeat (refine yb ?_; (conv=>whnf)))); refine cL (fun _=>Escapes_S f _ hs) ?_)); conv=>whnf)|(refine yt ?_; conv=>whnf)|exact ⟨_,.keep rfl rfl⟩|fail
 all_goals refine ⟨_,.keep (congrArg (AV.i _) ?_) rfl⟩
 ·unfold meetsE; rw [if_pos (by assumption)]; rfl
 ·unfold meetsE; rw [if_neg (by omega),if_neg (by omega)]
 ·unfold meetsE safeE; rw [if_neg (by omega),if_neg]; simp only [hc,decide_true,Bool.true_or]; simp
 ·unfold meetsE safeE; rw [if_neg (by omega),if_neg]; simp_all
 ·unfold meetsE safeE; rw [if_neg (by omega),if_pos]; simp_all
 ·unfold meetsE safeE; rw [if_neg (by omega),if_pos]; simp_all
theorem codeTo_pre (f : FnE) (b i : Nat) : ∀ k,codeTo f b i <+: codeTo f b (i + k)
 | 0=>List.prefix_refl _
 | k + 1=>by rw [<- Nat.add_assoc,codeTo_snoc]; exact (codeTo_pre f b i k).trans (List.prefix_append _ _)
theorem codeTo_blk (f : FnE) (b : Nat) : ∀ k,codeTo f b 0 <+: codeTo f (b + k) 0
 | 0=>List.prefix_refl _
 | k + 1=>by
  rw [<- Nat.add_assoc,codeTo_next]
  have h := codeTo_pre f (b + k) 0 (f.blocks.getD (b + k) Enc.d).code.length
  rw [Nat.zero_add] at h
  exact (codeTo_blk f b k).trans h
theorem Code_split {f : FnE} {b i : Nat} (hb : b < f.blocks.length) (hi : i < (f.blocks.getD b Enc.d).code.length) : ∃ rest,Code f = codeTo f b i ++ ((f.blocks.getD b Enc.d).code.getD i Enc.d,⟨0,b,i⟩) :: rest := by
 have h1 : codeTo f b (i + 1) <+: codeTo f b (f.blocks.getD b Enc.d).code.length := by
  have := codeTo_pre f b (i + 1) ((f.blocks.getD b Enc.d).code.length - (i + 1))
  rwa [show i + 1 + ((f.blocks.getD b Enc.d).code.length - (i + 1)) = (f.blocks.getD b Enc.d).code.length by omega] at this
 rw [<- codeTo_next] at h1
 have h2 := codeTo_blk f (b + 1) (f.blocks.length - (b + 1))
 rw [show b + 1 + (f.blocks.length - (b + 1)) = f.blocks.length by omega] at h2
 obtain ⟨rest,hr⟩ := h1.trans h2
 exact ⟨rest,by unfold Code; rw [<- hr,codeTo_snoc,List.append_assoc]; rfl⟩
def noDef (f : FnE) (reg : Int) (b i : Nat) : Prop := ∀ p ∈ codeTo f b i,dfP reg p = false
theorem noDef.hit {f : FnE} {reg : Int} {b i : Nat} (h : noDef f reg b i) (hb : b < f.blocks.length) (hi : i < (f.blocks.getD b Enc.d).code.length) (hd : dfP reg ((f.blocks.getD b Enc.d).code.getD i Enc.d,⟨0,b,i⟩) = true) : Def f reg = (⟨0,b,i⟩,true) := by
 obtain ⟨rest,hr⟩ := Code_split hb hi
 unfold Def
 have e : (codeTo f b i).find? (dfP reg) = none := List.find?_eq_none.2 fun p hp=>by rw [h p hp]; simp
 rw [hr,List.find?_append,e,List.find?_cons,hd]
 rfl
theorem noDef.none {f : FnE} {reg : Int} (h : noDef f reg f.blocks.length 0) : Def f reg = (⟨0,0,0⟩,false) := by
 unfold Def
 have e : (Code f).find? (dfP reg) = Option.none := List.find?_eq_none.2 fun p hp=>by rw [h p hp]; simp
 rw [e]
theorem noDef.snoc {f : FnE} {reg : Int} {b i : Nat} (h : noDef f reg b i) (hd : dfP reg ((f.blocks.getD b Enc.d).code.getD i Enc.d,⟨0,b,i⟩) = false) : noDef f reg b (i + 1) := fun p hp=>by
 rw [codeTo_snoc] at hp
 rcases List.mem_append.1 hp with hp|hp
 ·exact h p hp
 ·rw [List.mem_singleton] at hp; subst hp; exact hd
def dfO (t3 t6 t7 : Option Nat) (p q r : Option Nat) (reg : Int) (pl : Plc) (fd : Bool) : Os := [(3,.box p t3 [.i .i64 reg]),(6,.box q t6 [.i .i64 pl.f,.i .i64 pl.b,.i .i64 pl.i]),(7,.box r t7 [.b fd])]
theorem optK_refl : ∀ o : Option Nat,optK o o
 | none=>trivial
 | some _=>rfl
def hitB (reg : Int) (x : InsE) : Bool := decide (x.reg = reg) && !decide (Result x = 0)
theorem dfClo {r : AV} {t3 t6 t7 : Option Nat} {reg : Int} {pl : Plc} {fd : Bool} (h : ∀ id,men id r = false) : Clo r (dfO t3 t6 t7 none none none reg pl fd) := by
 refine ⟨fun id hm=>(by rw [h] at hm; cases hm),fun i ob hl id hm=>?_⟩
 unfold dfO at hl
 rw [lk_cons] at hl
 split at hl
 ·cases hl; cases hm
 ·rw [lk_cons] at hl
  split at hl
  ·cases hl; cases hm
  ·rw [lk_cons] at hl
   split at hl
   ·cases hl; cases hm
   ·simp [lk] at hl
theorem Def1_S (t3 t6 t7 : Option Nat) (reg : Int) (at' pl : Plc) (x : InsE) : ASpecM Tryz.prog 89 [eS pl,.cp (Enc.enc x),.op 3 0,.op 6 0,.op 7 0] (dfO t3 t6 t7 none none none reg at' false) (.b (!hitB reg x)) (dfO t3 t6 t7 none none none reg (if hitB reg x = true then pl else at') (hitB reg x)) := by
 refine ASpecM.enter TYok mixed Tryz.func89 rfl Tryz.call89 Tryz.ntmps89 rfl (rs := [.tmp 7]) rfl (dfClo fun _=>rfl) rfl (keep := [0,1,2,3,4,5,7]) fun pin=>?_; conv=>whnf
 repeat' first|(refine iF (fun hb=>?_) (fun hb=>?_) <;> (try simp only [yv] at hb) <;> (have hc := hb; try simp only [sB,Int.reduceToNat] at hc; try simp only [addZ0] at hc) <;> first|(exfalso; omega)|conv=>whnf)|((first|refine ya ?_|refine yb ?_|refine yc ?_|refine yd ?_|refine yf ?_|refine yh ?_|refine yj ?_|refine dD ?_|refine dF ?_|refine d0 ?_|refine d1 ?_|refine dL ?_|refine dP ?_|refine yl ?_|refine ym ?_|refine yn ?_|refine ⟨_,fun _=>(IntKind.wrap_u64 _).symm,?_⟩); conv=>whnf)|((first|refine cK (fun _=>irResult_S _) ?_|((try (refine CallW.lent ?_; (conv=>whnf); repeat (refine yb ?_; (conv=>whnf)))); refine cL (fun _=>irResult_S _) ?_)); conv=>whnf)|(refine yt ?_; conv=>whnf)|exact ⟨_,.keep rfl rfl⟩|fail
 ·have e : hitB reg x = true := hb
  rw [e,if_pos rfl]
  refine ⟨[],[],?_,?_,rfl⟩ <;> repeat' first|exact eN|refine And.intro ?_ ?_
  all_goals exact optK_refl _
 ·have e : hitB reg x = false := hb
  rw [e,if_neg (by simp)]
  refine ⟨[],[],?_,?_,rfl⟩ <;> repeat' first|exact eN|refine And.intro ?_ ?_
  all_goals exact optK_refl _
theorem each_S (t3 t6 t7 : Option Nat) (f : FnE) (reg : Int) (hs : siz f < 4294967296) : ASpecM Tryz.prog 62 [eS f,.clo 89 [.op 3 0,.op 6 0,.op 7 0]] (dfO t3 t6 t7 none none none reg ⟨0,0,0⟩ false) (.tup []) (dfO t3 t6 t7 none none none reg (Def f reg).1 (Def f reg).2) := by
 have h1 := blocks_le f
 refine ASpecM.enter TYok mixed Tryz.func62 rfl Tryz.call62 Tryz.ntmps62 rfl (rs := []) rfl (dfClo fun _=>rfl) rfl (keep := [0,1,2,4,5,8,9,18,19]) fun pin=>?_; conv=>whnf
 repeat' first|(refine iF (fun hb=>?_) (fun hb=>?_) <;> (try simp only [yv] at hb) <;> (have hc := hb; try simp only [sB,Int.reduceToNat] at hc; try simp only [addZ0] at hc) <;> first|(exfalso; omega)|conv=>whnf)|((first|refine ya ?_|refine yb ?_|refine yc ?_|refine yd ?_|refine yf ?_|refine yh ?_|refine yj ?_|refine dD ?_|refine dF ?_|refine d0 ?_|refine d1 ?_|refine dL ?_|refine dP ?_|refine yl ?_|refine ym ?_|refine yn ?_|refine ⟨_,fun _=>(IntKind.wrap_u64 _).symm,?_⟩); conv=>whnf)|(refine yt ?_; conv=>whnf)|exact ⟨_,.keep rfl rfl⟩|fail
 refine lp [9] (fun b : Nat=>[.i .i64 b]) (fun b=>(2,bx f) :: dfO t3 t6 t7 (some (pin 3)) (some (pin 6)) (some (pin 7)) reg ⟨0,0,0⟩ false) (fun b=>b <= f.blocks.length /\ noDef f reg b 0) (fun b=>f.blocks.length - b) 0 ⟨by omega,fun p hp=>by cases hp⟩ ?_ fun b hb=>?_
 ·refine eP [] [] ?_ ?_ <;> repeat' first|exact eN|refine And.intro ?_ ?_
  all_goals exact optK_refl _
 conv=>whnf
 obtain ⟨hb,hn⟩ := hb
 have h2 := code_le f b
 repeat' first|(refine iF (fun hb=>?_) (fun hb=>?_) <;> (try simp only [yv] at hb) <;> (have hc := hb; try simp only [sB,Int.reduceToNat] at hc; try simp only [addZ0] at hc) <;> first|(exfalso; omega)|conv=>whnf)|((first|refine ya ?_|refine yb ?_|refine yc ?_|refine yd ?_|refine yf ?_|refine yh ?_|refine yj ?_|refine dD ?_|refine dF ?_|refine d0 ?_|refine d1 ?_|refine dL ?_|refine dP ?_|refine yl ?_|refine ym ?_|refine yn ?_|refine ⟨_,fun _=>(IntKind.wrap_u64 _).symm,?_⟩); conv=>whnf)|(refine yt ?_; conv=>whnf)|exact ⟨_,.keep rfl rfl⟩|fail
 ·refine lp [19] (fun i : Nat=>[.i .i64 i]) (fun b=>(2,bx f) :: dfO t3 t6 t7 (some (pin 3)) (some (pin 6)) (some (pin 7)) reg ⟨0,0,0⟩ false) (fun i=>i <= (f.blocks.getD b Enc.d).code.length /\ noDef f reg b i) (fun i=>(f.blocks.getD b Enc.d).code.length - i) 0 ⟨by omega,hn⟩ ?_ fun i hi=>?_
  ·refine eP [] [] ?_ ?_ <;> repeat' first|exact eN|refine And.intro ?_ ?_
   all_goals exact optK_refl _
  conv=>whnf
  obtain ⟨hi,hn⟩ := hi
  repeat' first|(refine iF (fun hb=>?_) (fun hb=>?_) <;> (try simp only [yv] at hb) <;> (have hc := hb; try simp only [sB,Int.reduceToNat] at hc; try simp only [addZ0] at hc) <;> first|(exfalso; omega)|conv=>whnf)|((first|refine ya ?_|refine yb ?_|refine yc ?_|refine yd ?_|refine yf ?_|refine yh ?_|refine yj ?_|refine dD ?_|refine dF ?_|refine d0 ?_|refine d1 ?_|refine dL ?_|refine dP ?_|refine yl ?_|refine ym ?_|refine yn ?_|refine ⟨_,fun _=>(IntKind.wrap_u64 _).symm,?_⟩); conv=>whnf)|(refine yt ?_; conv=>whnf)|exact ⟨_,.keep rfl rfl⟩|fail
  ·have hb' : b < f.blocks.length := by omega
   have hi' : i < (f.blocks.getD b Enc.d).code.length := by omega
   refine CallW.chg ?_; (conv=>whnf); refine cM (Def1_S t3 t6 t7 reg ⟨0,0,0⟩ ⟨0,b,i⟩ ((f.blocks.getD b Enc.d).code.getD i Enc.d)) ?_; conv=>whnf
   repeat' first|(refine iF (fun hb=>?_) (fun hb=>?_) <;> (try simp only [yv] at hb) <;> (have hc := hb; try simp only [sB,Int.reduceToNat] at hc; try simp only [addZ0] at hc) <;> first|(exfalso; omega)|conv=>whnf)|((first|refine ya ?_|refine yb ?_|refine yc ?_|refine yd ?_|refine yf ?_|refine yh ?_|refine yj ?_|refine dD ?_|refine dF ?_|refine d0 ?_|refine d1 ?_|refine dL ?_|refine dP ?_|refine yl ?_|refine ym ?_|refine yn ?_|refine ⟨_,fun _=>(IntKind.wrap_u64 _).symm,?_⟩); conv=>whnf)|(refine yt ?_; conv=>whnf)|exact ⟨_,.keep rfl rfl⟩|fail
   ·have e := hn.hit hb' hi' (show dfP reg ((f.blocks.getD b Enc.d).code.getD i Enc.d,⟨0,b,i⟩) = true from hc)
    rw [e,show hitB reg ((f.blocks.getD b Enc.d).code.getD i Enc.d) = true from hc,if_pos rfl]
    refine ⟨[],[],?_,?_,rfl⟩ <;> repeat' first|exact eN|refine And.intro ?_ ?_
    all_goals exact optK_refl _
   ·have h5 : hitB reg ((f.blocks.getD b Enc.d).code.getD i Enc.d) = false := hc
    rw [h5,if_neg (by simp)]
    refine .mk (i + 1) ⟨by omega,hn.snoc h5⟩ (by omega) ?_
    refine eP [] [] ?_ ?_ <;> repeat' first|exact eN|refine And.intro ?_ ?_
    all_goals exact optK_refl _
  ·refine .mk (b + 1) ⟨by omega,?_⟩ (by omega) ?_
   ·unfold noDef
    rw [codeTo_next,show (f.blocks.getD b Enc.d).code.length = i by omega]
    exact hn
   ·refine eP [] [] ?_ ?_ <;> repeat' first|exact eN|refine And.intro ?_ ?_
    all_goals exact optK_refl _
 ·rw [show b = f.blocks.length by omega] at hn
  rw [hn.none]
  refine ⟨[],[],?_,?_,rfl⟩ <;> repeat' first|exact eN|refine And.intro ?_ ?_
  all_goals exact optK_refl _
theorem irDef_S (f : FnE) (reg : Int) (hs : siz f < 4294967296) : ASpec Tryz.prog 53 [eS f,.i .i64 reg] (.tup [eS (Def f reg).1,.b (Def f reg).2]) [] := by
 refine ASpec.enter TYok mixed Tryz.func53 rfl Tryz.call53 Tryz.ntmps53 rfl (rs := [.cell 4 28,.tmp 5]) rfl (nodupB_ok rfl) (Clo.one rfl) (keep := [0,1,2,3,4,5,6,7]) ?_; conv=>whnf
 repeat' first|(refine iF (fun hb=>?_) (fun hb=>?_) <;> (try simp only [yv] at hb) <;> (have hc := hb; try simp only [sB,Int.reduceToNat] at hc; try simp only [addZ0] at hc) <;> first|(exfalso; omega)|conv=>whnf)|((first|refine ya ?_|refine yb ?_|refine yc ?_|refine yd ?_|refine yf ?_|refine yh ?_|refine yj ?_|refine dD ?_|refine dF ?_|refine d0 ?_|refine d1 ?_|refine dL ?_|refine dP ?_|refine yl ?_|refine ym ?_|refine yn ?_|refine ⟨_,fun _=>(IntKind.wrap_u64 _).symm,?_⟩); conv=>whnf)|(refine yt ?_; conv=>whnf)|exact ⟨_,.keep rfl rfl⟩|fail
 refine CallW.chg ?_; (conv=>whnf); refine cM (each_S _ _ _ f reg hs) ?_; conv=>whnf
 repeat' first|(refine iF (fun hb=>?_) (fun hb=>?_) <;> (try simp only [yv] at hb) <;> (have hc := hb; try simp only [sB,Int.reduceToNat] at hc; try simp only [addZ0] at hc) <;> first|(exfalso; omega)|conv=>whnf)|((first|refine ya ?_|refine yb ?_|refine yc ?_|refine yd ?_|refine yf ?_|refine yh ?_|refine yj ?_|refine dD ?_|refine dF ?_|refine d0 ?_|refine d1 ?_|refine dL ?_|refine dP ?_|refine yl ?_|refine ym ?_|refine yn ?_|refine ⟨_,fun _=>(IntKind.wrap_u64 _).symm,?_⟩); conv=>whnf)|(refine yt ?_; conv=>whnf)|exact ⟨_,.keep rfl rfl⟩|fail
structure OkF (f : FnE) : Prop where
 sz : siz f < 4294967296
 n : ∀ b i,inI ((f.blocks.getD b Enc.d).code.getD i Enc.d).n
 reg : ∀ b i,inI ((f.blocks.getD b Enc.d).code.getD i Enc.d).reg
 arg : ∀ b i k,inI (((f.blocks.getD b Enc.d).code.getD i Enc.d).args.getD k Enc.d).n
def makerP (f : FnE) (v : Opd) : InsE × Int × Bool := if v.k = 1 /\ (Def f v.n).2 = true then ((f.blocks.getD (Def f v.n).1.b.toNat Enc.d).code.getD (Def f v.n).1.i.toNat Enc.d,(Def f v.n).1.b,true) else (Enc.d,0,false)
theorem makerP_fst (f : FnE) (v : Opd) : (makerP f v).1 = (Maker f v).1 := by
 unfold makerP Maker; split <;> rfl
theorem maker_S (f : FnE) (v : Opd) (hs : siz f < 4294967296) : ASpec Tryz.prog 88 [eS f,eS v] (.tup [eS (makerP f v).1,.i .i64 (makerP f v).2.1,.b (makerP f v).2.2]) [] := by
 have hDef : (Def f v.n).2 = true -> (∃ b i : Nat,(Def f v.n).1 = ⟨0,b,i⟩ /\ b < f.blocks.length /\ i < (f.blocks.getD b Enc.d).code.length) := fun h=>by
  obtain ⟨b,i,h1,h2,h3⟩ := Def_mem h; exact ⟨b,i,h3,h1,h2⟩
 refine ASpec.enter TYok mixed Tryz.func88 rfl Tryz.call88 Tryz.ntmps88 rfl (rs := [.cell 4 45,.tmp 5,.tmp 6]) rfl (nodupB_ok rfl) (Clo.one rfl) (keep := [0,1,2,3,4,5,6,7,8]) ?_; conv=>whnf
 repeat' first|(refine iF (fun hb=>?_) (fun hb=>?_) <;> (try simp only [yv] at hb) <;> (have hc := hb; try simp only [sB,Int.reduceToNat] at hc; try simp only [addZ0] at hc) <;> first|(exfalso; omega)|conv=>whnf)|((first|refine ya ?_|refine yb ?_|refine yc ?_|refine yd ?_|refine yf ?_|refine yh ?_|refine yj ?_|refine dD ?_|refine dF ?_|refine d0 ?_|refine d1 ?_|refine dL ?_|refine dP ?_|refine yl ?_|refine ym ?_|refine yn ?_|refine ⟨_,fun _=>(IntKind.wrap_u64 _).symm,?_⟩); conv=>whnf)|((first|refine cK (fun _=>irDef_S f _ hs) ?_|((try (refine CallW.lent ?_; (conv=>whnf); repeat (refine yb ?_; (conv=>whnf)))); refine cL (fun _=>irDef_S f _ hs) ?_)); conv=>whnf)|(refine yt ?_; conv=>whnf)|exact ⟨_,.keep rfl rfl⟩|fail
 ·have e : makerP f v = (Enc.d,0,false) := by rw [makerP,if_neg (fun h=>hc h.1)]
  rw [e]
  exact ⟨_,.wk (by simp [wk,wks,eS,eL,Enc.enc,Enc.d,constC]) rfl⟩
 ·have e : makerP f v = (Enc.d,0,false) := by rw [makerP,if_neg (fun h=>by rw [hc] at h; cases h.2)]
  rw [e]
  exact ⟨_,.wk (by simp [wk,wks,eS,eL,Enc.enc,Enc.d,constC]) rfl⟩
 ·obtain ⟨b,i,h3,h1,h2⟩ := hDef hc
  have h4 : (Def f v.n).1.b = b := by rw [h3]
  have h5 : (Def f v.n).1.i = i := by rw [h3]
  have h6 : i < (f.blocks.getD (Def f v.n).1.b.toNat Enc.d).code.length := by rw [h4,Int.toNat_natCast]; exact h2
  refine And.intro (by omega) ?_
  conv=>whnf
  repeat' first|(refine iF (fun hb=>?_) (fun hb=>?_) <;> (try simp only [yv] at hb) <;> (have hc := hb; try simp only [sB,Int.reduceToNat] at hc; try simp only [addZ0] at hc) <;> first|(exfalso; omega)|conv=>whnf)|((first|refine ya ?_|refine yb ?_|refine yc ?_|refine yd ?_|refine yf ?_|refine yh ?_|refine yj ?_|refine dD ?_|refine dF ?_|refine d0 ?_|refine d1 ?_|refine dL ?_|refine dP ?_|refine yl ?_|refine ym ?_|refine yn ?_|refine ⟨_,fun _=>(IntKind.wrap_u64 _).symm,?_⟩); conv=>whnf)|(refine yt ?_; conv=>whnf)|exact ⟨_,.keep rfl rfl⟩|fail
  rename_i hk
  have e : makerP f v = ((f.blocks.getD (Def f v.n).1.b.toNat Enc.d).code.getD (Def f v.n).1.i.toNat Enc.d,(Def f v.n).1.b,true) := by rw [makerP,if_pos ⟨hk,hc⟩]
  rw [e]
  exact ⟨_,.keep rfl rfl⟩
def metF (l : List Int) : List Int -> Int := fun zs=>if zs ∈ l.map (fun x=>[x]) then 1 else 0
theorem metF_one (l : List Int) (x : Int) : metF l [x] = if l.contains x = true then 1 else 0 := by
 unfold metF; simp
theorem metF_set (l : List Int) (x : Int) : ∀ zs,mset (metF l) [x] 1 zs = metF (l ++ [x]) zs := fun zs=>by
 unfold mset metF
 by_cases h : zs = [x]
 ·subst h; rw [if_pos rfl,if_pos (by simp)]
 ·rw [if_neg h]
  by_cases h2 : zs ∈ l.map (fun x=>[x])
  ·rw [if_pos h2,if_pos (by rw [List.map_append]; exact List.mem_append_left _ h2)]
  ·rw [if_neg h2,if_neg (by rw [List.map_append,List.mem_append]; simpa [h] using h2)]
theorem wrap_add (a b : Int) : IntKind.i64.wrap ((a + b) % 18446744073709551616) = IntKind.i64.wrap (IntKind.i64.wrap a + IntKind.i64.wrap b) := by
 simp only [IntKind.wrap_i64]; omega
theorem root_of2 (f : FnE) : ∀ (k : Nat) (s : RS),(s.kn = true -> s.of2 = IntKind.i64.wrap s.off) -> ((rootN f k s).kn = true -> (rootN f k s).of2 = IntKind.i64.wrap (rootN f k s).off)
 | 0,s,h=>h
 | k + 1,s,h=>by
  unfold rootN
  split
  ·exact h
  ·split
   ·intro h2; cases h2
   ·refine root_of2 f k _ fun h2=>?_
    unfold rootStep at h2 ⊢
    simp only [Bool.and_eq_true,decide_eq_true_eq] at h2 ⊢
    rw [if_pos h2.2,h h2.1,wrap_add]
theorem Root_of2 (f : FnE) (v : Opd) (h : (RootE f v).kn = true) : (RootE f v).of2 = IntKind.i64.wrap (RootE f v).off := root_of2 f _ _ (fun _=>rfl) h
theorem OkF.maker {f : FnE} (h : OkF f) (v : Opd) (k : Nat) : inI ((Maker f v).1.args.getD k Enc.d).n := by
 unfold Maker
 split
 ·exact h.arg _ _ _
 ·show inI (([] : List Opd).getD k Enc.d).n
  rw [List.getD_nil]; exact ⟨by decide,by decide⟩
theorem pRoot_S (f : FnE) (v : Opd) (hs : OkF f) (hv : inI v.n) : ASpec Tryz.prog 52 [eS f,eS v] (.tup [eS (RootE f v).v,.i .i64 (if (RootE f v).kn then IntKind.i64.wrap (RootE f v).off else 0),.b (RootE f v).kn]) [] := by
 have h1 := Code_siz f
 have h2 := hs.sz
 refine ASpec.enter TYok mixed Tryz.func52 rfl Tryz.call52 Tryz.ntmps52 rfl (rs := [.cell 4 47,.tmp 5,.tmp 6]) rfl (nodupB_ok rfl) (Clo.one rfl) (keep := [0,1,2,3,4,5,6,7,8,9,10,12]) ?_; conv=>whnf
 repeat' first|(refine iF (fun hb=>?_) (fun hb=>?_) <;> (try simp only [yv] at hb) <;> (have hc := hb; try simp only [sB,Int.reduceToNat] at hc; try simp only [addZ0] at hc) <;> first|(exfalso; omega)|conv=>whnf)|((first|refine ya ?_|refine yb ?_|refine yc ?_|refine yd ?_|refine yf ?_|refine yh ?_|refine yj ?_|refine dD ?_|refine dF ?_|refine d0 ?_|refine d1 ?_|refine dL ?_|refine dP ?_|refine yl ?_|refine ym ?_|refine yn ?_|refine ⟨_,fun _=>(IntKind.wrap_u64 _).symm,?_⟩); conv=>whnf)|(refine yt ?_; conv=>whnf)|exact ⟨_,.keep rfl rfl⟩|fail
 refine lp [8,9] (fun s : RS=>[.i .i64 s.of2,.b s.kn]) (fun s=>[(13,(.mp (mapX Tryz.prog 3 3 false (s.met.length) (metF s.met)) (0) (s.met.length) (metF s.met))),(3,bx s.v),(2,bx f),(4,bx (Enc.d : Opd))]) (fun s=>RI f v s /\ inI s.v.n) (fun s=>(Code f).length + 1 - s.met.length) ⟨v,[],0,0,true⟩ ⟨RI.start f v,hv⟩ ?_ fun s hI=>?_
 ·refine eP [] [] ?_ ?_ <;> repeat' first|exact eN|refine And.intro ?_ ?_
  exact mapX_le (Nat.le_refl _) fun zs=>by unfold metF; simp
 obtain ⟨hI,hsv⟩ := hI
 have hmk := makerP_fst f s.v
 have hok : (makerP f s.v).2.2 = false -> (makerP f s.v).1.op = 0 := fun h=>by
  unfold makerP at h ⊢; split
  ·rename_i q; rw [if_pos q] at h; cases h
  ·rfl
 conv=>whnf
 have hl := hI.len
 repeat' first|(refine iF (fun hb=>?_) (fun hb=>?_) <;> (try simp only [yv] at hb) <;> (have hc := hb; try simp only [sB,Int.reduceToNat] at hc; try simp only [addZ0] at hc) <;> first|(exfalso; omega)|conv=>whnf)|((first|refine ya ?_|refine yb ?_|refine yc ?_|refine yd ?_|refine yf ?_|refine yh ?_|refine yj ?_|refine dD ?_|refine dF ?_|refine d0 ?_|refine d1 ?_|refine dL ?_|refine dP ?_|refine yl ?_|refine ym ?_|refine yn ?_|refine ⟨_,fun _=>(IntKind.wrap_u64 _).symm,?_⟩); conv=>whnf)|((first|refine cK (fun _=>maker_S f _ h2) ?_|((try (refine CallW.lent ?_; (conv=>whnf); repeat (refine yb ?_; (conv=>whnf)))); refine cL (fun _=>maker_S f _ h2) ?_)); conv=>whnf)|(refine yt ?_; conv=>whnf)|exact ⟨_,.keep rfl rfl⟩|fail
 ·have hg : ¬((Maker f s.v).1.op = 29 /\ 2 <= (Maker f s.v).1.args.length) := fun h=>by
   rw [<- hmk] at h
   rename_i hz
   rcases hz with (q|q)|q
   ·have := hok q; omega
   ·exact q h.1
   ·omega
  rw [hI.stop hg,hc]
  exact ⟨_,.keep rfl rfl⟩
 ·have hg : ¬((Maker f s.v).1.op = 29 /\ 2 <= (Maker f s.v).1.args.length) := fun h=>by
   rw [<- hmk] at h
   rename_i hz
   rcases hz with (q|q)|q
   ·have := hok q; omega
   ·exact q h.1
   ·omega
  have e := hI.stop hg
  have e2 := Root_of2 f v (by rw [e]; exact hc)
  rw [e] at e2
  rw [e,hc]
  exact ⟨_,.keep (by rw [e2]; rfl) rfl⟩
 ·have hg : (Maker f s.v).1.op = 29 /\ 2 <= (Maker f s.v).1.args.length := by rw [<- hmk]; omega
  have hlen : 2 <= (makerP f s.v).1.args.length := by rw [hmk]; exact hg.2
  refine And.intro ⟨hsv,trivial⟩ ?_
  conv=>whnf
  repeat' first|(refine iF (fun hb=>?_) (fun hb=>?_) <;> (try simp only [yv] at hb) <;> (have hc := hb; try simp only [sB,Int.reduceToNat] at hc; try simp only [addZ0] at hc) <;> first|(exfalso; omega)|conv=>whnf)|((first|refine ya ?_|refine yb ?_|refine yc ?_|refine yd ?_|refine yf ?_|refine yh ?_|refine yj ?_|refine dD ?_|refine dF ?_|refine d0 ?_|refine d1 ?_|refine dL ?_|refine dP ?_|refine yl ?_|refine ym ?_|refine yn ?_|refine ⟨_,fun _=>(IntKind.wrap_u64 _).symm,?_⟩); conv=>whnf)|(refine yt ?_; conv=>whnf)|exact ⟨_,.keep rfl rfl⟩|fail
  ·have hz : metF s.met [s.v.n] = 1 := by assumption
   have hm : s.met.contains s.v.n = true := by
    rw [metF_one] at hz
    split at hz
    ·assumption
    ·omega
   rw [hI.met hg hm]
   exact ⟨_,.keep rfl rfl⟩
  ·cases hb
  ·have hm : s.met.contains s.v.n = false := by
    rw [metF_one] at hc
    cases hq : s.met.contains s.v.n with
    | false=>rfl
    | true=>rw [if_pos hq] at hc; omega
   have hst := hI.step hg hm
   refine And.intro ⟨by omega,⟨hsv,trivial⟩,by omega,by omega⟩ ?_
   conv=>whnf
   have hlt : (Code f).length + 1 - (rootStep f s).met.length < (Code f).length + 1 - s.met.length := by unfold rootStep; simp only [List.length_append,List.length_cons,List.length_nil]; omega
   have hmp := mapX_le (P := Tryz.prog) (k := 3) (e := 3) (ks := false) (Nat.le_of_eq (show s.met.length + 1 = (rootStep f s).met.length by unfold rootStep; simp)) (metF_set s.met s.v.n)
   repeat' first|(refine iF (fun hb=>?_) (fun hb=>?_) <;> (try simp only [yv] at hb) <;> (have hc := hb; try simp only [sB,Int.reduceToNat] at hc; try simp only [addZ0] at hc) <;> first|(exfalso; omega)|conv=>whnf)|((first|refine ya ?_|refine yb ?_|refine yc ?_|refine yd ?_|refine yf ?_|refine yh ?_|refine yj ?_|refine dD ?_|refine dF ?_|refine d0 ?_|refine d1 ?_|refine dL ?_|refine dP ?_|refine yl ?_|refine ym ?_|refine yn ?_|refine ⟨_,fun _=>(IntKind.wrap_u64 _).symm,?_⟩); conv=>whnf)|(refine yt ?_; conv=>whnf)|exact ⟨_,.keep rfl rfl⟩|fail
   ·rw [hmk] at hc
    refine ⟨_,fun _=>rfl,?_⟩
    conv=>whnf
    repeat' first|(refine iF (fun hb=>?_) (fun hb=>?_) <;> (try simp only [yv] at hb) <;> (have hc := hb; try simp only [sB,Int.reduceToNat] at hc; try simp only [addZ0] at hc) <;> first|(exfalso; omega)|conv=>whnf)|((first|refine ya ?_|refine yb ?_|refine yc ?_|refine yd ?_|refine yf ?_|refine yh ?_|refine yj ?_|refine dD ?_|refine dF ?_|refine d0 ?_|refine d1 ?_|refine dL ?_|refine dP ?_|refine yl ?_|refine ym ?_|refine yn ?_|refine ⟨_,fun _=>(IntKind.wrap_u64 _).symm,?_⟩); conv=>whnf)|(refine yt ?_; conv=>whnf)|exact ⟨_,.keep rfl rfl⟩|fail
    refine ⟨_,fun _=>rfl,?_⟩
    conv=>whnf
    repeat' first|(refine iF (fun hb=>?_) (fun hb=>?_) <;> (try simp only [yv] at hb) <;> (have hc := hb; try simp only [sB,Int.reduceToNat] at hc; try simp only [addZ0] at hc) <;> first|(exfalso; omega)|conv=>whnf)|((first|refine ya ?_|refine yb ?_|refine yc ?_|refine yd ?_|refine yf ?_|refine yh ?_|refine yj ?_|refine dD ?_|refine dF ?_|refine d0 ?_|refine d1 ?_|refine dL ?_|refine dP ?_|refine yl ?_|refine ym ?_|refine yn ?_|refine ⟨_,fun _=>(IntKind.wrap_u64 _).symm,?_⟩); conv=>whnf)|(refine yt ?_; conv=>whnf)|exact ⟨_,.keep rfl rfl⟩|fail
    refine .mk (rootStep f s) ⟨hst,hs.maker s.v 0⟩ hlt ?_
    rw [hmk]
    refine eP [] [] ?_ ?_ <;> repeat' first|exact eN|refine And.intro ?_ ?_
    ·show _ = _
     unfold rootStep; simp only; rw [if_pos hc]; rfl
    ·show _ = _
     unfold rootStep; simp only; rw [decide_eq_true hc,Bool.and_true]
    ·exact hmp
   ·rw [hmk] at hc
    refine .mk (rootStep f s) ⟨hst,hs.maker s.v 0⟩ hlt ?_
    rw [hmk]
    refine eP [] [] ?_ ?_ <;> repeat' first|exact eN|refine And.intro ?_ ?_
    ·show _ = _
     unfold rootStep; simp only; rw [if_neg hc]
    ·show _ = _
     unfold rootStep; simp only; rw [decide_eq_false hc,Bool.and_false]
    ·exact hmp
structure KS (f : FnE) (reg : Int) (S : List Int) : Prop where
 nd : S.Nodup
 sub : ∀ x ∈ S,x ∈ reg :: (C1 f).map (·.reg)
 snd : ∀ x ∈ S,KinR f reg x
 me : reg ∈ S
theorem KS.len {f : FnE} {reg : Int} {S : List Int} (h : KS f reg S) : S.length <= (Code f).length + 1 := by
 have := nodup_len h.nd h.sub
 simp only [List.length_cons,List.length_map,C1_len] at this
 exact this
theorem KS.start (f : FnE) (reg : Int) : KS f reg [reg] := ⟨by simp,fun x hx=>by rw [List.mem_singleton] at hx; subst hx; exact List.mem_cons_self,fun x hx=>by rw [List.mem_singleton] at hx; subst hx; exact .self,List.mem_singleton.2 rfl⟩
def turnC (S : List Int) (x : InsE) : Prop := x.op = 29 /\ 0 < x.args.length /\ (x.args.getD 0 Enc.d).k = 1 /\ (x.args.getD 0 Enc.d).n ∈ S /\ x.reg ∉ S
theorem KS.add {f : FnE} {reg : Int} {S : List Int} {x : InsE} (h : KS f reg S) (hx : x ∈ C1 f) (hc : turnC S x) : KS f reg (S ++ [x.reg]) := by
 obtain ⟨c1,c2,c3,c4,c5⟩ := hc
 refine ⟨List.nodup_append.2 ⟨h.nd,by simp,fun a ha b hb e=>by rw [List.mem_singleton] at hb; subst hb; subst e; exact c5 ha⟩,fun y hy=>?_,fun y hy=>?_,List.mem_append_left _ h.me⟩
 ·rcases List.mem_append.1 hy with hy|hy
  ·exact h.sub y hy
  ·rw [List.mem_singleton] at hy; subst hy; exact List.mem_cons_of_mem _ (List.mem_map.2 ⟨x,hx,rfl⟩)
 ·rcases List.mem_append.1 hy with hy|hy
  ·exact h.snd y hy
  ·rw [List.mem_singleton] at hy; subst hy
   exact .step (h.snd _ c4) hx (by unfold gepOf; rw [decide_eq_true c1,decide_eq_true c2,decide_eq_true c3,decide_eq_true rfl]; rfl)
theorem KS.all {f : FnE} {reg : Int} {S : List Int} (h : KS f reg S) (hc : ∀ x ∈ C1 f,¬turnC S x) (r : Int) : S.contains r = (Kin f reg).contains r := by
 rw [Bool.eq_iff_iff]
 simp only [List.contains_eq_mem,decide_eq_true_eq]
 rw [Kin_mem]
 refine ⟨h.snd r,fun hr=>?_⟩
 induction hr with
 | self=>exact h.me
 | step hr hx hg ih =>
  rename_i r x
  unfold gepOf at hg
  simp only [Bool.and_eq_true,decide_eq_true_eq] at hg
  refine Decidable.byContradiction fun hn=>hc x hx ⟨hg.1.1.1,hg.1.1.2,hg.1.2,by rw [hg.2]; exact ih,hn⟩
structure Turn (f : FnE) (reg : Int) (S0 : List Int) (t : Bool) (S : List Int) (b i : Nat) : Prop where
 ks : KS f reg S
 old : t = false -> S = S0
 cl : t = false -> ∀ p ∈ codeTo f b i,¬turnC S p.1
 cnt : t = true -> S0.length < S.length
theorem Turn.start {f : FnE} {reg : Int} {S : List Int} (h : KS f reg S) : Turn f reg S false S 0 0 := ⟨h,fun _=>rfl,fun _ p hp=>(by cases hp),fun h=>by cases h⟩
theorem mem_C1 {f : FnE} {b i : Nat} (hb : b < f.blocks.length) (hi : i < (f.blocks.getD b Enc.d).code.length) : (f.blocks.getD b Enc.d).code.getD i Enc.d ∈ C1 f := by
 obtain ⟨rest,hr⟩ := Code_split hb hi
 unfold C1
 rw [hr]
 exact List.mem_map.2 ⟨_,List.mem_append_right _ List.mem_cons_self,rfl⟩
theorem Turn.hit {f : FnE} {reg : Int} {S0 S : List Int} {t : Bool} {b i : Nat} (h : Turn f reg S0 t S b i) (hb : b < f.blocks.length) (hi : i < (f.blocks.getD b Enc.d).code.length) (hc : turnC S ((f.blocks.getD b Enc.d).code.getD i Enc.d)) :
  Turn f reg S0 true (S ++ [((f.blocks.getD b Enc.d).code.getD i Enc.d).reg]) b (i + 1) := by
 refine ⟨h.ks.add (mem_C1 hb hi) hc,(fun h=>by cases h),(fun h=>by cases h),fun _=>?_⟩
 rw [List.length_append]
 cases ht : t with
 | true=>have := h.cnt ht; omega
 | false=>rw [h.old ht]; simp
theorem Turn.skip {f : FnE} {reg : Int} {S0 S : List Int} {t : Bool} {b i : Nat} (h : Turn f reg S0 t S b i) (hc : ¬turnC S ((f.blocks.getD b Enc.d).code.getD i Enc.d)) : Turn f reg S0 t S b (i + 1) :=
 ⟨h.ks,h.old,fun ht p hp=>by
  rw [codeTo_snoc] at hp
  rcases List.mem_append.1 hp with hp|hp
  ·exact h.cl ht p hp
  ·rw [List.mem_singleton] at hp; subst hp; exact hc,h.cnt⟩
theorem Turn.next {f : FnE} {reg : Int} {S0 S : List Int} {t : Bool} {b i : Nat} (h : Turn f reg S0 t S b i) (hi : i = (f.blocks.getD b Enc.d).code.length) : Turn f reg S0 t S (b + 1) 0 :=
 ⟨h.ks,h.old,fun ht=>by rw [codeTo_next,<- hi]; exact h.cl ht,h.cnt⟩
theorem metF_in {S : List Int} {x : Int} : metF S [x] = 1 ↔ x ∈ S := by
 rw [metF_one]; split
 ·rename_i h; simpa using h
 ·rename_i h; simp at h; constructor
  ·intro q; cases q
  ·intro q; exact absurd q h
theorem metF_out {S : List Int} {x : Int} : metF S [x] = 0 ↔ x ∉ S := by
 rw [metF_one]; split
 ·rename_i h; simp at h; constructor
  ·intro q; cases q
  ·intro q; exact absurd h q
 ·rename_i h; simpa using h
theorem turn_of {S : List Int} {x : InsE} (h : (((x.op = 29 /\ (0 : Int) < x.args.length) /\ (x.args.getD 0 Enc.d).k = 1) /\ metF S [(x.args.getD 0 Enc.d).n] = 1) /\ metF S [x.reg] = 0) : turnC S x := ⟨h.1.1.1.1,by have := h.1.1.1.2; omega,h.1.1.2,metF_in.1 h.1.2,metF_out.1 h.2⟩
theorem no_turn {S : List Int} {x : InsE} (h : (((¬x.op = 29 \/ ¬(0 : Int) < x.args.length) \/ ¬(x.args.getD 0 Enc.d).k = 1) \/ ¬metF S [(x.args.getD 0 Enc.d).n] = 1) \/ ¬metF S [x.reg] = 0) (ht : turnC S x) : False := by
 obtain ⟨c1,c2,c3,c4,c5⟩ := ht
 rcases h with (((h|h)|h)|h)|h
 ·exact h c1
 ·exact h (by omega)
 ·exact h c3
 ·exact h (metF_in.2 c4)
 ·exact h (metF_out.2 c5)
theorem escC_1 {f : FnE} {reg : Int} {S : List Int} {x : InsE} {k : Nat} (hS : ∀ r,S.contains r = (Kin f reg).contains r) (h : ¬(x.args.getD k Enc.d).k = 1 \/ metF S [(x.args.getD k Enc.d).n] = 0) : escC f reg x k = false := by
 unfold escC
 rcases h with h|h
 ·rw [decide_eq_false h]; rfl
 ·rw [<- hS,show S.contains (x.args.getD k Enc.d).n = false by rw [<- Bool.not_eq_true]; simpa using metF_out.1 h]; simp
theorem escC_q {f : FnE} {reg : Int} {x : InsE} {k : Nat} (h : x.op = 27 \/ (x.op = 28 /\ k = 1) \/ (x.op = 29 /\ k = 0) \/ x.op = 14 \/ x.op = 15) : escC f reg x k = false := by
 unfold escC
 have : quiet x.op k = true := by
  unfold quiet
  repeat' split
  all_goals first|rfl|(simp only [decide_eq_true_eq]; omega)|omega
 rw [this]; simp
theorem escC_t {f : FnE} {reg : Int} {S : List Int} {x : InsE} {k : Nat} (hS : ∀ r,S.contains r = (Kin f reg).contains r) (h : (x.args.getD k Enc.d).k = 1 /\ ¬metF S [(x.args.getD k Enc.d).n] = 0) (hq : ¬(x.op = 27 \/ (x.op = 28 /\ k = 1) \/ (x.op = 29 /\ k = 0) \/ x.op = 14 \/ x.op = 15)) : escC f reg x k = true := by
 unfold escC
 have h1 : quiet x.op k = false := by
  unfold quiet
  repeat' split
  all_goals first|rfl|(simp only [decide_eq_false_iff_not]; omega)|(exfalso; omega)
 have h2 : S.contains (x.args.getD k Enc.d).n = true := by
  refine Decidable.byContradiction fun hn=>h.2 (metF_out.2 ?_)
  simpa using hn
 rw [decide_eq_true h.1,<- hS,h2,h1]; rfl
def noEsc (f : FnE) (reg : Int) (b i : Nat) : Prop := ∀ p ∈ codeTo f b i,escI f reg p.1 = false
theorem pEscapes_S (f : FnE) (reg : Int) (hs : OkF f) (hr : inI reg) : ASpec Tryz.prog 54 [eS f, .i .i64 reg] (.b (EscE f reg)) [] := by
  have h1 := Code_siz f
  have h2 := hs.sz
  have h3 := blocks_le f
  refine ASpec.enter TYok mixed Tryz.func54 rfl Tryz.call54 Tryz.ntmps54 rfl (rs := [.tmp 4]) rfl (nodupB_ok rfl) (Clo.one rfl) (keep := [0, 1, 2, 4, 5, 6, 8, 10, 12, 14, 15, 16, 22, 23, 24, 29, 30, 31, 75, 76, 77, 82, 83, 84, 89, 90, 91]) ?_; conv => whnf
  repeat' first | (refine iF (fun hb => ?_) (fun hb => ?_) <;> (try simp only [yv] at hb) <;> (have hc := hb; try simp only [sB, Int.reduceToNat] at hc; try simp only [addZ0] at hc) <;> first | (exfalso; omega) | conv => whnf) | ((first | refine ya ?_ | refine yb ?_ | refine yc ?_ | refine yd ?_ | refine yf ?_ | refine yh ?_ | refine yj ?_ | refine dD ?_ | refine dF ?_ | refine d0 ?_ | refine d1 ?_ | refine dL ?_ | refine dP ?_ | refine yl ?_ | refine ym ?_ | refine yn ?_ | refine ⟨_, fun _ => (IntKind.wrap_u64 _).symm, ?_⟩); conv => whnf) | (refine yt ?_; conv => whnf) | exact ⟨_, .keep rfl rfl⟩ | fail
  refine And.intro ⟨by omega, ⟨hr, trivial⟩, by omega, by omega⟩ ?_
  conv => whnf
  repeat' first | (refine iF (fun hb => ?_) (fun hb => ?_) <;> (try simp only [yv] at hb) <;> (have hc := hb; try simp only [sB, Int.reduceToNat] at hc; try simp only [addZ0] at hc) <;> first | (exfalso; omega) | conv => whnf) | ((first | refine ya ?_ | refine yb ?_ | refine yc ?_ | refine yd ?_ | refine yf ?_ | refine yh ?_ | refine yj ?_ | refine dD ?_ | refine dF ?_ | refine d0 ?_ | refine d1 ?_ | refine dL ?_ | refine dP ?_ | refine yl ?_ | refine ym ?_ | refine yn ?_ | refine ⟨_, fun _ => (IntKind.wrap_u64 _).symm, ?_⟩); conv => whnf) | (refine yt ?_; conv => whnf) | exact ⟨_, .keep rfl rfl⟩ | fail
  refine lp [6] (fun p : Bool × List Int => [.b p.1]) (fun p => [(17, (.mp (mapX Tryz.prog 3 3 false (p.2.length) (metF p.2)) (0) (p.2.length) (metF p.2))), (2, bx f)]) (fun p => KS f reg p.2 ∧ (p.1 = false → ∀ x ∈ C1 f, ¬turnC p.2 x)) (fun p => 2 * ((Code f).length + 1 - p.2.length) + p.1.toNat) (true, [reg]) ⟨.start f reg, fun h => by cases h⟩ ?_ fun pA hA => ?_
  · refine eP [] [] ?_ ?_ <;> repeat' first | exact eN | refine And.intro ?_ ?_
    exact mapX_le (Nat.le_refl _) fun zs => by rw [show (fun x => 0) = metF [] from funext fun zs => by unfold metF; simp]; exact metF_set [] reg zs
  obtain ⟨hk, hcl⟩ := hA
  conv => whnf
  repeat' first | (refine iF (fun hb => ?_) (fun hb => ?_) <;> (try simp only [yv] at hb) <;> (have hc := hb; try simp only [sB, Int.reduceToNat] at hc; try simp only [addZ0] at hc) <;> first | (exfalso; omega) | conv => whnf) | ((first | refine ya ?_ | refine yb ?_ | refine yc ?_ | refine yd ?_ | refine yf ?_ | refine yh ?_ | refine yj ?_ | refine dD ?_ | refine dF ?_ | refine d0 ?_ | refine d1 ?_ | refine dL ?_ | refine dP ?_ | refine yl ?_ | refine ym ?_ | refine yn ?_ | refine ⟨_, fun _ => (IntKind.wrap_u64 _).symm, ?_⟩); conv => whnf) | (refine yt ?_; conv => whnf) | exact ⟨_, .keep rfl rfl⟩ | fail
  · refine lp [6, 24] (fun p : Bool × List Int × Nat => [.b p.1, .i .i64 p.2.2]) (fun p => [(17, (.mp (mapX Tryz.prog 3 3 false (p.2.1.length) (metF p.2.1)) (0) (p.2.1.length) (metF p.2.1))), (2, bx f)]) (fun p => Turn f reg pA.2 p.1 p.2.1 p.2.2 0 ∧ p.2.2 ≤ f.blocks.length) (fun p => f.blocks.length - p.2.2) (false, pA.2, 0) ⟨.start hk, Nat.zero_le _⟩ ?_ fun pB hB => ?_
    · refine eP [] [] ?_ ?_ <;> repeat' first | exact eN | refine And.intro ?_ ?_
      exact fun _ h => h
    obtain ⟨hB, hbl⟩ := hB
    have h4 := code_le f pB.2.2
    conv => whnf
    repeat' first | (refine iF (fun hb => ?_) (fun hb => ?_) <;> (try simp only [yv] at hb) <;> (have hc := hb; try simp only [sB, Int.reduceToNat] at hc; try simp only [addZ0] at hc) <;> first | (exfalso; omega) | conv => whnf) | ((first | refine ya ?_ | refine yb ?_ | refine yc ?_ | refine yd ?_ | refine yf ?_ | refine yh ?_ | refine yj ?_ | refine dD ?_ | refine dF ?_ | refine d0 ?_ | refine d1 ?_ | refine dL ?_ | refine dP ?_ | refine yl ?_ | refine ym ?_ | refine yn ?_ | refine ⟨_, fun _ => (IntKind.wrap_u64 _).symm, ?_⟩); conv => whnf) | (refine yt ?_; conv => whnf) | exact ⟨_, .keep rfl rfl⟩ | fail
    · refine lp [6, 31] (fun p : Bool × List Int × Nat => [.b p.1, .i .i64 p.2.2]) (fun p => [(17, (.mp (mapX Tryz.prog 3 3 false (p.2.1.length) (metF p.2.1)) (0) (p.2.1.length) (metF p.2.1))), (2, bx f)]) (fun p => Turn f reg pA.2 p.1 p.2.1 pB.2.2 p.2.2 ∧ p.2.2 ≤ (f.blocks.getD pB.2.2 Enc.d).code.length) (fun p => (f.blocks.getD pB.2.2 Enc.d).code.length - p.2.2) (pB.1, pB.2.1, 0) ⟨hB, Nat.zero_le _⟩ ?_ fun pC hC => ?_
      · refine eP [] [] ?_ ?_ <;> repeat' first | exact eN | refine And.intro ?_ ?_
        exact fun _ h => h
      obtain ⟨hC, hil⟩ := hC
      have h5 : ((f.blocks.getD pB.2.2 Enc.d).code.getD pC.2.2 Enc.d).args.length ≤ siz f := Nat.le_trans (args_le _) (ins_le f _ _)
      have h6 := hC.ks.len
      have o1 := hs.reg pB.2.2 pC.2.2
      have o2 := hs.arg pB.2.2 pC.2.2 0
      conv => whnf
      repeat' first | (refine iF (fun hb => ?_) (fun hb => ?_) <;> (try simp only [yv] at hb) <;> (have hc := hb; try simp only [sB, Int.reduceToNat] at hc; try simp only [addZ0] at hc) <;> first | (exfalso; omega) | conv => whnf) | ((first | refine ya ?_ | refine yb ?_ | refine yc ?_ | refine yd ?_ | refine yf ?_ | refine yh ?_ | refine yj ?_ | refine dD ?_ | refine dF ?_ | refine d0 ?_ | refine d1 ?_ | refine dL ?_ | refine dP ?_ | refine yl ?_ | refine ym ?_ | refine yn ?_ | refine ⟨_, fun _ => (IntKind.wrap_u64 _).symm, ?_⟩); conv => whnf) | (refine yt ?_; conv => whnf) | exact ⟨_, .keep rfl rfl⟩ | fail
      · refine And.intro (fun _ => ⟨o2, trivial⟩) ?_
        conv => whnf
        repeat' first | (refine iF (fun hb => ?_) (fun hb => ?_) <;> (try simp only [yv] at hb) <;> (have hc := hb; try simp only [sB, Int.reduceToNat] at hc; try simp only [addZ0] at hc) <;> first | (exfalso; omega) | conv => whnf) | ((first | refine ya ?_ | refine yb ?_ | refine yc ?_ | refine yd ?_ | refine yf ?_ | refine yh ?_ | refine yj ?_ | refine dD ?_ | refine dF ?_ | refine d0 ?_ | refine d1 ?_ | refine dL ?_ | refine dP ?_ | refine yl ?_ | refine ym ?_ | refine yn ?_ | refine ⟨_, fun _ => (IntKind.wrap_u64 _).symm, ?_⟩); conv => whnf) | (refine yt ?_; conv => whnf) | exact ⟨_, .keep rfl rfl⟩ | fail
        refine And.intro (fun _ => ⟨o1, trivial⟩) ?_
        conv => whnf
        repeat' first | (refine iF (fun hb => ?_) (fun hb => ?_) <;> (try simp only [yv] at hb) <;> (have hc := hb; try simp only [sB, Int.reduceToNat] at hc; try simp only [addZ0] at hc) <;> first | (exfalso; omega) | conv => whnf) | ((first | refine ya ?_ | refine yb ?_ | refine yc ?_ | refine yd ?_ | refine yf ?_ | refine yh ?_ | refine yj ?_ | refine dD ?_ | refine dF ?_ | refine d0 ?_ | refine d1 ?_ | refine dL ?_ | refine dP ?_ | refine yl ?_ | refine ym ?_ | refine yn ?_ | refine ⟨_, fun _ => (IntKind.wrap_u64 _).symm, ?_⟩); conv => whnf) | (refine yt ?_; conv => whnf) | exact ⟨_, .keep rfl rfl⟩ | fail
        · have ht := turn_of hc
          refine And.intro ⟨by omega, ⟨o1, trivial⟩, by omega, by omega⟩ ?_
          conv => whnf
          repeat' first | (refine iF (fun hb => ?_) (fun hb => ?_) <;> (try simp only [yv] at hb) <;> (have hc := hb; try simp only [sB, Int.reduceToNat] at hc; try simp only [addZ0] at hc) <;> first | (exfalso; omega) | conv => whnf) | ((first | refine ya ?_ | refine yb ?_ | refine yc ?_ | refine yd ?_ | refine yf ?_ | refine yh ?_ | refine yj ?_ | refine dD ?_ | refine dF ?_ | refine d0 ?_ | refine d1 ?_ | refine dL ?_ | refine dP ?_ | refine yl ?_ | refine ym ?_ | refine yn ?_ | refine ⟨_, fun _ => (IntKind.wrap_u64 _).symm, ?_⟩); conv => whnf) | (refine yt ?_; conv => whnf) | exact ⟨_, .keep rfl rfl⟩ | fail
          refine .mk (true, pC.2.1 ++ [((f.blocks.getD pB.2.2 Enc.d).code.getD pC.2.2 Enc.d).reg], pC.2.2 + 1) ⟨hC.hit (by omega) (by omega) ht, by show pC.2.2 + 1 ≤ _; omega⟩ (by show (f.blocks.getD pB.2.2 Enc.d).code.length - (pC.2.2 + 1) < _; omega) ?_
          refine eP [] [] ?_ ?_ <;> repeat' first | exact eN | refine And.intro ?_ ?_
          exact mapX_le (Nat.le_of_eq (by simp)) (metF_set _ _)
        · refine .mk (pC.1, pC.2.1, pC.2.2 + 1) ⟨hC.skip (fun h => no_turn hc h), by show pC.2.2 + 1 ≤ _; omega⟩ (by show (f.blocks.getD pB.2.2 Enc.d).code.length - (pC.2.2 + 1) < _; omega) ?_
          refine eP [] [] ?_ ?_ <;> repeat' first | exact eN | refine And.intro ?_ ?_
          exact fun _ h => h
      · refine .mk (pC.1, pC.2.1, pB.2.2 + 1) ⟨hC.next (by omega), by show pB.2.2 + 1 ≤ _; omega⟩ (by show f.blocks.length - (pB.2.2 + 1) < _; omega) ?_
        refine eP [] [] ?_ ?_ <;> repeat' first | exact eN | refine And.intro ?_ ?_
        exact fun _ h => h
    · have hbe : pB.2.2 = f.blocks.length := by omega
      have h6 := hB.ks.len
      have h7 := hk.len
      refine .mk (pB.1, pB.2.1) ⟨hB.ks, fun ht x hx => ?_⟩ ?_ ?_
      · obtain ⟨p, hp, rfl⟩ := List.mem_map.1 (show x ∈ (Code f).map Prod.fst from hx)
        have := hB.cl ht p
        rw [hbe] at this
        exact this hp
      · show 2 * ((Code f).length + 1 - pB.2.1.length) + pB.1.toNat < 2 * ((Code f).length + 1 - pA.2.length) + pA.1.toNat
        rw [show pA.1 = true by assumption]
        cases hq : pB.1 with
        | true => have := hB.cnt hq; simp; omega
        | false => rw [hB.old hq]; simp
      · refine eP [] [] ?_ ?_ <;> repeat' first | exact eN | refine And.intro ?_ ?_
        exact fun _ h => h
  have hS := hk.all (hcl (by assumption))
  refine lp [77] (fun b : Nat => [.i .i64 b]) (fun b => [(17, (.mp (mapX Tryz.prog 3 3 false (pA.2.length) (metF pA.2)) (0) (pA.2.length) (metF pA.2))), (2, bx f)]) (fun b => b ≤ f.blocks.length ∧ noEsc f reg b 0) (fun b => f.blocks.length - b) 0 ⟨by omega, fun p hp => by cases hp⟩ ?_ fun b hb => ?_
  · refine eP [] [] ?_ ?_ <;> repeat' first | exact eN | refine And.intro ?_ ?_
    exact fun _ h => h
  obtain ⟨hb0, hn⟩ := hb
  have h4 := code_le f b
  conv => whnf
  repeat' first | (refine iF (fun hb => ?_) (fun hb => ?_) <;> (try simp only [yv] at hb) <;> (have hc := hb; try simp only [sB, Int.reduceToNat] at hc; try simp only [addZ0] at hc) <;> first | (exfalso; omega) | conv => whnf) | ((first | refine ya ?_ | refine yb ?_ | refine yc ?_ | refine yd ?_ | refine yf ?_ | refine yh ?_ | refine yj ?_ | refine dD ?_ | refine dF ?_ | refine d0 ?_ | refine d1 ?_ | refine dL ?_ | refine dP ?_ | refine yl ?_ | refine ym ?_ | refine yn ?_ | refine ⟨_, fun _ => (IntKind.wrap_u64 _).symm, ?_⟩); conv => whnf) | (refine yt ?_; conv => whnf) | exact ⟨_, .keep rfl rfl⟩ | fail
  · refine lp [84] (fun i : Nat => [.i .i64 i]) (fun b => [(17, (.mp (mapX Tryz.prog 3 3 false (pA.2.length) (metF pA.2)) (0) (pA.2.length) (metF pA.2))), (2, bx f)]) (fun i => i ≤ (f.blocks.getD b Enc.d).code.length ∧ noEsc f reg b i) (fun i => (f.blocks.getD b Enc.d).code.length - i) 0 ⟨by omega, hn⟩ ?_ fun i hi => ?_
    · refine eP [] [] ?_ ?_ <;> repeat' first | exact eN | refine And.intro ?_ ?_
      exact fun _ h => h
    obtain ⟨hi0, hn⟩ := hi
    have h5 : ((f.blocks.getD b Enc.d).code.getD i Enc.d).args.length ≤ siz f := Nat.le_trans (args_le _) (ins_le f _ _)
    conv => whnf
    repeat' first | (refine iF (fun hb => ?_) (fun hb => ?_) <;> (try simp only [yv] at hb) <;> (have hc := hb; try simp only [sB, Int.reduceToNat] at hc; try simp only [addZ0] at hc) <;> first | (exfalso; omega) | conv => whnf) | ((first | refine ya ?_ | refine yb ?_ | refine yc ?_ | refine yd ?_ | refine yf ?_ | refine yh ?_ | refine yj ?_ | refine dD ?_ | refine dF ?_ | refine d0 ?_ | refine d1 ?_ | refine dL ?_ | refine dP ?_ | refine yl ?_ | refine ym ?_ | refine yn ?_ | refine ⟨_, fun _ => (IntKind.wrap_u64 _).symm, ?_⟩); conv => whnf) | (refine yt ?_; conv => whnf) | exact ⟨_, .keep rfl rfl⟩ | fail
    · refine lp [91] (fun k : Nat => [.i .i64 k]) (fun _ => [(17, (.mp (mapX Tryz.prog 3 3 false (pA.2.length) (metF pA.2)) (0) (pA.2.length) (metF pA.2))), (14, bx ((f.blocks.getD b Enc.d).code.getD i Enc.d)), (2, bx f)]) (fun k => k ≤ ((f.blocks.getD b Enc.d).code.getD i Enc.d).args.length ∧ ∀ j, j < k → escC f reg ((f.blocks.getD b Enc.d).code.getD i Enc.d) j = false) (fun k => ((f.blocks.getD b Enc.d).code.getD i Enc.d).args.length - k) 0 ⟨by omega, fun j hj => by omega⟩ ?_ fun k hk => ?_
      · refine eP [] [] ?_ ?_ <;> repeat' first | exact eN | refine And.intro ?_ ?_
        exact fun _ h => h
      obtain ⟨hk0, hw⟩ := hk
      have o3 := hs.arg b i k
      conv => whnf
      repeat' first | (refine iF (fun hb => ?_) (fun hb => ?_) <;> (try simp only [yv] at hb) <;> (have hc := hb; try simp only [sB, Int.reduceToNat] at hc; try simp only [addZ0] at hc) <;> first | (exfalso; omega) | conv => whnf) | ((first | refine ya ?_ | refine yb ?_ | refine yc ?_ | refine yd ?_ | refine yf ?_ | refine yh ?_ | refine yj ?_ | refine dD ?_ | refine dF ?_ | refine d0 ?_ | refine d1 ?_ | refine dL ?_ | refine dP ?_ | refine yl ?_ | refine ym ?_ | refine yn ?_ | refine ⟨_, fun _ => (IntKind.wrap_u64 _).symm, ?_⟩); conv => whnf) | (refine yt ?_; conv => whnf) | exact ⟨_, .keep rfl rfl⟩ | fail
      · refine And.intro (fun _ => ⟨o3, trivial⟩) ?_
        conv => whnf
        repeat' first | (refine iF (fun hb => ?_) (fun hb => ?_) <;> (try simp only [yv] at hb) <;> (have hc := hb; try simp only [sB, Int.reduceToNat] at hc; try simp only [addZ0] at hc) <;> first | (exfalso; omega) | conv => whnf) | ((first | refine ya ?_ | refine yb ?_ | refine yc ?_ | refine yd ?_ | refine yf ?_ | refine yh ?_ | refine yj ?_ | refine dD ?_ | refine dF ?_ | refine d0 ?_ | refine d1 ?_ | refine dL ?_ | refine dP ?_ | refine yl ?_ | refine ym ?_ | refine yn ?_ | refine ⟨_, fun _ => (IntKind.wrap_u64 _).symm, ?_⟩); conv => whnf) | (refine yt ?_; conv => whnf) | exact ⟨_, .keep rfl rfl⟩ | fail
        · have e := escC_1 (reg := reg) hS hc
          refine .mk (k + 1) ⟨by omega, all_stepB hw e⟩ (by omega) ?_
          refine eP [] [] ?_ ?_ <;> repeat' first | exact eN | refine And.intro ?_ ?_
          exact fun _ h => h
        all_goals first
          | cases hb
          | (have e : escC f reg ((f.blocks.getD b Enc.d).code.getD i Enc.d) k = false := escC_q (by omega)
             refine .mk (k + 1) ⟨by omega, all_stepB hw e⟩ (by omega) ?_
             refine eP [] [] ?_ ?_ <;> repeat' first | exact eN | refine And.intro ?_ ?_
             exact fun _ h => h)
          | (have hz : (((f.blocks.getD b Enc.d).code.getD i Enc.d).args.getD k Enc.d).k = 1 ∧ ¬metF pA.2 [(((f.blocks.getD b Enc.d).code.getD i Enc.d).args.getD k Enc.d).n] = 0 := by assumption
             have e := escC_t (reg := reg) hS hz (show ¬(((f.blocks.getD b Enc.d).code.getD i Enc.d).op = 27 ∨ (((f.blocks.getD b Enc.d).code.getD i Enc.d).op = 28 ∧ k = 1) ∨ (((f.blocks.getD b Enc.d).code.getD i Enc.d).op = 29 ∧ k = 0) ∨ ((f.blocks.getD b Enc.d).code.getD i Enc.d).op = 14 ∨ ((f.blocks.getD b Enc.d).code.getD i Enc.d).op = 15) by omega)
             exact ⟨_, .keep (congrArg AV.b (by rw [EscE, List.any_eq_true.2 ⟨_, mem_C1 (by omega) (by omega), any_true (q := k) (by omega) e⟩])) rfl⟩)
      · have e : escI f reg ((f.blocks.getD b Enc.d).code.getD i Enc.d) = false := any_false fun k' hk' => hw k' (by omega)
        refine .mk (i + 1) ⟨by omega, fun p hp => ?_⟩ (by omega) ?_
        · rw [codeTo_snoc] at hp
          rcases List.mem_append.1 hp with hp | hp
          · exact hn p hp
          · rw [List.mem_singleton] at hp; subst hp; exact e
        · refine eP [] [] ?_ ?_ <;> repeat' first | exact eN | refine And.intro ?_ ?_
          exact fun _ h => h
    · refine .mk (b + 1) ⟨by omega, ?_⟩ (by omega) ?_
      · unfold noEsc
        rw [codeTo_next, show (f.blocks.getD b Enc.d).code.length = i by omega]
        exact hn
      · refine eP [] [] ?_ ?_ <;> repeat' first | exact eN | refine And.intro ?_ ?_
        exact fun _ h => h
  · have e : EscE f reg = false := by
      unfold EscE
      rw [List.any_eq_false]
      intro x hx
      obtain ⟨p, hp, rfl⟩ := List.mem_map.1 (show x ∈ (Code f).map Prod.fst from hx)
      rw [show b = f.blocks.length by omega] at hn
      rw [hn p hp]; simp
    exact ⟨_, .keep (congrArg AV.b e.symm) rfl⟩
end Go.Proofs.YtjfdbmfcnhjfoaaGreat
