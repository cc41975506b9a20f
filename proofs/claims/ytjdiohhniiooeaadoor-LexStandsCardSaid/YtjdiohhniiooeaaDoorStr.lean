/- Calls that are handed what the caller owns and hand it back, turned. -/
import Derived.Test.YtjdiohhniiooeaaDoorDat
import Derived.Laws.Strings3
namespace Go.Proofs.YtjdiohhniiooeaaDoor
open Go.RowKit
set_option linter.unusedVariables false
/-- The call is handed the resources rs; it gives a datum and hands resources back, told by it. -/
def SpecX {D : Type} (P : Program) (f : FuncId) (args : List Value) (rs : Own) (Pre : World → Prop) (val : D → Value) (rs' : D → Own) (Φ : D → World → Prop) : Prop :=
  ∀ (S : Nat → Prop) (w : World), (∀ r ∈ rs, r.ok w) → rs.feet.Nodup → (∀ k ∈ rs.feet, k < w.heap.size ∧ ¬ S k) → Rob S w Pre →
    Calls P f args.toArray w fun e w' => ∃ v, e = .returned (val v) ∧ BelowX rs.feet w w' ∧ (∀ r ∈ rs' v, r.ok w') ∧ (Own.feet (rs' v)).Nodup ∧
      (∀ k ∈ Own.feet (rs' v), (w.heap.size ≤ k ∨ k ∈ rs.feet) ∧ k < w'.heap.size) ∧ Rob (fun k => (S k ∨ w.heap.size ≤ k ∨ k ∈ rs.feet) ∧ k ∉ Own.feet (rs' v)) w' (Φ v)
section
variable {P : Program} {E : Env} {ops : Array Oper} {Q : Exit → Act → World → Prop} {rest : List Oper} {l : Slots} {own : Own} {F : World → Prop}
variable {f : FuncId} {fn : Func} {c : Code} {args vs : List Value} {rs : Own} {Pre : World → Prop} {n d : Nat} {v : Value}
theorem SpecX.enter {D : Type} {val : D → Value} {rs' : D → Own} {Φ : D → World → Prop} (hf : P.funcs[f]? = some fn) (hb : fn.body = some c) (hnt : fn.ntmps = n) (hn : args.length ≤ n) (hl : start args 0 = l)
    (h : ∀ (S : Nat → Prop) (w : World), SC P ⟨n, S, w, rs.feet⟩ (bodyPost P fn fun e w' => ∃ v, e = .returned (val v) ∧ BelowX rs.feet w w' ∧ (∀ r ∈ rs' v, r.ok w') ∧ (Own.feet (rs' v)).Nodup ∧
      (∀ k ∈ Own.feet (rs' v), (w.heap.size ≤ k ∨ k ∈ rs.feet) ∧ k < w'.heap.size) ∧ Rob (fun k => (S k ∨ w.heap.size ≤ k ∨ k ∈ rs.feet) ∧ k ∉ Own.feet (rs' v)) w' (Φ v)) c l rs Pre) : SpecX P f args rs Pre val rs' Φ := by
  subst hl hnt
  intro S w hok hnd hft hr
  refine calls_of_wp hf hb ((h S w).out _ w (Has.start hn) ⟨BelowX.refl _ _, hok, fun k hk => ⟨.inr hk, (hft k hk).1⟩, hnd, fun w' hs he => ?_⟩)
  exact hr w' hs fun k hk hS => he k hk ⟨.inl hS, fun hk' => (hft k hk').2 hS⟩
theorem SL.callX0 {D : Type} {val : D → Value} {rs' : D → Own} {Φ : D → World → Prop} {xs : List Operand} {ats : Array TypeId} {ty : TypeId} {pos : String} {after : Array Edge} {gu : Option (Nat × Bool)}
    (hf : ∀ args w, (callFunc f args).run P w = .ok (.enter f args) w) (hx : Args l true xs vs) (hs : SpecX P f vs rs Pre val rs' Φ) (hpre : ∀ w, F w → Pre w)
    (hd : Nat.blt d E.n = true) (hg : gd ops l gu = some true) (K : ∀ v, SL P E ops Q rest ((d, true, val v) :: l) (rs' v ++ own) (fun w => F w ∧ Φ v w)) :
    SL P E ops Q (⟨some d, .call ⟨.value (.func f), xs.toArray, ats⟩, ty, pos, after, gu⟩ :: rest) l (rs ++ own) F := by
  refine ⟨fun a w ha hw => ?_⟩
  unfold wpList
  rw [if_pos (wanted_gd (o := ⟨some d, .call ⟨.value (.func f), xs.toArray, ats⟩, ty, pos, after, gu⟩) ha hg)]
  refine .inl ?_
  unfold Oper.wp
  rw [run_call hf rfl (hx.map ha rfl), Oper.upon_enter]
  have hnd := hw.nodup
  have hnew := hw.new
  rw [feet_append] at hnd hnew
  have hnd' := List.nodup_append.1 hnd
  refine (hs (E.good (rs ++ own)) w (fun r hr => hw.ok r (List.mem_append_left _ hr)) hnd'.1 (fun k hk => ⟨(hnew k (List.mem_append_left _ hk)).2, fun hg => hg.2 (by rw [feet_append]; exact List.mem_append_left _ hk)⟩) (fun w' h1 h2 => hpre w' (hw.rob w' h1 h2))).mono ?_
  rintro e w' ⟨v, rfl, hb, hok, hnd2, hft2, hr⟩
  have hown : ∀ k ∈ own.feet, k ∉ rs.feet := fun k hk hk' => hnd'.2.2 k hk' k hk rfl
  have hownlt : ∀ k ∈ own.feet, k < w.heap.size := fun k hk => (hnew k (List.mem_append_right _ hk)).2
  have hrs0 : ∀ k ∈ rs.feet, E.w0.heap.size ≤ k ∨ k ∈ E.X := fun k hk => (hnew k (List.mem_append_left _ hk)).1
  refine (K v).out _ _ (ha.put hd true (val v)) ⟨⟨hb.os.trans hw.below.os, hb.tape.trans hw.below.tape, hb.output.trans hw.below.output, Nat.le_trans hw.below.size hb.size, fun k hk hx => ?_⟩, fun r hr' => ?_, fun k hk => ?_, ?_, fun w'' h1 h2 => ⟨hw.rob w'' (Nat.le_trans hb.size h1) fun k hk hg => ?_, hr w'' h1 fun k hk hg => h2 k hk ?_⟩⟩
  · refine (hb.block k (Nat.lt_of_lt_of_le hk hw.below.size) fun hk' => ?_).trans (hw.below.block k hk hx)
    rcases hrs0 k hk' with q | q
    · omega
    · exact hx q
  · rcases List.mem_append.1 hr' with hr' | hr'
    · exact hok r hr'
    · have h0 := hw.ok r (List.mem_append_right _ hr')
      have key : ∀ k ∈ r.foot, w'.heap[k]? = w.heap[k]? := fun k hk => by
        have hk' : k ∈ own.feet := List.mem_flatMap.2 ⟨r, hr', hk⟩
        exact hb.block k (hownlt k hk') (hown k hk')
      exact Res.ok_congr key h0
  · rw [feet_append] at hk
    rcases List.mem_append.1 hk with hk | hk
    · refine ⟨?_, (hft2 k hk).2⟩
      rcases (hft2 k hk).1 with q | q
      · exact .inl (Nat.le_trans hw.below.size q)
      · exact hrs0 k q
    · exact ⟨(hnew k (List.mem_append_right _ hk)).1, Nat.lt_of_lt_of_le (hownlt k hk) hb.size⟩
  · rw [feet_append, List.nodup_append]
    refine ⟨hnd2, hnd'.2.1, fun a ha b hb' hab => ?_⟩
    subst hab
    rcases (hft2 a ha).1 with q | q
    · have := hownlt a hb'; omega
    · exact hown a hb' q
  · have hkr : k ∉ rs.feet := fun q => hg.2 (by rw [feet_append]; exact List.mem_append_left _ q)
    refine (h2 k (Nat.lt_of_lt_of_le hk hb.size) ⟨hg.1, fun q => ?_⟩).trans (hb.block k hk hkr)
    rw [feet_append] at q
    rcases List.mem_append.1 q with q | q
    · rcases (hft2 k q).1 with z | z
      · omega
      · exact hkr z
    · exact hg.2 (by rw [feet_append]; exact List.mem_append_right _ q)
  · have hown' : k ∉ own.feet := fun q => by
      rcases hg.1 with z | z | z
      · exact z.2 (by rw [feet_append]; exact List.mem_append_right _ q)
      · have := hownlt k q; omega
      · exact hown k q z
    refine ⟨?_, by rw [feet_append]; exact fun q => (List.mem_append.1 q).elim hg.2 hown'⟩
    rcases hg.1 with z | z | z
    · exact z.1
    · exact .inr (.inl (Nat.le_trans hw.below.size z))
    · exact .inr (hrs0 k z)
theorem SL.callX {D : Type} {val : D → Value} {rs' : D → Own} {Φ : D → World → Prop} {xs : List Operand} {ats : Array TypeId} {ty : TypeId} {pos : String} {after : Array Edge} {gu : Option (Nat × Bool)} {own' : Own} (hp : own.Perm (rs ++ own'))
    (hf : ∀ args w, (callFunc f args).run P w = .ok (.enter f args) w) (hx : Args l true xs vs) (hs : SpecX P f vs rs Pre val rs' Φ) (hpre : ∀ w, F w → Pre w)
    (hd : Nat.blt d E.n = true) (hg : gd ops l gu = some true) (K : ∀ v, SL P E ops Q rest ((d, true, val v) :: l) (rs' v ++ own') (fun w => F w ∧ Φ v w)) :
    SL P E ops Q (⟨some d, .call ⟨.value (.func f), xs.toArray, ats⟩, ty, pos, after, gu⟩ :: rest) l own F :=
  SL.perm hp (SL.callX0 hf hx hs hpre hd hg K)
theorem finX {D : Type} {val : D → Value} {rs' : D → Own} {Φ : D → World → Prop} {S : Nat → Prop} {u : Value} {own' : Own} (x : D) (hu : u = val x) (hp : own.Perm own') (hrun : ∀ a w, Has E.n l a → SP E own' F w → (results fn a.tmps).run P w = .ok u w) (hS : E.S = S) (hX : E.X = rs.feet) (hsub : (rs' x).Sublist own') (hv : ∀ w, F w → Φ x w) :
    SE E (bodyPost P fn fun e w' => ∃ v, e = .returned (val v) ∧ BelowX rs.feet E.w0 w' ∧ (∀ r ∈ rs' v, r.ok w') ∧ (Own.feet (rs' v)).Nodup ∧
      (∀ k ∈ Own.feet (rs' v), (E.w0.heap.size ≤ k ∨ k ∈ rs.feet) ∧ k < w'.heap.size) ∧ Rob (fun k => (S k ∨ E.w0.heap.size ≤ k ∨ k ∈ rs.feet) ∧ k ∉ Own.feet (rs' v)) w' (Φ v)) .ret l own F :=
  ⟨fun a w ha hw => by
    have hw := hw.perm hp
    have h := hw.drop hsub hv
    subst hS hu
    refine ⟨ha.defers, _, hrun a w ha hw, x, rfl, hX ▸ h.below, h.ok, h.nodup, fun k hk => hX ▸ h.new k hk, fun w'' h1 h2 => h.rob w'' h1 fun k hk hg => h2 k hk ?_⟩
    unfold Env.good at hg; rw [hX] at hg; exact hg⟩
end
/-! ## Strings -/
/-- The byte at a place. -/
def byteAt (s : ByteArray) (i : Int) : Int := ((s.data.toList.getD i.toNat 0).toNat : Int)
def strEq (a b : ByteArray) : Bool := a.toList == b.toList
theorem byteAt_get {s : ByteArray} {i : Nat} (h : i < s.size) : ((s[i]'h).toNat : Int) = byteAt s i := by
  unfold byteAt
  have hs : i < s.data.toList.length := by simpa using h
  rw [Int.toNat_natCast, List.getD_eq_getElem?_getD, List.getElem?_eq_getElem hs]
  rfl
theorem byteAt_rg (s : ByteArray) (i : Int) : 0 ≤ byteAt s i ∧ byteAt s i ≤ 255 := by
  unfold byteAt
  have := (s.data.toList.getD i.toNat 0).toNat_lt
  omega
/-- An error's value: is it nil? -/
def ErrIs (ev : Value) (b : Bool) : Prop := (b = true ∧ ev = .nilIface) ∨ (b = false ∧ ∃ t p, ev = .iface t p)
section
variable {P : Program} {E : Env} {ops : Array Oper} {l : Slots} {own : Own} {F : World → Prop} {d : Nat} {g b1 b2 b : Bool} {ty T T' : TypeId} {pos : String} {after : Array Edge} {gu : Option (Nat × Bool)} {x y : Operand} {ev : Value}
theorem equalIn_nil {ms : Array (String × TypeId)} (hT : P.underlying T = some (.interface ms)) (n : Nat) (w : World) : (Op.equalIn (n + 1) T .nilIface .nilIface).run P w = .ok true w := by
  simp [Op.equalIn, run_underlying hT]
theorem equalIn_iface {ms : Array (String × TypeId)} (hT : P.underlying T = some (.interface ms)) (n : Nat) (t : TypeId) (p : Value) (w : World) : (Op.equalIn (n + 1) T (.iface t p) .nilIface).run P w = .ok false w := by
  simp [Op.equalIn, run_underlying hT]
theorem PS.eqlNil (hx : opnd l x = some (b1, ev)) (h1 : g = true → b1 = true) (hy : opnd l (.const .nilIface) = some (b2, .nilIface)) (h2 : g = true → b2 = true) (he : ErrIs ev b) {ms : Array _} (hT : P.underlying T = some (.interface ms)) (hd : Nat.blt d E.n = true) (hg : gd ops l gu = some g) :
    PStep P E ops ⟨some d, .binOp .eql T x (.const .nilIface) T', ty, pos, after, gu⟩ l own F d g (.bool b) :=
  .mk rfl hd hg fun ac w hac hw hgt => by
    simp only [execOp, hac.eval hx (h1 hgt), hac.eval hy (h2 hgt)]
    refine run_next ?_
    have e1 : eqGuard .eql T x (.const .nilIface) ev .nilIface = pure () := by
      rcases he with ⟨rfl, rfl⟩ | ⟨rfl, t, p, rfl⟩
      · exact eqGuard_nil_constR _ _ _ _
      · rfl
    have e2 : (Op.equalIn Op.maxDepth T ev .nilIface).run P w = .ok b w := by
      rcases he with ⟨rfl, rfl⟩ | ⟨rfl, t, p, rfl⟩
      · exact equalIn_nil hT 9999 w
      · exact equalIn_iface hT 9999 t p w
    rcases he with ⟨rfl, rfl⟩ | ⟨rfl, t, p, rfl⟩ <;> simp [e1, e2, go_sem, binOp, Op.equal]
end
theorem strEq_size {a b : ByteArray} (h : strEq a b = false) : a ≠ b := fun e => by
  subst e
  unfold strEq at h
  rw [beq_self_eq_true] at h
  exact absurd h (by decide)
theorem strNe_pos {s : ByteArray} (h : strEq s ⟨#[]⟩ = false) : 0 < s.size := by
  rcases Nat.eq_zero_or_pos s.size with q | q
  · refine absurd ?_ (strEq_size h)
    exact ByteArray.ext (Array.eq_empty_of_size_eq_zero q)
  · exact q
theorem strEq_iff {a b : ByteArray} : strEq a b = true ↔ a = b := by
  unfold strEq
  rw [beq_iff_eq, ByteArray.toList_eq, ByteArray.toList_eq]
  constructor
  · intro h; exact ByteArray.ext (Array.ext' h)
  · intro h; rw [h]
section
variable {P : Program} {E : Env} {ops : Array Oper} {l : Slots} {own : Own} {F : World → Prop} {d : Nat} {g b1 b2 b3 : Bool} {ty T T' : TypeId} {pos : String} {after : Array Edge} {gu : Option (Nat × Bool)} {x y z : Operand} {s t : ByteArray} {kk k2 : IntKind} {m n : Int}
theorem PS.neqA {u v : Value} {b : Bool} (hx : opnd l x = some (b1, u)) (h1 : g = true → b1 = true) (hy : opnd l y = some (b2, v)) (h2 : g = true → b2 = true) (hr : ∀ x y w, (do eqGuard .neq T x y u v; binOp .neq T u v).run P w = .ok (.bool b) w)
    (hd : Nat.blt d E.n = true) (hg : gd ops l gu = some g) : PStep P E ops ⟨some d, .binOp .neq T x y T', ty, pos, after, gu⟩ l own F d g (.bool b) :=
  .mk rfl hd hg fun ac w hac hw hgt => by
    simp only [execOp, hac.eval hx (h1 hgt), hac.eval hy (h2 hgt)]
    exact run_next (hr x y w)
theorem PS.nilCheck {a : Addr} (hx : opnd l x = some (b1, .pointer (some a))) (h1 : g = true → b1 = true) (hd : Nat.blt d E.n = true) (hg : gd ops l gu = some g) :
    PStep P E ops ⟨some d, .nilCheck x, ty, pos, after, gu⟩ l own F d g (.pointer (some a)) :=
  .mk rfl hd hg fun ac w hac hw hgt => by
    simp only [execOp, hac.eval hx (h1 hgt)]
    rfl
theorem PS.indexStr (hx : opnd l x = some (b1, .string s)) (h1 : g = true → b1 = true) (hy : opnd l y = some (b2, .int kk m)) (h2 : g = true → b2 = true) (hT : P.underlying T = some .string) (hb : g = true → 0 ≤ m ∧ m < s.size) (hd : Nat.blt d E.n = true) (hg : gd ops l gu = some g) :
    PStep P E ops ⟨some d, .index T x y, ty, pos, after, gu⟩ l own F d g (.int .u8 (byteAt s m)) :=
  .mk rfl hd hg fun ac w hac hw hgt => by
    have hm := hb hgt
    simp only [execOp, hac.eval hx (h1 hgt), hac.eval hy (h2 hgt)]
    refine run_next ?_
    rw [run_index_string w T s kk m hT, dif_pos hm, byteAt_get (i := m.toNat) (by omega), Int.toNat_of_nonneg hm.1]
theorem PS.sliceStr (hx : opnd l x = some (b1, .string s)) (h1 : g = true → b1 = true) (hy : opnd l y = some (b2, .int kk m)) (h2 : g = true → b2 = true) (hz : opnd l z = some (b3, .int k2 n)) (h3 : g = true → b3 = true) (hT : P.underlying T = some .string) (hb : g = true → 0 ≤ m ∧ m ≤ n ∧ n ≤ s.size) (hd : Nat.blt d E.n = true) (hg : gd ops l gu = some g) :
    PStep P E ops ⟨some d, .slice T x (some y) (some z) none, ty, pos, after, gu⟩ l own F d g (.string (s.extract m.toNat n.toNat)) :=
  .mk rfl hd hg fun ac w hac hw hgt => by
    have hm := hb hgt
    simp only [execOp, Option.map, hac.eval hx (h1 hgt), hac.eval hy (h2 hgt), hac.eval hz (h3 hgt)]
    refine run_next ?_
    rw [run_sliceAt_string (h := hT)]
    exact (run_slice_string w T s kk k2 m n hT hm.1 hm.2.1 hm.2.2)
theorem PS.sliceStrL (hx : opnd l x = some (b1, .string s)) (h1 : g = true → b1 = true) (hy : opnd l y = some (b2, .int kk m)) (h2 : g = true → b2 = true) (hT : P.underlying T = some .string) (hb : g = true → 0 ≤ m ∧ m ≤ s.size) (hd : Nat.blt d E.n = true) (hg : gd ops l gu = some g) :
    PStep P E ops ⟨some d, .slice T x (some y) none none, ty, pos, after, gu⟩ l own F d g (.string (s.extract m.toNat s.size)) :=
  .mk rfl hd hg fun ac w hac hw hgt => by
    have hm := hb hgt
    simp only [execOp, Option.map, hac.eval hx (h1 hgt), hac.eval hy (h2 hgt)]
    refine run_next ?_
    rw [run_sliceAt_string (h := hT), run_slice_string_from_if w T s kk m hT, if_pos hm]
theorem PS.sliceStrH (hx : opnd l x = some (b1, .string s)) (h1 : g = true → b1 = true) (hy : opnd l y = some (b2, .int kk m)) (h2 : g = true → b2 = true) (hT : P.underlying T = some .string) (hb : g = true → 0 ≤ m ∧ m ≤ s.size) (hd : Nat.blt d E.n = true) (hg : gd ops l gu = some g) :
    PStep P E ops ⟨some d, .slice T x none (some y) none, ty, pos, after, gu⟩ l own F d g (.string (s.extract 0 m.toNat)) :=
  .mk rfl hd hg fun ac w hac hw hgt => by
    have hm := hb hgt
    simp only [execOp, Option.map, hac.eval hx (h1 hgt), hac.eval hy (h2 hgt)]
    refine run_next ?_
    rw [run_sliceAt_string (h := hT), run_slice_string_to_if w T s kk m hT, if_pos hm]
theorem PS.eqlS (hx : opnd l x = some (b1, .string s)) (h1 : g = true → b1 = true) (hy : opnd l y = some (b2, .string t)) (h2 : g = true → b2 = true) (hd : Nat.blt d E.n = true) (hg : gd ops l gu = some g) :
    PStep P E ops ⟨some d, .binOp .eql T x y T', ty, pos, after, gu⟩ l own F d g (.bool (strEq s t)) :=
  .mk rfl hd hg fun ac w hac hw hgt => by
    simp only [execOp, hac.eval hx (h1 hgt), hac.eval hy (h2 hgt)]
    refine run_next ?_
    simp [eqGuard, go_sem, strEq]
theorem PS.neqS (hx : opnd l x = some (b1, .string s)) (h1 : g = true → b1 = true) (hy : opnd l y = some (b2, .string t)) (h2 : g = true → b2 = true) (hd : Nat.blt d E.n = true) (hg : gd ops l gu = some g) :
    PStep P E ops ⟨some d, .binOp .neq T x y T', ty, pos, after, gu⟩ l own F d g (.bool (!strEq s t)) :=
  .mk rfl hd hg fun ac w hac hw hgt => by
    simp only [execOp, hac.eval hx (h1 hgt), hac.eval hy (h2 hgt)]
    refine run_next ?_
    simp [eqGuard, go_sem, strEq]
theorem PS.addS (hx : opnd l x = some (b1, .string s)) (h1 : g = true → b1 = true) (hy : opnd l y = some (b2, .string t)) (h2 : g = true → b2 = true) (hb : g = true → s.size + t.size ≤ 9223372036854775807) (hd : Nat.blt d E.n = true) (hg : gd ops l gu = some g) :
    PStep P E ops ⟨some d, .binOp .add T x y T', ty, pos, after, gu⟩ l own F d g (.string (s ++ t)) :=
  .mk rfl hd hg fun ac w hac hw hgt => by
    simp only [execOp, hac.eval hx (h1 hgt), hac.eval hy (h2 hgt)]
    refine run_next ?_
    have h := run_string_add_sum (P := P) (w := w) s t (hb hgt)
    simp [eqGuard, go_sem, hb hgt]
end
section
variable {P : Program} {E : Env} {l : Slots} {own : Own} {F : World → Prop}
theorem run0 {fn : Func} (hres : fn.results = #[]) : ∀ a w, Has E.n l a → SP E own F w → (results fn a.tmps).run P w = .ok (.tuple #[]) w := fun a w ha hw => by
  simp [results, hres]
theorem run4 {fn : Func} {r1 r2 r3 r4 : Nat} {v1 v2 v3 v4 : Value} (hres : fn.results = #[.tmp r1, .tmp r2, .tmp r3, .tmp r4]) (hl1 : look l r1 = some (true, v1)) (hl2 : look l r2 = some (true, v2)) (hl3 : look l r3 = some (true, v3)) (hl4 : look l r4 = some (true, v4)) :
    ∀ a w, Has E.n l a → SP E own F w → (results fn a.tmps).run P w = .ok (.tuple #[v1, v2, v3, v4]) w := fun a w ha hw => by
  have h1 := ha.eval (x := .tmp r1) hl1 rfl
  have h2 := ha.eval (x := .tmp r2) hl2 rfl
  have h3 := ha.eval (x := .tmp r3) hl3 rfl
  have h4 := ha.eval (x := .tmp r4) hl4 rfl
  simp only [Act.eval, Array.getD_eq_getD_getElem?] at h1 h2 h3 h4
  simp [results, hres, h1, h2, h3, h4]
theorem runtc {fn : Func} {p r k b n : Nat} {T : TypeId} {cs : List Value} {a : Addr} {v : Value} (hres : fn.results = #[.tmp r, .cell p T]) (hl' : look l r = some (true, v)) (hT : ∀ w, (isAgg T).run P w = .ok true w) (hs : ∀ w, (sizeOf T).run P w = .ok n w) (hl : look l p = some (true, .pointer (some a))) (ha : a = ⟨b, 0, none⟩) (hk : nth own k = some (.blk b cs)) (hn : cs.length = n) :
    ∀ a w, Has E.n l a → SP E own F w → (results fn a.tmps).run P w = .ok (.tuple #[v, .agg cs.toArray]) w := fun ac w hac hw => by
  obtain ⟨t, hb⟩ := hw.blk hk
  subst ha hn
  have e := hac.eval (x := .tmp p) hl rfl
  have e' := hac.eval (x := .tmp r) hl' rfl
  simp only [Act.eval, Array.getD_eq_getD_getElem?] at e e'
  have hc := run_loadCells_list (P := P) w ⟨b, 0, none⟩ cs (fun j v hj => by rw [add_none, cell_blk hb, Nat.zero_add]; exact hj)
  simp [results, hres, e, e', asAddr, loadVar, hT, hs, hc]
theorem finV4 {fn : Func} {r1 r2 r3 r4 : Nat} {v1 v2 v3 v4 u : Value} (hres : fn.results = #[.tmp r1, .tmp r2, .tmp r3, .tmp r4]) (hl1 : look l r1 = some (true, v1)) (hl2 : look l r2 = some (true, v2)) (hl3 : look l r3 = some (true, v3)) (hl4 : look l r4 = some (true, v4)) (hv : ∀ w, F w → Value.tuple #[v1, v2, v3, v4] = u) (hX : E.X = [] := by rfl) :
    SE E (bodyPost P fn fun e w' => e = .returned u ∧ Below E.w0.heap.size E.w0 w') .ret l own F :=
  ⟨fun a w ha hw => ⟨ha.defers, .tuple #[v1, v2, v3, v4], (by
    have h1 := ha.eval (x := .tmp r1) hl1 rfl
    have h2 := ha.eval (x := .tmp r2) hl2 rfl
    have h3 := ha.eval (x := .tmp r3) hl3 rfl
    have h4 := ha.eval (x := .tmp r4) hl4 rfl
    simp only [Act.eval, Array.getD_eq_getD_getElem?] at h1 h2 h3 h4
    simp [results, hres, h1, h2, h3, h4]), by rw [hv w hw.now], (hX ▸ hw.below).below⟩⟩
end
end Go.Proofs.YtjdiohhniiooeaaDoor
