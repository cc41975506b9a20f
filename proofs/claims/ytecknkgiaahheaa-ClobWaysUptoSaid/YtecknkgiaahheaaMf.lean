/- The engine and the contracts of the functions that the statement reaches, part 6. -/
import Derived.Test.YtecknkgiaahheaaMe
/- Layer 2, whole modules: how great, the same, as new memory. -/
namespace Go.Proofs.Ytecknkgiaahheaa
open Go.RowKit
set_option linter.unusedVariables false
set_option linter.unusedSimpArgs false
set_option maxRecDepth 100000
set_option maxHeartbeats 4000000
/-- So many numbers together. -/
def preN (g : Nat → Nat) : Nat → Nat
  | 0 => 0
  | q + 1 => preN g q + g q
theorem preN_mono {g : Nat → Nat} {q : Nat} : ∀ {k : Nat}, q ≤ k → preN g q ≤ preN g k
  | 0, h => by rw [show q = 0 by omega]; exact Nat.le_refl _
  | k + 1, h => by
    rcases Nat.lt_or_ge q (k + 1) with h2 | h2
    · have := preN_mono (g := g) (q := q) (k := k) (by omega); rw [preN]; omega
    · rw [show q = k + 1 by omega]; exact Nat.le_refl _
theorem preN_in {g : Nat → Nat} {q k : Nat} (h : q < k) : preN g q + g q ≤ preN g k := preN_mono (g := g) (q := q + 1) h
theorem preN_shift (g : Nat → Nat) : ∀ q, preN g (q + 1) = g 0 + preN (fun i => g (i + 1)) q
  | 0 => by simp [preN]
  | q + 1 => by rw [preN, preN_shift g q, preN]; omega
theorem preN_siz {α : Type} [Enc α] [Siz α] (g : α → Nat) (hg : ∀ x, g x ≤ siz x) : ∀ l : List α, l.length + preN (fun i => g (l.getD i Enc.d)) l.length ≤ siz l
  | [] => Nat.le_refl _
  | x :: l => by
    have h1 := preN_siz g hg l
    have e : siz (x :: l) = l.length + 1 + (siz x + (l.map siz).sum) := rfl
    have e2 : siz l = l.length + (l.map siz).sum := rfl
    have h2 := hg x
    rw [List.length_cons, preN_shift]
    show l.length + 1 + (g x + preN (fun i => g (l.getD i Enc.d)) l.length) ≤ _
    omega
def insQ (x : InsE) : Nat := x.args.length + x.to.length
def blkQ (y : BlkE) : Nat := y.code.length + preN (fun k => insQ (y.code.getD k Enc.d)) y.code.length
def fnQ (f : FnE) : Nat := f.params.length + f.blocks.length + preN (fun b => blkQ (f.blocks.getD b Enc.d)) f.blocks.length
def extQ (x : ExtE) : Nat := x.params.length
def modQ (m : ModE) : Nat := m.vars.length + m.exts.length + m.funcs.length + preN (fun i => extQ (m.exts.getD i Enc.d)) m.exts.length + preN (fun i => fnQ (m.funcs.getD i Enc.d)) m.funcs.length
theorem insQ_le (x : InsE) : insQ x ≤ siz x := by
  have h1 := len_siz x.args; have h2 := len_siz x.to
  have e : siz x = siz x.args + siz x.to := rfl
  unfold insQ; omega
theorem blkQ_le (y : BlkE) : blkQ y ≤ siz y := preN_siz insQ insQ_le y.code
theorem fnQ_le (f : FnE) : fnQ f ≤ siz f := by
  have h1 := len_siz f.params
  have h2 := preN_siz blkQ blkQ_le f.blocks
  have e : siz f = siz f.name + siz f.params + siz f.blocks := rfl
  unfold fnQ; omega
theorem extQ_le (x : ExtE) : extQ x ≤ siz x := by
  have h1 := len_siz x.params
  have e : siz x = siz x.name + siz x.params := rfl
  unfold extQ; omega
theorem modQ_le (m : ModE) : modQ m ≤ siz m := by
  have h1 := len_siz m.vars
  have h2 := preN_siz extQ extQ_le m.exts
  have h3 := preN_siz fnQ fnQ_le m.funcs
  have e : siz m = siz m.vars + siz m.exts + siz m.funcs := rfl
  unfold modQ; omega
theorem Few_S (m : ModE) (most : Int) (hm : siz m < 4294967296) : ASpec Try.prog 19 [eS m, .i .i64 most] (.b (decide ((modQ m : Int) ≤ most))) [] := by
  have h0 := modQ_le m
  have e0 : modQ m = m.vars.length + m.exts.length + m.funcs.length + preN (fun i => extQ (m.exts.getD i Enc.d)) m.exts.length + preN (fun i => fnQ (m.funcs.getD i Enc.d)) m.funcs.length := rfl
  refine ASpec.enter TYok mixed Try.func19 rfl Try.call19 Try.ntmps19 rfl (rs := [.tmp 4]) rfl (nodupB_ok rfl) (Clo.one rfl) (keep := [0, 1, 2, 4, 5, 7, 9, 11, 13, 26, 27, 28, 39, 40, 41, 55, 56, 57, 67, 68, 69]) ?_; conv => whnf
  repeat' first | (refine And.intro (fun (hb : _ = true) => ?_) (fun (hb : _ = false) => ?_) <;> (try simp only [pickB_or, pickB_and] at hb) <;> (have hc := hb; try simp only [sB, Int.reduceToNat] at hc; try simp only [addZ0] at hc) <;> first | (exfalso; omega) | conv => whnf) | ((first | refine ⟨_, wr64 ti ti, ?_⟩ | refine And.intro si ?_ | refine LitW.frz ?_ | refine Drw.d (by decide +kernel) ?_ | refine Drw.f (by decide +kernel) ?_ | refine And.intro tgi ?_ | refine ⟨_, shl1 (by omega), ?_⟩ | refine ⟨_, wru64 ti ti, ?_⟩ | refine ⟨_, fun _ => (IntKind.wrap_u64 _).symm, ?_⟩); conv => whnf) | exact ⟨_, .keep rfl rfl⟩ | fail
  let N0 := m.vars.length + m.exts.length + m.funcs.length
  refine lp [28, 5] (fun q : Nat => [.i .i64 q, .i .i64 (N0 + preN (fun i => extQ (m.exts.getD i Enc.d)) q : Nat)]) (fun q => [(2, bx m)]) (fun q => q ≤ m.exts.length) (fun q => m.exts.length - q) 0 (by omega) ?_ fun q hq => ?_
  · refine Ent.lp [] [] rfl rfl rfl ?_ ?_ <;> repeat' first | exact trivial | rfl | exact fun _ _ => rfl | omega | refine And.intro ?_ ?_ | (show (_ : Int) = _; first | omega | (simp only [Int.toNat_natCast]; omega))
  conv => whnf
  rcases Nat.lt_or_ge q m.exts.length with hlt | hge
  · have p1 : preN (fun i => extQ (m.exts.getD i Enc.d)) q + extQ (m.exts.getD q Enc.d) ≤ preN (fun i => extQ (m.exts.getD i Enc.d)) m.exts.length := preN_in hlt
    have p2 : extQ (m.exts.getD q Enc.d) = (m.exts.getD q Enc.d).params.length := rfl
    repeat' first | (refine And.intro (fun (hb : _ = true) => ?_) (fun (hb : _ = false) => ?_) <;> (try simp only [pickB_or, pickB_and] at hb) <;> (have hc := hb; try simp only [sB, Int.reduceToNat] at hc; try simp only [addZ0] at hc) <;> first | (exfalso; omega) | conv => whnf) | ((first | refine ⟨_, wr64 ti ti, ?_⟩ | refine And.intro si ?_ | refine LitW.frz ?_ | refine Drw.d (by decide +kernel) ?_ | refine Drw.f (by decide +kernel) ?_ | refine And.intro tgi ?_ | refine ⟨_, shl1 (by omega), ?_⟩ | refine ⟨_, wru64 ti ti, ?_⟩ | refine ⟨_, fun _ => (IntKind.wrap_u64 _).symm, ?_⟩); conv => whnf) | exact ⟨_, .keep rfl rfl⟩ | fail
    refine .mk (q + 1) (by omega) (by omega) ?_
    have e : preN (fun i => extQ (m.exts.getD i Enc.d)) (q + 1) = preN (fun i => extQ (m.exts.getD i Enc.d)) q + extQ (m.exts.getD q Enc.d) := rfl
    refine Ent.lp [] [] rfl rfl rfl ?_ ?_ <;> repeat' first | exact trivial | rfl | exact fun _ _ => rfl | omega | refine And.intro ?_ ?_ | (show (_ : Int) = _; first | omega | (simp only [Int.toNat_natCast]; omega))
  obtain rfl : q = m.exts.length := by omega
  repeat' first | (refine And.intro (fun (hb : _ = true) => ?_) (fun (hb : _ = false) => ?_) <;> (try simp only [pickB_or, pickB_and] at hb) <;> (have hc := hb; try simp only [sB, Int.reduceToNat] at hc; try simp only [addZ0] at hc) <;> first | (exfalso; omega) | conv => whnf) | ((first | refine ⟨_, wr64 ti ti, ?_⟩ | refine And.intro si ?_ | refine LitW.frz ?_ | refine Drw.d (by decide +kernel) ?_ | refine Drw.f (by decide +kernel) ?_ | refine And.intro tgi ?_ | refine ⟨_, shl1 (by omega), ?_⟩ | refine ⟨_, wru64 ti ti, ?_⟩ | refine ⟨_, fun _ => (IntKind.wrap_u64 _).symm, ?_⟩); conv => whnf) | exact ⟨_, .keep rfl rfl⟩ | fail
  let N1 := N0 + preN (fun i => extQ (m.exts.getD i Enc.d)) m.exts.length
  refine lp [41, 5] (fun q : Nat => [.i .i64 q, .i .i64 (N1 + preN (fun i => fnQ (m.funcs.getD i Enc.d)) q : Nat)]) (fun q => [(2, bx m)]) (fun q => q ≤ m.funcs.length) (fun q => m.funcs.length - q) 0 (by omega) ?_ fun j hj => ?_
  · refine Ent.lp [] [] rfl rfl rfl ?_ ?_ <;> repeat' first | exact trivial | rfl | exact fun _ _ => rfl | omega | refine And.intro ?_ ?_ | (show (_ : Int) = _; first | omega | (simp only [Int.toNat_natCast]; omega))
  conv => whnf
  rcases Nat.lt_or_ge j m.funcs.length with hlt | hge
  · have p1 : preN (fun i => fnQ (m.funcs.getD i Enc.d)) j + fnQ (m.funcs.getD j Enc.d) ≤ preN (fun i => fnQ (m.funcs.getD i Enc.d)) m.funcs.length := preN_in hlt
    have p2 : fnQ (m.funcs.getD j Enc.d) = (m.funcs.getD j Enc.d).params.length + (m.funcs.getD j Enc.d).blocks.length + preN (fun b => blkQ ((m.funcs.getD j Enc.d).blocks.getD b Enc.d)) (m.funcs.getD j Enc.d).blocks.length := rfl
    let N2 := N1 + preN (fun i => fnQ (m.funcs.getD i Enc.d)) j + ((m.funcs.getD j Enc.d).params.length + (m.funcs.getD j Enc.d).blocks.length)
    repeat' first | (refine And.intro (fun (hb : _ = true) => ?_) (fun (hb : _ = false) => ?_) <;> (try simp only [pickB_or, pickB_and] at hb) <;> (have hc := hb; try simp only [sB, Int.reduceToNat] at hc; try simp only [addZ0] at hc) <;> first | (exfalso; omega) | conv => whnf) | ((first | refine ⟨_, wr64 ti ti, ?_⟩ | refine And.intro si ?_ | refine LitW.frz ?_ | refine Drw.d (by decide +kernel) ?_ | refine Drw.f (by decide +kernel) ?_ | refine And.intro tgi ?_ | refine ⟨_, shl1 (by omega), ?_⟩ | refine ⟨_, wru64 ti ti, ?_⟩ | refine ⟨_, fun _ => (IntKind.wrap_u64 _).symm, ?_⟩); conv => whnf) | exact ⟨_, .keep rfl rfl⟩ | fail
    refine lp [57, 5] (fun q : Nat => [.i .i64 q, .i .i64 (N2 + preN (fun b => blkQ ((m.funcs.getD j Enc.d).blocks.getD b Enc.d)) q : Nat)]) (fun q => [(2, bx m), (9, bx (m.funcs.getD j Enc.d))]) (fun q => q ≤ (m.funcs.getD j Enc.d).blocks.length) (fun q => (m.funcs.getD j Enc.d).blocks.length - q) 0 (by omega) ?_ fun b hb0 => ?_
    · refine Ent.lp [] [] rfl rfl rfl ?_ ?_ <;> repeat' first | exact trivial | rfl | exact fun _ _ => rfl | omega | refine And.intro ?_ ?_ | (show (_ : Int) = _; first | omega | (simp only [Int.toNat_natCast]; omega))
    conv => whnf
    rcases Nat.lt_or_ge b (m.funcs.getD j Enc.d).blocks.length with hlb | hgb
    · have q1 : preN (fun b => blkQ ((m.funcs.getD j Enc.d).blocks.getD b Enc.d)) b + blkQ ((m.funcs.getD j Enc.d).blocks.getD b Enc.d) ≤ preN (fun b => blkQ ((m.funcs.getD j Enc.d).blocks.getD b Enc.d)) (m.funcs.getD j Enc.d).blocks.length := preN_in hlb
      have q2 : blkQ ((m.funcs.getD j Enc.d).blocks.getD b Enc.d) = ((m.funcs.getD j Enc.d).blocks.getD b Enc.d).code.length + preN (fun k => insQ (((m.funcs.getD j Enc.d).blocks.getD b Enc.d).code.getD k Enc.d)) ((m.funcs.getD j Enc.d).blocks.getD b Enc.d).code.length := rfl
      let N3 := N2 + preN (fun b => blkQ ((m.funcs.getD j Enc.d).blocks.getD b Enc.d)) b + ((m.funcs.getD j Enc.d).blocks.getD b Enc.d).code.length
      repeat' first | (refine And.intro (fun (hb : _ = true) => ?_) (fun (hb : _ = false) => ?_) <;> (try simp only [pickB_or, pickB_and] at hb) <;> (have hc := hb; try simp only [sB, Int.reduceToNat] at hc; try simp only [addZ0] at hc) <;> first | (exfalso; omega) | conv => whnf) | ((first | refine ⟨_, wr64 ti ti, ?_⟩ | refine And.intro si ?_ | refine LitW.frz ?_ | refine Drw.d (by decide +kernel) ?_ | refine Drw.f (by decide +kernel) ?_ | refine And.intro tgi ?_ | refine ⟨_, shl1 (by omega), ?_⟩ | refine ⟨_, wru64 ti ti, ?_⟩ | refine ⟨_, fun _ => (IntKind.wrap_u64 _).symm, ?_⟩); conv => whnf) | exact ⟨_, .keep rfl rfl⟩ | fail
      refine lp [69, 5] (fun q : Nat => [.i .i64 q, .i .i64 (N3 + preN (fun k => insQ (((m.funcs.getD j Enc.d).blocks.getD b Enc.d).code.getD k Enc.d)) q : Nat)]) (fun q => [(2, bx m), (9, bx (m.funcs.getD j Enc.d)), (11, bx ((m.funcs.getD j Enc.d).blocks.getD b Enc.d))]) (fun q => q ≤ ((m.funcs.getD j Enc.d).blocks.getD b Enc.d).code.length) (fun q => ((m.funcs.getD j Enc.d).blocks.getD b Enc.d).code.length - q) 0 (by omega) ?_ fun n hn2 => ?_
      · refine Ent.lp [] [] rfl rfl rfl ?_ ?_ <;> repeat' first | exact trivial | rfl | exact fun _ _ => rfl | omega | refine And.intro ?_ ?_ | (show (_ : Int) = _; first | omega | (simp only [Int.toNat_natCast]; omega))
      conv => whnf
      rcases Nat.lt_or_ge n ((m.funcs.getD j Enc.d).blocks.getD b Enc.d).code.length with hln | hgn
      · have r1 : preN (fun k => insQ (((m.funcs.getD j Enc.d).blocks.getD b Enc.d).code.getD k Enc.d)) n + insQ (((m.funcs.getD j Enc.d).blocks.getD b Enc.d).code.getD n Enc.d) ≤ preN (fun k => insQ (((m.funcs.getD j Enc.d).blocks.getD b Enc.d).code.getD k Enc.d)) ((m.funcs.getD j Enc.d).blocks.getD b Enc.d).code.length := preN_in hln
        have r2 : insQ (((m.funcs.getD j Enc.d).blocks.getD b Enc.d).code.getD n Enc.d) = (((m.funcs.getD j Enc.d).blocks.getD b Enc.d).code.getD n Enc.d).args.length + (((m.funcs.getD j Enc.d).blocks.getD b Enc.d).code.getD n Enc.d).to.length := rfl
        repeat' first | (refine And.intro (fun (hb : _ = true) => ?_) (fun (hb : _ = false) => ?_) <;> (try simp only [pickB_or, pickB_and] at hb) <;> (have hc := hb; try simp only [sB, Int.reduceToNat] at hc; try simp only [addZ0] at hc) <;> first | (exfalso; omega) | conv => whnf) | ((first | refine ⟨_, wr64 ti ti, ?_⟩ | refine And.intro si ?_ | refine LitW.frz ?_ | refine Drw.d (by decide +kernel) ?_ | refine Drw.f (by decide +kernel) ?_ | refine And.intro tgi ?_ | refine ⟨_, shl1 (by omega), ?_⟩ | refine ⟨_, wru64 ti ti, ?_⟩ | refine ⟨_, fun _ => (IntKind.wrap_u64 _).symm, ?_⟩); conv => whnf) | exact ⟨_, .keep rfl rfl⟩ | fail
        · exact ⟨_, .keep (by rw [decide_eq_false]; omega) rfl⟩
        · refine .mk (n + 1) (by omega) (by omega) ?_
          have e : preN (fun k => insQ (((m.funcs.getD j Enc.d).blocks.getD b Enc.d).code.getD k Enc.d)) (n + 1) = preN (fun k => insQ (((m.funcs.getD j Enc.d).blocks.getD b Enc.d).code.getD k Enc.d)) n + insQ (((m.funcs.getD j Enc.d).blocks.getD b Enc.d).code.getD n Enc.d) := rfl
          refine Ent.lp [] [] rfl rfl rfl ?_ ?_ <;> repeat' first | exact trivial | rfl | exact fun _ _ => rfl | omega | refine And.intro ?_ ?_ | (show (_ : Int) = _; first | omega | (simp only [Int.toNat_natCast]; omega))
      · obtain rfl : n = ((m.funcs.getD j Enc.d).blocks.getD b Enc.d).code.length := by omega
        repeat' first | (refine And.intro (fun (hb : _ = true) => ?_) (fun (hb : _ = false) => ?_) <;> (try simp only [pickB_or, pickB_and] at hb) <;> (have hc := hb; try simp only [sB, Int.reduceToNat] at hc; try simp only [addZ0] at hc) <;> first | (exfalso; omega) | conv => whnf) | ((first | refine ⟨_, wr64 ti ti, ?_⟩ | refine And.intro si ?_ | refine LitW.frz ?_ | refine Drw.d (by decide +kernel) ?_ | refine Drw.f (by decide +kernel) ?_ | refine And.intro tgi ?_ | refine ⟨_, shl1 (by omega), ?_⟩ | refine ⟨_, wru64 ti ti, ?_⟩ | refine ⟨_, fun _ => (IntKind.wrap_u64 _).symm, ?_⟩); conv => whnf) | exact ⟨_, .keep rfl rfl⟩ | fail
        refine .mk (b + 1) (by omega) (by omega) ?_
        have e : preN (fun b => blkQ ((m.funcs.getD j Enc.d).blocks.getD b Enc.d)) (b + 1) = preN (fun b => blkQ ((m.funcs.getD j Enc.d).blocks.getD b Enc.d)) b + blkQ ((m.funcs.getD j Enc.d).blocks.getD b Enc.d) := rfl
        refine Ent.lp [] [] rfl rfl rfl ?_ ?_ <;> repeat' first | exact trivial | rfl | exact fun _ _ => rfl | omega | refine And.intro ?_ ?_ | (show (_ : Int) = _; first | omega | (simp only [Int.toNat_natCast]; omega))
    · obtain rfl : b = (m.funcs.getD j Enc.d).blocks.length := by omega
      repeat' first | (refine And.intro (fun (hb : _ = true) => ?_) (fun (hb : _ = false) => ?_) <;> (try simp only [pickB_or, pickB_and] at hb) <;> (have hc := hb; try simp only [sB, Int.reduceToNat] at hc; try simp only [addZ0] at hc) <;> first | (exfalso; omega) | conv => whnf) | ((first | refine ⟨_, wr64 ti ti, ?_⟩ | refine And.intro si ?_ | refine LitW.frz ?_ | refine Drw.d (by decide +kernel) ?_ | refine Drw.f (by decide +kernel) ?_ | refine And.intro tgi ?_ | refine ⟨_, shl1 (by omega), ?_⟩ | refine ⟨_, wru64 ti ti, ?_⟩ | refine ⟨_, fun _ => (IntKind.wrap_u64 _).symm, ?_⟩); conv => whnf) | exact ⟨_, .keep rfl rfl⟩ | fail
      refine .mk (j + 1) (by omega) (by omega) ?_
      have e : preN (fun i => fnQ (m.funcs.getD i Enc.d)) (j + 1) = preN (fun i => fnQ (m.funcs.getD i Enc.d)) j + fnQ (m.funcs.getD j Enc.d) := rfl
      refine Ent.lp [] [] rfl rfl rfl ?_ ?_ <;> repeat' first | exact trivial | rfl | exact fun _ _ => rfl | omega | refine And.intro ?_ ?_ | (show (_ : Int) = _; first | omega | (simp only [Int.toNat_natCast]; omega))
  · obtain rfl : j = m.funcs.length := by omega
    repeat' first | (refine And.intro (fun (hb : _ = true) => ?_) (fun (hb : _ = false) => ?_) <;> (try simp only [pickB_or, pickB_and] at hb) <;> (have hc := hb; try simp only [sB, Int.reduceToNat] at hc; try simp only [addZ0] at hc) <;> first | (exfalso; omega) | conv => whnf) | ((first | refine ⟨_, wr64 ti ti, ?_⟩ | refine And.intro si ?_ | refine LitW.frz ?_ | refine Drw.d (by decide +kernel) ?_ | refine Drw.f (by decide +kernel) ?_ | refine And.intro tgi ?_ | refine ⟨_, shl1 (by omega), ?_⟩ | refine ⟨_, wru64 ti ti, ?_⟩ | refine ⟨_, fun _ => (IntKind.wrap_u64 _).symm, ?_⟩); conv => whnf) | exact ⟨_, .keep rfl rfl⟩ | fail
end Go.Proofs.Ytecknkgiaahheaa

/- Layer 20: a fixed fact; layer 18's Long. -/
namespace Go.Proofs.Ytecknkgiaahheaa
open Go.RowKit
set_option linter.unusedVariables false
set_option linter.unusedSimpArgs false
set_option maxRecDepth 100000
set_option maxHeartbeats 8000000
theorem wkrow1 {g g' : Nat → List AV} (h : wks (g 0) (g' 0)) : ∀ i, i < 1 → wks (g i) (g' i) := fun i hi => by
  obtain rfl : i = 0 := by omega
  exact h
theorem wkrow2 {g g' : Nat → List AV} (h : wks (g 0) (g' 0) ∧ wks (g 1) (g' 1)) : ∀ i, i < 2 → wks (g i) (g' i) := fun i hi => by
  match i, hi with
  | 0, _ => exact h.1
  | 1, _ => exact h.2
theorem wkrow3 {g g' : Nat → List AV} (h : wks (g 0) (g' 0) ∧ wks (g 1) (g' 1) ∧ wks (g 2) (g' 2)) : ∀ i, i < 3 → wks (g i) (g' i) := fun i hi => by
  match i, hi with
  | 0, _ => exact h.1
  | 1, _ => exact h.2.1
  | 2, _ => exact h.2.2
theorem wkInt (x : Int) : wks (Enc.enc x) (Enc.enc x) := ⟨⟨rfl, rfl⟩, trivial⟩
theorem wkOpd (x : Opd) : wks (Enc.enc x) (Enc.enc x) := ⟨⟨rfl, rfl⟩, ⟨rfl, rfl⟩, ⟨rfl, rfl⟩, trivial⟩
theorem wkL {α : Type} [Enc α] (h : ∀ x : α, wks (Enc.enc x) (Enc.enc x)) (l : List α) : wk (eL l) (eL l) := ⟨rfl, rfl, fun i _ => h _⟩
theorem wkIns (x : InsE) : wks (Enc.enc x) (Enc.enc x) := ⟨⟨rfl, rfl⟩, ⟨rfl, rfl⟩, ⟨rfl, rfl⟩, ⟨rfl, rfl⟩, ⟨rfl, rfl⟩, wkL wkOpd _, wkL wkInt _, trivial⟩
theorem wkBlk (x : BlkE) : wks (Enc.enc x) (Enc.enc x) := ⟨wkL wkIns _, trivial⟩
instance (x : Int) : Decidable (rngI x) := inferInstanceAs (Decidable (_ ∧ _))
instance (x : Int) : Decidable (rngU x) := inferInstanceAs (Decidable (_ ∧ _))
def lv0 : InsE := ⟨28, -1, 8, 0, 0, [⟨2, 0, 7⟩, ⟨5, 0, 0⟩], []⟩
def lv1 : InsE := ⟨27, 0, 8, 0, 0, [⟨5, 0, 0⟩], []⟩
def lv2 : InsE := ⟨33, -1, 8, 0, 0, [⟨1, 0, 0⟩], []⟩
def lvF : FnE := ⟨(⟨#[102]⟩ : ByteArray), [], 8, [⟨[lv0, lv1, lv2]⟩]⟩
theorem lv_rng : Rng.rng lvF := by
  refine ⟨trivial, fun x hx => (by cases hx), by unfold rngI; show (-_ : Int) ≤ 8 ∧ (8 : Int) ≤ _; omega, fun x hx => ?_⟩
  obtain rfl := List.mem_singleton.1 hx
  show ∀ x ∈ _, Rng.rng x
  intro x hx
  simp only [List.mem_cons, List.not_mem_nil, or_false] at hx
  rcases hx with rfl | rfl | rfl
  · refine ⟨by decide, by decide, by decide, by decide, by decide, fun x hx => ?_, fun x hx => (by cases hx)⟩
    have hx : x ∈ [(⟨2, 0, 7⟩ : Opd), ⟨5, 0, 0⟩] := hx
    simp only [List.mem_cons, List.not_mem_nil, or_false] at hx
    rcases hx with rfl | rfl <;> exact ⟨by decide, by decide, by decide⟩
  · refine ⟨by decide, by decide, by decide, by decide, by decide, fun x hx => ?_, fun x hx => (by cases hx)⟩
    obtain rfl := List.mem_singleton.1 hx
    exact ⟨by decide, by decide, by decide⟩
  · refine ⟨by decide, by decide, by decide, by decide, by decide, fun x hx => ?_, fun x hx => (by cases hx)⟩
    obtain rfl := List.mem_singleton.1 hx
    exact ⟨by decide, by decide, by decide⟩
theorem lv_len (b : Nat) : lenE lvF b = if b = 0 then 3 else 0 := by
  cases b with
  | zero => rfl
  | succ b => rfl
theorem lv_okF : OkF lvF := OkF_of (by decide +kernel) lv_rng
theorem lv_okA : OkA lvF where
  st := fun b i hi ho => by
    rw [lv_len] at hi
    split at hi
    · rename_i hb; subst hb
      match i, hi with
      | 0, _ => decide
      | 1, _ => exact absurd ho (by decide)
      | 2, _ => exact absurd ho (by decide)
    · exact absurd hi (Nat.not_lt_zero _)
  ld := fun b i hi ho => by
    rw [lv_len] at hi
    split at hi
    · rename_i hb; subst hb
      match i, hi with
      | 0, _ => exact absurd ho (by decide)
      | 1, _ => decide
      | 2, _ => exact absurd ho (by decide)
    · exact absurd hi (Nat.not_lt_zero _)
  nb := by decide
theorem lv_load : isLoad lvF ⟨0, (0 : Nat), (1 : Nat)⟩ := ⟨⟨by decide, by decide⟩, ⟨by decide, by decide⟩, by decide, .zero (by decide) (by decide)⟩
theorem lv_m : mE lvF lv1 0 0 = 2 := by decide +kernel
theorem lv_BK : ∀ q, ¬BK lvF lv1 0 1 q := fun q h => by
  induction h with
  | base h _ _ => exact h 0 (by decide) lv_m
  | step _ _ _ _ ih => exact ih
theorem lv_fnd (i : Nat) : Fnd lvF lv1 0 1 0 i ↔ i = 0 := by
  constructor
  · rintro (⟨_, h⟩ | ⟨h, _⟩)
    · have := h.1; omega
    · exact absurd h (lv_BK _)
  · rintro rfl
    exact .inl ⟨rfl, by decide, by rw [lv_m]; decide, fun j h1 h2 => by omega⟩
theorem lv_src : srcL lvF lv1 0 1 = [⟨0, 0, 0⟩] := by
  unfold srcL
  have e : Code lvF = [(lv0, ⟨0, 0, 0⟩), (lv1, ⟨0, 0, 1⟩), (lv2, ⟨0, 0, 2⟩)] := rfl
  have h0 : @decide (Fnd lvF lv1 0 1 0 0) (Classical.propDecidable _) = true := @decide_eq_true _ (Classical.propDecidable _) ((lv_fnd 0).2 rfl)
  have h1 : @decide (Fnd lvF lv1 0 1 0 1) (Classical.propDecidable _) = false := @decide_eq_false _ (Classical.propDecidable _) fun h => absurd ((lv_fnd 1).1 h) (by decide)
  have h2 : @decide (Fnd lvF lv1 0 1 0 2) (Classical.propDecidable _) = false := @decide_eq_false _ (Classical.propDecidable _) fun h => absurd ((lv_fnd 2).1 h) (by decide)
  have key : ∀ (P : InsE × Plc → Bool) (a b c : InsE × Plc), P a = true → P b = false → P c = false → ([a, b, c].filter P).map (·.2) = [a.2] := by intro P a b c h0 h1 h2; simp [h0, h1, h2]
  rw [e]
  exact key _ (lv0, ⟨0, 0, 0⟩) (lv1, ⟨0, 0, 1⟩) (lv2, ⟨0, 0, 2⟩) h0 h1 h2
theorem lv_beg : srcB lvF lv1 0 1 = false := by
  refine @decide_eq_false _ (Classical.propDecidable _) ?_
  rintro (⟨_, h⟩ | ⟨h, _⟩)
  · exact h 0 (by decide) lv_m
  · exact lv_BK _ h
theorem lv_known : knownE lvF ⟨0, (0 : Nat), (1 : Nat)⟩ lv1 [⟨0, 0, 0⟩] false = (⟨2, 0, 7⟩, true) := by decide +kernel
theorem lv_S : ASpec Try.prog 10 [eS lvF, eS (⟨0, (0 : Nat), (1 : Nat)⟩ : Plc)] (.tup [eL [(⟨0, 0, 0⟩ : Plc)], .b false]) [] := by
  have h := Sources_T lvF 0 0 1 lv_okF lv_okA lv_load
  change ASpec _ _ _ (.tup [eL (srcL lvF lv1 0 1), .b (srcB lvF lv1 0 1)]) [] at h
  rwa [lv_src, lv_beg] at h
theorem lv_K : ASpec Try.prog 12 [eS lvF, eS (⟨0, (0 : Nat), (1 : Nat)⟩ : Plc)] (.tup [eS (⟨2, 0, 7⟩ : Opd), .b true]) [] := by
  have h := Known_T lvF 0 0 1 lv_okF lv_okA lv_load
  change ASpec _ _ _ (.tup [eS (knownE lvF ⟨0, (0 : Nat), (1 : Nat)⟩ lv1 (srcL lvF lv1 0 1) (srcB lvF lv1 0 1)).1, .b (knownE lvF ⟨0, (0 : Nat), (1 : Nat)⟩ lv1 (srcL lvF lv1 0 1) (srcB lvF lv1 0 1)).2]) [] at h
  rwa [lv_src, lv_beg, lv_known] at h
theorem lives20_S : ASpec Try.prog 5 [] (.b true) [] := by
  refine ASpec.enter TYok mixed Try.func5 rfl Try.call5 Try.ntmps5 rfl (rs := [.tmp 0]) rfl (nodupB_ok rfl) (Clo.one rfl) (keep := [0, 1, 2, 3, 4, 5, 6]) ?_; conv => whnf
  repeat' first | (refine And.intro (fun (hb : _ = true) => ?_) (fun (hb : _ = false) => ?_) <;> (try simp only [pickB_or, pickB_and] at hb) <;> (have hc := hb; try simp only [sB, Int.reduceToNat] at hc; try simp only [addZ0] at hc) <;> first | (exfalso; omega) | conv => whnf) | ((first | refine ⟨_, wr64 ti ti, ?_⟩ | refine And.intro si ?_ | refine LitW.frz ?_ | refine Drw.d (by decide +kernel) ?_ | refine Drw.f (by decide +kernel) ?_ | refine And.intro tgi ?_ | refine ⟨_, shl1 (by omega), ?_⟩ | refine ⟨_, wru64 ti ti, ?_⟩ | refine ⟨_, fun _ => (IntKind.wrap_u64 _).symm, ?_⟩); conv => whnf) | ((first | refine CallK.mk _ _ (fun _ => lv_S.weak (by repeat' first | exact trivial | exact rfl | refine And.intro ?_ ?_ | refine wkrow1 ?_ | refine wkrow2 ?_ | refine wkrow3 ?_)) ?_ | ((try (refine CallW.lent ?_; (conv => whnf); try (refine And.intro (by omega) ?_; (conv => whnf)))); refine CallL.mk _ _ (fun _ => lv_S.weak (by repeat' first | exact trivial | exact rfl | refine And.intro ?_ ?_ | refine wkrow1 ?_ | refine wkrow2 ?_ | refine wkrow3 ?_)) rfl (fun _ _ h => nomatch h) ?_)); conv => whnf) | ((first | refine CallK.mk _ _ (fun _ => lv_K.weak (by repeat' first | exact trivial | exact rfl | refine And.intro ?_ ?_ | refine wkrow1 ?_ | refine wkrow2 ?_ | refine wkrow3 ?_)) ?_ | ((try (refine CallW.lent ?_; (conv => whnf); try (refine And.intro (by omega) ?_; (conv => whnf)))); refine CallL.mk _ _ (fun _ => lv_K.weak (by repeat' first | exact trivial | exact rfl | refine And.intro ?_ ?_ | refine wkrow1 ?_ | refine wkrow2 ?_ | refine wkrow3 ?_)) rfl (fun _ _ h => nomatch h) ?_)); conv => whnf) | exact ⟨_, .keep rfl rfl⟩ | fail
theorem Long_S (f : FnE) (hs : siz f < 1000000000) : ASpec Try.prog 7 [eS f] (.b (!decide ((modQ ⟨[], [], [f]⟩ : Int) ≤ 800))) [] := by
  have h := Few_S ⟨[], [], [f]⟩ 800 (by show (0 + 0 + (0 + 1 + (siz f + 0))) < _; omega)
  refine ASpec.enter TYok mixed Try.func7 rfl Try.call7 Try.ntmps7 rfl (rs := [.tmp 2]) rfl (nodupB_ok rfl) (Clo.one rfl) (keep := [0, 1, 2]) ?_; conv => whnf
  repeat' first | (refine And.intro (fun (hb : _ = true) => ?_) (fun (hb : _ = false) => ?_) <;> (try simp only [pickB_or, pickB_and] at hb) <;> (have hc := hb; try simp only [sB, Int.reduceToNat] at hc; try simp only [addZ0] at hc) <;> first | (exfalso; omega) | conv => whnf) | ((first | refine ⟨_, wr64 ti ti, ?_⟩ | refine And.intro si ?_ | refine LitW.frz ?_ | refine Drw.d (by decide +kernel) ?_ | refine Drw.f (by decide +kernel) ?_ | refine And.intro tgi ?_ | refine ⟨_, shl1 (by omega), ?_⟩ | refine ⟨_, wru64 ti ti, ?_⟩ | refine ⟨_, fun _ => (IntKind.wrap_u64 _).symm, ?_⟩); conv => whnf) | ((first | refine CallK.mk _ _ (fun _ => h.weak (by repeat' first | exact trivial | exact rfl | refine And.intro ?_ ?_ | refine wkrow1 ?_ | exact fun i _ => wkInt _ | exact fun i _ => wkBlk _)) ?_ | ((try (refine CallW.lent ?_; (conv => whnf); try (refine And.intro (by omega) ?_; (conv => whnf)))); refine CallL.mk _ _ (fun _ => h.weak (by repeat' first | exact trivial | exact rfl | refine And.intro ?_ ?_ | refine wkrow1 ?_ | exact fun i _ => wkInt _ | exact fun i _ => wkBlk _)) rfl (fun _ _ h => nomatch h) ?_)); conv => whnf) | exact ⟨_, .keep rfl rfl⟩ | fail
end Go.Proofs.Ytecknkgiaahheaa

/- The plain law of ways: what is met last. -/
namespace Go.Proofs.Ytecknkgiaahheaa
open Go.RowKit
set_option linter.unusedVariables false
set_option linter.unusedSimpArgs false
/-- The Stores and Calls of a block's first i instructions. -/
def stc (f : FnE) (b i : Nat) : List Plc := ((List.range i).filter fun k : Nat => decide ((insE f b k).op = 28) || decide ((insE f b k).op = 30)).map fun k : Nat => (⟨0, (b : Int), (k : Int)⟩ : Plc)
theorem stc_snoc (f : FnE) (b i : Nat) : stc f b (i + 1) = if (insE f b i).op = 28 ∨ (insE f b i).op = 30 then stc f b i ++ [⟨0, b, i⟩] else stc f b i := by
  unfold stc
  rw [List.range_succ, List.filter_append, List.map_append, List.filter_cons]
  by_cases h : (insE f b i).op = 28 ∨ (insE f b i).op = 30
  · rw [if_pos h, if_pos (by simpa using h)]; rfl
  · rw [if_neg h, if_neg (by simpa using h)]; simp
theorem stc_len (f : FnE) (b i : Nat) : (stc f b i).length ≤ i := by
  unfold stc
  rw [List.length_map]
  exact Nat.le_trans (List.length_filter_le _ _) (by rw [List.length_range]; exact Nat.le_refl _)
theorem stc_mem {f : FnE} {b i : Nat} {q : Plc} (h : q ∈ stc f b i) : ∃ k : Nat, k < i ∧ q = ⟨0, b, k⟩ ∧ ((insE f b k).op = 28 ∨ (insE f b k).op = 30) := by
  unfold stc at h
  obtain ⟨k, h1, h2⟩ := List.mem_map.1 h
  obtain ⟨h3, h4⟩ := List.mem_filter.1 h1
  exact ⟨k, List.mem_range.1 h3, h2.symm, by simpa using h4⟩
/-- What is asked of a way: gone back through what is past. -/
def metG (f : FnE) (y : InsE) (l : List Plc) (beg : Bool) : List Plc → Bool
  | [] => beg
  | q :: r => if meetsE f (insE f q.b.toNat q.i.toNat) y = 0 then metG f y l beg r else if ¬q ∈ l then false else if meetsE f (insE f q.b.toNat q.i.toNat) y = 2 then true else metG f y l beg r
theorem mE_op {f : FnE} {y : InsE} {b i : Nat} (h : mE f y b i ≠ 0) : (insE f b i).op = 28 ∨ (insE f b i).op = 30 := by
  unfold mE meetsE at h
  by_cases h1 : (insE f b i).op = 28
  · exact .inl h1
  · rw [if_neg h1] at h
    right
    apply Classical.byContradiction
    intro h2
    exact h (if_neg fun h3 => h2 h3.1)
theorem metG_seg {f : FnE} {y : InsE} {l : List Plc} {beg : Bool} {b : Nat} {r : List Plc} : ∀ {k : Nat}, (∀ i, visM (mE f y b) i k → (⟨0, b, i⟩ : Plc) ∈ l) → (opnM (mE f y b) k → metG f y l beg r = true) → metG f y l beg ((stc f b k).reverse ++ r) = true
  | 0, hv, ho => by
    have : (stc f b 0).reverse ++ r = r := rfl
    rw [this]; exact ho fun j hj => absurd hj (Nat.not_lt_zero _)
  | k + 1, hv, ho => by
    have hr := meetsE_rng f (insE f b k) y
    rw [stc_snoc]
    by_cases h2 : mE f y b k = 2
    · rw [if_pos (mE_op (y := y) (by omega)), List.reverse_append, List.append_assoc]
      show metG f y l beg ((⟨0, b, k⟩ : Plc) :: _) = true
      unfold metG
      have e : meetsE f (insE f ((b : Int)).toNat ((k : Int)).toNat) y = 2 := h2
      rw [if_neg (by rw [e]; decide), if_neg (fun h => h (hv k ⟨Nat.lt_succ_self _, by omega, fun j h1 h2 => by omega⟩)), if_pos e]
    · have ih := metG_seg (f := f) (y := y) (l := l) (beg := beg) (b := b) (r := r) (k := k) (fun i h => hv i ⟨Nat.lt_succ_of_lt h.1, h.2.1, fun j h3 h4 => by
        rcases Nat.lt_or_eq_of_le (Nat.le_of_lt_succ h4) with h5 | h5
        · exact h.2.2 j h3 h5
        · rw [h5]; exact h2⟩) (fun h => ho fun j hj => by
        rcases Nat.lt_or_eq_of_le (Nat.le_of_lt_succ hj) with h5 | h5
        · exact h j h5
        · rw [h5]; exact h2)
      split
      · rw [List.reverse_append, List.append_assoc]
        show metG f y l beg ((⟨0, b, k⟩ : Plc) :: _) = true
        unfold metG
        have e : meetsE f (insE f ((b : Int)).toNat ((k : Int)).toNat) y = mE f y b k := rfl
        rw [e]
        by_cases h0 : mE f y b k = 0
        · rw [if_pos h0]; exact ih
        · rw [if_neg h0]
          have : 0 ≤ mE f y b k := hr.1
          rw [if_neg (fun h => h (hv k ⟨Nat.lt_succ_self _, by omega, fun j h1 h2 => by omega⟩)), if_neg h2]
          exact ih
      · exact ih
/-- A way to a block: the blocks gone through, last first. -/
def Way (f : FnE) : Nat → List Nat → Prop
  | b, [] => b = 0
  | b, c :: r => (b : Int) ∈ Succs f c ∧ RG f (-1) c ∧ Way f c r
def pastL (f : FnE) : List Nat → List Plc
  | [] => []
  | c :: r => pastL f r ++ stc f c (lenE f c)
theorem pastL_rev (f : FnE) (c : Nat) (r : List Nat) : (pastL f (c :: r)).reverse = (stc f c (lenE f c)).reverse ++ (pastL f r).reverse := by
  unfold pastL
  rw [List.reverse_append]; cases r <;> rfl
theorem srcL_mem {f : FnE} {y : InsE} {pb pi b i : Nat} (hb : b < f.blocks.length) (hi : i < lenE f b) (h : Fnd f y pb pi b i) : (⟨0, b, i⟩ : Plc) ∈ srcL f y pb pi := by
  unfold srcL
  refine List.mem_map.2 ⟨(insE f b i, ⟨0, b, i⟩), List.mem_filter.2 ⟨?_, @decide_eq_true _ (Classical.propDecidable _) h⟩, rfl⟩
  obtain ⟨rest, e⟩ := Code_split hb hi
  rw [e]
  exact List.mem_append_right _ List.mem_cons_self
theorem met_true {f : FnE} {y : InsE} {pb pi : Nat} {bs : List Nat} (hpb : pb < f.blocks.length) (hpi : pi < lenE f pb) (hw : Way f pb bs) : metG f y (srcL f y pb pi) (srcB f y pb pi) ((pastL f bs ++ stc f pb pi).reverse) = true := by
  have key : ∀ (bs : List Nat) (c : Nat), c < f.blocks.length → Way f c bs → BK f y pb pi c → metG f y (srcL f y pb pi) (srcB f y pb pi) ((pastL f (c :: bs)).reverse) = true := by
    intro bs
    induction bs with
    | nil =>
      intro c hc hw hk
      rw [pastL_rev]
      refine metG_seg (fun i h => srcL_mem hc h.1 (.inr ⟨hk, h⟩)) fun h => ?_
      have h0 : c = 0 := hw
      subst h0
      exact @decide_eq_true _ (Classical.propDecidable _) (Or.inr ⟨hk, h⟩)
    | cons d r ih =>
      intro c hc hw hk
      rw [pastL_rev]
      refine metG_seg (fun i h => srcL_mem hc h.1 (.inr ⟨hk, h⟩)) fun h => ?_
      exact ih d (RG_lt hw.2.1) hw.2.2 (.step hk h hw.1 hw.2.1)
  rw [List.reverse_append]
  refine metG_seg (fun i h => srcL_mem hpb (Nat.lt_trans h.1 hpi) (.inl ⟨rfl, h⟩)) fun h => ?_
  cases bs with
  | nil => exact @decide_eq_true _ (Classical.propDecidable _) (Or.inl ⟨hw, h⟩)
  | cons d r => exact key r d (RG_lt hw.2.1) hw.2.2 (.base h hw.1 hw.2.1)
end Go.Proofs.Ytecknkgiaahheaa

/- lathelaw20.met: what is asked at a Load. -/
namespace Go.Proofs.Ytecknkgiaahheaa
open Go.RowKit
set_option linter.unusedVariables false
set_option linter.unusedSimpArgs false
set_option maxRecDepth 100000
theorem metG_cons (f : FnE) (y : InsE) (l : List Plc) (bg : Bool) (q : Plc) (r : List Plc) : metG f y l bg (q :: r) = if meetsE f (insE f q.b.toNat q.i.toNat) y = 0 then metG f y l bg r else if ¬q ∈ l then false else if meetsE f (insE f q.b.toNat q.i.toNat) y = 2 then true else metG f y l bg r := by rw [metG]
theorem take_rev {α : Type} [Enc α] {l : List α} {q : Nat} (h : q < l.length) : (l.take (q + 1)).reverse = l.getD q Enc.d :: (l.take q).reverse := by
  rw [List.take_add_one, List.getElem?_eq_getElem h, List.getD_eq_getElem?_getD, List.getElem?_eq_getElem h]
  simp
/-- Has it been found among the first j? -/
def fndE (P : Plc) (l : List Plc) (j : Nat) : Bool := decide (P ∈ l.take j)
theorem fndE_succ {P : Plc} {l : List Plc} {j : Nat} (h : j < l.length) : fndE P l (j + 1) = (fndE P l j || (decide ((l.getD j Enc.d).f = P.f) && (decide ((l.getD j Enc.d).b = P.b) && decide ((l.getD j Enc.d).i = P.i)))) := by
  have e : l.take (j + 1) = l.take j ++ [l.getD j Enc.d] := by
    rw [List.take_add_one, List.getElem?_eq_getElem h, List.getD_eq_getElem?_getD, List.getElem?_eq_getElem h]; rfl
  unfold fndE
  rw [e, Bool.eq_iff_iff]
  simp only [decide_eq_true_eq, List.mem_append, List.mem_singleton, Bool.or_eq_true, Bool.and_eq_true]
  constructor
  · rintro (h | h)
    · exact .inl h
    · exact .inr (by rw [← h]; exact ⟨rfl, rfl, rfl⟩)
  · rintro (h | ⟨h1, h2, h3⟩)
    · exact .inl h
    · right
      generalize l.getD j Enc.d = x at *
      cases P; cases x
      simp only at h1 h2 h3
      rw [h1, h2, h3]
theorem met_S (f : FnE) (pb pi : Nat) (past : List Plc) (hs : OkF f) (ha : OkA f) (h : isLoad f ⟨0, pb, pi⟩) (hp : ∀ q ∈ past, ∃ b i : Nat, q = ⟨0, (b : Int), (i : Int)⟩ ∧ b < f.blocks.length ∧ i < lenE f b) (hl : past.length < 4294967296) :
    ASpec Try.prog 16 [eS f, eS (⟨0, pb, pi⟩ : Plc), eL past] (.b (metG f (insE f pb pi) (srcL f (insE f pb pi) pb pi) (srcB f (insE f pb pi) pb pi) past.reverse)) [] := by
  have h1 := blocks_le f
  have h2 := hs.sz
  have hS := Sources_T f 0 pb pi hs ha h
  obtain ⟨p1, p2, p3, p4⟩ := h
  have q1 : pb < f.blocks.length := by have := p1.2; simp only at this; omega
  have q2 : pi < lenE f pb := by have := p2.2; simp only [Int.toNat_natCast] at this; omega
  have hy : 1 ≤ (insE f pb pi).args.length := ha.ld pb pi q2 p3
  have hll : (srcL f (insE f pb pi) pb pi).length < 4294967296 := by
    unfold srcL
    rw [List.length_map]
    exact Nat.lt_of_le_of_lt (Nat.le_trans (List.length_filter_le _ _) (Code_siz f)) h2
  have hyl : (insE f pb pi).args.length < 4294967296 := by have := args_le (insE f pb pi); have := ins_le f pb pi; unfold insE at *; omega
  have hlen : ∀ b, lenE f b ≤ siz f := fun b => code_le f b
  generalize srcL f (insE f pb pi) pb pi = l at *
  generalize srcB f (insE f pb pi) pb pi = bg at *
  have p5 : 0 ≤ (⟨0, pb, pi⟩ : Plc).i ∧ (⟨0, pb, pi⟩ : Plc).i < ((f.blocks.getD (⟨0, pb, pi⟩ : Plc).b.toNat Enc.d).code.length : Int) := p2
  refine ASpec.enter TYok mixed Try.func16 rfl Try.call16 Try.ntmps16 rfl (rs := [.tmp 6]) rfl (nodupB_ok rfl) (Clo.one rfl) (keep := [0, 1, 2, 3, 4, 6, 7, 8, 9, 10, 11, 12, 13, 15, 63, 64, 65]) ?_; conv => whnf
  have hms : ∀ x : InsE, (x.op = 28 → 2 ≤ x.args.length) → x.args.length < 4294967296 → ASpec Try.prog 27 [eS f, eS x, eS (insE f pb pi)] (.i .i64 (meetsE f x (insE f pb pi))) [] := fun x hx hx2 => Meets_S f x _ h2 hx hy hx2 hyl
  change ASpec _ _ _ _ [] at hS
  generalize hyg : insE f pb pi = y at *
  repeat' first | (refine And.intro (fun (hb : _ = true) => ?_) (fun (hb : _ = false) => ?_) <;> (try simp only [pickB_or, pickB_and] at hb) <;> (have hc := hb; try simp only [sB, Int.reduceToNat] at hc; try simp only [addZ0] at hc) <;> first | (exfalso; omega) | conv => whnf) | ((first | refine ⟨_, wr64 ti ti, ?_⟩ | refine And.intro si ?_ | refine LitW.frz ?_ | refine Drw.d (by decide +kernel) ?_ | refine Drw.f (by decide +kernel) ?_ | refine And.intro tgi ?_ | refine ⟨_, shl1 (by omega), ?_⟩ | refine ⟨_, wru64 ti ti, ?_⟩ | refine ⟨_, fun _ => (IntKind.wrap_u64 _).symm, ?_⟩); conv => whnf) | ((first | refine CallK.mk _ _ (fun _ => hS) ?_ | ((try (refine CallW.lent ?_; (conv => whnf); try (refine And.intro (by omega) ?_; (conv => whnf)))); refine CallL.mk _ _ (fun _ => hS) rfl (fun _ _ h => nomatch h) ?_)); conv => whnf) | exact ⟨_, .keep rfl rfl⟩ | fail
  refine lp [10] (fun q : Nat => [.i .i64 ((q : Int) - 1)]) (fun q => [(9, bx y), (4, bx (⟨0, pb, pi⟩ : Plc)), (3, bx f)]) (fun q => q ≤ past.length ∧ metG f y l bg past.reverse = metG f y l bg (past.take q).reverse) (fun q => q) past.length ⟨Nat.le_refl _, by rw [List.take_length]⟩ ?_ fun q hq => ?_
  · rw [← hyg]
    refine Ent.lp [] [] rfl rfl rfl ?_ ?_ <;> repeat' first | exact trivial | rfl | exact fun _ _ => rfl | omega | refine And.intro ?_ ?_ | (show (_ : Int) = _; first | omega | (simp only [Int.toNat_natCast]; omega))
  obtain ⟨hq1, hq2⟩ := hq
  conv => whnf
  rcases Nat.eq_zero_or_pos q with h0 | h0
  · subst h0
    repeat' first | (refine And.intro (fun (hb : _ = true) => ?_) (fun (hb : _ = false) => ?_) <;> (try simp only [pickB_or, pickB_and] at hb) <;> (have hc := hb; try simp only [sB, Int.reduceToNat] at hc; try simp only [addZ0] at hc) <;> first | (exfalso; omega) | conv => whnf) | ((first | refine ⟨_, wr64 ti ti, ?_⟩ | refine And.intro si ?_ | refine LitW.frz ?_ | refine Drw.d (by decide +kernel) ?_ | refine Drw.f (by decide +kernel) ?_ | refine And.intro tgi ?_ | refine ⟨_, shl1 (by omega), ?_⟩ | refine ⟨_, wru64 ti ti, ?_⟩ | refine ⟨_, fun _ => (IntKind.wrap_u64 _).symm, ?_⟩); conv => whnf) | exact ⟨_, .keep rfl rfl⟩ | fail
    exact ⟨_, .keep (congrArg AV.b (by rw [hq2]; rfl)) rfl⟩
  obtain ⟨k, rfl⟩ : ∃ k, q = k + 1 := ⟨q - 1, by omega⟩
  rw [show ((k + 1 : Nat) : Int) - 1 = k by omega]
  obtain ⟨b, i, hqq, hb1, hi1⟩ := hp (past.getD k Enc.d) (by rw [List.getD_eq_getElem?_getD, List.getElem?_eq_getElem (by omega)]; exact List.getElem_mem _)
  have g1 : 0 ≤ (past.getD (k : Int).toNat Enc.d).b ∧ (past.getD (k : Int).toNat Enc.d).b < f.blocks.length := by rw [show past.getD (k : Int).toNat Enc.d = _ from hqq]; exact ⟨by show (0 : Int) ≤ b; omega, by show (b : Int) < _; omega⟩
  have g2 : 0 ≤ (past.getD (k : Int).toNat Enc.d).i ∧ (past.getD (k : Int).toNat Enc.d).i < ((f.blocks.getD (past.getD (k : Int).toNat Enc.d).b.toNat Enc.d).code.length : Int) := by rw [show past.getD (k : Int).toNat Enc.d = _ from hqq]; exact ⟨by show (0 : Int) ≤ i; omega, by show (i : Int) < (lenE f b : Int); omega⟩
  have g3 : (f.blocks.getD (past.getD (k : Int).toNat Enc.d).b.toNat Enc.d).code.getD (past.getD (k : Int).toNat Enc.d).i.toNat Enc.d = insE f b i := by rw [show past.getD (k : Int).toNat Enc.d = _ from hqq]; rfl
  have g5 : (insE f b i).op = 28 → 2 ≤ (insE f b i).args.length := ha.st b i hi1
  have g6 : (insE f b i).args.length < 4294967296 := by have := args_le (insE f b i); have := ins_le f b i; unfold insE at *; omega
  have g8 := hms (insE f b i) g5 g6
  rw [← g3] at g8
  have hm : metG f y l bg past.reverse = if meetsE f ((f.blocks.getD (past.getD (k : Int).toNat Enc.d).b.toNat Enc.d).code.getD (past.getD (k : Int).toNat Enc.d).i.toNat Enc.d) y = 0 then metG f y l bg (past.take k).reverse else if ¬past.getD k Enc.d ∈ l then false else if meetsE f ((f.blocks.getD (past.getD (k : Int).toNat Enc.d).b.toNat Enc.d).code.getD (past.getD (k : Int).toNat Enc.d).i.toNat Enc.d) y = 2 then true else metG f y l bg (past.take k).reverse := by
    rw [hq2, take_rev (by omega), metG_cons]; rfl
  repeat' first | (refine And.intro (fun (hb : _ = true) => ?_) (fun (hb : _ = false) => ?_) <;> (try simp only [pickB_or, pickB_and] at hb) <;> (have hc := hb; try simp only [sB, Int.reduceToNat] at hc; try simp only [addZ0] at hc) <;> first | (exfalso; omega) | conv => whnf) | ((first | refine ⟨_, wr64 ti ti, ?_⟩ | refine And.intro si ?_ | refine LitW.frz ?_ | refine Drw.d (by decide +kernel) ?_ | refine Drw.f (by decide +kernel) ?_ | refine And.intro tgi ?_ | refine ⟨_, shl1 (by omega), ?_⟩ | refine ⟨_, wru64 ti ti, ?_⟩ | refine ⟨_, fun _ => (IntKind.wrap_u64 _).symm, ?_⟩); conv => whnf) | ((first | refine CallK.mk _ _ (fun _ => g8) ?_ | ((try (refine CallW.lent ?_; (conv => whnf); try (refine And.intro (by omega) ?_; (conv => whnf)))); refine CallL.mk _ _ (fun _ => g8) rfl (fun _ _ h => nomatch h) ?_)); conv => whnf) | exact ⟨_, .keep rfl rfl⟩ | fail
  · refine .mk k ⟨by omega, hm.trans (if_pos hc)⟩ (Nat.lt_succ_self _) ?_
    refine Ent.lp [] [] rfl rfl rfl ?_ ?_ <;> repeat' first | exact trivial | rfl | exact fun _ _ => rfl | omega | refine And.intro ?_ ?_ | (show (_ : Int) = _; first | omega | (simp only [Int.toNat_natCast]; omega))
  have hn0 := hc
  refine lp [65, 13] (fun j : Nat => [.i .i64 j, .b (fndE (past.getD (k : Int).toNat Enc.d) l j)]) (fun j => [(9, bx y), (4, bx (⟨0, pb, pi⟩ : Plc)), (3, bx f)]) (fun j => j ≤ l.length) (fun j => l.length - j) 0 (Nat.zero_le _) ?_ fun j hj => ?_
  · refine Ent.lp [] [] rfl rfl rfl ?_ ?_ <;> repeat' first | exact trivial | rfl | exact fun _ _ => rfl | omega | refine And.intro ?_ ?_ | (show (_ : Int) = _; first | omega | (simp only [Int.toNat_natCast]; omega))
  conv => whnf
  rcases Nat.lt_or_ge j l.length with hlt | hge
  · repeat' first | (refine And.intro (fun (hb : _ = true) => ?_) (fun (hb : _ = false) => ?_) <;> (try simp only [pickB_or, pickB_and] at hb) <;> (have hc := hb; try simp only [sB, Int.reduceToNat] at hc; try simp only [addZ0] at hc) <;> first | (exfalso; omega) | conv => whnf) | ((first | refine ⟨_, wr64 ti ti, ?_⟩ | refine And.intro si ?_ | refine LitW.frz ?_ | refine Drw.d (by decide +kernel) ?_ | refine Drw.f (by decide +kernel) ?_ | refine And.intro tgi ?_ | refine ⟨_, shl1 (by omega), ?_⟩ | refine ⟨_, wru64 ti ti, ?_⟩ | refine ⟨_, fun _ => (IntKind.wrap_u64 _).symm, ?_⟩); conv => whnf) | exact ⟨_, .keep rfl rfl⟩ | fail
    refine .mk (j + 1) (by omega) (by omega) ?_
    refine Ent.lp [] [] rfl rfl rfl ?_ ?_ <;> repeat' first | exact trivial | rfl | exact fun _ _ => rfl | omega | refine And.intro ?_ ?_ | (show (_ : Int) = _; first | omega | (simp only [Int.toNat_natCast]; omega))
    all_goals first | (show (_ : Bool) = _; simp only [pickB_or]; exact (fndE_succ hlt).symm) | (show AV.b _ = AV.b _; refine congrArg AV.b ?_; simp only [pickB_or]; exact (fndE_succ hlt).symm) | skip
  · obtain rfl : j = l.length := by omega
    have hfd : fndE (past.getD (k : Int).toNat Enc.d) l l.length = true ↔ past.getD k Enc.d ∈ l := by unfold fndE; rw [List.take_length]; exact decide_eq_true_iff
    repeat' first | (refine And.intro (fun (hb : _ = true) => ?_) (fun (hb : _ = false) => ?_) <;> (try simp only [pickB_or, pickB_and] at hb) <;> (have hc := hb; try simp only [sB, Int.reduceToNat] at hc; try simp only [addZ0] at hc) <;> first | (exfalso; omega) | conv => whnf) | ((first | refine ⟨_, wr64 ti ti, ?_⟩ | refine And.intro si ?_ | refine LitW.frz ?_ | refine Drw.d (by decide +kernel) ?_ | refine Drw.f (by decide +kernel) ?_ | refine And.intro tgi ?_ | refine ⟨_, shl1 (by omega), ?_⟩ | refine ⟨_, wru64 ti ti, ?_⟩ | refine ⟨_, fun _ => (IntKind.wrap_u64 _).symm, ?_⟩); conv => whnf) | exact ⟨_, .keep rfl rfl⟩ | fail
    · exact ⟨_, .keep (congrArg AV.b (hm.trans ((if_neg hn0).trans (if_pos fun h => by have h9 := hfd.2 h; simp only [Int.toNat_natCast] at h9; rw [h9] at hc; cases hc))).symm) rfl⟩
    · rename_i hy2 hx2
      exact ⟨_, .keep (congrArg AV.b (hm.trans ((if_neg hn0).trans ((if_neg (not_not_intro (hfd.1 hx2))).trans (if_pos hc)))).symm) rfl⟩
    · rename_i hy2 hx2
      refine .mk k ⟨by omega, hm.trans ((if_neg hn0).trans ((if_neg (not_not_intro (hfd.1 hx2))).trans (if_neg hc)))⟩ (Nat.lt_succ_self _) ?_
      refine Ent.lp [] [] rfl rfl rfl ?_ ?_ <;> repeat' first | exact trivial | rfl | exact fun _ _ => rfl | omega | refine And.intro ?_ ?_ | (show (_ : Int) = _; first | omega | (simp only [Int.toNat_natCast]; omega))
end Go.Proofs.Ytecknkgiaahheaa

/- Layer 20: ClobWays: the statement's function. -/
namespace Go.Proofs.Ytecknkgiaahheaa
open Go.RowKit
set_option linter.unusedVariables false
set_option linter.unusedSimpArgs false
set_option maxRecDepth 100000
set_option maxHeartbeats 8000000
/-- A way under way. -/
structure WayS where
  n : Nat
  b : Nat
  bs : List Nat
theorem pastL_len (f : FnE) : ∀ bs, (pastL f bs).length ≤ bs.length * siz f
  | [] => Nat.zero_le _
  | c :: r => by
    have h1 := pastL_len f r
    have h2 := stc_len f c (lenE f c)
    have h3 : lenE f c ≤ siz f := code_le f c
    unfold pastL
    rw [List.length_append, List.length_cons, Nat.add_mul, Nat.one_mul]; omega
theorem pastL_in (f : FnE) : ∀ bs c, Way f c bs → ∀ q ∈ pastL f bs, ∃ b i : Nat, q = ⟨0, (b : Int), (i : Int)⟩ ∧ b < f.blocks.length ∧ i < lenE f b
  | [], _, _, q, h => by cases h
  | c :: r, _, hw, q, h => by
    unfold pastL at h
    rcases List.mem_append.1 h with h | h
    · exact pastL_in f r c hw.2.2 q h
    · obtain ⟨k, h1, h2, _⟩ := stc_mem h
      exact ⟨c, k, h2, RG_lt hw.2.1, h1⟩
theorem ClobWays_S (m : ModE) (turns : List Bool) (hm : siz m ≤ 1048576) (hr : Rng.rng m) (ht : turns.length < 4294967296) : ASpec Try.prog 4 [eS m, eL turns] (.b true) [] := by
  have h2 : siz m < 4294967296 := by omega
  have hfl := funcs_le m
  obtain ⟨R, hR⟩ : ∃ R : FnE → List Bool, ∀ f, isRG f (-1) (R f) := ⟨fun f => Classical.choose (isRG_ex f (-1)), fun f => Classical.choose_spec (isRG_ex f (-1))⟩
  obtain ⟨T, hT⟩ : ∃ T : FnE → List (List Bool), ∀ f, isTab f (T f) := ⟨fun f => Classical.choose (isTab_ex f), fun f => Classical.choose_spec (isTab_ex f)⟩
  have hf : ∀ k, Rng.rng (m.funcs.getD k Enc.d) := fun k => rng_at hr.2.2 rngD_fn k
  have hRt := Right_S m R T hR hT h2 (fun b i => C1_rng (hf b) i)
  refine ASpec.enter TYok mixed Try.func4 rfl Try.call4 Try.ntmps4 rfl (rs := [.tmp 4]) rfl (nodupB_ok rfl) (Clo.one rfl) (keep := [0, 1, 2, 4, 6, 7, 8, 9, 10, 11, 12, 13, 20, 21, 22, 37, 38, 39]) ?_; conv => whnf
  repeat' first | (refine And.intro (fun (hb : _ = true) => ?_) (fun (hb : _ = false) => ?_) <;> (try simp only [pickB_or, pickB_and] at hb) <;> (have hc := hb; try simp only [sB, Int.reduceToNat] at hc; try simp only [addZ0] at hc) <;> first | (exfalso; omega) | conv => whnf) | ((first | refine ⟨_, wr64 ti ti, ?_⟩ | refine And.intro si ?_ | refine LitW.frz ?_ | refine Drw.d (by decide +kernel) ?_ | refine Drw.f (by decide +kernel) ?_ | refine And.intro tgi ?_ | refine ⟨_, shl1 (by omega), ?_⟩ | refine ⟨_, wru64 ti ti, ?_⟩ | refine ⟨_, fun _ => (IntKind.wrap_u64 _).symm, ?_⟩); conv => whnf) | ((first | refine CallK.mk _ _ (fun _ => lives20_S) ?_ | ((try (refine CallW.lent ?_; (conv => whnf); try (refine And.intro (by omega) ?_; (conv => whnf)))); refine CallL.mk _ _ (fun _ => lives20_S) rfl (fun _ _ h => nomatch h) ?_)); conv => whnf) | ((first | refine CallK.mk _ _ (fun _ => hRt) ?_ | ((try (refine CallW.lent ?_; (conv => whnf); try (refine And.intro (by omega) ?_; (conv => whnf)))); refine CallL.mk _ _ (fun _ => hRt) rfl (fun _ _ h => nomatch h) ?_)); conv => whnf) | exact ⟨_, .keep rfl rfl⟩ | fail
  · cases hb
  have hright : ∀ k, k < m.funcs.length → RightF m (m.funcs.getD k Enc.d) := fun k hk => chk_right (chkN_zero hc k hk)
  refine lp [22] (fun k : Nat => [.i .i64 k]) (fun k => [(2, bx m)]) (fun k => k ≤ m.funcs.length) (fun k => m.funcs.length - k) 0 (Nat.zero_le _) ?_ fun k hk => ?_
  · refine Ent.lp [] [] rfl rfl rfl ?_ ?_ <;> repeat' first | exact trivial | rfl | exact fun _ _ => rfl | omega | refine And.intro ?_ ?_ | (show (_ : Int) = _; first | omega | (simp only [Int.toNat_natCast]; omega))
  conv => whnf
  rcases (Nat.lt_or_ge k m.funcs.length).symm with hge | hlt
  · obtain rfl : k = m.funcs.length := by omega
    repeat' first | (refine And.intro (fun (hb : _ = true) => ?_) (fun (hb : _ = false) => ?_) <;> (try simp only [pickB_or, pickB_and] at hb) <;> (have hc := hb; try simp only [sB, Int.reduceToNat] at hc; try simp only [addZ0] at hc) <;> first | (exfalso; omega) | conv => whnf) | ((first | refine ⟨_, wr64 ti ti, ?_⟩ | refine And.intro si ?_ | refine LitW.frz ?_ | refine Drw.d (by decide +kernel) ?_ | refine Drw.f (by decide +kernel) ?_ | refine And.intro tgi ?_ | refine ⟨_, shl1 (by omega), ?_⟩ | refine ⟨_, wru64 ti ti, ?_⟩ | refine ⟨_, fun _ => (IntKind.wrap_u64 _).symm, ?_⟩); conv => whnf) | exact ⟨_, .keep rfl rfl⟩ | fail
    all_goals skip
  have hrf := hright k hlt
  have hrg := hf k
  have hsz : siz (m.funcs.getD k Enc.d) ≤ 1048576 := Nat.le_trans (fn_le m k) hm
  repeat' first | (refine And.intro (fun (hb : _ = true) => ?_) (fun (hb : _ = false) => ?_) <;> (try simp only [pickB_or, pickB_and] at hb) <;> (have hc := hb; try simp only [sB, Int.reduceToNat] at hc; try simp only [addZ0] at hc) <;> first | (exfalso; omega) | conv => whnf) | ((first | refine ⟨_, wr64 ti ti, ?_⟩ | refine And.intro si ?_ | refine LitW.frz ?_ | refine Drw.d (by decide +kernel) ?_ | refine Drw.f (by decide +kernel) ?_ | refine And.intro tgi ?_ | refine ⟨_, shl1 (by omega), ?_⟩ | refine ⟨_, wru64 ti ti, ?_⟩ | refine ⟨_, fun _ => (IntKind.wrap_u64 _).symm, ?_⟩); conv => whnf) | ((first | refine CallK.mk _ _ (fun _ => Long_S (m.funcs.getD k Enc.d) (by omega)) ?_ | ((try (refine CallW.lent ?_; (conv => whnf); try (refine And.intro (by omega) ?_; (conv => whnf)))); refine CallL.mk _ _ (fun _ => Long_S (m.funcs.getD k Enc.d) (by omega)) rfl (fun _ _ h => nomatch h) ?_)); conv => whnf) | exact ⟨_, .keep rfl rfl⟩ | fail
  · refine .mk (k + 1) (by omega) (by omega) ?_
    refine Ent.lp [] [] rfl rfl rfl ?_ ?_ <;> repeat' first | exact trivial | rfl | exact fun _ _ => rfl | omega | refine And.intro ?_ ?_ | (show (_ : Int) = _; first | omega | (simp only [Int.toNat_natCast]; omega))
  generalize hfe : m.funcs.getD k Enc.d = f at *
  have hs : OkF f := OkF_of (by omega) hrg
  have ha : OkA f := hrf.okA
  have hnb := hrf.nb
  have hbk := blocks_le f
  refine lp [9, 8, 7] (fun p : WayS => [.i .i64 p.n, .i .i64 p.b, .orow 7 3 0 (pastL f p.bs).length]) (fun p => [(7, oL (pastL f p.bs)), (2, bx m), (6, bx f)]) (fun p => (p.n ≤ 25 ∧ p.bs.length ≤ p.n) ∧ (p.b < f.blocks.length ∧ RG f (-1) p.b) ∧ Way f p.b p.bs) (fun p => 25 - p.n) ⟨0, 0, []⟩ ⟨⟨Nat.zero_le _, Nat.zero_le _⟩, ⟨by show 0 < f.blocks.length; omega, .zero (by omega) (by decide)⟩, rfl⟩ ?_ fun p hp => ?_
  · rw [← hfe]
    refine Ent.lp [] [7] rfl rfl rfl ?_ ?_ <;> repeat' first | exact trivial | rfl | exact fun _ _ => rfl | omega | refine And.intro ?_ ?_ | (show (_ : Int) = _; first | omega | (simp only [Int.toNat_natCast]; omega))
  obtain ⟨⟨hp1, hp2⟩, ⟨hp3, hp4⟩, hp5⟩ := hp
  have hpl := pastL_len f p.bs
  have hpl2 : p.bs.length * siz f ≤ 25 * siz f := Nat.mul_le_mul_right _ (by omega)
  have hle : lenE f p.b ≤ siz f := code_le f p.b
  have hlE : lenE f p.b = (f.blocks.getD p.b Enc.d).code.length := rfl
  conv => whnf
  rcases (Nat.lt_or_ge p.n 25).symm with hn | hn
  · repeat' first | (refine And.intro (fun (hb : _ = true) => ?_) (fun (hb : _ = false) => ?_) <;> (try simp only [pickB_or, pickB_and] at hb) <;> (have hc := hb; try simp only [sB, Int.reduceToNat] at hc; try simp only [addZ0] at hc) <;> first | (exfalso; omega) | conv => whnf) | ((first | refine ⟨_, wr64 ti ti, ?_⟩ | refine And.intro si ?_ | refine LitW.frz ?_ | refine Drw.d (by decide +kernel) ?_ | refine Drw.f (by decide +kernel) ?_ | refine And.intro tgi ?_ | refine ⟨_, shl1 (by omega), ?_⟩ | refine ⟨_, wru64 ti ti, ?_⟩ | refine ⟨_, fun _ => (IntKind.wrap_u64 _).symm, ?_⟩); conv => whnf) | exact ⟨_, .keep rfl rfl⟩ | fail
    refine .mk (k + 1) (by omega) (by omega) ?_
    refine Ent.lp [] [] rfl rfl rfl ?_ ?_ <;> repeat' first | exact trivial | rfl | exact fun _ _ => rfl | omega | refine And.intro ?_ ?_ | (show (_ : Int) = _; first | omega | (simp only [Int.toNat_natCast]; omega))
  repeat' first | (refine And.intro (fun (hb : _ = true) => ?_) (fun (hb : _ = false) => ?_) <;> (try simp only [pickB_or, pickB_and] at hb) <;> (have hc := hb; try simp only [sB, Int.reduceToNat] at hc; try simp only [addZ0] at hc) <;> first | (exfalso; omega) | conv => whnf) | ((first | refine ⟨_, wr64 ti ti, ?_⟩ | refine And.intro si ?_ | refine LitW.frz ?_ | refine Drw.d (by decide +kernel) ?_ | refine Drw.f (by decide +kernel) ?_ | refine And.intro tgi ?_ | refine ⟨_, shl1 (by omega), ?_⟩ | refine ⟨_, wru64 ti ti, ?_⟩ | refine ⟨_, fun _ => (IntKind.wrap_u64 _).symm, ?_⟩); conv => whnf) | exact ⟨_, .keep rfl rfl⟩ | fail
  · refine lp [39, 7] (fun i : Nat => [.i .i64 i, .orow 7 3 0 (pastL f p.bs ++ stc f p.b i).length]) (fun i => [(7, oL (pastL f p.bs ++ stc f p.b i)), (2, bx m), (6, bx f)]) (fun i => i ≤ lenE f p.b) (fun i => lenE f p.b - i) 0 (Nat.zero_le _) ?_ fun i hi0 => ?_
    · have e0 : pastL f p.bs ++ stc f p.b 0 = pastL f p.bs := List.append_nil _
      refine Ent.lp [] [] rfl rfl rfl ?_ ?_ <;> repeat' first | exact trivial | rfl | exact fun _ _ => rfl | omega | refine And.intro ?_ ?_ | (show (_ : Int) = _; first | omega | (simp only [Int.toNat_natCast]; omega))
      all_goals first | exact congrArg List.length e0.symm | (intro i hi; show Enc.enc _ = Enc.enc _; rw [e0])
    have hst := stc_len f p.b i
    have hln : (pastL f p.bs ++ stc f p.b i).length = (pastL f p.bs).length + (stc f p.b i).length := List.length_append
    conv => whnf
    rcases (Nat.lt_or_ge i (lenE f p.b)).symm with hi | hi
    · obtain rfl : i = lenE f p.b := by omega
      have hsl : (Succs f p.b).length < 4294967296 := by have := Succs_len f p.b; omega
      have hgo : ∀ x ∈ Succs f p.b, 0 ≤ x ∧ (x.toNat < f.blocks.length ∧ RG f (-1) x.toNat) ∧ Way f x.toNat (p.b :: p.bs) := fun x hx => by
        have h1 := Succs_mem hx
        exact ⟨h1.1, ⟨by omega, .step hp4 hx (by omega)⟩, by show ((x.toNat : Nat) : Int) ∈ _; rw [show ((x.toNat : Nat) : Int) = x by omega]; exact hx, hp4, hp5⟩
      repeat' first | (refine And.intro (fun (hb : _ = true) => ?_) (fun (hb : _ = false) => ?_) <;> (try simp only [pickB_or, pickB_and] at hb) <;> (have hc := hb; try simp only [sB, Int.reduceToNat] at hc; try simp only [addZ0] at hc) <;> first | (exfalso; omega) | conv => whnf) | ((first | refine ⟨_, wr64 ti ti, ?_⟩ | refine And.intro si ?_ | refine LitW.frz ?_ | refine Drw.d (by decide +kernel) ?_ | refine Drw.f (by decide +kernel) ?_ | refine And.intro tgi ?_ | refine ⟨_, shl1 (by omega), ?_⟩ | refine ⟨_, wru64 ti ti, ?_⟩ | refine ⟨_, fun _ => (IntKind.wrap_u64 _).symm, ?_⟩); conv => whnf) | ((first | refine CallK.mk _ _ (fun _ => gSuccs_F f p.b (by omega)) ?_ | ((try (refine CallW.lent ?_; (conv => whnf); try (refine And.intro (by omega) ?_; (conv => whnf)))); refine CallL.mk _ _ (fun _ => gSuccs_F f p.b (by omega)) rfl (fun _ _ h => nomatch h) ?_)); conv => whnf) | exact ⟨_, .keep rfl rfl⟩ | fail
      · refine .mk (k + 1) (by omega) (by omega) ?_
        refine Ent.lp [] [] rfl rfl rfl ?_ ?_ <;> repeat' first | exact trivial | rfl | exact fun _ _ => rfl | omega | refine And.intro ?_ ?_ | (show (_ : Int) = _; first | omega | (simp only [Int.toNat_natCast]; omega))
      · have hx : (Succs f p.b).getD (((Succs f p.b).length : Int) - 1).toNat Enc.d ∈ Succs f p.b := by rw [List.getD_eq_getElem?_getD, List.getElem?_eq_getElem (by omega)]; exact List.getElem_mem _
        have hg := hgo _ hx
        generalize (Succs f p.b).getD (((Succs f p.b).length : Int) - 1).toNat Enc.d = x at *
        have hx0 := hg.1
        refine .mk ⟨p.n + 1, x.toNat, p.b :: p.bs⟩ ⟨⟨by show p.n + 1 ≤ 25; omega, by show p.bs.length + 1 ≤ p.n + 1; omega⟩, hg.2.1, hg.2.2⟩ (by show 25 - (p.n + 1) < 25 - p.n; omega) ?_
        refine Ent.lp [] [] rfl rfl rfl ?_ ?_ <;> repeat' first | exact trivial | rfl | exact fun _ _ => rfl | omega | refine And.intro ?_ ?_ | (show (_ : Int) = _; first | omega | (simp only [Int.toNat_natCast]; omega))
      · have hx : (Succs f p.b).getD (Int.toNat 0) Enc.d ∈ Succs f p.b := by rw [List.getD_eq_getElem?_getD, List.getElem?_eq_getElem (by simp only [Int.reduceToNat]; omega)]; exact List.getElem_mem _
        have hg := hgo _ hx
        generalize (Succs f p.b).getD (Int.toNat 0) Enc.d = x at *
        have hx0 := hg.1
        refine .mk ⟨p.n + 1, x.toNat, p.b :: p.bs⟩ ⟨⟨by show p.n + 1 ≤ 25; omega, by show p.bs.length + 1 ≤ p.n + 1; omega⟩, hg.2.1, hg.2.2⟩ (by show 25 - (p.n + 1) < 25 - p.n; omega) ?_
        refine Ent.lp [] [] rfl rfl rfl ?_ ?_ <;> repeat' first | exact trivial | rfl | exact fun _ _ => rfl | omega | refine And.intro ?_ ?_ | (show (_ : Int) = _; first | omega | (simp only [Int.toNat_natCast]; omega))
    have hin : ∀ q ∈ pastL f p.bs ++ stc f p.b i, ∃ b i : Nat, q = ⟨0, (b : Int), (i : Int)⟩ ∧ b < f.blocks.length ∧ i < lenE f b := fun q hq => by
      rcases List.mem_append.1 hq with h | h
      · exact pastL_in f p.bs p.b hp5 q h
      · obtain ⟨c, h1, h2, _⟩ := stc_mem h
        exact ⟨p.b, c, h2, hp3, by omega⟩
    have hmt : (insE f p.b i).op = 27 → ASpec Try.prog 16 [eS f, eS (⟨0, (p.b : Int), (i : Int)⟩ : Plc), eL (pastL f p.bs ++ stc f p.b i)] (.b true) [] := fun hop => by
      have h := met_S f p.b i (pastL f p.bs ++ stc f p.b i) hs ha ⟨⟨by show (0 : Int) ≤ p.b; omega, by show (p.b : Int) < _; omega⟩, ⟨by show (0 : Int) ≤ i; omega, by show (i : Int) < (lenE f p.b : Int); omega⟩, hop, hp4⟩ hin (by omega)
      rwa [met_true hp3 hi hp5] at h
    repeat' first | (refine And.intro (fun (hb : _ = true) => ?_) (fun (hb : _ = false) => ?_) <;> (try simp only [pickB_or, pickB_and] at hb) <;> (have hc := hb; try simp only [sB, Int.reduceToNat] at hc; try simp only [addZ0] at hc) <;> first | (exfalso; omega) | conv => whnf) | ((first | refine ⟨_, wr64 ti ti, ?_⟩ | refine And.intro si ?_ | refine LitW.frz ?_ | refine Drw.d (by decide +kernel) ?_ | refine Drw.f (by decide +kernel) ?_ | refine And.intro tgi ?_ | refine ⟨_, shl1 (by omega), ?_⟩ | refine ⟨_, wru64 ti ti, ?_⟩ | refine ⟨_, fun _ => (IntKind.wrap_u64 _).symm, ?_⟩); conv => whnf) | ((first | refine CallK.mk _ _ (fun _ => hmt (by rename_i ht; simp only [tg_ite, tg_nil, cn, Nat.reduceMul, Nat.reduceAdd, Nat.reduceEqDiff, ↓reduceIte, decide_eq_true_eq] at ht; exact ht)) ?_ | ((try (refine CallW.lent ?_; (conv => whnf); try (refine And.intro (by omega) ?_; (conv => whnf)))); refine CallL.mk _ _ (fun _ => hmt (by rename_i ht; simp only [tg_ite, tg_nil, cn, Nat.reduceMul, Nat.reduceAdd, Nat.reduceEqDiff, ↓reduceIte, decide_eq_true_eq] at ht; exact ht)) rfl (fun _ _ h => nomatch h) ?_)); conv => whnf) | exact ⟨_, .keep rfl rfl⟩ | fail
    · exact absurd hc.2 (by decide)
    · have e : pastL f p.bs ++ stc f p.b (i + 1) = (pastL f p.bs ++ stc f p.b i) ++ [⟨0, p.b, i⟩] := by rw [stc_snoc, if_pos (show (insE f p.b i).op = 28 ∨ (insE f p.b i).op = 30 from hc), List.append_assoc]
      refine .mk (i + 1) (by omega) (by omega) ?_
      refine Ent.lp [(7, 68)] [] rfl rfl rfl ?_ ?_ <;> repeat' first | exact trivial | rfl | exact fun _ _ => rfl | omega | refine And.intro ?_ ?_ | exact snoc_len e | exact snoc_get e rfl | rw [e] | (show (_ : Int) = _; first | omega | (simp only [Int.toNat_natCast]; omega))
    · have e : pastL f p.bs ++ stc f p.b (i + 1) = pastL f p.bs ++ stc f p.b i := by rw [stc_snoc, if_neg (by rintro (h | h); exact hc.1 h; exact hc.2 h)]
      refine .mk (i + 1) (by omega) (by omega) ?_
      rw [← e]
      refine Ent.lp [] [] rfl rfl rfl ?_ ?_ <;> repeat' first | exact trivial | rfl | exact fun _ _ => rfl | omega | refine And.intro ?_ ?_ | (show (_ : Int) = _; first | omega | (simp only [Int.toNat_natCast]; omega))
end Go.Proofs.Ytecknkgiaahheaa
