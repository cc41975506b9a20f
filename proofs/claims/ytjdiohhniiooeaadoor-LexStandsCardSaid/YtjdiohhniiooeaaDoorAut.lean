/- Ends of calls that only compute; choices decided. -/
import Derived.Test.YtjdiohhniiooeaaDoorApp2
namespace Go.Proofs.YtjdiohhniiooeaaDoor
open Go.RowKit
set_option linter.unusedVariables false
theorem bifT {α : Sort _} {c : Bool} {a b : α} (h : c = true) : (bif c then a else b) = a := by rw [h]; rfl
theorem bifF {α : Sort _} {c : Bool} {a b : α} (h : c = false) : (bif c then a else b) = b := by rw [h]; rfl
variable {P : Program} {E : Env} {l : Slots} {own : Own} {F : World → Prop}
theorem results_cell_cell {fn : Func} {p q n : Nat} {T T' : TypeId} {b b' : Nat} {cs cs' : List Value} {t t' : TypeId} {w : World} (hres : fn.results = #[.cell p T, .cell q T']) (hT : ∀ w, (isAgg T).run P w = .ok true w) (hs : ∀ w, (sizeOf T).run P w = .ok cs.length w) (hT' : ∀ w, (isAgg T').run P w = .ok true w) (hs' : ∀ w, (sizeOf T').run P w = .ok cs'.length w)
    {ac : Act} (ha : Has n l ac) (hl : look l p = some (true, .pointer (some ⟨b, 0, none⟩))) (hl' : look l q = some (true, .pointer (some ⟨b', 0, none⟩))) (hb : w.heap[b]? = some (.cells cs.toArray t (0, 0))) (hb' : w.heap[b']? = some (.cells cs'.toArray t' (0, 0))) :
    (results fn ac.tmps).run P w = .ok (.tuple #[.agg cs.toArray, .agg cs'.toArray]) w := by
  have e1 := ha.eval (x := .tmp p) hl rfl
  have e2 := ha.eval (x := .tmp q) hl' rfl
  simp only [Act.eval, Array.getD_eq_getD_getElem?] at e1 e2
  have hc := run_loadCells_list (P := P) w ⟨b, 0, none⟩ cs (fun j v hj => by rw [add_none, cell_blk hb, Nat.zero_add]; exact hj)
  have hc' := run_loadCells_list (P := P) w ⟨b', 0, none⟩ cs' (fun j v hj => by rw [add_none, cell_blk hb', Nat.zero_add]; exact hj)
  simp [results, hres, e1, e2, asAddr, loadVar, hT, hs, hc, hT', hs', hc']
theorem finVcc {fn : Func} {p q k k' b b' n n' : Nat} {T T' : TypeId} {u : Value} {cs cs' : List Value} {a a' : Addr} (hres : fn.results = #[.cell p T, .cell q T']) (hT : ∀ w, (isAgg T).run P w = .ok true w) (hs : ∀ w, (sizeOf T).run P w = .ok n w) (hT' : ∀ w, (isAgg T').run P w = .ok true w) (hs' : ∀ w, (sizeOf T').run P w = .ok n' w)
    (hl : look l p = some (true, .pointer (some a))) (ha : a = ⟨b, 0, none⟩) (hk : nth own k = some (.blk b cs)) (hn : cs.length = n) (hl' : look l q = some (true, .pointer (some a'))) (ha' : a' = ⟨b', 0, none⟩) (hk' : nth own k' = some (.blk b' cs')) (hn' : cs'.length = n')
    (hv : ∀ w, F w → Value.tuple #[.agg cs.toArray, .agg cs'.toArray] = u) (hX : E.X = [] := by rfl) :
    SE E (bodyPost P fn fun e w' => e = .returned u ∧ Below E.w0.heap.size E.w0 w') .ret l own F :=
  ⟨fun ac w hac hw => by
    obtain ⟨t, ht⟩ := hw.blk hk
    obtain ⟨t', ht'⟩ := hw.blk hk'
    subst ha hn ha' hn'
    exact ⟨hac.defers, _, results_cell_cell hres hT hs hT' hs' hac hl hl' ht ht', by rw [hv w hw.now], (hX ▸ hw.below).below⟩⟩
theorem PS.neqB {ops : Array Oper} {d : Nat} {g b1 b2 s t : Bool} {ty T T' : TypeId} {pos : String} {after : Array Edge} {gu : Option (Nat × Bool)} {x y : Operand}
    (hx : opnd l x = some (b1, .bool s)) (h1 : g = true → b1 = true) (hy : opnd l y = some (b2, .bool t)) (h2 : g = true → b2 = true) (hT : P.underlying T = some .bool)
    (hd : Nat.blt d E.n = true) (hg : gd ops l gu = some g) : PStep P E ops ⟨some d, .binOp .neq T x y T', ty, pos, after, gu⟩ l own F d g (.bool (s != t)) :=
  .mk rfl hd hg fun ac w hac hw hgt => by
    simp only [execOp, hac.eval hx (h1 hgt), hac.eval hy (h2 hgt)]
    have h : (Op.equal T (.bool s) (.bool t)).run P w = .ok (s == t) w := run_equal_bool w T s t hT
    have h2 : (binOp .neq T (.bool s) (.bool t)).run P w = .ok (.bool (s != t)) w := by
      simp only [binOp, Sem.run_bind, h]; rfl
    have hg : (eqGuard .neq T x y (.bool s) (.bool t)).run P w = .ok () w := rfl
    exact run_next (by rw [Sem.run_bind, hg]; exact h2)
end Go.Proofs.YtjdiohhniiooeaaDoor
