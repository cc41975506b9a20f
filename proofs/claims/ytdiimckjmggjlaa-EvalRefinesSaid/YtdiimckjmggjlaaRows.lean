/-
  No cell of these rows narrows 'for every input' (looked for: loops, veiled, ifaces, maps, wideKeys, modest, calm, conditions, laid).
  DERIVED. THE GIVEN ROWS OF THIS SEAT. 5 by the template 'for every input the law returns true; each argument reads behind the call as it read before'; 0 by the template 'total and deterministic' (their statements: YtdiimckjmggjlaaTotals.lean).
  GIVEN WITH THE SEED: the statements are not yours to turn. If you find one false, say at which input.
  Laid BY PROGRAM, IN A SANDBOX (cutbox-rows.mjs): the forced cells as the released guide's own fill.sh prints them over the translation 3c24dd9baf3228f0… (all of the seat's roots in one cut). By AI agents, Wed Nov 11 2026. No macro, syntax, notation, axiom, sorry.
-/
import Derived.Test.YtdiimckjmggjlaaChecked
import GoSem.Claim
import GoSem.ClaimJoined
import GoSem.ClaimMapViews
import Derived.JoinedTies
import Derived.KernelRfl
namespace Go.Proofs.Ytdiimckjmggjlaa
/- THE CELL 'sum', in the pinned program and in every row, IS THE sha256 OF THE DUMP (.gsa) THAT YtdiimckjmggjlaaProg.lean LOADS. Nothing in Lean hashes anything: it is a label: what it is worth is what the hold of that sum in a sandbox is worth. -/
noncomputable def Try.pinned : Pinned := { name := "ytdiimckjmggjlaa", sum := "3c24dd9baf3228f07d9670ce454ab777a772e095c373d7f88c71586733b29690", checked := Try.checked }
namespace Rows
def none {H : Type} : Left H := { results := [], args := [] }

/-- 'lathelaw10.EvalRefines': WHATEVER THE INPUT: true; the input reads as it did. -/
def evalRefinesSpec : ChangeSpec := { name := "evalRefines", fn := fun _ => fun
  | [d1, d2, d3] => { results := [.lit (.bool true)], args := [d1, d2, d3] }
  | _ => none }
def evalRefinesRow : OpenClaim := { program := "ytdiimckjmggjlaa", sum := "3c24dd9baf3228f07d9670ce454ab777a772e095c373d7f88c71586733b29690", func := "lathe/lathelaw10.EvalRefines", spec := "evalRefines", inPlace := ["math/bits.Add64"], apart := false }
def EvalRefinesSaid : Prop := evalRefinesRow.holds Try.pinned (OpenSpec.ofChange evalRefinesSpec)

/-- ITS FALSE NEIGHBOUR: 'it returns false'. Refute it at one input. -/
def evalRefinesWrong : ChangeSpec := { name := "evalRefines", fn := fun _ => fun
  | [d1, d2, d3] => { results := [.lit (.bool false)], args := [d1, d2, d3] }
  | _ => none }
def EvalRefinesWrongFalsely : Prop := evalRefinesRow.holds Try.pinned (OpenSpec.ofChange evalRefinesWrong)

/-- 'lathelaw10.EvalFreezes': WHATEVER THE INPUT: true; the input reads as it did. -/
def evalFreezesSpec : ChangeSpec := { name := "evalFreezes", fn := fun _ => fun
  | [d1, d2] => { results := [.lit (.bool true)], args := [d1, d2] }
  | _ => none }
def evalFreezesRow : OpenClaim := { program := "ytdiimckjmggjlaa", sum := "3c24dd9baf3228f07d9670ce454ab777a772e095c373d7f88c71586733b29690", func := "lathe/lathelaw10.EvalFreezes", spec := "evalFreezes", inPlace := ["math/bits.Add64"], apart := false }
def EvalFreezesSaid : Prop := evalFreezesRow.holds Try.pinned (OpenSpec.ofChange evalFreezesSpec)

/-- ITS FALSE NEIGHBOUR: 'it returns false'. Refute it at one input. -/
def evalFreezesWrong : ChangeSpec := { name := "evalFreezes", fn := fun _ => fun
  | [d1, d2] => { results := [.lit (.bool false)], args := [d1, d2] }
  | _ => none }
def EvalFreezesWrongFalsely : Prop := evalFreezesRow.holds Try.pinned (OpenSpec.ofChange evalFreezesWrong)

/-- 'lathelaw10.EvalFlags': WHATEVER THE INPUT: true; the input reads as it did. -/
def evalFlagsSpec : ChangeSpec := { name := "evalFlags", fn := fun _ => fun
  | [d1, d2] => { results := [.lit (.bool true)], args := [d1, d2] }
  | _ => none }
def evalFlagsRow : OpenClaim := { program := "ytdiimckjmggjlaa", sum := "3c24dd9baf3228f07d9670ce454ab777a772e095c373d7f88c71586733b29690", func := "lathe/lathelaw10.EvalFlags", spec := "evalFlags", inPlace := ["math/bits.Add64"], apart := false }
def EvalFlagsSaid : Prop := evalFlagsRow.holds Try.pinned (OpenSpec.ofChange evalFlagsSpec)

/-- ITS FALSE NEIGHBOUR: 'it returns false'. Refute it at one input. -/
def evalFlagsWrong : ChangeSpec := { name := "evalFlags", fn := fun _ => fun
  | [d1, d2] => { results := [.lit (.bool false)], args := [d1, d2] }
  | _ => none }
def EvalFlagsWrongFalsely : Prop := evalFlagsRow.holds Try.pinned (OpenSpec.ofChange evalFlagsWrong)

/-- 'lathelaw10.EvalCommutes': WHATEVER THE INPUT: true; the input reads as it did. -/
def evalCommutesSpec : ChangeSpec := { name := "evalCommutes", fn := fun _ => fun
  | [d1, d2, d3] => { results := [.lit (.bool true)], args := [d1, d2, d3] }
  | _ => none }
def evalCommutesRow : OpenClaim := { program := "ytdiimckjmggjlaa", sum := "3c24dd9baf3228f07d9670ce454ab777a772e095c373d7f88c71586733b29690", func := "lathe/lathelaw10.EvalCommutes", spec := "evalCommutes", inPlace := ["math/bits.Add64"], apart := false }
def EvalCommutesSaid : Prop := evalCommutesRow.holds Try.pinned (OpenSpec.ofChange evalCommutesSpec)

/-- ITS FALSE NEIGHBOUR: 'it returns false'. Refute it at one input. -/
def evalCommutesWrong : ChangeSpec := { name := "evalCommutes", fn := fun _ => fun
  | [d1, d2, d3] => { results := [.lit (.bool false)], args := [d1, d2, d3] }
  | _ => none }
def EvalCommutesWrongFalsely : Prop := evalCommutesRow.holds Try.pinned (OpenSpec.ofChange evalCommutesWrong)

/-- 'lathelaw10.EvalChains': WHATEVER THE INPUT: true; the input reads as it did. -/
def evalChainsSpec : ChangeSpec := { name := "evalChains", fn := fun _ => fun
  | [d1, d2, d3, d4, d5] => { results := [.lit (.bool true)], args := [d1, d2, d3, d4, d5] }
  | _ => none }
def evalChainsRow : OpenClaim := { program := "ytdiimckjmggjlaa", sum := "3c24dd9baf3228f07d9670ce454ab777a772e095c373d7f88c71586733b29690", func := "lathe/lathelaw10.EvalChains", spec := "evalChains", inPlace := ["math/bits.Add64"], unfollowed := true, recurses := true, apart := false }
def EvalChainsSaid : Prop := evalChainsRow.holds Try.pinned (OpenSpec.ofChange evalChainsSpec)

/-- ITS FALSE NEIGHBOUR: 'it returns false'. Refute it at one input. -/
def evalChainsWrong : ChangeSpec := { name := "evalChains", fn := fun _ => fun
  | [d1, d2, d3, d4, d5] => { results := [.lit (.bool false)], args := [d1, d2, d3, d4, d5] }
  | _ => none }
def EvalChainsWrongFalsely : Prop := evalChainsRow.holds Try.pinned (OpenSpec.ofChange evalChainsWrong)

/- THE SECOND FORM. 'bulk': how many values and letters a reading holds, each counted each time it is reached (what is shared counts as often as it is met; a slice's spare places count too). A statement '..UptoSaid' is the law's where the arguments, and the package variables that the reading takes, are together of bulk at most 1048576: NARROWER than '..Said'. Prove '..Said' where nothing that the law and all that it calls make is longer than what came in: it says more and counts as full. Else prove '..UptoSaid'. A law counts once. -/
mutual
def uptoBulk {H : Type} : DataW H → Nat
  | .lit (.string bytes) => bytes.length + 1
  | .lit _ => 1
  | .nil => 1
  | .ptr d => uptoBulk d + 1
  | .slice elems spare => uptoBulkAll elems + uptoBulkAll spare + 1
  | .agg parts => uptoBulkAll parts + 1
  | .iface _ d => uptoBulk d + 1
  | .map entries => uptoBulkEntries entries + 1
  | .held _ => 1
def uptoBulkAll {H : Type} : List (DataW H) → Nat
  | [] => 0
  | d :: r => uptoBulk d + uptoBulkAll r
def uptoBulkEntries {H : Type} : List (Lit × DataW H) → Nat
  | [] => 0
  | x :: r => uptoBulkEntry x + uptoBulkEntries r
def uptoBulkEntry {H : Type} : Lit × DataW H → Nat
  | (.string bytes, d) => bytes.length + uptoBulk d + 1
  | (_, d) => uptoBulk d + 1
 end
def uptoSmall : (H : Type) → List (DataW H) → Bool := fun _ ds => decide (uptoBulkAll ds ≤ 1048576)
def OpenSpec.upto (s : _root_.Go.ChangeSpec) : _root_.Go.OpenSpec := { _root_.Go.OpenSpec.ofChange s with cond := some uptoSmall }

/-- 'lathelaw10.EvalRefines', WHERE WHAT IT READS IS OF BULK AT MOST 1048576: true; the input reads as it did. -/
def evalRefinesUptoRow : OpenClaim := { program := "ytdiimckjmggjlaa", sum := "3c24dd9baf3228f07d9670ce454ab777a772e095c373d7f88c71586733b29690", func := "lathe/lathelaw10.EvalRefines", spec := "evalRefines", inPlace := ["math/bits.Add64"], apart := false, narrowed := true }
def EvalRefinesUptoSaid : Prop := evalRefinesUptoRow.holds Try.pinned (OpenSpec.upto evalRefinesSpec)

/-- 'lathelaw10.EvalFreezes', WHERE WHAT IT READS IS OF BULK AT MOST 1048576: true; the input reads as it did. -/
def evalFreezesUptoRow : OpenClaim := { program := "ytdiimckjmggjlaa", sum := "3c24dd9baf3228f07d9670ce454ab777a772e095c373d7f88c71586733b29690", func := "lathe/lathelaw10.EvalFreezes", spec := "evalFreezes", inPlace := ["math/bits.Add64"], apart := false, narrowed := true }
def EvalFreezesUptoSaid : Prop := evalFreezesUptoRow.holds Try.pinned (OpenSpec.upto evalFreezesSpec)

/-- 'lathelaw10.EvalFlags', WHERE WHAT IT READS IS OF BULK AT MOST 1048576: true; the input reads as it did. -/
def evalFlagsUptoRow : OpenClaim := { program := "ytdiimckjmggjlaa", sum := "3c24dd9baf3228f07d9670ce454ab777a772e095c373d7f88c71586733b29690", func := "lathe/lathelaw10.EvalFlags", spec := "evalFlags", inPlace := ["math/bits.Add64"], apart := false, narrowed := true }
def EvalFlagsUptoSaid : Prop := evalFlagsUptoRow.holds Try.pinned (OpenSpec.upto evalFlagsSpec)

/-- 'lathelaw10.EvalCommutes', WHERE WHAT IT READS IS OF BULK AT MOST 1048576: true; the input reads as it did. -/
def evalCommutesUptoRow : OpenClaim := { program := "ytdiimckjmggjlaa", sum := "3c24dd9baf3228f07d9670ce454ab777a772e095c373d7f88c71586733b29690", func := "lathe/lathelaw10.EvalCommutes", spec := "evalCommutes", inPlace := ["math/bits.Add64"], apart := false, narrowed := true }
def EvalCommutesUptoSaid : Prop := evalCommutesUptoRow.holds Try.pinned (OpenSpec.upto evalCommutesSpec)

/-- 'lathelaw10.EvalChains', WHERE WHAT IT READS IS OF BULK AT MOST 1048576: true; the input reads as it did. -/
def evalChainsUptoRow : OpenClaim := { program := "ytdiimckjmggjlaa", sum := "3c24dd9baf3228f07d9670ce454ab777a772e095c373d7f88c71586733b29690", func := "lathe/lathelaw10.EvalChains", spec := "evalChains", inPlace := ["math/bits.Add64"], unfollowed := true, recurses := true, apart := false, narrowed := true }
def EvalChainsUptoSaid : Prop := evalChainsUptoRow.holds Try.pinned (OpenSpec.upto evalChainsSpec)

end Rows
end Go.Proofs.Ytdiimckjmggjlaa
