/-
  DERIVED. GIVEN WITH THE SEED: THE CARDS: each row of YtilhkmlghhdpaaaDoorRows.lean that lists a variable, with what it lists TIED to the program's text (the seventh form; the later family's looks); each row that meets fmt, with fmt's text TOLD by the authors' own Lean function (tested against real Go, not proved from fmt's source: count such statements apart). THE CARD IS WHAT COUNTS. Prove the row's statement (the work); the ties are given (YtilhkmlghhdpaaaDoorTie.lean); close each card by the builder's one call (the guide's Derived/Test/ToyasCard.lean, 'card_holds'). Laid BY PROGRAM, IN A SANDBOX (cutbox-door.mjs). By AI agents, Wed Nov 11 2026. No macro, syntax, notation, axiom, sorry.
-/
import Derived.Test.YtilhkmlghhdpaaaDoorRows
import GoSem.ClaimSeven
namespace Go.Proofs.YtilhkmlghhdpaaaDoor
namespace Rows

/-- THE TIED CARD OF 'lathelaw05.SpellTexts'. -/
def spellTextsCard : Claim7 := { stood := { row := spellTextsRow, standIns := [], harness := (true, "ff5461e79e913ca5ee24aff6029402011f0028b16faab4f176f07258e0bc550b"), looks := false }, kinds := [], alts := [], laidByText := true, laidKinds := [.data, .data, .data, .listed, .data], laidTests := true, laidLooks := .later }
def SpellTextsCardSaid : Prop := Claim7.holds Tryd.pinned (.plain (OpenSpec.ofChange spellTextsSpec)) spellTextsCard

/-- THE TIED CARD OF 'lathelaw05.SpellParts'. -/
def spellPartsCard : Claim7 := { stood := { row := spellPartsRow, standIns := [], harness := (true, "ff5461e79e913ca5ee24aff6029402011f0028b16faab4f176f07258e0bc550b"), looks := false }, kinds := [], alts := [], laidByText := true, laidKinds := [.data, .data, .data, .listed, .data], laidTests := true, laidLooks := .later }
def SpellPartsCardSaid : Prop := Claim7.holds Tryd.pinned (.plain (OpenSpec.ofChange spellPartsSpec)) spellPartsCard

/-- THE SECOND FORM's CARD OF 'lathelaw05.SpellTexts'. -/
def spellTextsUptoCard : Claim7 := { stood := { row := spellTextsUptoRow, standIns := [], harness := (true, "ff5461e79e913ca5ee24aff6029402011f0028b16faab4f176f07258e0bc550b"), looks := false }, kinds := [], alts := [], laidByText := true, laidKinds := [.data, .data, .data, .listed, .data], laidTests := true, laidLooks := .later }
def SpellTextsUptoCardSaid : Prop := Claim7.holds Tryd.pinned (.plain (OpenSpec.upto spellTextsSpec)) spellTextsUptoCard

/-- THE SECOND FORM's CARD OF 'lathelaw05.SpellParts'. -/
def spellPartsUptoCard : Claim7 := { stood := { row := spellPartsUptoRow, standIns := [], harness := (true, "ff5461e79e913ca5ee24aff6029402011f0028b16faab4f176f07258e0bc550b"), looks := false }, kinds := [], alts := [], laidByText := true, laidKinds := [.data, .data, .data, .listed, .data], laidTests := true, laidLooks := .later }
def SpellPartsUptoCardSaid : Prop := Claim7.holds Tryd.pinned (.plain (OpenSpec.upto spellPartsSpec)) spellPartsUptoCard
end Rows
end Go.Proofs.YtilhkmlghhdpaaaDoor
