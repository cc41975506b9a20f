/-
  DERIVED. GIVEN WITH THE SEED: THE CARDS: each row of YtnfdieeaelhpbaaGreatDoorRows.lean that lists a variable, with what it lists TIED to the program's text (the seventh form; the later family's looks); each row that meets fmt, with fmt's text TOLD by the authors' own Lean function (tested against real Go, not proved from fmt's source: count such statements apart). THE CARD IS WHAT COUNTS. Prove the row's statement (the work); the ties are given (YtnfdieeaelhpbaaGreatDoorTie.lean); close each card by the builder's one call (the guide's Derived/Test/ToyasCard.lean, 'card_holds'). Laid BY PROGRAM, IN A SANDBOX (cutbox-door.mjs). By AI agents, Wed Nov 11 2026. No macro, syntax, notation, axiom, sorry.
-/
import Derived.Test.YtnfdieeaelhpbaaGreatDoorRows
import GoSem.ClaimSeven
namespace Go.Proofs.YtnfdieeaelhpbaaGreatDoor
namespace Rows

/-- THE TIED CARD OF 'lathelaw08.VerifyChecks'. -/
def verifyChecksCard : Claim7 := { stood := { row := verifyChecksRow, standIns := [], harness := (true, "618e29f6ca9f65df4d47c8d5ed0f41fa100d6a7843befaddddececed04aa8b1a"), looks := true }, kinds := [], alts := [], laidByText := true, laidKinds := [.data, .data, .data, .sentinel, .sentinel, .listed, .data], laidTests := true, laidLooks := .later }
def VerifyChecksCardSaid : Prop := Claim7.holds Tryz.pinned (.plain (OpenSpec.ofChange verifyChecksSpec)) verifyChecksCard

/-- THE TIED CARD OF 'lathelaw08.VerifyTypes'. -/
def verifyTypesCard : Claim7 := { stood := { row := verifyTypesRow, standIns := [], harness := (true, "618e29f6ca9f65df4d47c8d5ed0f41fa100d6a7843befaddddececed04aa8b1a"), looks := true }, kinds := [], alts := [], laidByText := true, laidKinds := [.data, .data, .data, .sentinel, .sentinel, .listed, .data], laidTests := true, laidLooks := .later }
def VerifyTypesCardSaid : Prop := Claim7.holds Tryz.pinned (.plain (OpenSpec.ofChange verifyTypesSpec)) verifyTypesCard

/-- THE TIED CARD OF 'lathelaw08.VerifyRenames'. -/
def verifyRenamesCard : Claim7 := { stood := { row := verifyRenamesRow, standIns := [], harness := (true, "618e29f6ca9f65df4d47c8d5ed0f41fa100d6a7843befaddddececed04aa8b1a"), looks := true }, kinds := [], alts := [], laidByText := true, laidKinds := [.data, .data, .data, .sentinel, .sentinel, .listed, .data], laidTests := true, laidLooks := .later }
def VerifyRenamesCardSaid : Prop := Claim7.holds Tryz.pinned (.plain (OpenSpec.ofChange verifyRenamesSpec)) verifyRenamesCard

/-- THE TIED CARD OF 'lathelaw08.VerifyMade'. -/
def verifyMadeCard : Claim7 := { stood := { row := verifyMadeRow, standIns := [], harness := (true, "618e29f6ca9f65df4d47c8d5ed0f41fa100d6a7843befaddddececed04aa8b1a"), looks := true }, kinds := [], alts := [], laidByText := true, laidKinds := [.data, .data, .data, .sentinel, .sentinel, .listed, .data], laidTests := true, laidLooks := .later }
def VerifyMadeCardSaid : Prop := Claim7.holds Tryz.pinned (.plain (OpenSpec.ofChange verifyMadeSpec)) verifyMadeCard

/-- THE TIED CARD OF 'lathelaw08.VerifyBreaks'. -/
def verifyBreaksCard : Claim7 := { stood := { row := verifyBreaksRow, standIns := [], harness := (true, "618e29f6ca9f65df4d47c8d5ed0f41fa100d6a7843befaddddececed04aa8b1a"), looks := true }, kinds := [], alts := [], laidByText := true, laidKinds := [.data, .data, .data, .sentinel, .sentinel, .listed, .data], laidTests := true, laidLooks := .later }
def VerifyBreaksCardSaid : Prop := Claim7.holds Tryz.pinned (.plain (OpenSpec.ofChange verifyBreaksSpec)) verifyBreaksCard

/-- THE TIED CARD OF 'lathelaw08.VerifyDrops'. -/
def verifyDropsCard : Claim7 := { stood := { row := verifyDropsRow, standIns := [], harness := (true, "618e29f6ca9f65df4d47c8d5ed0f41fa100d6a7843befaddddececed04aa8b1a"), looks := true }, kinds := [], alts := [], laidByText := true, laidKinds := [.data, .data, .data, .sentinel, .sentinel, .listed, .data], laidTests := true, laidLooks := .later }
def VerifyDropsCardSaid : Prop := Claim7.holds Tryz.pinned (.plain (OpenSpec.ofChange verifyDropsSpec)) verifyDropsCard

/-- THE SECOND FORM's CARD OF 'lathelaw08.VerifyChecks'. -/
def verifyChecksUptoCard : Claim7 := { stood := { row := verifyChecksUptoRow, standIns := [], harness := (true, "618e29f6ca9f65df4d47c8d5ed0f41fa100d6a7843befaddddececed04aa8b1a"), looks := true }, kinds := [], alts := [], laidByText := true, laidKinds := [.data, .data, .data, .sentinel, .sentinel, .listed, .data], laidTests := true, laidLooks := .later }
def VerifyChecksUptoCardSaid : Prop := Claim7.holds Tryz.pinned (.plain (OpenSpec.upto verifyChecksSpec)) verifyChecksUptoCard

/-- THE SECOND FORM's CARD OF 'lathelaw08.VerifyTypes'. -/
def verifyTypesUptoCard : Claim7 := { stood := { row := verifyTypesUptoRow, standIns := [], harness := (true, "618e29f6ca9f65df4d47c8d5ed0f41fa100d6a7843befaddddececed04aa8b1a"), looks := true }, kinds := [], alts := [], laidByText := true, laidKinds := [.data, .data, .data, .sentinel, .sentinel, .listed, .data], laidTests := true, laidLooks := .later }
def VerifyTypesUptoCardSaid : Prop := Claim7.holds Tryz.pinned (.plain (OpenSpec.upto verifyTypesSpec)) verifyTypesUptoCard

/-- THE SECOND FORM's CARD OF 'lathelaw08.VerifyRenames'. -/
def verifyRenamesUptoCard : Claim7 := { stood := { row := verifyRenamesUptoRow, standIns := [], harness := (true, "618e29f6ca9f65df4d47c8d5ed0f41fa100d6a7843befaddddececed04aa8b1a"), looks := true }, kinds := [], alts := [], laidByText := true, laidKinds := [.data, .data, .data, .sentinel, .sentinel, .listed, .data], laidTests := true, laidLooks := .later }
def VerifyRenamesUptoCardSaid : Prop := Claim7.holds Tryz.pinned (.plain (OpenSpec.upto verifyRenamesSpec)) verifyRenamesUptoCard

/-- THE SECOND FORM's CARD OF 'lathelaw08.VerifyMade'. -/
def verifyMadeUptoCard : Claim7 := { stood := { row := verifyMadeUptoRow, standIns := [], harness := (true, "618e29f6ca9f65df4d47c8d5ed0f41fa100d6a7843befaddddececed04aa8b1a"), looks := true }, kinds := [], alts := [], laidByText := true, laidKinds := [.data, .data, .data, .sentinel, .sentinel, .listed, .data], laidTests := true, laidLooks := .later }
def VerifyMadeUptoCardSaid : Prop := Claim7.holds Tryz.pinned (.plain (OpenSpec.upto verifyMadeSpec)) verifyMadeUptoCard

/-- THE SECOND FORM's CARD OF 'lathelaw08.VerifyBreaks'. -/
def verifyBreaksUptoCard : Claim7 := { stood := { row := verifyBreaksUptoRow, standIns := [], harness := (true, "618e29f6ca9f65df4d47c8d5ed0f41fa100d6a7843befaddddececed04aa8b1a"), looks := true }, kinds := [], alts := [], laidByText := true, laidKinds := [.data, .data, .data, .sentinel, .sentinel, .listed, .data], laidTests := true, laidLooks := .later }
def VerifyBreaksUptoCardSaid : Prop := Claim7.holds Tryz.pinned (.plain (OpenSpec.upto verifyBreaksSpec)) verifyBreaksUptoCard

/-- THE SECOND FORM's CARD OF 'lathelaw08.VerifyDrops'. -/
def verifyDropsUptoCard : Claim7 := { stood := { row := verifyDropsUptoRow, standIns := [], harness := (true, "618e29f6ca9f65df4d47c8d5ed0f41fa100d6a7843befaddddececed04aa8b1a"), looks := true }, kinds := [], alts := [], laidByText := true, laidKinds := [.data, .data, .data, .sentinel, .sentinel, .listed, .data], laidTests := true, laidLooks := .later }
def VerifyDropsUptoCardSaid : Prop := Claim7.holds Tryz.pinned (.plain (OpenSpec.upto verifyDropsSpec)) verifyDropsUptoCard
end Rows
end Go.Proofs.YtnfdieeaelhpbaaGreatDoor
