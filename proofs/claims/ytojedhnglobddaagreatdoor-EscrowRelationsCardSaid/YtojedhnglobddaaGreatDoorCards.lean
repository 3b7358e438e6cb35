/-
  DERIVED. GIVEN WITH THE SEED: THE CARDS: each row of YtojedhnglobddaaGreatDoorRows.lean that lists a variable, with what it lists TIED to the program's text (the seventh form; the later family's looks); each row that meets fmt, with fmt's text TOLD by the authors' own Lean function (tested against real Go, not proved from fmt's source: count such statements apart). THE CARD IS WHAT COUNTS. Prove the row's statement (the work); the ties are given (YtojedhnglobddaaGreatDoorTie.lean); close each card by the builder's one call (the guide's Derived/Test/ToyasCard.lean, 'card_holds'). Laid BY PROGRAM, IN A SANDBOX (cutbox-door.mjs). By AI agents, Wed Nov 11 2026. No macro, syntax, notation, axiom, sorry.
-/
import Derived.Test.YtojedhnglobddaaGreatDoorRows
import GoSem.ClaimSeven
namespace Go.Proofs.YtojedhnglobddaaGreatDoor
namespace Rows

/-- THE TIED CARD OF 'specielaw50.TrusteeShares'. -/
def trusteeSharesCard : Claim7 := { stood := { row := trusteeSharesRow, standIns := [], harness := (true, "80a255a966c8c615fdb52ea08acaba0350058cda6152efe37898ded801d4410f"), looks := false }, kinds := [], alts := [], laidByText := true, laidKinds := [.data, .data], laidTests := true, laidLooks := .later }
def TrusteeSharesCardSaid : Prop := Claim7.holds Tryz.pinned (.plain (OpenSpec.ofChange trusteeSharesSpec)) trusteeSharesCard

/-- THE TIED CARD OF 'specielaw36.EscrowRelations'. -/
def escrowRelationsCard : Claim7 := { stood := { row := escrowRelationsRow, standIns := [], harness := (true, "80a255a966c8c615fdb52ea08acaba0350058cda6152efe37898ded801d4410f"), looks := false }, kinds := [], alts := [], laidByText := true, laidKinds := [.data, .data, .data, .data], laidTests := true, laidLooks := .later }
def EscrowRelationsCardSaid : Prop := Claim7.holds Tryz.pinned (.plain (OpenSpec.ofChange escrowRelationsSpec)) escrowRelationsCard

/-- THE TIED CARD OF 'specielaw50.TrusteeHides'. -/
def trusteeHidesCard : Claim7 := { stood := { row := trusteeHidesRow, standIns := [], harness := (true, "80a255a966c8c615fdb52ea08acaba0350058cda6152efe37898ded801d4410f"), looks := false }, kinds := [], alts := [], laidByText := true, laidKinds := [.data, .data, .data, .data], laidTests := true, laidLooks := .later }
def TrusteeHidesCardSaid : Prop := Claim7.holds Tryz.pinned (.plain (OpenSpec.ofChange trusteeHidesSpec)) trusteeHidesCard

/-- THE TIED CARD OF 'specielaw50.TrusteeOpens'. -/
def trusteeOpensCard : Claim7 := { stood := { row := trusteeOpensRow, standIns := [], harness := (true, "80a255a966c8c615fdb52ea08acaba0350058cda6152efe37898ded801d4410f"), looks := false }, kinds := [], alts := [], laidByText := true, laidKinds := [.data, .data, .data, .data], laidTests := true, laidLooks := .later }
def TrusteeOpensCardSaid : Prop := Claim7.holds Tryz.pinned (.plain (OpenSpec.ofChange trusteeOpensSpec)) trusteeOpensCard

/-- THE SECOND FORM's CARD OF 'specielaw50.TrusteeShares'. -/
def trusteeSharesUptoCard : Claim7 := { stood := { row := trusteeSharesUptoRow, standIns := [], harness := (true, "80a255a966c8c615fdb52ea08acaba0350058cda6152efe37898ded801d4410f"), looks := false }, kinds := [], alts := [], laidByText := true, laidKinds := [.data, .data], laidTests := true, laidLooks := .later }
def TrusteeSharesUptoCardSaid : Prop := Claim7.holds Tryz.pinned (.plain (OpenSpec.upto trusteeSharesSpec)) trusteeSharesUptoCard

/-- THE SECOND FORM's CARD OF 'specielaw36.EscrowRelations'. -/
def escrowRelationsUptoCard : Claim7 := { stood := { row := escrowRelationsUptoRow, standIns := [], harness := (true, "80a255a966c8c615fdb52ea08acaba0350058cda6152efe37898ded801d4410f"), looks := false }, kinds := [], alts := [], laidByText := true, laidKinds := [.data, .data, .data, .data], laidTests := true, laidLooks := .later }
def EscrowRelationsUptoCardSaid : Prop := Claim7.holds Tryz.pinned (.plain (OpenSpec.upto escrowRelationsSpec)) escrowRelationsUptoCard

/-- THE SECOND FORM's CARD OF 'specielaw50.TrusteeHides'. -/
def trusteeHidesUptoCard : Claim7 := { stood := { row := trusteeHidesUptoRow, standIns := [], harness := (true, "80a255a966c8c615fdb52ea08acaba0350058cda6152efe37898ded801d4410f"), looks := false }, kinds := [], alts := [], laidByText := true, laidKinds := [.data, .data, .data, .data], laidTests := true, laidLooks := .later }
def TrusteeHidesUptoCardSaid : Prop := Claim7.holds Tryz.pinned (.plain (OpenSpec.upto trusteeHidesSpec)) trusteeHidesUptoCard

/-- THE SECOND FORM's CARD OF 'specielaw50.TrusteeOpens'. -/
def trusteeOpensUptoCard : Claim7 := { stood := { row := trusteeOpensUptoRow, standIns := [], harness := (true, "80a255a966c8c615fdb52ea08acaba0350058cda6152efe37898ded801d4410f"), looks := false }, kinds := [], alts := [], laidByText := true, laidKinds := [.data, .data, .data, .data], laidTests := true, laidLooks := .later }
def TrusteeOpensUptoCardSaid : Prop := Claim7.holds Tryz.pinned (.plain (OpenSpec.upto trusteeOpensSpec)) trusteeOpensUptoCard
end Rows
end Go.Proofs.YtojedhnglobddaaGreatDoor
