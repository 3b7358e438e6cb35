/-
  DERIVED. GIVEN WITH THE SEED: THE CARDS: each row of YticegghameafgaaGreatDoorRows.lean that lists a variable, with what it lists TIED to the program's text (the seventh form; the later family's looks); each row that meets fmt, with fmt's text TOLD by the authors' own Lean function (tested against real Go, not proved from fmt's source: count such statements apart). THE CARD IS WHAT COUNTS. Prove the row's statement (the work); the ties are given (YticegghameafgaaGreatDoorTie.lean); close each card by the builder's one call (the guide's Derived/Test/ToyasCard.lean, 'card_holds'). Laid BY PROGRAM, IN A SANDBOX (cutbox-door.mjs). By AI agents, Wed Nov 11 2026. No macro, syntax, notation, axiom, sorry.
-/
import Derived.Test.YticegghameafgaaGreatDoorRows
import GoSem.ClaimSeven
namespace Go.Proofs.YticegghameafgaaGreatDoor
namespace Rows

/-- THE TIED CARD OF 'specietop.TopHidden'. -/
def topHiddenCard : Claim7 := { stood := { row := topHiddenRow, standIns := [], harness := (true, "14637a0fb1ea099b178bd37415ff865cf205fb3332efec336d0e46d873e06acf"), looks := false }, kinds := [], alts := [], laidByText := true, laidKinds := [.data, .data, .data, .data], laidTests := true, laidLooks := .later }
def TopHiddenCardSaid : Prop := Claim7.holds Tryz.pinned (.plain (OpenSpec.ofChange topHiddenSpec)) topHiddenCard

/-- THE TIED CARD OF 'specielaw50.TrusteeHides'. -/
def trusteeHidesCard : Claim7 := { stood := { row := trusteeHidesRow, standIns := [], harness := (true, "14637a0fb1ea099b178bd37415ff865cf205fb3332efec336d0e46d873e06acf"), looks := false }, kinds := [], alts := [], laidByText := true, laidKinds := [.data, .data, .data, .data], laidTests := true, laidLooks := .later }
def TrusteeHidesCardSaid : Prop := Claim7.holds Tryz.pinned (.plain (OpenSpec.ofChange trusteeHidesSpec)) trusteeHidesCard

/-- THE SECOND FORM's CARD OF 'specietop.TopHidden'. -/
def topHiddenUptoCard : Claim7 := { stood := { row := topHiddenUptoRow, standIns := [], harness := (true, "14637a0fb1ea099b178bd37415ff865cf205fb3332efec336d0e46d873e06acf"), looks := false }, kinds := [], alts := [], laidByText := true, laidKinds := [.data, .data, .data, .data], laidTests := true, laidLooks := .later }
def TopHiddenUptoCardSaid : Prop := Claim7.holds Tryz.pinned (.plain (OpenSpec.upto topHiddenSpec)) topHiddenUptoCard

/-- THE SECOND FORM's CARD OF 'specielaw50.TrusteeHides'. -/
def trusteeHidesUptoCard : Claim7 := { stood := { row := trusteeHidesUptoRow, standIns := [], harness := (true, "14637a0fb1ea099b178bd37415ff865cf205fb3332efec336d0e46d873e06acf"), looks := false }, kinds := [], alts := [], laidByText := true, laidKinds := [.data, .data, .data, .data], laidTests := true, laidLooks := .later }
def TrusteeHidesUptoCardSaid : Prop := Claim7.holds Tryz.pinned (.plain (OpenSpec.upto trusteeHidesSpec)) trusteeHidesUptoCard
end Rows
end Go.Proofs.YticegghameafgaaGreatDoor
