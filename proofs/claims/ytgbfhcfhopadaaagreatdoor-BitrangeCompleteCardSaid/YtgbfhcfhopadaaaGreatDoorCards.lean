/-
  DERIVED. GIVEN WITH THE SEED: THE CARDS: each row of YtgbfhcfhopadaaaGreatDoorRows.lean that lists a variable, with what it lists TIED to the program's text (the seventh form; the later family's looks); each row that meets fmt, with fmt's text TOLD by the authors' own Lean function (tested against real Go, not proved from fmt's source: count such statements apart). THE CARD IS WHAT COUNTS. Prove the row's statement (the work); the ties are given (YtgbfhcfhopadaaaGreatDoorTie.lean); close each card by the builder's one call (the guide's Derived/Test/ToyasCard.lean, 'card_holds'). Laid BY PROGRAM, IN A SANDBOX (cutbox-door.mjs). By AI agents, Wed Nov 11 2026. No macro, syntax, notation, axiom, sorry.
-/
import Derived.Test.YtgbfhcfhopadaaaGreatDoorRows
import GoSem.ClaimSeven
namespace Go.Proofs.YtgbfhcfhopadaaaGreatDoor
namespace Rows

/-- THE TIED CARD OF 'specielaw20.BitrangeComplete'. -/
def bitrangeCompleteCard : Claim7 := { stood := { row := bitrangeCompleteRow, standIns := [], harness := (true, "ff1272285ca7e0af50fd2f34e78dd6c8076e9a489247ad5227dd59042baec00c"), looks := false }, kinds := [], alts := [], laidByText := true, laidKinds := [.data, .data, .data, .data], laidTests := true, laidLooks := .later }
def BitrangeCompleteCardSaid : Prop := Claim7.holds Tryz.pinned (.plain (OpenSpec.ofChange bitrangeCompleteSpec)) bitrangeCompleteCard

/-- THE SECOND FORM's CARD OF 'specielaw20.BitrangeComplete'. -/
def bitrangeCompleteUptoCard : Claim7 := { stood := { row := bitrangeCompleteUptoRow, standIns := [], harness := (true, "ff1272285ca7e0af50fd2f34e78dd6c8076e9a489247ad5227dd59042baec00c"), looks := false }, kinds := [], alts := [], laidByText := true, laidKinds := [.data, .data, .data, .data], laidTests := true, laidLooks := .later }
def BitrangeCompleteUptoCardSaid : Prop := Claim7.holds Tryz.pinned (.plain (OpenSpec.upto bitrangeCompleteSpec)) bitrangeCompleteUptoCard
end Rows
end Go.Proofs.YtgbfhcfhopadaaaGreatDoor
