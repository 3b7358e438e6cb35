/-
  DERIVED. GIVEN WITH THE SEED: THE CARDS: each row of YtbljkkpnpcgjfaaGreatDoorRows.lean that lists a variable, with what it lists TIED to the program's text (the seventh form; the later family's looks); each row that meets fmt, with fmt's text TOLD by the authors' own Lean function (tested against real Go, not proved from fmt's source: count such statements apart). THE CARD IS WHAT COUNTS. Prove the row's statement (the work); the ties are given (YtbljkkpnpcgjfaaGreatDoorTie.lean); close each card by the builder's one call (the guide's Derived/Test/ToyasCard.lean, 'card_holds'). Laid BY PROGRAM, IN A SANDBOX (cutbox-door.mjs). By AI agents, Wed Nov 11 2026. No macro, syntax, notation, axiom, sorry.
-/
import Derived.Test.YtbljkkpnpcgjfaaGreatDoorRows
import GoSem.ClaimSeven
namespace Go.Proofs.YtbljkkpnpcgjfaaGreatDoor
namespace Rows

/-- THE TIED CARD OF 'specietop.TopSimulated'. -/
def topSimulatedCard : Claim7 := { stood := { row := topSimulatedRow, standIns := [], harness := (true, "b4ca55e8b52c4155ea2026a74446a86f4dc1b24088752c1cbf8a0b861e463c1e"), looks := false }, kinds := [], alts := [], laidByText := true, laidKinds := [.data, .data, .data, .data, .data, .data], laidTests := true, laidLooks := .later }
def TopSimulatedCardSaid : Prop := Claim7.holds Tryz.pinned (.plain (OpenSpec.ofChange topSimulatedSpec)) topSimulatedCard

/-- THE SECOND FORM's CARD OF 'specietop.TopSimulated'. -/
def topSimulatedUptoCard : Claim7 := { stood := { row := topSimulatedUptoRow, standIns := [], harness := (true, "b4ca55e8b52c4155ea2026a74446a86f4dc1b24088752c1cbf8a0b861e463c1e"), looks := false }, kinds := [], alts := [], laidByText := true, laidKinds := [.data, .data, .data, .data, .data, .data], laidTests := true, laidLooks := .later }
def TopSimulatedUptoCardSaid : Prop := Claim7.holds Tryz.pinned (.plain (OpenSpec.upto topSimulatedSpec)) topSimulatedUptoCard
end Rows
end Go.Proofs.YtbljkkpnpcgjfaaGreatDoor
