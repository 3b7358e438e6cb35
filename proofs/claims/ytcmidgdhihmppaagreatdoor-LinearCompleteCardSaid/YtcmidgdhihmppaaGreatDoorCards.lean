/-
  DERIVED. GIVEN WITH THE SEED: THE CARDS: each row of YtcmidgdhihmppaaGreatDoorRows.lean that lists a variable, with what it lists TIED to the program's text (the seventh form; the later family's looks); each row that meets fmt, with fmt's text TOLD by the authors' own Lean function (tested against real Go, not proved from fmt's source: count such statements apart). THE CARD IS WHAT COUNTS. Prove the row's statement (the work); the ties are given (YtcmidgdhihmppaaGreatDoorTie.lean); close each card by the builder's one call (the guide's Derived/Test/ToyasCard.lean, 'card_holds'). Laid BY PROGRAM, IN A SANDBOX (cutbox-door.mjs). By AI agents, Wed Nov 11 2026. No macro, syntax, notation, axiom, sorry.
-/
import Derived.Test.YtcmidgdhihmppaaGreatDoorRows
import GoSem.ClaimSeven
namespace Go.Proofs.YtcmidgdhihmppaaGreatDoor
namespace Rows

/-- THE TIED CARD OF 'specielaw17.LinearChecks'. -/
def linearChecksCard : Claim7 := { stood := { row := linearChecksRow, standIns := [], harness := (true, "6a0a558c73686ec55819adbbbbd06ddae5cde6e00da7e91ca821e19adf4d5af8"), looks := false }, kinds := [], alts := [], laidByText := true, laidKinds := [.data, .data, .data, .data], laidTests := true, laidLooks := .later }
def LinearChecksCardSaid : Prop := Claim7.holds Tryz.pinned (.plain (OpenSpec.ofChange linearChecksSpec)) linearChecksCard

/-- THE TIED CARD OF 'specielaw17.LinearComplete'. -/
def linearCompleteCard : Claim7 := { stood := { row := linearCompleteRow, standIns := [], harness := (true, "6a0a558c73686ec55819adbbbbd06ddae5cde6e00da7e91ca821e19adf4d5af8"), looks := false }, kinds := [], alts := [], laidByText := true, laidKinds := [.data, .data, .data, .data], laidTests := true, laidLooks := .later }
def LinearCompleteCardSaid : Prop := Claim7.holds Tryz.pinned (.plain (OpenSpec.ofChange linearCompleteSpec)) linearCompleteCard

/-- THE TIED CARD OF 'specielaw18.EqualityChecks'. -/
def equalityChecksCard : Claim7 := { stood := { row := equalityChecksRow, standIns := [], harness := (true, "6a0a558c73686ec55819adbbbbd06ddae5cde6e00da7e91ca821e19adf4d5af8"), looks := false }, kinds := [], alts := [], laidByText := true, laidKinds := [.data, .data, .data, .data], laidTests := true, laidLooks := .later }
def EqualityChecksCardSaid : Prop := Claim7.holds Tryz.pinned (.plain (OpenSpec.ofChange equalityChecksSpec)) equalityChecksCard

/-- THE TIED CARD OF 'specielaw18.EqualityProves'. -/
def equalityProvesCard : Claim7 := { stood := { row := equalityProvesRow, standIns := [], harness := (true, "6a0a558c73686ec55819adbbbbd06ddae5cde6e00da7e91ca821e19adf4d5af8"), looks := false }, kinds := [], alts := [], laidByText := true, laidKinds := [.data, .data, .data, .data], laidTests := true, laidLooks := .later }
def EqualityProvesCardSaid : Prop := Claim7.holds Tryz.pinned (.plain (OpenSpec.ofChange equalityProvesSpec)) equalityProvesCard

/-- THE TIED CARD OF 'specielaw18.EqualityBound'. -/
def equalityBoundCard : Claim7 := { stood := { row := equalityBoundRow, standIns := [], harness := (true, "6a0a558c73686ec55819adbbbbd06ddae5cde6e00da7e91ca821e19adf4d5af8"), looks := false }, kinds := [], alts := [], laidByText := true, laidKinds := [.data, .data, .data, .data], laidTests := true, laidLooks := .later }
def EqualityBoundCardSaid : Prop := Claim7.holds Tryz.pinned (.plain (OpenSpec.ofChange equalityBoundSpec)) equalityBoundCard

/-- THE SECOND FORM's CARD OF 'specielaw17.LinearChecks'. -/
def linearChecksUptoCard : Claim7 := { stood := { row := linearChecksUptoRow, standIns := [], harness := (true, "6a0a558c73686ec55819adbbbbd06ddae5cde6e00da7e91ca821e19adf4d5af8"), looks := false }, kinds := [], alts := [], laidByText := true, laidKinds := [.data, .data, .data, .data], laidTests := true, laidLooks := .later }
def LinearChecksUptoCardSaid : Prop := Claim7.holds Tryz.pinned (.plain (OpenSpec.upto linearChecksSpec)) linearChecksUptoCard

/-- THE SECOND FORM's CARD OF 'specielaw17.LinearComplete'. -/
def linearCompleteUptoCard : Claim7 := { stood := { row := linearCompleteUptoRow, standIns := [], harness := (true, "6a0a558c73686ec55819adbbbbd06ddae5cde6e00da7e91ca821e19adf4d5af8"), looks := false }, kinds := [], alts := [], laidByText := true, laidKinds := [.data, .data, .data, .data], laidTests := true, laidLooks := .later }
def LinearCompleteUptoCardSaid : Prop := Claim7.holds Tryz.pinned (.plain (OpenSpec.upto linearCompleteSpec)) linearCompleteUptoCard

/-- THE SECOND FORM's CARD OF 'specielaw18.EqualityChecks'. -/
def equalityChecksUptoCard : Claim7 := { stood := { row := equalityChecksUptoRow, standIns := [], harness := (true, "6a0a558c73686ec55819adbbbbd06ddae5cde6e00da7e91ca821e19adf4d5af8"), looks := false }, kinds := [], alts := [], laidByText := true, laidKinds := [.data, .data, .data, .data], laidTests := true, laidLooks := .later }
def EqualityChecksUptoCardSaid : Prop := Claim7.holds Tryz.pinned (.plain (OpenSpec.upto equalityChecksSpec)) equalityChecksUptoCard

/-- THE SECOND FORM's CARD OF 'specielaw18.EqualityProves'. -/
def equalityProvesUptoCard : Claim7 := { stood := { row := equalityProvesUptoRow, standIns := [], harness := (true, "6a0a558c73686ec55819adbbbbd06ddae5cde6e00da7e91ca821e19adf4d5af8"), looks := false }, kinds := [], alts := [], laidByText := true, laidKinds := [.data, .data, .data, .data], laidTests := true, laidLooks := .later }
def EqualityProvesUptoCardSaid : Prop := Claim7.holds Tryz.pinned (.plain (OpenSpec.upto equalityProvesSpec)) equalityProvesUptoCard

/-- THE SECOND FORM's CARD OF 'specielaw18.EqualityBound'. -/
def equalityBoundUptoCard : Claim7 := { stood := { row := equalityBoundUptoRow, standIns := [], harness := (true, "6a0a558c73686ec55819adbbbbd06ddae5cde6e00da7e91ca821e19adf4d5af8"), looks := false }, kinds := [], alts := [], laidByText := true, laidKinds := [.data, .data, .data, .data], laidTests := true, laidLooks := .later }
def EqualityBoundUptoCardSaid : Prop := Claim7.holds Tryz.pinned (.plain (OpenSpec.upto equalityBoundSpec)) equalityBoundUptoCard
end Rows
end Go.Proofs.YtcmidgdhihmppaaGreatDoor
