/-
  DERIVED. GIVEN WITH THE SEED: THE CARDS: each row of YtchcllcbknfikaaGreatDoorRows.lean that lists a variable, with what it lists TIED to the program's text (the seventh form; the later family's looks); each row that meets fmt, with fmt's text TOLD by the authors' own Lean function (tested against real Go, not proved from fmt's source: count such statements apart). THE CARD IS WHAT COUNTS. Prove the row's statement (the work); the ties are given (YtchcllcbknfikaaGreatDoorTie.lean); close each card by the builder's one call (the guide's Derived/Test/ToyasCard.lean, 'card_holds'). Laid BY PROGRAM, IN A SANDBOX (cutbox-door.mjs). By AI agents, Wed Nov 11 2026. No macro, syntax, notation, axiom, sorry.
-/
import Derived.Test.YtchcllcbknfikaaGreatDoorRows
import GoSem.ClaimSeven
namespace Go.Proofs.YtchcllcbknfikaaGreatDoor
namespace Rows

/-- THE TIED CARD OF 'specielaw50.TrusteeShares'. -/
def trusteeSharesCard : Claim7 := { stood := { row := trusteeSharesRow, standIns := [], harness := (true, "511b6787abcfaf20bd6b23dc8d5c72a528b12fbabbccc5f0bd44e8ff26d8b24d"), looks := false }, kinds := [], alts := [], laidByText := true, laidKinds := [.data, .data], laidTests := true, laidLooks := .later }
def TrusteeSharesCardSaid : Prop := Claim7.holds Tryz.pinned (.plain (OpenSpec.ofChange trusteeSharesSpec)) trusteeSharesCard

/-- THE TIED CARD OF 'specielaw50.TrusteeHides'. -/
def trusteeHidesCard : Claim7 := { stood := { row := trusteeHidesRow, standIns := [], harness := (true, "511b6787abcfaf20bd6b23dc8d5c72a528b12fbabbccc5f0bd44e8ff26d8b24d"), looks := false }, kinds := [], alts := [], laidByText := true, laidKinds := [.data, .data, .data, .data], laidTests := true, laidLooks := .later }
def TrusteeHidesCardSaid : Prop := Claim7.holds Tryz.pinned (.plain (OpenSpec.ofChange trusteeHidesSpec)) trusteeHidesCard

/-- THE TIED CARD OF 'specielaw51.TracingAdds'. -/
def tracingAddsCard : Claim7 := { stood := { row := tracingAddsRow, standIns := [], harness := (true, "511b6787abcfaf20bd6b23dc8d5c72a528b12fbabbccc5f0bd44e8ff26d8b24d"), looks := false }, kinds := [], alts := [], laidByText := true, laidKinds := [.data, .data, .data, .data], laidTests := true, laidLooks := .later }
def TracingAddsCardSaid : Prop := Claim7.holds Tryz.pinned (.plain (OpenSpec.ofChange tracingAddsSpec)) tracingAddsCard

/-- THE TIED CARD OF 'specielaw51.TracingVerifies'. -/
def tracingVerifiesCard : Claim7 := { stood := { row := tracingVerifiesRow, standIns := [], harness := (true, "511b6787abcfaf20bd6b23dc8d5c72a528b12fbabbccc5f0bd44e8ff26d8b24d"), looks := false }, kinds := [], alts := [], laidByText := true, laidKinds := [.data, .data, .data, .data], laidTests := true, laidLooks := .later }
def TracingVerifiesCardSaid : Prop := Claim7.holds Tryz.pinned (.plain (OpenSpec.ofChange tracingVerifiesSpec)) tracingVerifiesCard

/-- THE TIED CARD OF 'specielaw51.TracingCloses'. -/
def tracingClosesCard : Claim7 := { stood := { row := tracingClosesRow, standIns := [], harness := (true, "511b6787abcfaf20bd6b23dc8d5c72a528b12fbabbccc5f0bd44e8ff26d8b24d"), looks := false }, kinds := [], alts := [], laidByText := true, laidKinds := [.data, .data, .data, .data], laidTests := true, laidLooks := .later }
def TracingClosesCardSaid : Prop := Claim7.holds Tryz.pinned (.plain (OpenSpec.ofChange tracingClosesSpec)) tracingClosesCard

/-- THE SECOND FORM's CARD OF 'specielaw50.TrusteeShares'. -/
def trusteeSharesUptoCard : Claim7 := { stood := { row := trusteeSharesUptoRow, standIns := [], harness := (true, "511b6787abcfaf20bd6b23dc8d5c72a528b12fbabbccc5f0bd44e8ff26d8b24d"), looks := false }, kinds := [], alts := [], laidByText := true, laidKinds := [.data, .data], laidTests := true, laidLooks := .later }
def TrusteeSharesUptoCardSaid : Prop := Claim7.holds Tryz.pinned (.plain (OpenSpec.upto trusteeSharesSpec)) trusteeSharesUptoCard

/-- THE SECOND FORM's CARD OF 'specielaw50.TrusteeHides'. -/
def trusteeHidesUptoCard : Claim7 := { stood := { row := trusteeHidesUptoRow, standIns := [], harness := (true, "511b6787abcfaf20bd6b23dc8d5c72a528b12fbabbccc5f0bd44e8ff26d8b24d"), looks := false }, kinds := [], alts := [], laidByText := true, laidKinds := [.data, .data, .data, .data], laidTests := true, laidLooks := .later }
def TrusteeHidesUptoCardSaid : Prop := Claim7.holds Tryz.pinned (.plain (OpenSpec.upto trusteeHidesSpec)) trusteeHidesUptoCard

/-- THE SECOND FORM's CARD OF 'specielaw51.TracingAdds'. -/
def tracingAddsUptoCard : Claim7 := { stood := { row := tracingAddsUptoRow, standIns := [], harness := (true, "511b6787abcfaf20bd6b23dc8d5c72a528b12fbabbccc5f0bd44e8ff26d8b24d"), looks := false }, kinds := [], alts := [], laidByText := true, laidKinds := [.data, .data, .data, .data], laidTests := true, laidLooks := .later }
def TracingAddsUptoCardSaid : Prop := Claim7.holds Tryz.pinned (.plain (OpenSpec.upto tracingAddsSpec)) tracingAddsUptoCard

/-- THE SECOND FORM's CARD OF 'specielaw51.TracingVerifies'. -/
def tracingVerifiesUptoCard : Claim7 := { stood := { row := tracingVerifiesUptoRow, standIns := [], harness := (true, "511b6787abcfaf20bd6b23dc8d5c72a528b12fbabbccc5f0bd44e8ff26d8b24d"), looks := false }, kinds := [], alts := [], laidByText := true, laidKinds := [.data, .data, .data, .data], laidTests := true, laidLooks := .later }
def TracingVerifiesUptoCardSaid : Prop := Claim7.holds Tryz.pinned (.plain (OpenSpec.upto tracingVerifiesSpec)) tracingVerifiesUptoCard

/-- THE SECOND FORM's CARD OF 'specielaw51.TracingCloses'. -/
def tracingClosesUptoCard : Claim7 := { stood := { row := tracingClosesUptoRow, standIns := [], harness := (true, "511b6787abcfaf20bd6b23dc8d5c72a528b12fbabbccc5f0bd44e8ff26d8b24d"), looks := false }, kinds := [], alts := [], laidByText := true, laidKinds := [.data, .data, .data, .data], laidTests := true, laidLooks := .later }
def TracingClosesUptoCardSaid : Prop := Claim7.holds Tryz.pinned (.plain (OpenSpec.upto tracingClosesSpec)) tracingClosesUptoCard
end Rows
end Go.Proofs.YtchcllcbknfikaaGreatDoor
