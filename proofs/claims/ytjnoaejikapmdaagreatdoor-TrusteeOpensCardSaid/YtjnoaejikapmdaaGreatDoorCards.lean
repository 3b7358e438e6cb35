/-
  DERIVED. GIVEN WITH THE SEED: THE CARDS: each row of YtjnoaejikapmdaaGreatDoorRows.lean that lists a variable, with what it lists TIED to the program's text (the seventh form; the later family's looks); each row that meets fmt, with fmt's text TOLD by the authors' own Lean function (tested against real Go, not proved from fmt's source: count such statements apart). THE CARD IS WHAT COUNTS. Prove the row's statement (the work); the ties are given (YtjnoaejikapmdaaGreatDoorTie.lean); close each card by the builder's one call (the guide's Derived/Test/ToyasCard.lean, 'card_holds'). Laid BY PROGRAM, IN A SANDBOX (cutbox-door.mjs). By AI agents, Wed Nov 11 2026. No macro, syntax, notation, axiom, sorry.
-/
import Derived.Test.YtjnoaejikapmdaaGreatDoorRows
import GoSem.ClaimSeven
namespace Go.Proofs.YtjnoaejikapmdaaGreatDoor
namespace Rows

/-- THE TIED CARD OF 'specielaw50.TrusteeShares'. -/
def trusteeSharesCard : Claim7 := { stood := { row := trusteeSharesRow, standIns := [], harness := (true, "064232373c9066aa9cb0986a0c9b0ed9cc2452bfac2be7896b0b12ac282a7596"), looks := false }, kinds := [], alts := [], laidByText := true, laidKinds := [.data, .data], laidTests := true, laidLooks := .later }
def TrusteeSharesCardSaid : Prop := Claim7.holds Tryz.pinned (.plain (OpenSpec.ofChange trusteeSharesSpec)) trusteeSharesCard

/-- THE TIED CARD OF 'specielaw50.TrusteeHides'. -/
def trusteeHidesCard : Claim7 := { stood := { row := trusteeHidesRow, standIns := [], harness := (true, "064232373c9066aa9cb0986a0c9b0ed9cc2452bfac2be7896b0b12ac282a7596"), looks := false }, kinds := [], alts := [], laidByText := true, laidKinds := [.data, .data, .data, .data], laidTests := true, laidLooks := .later }
def TrusteeHidesCardSaid : Prop := Claim7.holds Tryz.pinned (.plain (OpenSpec.ofChange trusteeHidesSpec)) trusteeHidesCard

/-- THE TIED CARD OF 'specielaw50.TrusteeOpens'. -/
def trusteeOpensCard : Claim7 := { stood := { row := trusteeOpensRow, standIns := [], harness := (true, "064232373c9066aa9cb0986a0c9b0ed9cc2452bfac2be7896b0b12ac282a7596"), looks := false }, kinds := [], alts := [], laidByText := true, laidKinds := [.data, .data, .data, .data], laidTests := true, laidLooks := .later }
def TrusteeOpensCardSaid : Prop := Claim7.holds Tryz.pinned (.plain (OpenSpec.ofChange trusteeOpensSpec)) trusteeOpensCard

/-- THE TIED CARD OF 'specielaw51.TracingAdds'. -/
def tracingAddsCard : Claim7 := { stood := { row := tracingAddsRow, standIns := [], harness := (true, "064232373c9066aa9cb0986a0c9b0ed9cc2452bfac2be7896b0b12ac282a7596"), looks := false }, kinds := [], alts := [], laidByText := true, laidKinds := [.data, .data, .data, .data], laidTests := true, laidLooks := .later }
def TracingAddsCardSaid : Prop := Claim7.holds Tryz.pinned (.plain (OpenSpec.ofChange tracingAddsSpec)) tracingAddsCard

/-- THE TIED CARD OF 'specielaw20.BitrangeComplete'. -/
def bitrangeCompleteCard : Claim7 := { stood := { row := bitrangeCompleteRow, standIns := [], harness := (true, "064232373c9066aa9cb0986a0c9b0ed9cc2452bfac2be7896b0b12ac282a7596"), looks := false }, kinds := [], alts := [], laidByText := true, laidKinds := [.data, .data, .data, .data], laidTests := true, laidLooks := .later }
def BitrangeCompleteCardSaid : Prop := Claim7.holds Tryz.pinned (.plain (OpenSpec.ofChange bitrangeCompleteSpec)) bitrangeCompleteCard

/-- THE TIED CARD OF 'specielaw50.TrusteeAny'. -/
def trusteeAnyCard : Claim7 := { stood := { row := trusteeAnyRow, standIns := [], harness := (true, "064232373c9066aa9cb0986a0c9b0ed9cc2452bfac2be7896b0b12ac282a7596"), looks := false }, kinds := [], alts := [], laidByText := true, laidKinds := [.data, .data, .data, .data], laidTests := true, laidLooks := .later }
def TrusteeAnyCardSaid : Prop := Claim7.holds Tryz.pinned (.plain (OpenSpec.ofChange trusteeAnySpec)) trusteeAnyCard

/-- THE SECOND FORM's CARD OF 'specielaw50.TrusteeShares'. -/
def trusteeSharesUptoCard : Claim7 := { stood := { row := trusteeSharesUptoRow, standIns := [], harness := (true, "064232373c9066aa9cb0986a0c9b0ed9cc2452bfac2be7896b0b12ac282a7596"), looks := false }, kinds := [], alts := [], laidByText := true, laidKinds := [.data, .data], laidTests := true, laidLooks := .later }
def TrusteeSharesUptoCardSaid : Prop := Claim7.holds Tryz.pinned (.plain (OpenSpec.upto trusteeSharesSpec)) trusteeSharesUptoCard

/-- THE SECOND FORM's CARD OF 'specielaw50.TrusteeHides'. -/
def trusteeHidesUptoCard : Claim7 := { stood := { row := trusteeHidesUptoRow, standIns := [], harness := (true, "064232373c9066aa9cb0986a0c9b0ed9cc2452bfac2be7896b0b12ac282a7596"), looks := false }, kinds := [], alts := [], laidByText := true, laidKinds := [.data, .data, .data, .data], laidTests := true, laidLooks := .later }
def TrusteeHidesUptoCardSaid : Prop := Claim7.holds Tryz.pinned (.plain (OpenSpec.upto trusteeHidesSpec)) trusteeHidesUptoCard

/-- THE SECOND FORM's CARD OF 'specielaw50.TrusteeOpens'. -/
def trusteeOpensUptoCard : Claim7 := { stood := { row := trusteeOpensUptoRow, standIns := [], harness := (true, "064232373c9066aa9cb0986a0c9b0ed9cc2452bfac2be7896b0b12ac282a7596"), looks := false }, kinds := [], alts := [], laidByText := true, laidKinds := [.data, .data, .data, .data], laidTests := true, laidLooks := .later }
def TrusteeOpensUptoCardSaid : Prop := Claim7.holds Tryz.pinned (.plain (OpenSpec.upto trusteeOpensSpec)) trusteeOpensUptoCard

/-- THE SECOND FORM's CARD OF 'specielaw51.TracingAdds'. -/
def tracingAddsUptoCard : Claim7 := { stood := { row := tracingAddsUptoRow, standIns := [], harness := (true, "064232373c9066aa9cb0986a0c9b0ed9cc2452bfac2be7896b0b12ac282a7596"), looks := false }, kinds := [], alts := [], laidByText := true, laidKinds := [.data, .data, .data, .data], laidTests := true, laidLooks := .later }
def TracingAddsUptoCardSaid : Prop := Claim7.holds Tryz.pinned (.plain (OpenSpec.upto tracingAddsSpec)) tracingAddsUptoCard

/-- THE SECOND FORM's CARD OF 'specielaw20.BitrangeComplete'. -/
def bitrangeCompleteUptoCard : Claim7 := { stood := { row := bitrangeCompleteUptoRow, standIns := [], harness := (true, "064232373c9066aa9cb0986a0c9b0ed9cc2452bfac2be7896b0b12ac282a7596"), looks := false }, kinds := [], alts := [], laidByText := true, laidKinds := [.data, .data, .data, .data], laidTests := true, laidLooks := .later }
def BitrangeCompleteUptoCardSaid : Prop := Claim7.holds Tryz.pinned (.plain (OpenSpec.upto bitrangeCompleteSpec)) bitrangeCompleteUptoCard

/-- THE SECOND FORM's CARD OF 'specielaw50.TrusteeAny'. -/
def trusteeAnyUptoCard : Claim7 := { stood := { row := trusteeAnyUptoRow, standIns := [], harness := (true, "064232373c9066aa9cb0986a0c9b0ed9cc2452bfac2be7896b0b12ac282a7596"), looks := false }, kinds := [], alts := [], laidByText := true, laidKinds := [.data, .data, .data, .data], laidTests := true, laidLooks := .later }
def TrusteeAnyUptoCardSaid : Prop := Claim7.holds Tryz.pinned (.plain (OpenSpec.upto trusteeAnySpec)) trusteeAnyUptoCard
end Rows
end Go.Proofs.YtjnoaejikapmdaaGreatDoor
