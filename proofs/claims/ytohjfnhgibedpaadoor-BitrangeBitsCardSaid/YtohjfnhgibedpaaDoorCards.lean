/-
  DERIVED. GIVEN WITH THE SEED: THE CARDS: each row of YtohjfnhgibedpaaDoorRows.lean that lists a variable, with what it lists TIED to the program's text (the seventh form; the later family's looks); each row that meets fmt, with fmt's text TOLD by the authors' own Lean function (tested against real Go, not proved from fmt's source: count such statements apart). THE CARD IS WHAT COUNTS. Prove the row's statement (the work); the ties are given (YtohjfnhgibedpaaDoorTie.lean); close each card by the builder's one call (the guide's Derived/Test/ToyasCard.lean, 'card_holds'). Laid BY PROGRAM, IN A SANDBOX (cutbox-door.mjs). By AI agents, Wed Nov 11 2026. No macro, syntax, notation, axiom, sorry.
-/
import Derived.Test.YtohjfnhgibedpaaDoorRows
import GoSem.ClaimSeven
namespace Go.Proofs.YtohjfnhgibedpaaDoor
namespace Rows

/-- THE TIED CARD OF 'specielaw20.BitrangeBits'. -/
def bitrangeBitsCard : Claim7 := { stood := { row := bitrangeBitsRow, standIns := [], harness := (true, "6c3d138dca46bfc7af2682ddd32aa518519542df853a191dd1c5436c8100c816"), looks := false }, kinds := [], alts := [], laidByText := true, laidKinds := [.data, .data], laidTests := true, laidLooks := .later }
def BitrangeBitsCardSaid : Prop := Claim7.holds Tryd.pinned (.plain (OpenSpec.ofChange bitrangeBitsSpec)) bitrangeBitsCard

/-- THE TIED CARD OF 'specielaw17.LinearHolds'. -/
def linearHoldsCard : Claim7 := { stood := { row := linearHoldsRow, standIns := [], harness := (true, "6c3d138dca46bfc7af2682ddd32aa518519542df853a191dd1c5436c8100c816"), looks := false }, kinds := [], alts := [], laidByText := true, laidKinds := [.data, .data], laidTests := true, laidLooks := .later }
def LinearHoldsCardSaid : Prop := Claim7.holds Tryd.pinned (.plain (OpenSpec.ofChange linearHoldsSpec)) linearHoldsCard

/-- THE TIED CARD OF 'specielaw17.LinearResponds'. -/
def linearRespondsCard : Claim7 := { stood := { row := linearRespondsRow, standIns := [], harness := (true, "6c3d138dca46bfc7af2682ddd32aa518519542df853a191dd1c5436c8100c816"), looks := false }, kinds := [], alts := [], laidByText := true, laidKinds := [.data, .data], laidTests := true, laidLooks := .later }
def LinearRespondsCardSaid : Prop := Claim7.holds Tryd.pinned (.plain (OpenSpec.ofChange linearRespondsSpec)) linearRespondsCard

/-- THE TIED CARD OF 'specielaw17.LinearZero'. -/
def linearZeroCard : Claim7 := { stood := { row := linearZeroRow, standIns := [], harness := (true, "6c3d138dca46bfc7af2682ddd32aa518519542df853a191dd1c5436c8100c816"), looks := false }, kinds := [], alts := [], laidByText := true, laidKinds := [.data, .data], laidTests := true, laidLooks := .later }
def LinearZeroCardSaid : Prop := Claim7.holds Tryd.pinned (.plain (OpenSpec.ofChange linearZeroSpec)) linearZeroCard

/-- THE TIED CARD OF 'specielaw16.KnowledgeExtracts'. -/
def knowledgeExtractsCard : Claim7 := { stood := { row := knowledgeExtractsRow, standIns := [], harness := (true, "6c3d138dca46bfc7af2682ddd32aa518519542df853a191dd1c5436c8100c816"), looks := false }, kinds := [], alts := [], laidByText := true, laidKinds := [.data, .data], laidTests := true, laidLooks := .later }
def KnowledgeExtractsCardSaid : Prop := Claim7.holds Tryd.pinned (.plain (OpenSpec.ofChange knowledgeExtractsSpec)) knowledgeExtractsCard

/-- THE SECOND FORM's CARD OF 'specielaw20.BitrangeBits'. -/
def bitrangeBitsUptoCard : Claim7 := { stood := { row := bitrangeBitsUptoRow, standIns := [], harness := (true, "6c3d138dca46bfc7af2682ddd32aa518519542df853a191dd1c5436c8100c816"), looks := false }, kinds := [], alts := [], laidByText := true, laidKinds := [.data, .data], laidTests := true, laidLooks := .later }
def BitrangeBitsUptoCardSaid : Prop := Claim7.holds Tryd.pinned (.plain (OpenSpec.upto bitrangeBitsSpec)) bitrangeBitsUptoCard

/-- THE SECOND FORM's CARD OF 'specielaw17.LinearHolds'. -/
def linearHoldsUptoCard : Claim7 := { stood := { row := linearHoldsUptoRow, standIns := [], harness := (true, "6c3d138dca46bfc7af2682ddd32aa518519542df853a191dd1c5436c8100c816"), looks := false }, kinds := [], alts := [], laidByText := true, laidKinds := [.data, .data], laidTests := true, laidLooks := .later }
def LinearHoldsUptoCardSaid : Prop := Claim7.holds Tryd.pinned (.plain (OpenSpec.upto linearHoldsSpec)) linearHoldsUptoCard

/-- THE SECOND FORM's CARD OF 'specielaw17.LinearResponds'. -/
def linearRespondsUptoCard : Claim7 := { stood := { row := linearRespondsUptoRow, standIns := [], harness := (true, "6c3d138dca46bfc7af2682ddd32aa518519542df853a191dd1c5436c8100c816"), looks := false }, kinds := [], alts := [], laidByText := true, laidKinds := [.data, .data], laidTests := true, laidLooks := .later }
def LinearRespondsUptoCardSaid : Prop := Claim7.holds Tryd.pinned (.plain (OpenSpec.upto linearRespondsSpec)) linearRespondsUptoCard

/-- THE SECOND FORM's CARD OF 'specielaw17.LinearZero'. -/
def linearZeroUptoCard : Claim7 := { stood := { row := linearZeroUptoRow, standIns := [], harness := (true, "6c3d138dca46bfc7af2682ddd32aa518519542df853a191dd1c5436c8100c816"), looks := false }, kinds := [], alts := [], laidByText := true, laidKinds := [.data, .data], laidTests := true, laidLooks := .later }
def LinearZeroUptoCardSaid : Prop := Claim7.holds Tryd.pinned (.plain (OpenSpec.upto linearZeroSpec)) linearZeroUptoCard

/-- THE SECOND FORM's CARD OF 'specielaw16.KnowledgeExtracts'. -/
def knowledgeExtractsUptoCard : Claim7 := { stood := { row := knowledgeExtractsUptoRow, standIns := [], harness := (true, "6c3d138dca46bfc7af2682ddd32aa518519542df853a191dd1c5436c8100c816"), looks := false }, kinds := [], alts := [], laidByText := true, laidKinds := [.data, .data], laidTests := true, laidLooks := .later }
def KnowledgeExtractsUptoCardSaid : Prop := Claim7.holds Tryd.pinned (.plain (OpenSpec.upto knowledgeExtractsSpec)) knowledgeExtractsUptoCard
end Rows
end Go.Proofs.YtohjfnhgibedpaaDoor
