/-
  DERIVED. GIVEN WITH THE SEED: THE CARDS: each row of YtijedphpcocfnaaDoorRows.lean that lists a variable, with what it lists TIED to the program's text (the seventh form; the later family's looks); each row that meets fmt, with fmt's text TOLD by the authors' own Lean function (tested against real Go, not proved from fmt's source: count such statements apart). THE CARD IS WHAT COUNTS. Prove the row's statement (the work); the ties are given (YtijedphpcocfnaaDoorTie.lean); close each card by the builder's one call (the guide's Derived/Test/ToyasCard.lean, 'card_holds'). Laid BY PROGRAM, IN A SANDBOX (cutbox-door.mjs). By AI agents, Wed Nov 11 2026. No macro, syntax, notation, axiom, sorry.
-/
import Derived.Test.YtijedphpcocfnaaDoorRows
import GoSem.ClaimSeven
namespace Go.Proofs.YtijedphpcocfnaaDoor
namespace Rows

/-- THE TIED CARD OF 'specielaw17.LinearHolds'. -/
def linearHoldsCard : Claim7 := { stood := { row := linearHoldsRow, standIns := [], harness := (true, "6fd490a955c909670da4297b7b5aff26f7f185a3095f5bea42f75339193c1377"), looks := false }, kinds := [], alts := [], laidByText := true, laidKinds := [.data, .data], laidTests := true, laidLooks := .later }
def LinearHoldsCardSaid : Prop := Claim7.holds Tryd.pinned (.plain (OpenSpec.ofChange linearHoldsSpec)) linearHoldsCard

/-- THE TIED CARD OF 'specielaw17.LinearResponds'. -/
def linearRespondsCard : Claim7 := { stood := { row := linearRespondsRow, standIns := [], harness := (true, "6fd490a955c909670da4297b7b5aff26f7f185a3095f5bea42f75339193c1377"), looks := false }, kinds := [], alts := [], laidByText := true, laidKinds := [.data, .data], laidTests := true, laidLooks := .later }
def LinearRespondsCardSaid : Prop := Claim7.holds Tryd.pinned (.plain (OpenSpec.ofChange linearRespondsSpec)) linearRespondsCard

/-- THE TIED CARD OF 'specielaw17.LinearZero'. -/
def linearZeroCard : Claim7 := { stood := { row := linearZeroRow, standIns := [], harness := (true, "6fd490a955c909670da4297b7b5aff26f7f185a3095f5bea42f75339193c1377"), looks := false }, kinds := [], alts := [], laidByText := true, laidKinds := [.data, .data], laidTests := true, laidLooks := .later }
def LinearZeroCardSaid : Prop := Claim7.holds Tryd.pinned (.plain (OpenSpec.ofChange linearZeroSpec)) linearZeroCard

/-- THE TIED CARD OF 'specielaw19.ChoiceChecks'. -/
def choiceChecksCard : Claim7 := { stood := { row := choiceChecksRow, standIns := [], harness := (true, "6fd490a955c909670da4297b7b5aff26f7f185a3095f5bea42f75339193c1377"), looks := false }, kinds := [], alts := [], laidByText := true, laidKinds := [.data, .data], laidTests := true, laidLooks := .later }
def ChoiceChecksCardSaid : Prop := Claim7.holds Tryd.pinned (.plain (OpenSpec.ofChange choiceChecksSpec)) choiceChecksCard

/-- THE TIED CARD OF 'specielaw19.ChoiceHides'. -/
def choiceHidesCard : Claim7 := { stood := { row := choiceHidesRow, standIns := [], harness := (true, "6fd490a955c909670da4297b7b5aff26f7f185a3095f5bea42f75339193c1377"), looks := false }, kinds := [], alts := [], laidByText := true, laidKinds := [.data, .data], laidTests := true, laidLooks := .later }
def ChoiceHidesCardSaid : Prop := Claim7.holds Tryd.pinned (.plain (OpenSpec.ofChange choiceHidesSpec)) choiceHidesCard

/-- THE TIED CARD OF 'specielaw19.ChoiceSimulates'. -/
def choiceSimulatesCard : Claim7 := { stood := { row := choiceSimulatesRow, standIns := [], harness := (true, "6fd490a955c909670da4297b7b5aff26f7f185a3095f5bea42f75339193c1377"), looks := false }, kinds := [], alts := [], laidByText := true, laidKinds := [.data, .data], laidTests := true, laidLooks := .later }
def ChoiceSimulatesCardSaid : Prop := Claim7.holds Tryd.pinned (.plain (OpenSpec.ofChange choiceSimulatesSpec)) choiceSimulatesCard

/-- THE TIED CARD OF 'specielaw19.ChoiceExtracts'. -/
def choiceExtractsCard : Claim7 := { stood := { row := choiceExtractsRow, standIns := [], harness := (true, "6fd490a955c909670da4297b7b5aff26f7f185a3095f5bea42f75339193c1377"), looks := false }, kinds := [], alts := [], laidByText := true, laidKinds := [.data, .data], laidTests := true, laidLooks := .later }
def ChoiceExtractsCardSaid : Prop := Claim7.holds Tryd.pinned (.plain (OpenSpec.ofChange choiceExtractsSpec)) choiceExtractsCard

/-- THE SECOND FORM's CARD OF 'specielaw17.LinearHolds'. -/
def linearHoldsUptoCard : Claim7 := { stood := { row := linearHoldsUptoRow, standIns := [], harness := (true, "6fd490a955c909670da4297b7b5aff26f7f185a3095f5bea42f75339193c1377"), looks := false }, kinds := [], alts := [], laidByText := true, laidKinds := [.data, .data], laidTests := true, laidLooks := .later }
def LinearHoldsUptoCardSaid : Prop := Claim7.holds Tryd.pinned (.plain (OpenSpec.upto linearHoldsSpec)) linearHoldsUptoCard

/-- THE SECOND FORM's CARD OF 'specielaw17.LinearResponds'. -/
def linearRespondsUptoCard : Claim7 := { stood := { row := linearRespondsUptoRow, standIns := [], harness := (true, "6fd490a955c909670da4297b7b5aff26f7f185a3095f5bea42f75339193c1377"), looks := false }, kinds := [], alts := [], laidByText := true, laidKinds := [.data, .data], laidTests := true, laidLooks := .later }
def LinearRespondsUptoCardSaid : Prop := Claim7.holds Tryd.pinned (.plain (OpenSpec.upto linearRespondsSpec)) linearRespondsUptoCard

/-- THE SECOND FORM's CARD OF 'specielaw17.LinearZero'. -/
def linearZeroUptoCard : Claim7 := { stood := { row := linearZeroUptoRow, standIns := [], harness := (true, "6fd490a955c909670da4297b7b5aff26f7f185a3095f5bea42f75339193c1377"), looks := false }, kinds := [], alts := [], laidByText := true, laidKinds := [.data, .data], laidTests := true, laidLooks := .later }
def LinearZeroUptoCardSaid : Prop := Claim7.holds Tryd.pinned (.plain (OpenSpec.upto linearZeroSpec)) linearZeroUptoCard

/-- THE SECOND FORM's CARD OF 'specielaw19.ChoiceChecks'. -/
def choiceChecksUptoCard : Claim7 := { stood := { row := choiceChecksUptoRow, standIns := [], harness := (true, "6fd490a955c909670da4297b7b5aff26f7f185a3095f5bea42f75339193c1377"), looks := false }, kinds := [], alts := [], laidByText := true, laidKinds := [.data, .data], laidTests := true, laidLooks := .later }
def ChoiceChecksUptoCardSaid : Prop := Claim7.holds Tryd.pinned (.plain (OpenSpec.upto choiceChecksSpec)) choiceChecksUptoCard

/-- THE SECOND FORM's CARD OF 'specielaw19.ChoiceHides'. -/
def choiceHidesUptoCard : Claim7 := { stood := { row := choiceHidesUptoRow, standIns := [], harness := (true, "6fd490a955c909670da4297b7b5aff26f7f185a3095f5bea42f75339193c1377"), looks := false }, kinds := [], alts := [], laidByText := true, laidKinds := [.data, .data], laidTests := true, laidLooks := .later }
def ChoiceHidesUptoCardSaid : Prop := Claim7.holds Tryd.pinned (.plain (OpenSpec.upto choiceHidesSpec)) choiceHidesUptoCard

/-- THE SECOND FORM's CARD OF 'specielaw19.ChoiceSimulates'. -/
def choiceSimulatesUptoCard : Claim7 := { stood := { row := choiceSimulatesUptoRow, standIns := [], harness := (true, "6fd490a955c909670da4297b7b5aff26f7f185a3095f5bea42f75339193c1377"), looks := false }, kinds := [], alts := [], laidByText := true, laidKinds := [.data, .data], laidTests := true, laidLooks := .later }
def ChoiceSimulatesUptoCardSaid : Prop := Claim7.holds Tryd.pinned (.plain (OpenSpec.upto choiceSimulatesSpec)) choiceSimulatesUptoCard

/-- THE SECOND FORM's CARD OF 'specielaw19.ChoiceExtracts'. -/
def choiceExtractsUptoCard : Claim7 := { stood := { row := choiceExtractsUptoRow, standIns := [], harness := (true, "6fd490a955c909670da4297b7b5aff26f7f185a3095f5bea42f75339193c1377"), looks := false }, kinds := [], alts := [], laidByText := true, laidKinds := [.data, .data], laidTests := true, laidLooks := .later }
def ChoiceExtractsUptoCardSaid : Prop := Claim7.holds Tryd.pinned (.plain (OpenSpec.upto choiceExtractsSpec)) choiceExtractsUptoCard
end Rows
end Go.Proofs.YtijedphpcocfnaaDoor
