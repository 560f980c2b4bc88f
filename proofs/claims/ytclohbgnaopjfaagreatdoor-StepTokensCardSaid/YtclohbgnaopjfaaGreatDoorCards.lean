/-
  DERIVED. GIVEN WITH THE SEED: THE CARDS: each row of YtclohbgnaopjfaaGreatDoorRows.lean that lists a variable, with what it lists TIED to the program's text (the seventh form; the later family's looks); each row that meets fmt, with fmt's text TOLD by the authors' own Lean function (tested against real Go, not proved from fmt's source: count such statements apart). THE CARD IS WHAT COUNTS. Prove the row's statement (the work); the ties are given (YtclohbgnaopjfaaGreatDoorTie.lean); close each card by the builder's one call (the guide's Derived/Test/ToyasCard.lean, 'card_holds'). Laid BY PROGRAM, IN A SANDBOX (cutbox-door.mjs). By AI agents, Wed Nov 11 2026. No macro, syntax, notation, axiom, sorry.
-/
import Derived.Test.YtclohbgnaopjfaaGreatDoorRows
import GoSem.ClaimSeven
namespace Go.Proofs.YtclohbgnaopjfaaGreatDoor
namespace Rows

/-- THE TIED CARD OF 'diptychlaw11.StepTokens'. -/
def stepTokensCard : Claim7 := { stood := { row := stepTokensRow, standIns := [], harness := (true, "359858b3a92a8e312b589adfd198882ed3d9fd7c9615f449b3451ac380e24748"), looks := false }, kinds := [], alts := [], laidByText := true, laidKinds := [.data, .pinned], laidTests := true, laidLooks := .later }
def StepTokensCardSaid : Prop := Claim7.holds Tryz.pinned (.plain (OpenSpec.ofChange stepTokensSpec)) stepTokensCard

/-- THE TIED CARD OF 'diptychlaw11.StepDoes'. -/
def stepDoesCard : Claim7 := { stood := { row := stepDoesRow, standIns := [], harness := (true, "359858b3a92a8e312b589adfd198882ed3d9fd7c9615f449b3451ac380e24748"), looks := false }, kinds := [], alts := [], laidByText := true, laidKinds := [.data, .pinned], laidTests := true, laidLooks := .later }
def StepDoesCardSaid : Prop := Claim7.holds Tryz.pinned (.plain (OpenSpec.ofChange stepDoesSpec)) stepDoesCard

/-- THE TIED CARD OF 'diptychlaw12.WirePrints'. -/
def wirePrintsCard : Claim7 := { stood := { row := wirePrintsRow, standIns := [], harness := (true, "359858b3a92a8e312b589adfd198882ed3d9fd7c9615f449b3451ac380e24748"), looks := false }, kinds := [], alts := [], laidByText := true, laidKinds := [.data, .data, .data, .data, .pinned], laidTests := true, laidLooks := .later }
def WirePrintsCardSaid : Prop := Claim7.holds Tryz.pinned (.plain (OpenSpec.ofChange wirePrintsSpec)) wirePrintsCard

/-- THE SECOND FORM's CARD OF 'diptychlaw11.StepTokens'. -/
def stepTokensUptoCard : Claim7 := { stood := { row := stepTokensUptoRow, standIns := [], harness := (true, "359858b3a92a8e312b589adfd198882ed3d9fd7c9615f449b3451ac380e24748"), looks := false }, kinds := [], alts := [], laidByText := true, laidKinds := [.data, .pinned], laidTests := true, laidLooks := .later }
def StepTokensUptoCardSaid : Prop := Claim7.holds Tryz.pinned (.plain (OpenSpec.upto stepTokensSpec)) stepTokensUptoCard

/-- THE SECOND FORM's CARD OF 'diptychlaw11.StepDoes'. -/
def stepDoesUptoCard : Claim7 := { stood := { row := stepDoesUptoRow, standIns := [], harness := (true, "359858b3a92a8e312b589adfd198882ed3d9fd7c9615f449b3451ac380e24748"), looks := false }, kinds := [], alts := [], laidByText := true, laidKinds := [.data, .pinned], laidTests := true, laidLooks := .later }
def StepDoesUptoCardSaid : Prop := Claim7.holds Tryz.pinned (.plain (OpenSpec.upto stepDoesSpec)) stepDoesUptoCard

/-- THE SECOND FORM's CARD OF 'diptychlaw12.WirePrints'. -/
def wirePrintsUptoCard : Claim7 := { stood := { row := wirePrintsUptoRow, standIns := [], harness := (true, "359858b3a92a8e312b589adfd198882ed3d9fd7c9615f449b3451ac380e24748"), looks := false }, kinds := [], alts := [], laidByText := true, laidKinds := [.data, .data, .data, .data, .pinned], laidTests := true, laidLooks := .later }
def WirePrintsUptoCardSaid : Prop := Claim7.holds Tryz.pinned (.plain (OpenSpec.upto wirePrintsSpec)) wirePrintsUptoCard
end Rows
end Go.Proofs.YtclohbgnaopjfaaGreatDoor
