/-
  DERIVED. GIVEN WITH THE SEED: THE CARDS: each row of YtclohbgnaopjfaaDoorRows.lean that lists a variable, with what it lists TIED to the program's text (the seventh form; the later family's looks); each row that meets fmt, with fmt's text TOLD by the authors' own Lean function (tested against real Go, not proved from fmt's source: count such statements apart). THE CARD IS WHAT COUNTS. Prove the row's statement (the work); the ties are given (YtclohbgnaopjfaaDoorTie.lean); close each card by the builder's one call (the guide's Derived/Test/ToyasCard.lean, 'card_holds'). Laid BY PROGRAM, IN A SANDBOX (cutbox-door.mjs). By AI agents, Wed Nov 11 2026. No macro, syntax, notation, axiom, sorry.
-/
import Derived.Test.YtclohbgnaopjfaaDoorRows
import GoSem.ClaimSeven
namespace Go.Proofs.YtclohbgnaopjfaaDoor
namespace Rows

/-- THE TIED CARD OF 'diptychlaw18.DiffChain'. -/
def diffChainCard : Claim7 := { stood := { row := diffChainRow, standIns := [], harness := (true, "4af2f7be273b7731715cebdeff0cd435b284da0315ae0c1bc7f8d0a004a17138"), looks := false }, kinds := [], alts := [], laidByText := true, laidKinds := [.data, .pinned], laidTests := true, laidLooks := .later }
def DiffChainCardSaid : Prop := Claim7.holds Tryd.pinned (.plain (OpenSpec.ofChange diffChainSpec)) diffChainCard

/-- THE TIED CARD OF 'diptychlaw12.WireApart'. -/
def wireApartCard : Claim7 := { stood := { row := wireApartRow, standIns := [], harness := (true, "4af2f7be273b7731715cebdeff0cd435b284da0315ae0c1bc7f8d0a004a17138"), looks := false }, kinds := [], alts := [], laidByText := true, laidKinds := [.data, .data, .data, .data, .pinned], laidTests := true, laidLooks := .later }
def WireApartCardSaid : Prop := Claim7.holds Tryd.pinned (.plain (OpenSpec.ofChange wireApartSpec)) wireApartCard

/-- THE TIED CARD OF 'diptychlaw11.StepMarks'. -/
def stepMarksCard : Claim7 := { stood := { row := stepMarksRow, standIns := [], harness := (true, "4af2f7be273b7731715cebdeff0cd435b284da0315ae0c1bc7f8d0a004a17138"), looks := false }, kinds := [], alts := [], laidByText := true, laidKinds := [.data, .pinned], laidTests := true, laidLooks := .later }
def StepMarksCardSaid : Prop := Claim7.holds Tryd.pinned (.plain (OpenSpec.ofChange stepMarksSpec)) stepMarksCard

/-- THE TIED CARD OF 'diptychlaw18.DiffLeast'. -/
def diffLeastCard : Claim7 := { stood := { row := diffLeastRow, standIns := [], harness := (true, "4af2f7be273b7731715cebdeff0cd435b284da0315ae0c1bc7f8d0a004a17138"), looks := false }, kinds := [], alts := [], laidByText := true, laidKinds := [.data, .pinned], laidTests := true, laidLooks := .later }
def DiffLeastCardSaid : Prop := Claim7.holds Tryd.pinned (.plain (OpenSpec.ofChange diffLeastSpec)) diffLeastCard

/-- THE TIED CARD OF 'diptychlaw18.DiffMakes'. -/
def diffMakesCard : Claim7 := { stood := { row := diffMakesRow, standIns := [], harness := (true, "4af2f7be273b7731715cebdeff0cd435b284da0315ae0c1bc7f8d0a004a17138"), looks := false }, kinds := [], alts := [], laidByText := true, laidKinds := [.data, .pinned], laidTests := true, laidLooks := .later }
def DiffMakesCardSaid : Prop := Claim7.holds Tryd.pinned (.plain (OpenSpec.ofChange diffMakesSpec)) diffMakesCard

/-- THE TIED CARD OF 'diptychlaw11.StepThrough'. -/
def stepThroughCard : Claim7 := { stood := { row := stepThroughRow, standIns := [], harness := (true, "4af2f7be273b7731715cebdeff0cd435b284da0315ae0c1bc7f8d0a004a17138"), looks := false }, kinds := [], alts := [], laidByText := true, laidKinds := [.data, .pinned], laidTests := true, laidLooks := .later }
def StepThroughCardSaid : Prop := Claim7.holds Tryd.pinned (.plain (OpenSpec.ofChange stepThroughSpec)) stepThroughCard

/-- THE TIED CARD OF 'diptychlaw11.StepAttrs'. -/
def stepAttrsCard : Claim7 := { stood := { row := stepAttrsRow, standIns := [], harness := (true, "4af2f7be273b7731715cebdeff0cd435b284da0315ae0c1bc7f8d0a004a17138"), looks := false }, kinds := [], alts := [], laidByText := true, laidKinds := [.data, .pinned], laidTests := true, laidLooks := .later }
def StepAttrsCardSaid : Prop := Claim7.holds Tryd.pinned (.plain (OpenSpec.ofChange stepAttrsSpec)) stepAttrsCard

/-- THE TIED CARD OF 'diptychlaw11.StepBack'. -/
def stepBackCard : Claim7 := { stood := { row := stepBackRow, standIns := [], harness := (true, "4af2f7be273b7731715cebdeff0cd435b284da0315ae0c1bc7f8d0a004a17138"), looks := false }, kinds := [], alts := [], laidByText := true, laidKinds := [.data, .pinned], laidTests := true, laidLooks := .later }
def StepBackCardSaid : Prop := Claim7.holds Tryd.pinned (.plain (OpenSpec.ofChange stepBackSpec)) stepBackCard

/-- THE SECOND FORM's CARD OF 'diptychlaw18.DiffChain'. -/
def diffChainUptoCard : Claim7 := { stood := { row := diffChainUptoRow, standIns := [], harness := (true, "4af2f7be273b7731715cebdeff0cd435b284da0315ae0c1bc7f8d0a004a17138"), looks := false }, kinds := [], alts := [], laidByText := true, laidKinds := [.data, .pinned], laidTests := true, laidLooks := .later }
def DiffChainUptoCardSaid : Prop := Claim7.holds Tryd.pinned (.plain (OpenSpec.upto diffChainSpec)) diffChainUptoCard

/-- THE SECOND FORM's CARD OF 'diptychlaw12.WireApart'. -/
def wireApartUptoCard : Claim7 := { stood := { row := wireApartUptoRow, standIns := [], harness := (true, "4af2f7be273b7731715cebdeff0cd435b284da0315ae0c1bc7f8d0a004a17138"), looks := false }, kinds := [], alts := [], laidByText := true, laidKinds := [.data, .data, .data, .data, .pinned], laidTests := true, laidLooks := .later }
def WireApartUptoCardSaid : Prop := Claim7.holds Tryd.pinned (.plain (OpenSpec.upto wireApartSpec)) wireApartUptoCard

/-- THE SECOND FORM's CARD OF 'diptychlaw11.StepMarks'. -/
def stepMarksUptoCard : Claim7 := { stood := { row := stepMarksUptoRow, standIns := [], harness := (true, "4af2f7be273b7731715cebdeff0cd435b284da0315ae0c1bc7f8d0a004a17138"), looks := false }, kinds := [], alts := [], laidByText := true, laidKinds := [.data, .pinned], laidTests := true, laidLooks := .later }
def StepMarksUptoCardSaid : Prop := Claim7.holds Tryd.pinned (.plain (OpenSpec.upto stepMarksSpec)) stepMarksUptoCard

/-- THE SECOND FORM's CARD OF 'diptychlaw18.DiffLeast'. -/
def diffLeastUptoCard : Claim7 := { stood := { row := diffLeastUptoRow, standIns := [], harness := (true, "4af2f7be273b7731715cebdeff0cd435b284da0315ae0c1bc7f8d0a004a17138"), looks := false }, kinds := [], alts := [], laidByText := true, laidKinds := [.data, .pinned], laidTests := true, laidLooks := .later }
def DiffLeastUptoCardSaid : Prop := Claim7.holds Tryd.pinned (.plain (OpenSpec.upto diffLeastSpec)) diffLeastUptoCard

/-- THE SECOND FORM's CARD OF 'diptychlaw18.DiffMakes'. -/
def diffMakesUptoCard : Claim7 := { stood := { row := diffMakesUptoRow, standIns := [], harness := (true, "4af2f7be273b7731715cebdeff0cd435b284da0315ae0c1bc7f8d0a004a17138"), looks := false }, kinds := [], alts := [], laidByText := true, laidKinds := [.data, .pinned], laidTests := true, laidLooks := .later }
def DiffMakesUptoCardSaid : Prop := Claim7.holds Tryd.pinned (.plain (OpenSpec.upto diffMakesSpec)) diffMakesUptoCard

/-- THE SECOND FORM's CARD OF 'diptychlaw11.StepThrough'. -/
def stepThroughUptoCard : Claim7 := { stood := { row := stepThroughUptoRow, standIns := [], harness := (true, "4af2f7be273b7731715cebdeff0cd435b284da0315ae0c1bc7f8d0a004a17138"), looks := false }, kinds := [], alts := [], laidByText := true, laidKinds := [.data, .pinned], laidTests := true, laidLooks := .later }
def StepThroughUptoCardSaid : Prop := Claim7.holds Tryd.pinned (.plain (OpenSpec.upto stepThroughSpec)) stepThroughUptoCard

/-- THE SECOND FORM's CARD OF 'diptychlaw11.StepAttrs'. -/
def stepAttrsUptoCard : Claim7 := { stood := { row := stepAttrsUptoRow, standIns := [], harness := (true, "4af2f7be273b7731715cebdeff0cd435b284da0315ae0c1bc7f8d0a004a17138"), looks := false }, kinds := [], alts := [], laidByText := true, laidKinds := [.data, .pinned], laidTests := true, laidLooks := .later }
def StepAttrsUptoCardSaid : Prop := Claim7.holds Tryd.pinned (.plain (OpenSpec.upto stepAttrsSpec)) stepAttrsUptoCard

/-- THE SECOND FORM's CARD OF 'diptychlaw11.StepBack'. -/
def stepBackUptoCard : Claim7 := { stood := { row := stepBackUptoRow, standIns := [], harness := (true, "4af2f7be273b7731715cebdeff0cd435b284da0315ae0c1bc7f8d0a004a17138"), looks := false }, kinds := [], alts := [], laidByText := true, laidKinds := [.data, .pinned], laidTests := true, laidLooks := .later }
def StepBackUptoCardSaid : Prop := Claim7.holds Tryd.pinned (.plain (OpenSpec.upto stepBackSpec)) stepBackUptoCard
end Rows
end Go.Proofs.YtclohbgnaopjfaaDoor
