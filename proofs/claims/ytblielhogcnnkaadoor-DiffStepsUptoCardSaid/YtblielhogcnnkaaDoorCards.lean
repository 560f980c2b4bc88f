/-
  DERIVED. GIVEN WITH THE SEED: THE CARDS: each row of YtblielhogcnnkaaDoorRows.lean that lists a variable, with what it lists TIED to the program's text (the seventh form; the later family's looks); each row that meets fmt, with fmt's text TOLD by the authors' own Lean function (tested against real Go, not proved from fmt's source: count such statements apart). THE CARD IS WHAT COUNTS. Prove the row's statement (the work); the ties are given (YtblielhogcnnkaaDoorTie.lean); close each card by the builder's one call (the guide's Derived/Test/ToyasCard.lean, 'card_holds'). Laid BY PROGRAM, IN A SANDBOX (cutbox-door.mjs). By AI agents, Wed Nov 11 2026. No macro, syntax, notation, axiom, sorry.
-/
import Derived.Test.YtblielhogcnnkaaDoorRows
import GoSem.ClaimSeven
namespace Go.Proofs.YtblielhogcnnkaaDoor
namespace Rows

/-- THE TIED CARD OF 'diptychlaw1.NodeOwn'. -/
def nodeOwnCard : Claim7 := { stood := { row := nodeOwnRow, standIns := [], harness := (true, "ae54759e2eea76f5ceeef2c65bb2838921042dc9baa75c54d5c2b54394cb1f3e"), looks := false }, kinds := [], alts := [], laidByText := true, laidKinds := [.data, .pinned], laidTests := true, laidLooks := .later }
def NodeOwnCardSaid : Prop := Claim7.holds Tryd.pinned (.plain (OpenSpec.ofChange nodeOwnSpec)) nodeOwnCard

/-- THE TIED CARD OF 'diptychlaw18.DiffSteps'. -/
def diffStepsCard : Claim7 := { stood := { row := diffStepsRow, standIns := [], harness := (true, "ae54759e2eea76f5ceeef2c65bb2838921042dc9baa75c54d5c2b54394cb1f3e"), looks := false }, kinds := [], alts := [], laidByText := true, laidKinds := [.data, .pinned], laidTests := true, laidLooks := .later }
def DiffStepsCardSaid : Prop := Claim7.holds Tryd.pinned (.plain (OpenSpec.ofChange diffStepsSpec)) diffStepsCard

/-- THE TIED CARD OF 'diptychlaw18.DiffSizes'. -/
def diffSizesCard : Claim7 := { stood := { row := diffSizesRow, standIns := [], harness := (true, "ae54759e2eea76f5ceeef2c65bb2838921042dc9baa75c54d5c2b54394cb1f3e"), looks := false }, kinds := [], alts := [], laidByText := true, laidKinds := [.data, .pinned], laidTests := true, laidLooks := .later }
def DiffSizesCardSaid : Prop := Claim7.holds Tryd.pinned (.plain (OpenSpec.ofChange diffSizesSpec)) diffSizesCard

/-- THE TIED CARD OF 'diptychlaw5.PieceSplit'. -/
def pieceSplitCard : Claim7 := { stood := { row := pieceSplitRow, standIns := [], harness := (true, "ae54759e2eea76f5ceeef2c65bb2838921042dc9baa75c54d5c2b54394cb1f3e"), looks := false }, kinds := [], alts := [], laidByText := true, laidKinds := [.data, .pinned], laidTests := true, laidLooks := .later }
def PieceSplitCardSaid : Prop := Claim7.holds Tryd.pinned (.plain (OpenSpec.ofChange pieceSplitSpec)) pieceSplitCard

/-- THE TIED CARD OF 'diptychlaw5.PieceSplits'. -/
def pieceSplitsCard : Claim7 := { stood := { row := pieceSplitsRow, standIns := [], harness := (true, "ae54759e2eea76f5ceeef2c65bb2838921042dc9baa75c54d5c2b54394cb1f3e"), looks := false }, kinds := [], alts := [], laidByText := true, laidKinds := [.data, .pinned], laidTests := true, laidLooks := .later }
def PieceSplitsCardSaid : Prop := Claim7.holds Tryd.pinned (.plain (OpenSpec.ofChange pieceSplitsSpec)) pieceSplitsCard

/-- THE TIED CARD OF 'diptychlaw5.PieceApart'. -/
def pieceApartCard : Claim7 := { stood := { row := pieceApartRow, standIns := [], harness := (true, "ae54759e2eea76f5ceeef2c65bb2838921042dc9baa75c54d5c2b54394cb1f3e"), looks := false }, kinds := [], alts := [], laidByText := true, laidKinds := [.data, .pinned], laidTests := true, laidLooks := .later }
def PieceApartCardSaid : Prop := Claim7.holds Tryd.pinned (.plain (OpenSpec.ofChange pieceApartSpec)) pieceApartCard

/-- THE TIED CARD OF 'diptychlaw5.PieceTwice'. -/
def pieceTwiceCard : Claim7 := { stood := { row := pieceTwiceRow, standIns := [], harness := (true, "ae54759e2eea76f5ceeef2c65bb2838921042dc9baa75c54d5c2b54394cb1f3e"), looks := false }, kinds := [], alts := [], laidByText := true, laidKinds := [.data, .pinned], laidTests := true, laidLooks := .later }
def PieceTwiceCardSaid : Prop := Claim7.holds Tryd.pinned (.plain (OpenSpec.ofChange pieceTwiceSpec)) pieceTwiceCard

/-- THE TIED CARD OF 'diptychlaw5.PieceBack'. -/
def pieceBackCard : Claim7 := { stood := { row := pieceBackRow, standIns := [], harness := (true, "ae54759e2eea76f5ceeef2c65bb2838921042dc9baa75c54d5c2b54394cb1f3e"), looks := false }, kinds := [], alts := [], laidByText := true, laidKinds := [.data, .pinned], laidTests := true, laidLooks := .later }
def PieceBackCardSaid : Prop := Claim7.holds Tryd.pinned (.plain (OpenSpec.ofChange pieceBackSpec)) pieceBackCard

/-- THE TIED CARD OF 'diptychlaw5.PieceIn'. -/
def pieceInCard : Claim7 := { stood := { row := pieceInRow, standIns := [], harness := (true, "ae54759e2eea76f5ceeef2c65bb2838921042dc9baa75c54d5c2b54394cb1f3e"), looks := false }, kinds := [], alts := [], laidByText := true, laidKinds := [.data, .pinned], laidTests := true, laidLooks := .later }
def PieceInCardSaid : Prop := Claim7.holds Tryd.pinned (.plain (OpenSpec.ofChange pieceInSpec)) pieceInCard

/-- THE TIED CARD OF 'diptychlaw5.PieceTokens'. -/
def pieceTokensCard : Claim7 := { stood := { row := pieceTokensRow, standIns := [], harness := (true, "ae54759e2eea76f5ceeef2c65bb2838921042dc9baa75c54d5c2b54394cb1f3e"), looks := false }, kinds := [], alts := [], laidByText := true, laidKinds := [.data, .pinned], laidTests := true, laidLooks := .later }
def PieceTokensCardSaid : Prop := Claim7.holds Tryd.pinned (.plain (OpenSpec.ofChange pieceTokensSpec)) pieceTokensCard

/-- THE TIED CARD OF 'diptychlaw12.WireApart'. -/
def wireApartCard : Claim7 := { stood := { row := wireApartRow, standIns := [], harness := (true, "ae54759e2eea76f5ceeef2c65bb2838921042dc9baa75c54d5c2b54394cb1f3e"), looks := false }, kinds := [], alts := [], laidByText := true, laidKinds := [.data, .data, .data, .data, .pinned], laidTests := true, laidLooks := .later }
def WireApartCardSaid : Prop := Claim7.holds Tryd.pinned (.plain (OpenSpec.ofChange wireApartSpec)) wireApartCard

/-- THE SECOND FORM's CARD OF 'diptychlaw1.NodeOwn'. -/
def nodeOwnUptoCard : Claim7 := { stood := { row := nodeOwnUptoRow, standIns := [], harness := (true, "ae54759e2eea76f5ceeef2c65bb2838921042dc9baa75c54d5c2b54394cb1f3e"), looks := false }, kinds := [], alts := [], laidByText := true, laidKinds := [.data, .pinned], laidTests := true, laidLooks := .later }
def NodeOwnUptoCardSaid : Prop := Claim7.holds Tryd.pinned (.plain (OpenSpec.upto nodeOwnSpec)) nodeOwnUptoCard

/-- THE SECOND FORM's CARD OF 'diptychlaw18.DiffSteps'. -/
def diffStepsUptoCard : Claim7 := { stood := { row := diffStepsUptoRow, standIns := [], harness := (true, "ae54759e2eea76f5ceeef2c65bb2838921042dc9baa75c54d5c2b54394cb1f3e"), looks := false }, kinds := [], alts := [], laidByText := true, laidKinds := [.data, .pinned], laidTests := true, laidLooks := .later }
def DiffStepsUptoCardSaid : Prop := Claim7.holds Tryd.pinned (.plain (OpenSpec.upto diffStepsSpec)) diffStepsUptoCard

/-- THE SECOND FORM's CARD OF 'diptychlaw18.DiffSizes'. -/
def diffSizesUptoCard : Claim7 := { stood := { row := diffSizesUptoRow, standIns := [], harness := (true, "ae54759e2eea76f5ceeef2c65bb2838921042dc9baa75c54d5c2b54394cb1f3e"), looks := false }, kinds := [], alts := [], laidByText := true, laidKinds := [.data, .pinned], laidTests := true, laidLooks := .later }
def DiffSizesUptoCardSaid : Prop := Claim7.holds Tryd.pinned (.plain (OpenSpec.upto diffSizesSpec)) diffSizesUptoCard

/-- THE SECOND FORM's CARD OF 'diptychlaw5.PieceSplit'. -/
def pieceSplitUptoCard : Claim7 := { stood := { row := pieceSplitUptoRow, standIns := [], harness := (true, "ae54759e2eea76f5ceeef2c65bb2838921042dc9baa75c54d5c2b54394cb1f3e"), looks := false }, kinds := [], alts := [], laidByText := true, laidKinds := [.data, .pinned], laidTests := true, laidLooks := .later }
def PieceSplitUptoCardSaid : Prop := Claim7.holds Tryd.pinned (.plain (OpenSpec.upto pieceSplitSpec)) pieceSplitUptoCard

/-- THE SECOND FORM's CARD OF 'diptychlaw5.PieceSplits'. -/
def pieceSplitsUptoCard : Claim7 := { stood := { row := pieceSplitsUptoRow, standIns := [], harness := (true, "ae54759e2eea76f5ceeef2c65bb2838921042dc9baa75c54d5c2b54394cb1f3e"), looks := false }, kinds := [], alts := [], laidByText := true, laidKinds := [.data, .pinned], laidTests := true, laidLooks := .later }
def PieceSplitsUptoCardSaid : Prop := Claim7.holds Tryd.pinned (.plain (OpenSpec.upto pieceSplitsSpec)) pieceSplitsUptoCard

/-- THE SECOND FORM's CARD OF 'diptychlaw5.PieceApart'. -/
def pieceApartUptoCard : Claim7 := { stood := { row := pieceApartUptoRow, standIns := [], harness := (true, "ae54759e2eea76f5ceeef2c65bb2838921042dc9baa75c54d5c2b54394cb1f3e"), looks := false }, kinds := [], alts := [], laidByText := true, laidKinds := [.data, .pinned], laidTests := true, laidLooks := .later }
def PieceApartUptoCardSaid : Prop := Claim7.holds Tryd.pinned (.plain (OpenSpec.upto pieceApartSpec)) pieceApartUptoCard

/-- THE SECOND FORM's CARD OF 'diptychlaw5.PieceTwice'. -/
def pieceTwiceUptoCard : Claim7 := { stood := { row := pieceTwiceUptoRow, standIns := [], harness := (true, "ae54759e2eea76f5ceeef2c65bb2838921042dc9baa75c54d5c2b54394cb1f3e"), looks := false }, kinds := [], alts := [], laidByText := true, laidKinds := [.data, .pinned], laidTests := true, laidLooks := .later }
def PieceTwiceUptoCardSaid : Prop := Claim7.holds Tryd.pinned (.plain (OpenSpec.upto pieceTwiceSpec)) pieceTwiceUptoCard

/-- THE SECOND FORM's CARD OF 'diptychlaw5.PieceBack'. -/
def pieceBackUptoCard : Claim7 := { stood := { row := pieceBackUptoRow, standIns := [], harness := (true, "ae54759e2eea76f5ceeef2c65bb2838921042dc9baa75c54d5c2b54394cb1f3e"), looks := false }, kinds := [], alts := [], laidByText := true, laidKinds := [.data, .pinned], laidTests := true, laidLooks := .later }
def PieceBackUptoCardSaid : Prop := Claim7.holds Tryd.pinned (.plain (OpenSpec.upto pieceBackSpec)) pieceBackUptoCard

/-- THE SECOND FORM's CARD OF 'diptychlaw5.PieceIn'. -/
def pieceInUptoCard : Claim7 := { stood := { row := pieceInUptoRow, standIns := [], harness := (true, "ae54759e2eea76f5ceeef2c65bb2838921042dc9baa75c54d5c2b54394cb1f3e"), looks := false }, kinds := [], alts := [], laidByText := true, laidKinds := [.data, .pinned], laidTests := true, laidLooks := .later }
def PieceInUptoCardSaid : Prop := Claim7.holds Tryd.pinned (.plain (OpenSpec.upto pieceInSpec)) pieceInUptoCard

/-- THE SECOND FORM's CARD OF 'diptychlaw5.PieceTokens'. -/
def pieceTokensUptoCard : Claim7 := { stood := { row := pieceTokensUptoRow, standIns := [], harness := (true, "ae54759e2eea76f5ceeef2c65bb2838921042dc9baa75c54d5c2b54394cb1f3e"), looks := false }, kinds := [], alts := [], laidByText := true, laidKinds := [.data, .pinned], laidTests := true, laidLooks := .later }
def PieceTokensUptoCardSaid : Prop := Claim7.holds Tryd.pinned (.plain (OpenSpec.upto pieceTokensSpec)) pieceTokensUptoCard

/-- THE SECOND FORM's CARD OF 'diptychlaw12.WireApart'. -/
def wireApartUptoCard : Claim7 := { stood := { row := wireApartUptoRow, standIns := [], harness := (true, "ae54759e2eea76f5ceeef2c65bb2838921042dc9baa75c54d5c2b54394cb1f3e"), looks := false }, kinds := [], alts := [], laidByText := true, laidKinds := [.data, .data, .data, .data, .pinned], laidTests := true, laidLooks := .later }
def WireApartUptoCardSaid : Prop := Claim7.holds Tryd.pinned (.plain (OpenSpec.upto wireApartSpec)) wireApartUptoCard
end Rows
end Go.Proofs.YtblielhogcnnkaaDoor
