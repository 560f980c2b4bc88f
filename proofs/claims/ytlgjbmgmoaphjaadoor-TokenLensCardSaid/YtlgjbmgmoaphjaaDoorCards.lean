/-
  DERIVED. GIVEN WITH THE SEED: THE CARDS: each row of YtlgjbmgmoaphjaaDoorRows.lean that lists a variable, with what it lists TIED to the program's text (the seventh form; the later family's looks); each row that meets fmt, with fmt's text TOLD by the authors' own Lean function (tested against real Go, not proved from fmt's source: count such statements apart). THE CARD IS WHAT COUNTS. Prove the row's statement (the work); the ties are given (YtlgjbmgmoaphjaaDoorTie.lean); close each card by the builder's one call (the guide's Derived/Test/ToyasCard.lean, 'card_holds'). Laid BY PROGRAM, IN A SANDBOX (cutbox-door.mjs). By AI agents, Wed Nov 11 2026. No macro, syntax, notation, axiom, sorry.
-/
import Derived.Test.YtlgjbmgmoaphjaaDoorRows
import GoSem.ClaimSeven
namespace Go.Proofs.YtlgjbmgmoaphjaaDoor
namespace Rows

/-- THE TIED CARD OF 'diptychlaw3.TokenRows'. -/
def tokenRowsCard : Claim7 := { stood := { row := tokenRowsRow, standIns := [], harness := (true, "566134d6d5b96c3f58f48a5f202f7921bfcad4f8fbdb9acd17308bba324e8910"), looks := false }, kinds := [], alts := [], laidByText := true, laidKinds := [.data, .pinned], laidTests := true, laidLooks := .later }
def TokenRowsCardSaid : Prop := Claim7.holds Tryd.pinned (.plain (OpenSpec.ofChange tokenRowsSpec)) tokenRowsCard

/-- THE TIED CARD OF 'diptychlaw3.TokenEnds'. -/
def tokenEndsCard : Claim7 := { stood := { row := tokenEndsRow, standIns := [], harness := (true, "566134d6d5b96c3f58f48a5f202f7921bfcad4f8fbdb9acd17308bba324e8910"), looks := false }, kinds := [], alts := [], laidByText := true, laidKinds := [.data, .pinned], laidTests := true, laidLooks := .later }
def TokenEndsCardSaid : Prop := Claim7.holds Tryd.pinned (.plain (OpenSpec.ofChange tokenEndsSpec)) tokenEndsCard

/-- THE TIED CARD OF 'diptychlaw3.TokenLens'. -/
def tokenLensCard : Claim7 := { stood := { row := tokenLensRow, standIns := [], harness := (true, "566134d6d5b96c3f58f48a5f202f7921bfcad4f8fbdb9acd17308bba324e8910"), looks := false }, kinds := [], alts := [], laidByText := true, laidKinds := [.data, .pinned], laidTests := true, laidLooks := .later }
def TokenLensCardSaid : Prop := Claim7.holds Tryd.pinned (.plain (OpenSpec.ofChange tokenLensSpec)) tokenLensCard

/-- THE TIED CARD OF 'diptychlaw4.PlaceTokens'. -/
def placeTokensCard : Claim7 := { stood := { row := placeTokensRow, standIns := [], harness := (true, "566134d6d5b96c3f58f48a5f202f7921bfcad4f8fbdb9acd17308bba324e8910"), looks := false }, kinds := [], alts := [], laidByText := true, laidKinds := [.data, .pinned], laidTests := true, laidLooks := .later }
def PlaceTokensCardSaid : Prop := Claim7.holds Tryd.pinned (.plain (OpenSpec.ofChange placeTokensSpec)) placeTokensCard

/-- THE TIED CARD OF 'diptychlaw1.NodeWrong'. -/
def nodeWrongCard : Claim7 := { stood := { row := nodeWrongRow, standIns := [], harness := (true, "566134d6d5b96c3f58f48a5f202f7921bfcad4f8fbdb9acd17308bba324e8910"), looks := false }, kinds := [], alts := [], laidByText := true, laidKinds := [.data, .pinned], laidTests := true, laidLooks := .later }
def NodeWrongCardSaid : Prop := Claim7.holds Tryd.pinned (.plain (OpenSpec.ofChange nodeWrongSpec)) nodeWrongCard

/-- THE TIED CARD OF 'diptychlaw1.NodeTurns'. -/
def nodeTurnsCard : Claim7 := { stood := { row := nodeTurnsRow, standIns := [], harness := (true, "566134d6d5b96c3f58f48a5f202f7921bfcad4f8fbdb9acd17308bba324e8910"), looks := false }, kinds := [], alts := [], laidByText := true, laidKinds := [.data, .pinned], laidTests := true, laidLooks := .later }
def NodeTurnsCardSaid : Prop := Claim7.holds Tryd.pinned (.plain (OpenSpec.ofChange nodeTurnsSpec)) nodeTurnsCard

/-- THE TIED CARD OF 'diptychlaw1.NodeOwn'. -/
def nodeOwnCard : Claim7 := { stood := { row := nodeOwnRow, standIns := [], harness := (true, "566134d6d5b96c3f58f48a5f202f7921bfcad4f8fbdb9acd17308bba324e8910"), looks := false }, kinds := [], alts := [], laidByText := true, laidKinds := [.data, .pinned], laidTests := true, laidLooks := .later }
def NodeOwnCardSaid : Prop := Claim7.holds Tryd.pinned (.plain (OpenSpec.ofChange nodeOwnSpec)) nodeOwnCard

/-- THE TIED CARD OF 'diptychlaw1.NodeChecks'. -/
def nodeChecksCard : Claim7 := { stood := { row := nodeChecksRow, standIns := [], harness := (true, "566134d6d5b96c3f58f48a5f202f7921bfcad4f8fbdb9acd17308bba324e8910"), looks := false }, kinds := [], alts := [], laidByText := true, laidKinds := [.data, .pinned], laidTests := true, laidLooks := .later }
def NodeChecksCardSaid : Prop := Claim7.holds Tryd.pinned (.plain (OpenSpec.ofChange nodeChecksSpec)) nodeChecksCard

/-- THE TIED CARD OF 'diptychlaw1.NodeSums'. -/
def nodeSumsCard : Claim7 := { stood := { row := nodeSumsRow, standIns := [], harness := (true, "566134d6d5b96c3f58f48a5f202f7921bfcad4f8fbdb9acd17308bba324e8910"), looks := false }, kinds := [], alts := [], laidByText := true, laidKinds := [.data, .pinned], laidTests := true, laidLooks := .later }
def NodeSumsCardSaid : Prop := Claim7.holds Tryd.pinned (.plain (OpenSpec.ofChange nodeSumsSpec)) nodeSumsCard

/-- THE TIED CARD OF 'diptychlaw1.NodeTwice'. -/
def nodeTwiceCard : Claim7 := { stood := { row := nodeTwiceRow, standIns := [], harness := (true, "566134d6d5b96c3f58f48a5f202f7921bfcad4f8fbdb9acd17308bba324e8910"), looks := false }, kinds := [], alts := [], laidByText := true, laidKinds := [.data, .pinned], laidTests := true, laidLooks := .later }
def NodeTwiceCardSaid : Prop := Claim7.holds Tryd.pinned (.plain (OpenSpec.ofChange nodeTwiceSpec)) nodeTwiceCard

/-- THE TIED CARD OF 'diptychlaw3.TokenBack'. -/
def tokenBackCard : Claim7 := { stood := { row := tokenBackRow, standIns := [], harness := (true, "566134d6d5b96c3f58f48a5f202f7921bfcad4f8fbdb9acd17308bba324e8910"), looks := false }, kinds := [], alts := [], laidByText := true, laidKinds := [.data, .pinned], laidTests := true, laidLooks := .later }
def TokenBackCardSaid : Prop := Claim7.holds Tryd.pinned (.plain (OpenSpec.ofChange tokenBackSpec)) tokenBackCard

/-- THE TIED CARD OF 'diptychlaw3.TokenJoins'. -/
def tokenJoinsCard : Claim7 := { stood := { row := tokenJoinsRow, standIns := [], harness := (true, "566134d6d5b96c3f58f48a5f202f7921bfcad4f8fbdb9acd17308bba324e8910"), looks := false }, kinds := [], alts := [], laidByText := true, laidKinds := [.data, .pinned], laidTests := true, laidLooks := .later }
def TokenJoinsCardSaid : Prop := Claim7.holds Tryd.pinned (.plain (OpenSpec.ofChange tokenJoinsSpec)) tokenJoinsCard

/-- THE SECOND FORM's CARD OF 'diptychlaw3.TokenRows'. -/
def tokenRowsUptoCard : Claim7 := { stood := { row := tokenRowsUptoRow, standIns := [], harness := (true, "566134d6d5b96c3f58f48a5f202f7921bfcad4f8fbdb9acd17308bba324e8910"), looks := false }, kinds := [], alts := [], laidByText := true, laidKinds := [.data, .pinned], laidTests := true, laidLooks := .later }
def TokenRowsUptoCardSaid : Prop := Claim7.holds Tryd.pinned (.plain (OpenSpec.upto tokenRowsSpec)) tokenRowsUptoCard

/-- THE SECOND FORM's CARD OF 'diptychlaw3.TokenEnds'. -/
def tokenEndsUptoCard : Claim7 := { stood := { row := tokenEndsUptoRow, standIns := [], harness := (true, "566134d6d5b96c3f58f48a5f202f7921bfcad4f8fbdb9acd17308bba324e8910"), looks := false }, kinds := [], alts := [], laidByText := true, laidKinds := [.data, .pinned], laidTests := true, laidLooks := .later }
def TokenEndsUptoCardSaid : Prop := Claim7.holds Tryd.pinned (.plain (OpenSpec.upto tokenEndsSpec)) tokenEndsUptoCard

/-- THE SECOND FORM's CARD OF 'diptychlaw3.TokenLens'. -/
def tokenLensUptoCard : Claim7 := { stood := { row := tokenLensUptoRow, standIns := [], harness := (true, "566134d6d5b96c3f58f48a5f202f7921bfcad4f8fbdb9acd17308bba324e8910"), looks := false }, kinds := [], alts := [], laidByText := true, laidKinds := [.data, .pinned], laidTests := true, laidLooks := .later }
def TokenLensUptoCardSaid : Prop := Claim7.holds Tryd.pinned (.plain (OpenSpec.upto tokenLensSpec)) tokenLensUptoCard

/-- THE SECOND FORM's CARD OF 'diptychlaw4.PlaceTokens'. -/
def placeTokensUptoCard : Claim7 := { stood := { row := placeTokensUptoRow, standIns := [], harness := (true, "566134d6d5b96c3f58f48a5f202f7921bfcad4f8fbdb9acd17308bba324e8910"), looks := false }, kinds := [], alts := [], laidByText := true, laidKinds := [.data, .pinned], laidTests := true, laidLooks := .later }
def PlaceTokensUptoCardSaid : Prop := Claim7.holds Tryd.pinned (.plain (OpenSpec.upto placeTokensSpec)) placeTokensUptoCard

/-- THE SECOND FORM's CARD OF 'diptychlaw1.NodeWrong'. -/
def nodeWrongUptoCard : Claim7 := { stood := { row := nodeWrongUptoRow, standIns := [], harness := (true, "566134d6d5b96c3f58f48a5f202f7921bfcad4f8fbdb9acd17308bba324e8910"), looks := false }, kinds := [], alts := [], laidByText := true, laidKinds := [.data, .pinned], laidTests := true, laidLooks := .later }
def NodeWrongUptoCardSaid : Prop := Claim7.holds Tryd.pinned (.plain (OpenSpec.upto nodeWrongSpec)) nodeWrongUptoCard

/-- THE SECOND FORM's CARD OF 'diptychlaw1.NodeTurns'. -/
def nodeTurnsUptoCard : Claim7 := { stood := { row := nodeTurnsUptoRow, standIns := [], harness := (true, "566134d6d5b96c3f58f48a5f202f7921bfcad4f8fbdb9acd17308bba324e8910"), looks := false }, kinds := [], alts := [], laidByText := true, laidKinds := [.data, .pinned], laidTests := true, laidLooks := .later }
def NodeTurnsUptoCardSaid : Prop := Claim7.holds Tryd.pinned (.plain (OpenSpec.upto nodeTurnsSpec)) nodeTurnsUptoCard

/-- THE SECOND FORM's CARD OF 'diptychlaw1.NodeOwn'. -/
def nodeOwnUptoCard : Claim7 := { stood := { row := nodeOwnUptoRow, standIns := [], harness := (true, "566134d6d5b96c3f58f48a5f202f7921bfcad4f8fbdb9acd17308bba324e8910"), looks := false }, kinds := [], alts := [], laidByText := true, laidKinds := [.data, .pinned], laidTests := true, laidLooks := .later }
def NodeOwnUptoCardSaid : Prop := Claim7.holds Tryd.pinned (.plain (OpenSpec.upto nodeOwnSpec)) nodeOwnUptoCard

/-- THE SECOND FORM's CARD OF 'diptychlaw1.NodeChecks'. -/
def nodeChecksUptoCard : Claim7 := { stood := { row := nodeChecksUptoRow, standIns := [], harness := (true, "566134d6d5b96c3f58f48a5f202f7921bfcad4f8fbdb9acd17308bba324e8910"), looks := false }, kinds := [], alts := [], laidByText := true, laidKinds := [.data, .pinned], laidTests := true, laidLooks := .later }
def NodeChecksUptoCardSaid : Prop := Claim7.holds Tryd.pinned (.plain (OpenSpec.upto nodeChecksSpec)) nodeChecksUptoCard

/-- THE SECOND FORM's CARD OF 'diptychlaw1.NodeSums'. -/
def nodeSumsUptoCard : Claim7 := { stood := { row := nodeSumsUptoRow, standIns := [], harness := (true, "566134d6d5b96c3f58f48a5f202f7921bfcad4f8fbdb9acd17308bba324e8910"), looks := false }, kinds := [], alts := [], laidByText := true, laidKinds := [.data, .pinned], laidTests := true, laidLooks := .later }
def NodeSumsUptoCardSaid : Prop := Claim7.holds Tryd.pinned (.plain (OpenSpec.upto nodeSumsSpec)) nodeSumsUptoCard

/-- THE SECOND FORM's CARD OF 'diptychlaw1.NodeTwice'. -/
def nodeTwiceUptoCard : Claim7 := { stood := { row := nodeTwiceUptoRow, standIns := [], harness := (true, "566134d6d5b96c3f58f48a5f202f7921bfcad4f8fbdb9acd17308bba324e8910"), looks := false }, kinds := [], alts := [], laidByText := true, laidKinds := [.data, .pinned], laidTests := true, laidLooks := .later }
def NodeTwiceUptoCardSaid : Prop := Claim7.holds Tryd.pinned (.plain (OpenSpec.upto nodeTwiceSpec)) nodeTwiceUptoCard

/-- THE SECOND FORM's CARD OF 'diptychlaw3.TokenBack'. -/
def tokenBackUptoCard : Claim7 := { stood := { row := tokenBackUptoRow, standIns := [], harness := (true, "566134d6d5b96c3f58f48a5f202f7921bfcad4f8fbdb9acd17308bba324e8910"), looks := false }, kinds := [], alts := [], laidByText := true, laidKinds := [.data, .pinned], laidTests := true, laidLooks := .later }
def TokenBackUptoCardSaid : Prop := Claim7.holds Tryd.pinned (.plain (OpenSpec.upto tokenBackSpec)) tokenBackUptoCard

/-- THE SECOND FORM's CARD OF 'diptychlaw3.TokenJoins'. -/
def tokenJoinsUptoCard : Claim7 := { stood := { row := tokenJoinsUptoRow, standIns := [], harness := (true, "566134d6d5b96c3f58f48a5f202f7921bfcad4f8fbdb9acd17308bba324e8910"), looks := false }, kinds := [], alts := [], laidByText := true, laidKinds := [.data, .pinned], laidTests := true, laidLooks := .later }
def TokenJoinsUptoCardSaid : Prop := Claim7.holds Tryd.pinned (.plain (OpenSpec.upto tokenJoinsSpec)) tokenJoinsUptoCard
end Rows
end Go.Proofs.YtlgjbmgmoaphjaaDoor
