/-
  DERIVED. GIVEN WITH THE SEED: THE CARDS: each row of YtpjdafhmneiohaaDoorRows.lean that lists a variable, with what it lists TIED to the program's text (the seventh form; the later family's looks); each row that meets fmt, with fmt's text TOLD by the authors' own Lean function (tested against real Go, not proved from fmt's source: count such statements apart). THE CARD IS WHAT COUNTS. Prove the row's statement (the work); the ties are given (YtpjdafhmneiohaaDoorTie.lean); close each card by the builder's one call (the guide's Derived/Test/ToyasCard.lean, 'card_holds'). Laid BY PROGRAM, IN A SANDBOX (cutbox-door.mjs). By AI agents, Wed Nov 11 2026. No macro, syntax, notation, axiom, sorry.
-/
import Derived.Test.YtpjdafhmneiohaaDoorRows
import GoSem.ClaimSeven
namespace Go.Proofs.YtpjdafhmneiohaaDoor
namespace Rows

/-- THE TIED CARD OF 'diptychlaw1.NodeOwn'. -/
def nodeOwnCard : Claim7 := { stood := { row := nodeOwnRow, standIns := [], harness := (true, "7df914cdf0dcad04ce6108e02f2be782ea612bc4022eba296fcfbd69c469a642"), looks := false }, kinds := [], alts := [], laidByText := true, laidKinds := [.data, .pinned], laidTests := true, laidLooks := .later }
def NodeOwnCardSaid : Prop := Claim7.holds Tryd.pinned (.plain (OpenSpec.ofChange nodeOwnSpec)) nodeOwnCard

/-- THE TIED CARD OF 'diptychlaw18.DiffSizes'. -/
def diffSizesCard : Claim7 := { stood := { row := diffSizesRow, standIns := [], harness := (true, "7df914cdf0dcad04ce6108e02f2be782ea612bc4022eba296fcfbd69c469a642"), looks := false }, kinds := [], alts := [], laidByText := true, laidKinds := [.data, .pinned], laidTests := true, laidLooks := .later }
def DiffSizesCardSaid : Prop := Claim7.holds Tryd.pinned (.plain (OpenSpec.ofChange diffSizesSpec)) diffSizesCard

/-- THE TIED CARD OF 'diptychlaw13.LensReads'. -/
def lensReadsCard : Claim7 := { stood := { row := lensReadsRow, standIns := [], harness := (true, "7df914cdf0dcad04ce6108e02f2be782ea612bc4022eba296fcfbd69c469a642"), looks := false }, kinds := [], alts := [], laidByText := true, laidKinds := [.data, .pinned], laidTests := true, laidLooks := .later }
def LensReadsCardSaid : Prop := Claim7.holds Tryd.pinned (.plain (OpenSpec.ofChange lensReadsSpec)) lensReadsCard

/-- THE TIED CARD OF 'diptychlaw13.LensParses'. -/
def lensParsesCard : Claim7 := { stood := { row := lensParsesRow, standIns := [], harness := (true, "7df914cdf0dcad04ce6108e02f2be782ea612bc4022eba296fcfbd69c469a642"), looks := false }, kinds := [], alts := [], laidByText := true, laidKinds := [.data, .pinned], laidTests := true, laidLooks := .later }
def LensParsesCardSaid : Prop := Claim7.holds Tryd.pinned (.plain (OpenSpec.ofChange lensParsesSpec)) lensParsesCard

/-- THE TIED CARD OF 'diptychlaw13.LensBack'. -/
def lensBackCard : Claim7 := { stood := { row := lensBackRow, standIns := [], harness := (true, "7df914cdf0dcad04ce6108e02f2be782ea612bc4022eba296fcfbd69c469a642"), looks := false }, kinds := [], alts := [], laidByText := true, laidKinds := [.data, .pinned], laidTests := true, laidLooks := .later }
def LensBackCardSaid : Prop := Claim7.holds Tryd.pinned (.plain (OpenSpec.ofChange lensBackSpec)) lensBackCard

/-- THE TIED CARD OF 'diptychlaw13.LensRows'. -/
def lensRowsCard : Claim7 := { stood := { row := lensRowsRow, standIns := [], harness := (true, "7df914cdf0dcad04ce6108e02f2be782ea612bc4022eba296fcfbd69c469a642"), looks := false }, kinds := [], alts := [], laidByText := true, laidKinds := [.data, .pinned], laidTests := true, laidLooks := .later }
def LensRowsCardSaid : Prop := Claim7.holds Tryd.pinned (.plain (OpenSpec.ofChange lensRowsSpec)) lensRowsCard

/-- THE TIED CARD OF 'diptychlaw13.LensTurns'. -/
def lensTurnsCard : Claim7 := { stood := { row := lensTurnsRow, standIns := [], harness := (true, "7df914cdf0dcad04ce6108e02f2be782ea612bc4022eba296fcfbd69c469a642"), looks := false }, kinds := [], alts := [], laidByText := true, laidKinds := [.data, .pinned], laidTests := true, laidLooks := .later }
def LensTurnsCardSaid : Prop := Claim7.holds Tryd.pinned (.plain (OpenSpec.ofChange lensTurnsSpec)) lensTurnsCard

/-- THE TIED CARD OF 'diptychlaw13.LensApart'. -/
def lensApartCard : Claim7 := { stood := { row := lensApartRow, standIns := [], harness := (true, "7df914cdf0dcad04ce6108e02f2be782ea612bc4022eba296fcfbd69c469a642"), looks := false }, kinds := [], alts := [], laidByText := true, laidKinds := [.data, .pinned], laidTests := true, laidLooks := .later }
def LensApartCardSaid : Prop := Claim7.holds Tryd.pinned (.plain (OpenSpec.ofChange lensApartSpec)) lensApartCard

/-- THE TIED CARD OF 'diptychlaw3.TokenBack'. -/
def tokenBackCard : Claim7 := { stood := { row := tokenBackRow, standIns := [], harness := (true, "7df914cdf0dcad04ce6108e02f2be782ea612bc4022eba296fcfbd69c469a642"), looks := false }, kinds := [], alts := [], laidByText := true, laidKinds := [.data, .pinned], laidTests := true, laidLooks := .later }
def TokenBackCardSaid : Prop := Claim7.holds Tryd.pinned (.plain (OpenSpec.ofChange tokenBackSpec)) tokenBackCard

/-- THE TIED CARD OF 'diptychlaw3.TokenChange'. -/
def tokenChangeCard : Claim7 := { stood := { row := tokenChangeRow, standIns := [], harness := (true, "7df914cdf0dcad04ce6108e02f2be782ea612bc4022eba296fcfbd69c469a642"), looks := false }, kinds := [], alts := [], laidByText := true, laidKinds := [.data, .pinned], laidTests := true, laidLooks := .later }
def TokenChangeCardSaid : Prop := Claim7.holds Tryd.pinned (.plain (OpenSpec.ofChange tokenChangeSpec)) tokenChangeCard

/-- THE TIED CARD OF 'diptychlaw3.TokenJoins'. -/
def tokenJoinsCard : Claim7 := { stood := { row := tokenJoinsRow, standIns := [], harness := (true, "7df914cdf0dcad04ce6108e02f2be782ea612bc4022eba296fcfbd69c469a642"), looks := false }, kinds := [], alts := [], laidByText := true, laidKinds := [.data, .pinned], laidTests := true, laidLooks := .later }
def TokenJoinsCardSaid : Prop := Claim7.holds Tryd.pinned (.plain (OpenSpec.ofChange tokenJoinsSpec)) tokenJoinsCard

/-- THE SECOND FORM's CARD OF 'diptychlaw1.NodeOwn'. -/
def nodeOwnUptoCard : Claim7 := { stood := { row := nodeOwnUptoRow, standIns := [], harness := (true, "7df914cdf0dcad04ce6108e02f2be782ea612bc4022eba296fcfbd69c469a642"), looks := false }, kinds := [], alts := [], laidByText := true, laidKinds := [.data, .pinned], laidTests := true, laidLooks := .later }
def NodeOwnUptoCardSaid : Prop := Claim7.holds Tryd.pinned (.plain (OpenSpec.upto nodeOwnSpec)) nodeOwnUptoCard

/-- THE SECOND FORM's CARD OF 'diptychlaw18.DiffSizes'. -/
def diffSizesUptoCard : Claim7 := { stood := { row := diffSizesUptoRow, standIns := [], harness := (true, "7df914cdf0dcad04ce6108e02f2be782ea612bc4022eba296fcfbd69c469a642"), looks := false }, kinds := [], alts := [], laidByText := true, laidKinds := [.data, .pinned], laidTests := true, laidLooks := .later }
def DiffSizesUptoCardSaid : Prop := Claim7.holds Tryd.pinned (.plain (OpenSpec.upto diffSizesSpec)) diffSizesUptoCard

/-- THE SECOND FORM's CARD OF 'diptychlaw13.LensReads'. -/
def lensReadsUptoCard : Claim7 := { stood := { row := lensReadsUptoRow, standIns := [], harness := (true, "7df914cdf0dcad04ce6108e02f2be782ea612bc4022eba296fcfbd69c469a642"), looks := false }, kinds := [], alts := [], laidByText := true, laidKinds := [.data, .pinned], laidTests := true, laidLooks := .later }
def LensReadsUptoCardSaid : Prop := Claim7.holds Tryd.pinned (.plain (OpenSpec.upto lensReadsSpec)) lensReadsUptoCard

/-- THE SECOND FORM's CARD OF 'diptychlaw13.LensParses'. -/
def lensParsesUptoCard : Claim7 := { stood := { row := lensParsesUptoRow, standIns := [], harness := (true, "7df914cdf0dcad04ce6108e02f2be782ea612bc4022eba296fcfbd69c469a642"), looks := false }, kinds := [], alts := [], laidByText := true, laidKinds := [.data, .pinned], laidTests := true, laidLooks := .later }
def LensParsesUptoCardSaid : Prop := Claim7.holds Tryd.pinned (.plain (OpenSpec.upto lensParsesSpec)) lensParsesUptoCard

/-- THE SECOND FORM's CARD OF 'diptychlaw13.LensBack'. -/
def lensBackUptoCard : Claim7 := { stood := { row := lensBackUptoRow, standIns := [], harness := (true, "7df914cdf0dcad04ce6108e02f2be782ea612bc4022eba296fcfbd69c469a642"), looks := false }, kinds := [], alts := [], laidByText := true, laidKinds := [.data, .pinned], laidTests := true, laidLooks := .later }
def LensBackUptoCardSaid : Prop := Claim7.holds Tryd.pinned (.plain (OpenSpec.upto lensBackSpec)) lensBackUptoCard

/-- THE SECOND FORM's CARD OF 'diptychlaw13.LensRows'. -/
def lensRowsUptoCard : Claim7 := { stood := { row := lensRowsUptoRow, standIns := [], harness := (true, "7df914cdf0dcad04ce6108e02f2be782ea612bc4022eba296fcfbd69c469a642"), looks := false }, kinds := [], alts := [], laidByText := true, laidKinds := [.data, .pinned], laidTests := true, laidLooks := .later }
def LensRowsUptoCardSaid : Prop := Claim7.holds Tryd.pinned (.plain (OpenSpec.upto lensRowsSpec)) lensRowsUptoCard

/-- THE SECOND FORM's CARD OF 'diptychlaw13.LensTurns'. -/
def lensTurnsUptoCard : Claim7 := { stood := { row := lensTurnsUptoRow, standIns := [], harness := (true, "7df914cdf0dcad04ce6108e02f2be782ea612bc4022eba296fcfbd69c469a642"), looks := false }, kinds := [], alts := [], laidByText := true, laidKinds := [.data, .pinned], laidTests := true, laidLooks := .later }
def LensTurnsUptoCardSaid : Prop := Claim7.holds Tryd.pinned (.plain (OpenSpec.upto lensTurnsSpec)) lensTurnsUptoCard

/-- THE SECOND FORM's CARD OF 'diptychlaw13.LensApart'. -/
def lensApartUptoCard : Claim7 := { stood := { row := lensApartUptoRow, standIns := [], harness := (true, "7df914cdf0dcad04ce6108e02f2be782ea612bc4022eba296fcfbd69c469a642"), looks := false }, kinds := [], alts := [], laidByText := true, laidKinds := [.data, .pinned], laidTests := true, laidLooks := .later }
def LensApartUptoCardSaid : Prop := Claim7.holds Tryd.pinned (.plain (OpenSpec.upto lensApartSpec)) lensApartUptoCard

/-- THE SECOND FORM's CARD OF 'diptychlaw3.TokenBack'. -/
def tokenBackUptoCard : Claim7 := { stood := { row := tokenBackUptoRow, standIns := [], harness := (true, "7df914cdf0dcad04ce6108e02f2be782ea612bc4022eba296fcfbd69c469a642"), looks := false }, kinds := [], alts := [], laidByText := true, laidKinds := [.data, .pinned], laidTests := true, laidLooks := .later }
def TokenBackUptoCardSaid : Prop := Claim7.holds Tryd.pinned (.plain (OpenSpec.upto tokenBackSpec)) tokenBackUptoCard

/-- THE SECOND FORM's CARD OF 'diptychlaw3.TokenChange'. -/
def tokenChangeUptoCard : Claim7 := { stood := { row := tokenChangeUptoRow, standIns := [], harness := (true, "7df914cdf0dcad04ce6108e02f2be782ea612bc4022eba296fcfbd69c469a642"), looks := false }, kinds := [], alts := [], laidByText := true, laidKinds := [.data, .pinned], laidTests := true, laidLooks := .later }
def TokenChangeUptoCardSaid : Prop := Claim7.holds Tryd.pinned (.plain (OpenSpec.upto tokenChangeSpec)) tokenChangeUptoCard

/-- THE SECOND FORM's CARD OF 'diptychlaw3.TokenJoins'. -/
def tokenJoinsUptoCard : Claim7 := { stood := { row := tokenJoinsUptoRow, standIns := [], harness := (true, "7df914cdf0dcad04ce6108e02f2be782ea612bc4022eba296fcfbd69c469a642"), looks := false }, kinds := [], alts := [], laidByText := true, laidKinds := [.data, .pinned], laidTests := true, laidLooks := .later }
def TokenJoinsUptoCardSaid : Prop := Claim7.holds Tryd.pinned (.plain (OpenSpec.upto tokenJoinsSpec)) tokenJoinsUptoCard
end Rows
end Go.Proofs.YtpjdafhmneiohaaDoor
