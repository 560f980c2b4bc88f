/-
  DERIVED. GIVEN WITH THE SEED: THE CARDS: each row of YtihndopckmdpbaaDoorRows.lean that lists a variable, with what it lists TIED to the program's text (the seventh form; the later family's looks); each row that meets fmt, with fmt's text TOLD by the authors' own Lean function (tested against real Go, not proved from fmt's source: count such statements apart). THE CARD IS WHAT COUNTS. Prove the row's statement (the work); the ties are given (YtihndopckmdpbaaDoorTie.lean); close each card by the builder's one call (the guide's Derived/Test/ToyasCard.lean, 'card_holds'). Laid BY PROGRAM, IN A SANDBOX (cutbox-door.mjs). By AI agents, Wed Nov 11 2026. No macro, syntax, notation, axiom, sorry.
-/
import Derived.Test.YtihndopckmdpbaaDoorRows
import GoSem.ClaimSeven
namespace Go.Proofs.YtihndopckmdpbaaDoor
namespace Rows

/-- THE TIED CARD OF 'diptychlaw2.CodecPrints'. -/
def codecPrintsCard : Claim7 := { stood := { row := codecPrintsRow, standIns := [], harness := (true, "d4d9db4b6ce9142bba816f1f660b49e14e1f6381fdd9d3a1f4359c5fad3afa6f"), looks := false }, kinds := [], alts := [], laidByText := true, laidKinds := [.data, .pinned], laidTests := true, laidLooks := .later }
def CodecPrintsCardSaid : Prop := Claim7.holds Tryd.pinned (.plain (OpenSpec.ofChange codecPrintsSpec)) codecPrintsCard

/-- THE TIED CARD OF 'diptychlaw2.CodecApart'. -/
def codecApartCard : Claim7 := { stood := { row := codecApartRow, standIns := [], harness := (true, "d4d9db4b6ce9142bba816f1f660b49e14e1f6381fdd9d3a1f4359c5fad3afa6f"), looks := false }, kinds := [], alts := [], laidByText := true, laidKinds := [.data, .pinned], laidTests := true, laidLooks := .later }
def CodecApartCardSaid : Prop := Claim7.holds Tryd.pinned (.plain (OpenSpec.ofChange codecApartSpec)) codecApartCard

/-- THE TIED CARD OF 'diptychlaw2.CodecParses'. -/
def codecParsesCard : Claim7 := { stood := { row := codecParsesRow, standIns := [], harness := (true, "d4d9db4b6ce9142bba816f1f660b49e14e1f6381fdd9d3a1f4359c5fad3afa6f"), looks := false }, kinds := [], alts := [], laidByText := true, laidKinds := [.data, .pinned], laidTests := true, laidLooks := .later }
def CodecParsesCardSaid : Prop := Claim7.holds Tryd.pinned (.plain (OpenSpec.ofChange codecParsesSpec)) codecParsesCard

/-- THE TIED CARD OF 'diptychlaw2.CodecParts'. -/
def codecPartsCard : Claim7 := { stood := { row := codecPartsRow, standIns := [], harness := (true, "d4d9db4b6ce9142bba816f1f660b49e14e1f6381fdd9d3a1f4359c5fad3afa6f"), looks := false }, kinds := [], alts := [], laidByText := true, laidKinds := [.data, .pinned], laidTests := true, laidLooks := .later }
def CodecPartsCardSaid : Prop := Claim7.holds Tryd.pinned (.plain (OpenSpec.ofChange codecPartsSpec)) codecPartsCard

/-- THE TIED CARD OF 'diptychlaw2.CodecQuotes'. -/
def codecQuotesCard : Claim7 := { stood := { row := codecQuotesRow, standIns := [], harness := (true, "d4d9db4b6ce9142bba816f1f660b49e14e1f6381fdd9d3a1f4359c5fad3afa6f"), looks := false }, kinds := [], alts := [], laidByText := true, laidKinds := [.data, .pinned], laidTests := true, laidLooks := .later }
def CodecQuotesCardSaid : Prop := Claim7.holds Tryd.pinned (.plain (OpenSpec.ofChange codecQuotesSpec)) codecQuotesCard

/-- THE TIED CARD OF 'diptychlaw2.CodecDeep'. -/
def codecDeepCard : Claim7 := { stood := { row := codecDeepRow, standIns := [], harness := (true, "d4d9db4b6ce9142bba816f1f660b49e14e1f6381fdd9d3a1f4359c5fad3afa6f"), looks := false }, kinds := [], alts := [], laidByText := true, laidKinds := [.data, .pinned], laidTests := true, laidLooks := .later }
def CodecDeepCardSaid : Prop := Claim7.holds Tryd.pinned (.plain (OpenSpec.ofChange codecDeepSpec)) codecDeepCard

/-- THE TIED CARD OF 'diptychlaw2.CodecBack'. -/
def codecBackCard : Claim7 := { stood := { row := codecBackRow, standIns := [], harness := (true, "d4d9db4b6ce9142bba816f1f660b49e14e1f6381fdd9d3a1f4359c5fad3afa6f"), looks := false }, kinds := [], alts := [], laidByText := true, laidKinds := [.data, .pinned], laidTests := true, laidLooks := .later }
def CodecBackCardSaid : Prop := Claim7.holds Tryd.pinned (.plain (OpenSpec.ofChange codecBackSpec)) codecBackCard

/-- THE SECOND FORM's CARD OF 'diptychlaw2.CodecPrints'. -/
def codecPrintsUptoCard : Claim7 := { stood := { row := codecPrintsUptoRow, standIns := [], harness := (true, "d4d9db4b6ce9142bba816f1f660b49e14e1f6381fdd9d3a1f4359c5fad3afa6f"), looks := false }, kinds := [], alts := [], laidByText := true, laidKinds := [.data, .pinned], laidTests := true, laidLooks := .later }
def CodecPrintsUptoCardSaid : Prop := Claim7.holds Tryd.pinned (.plain (OpenSpec.upto codecPrintsSpec)) codecPrintsUptoCard

/-- THE SECOND FORM's CARD OF 'diptychlaw2.CodecApart'. -/
def codecApartUptoCard : Claim7 := { stood := { row := codecApartUptoRow, standIns := [], harness := (true, "d4d9db4b6ce9142bba816f1f660b49e14e1f6381fdd9d3a1f4359c5fad3afa6f"), looks := false }, kinds := [], alts := [], laidByText := true, laidKinds := [.data, .pinned], laidTests := true, laidLooks := .later }
def CodecApartUptoCardSaid : Prop := Claim7.holds Tryd.pinned (.plain (OpenSpec.upto codecApartSpec)) codecApartUptoCard

/-- THE SECOND FORM's CARD OF 'diptychlaw2.CodecParses'. -/
def codecParsesUptoCard : Claim7 := { stood := { row := codecParsesUptoRow, standIns := [], harness := (true, "d4d9db4b6ce9142bba816f1f660b49e14e1f6381fdd9d3a1f4359c5fad3afa6f"), looks := false }, kinds := [], alts := [], laidByText := true, laidKinds := [.data, .pinned], laidTests := true, laidLooks := .later }
def CodecParsesUptoCardSaid : Prop := Claim7.holds Tryd.pinned (.plain (OpenSpec.upto codecParsesSpec)) codecParsesUptoCard

/-- THE SECOND FORM's CARD OF 'diptychlaw2.CodecParts'. -/
def codecPartsUptoCard : Claim7 := { stood := { row := codecPartsUptoRow, standIns := [], harness := (true, "d4d9db4b6ce9142bba816f1f660b49e14e1f6381fdd9d3a1f4359c5fad3afa6f"), looks := false }, kinds := [], alts := [], laidByText := true, laidKinds := [.data, .pinned], laidTests := true, laidLooks := .later }
def CodecPartsUptoCardSaid : Prop := Claim7.holds Tryd.pinned (.plain (OpenSpec.upto codecPartsSpec)) codecPartsUptoCard

/-- THE SECOND FORM's CARD OF 'diptychlaw2.CodecQuotes'. -/
def codecQuotesUptoCard : Claim7 := { stood := { row := codecQuotesUptoRow, standIns := [], harness := (true, "d4d9db4b6ce9142bba816f1f660b49e14e1f6381fdd9d3a1f4359c5fad3afa6f"), looks := false }, kinds := [], alts := [], laidByText := true, laidKinds := [.data, .pinned], laidTests := true, laidLooks := .later }
def CodecQuotesUptoCardSaid : Prop := Claim7.holds Tryd.pinned (.plain (OpenSpec.upto codecQuotesSpec)) codecQuotesUptoCard

/-- THE SECOND FORM's CARD OF 'diptychlaw2.CodecDeep'. -/
def codecDeepUptoCard : Claim7 := { stood := { row := codecDeepUptoRow, standIns := [], harness := (true, "d4d9db4b6ce9142bba816f1f660b49e14e1f6381fdd9d3a1f4359c5fad3afa6f"), looks := false }, kinds := [], alts := [], laidByText := true, laidKinds := [.data, .pinned], laidTests := true, laidLooks := .later }
def CodecDeepUptoCardSaid : Prop := Claim7.holds Tryd.pinned (.plain (OpenSpec.upto codecDeepSpec)) codecDeepUptoCard

/-- THE SECOND FORM's CARD OF 'diptychlaw2.CodecBack'. -/
def codecBackUptoCard : Claim7 := { stood := { row := codecBackUptoRow, standIns := [], harness := (true, "d4d9db4b6ce9142bba816f1f660b49e14e1f6381fdd9d3a1f4359c5fad3afa6f"), looks := false }, kinds := [], alts := [], laidByText := true, laidKinds := [.data, .pinned], laidTests := true, laidLooks := .later }
def CodecBackUptoCardSaid : Prop := Claim7.holds Tryd.pinned (.plain (OpenSpec.upto codecBackSpec)) codecBackUptoCard
end Rows
end Go.Proofs.YtihndopckmdpbaaDoor
