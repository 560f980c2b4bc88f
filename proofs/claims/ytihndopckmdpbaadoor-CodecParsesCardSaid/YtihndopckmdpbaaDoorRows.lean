/-
  NARROWER THAN 'FOR EVERY INPUT', by the rows' own cells (each row's printed sentence says how): CodecPrints: loops, laid · CodecApart: laid · CodecParses: laid · CodecParts: laid · CodecQuotes: laid · CodecDeep: laid · CodecBack: laid.
  DERIVED. THE GIVEN ROWS OF THIS SEAT. 7 by the template 'for every input the law returns true; each argument reads behind the call as it read before'; 0 by the template 'total and deterministic' (their statements: YtihndopckmdpbaaDoorTotals.lean).
  GIVEN WITH THE SEED: the statements are not yours to turn. If you find one false, say at which input.
  Laid BY PROGRAM, IN A SANDBOX (cutbox-rows.mjs): the forced cells as the released guide's own fill.sh prints them over the translation 82522bf18436f9f4… (all of the seat's roots in one cut). By AI agents, Wed Nov 11 2026. No macro, syntax, notation, axiom, sorry.
-/
import Derived.Test.YtihndopckmdpbaaDoorChecked
import GoSem.PinnedTables
import GoSem.Claim
import GoSem.ClaimJoined
import GoSem.ClaimMapViews
import Derived.JoinedTies
import Derived.KernelRfl
namespace Go.Proofs.YtihndopckmdpbaaDoor
/- THE CELL 'sum', in the pinned program and in every row, IS THE sha256 OF THE DUMP (.gsa) THAT YtihndopckmdpbaaDoorProg.lean LOADS. Nothing in Lean hashes anything: it is a label: what it is worth is what the hold of that sum in a sandbox is worth. -/
noncomputable def Tryd.pinned : Pinned := { name := "ytihndopckmdpbaadoor", sum := "82522bf18436f9f4cc5102bfca4455340e98c0cf647b87ef1d47d706588c3e5c", checked := Tryd.checked }
namespace Rows
def none {H : Type} : Left H := { results := [], args := [] }

/- WHAT THE LISTED PACKAGE-LEVEL VARIABLES READ AS WHEN THE CALL BEGINS. Each datum BY PROGRAM (the guide's laid-datum.mjs) off the statement by which the dump's own 'gosem.cut.vars' lays the variable. In a bare row this is a premise. The card (YtihndopckmdpbaaDoorCards.lean) ties it to the program's text. -/
def laid_unicode_utf8_acceptRanges {H : Type} : DataW H := .agg [.agg [.lit (.int .u8 128), .lit (.int .u8 191)], .agg [.lit (.int .u8 160), .lit (.int .u8 191)], .agg [.lit (.int .u8 128), .lit (.int .u8 159)], .agg [.lit (.int .u8 144), .lit (.int .u8 191)], .agg [.lit (.int .u8 128), .lit (.int .u8 143)], .agg [.lit (.int .u8 0), .lit (.int .u8 0)], .agg [.lit (.int .u8 0), .lit (.int .u8 0)], .agg [.lit (.int .u8 0), .lit (.int .u8 0)], .agg [.lit (.int .u8 0), .lit (.int .u8 0)], .agg [.lit (.int .u8 0), .lit (.int .u8 0)], .agg [.lit (.int .u8 0), .lit (.int .u8 0)], .agg [.lit (.int .u8 0), .lit (.int .u8 0)], .agg [.lit (.int .u8 0), .lit (.int .u8 0)], .agg [.lit (.int .u8 0), .lit (.int .u8 0)], .agg [.lit (.int .u8 0), .lit (.int .u8 0)], .agg [.lit (.int .u8 0), .lit (.int .u8 0)]]
/-- One of Go's own tables, pinned by name: the form's constant. -/
def laid_unicode_utf8_first : DataW Unit := Go.Pinned.utf8First

/-- 'diptychlaw2.CodecPrints': WHATEVER THE INPUT: true; the input reads as it did. -/
def codecPrintsSpec : ChangeSpec := { name := "codecPrints", fn := fun _ => fun
  | [d1, d2] => { results := [.lit (.bool true)], args := [d1, d2] }
  | _ => none }
def codecPrintsRow : OpenClaim := { program := "ytihndopckmdpbaadoor", sum := "82522bf18436f9f4cc5102bfca4455340e98c0cf647b87ef1d47d706588c3e5c", func := "diptych/diptychlaw2.CodecPrints", spec := "codecPrints", inPlace := ["internal/bytealg.IndexByteString", "internal/bytealg.IndexString", "internal/bytealg.CountString", "internal/abi.NoEscape", "internal/bytealg.MakeNoZero"], recurses := true, named := ["unicode/utf8.first", "unicode/utf8.acceptRanges", "internal/bytealg.MaxLen"], loops := true, apart := false, laid := [("unicode/utf8.acceptRanges", laid_unicode_utf8_acceptRanges), ("unicode/utf8.first", laid_unicode_utf8_first)] }
def CodecPrintsSaid : Prop := codecPrintsRow.holds Tryd.pinned (OpenSpec.ofChange codecPrintsSpec)

/-- ITS FALSE NEIGHBOUR: 'it returns false'. Refute it at one input. -/
def codecPrintsWrong : ChangeSpec := { name := "codecPrints", fn := fun _ => fun
  | [d1, d2] => { results := [.lit (.bool false)], args := [d1, d2] }
  | _ => none }
def CodecPrintsWrongFalsely : Prop := codecPrintsRow.holds Tryd.pinned (OpenSpec.ofChange codecPrintsWrong)

/-- 'diptychlaw2.CodecApart': WHATEVER THE INPUT: true; the input reads as it did. -/
def codecApartSpec : ChangeSpec := { name := "codecApart", fn := fun _ => fun
  | [d1, d2, d3, d4] => { results := [.lit (.bool true)], args := [d1, d2, d3, d4] }
  | _ => none }
def codecApartRow : OpenClaim := { program := "ytihndopckmdpbaadoor", sum := "82522bf18436f9f4cc5102bfca4455340e98c0cf647b87ef1d47d706588c3e5c", func := "diptych/diptychlaw2.CodecApart", spec := "codecApart", inPlace := ["internal/bytealg.IndexByteString", "internal/bytealg.IndexString", "internal/bytealg.CountString", "internal/abi.NoEscape", "internal/bytealg.MakeNoZero"], unfollowed := true, recurses := true, named := ["unicode/utf8.first", "unicode/utf8.acceptRanges", "internal/bytealg.MaxLen"], apart := false, laid := [("unicode/utf8.acceptRanges", laid_unicode_utf8_acceptRanges), ("unicode/utf8.first", laid_unicode_utf8_first)] }
def CodecApartSaid : Prop := codecApartRow.holds Tryd.pinned (OpenSpec.ofChange codecApartSpec)

/-- ITS FALSE NEIGHBOUR: 'it returns false'. Refute it at one input. -/
def codecApartWrong : ChangeSpec := { name := "codecApart", fn := fun _ => fun
  | [d1, d2, d3, d4] => { results := [.lit (.bool false)], args := [d1, d2, d3, d4] }
  | _ => none }
def CodecApartWrongFalsely : Prop := codecApartRow.holds Tryd.pinned (OpenSpec.ofChange codecApartWrong)

/-- 'diptychlaw2.CodecParses': WHATEVER THE INPUT: true; the input reads as it did. -/
def codecParsesSpec : ChangeSpec := { name := "codecParses", fn := fun _ => fun
  | [d] => { results := [.lit (.bool true)], args := [d] }
  | _ => none }
def codecParsesRow : OpenClaim := { program := "ytihndopckmdpbaadoor", sum := "82522bf18436f9f4cc5102bfca4455340e98c0cf647b87ef1d47d706588c3e5c", func := "diptych/diptychlaw2.CodecParses", spec := "codecParses", inPlace := ["internal/bytealg.IndexByteString", "internal/bytealg.IndexString", "internal/bytealg.CountString", "internal/abi.NoEscape", "internal/bytealg.MakeNoZero"], recurses := true, named := ["unicode/utf8.first", "unicode/utf8.acceptRanges", "internal/bytealg.MaxLen"], apart := false, laid := [("unicode/utf8.acceptRanges", laid_unicode_utf8_acceptRanges), ("unicode/utf8.first", laid_unicode_utf8_first)] }
def CodecParsesSaid : Prop := codecParsesRow.holds Tryd.pinned (OpenSpec.ofChange codecParsesSpec)

/-- ITS FALSE NEIGHBOUR: 'it returns false'. Refute it at one input. -/
def codecParsesWrong : ChangeSpec := { name := "codecParses", fn := fun _ => fun
  | [d] => { results := [.lit (.bool false)], args := [d] }
  | _ => none }
def CodecParsesWrongFalsely : Prop := codecParsesRow.holds Tryd.pinned (OpenSpec.ofChange codecParsesWrong)

/-- 'diptychlaw2.CodecParts': WHATEVER THE INPUT: true; the input reads as it did. -/
def codecPartsSpec : ChangeSpec := { name := "codecParts", fn := fun _ => fun
  | [d] => { results := [.lit (.bool true)], args := [d] }
  | _ => none }
def codecPartsRow : OpenClaim := { program := "ytihndopckmdpbaadoor", sum := "82522bf18436f9f4cc5102bfca4455340e98c0cf647b87ef1d47d706588c3e5c", func := "diptych/diptychlaw2.CodecParts", spec := "codecParts", inPlace := ["internal/bytealg.IndexByteString", "internal/bytealg.IndexString", "internal/bytealg.CountString", "internal/abi.NoEscape", "internal/bytealg.MakeNoZero"], unfollowed := true, recurses := true, named := ["unicode/utf8.first", "unicode/utf8.acceptRanges", "internal/bytealg.MaxLen"], apart := false, laid := [("unicode/utf8.acceptRanges", laid_unicode_utf8_acceptRanges), ("unicode/utf8.first", laid_unicode_utf8_first)] }
def CodecPartsSaid : Prop := codecPartsRow.holds Tryd.pinned (OpenSpec.ofChange codecPartsSpec)

/-- ITS FALSE NEIGHBOUR: 'it returns false'. Refute it at one input. -/
def codecPartsWrong : ChangeSpec := { name := "codecParts", fn := fun _ => fun
  | [d] => { results := [.lit (.bool false)], args := [d] }
  | _ => none }
def CodecPartsWrongFalsely : Prop := codecPartsRow.holds Tryd.pinned (OpenSpec.ofChange codecPartsWrong)

/-- 'diptychlaw2.CodecQuotes': WHATEVER THE INPUT: true; the input reads as it did. -/
def codecQuotesSpec : ChangeSpec := { name := "codecQuotes", fn := fun _ => fun
  | [d] => { results := [.lit (.bool true)], args := [d] }
  | _ => none }
def codecQuotesRow : OpenClaim := { program := "ytihndopckmdpbaadoor", sum := "82522bf18436f9f4cc5102bfca4455340e98c0cf647b87ef1d47d706588c3e5c", func := "diptych/diptychlaw2.CodecQuotes", spec := "codecQuotes", inPlace := ["internal/bytealg.IndexByteString", "internal/bytealg.IndexString", "internal/bytealg.CountString", "internal/abi.NoEscape", "internal/bytealg.MakeNoZero"], unfollowed := true, recurses := true, named := ["unicode/utf8.first", "unicode/utf8.acceptRanges", "internal/bytealg.MaxLen"], apart := false, laid := [("unicode/utf8.acceptRanges", laid_unicode_utf8_acceptRanges), ("unicode/utf8.first", laid_unicode_utf8_first)] }
def CodecQuotesSaid : Prop := codecQuotesRow.holds Tryd.pinned (OpenSpec.ofChange codecQuotesSpec)

/-- ITS FALSE NEIGHBOUR: 'it returns false'. Refute it at one input. -/
def codecQuotesWrong : ChangeSpec := { name := "codecQuotes", fn := fun _ => fun
  | [d] => { results := [.lit (.bool false)], args := [d] }
  | _ => none }
def CodecQuotesWrongFalsely : Prop := codecQuotesRow.holds Tryd.pinned (OpenSpec.ofChange codecQuotesWrong)

/-- 'diptychlaw2.CodecDeep': WHATEVER THE INPUT: true; the input reads as it did. -/
def codecDeepSpec : ChangeSpec := { name := "codecDeep", fn := fun _ => fun
  | [d1, d2] => { results := [.lit (.bool true)], args := [d1, d2] }
  | _ => none }
def codecDeepRow : OpenClaim := { program := "ytihndopckmdpbaadoor", sum := "82522bf18436f9f4cc5102bfca4455340e98c0cf647b87ef1d47d706588c3e5c", func := "diptych/diptychlaw2.CodecDeep", spec := "codecDeep", inPlace := ["internal/bytealg.IndexByteString", "internal/bytealg.IndexString", "internal/bytealg.CountString", "internal/abi.NoEscape", "internal/bytealg.MakeNoZero"], unfollowed := true, recurses := true, named := ["unicode/utf8.first", "unicode/utf8.acceptRanges", "internal/bytealg.MaxLen"], apart := false, laid := [("unicode/utf8.acceptRanges", laid_unicode_utf8_acceptRanges), ("unicode/utf8.first", laid_unicode_utf8_first)] }
def CodecDeepSaid : Prop := codecDeepRow.holds Tryd.pinned (OpenSpec.ofChange codecDeepSpec)

/-- ITS FALSE NEIGHBOUR: 'it returns false'. Refute it at one input. -/
def codecDeepWrong : ChangeSpec := { name := "codecDeep", fn := fun _ => fun
  | [d1, d2] => { results := [.lit (.bool false)], args := [d1, d2] }
  | _ => none }
def CodecDeepWrongFalsely : Prop := codecDeepRow.holds Tryd.pinned (OpenSpec.ofChange codecDeepWrong)

/-- 'diptychlaw2.CodecBack': WHATEVER THE INPUT: true; the input reads as it did. -/
def codecBackSpec : ChangeSpec := { name := "codecBack", fn := fun _ => fun
  | [d1, d2, d3] => { results := [.lit (.bool true)], args := [d1, d2, d3] }
  | _ => none }
def codecBackRow : OpenClaim := { program := "ytihndopckmdpbaadoor", sum := "82522bf18436f9f4cc5102bfca4455340e98c0cf647b87ef1d47d706588c3e5c", func := "diptych/diptychlaw2.CodecBack", spec := "codecBack", inPlace := ["internal/bytealg.IndexByteString", "internal/bytealg.IndexString", "internal/bytealg.CountString", "internal/abi.NoEscape", "internal/bytealg.MakeNoZero"], unfollowed := true, recurses := true, named := ["unicode/utf8.first", "unicode/utf8.acceptRanges", "internal/bytealg.MaxLen"], apart := false, laid := [("unicode/utf8.acceptRanges", laid_unicode_utf8_acceptRanges), ("unicode/utf8.first", laid_unicode_utf8_first)] }
def CodecBackSaid : Prop := codecBackRow.holds Tryd.pinned (OpenSpec.ofChange codecBackSpec)

/-- ITS FALSE NEIGHBOUR: 'it returns false'. Refute it at one input. -/
def codecBackWrong : ChangeSpec := { name := "codecBack", fn := fun _ => fun
  | [d1, d2, d3] => { results := [.lit (.bool false)], args := [d1, d2, d3] }
  | _ => none }
def CodecBackWrongFalsely : Prop := codecBackRow.holds Tryd.pinned (OpenSpec.ofChange codecBackWrong)

/- THE SECOND FORM. 'bulk': how many values and letters a reading holds, each counted each time it is reached (what is shared counts as often as it is met; a slice's spare places count too). A statement '..UptoSaid' is the law's where the arguments, and the package variables that the reading takes, are together of bulk at most 1048576: NARROWER than '..Said'. Prove '..Said' where nothing that the law and all that it calls make is longer than what came in: it says more and counts as full. Else prove '..UptoSaid'. A law counts once. -/
mutual
def uptoBulk {H : Type} : DataW H → Nat
  | .lit (.string bytes) => bytes.length + 1
  | .lit _ => 1
  | .nil => 1
  | .ptr d => uptoBulk d + 1
  | .slice elems spare => uptoBulkAll elems + uptoBulkAll spare + 1
  | .agg parts => uptoBulkAll parts + 1
  | .iface _ d => uptoBulk d + 1
  | .map entries => uptoBulkEntries entries + 1
  | .held _ => 1
def uptoBulkAll {H : Type} : List (DataW H) → Nat
  | [] => 0
  | d :: r => uptoBulk d + uptoBulkAll r
def uptoBulkEntries {H : Type} : List (Lit × DataW H) → Nat
  | [] => 0
  | x :: r => uptoBulkEntry x + uptoBulkEntries r
def uptoBulkEntry {H : Type} : Lit × DataW H → Nat
  | (.string bytes, d) => bytes.length + uptoBulk d + 1
  | (_, d) => uptoBulk d + 1
 end
def uptoSmall : (H : Type) → List (DataW H) → Bool := fun _ ds => decide (uptoBulkAll ds ≤ 1048576)
def OpenSpec.upto (s : _root_.Go.ChangeSpec) : _root_.Go.OpenSpec := { _root_.Go.OpenSpec.ofChange s with cond := some uptoSmall }

/-- 'diptychlaw2.CodecPrints', WHERE WHAT IT READS IS OF BULK AT MOST 1048576: true; the input reads as it did. -/
def codecPrintsUptoRow : OpenClaim := { program := "ytihndopckmdpbaadoor", sum := "82522bf18436f9f4cc5102bfca4455340e98c0cf647b87ef1d47d706588c3e5c", func := "diptych/diptychlaw2.CodecPrints", spec := "codecPrints", inPlace := ["internal/bytealg.IndexByteString", "internal/bytealg.IndexString", "internal/bytealg.CountString", "internal/abi.NoEscape", "internal/bytealg.MakeNoZero"], recurses := true, named := ["unicode/utf8.first", "unicode/utf8.acceptRanges", "internal/bytealg.MaxLen"], loops := true, apart := false, laid := [("unicode/utf8.acceptRanges", laid_unicode_utf8_acceptRanges), ("unicode/utf8.first", laid_unicode_utf8_first)], narrowed := true }
def CodecPrintsUptoSaid : Prop := codecPrintsUptoRow.holds Tryd.pinned (OpenSpec.upto codecPrintsSpec)

/-- 'diptychlaw2.CodecApart', WHERE WHAT IT READS IS OF BULK AT MOST 1048576: true; the input reads as it did. -/
def codecApartUptoRow : OpenClaim := { program := "ytihndopckmdpbaadoor", sum := "82522bf18436f9f4cc5102bfca4455340e98c0cf647b87ef1d47d706588c3e5c", func := "diptych/diptychlaw2.CodecApart", spec := "codecApart", inPlace := ["internal/bytealg.IndexByteString", "internal/bytealg.IndexString", "internal/bytealg.CountString", "internal/abi.NoEscape", "internal/bytealg.MakeNoZero"], unfollowed := true, recurses := true, named := ["unicode/utf8.first", "unicode/utf8.acceptRanges", "internal/bytealg.MaxLen"], apart := false, laid := [("unicode/utf8.acceptRanges", laid_unicode_utf8_acceptRanges), ("unicode/utf8.first", laid_unicode_utf8_first)], narrowed := true }
def CodecApartUptoSaid : Prop := codecApartUptoRow.holds Tryd.pinned (OpenSpec.upto codecApartSpec)

/-- 'diptychlaw2.CodecParses', WHERE WHAT IT READS IS OF BULK AT MOST 1048576: true; the input reads as it did. -/
def codecParsesUptoRow : OpenClaim := { program := "ytihndopckmdpbaadoor", sum := "82522bf18436f9f4cc5102bfca4455340e98c0cf647b87ef1d47d706588c3e5c", func := "diptych/diptychlaw2.CodecParses", spec := "codecParses", inPlace := ["internal/bytealg.IndexByteString", "internal/bytealg.IndexString", "internal/bytealg.CountString", "internal/abi.NoEscape", "internal/bytealg.MakeNoZero"], recurses := true, named := ["unicode/utf8.first", "unicode/utf8.acceptRanges", "internal/bytealg.MaxLen"], apart := false, laid := [("unicode/utf8.acceptRanges", laid_unicode_utf8_acceptRanges), ("unicode/utf8.first", laid_unicode_utf8_first)], narrowed := true }
def CodecParsesUptoSaid : Prop := codecParsesUptoRow.holds Tryd.pinned (OpenSpec.upto codecParsesSpec)

/-- 'diptychlaw2.CodecParts', WHERE WHAT IT READS IS OF BULK AT MOST 1048576: true; the input reads as it did. -/
def codecPartsUptoRow : OpenClaim := { program := "ytihndopckmdpbaadoor", sum := "82522bf18436f9f4cc5102bfca4455340e98c0cf647b87ef1d47d706588c3e5c", func := "diptych/diptychlaw2.CodecParts", spec := "codecParts", inPlace := ["internal/bytealg.IndexByteString", "internal/bytealg.IndexString", "internal/bytealg.CountString", "internal/abi.NoEscape", "internal/bytealg.MakeNoZero"], unfollowed := true, recurses := true, named := ["unicode/utf8.first", "unicode/utf8.acceptRanges", "internal/bytealg.MaxLen"], apart := false, laid := [("unicode/utf8.acceptRanges", laid_unicode_utf8_acceptRanges), ("unicode/utf8.first", laid_unicode_utf8_first)], narrowed := true }
def CodecPartsUptoSaid : Prop := codecPartsUptoRow.holds Tryd.pinned (OpenSpec.upto codecPartsSpec)

/-- 'diptychlaw2.CodecQuotes', WHERE WHAT IT READS IS OF BULK AT MOST 1048576: true; the input reads as it did. -/
def codecQuotesUptoRow : OpenClaim := { program := "ytihndopckmdpbaadoor", sum := "82522bf18436f9f4cc5102bfca4455340e98c0cf647b87ef1d47d706588c3e5c", func := "diptych/diptychlaw2.CodecQuotes", spec := "codecQuotes", inPlace := ["internal/bytealg.IndexByteString", "internal/bytealg.IndexString", "internal/bytealg.CountString", "internal/abi.NoEscape", "internal/bytealg.MakeNoZero"], unfollowed := true, recurses := true, named := ["unicode/utf8.first", "unicode/utf8.acceptRanges", "internal/bytealg.MaxLen"], apart := false, laid := [("unicode/utf8.acceptRanges", laid_unicode_utf8_acceptRanges), ("unicode/utf8.first", laid_unicode_utf8_first)], narrowed := true }
def CodecQuotesUptoSaid : Prop := codecQuotesUptoRow.holds Tryd.pinned (OpenSpec.upto codecQuotesSpec)

/-- 'diptychlaw2.CodecDeep', WHERE WHAT IT READS IS OF BULK AT MOST 1048576: true; the input reads as it did. -/
def codecDeepUptoRow : OpenClaim := { program := "ytihndopckmdpbaadoor", sum := "82522bf18436f9f4cc5102bfca4455340e98c0cf647b87ef1d47d706588c3e5c", func := "diptych/diptychlaw2.CodecDeep", spec := "codecDeep", inPlace := ["internal/bytealg.IndexByteString", "internal/bytealg.IndexString", "internal/bytealg.CountString", "internal/abi.NoEscape", "internal/bytealg.MakeNoZero"], unfollowed := true, recurses := true, named := ["unicode/utf8.first", "unicode/utf8.acceptRanges", "internal/bytealg.MaxLen"], apart := false, laid := [("unicode/utf8.acceptRanges", laid_unicode_utf8_acceptRanges), ("unicode/utf8.first", laid_unicode_utf8_first)], narrowed := true }
def CodecDeepUptoSaid : Prop := codecDeepUptoRow.holds Tryd.pinned (OpenSpec.upto codecDeepSpec)

/-- 'diptychlaw2.CodecBack', WHERE WHAT IT READS IS OF BULK AT MOST 1048576: true; the input reads as it did. -/
def codecBackUptoRow : OpenClaim := { program := "ytihndopckmdpbaadoor", sum := "82522bf18436f9f4cc5102bfca4455340e98c0cf647b87ef1d47d706588c3e5c", func := "diptych/diptychlaw2.CodecBack", spec := "codecBack", inPlace := ["internal/bytealg.IndexByteString", "internal/bytealg.IndexString", "internal/bytealg.CountString", "internal/abi.NoEscape", "internal/bytealg.MakeNoZero"], unfollowed := true, recurses := true, named := ["unicode/utf8.first", "unicode/utf8.acceptRanges", "internal/bytealg.MaxLen"], apart := false, laid := [("unicode/utf8.acceptRanges", laid_unicode_utf8_acceptRanges), ("unicode/utf8.first", laid_unicode_utf8_first)], narrowed := true }
def CodecBackUptoSaid : Prop := codecBackUptoRow.holds Tryd.pinned (OpenSpec.upto codecBackSpec)

end Rows
end Go.Proofs.YtihndopckmdpbaaDoor
