/-
  NARROWER THAN 'FOR EVERY INPUT', by the rows' own cells (each row's printed sentence says how): NodeOwn: laid · DiffSizes: laid · LensReads: loops, laid · LensParses: laid · LensBack: loops, laid · LensRows: loops, laid · LensTurns: loops, laid · LensApart: loops, laid · TokenBack: laid · TokenChange: laid · TokenJoins: laid.
  DERIVED. THE GIVEN ROWS OF THIS SEAT. 11 by the template 'for every input the law returns true; each argument reads behind the call as it read before'; 0 by the template 'total and deterministic' (their statements: YtpjdafhmneiohaaDoorTotals.lean).
  GIVEN WITH THE SEED: the statements are not yours to turn. If you find one false, say at which input.
  Laid BY PROGRAM, IN A SANDBOX (cutbox-rows.mjs): the forced cells as the released guide's own fill.sh prints them over the translation 1f617c43adc9246d… (all of the seat's roots in one cut). By AI agents, Wed Nov 11 2026. No macro, syntax, notation, axiom, sorry.
-/
import Derived.Test.YtpjdafhmneiohaaDoorChecked
import GoSem.PinnedTables
import GoSem.Claim
import GoSem.ClaimJoined
import GoSem.ClaimMapViews
import Derived.JoinedTies
import Derived.KernelRfl
namespace Go.Proofs.YtpjdafhmneiohaaDoor
/- THE CELL 'sum', in the pinned program and in every row, IS THE sha256 OF THE DUMP (.gsa) THAT YtpjdafhmneiohaaDoorProg.lean LOADS. Nothing in Lean hashes anything: it is a label: what it is worth is what the hold of that sum in a sandbox is worth. -/
noncomputable def Tryd.pinned : Pinned := { name := "ytpjdafhmneiohaadoor", sum := "1f617c43adc9246d5f1f17b70e6e7053f6c654a75b5a4495e77ade3299ce7e7c", checked := Tryd.checked }
namespace Rows
def none {H : Type} : Left H := { results := [], args := [] }

/- WHAT THE LISTED PACKAGE-LEVEL VARIABLES READ AS WHEN THE CALL BEGINS. Each datum BY PROGRAM (the guide's laid-datum.mjs) off the statement by which the dump's own 'gosem.cut.vars' lays the variable. In a bare row this is a premise. The card (YtpjdafhmneiohaaDoorCards.lean) ties it to the program's text. -/
def laid_unicode_utf8_acceptRanges {H : Type} : DataW H := .agg [.agg [.lit (.int .u8 128), .lit (.int .u8 191)], .agg [.lit (.int .u8 160), .lit (.int .u8 191)], .agg [.lit (.int .u8 128), .lit (.int .u8 159)], .agg [.lit (.int .u8 144), .lit (.int .u8 191)], .agg [.lit (.int .u8 128), .lit (.int .u8 143)], .agg [.lit (.int .u8 0), .lit (.int .u8 0)], .agg [.lit (.int .u8 0), .lit (.int .u8 0)], .agg [.lit (.int .u8 0), .lit (.int .u8 0)], .agg [.lit (.int .u8 0), .lit (.int .u8 0)], .agg [.lit (.int .u8 0), .lit (.int .u8 0)], .agg [.lit (.int .u8 0), .lit (.int .u8 0)], .agg [.lit (.int .u8 0), .lit (.int .u8 0)], .agg [.lit (.int .u8 0), .lit (.int .u8 0)], .agg [.lit (.int .u8 0), .lit (.int .u8 0)], .agg [.lit (.int .u8 0), .lit (.int .u8 0)], .agg [.lit (.int .u8 0), .lit (.int .u8 0)]]
/-- One of Go's own tables, pinned by name: the form's constant. -/
def laid_unicode_utf8_first : DataW Unit := Go.Pinned.utf8First

/-- 'diptychlaw1.NodeOwn': WHATEVER THE INPUT: true; the input reads as it did. -/
def nodeOwnSpec : ChangeSpec := { name := "nodeOwn", fn := fun _ => fun
  | [d] => { results := [.lit (.bool true)], args := [d] }
  | _ => none }
def nodeOwnRow : OpenClaim := { program := "ytpjdafhmneiohaadoor", sum := "1f617c43adc9246d5f1f17b70e6e7053f6c654a75b5a4495e77ade3299ce7e7c", func := "diptych/diptychlaw1.NodeOwn", spec := "nodeOwn", inPlace := ["internal/bytealg.IndexByteString", "internal/bytealg.IndexString"], unfollowed := true, recurses := true, named := ["unicode/utf8.first", "unicode/utf8.acceptRanges", "internal/bytealg.MaxLen"], apart := false, laid := [("unicode/utf8.acceptRanges", laid_unicode_utf8_acceptRanges), ("unicode/utf8.first", laid_unicode_utf8_first)] }
def NodeOwnSaid : Prop := nodeOwnRow.holds Tryd.pinned (OpenSpec.ofChange nodeOwnSpec)

/-- ITS FALSE NEIGHBOUR: 'it returns false'. Refute it at one input. -/
def nodeOwnWrong : ChangeSpec := { name := "nodeOwn", fn := fun _ => fun
  | [d] => { results := [.lit (.bool false)], args := [d] }
  | _ => none }
def NodeOwnWrongFalsely : Prop := nodeOwnRow.holds Tryd.pinned (OpenSpec.ofChange nodeOwnWrong)

/-- 'diptychlaw18.DiffSizes': WHATEVER THE INPUT: true; the input reads as it did. -/
def diffSizesSpec : ChangeSpec := { name := "diffSizes", fn := fun _ => fun
  | [d1, d2] => { results := [.lit (.bool true)], args := [d1, d2] }
  | _ => none }
def diffSizesRow : OpenClaim := { program := "ytpjdafhmneiohaadoor", sum := "1f617c43adc9246d5f1f17b70e6e7053f6c654a75b5a4495e77ade3299ce7e7c", func := "diptych/diptychlaw18.DiffSizes", spec := "diffSizes", inPlace := ["internal/bytealg.IndexByteString", "internal/bytealg.IndexString"], unfollowed := true, recurses := true, named := ["unicode/utf8.first", "unicode/utf8.acceptRanges", "internal/bytealg.MaxLen"], apart := false, laid := [("unicode/utf8.acceptRanges", laid_unicode_utf8_acceptRanges), ("unicode/utf8.first", laid_unicode_utf8_first)] }
def DiffSizesSaid : Prop := diffSizesRow.holds Tryd.pinned (OpenSpec.ofChange diffSizesSpec)

/-- ITS FALSE NEIGHBOUR: 'it returns false'. Refute it at one input. -/
def diffSizesWrong : ChangeSpec := { name := "diffSizes", fn := fun _ => fun
  | [d1, d2] => { results := [.lit (.bool false)], args := [d1, d2] }
  | _ => none }
def DiffSizesWrongFalsely : Prop := diffSizesRow.holds Tryd.pinned (OpenSpec.ofChange diffSizesWrong)

/-- 'diptychlaw13.LensReads': WHATEVER THE INPUT: true; the input reads as it did. -/
def lensReadsSpec : ChangeSpec := { name := "lensReads", fn := fun _ => fun
  | [d] => { results := [.lit (.bool true)], args := [d] }
  | _ => none }
def lensReadsRow : OpenClaim := { program := "ytpjdafhmneiohaadoor", sum := "1f617c43adc9246d5f1f17b70e6e7053f6c654a75b5a4495e77ade3299ce7e7c", func := "diptych/diptychlaw13.LensReads", spec := "lensReads", inPlace := ["internal/bytealg.IndexByteString", "internal/bytealg.IndexString", "internal/bytealg.CountString", "internal/abi.NoEscape", "internal/bytealg.MakeNoZero"], unfollowed := true, recurses := true, named := ["unicode/utf8.first", "unicode/utf8.acceptRanges", "internal/bytealg.MaxLen"], loops := true, apart := false, laid := [("unicode/utf8.acceptRanges", laid_unicode_utf8_acceptRanges), ("unicode/utf8.first", laid_unicode_utf8_first)] }
def LensReadsSaid : Prop := lensReadsRow.holds Tryd.pinned (OpenSpec.ofChange lensReadsSpec)

/-- ITS FALSE NEIGHBOUR: 'it returns false'. Refute it at one input. -/
def lensReadsWrong : ChangeSpec := { name := "lensReads", fn := fun _ => fun
  | [d] => { results := [.lit (.bool false)], args := [d] }
  | _ => none }
def LensReadsWrongFalsely : Prop := lensReadsRow.holds Tryd.pinned (OpenSpec.ofChange lensReadsWrong)

/-- 'diptychlaw13.LensParses': WHATEVER THE INPUT: true; the input reads as it did. -/
def lensParsesSpec : ChangeSpec := { name := "lensParses", fn := fun _ => fun
  | [d] => { results := [.lit (.bool true)], args := [d] }
  | _ => none }
def lensParsesRow : OpenClaim := { program := "ytpjdafhmneiohaadoor", sum := "1f617c43adc9246d5f1f17b70e6e7053f6c654a75b5a4495e77ade3299ce7e7c", func := "diptych/diptychlaw13.LensParses", spec := "lensParses", inPlace := ["internal/bytealg.IndexByteString", "internal/bytealg.IndexString", "internal/bytealg.CountString", "internal/abi.NoEscape", "internal/bytealg.MakeNoZero"], unfollowed := true, recurses := true, named := ["unicode/utf8.first", "unicode/utf8.acceptRanges", "internal/bytealg.MaxLen"], apart := false, laid := [("unicode/utf8.acceptRanges", laid_unicode_utf8_acceptRanges), ("unicode/utf8.first", laid_unicode_utf8_first)] }
def LensParsesSaid : Prop := lensParsesRow.holds Tryd.pinned (OpenSpec.ofChange lensParsesSpec)

/-- ITS FALSE NEIGHBOUR: 'it returns false'. Refute it at one input. -/
def lensParsesWrong : ChangeSpec := { name := "lensParses", fn := fun _ => fun
  | [d] => { results := [.lit (.bool false)], args := [d] }
  | _ => none }
def LensParsesWrongFalsely : Prop := lensParsesRow.holds Tryd.pinned (OpenSpec.ofChange lensParsesWrong)

/-- 'diptychlaw13.LensBack': WHATEVER THE INPUT: true; the input reads as it did. -/
def lensBackSpec : ChangeSpec := { name := "lensBack", fn := fun _ => fun
  | [d1, d2] => { results := [.lit (.bool true)], args := [d1, d2] }
  | _ => none }
def lensBackRow : OpenClaim := { program := "ytpjdafhmneiohaadoor", sum := "1f617c43adc9246d5f1f17b70e6e7053f6c654a75b5a4495e77ade3299ce7e7c", func := "diptych/diptychlaw13.LensBack", spec := "lensBack", inPlace := ["internal/bytealg.IndexByteString", "internal/bytealg.IndexString", "internal/bytealg.CountString", "internal/abi.NoEscape", "internal/bytealg.MakeNoZero"], unfollowed := true, recurses := true, named := ["unicode/utf8.first", "unicode/utf8.acceptRanges", "internal/bytealg.MaxLen"], loops := true, apart := false, laid := [("unicode/utf8.acceptRanges", laid_unicode_utf8_acceptRanges), ("unicode/utf8.first", laid_unicode_utf8_first)] }
def LensBackSaid : Prop := lensBackRow.holds Tryd.pinned (OpenSpec.ofChange lensBackSpec)

/-- ITS FALSE NEIGHBOUR: 'it returns false'. Refute it at one input. -/
def lensBackWrong : ChangeSpec := { name := "lensBack", fn := fun _ => fun
  | [d1, d2] => { results := [.lit (.bool false)], args := [d1, d2] }
  | _ => none }
def LensBackWrongFalsely : Prop := lensBackRow.holds Tryd.pinned (OpenSpec.ofChange lensBackWrong)

/-- 'diptychlaw13.LensRows': WHATEVER THE INPUT: true; the input reads as it did. -/
def lensRowsSpec : ChangeSpec := { name := "lensRows", fn := fun _ => fun
  | [d] => { results := [.lit (.bool true)], args := [d] }
  | _ => none }
def lensRowsRow : OpenClaim := { program := "ytpjdafhmneiohaadoor", sum := "1f617c43adc9246d5f1f17b70e6e7053f6c654a75b5a4495e77ade3299ce7e7c", func := "diptych/diptychlaw13.LensRows", spec := "lensRows", inPlace := ["internal/bytealg.IndexByteString", "internal/bytealg.IndexString", "internal/bytealg.CountString", "internal/abi.NoEscape", "internal/bytealg.MakeNoZero"], unfollowed := true, recurses := true, named := ["unicode/utf8.first", "unicode/utf8.acceptRanges", "internal/bytealg.MaxLen"], loops := true, apart := false, laid := [("unicode/utf8.acceptRanges", laid_unicode_utf8_acceptRanges), ("unicode/utf8.first", laid_unicode_utf8_first)] }
def LensRowsSaid : Prop := lensRowsRow.holds Tryd.pinned (OpenSpec.ofChange lensRowsSpec)

/-- ITS FALSE NEIGHBOUR: 'it returns false'. Refute it at one input. -/
def lensRowsWrong : ChangeSpec := { name := "lensRows", fn := fun _ => fun
  | [d] => { results := [.lit (.bool false)], args := [d] }
  | _ => none }
def LensRowsWrongFalsely : Prop := lensRowsRow.holds Tryd.pinned (OpenSpec.ofChange lensRowsWrong)

/-- 'diptychlaw13.LensTurns': WHATEVER THE INPUT: true; the input reads as it did. -/
def lensTurnsSpec : ChangeSpec := { name := "lensTurns", fn := fun _ => fun
  | [d] => { results := [.lit (.bool true)], args := [d] }
  | _ => none }
def lensTurnsRow : OpenClaim := { program := "ytpjdafhmneiohaadoor", sum := "1f617c43adc9246d5f1f17b70e6e7053f6c654a75b5a4495e77ade3299ce7e7c", func := "diptych/diptychlaw13.LensTurns", spec := "lensTurns", inPlace := ["internal/bytealg.IndexByteString", "internal/bytealg.IndexString", "internal/bytealg.CountString", "internal/abi.NoEscape", "internal/bytealg.MakeNoZero"], unfollowed := true, recurses := true, named := ["unicode/utf8.first", "unicode/utf8.acceptRanges", "internal/bytealg.MaxLen"], loops := true, apart := false, laid := [("unicode/utf8.acceptRanges", laid_unicode_utf8_acceptRanges), ("unicode/utf8.first", laid_unicode_utf8_first)] }
def LensTurnsSaid : Prop := lensTurnsRow.holds Tryd.pinned (OpenSpec.ofChange lensTurnsSpec)

/-- ITS FALSE NEIGHBOUR: 'it returns false'. Refute it at one input. -/
def lensTurnsWrong : ChangeSpec := { name := "lensTurns", fn := fun _ => fun
  | [d] => { results := [.lit (.bool false)], args := [d] }
  | _ => none }
def LensTurnsWrongFalsely : Prop := lensTurnsRow.holds Tryd.pinned (OpenSpec.ofChange lensTurnsWrong)

/-- 'diptychlaw13.LensApart': WHATEVER THE INPUT: true; the input reads as it did. -/
def lensApartSpec : ChangeSpec := { name := "lensApart", fn := fun _ => fun
  | [d1, d2] => { results := [.lit (.bool true)], args := [d1, d2] }
  | _ => none }
def lensApartRow : OpenClaim := { program := "ytpjdafhmneiohaadoor", sum := "1f617c43adc9246d5f1f17b70e6e7053f6c654a75b5a4495e77ade3299ce7e7c", func := "diptych/diptychlaw13.LensApart", spec := "lensApart", inPlace := ["internal/bytealg.IndexByteString", "internal/bytealg.IndexString", "internal/bytealg.CountString", "internal/abi.NoEscape", "internal/bytealg.MakeNoZero"], unfollowed := true, recurses := true, named := ["unicode/utf8.first", "unicode/utf8.acceptRanges", "internal/bytealg.MaxLen"], loops := true, apart := false, laid := [("unicode/utf8.acceptRanges", laid_unicode_utf8_acceptRanges), ("unicode/utf8.first", laid_unicode_utf8_first)] }
def LensApartSaid : Prop := lensApartRow.holds Tryd.pinned (OpenSpec.ofChange lensApartSpec)

/-- ITS FALSE NEIGHBOUR: 'it returns false'. Refute it at one input. -/
def lensApartWrong : ChangeSpec := { name := "lensApart", fn := fun _ => fun
  | [d1, d2] => { results := [.lit (.bool false)], args := [d1, d2] }
  | _ => none }
def LensApartWrongFalsely : Prop := lensApartRow.holds Tryd.pinned (OpenSpec.ofChange lensApartWrong)

/-- 'diptychlaw3.TokenBack': WHATEVER THE INPUT: true; the input reads as it did. -/
def tokenBackSpec : ChangeSpec := { name := "tokenBack", fn := fun _ => fun
  | [d1, d2] => { results := [.lit (.bool true)], args := [d1, d2] }
  | _ => none }
def tokenBackRow : OpenClaim := { program := "ytpjdafhmneiohaadoor", sum := "1f617c43adc9246d5f1f17b70e6e7053f6c654a75b5a4495e77ade3299ce7e7c", func := "diptych/diptychlaw3.TokenBack", spec := "tokenBack", inPlace := ["internal/abi.NoEscape", "internal/bytealg.MakeNoZero", "internal/bytealg.CountString", "internal/bytealg.IndexByteString", "internal/bytealg.IndexString"], unfollowed := true, recurses := true, named := ["internal/bytealg.MaxLen", "unicode/utf8.first", "unicode/utf8.acceptRanges"], apart := false, laid := [("unicode/utf8.acceptRanges", laid_unicode_utf8_acceptRanges), ("unicode/utf8.first", laid_unicode_utf8_first)] }
def TokenBackSaid : Prop := tokenBackRow.holds Tryd.pinned (OpenSpec.ofChange tokenBackSpec)

/-- ITS FALSE NEIGHBOUR: 'it returns false'. Refute it at one input. -/
def tokenBackWrong : ChangeSpec := { name := "tokenBack", fn := fun _ => fun
  | [d1, d2] => { results := [.lit (.bool false)], args := [d1, d2] }
  | _ => none }
def TokenBackWrongFalsely : Prop := tokenBackRow.holds Tryd.pinned (OpenSpec.ofChange tokenBackWrong)

/-- 'diptychlaw3.TokenChange': WHATEVER THE INPUT: true; the input reads as it did. -/
def tokenChangeSpec : ChangeSpec := { name := "tokenChange", fn := fun _ => fun
  | [d1, d2, d3] => { results := [.lit (.bool true)], args := [d1, d2, d3] }
  | _ => none }
def tokenChangeRow : OpenClaim := { program := "ytpjdafhmneiohaadoor", sum := "1f617c43adc9246d5f1f17b70e6e7053f6c654a75b5a4495e77ade3299ce7e7c", func := "diptych/diptychlaw3.TokenChange", spec := "tokenChange", inPlace := ["internal/abi.NoEscape", "internal/bytealg.MakeNoZero", "internal/bytealg.CountString", "internal/bytealg.IndexByteString", "internal/bytealg.IndexString"], unfollowed := true, recurses := true, named := ["internal/bytealg.MaxLen", "unicode/utf8.first", "unicode/utf8.acceptRanges"], apart := false, laid := [("unicode/utf8.acceptRanges", laid_unicode_utf8_acceptRanges), ("unicode/utf8.first", laid_unicode_utf8_first)] }
def TokenChangeSaid : Prop := tokenChangeRow.holds Tryd.pinned (OpenSpec.ofChange tokenChangeSpec)

/-- ITS FALSE NEIGHBOUR: 'it returns false'. Refute it at one input. -/
def tokenChangeWrong : ChangeSpec := { name := "tokenChange", fn := fun _ => fun
  | [d1, d2, d3] => { results := [.lit (.bool false)], args := [d1, d2, d3] }
  | _ => none }
def TokenChangeWrongFalsely : Prop := tokenChangeRow.holds Tryd.pinned (OpenSpec.ofChange tokenChangeWrong)

/-- 'diptychlaw3.TokenJoins': WHATEVER THE INPUT: true; the input reads as it did. -/
def tokenJoinsSpec : ChangeSpec := { name := "tokenJoins", fn := fun _ => fun
  | [d1, d2] => { results := [.lit (.bool true)], args := [d1, d2] }
  | _ => none }
def tokenJoinsRow : OpenClaim := { program := "ytpjdafhmneiohaadoor", sum := "1f617c43adc9246d5f1f17b70e6e7053f6c654a75b5a4495e77ade3299ce7e7c", func := "diptych/diptychlaw3.TokenJoins", spec := "tokenJoins", inPlace := ["internal/abi.NoEscape", "internal/bytealg.MakeNoZero", "internal/bytealg.CountString", "internal/bytealg.IndexByteString", "internal/bytealg.IndexString"], unfollowed := true, recurses := true, named := ["internal/bytealg.MaxLen", "unicode/utf8.first", "unicode/utf8.acceptRanges"], apart := false, laid := [("unicode/utf8.acceptRanges", laid_unicode_utf8_acceptRanges), ("unicode/utf8.first", laid_unicode_utf8_first)] }
def TokenJoinsSaid : Prop := tokenJoinsRow.holds Tryd.pinned (OpenSpec.ofChange tokenJoinsSpec)

/-- ITS FALSE NEIGHBOUR: 'it returns false'. Refute it at one input. -/
def tokenJoinsWrong : ChangeSpec := { name := "tokenJoins", fn := fun _ => fun
  | [d1, d2] => { results := [.lit (.bool false)], args := [d1, d2] }
  | _ => none }
def TokenJoinsWrongFalsely : Prop := tokenJoinsRow.holds Tryd.pinned (OpenSpec.ofChange tokenJoinsWrong)

/- THE SECOND FORM. 'bulk': how many values and letters a reading holds, each counted each time it is reached (what is shared counts as often as it is met; a slice's spare places count too). A statement '..UptoSaid' is the law's where the arguments, and the package variables that the reading takes, are together of bulk at most 1048576: NARROWER than '..Said'. Prove '..Said' where nothing that the law and all that it calls make is longer than what came in: it says more and counts as full. Else prove '..UptoSaid'. A law counts once. -/
mutual
def uptoBulk {H : Type} : DataW H → Nat
  | .lit (.string bytes) => bytes.length + 1
  | .lit _ => 1
  | .nil => 1
  | .ptr d => uptoBulk d + 1
  | .slice elems spare => uptoBulkAll elems + uptoBulkAll spare + 1
  | .agg parts => uptoBulkAll parts + 1
  | .iface _ d => uptoBulk d + 1
  | .map entries => uptoBulkEntries entries + 1
  | .held _ => 1
def uptoBulkAll {H : Type} : List (DataW H) → Nat
  | [] => 0
  | d :: r => uptoBulk d + uptoBulkAll r
def uptoBulkEntries {H : Type} : List (Lit × DataW H) → Nat
  | [] => 0
  | x :: r => uptoBulkEntry x + uptoBulkEntries r
def uptoBulkEntry {H : Type} : Lit × DataW H → Nat
  | (.string bytes, d) => bytes.length + uptoBulk d + 1
  | (_, d) => uptoBulk d + 1
 end
def uptoSmall : (H : Type) → List (DataW H) → Bool := fun _ ds => decide (uptoBulkAll ds ≤ 1048576)
def OpenSpec.upto (s : _root_.Go.ChangeSpec) : _root_.Go.OpenSpec := { _root_.Go.OpenSpec.ofChange s with cond := some uptoSmall }

/-- 'diptychlaw1.NodeOwn', WHERE WHAT IT READS IS OF BULK AT MOST 1048576: true; the input reads as it did. -/
def nodeOwnUptoRow : OpenClaim := { program := "ytpjdafhmneiohaadoor", sum := "1f617c43adc9246d5f1f17b70e6e7053f6c654a75b5a4495e77ade3299ce7e7c", func := "diptych/diptychlaw1.NodeOwn", spec := "nodeOwn", inPlace := ["internal/bytealg.IndexByteString", "internal/bytealg.IndexString"], unfollowed := true, recurses := true, named := ["unicode/utf8.first", "unicode/utf8.acceptRanges", "internal/bytealg.MaxLen"], apart := false, laid := [("unicode/utf8.acceptRanges", laid_unicode_utf8_acceptRanges), ("unicode/utf8.first", laid_unicode_utf8_first)], narrowed := true }
def NodeOwnUptoSaid : Prop := nodeOwnUptoRow.holds Tryd.pinned (OpenSpec.upto nodeOwnSpec)

/-- 'diptychlaw18.DiffSizes', WHERE WHAT IT READS IS OF BULK AT MOST 1048576: true; the input reads as it did. -/
def diffSizesUptoRow : OpenClaim := { program := "ytpjdafhmneiohaadoor", sum := "1f617c43adc9246d5f1f17b70e6e7053f6c654a75b5a4495e77ade3299ce7e7c", func := "diptych/diptychlaw18.DiffSizes", spec := "diffSizes", inPlace := ["internal/bytealg.IndexByteString", "internal/bytealg.IndexString"], unfollowed := true, recurses := true, named := ["unicode/utf8.first", "unicode/utf8.acceptRanges", "internal/bytealg.MaxLen"], apart := false, laid := [("unicode/utf8.acceptRanges", laid_unicode_utf8_acceptRanges), ("unicode/utf8.first", laid_unicode_utf8_first)], narrowed := true }
def DiffSizesUptoSaid : Prop := diffSizesUptoRow.holds Tryd.pinned (OpenSpec.upto diffSizesSpec)

/-- 'diptychlaw13.LensReads', WHERE WHAT IT READS IS OF BULK AT MOST 1048576: true; the input reads as it did. -/
def lensReadsUptoRow : OpenClaim := { program := "ytpjdafhmneiohaadoor", sum := "1f617c43adc9246d5f1f17b70e6e7053f6c654a75b5a4495e77ade3299ce7e7c", func := "diptych/diptychlaw13.LensReads", spec := "lensReads", inPlace := ["internal/bytealg.IndexByteString", "internal/bytealg.IndexString", "internal/bytealg.CountString", "internal/abi.NoEscape", "internal/bytealg.MakeNoZero"], unfollowed := true, recurses := true, named := ["unicode/utf8.first", "unicode/utf8.acceptRanges", "internal/bytealg.MaxLen"], loops := true, apart := false, laid := [("unicode/utf8.acceptRanges", laid_unicode_utf8_acceptRanges), ("unicode/utf8.first", laid_unicode_utf8_first)], narrowed := true }
def LensReadsUptoSaid : Prop := lensReadsUptoRow.holds Tryd.pinned (OpenSpec.upto lensReadsSpec)

/-- 'diptychlaw13.LensParses', WHERE WHAT IT READS IS OF BULK AT MOST 1048576: true; the input reads as it did. -/
def lensParsesUptoRow : OpenClaim := { program := "ytpjdafhmneiohaadoor", sum := "1f617c43adc9246d5f1f17b70e6e7053f6c654a75b5a4495e77ade3299ce7e7c", func := "diptych/diptychlaw13.LensParses", spec := "lensParses", inPlace := ["internal/bytealg.IndexByteString", "internal/bytealg.IndexString", "internal/bytealg.CountString", "internal/abi.NoEscape", "internal/bytealg.MakeNoZero"], unfollowed := true, recurses := true, named := ["unicode/utf8.first", "unicode/utf8.acceptRanges", "internal/bytealg.MaxLen"], apart := false, laid := [("unicode/utf8.acceptRanges", laid_unicode_utf8_acceptRanges), ("unicode/utf8.first", laid_unicode_utf8_first)], narrowed := true }
def LensParsesUptoSaid : Prop := lensParsesUptoRow.holds Tryd.pinned (OpenSpec.upto lensParsesSpec)

/-- 'diptychlaw13.LensBack', WHERE WHAT IT READS IS OF BULK AT MOST 1048576: true; the input reads as it did. -/
def lensBackUptoRow : OpenClaim := { program := "ytpjdafhmneiohaadoor", sum := "1f617c43adc9246d5f1f17b70e6e7053f6c654a75b5a4495e77ade3299ce7e7c", func := "diptych/diptychlaw13.LensBack", spec := "lensBack", inPlace := ["internal/bytealg.IndexByteString", "internal/bytealg.IndexString", "internal/bytealg.CountString", "internal/abi.NoEscape", "internal/bytealg.MakeNoZero"], unfollowed := true, recurses := true, named := ["unicode/utf8.first", "unicode/utf8.acceptRanges", "internal/bytealg.MaxLen"], loops := true, apart := false, laid := [("unicode/utf8.acceptRanges", laid_unicode_utf8_acceptRanges), ("unicode/utf8.first", laid_unicode_utf8_first)], narrowed := true }
def LensBackUptoSaid : Prop := lensBackUptoRow.holds Tryd.pinned (OpenSpec.upto lensBackSpec)

/-- 'diptychlaw13.LensRows', WHERE WHAT IT READS IS OF BULK AT MOST 1048576: true; the input reads as it did. -/
def lensRowsUptoRow : OpenClaim := { program := "ytpjdafhmneiohaadoor", sum := "1f617c43adc9246d5f1f17b70e6e7053f6c654a75b5a4495e77ade3299ce7e7c", func := "diptych/diptychlaw13.LensRows", spec := "lensRows", inPlace := ["internal/bytealg.IndexByteString", "internal/bytealg.IndexString", "internal/bytealg.CountString", "internal/abi.NoEscape", "internal/bytealg.MakeNoZero"], unfollowed := true, recurses := true, named := ["unicode/utf8.first", "unicode/utf8.acceptRanges", "internal/bytealg.MaxLen"], loops := true, apart := false, laid := [("unicode/utf8.acceptRanges", laid_unicode_utf8_acceptRanges), ("unicode/utf8.first", laid_unicode_utf8_first)], narrowed := true }
def LensRowsUptoSaid : Prop := lensRowsUptoRow.holds Tryd.pinned (OpenSpec.upto lensRowsSpec)

/-- 'diptychlaw13.LensTurns', WHERE WHAT IT READS IS OF BULK AT MOST 1048576: true; the input reads as it did. -/
def lensTurnsUptoRow : OpenClaim := { program := "ytpjdafhmneiohaadoor", sum := "1f617c43adc9246d5f1f17b70e6e7053f6c654a75b5a4495e77ade3299ce7e7c", func := "diptych/diptychlaw13.LensTurns", spec := "lensTurns", inPlace := ["internal/bytealg.IndexByteString", "internal/bytealg.IndexString", "internal/bytealg.CountString", "internal/abi.NoEscape", "internal/bytealg.MakeNoZero"], unfollowed := true, recurses := true, named := ["unicode/utf8.first", "unicode/utf8.acceptRanges", "internal/bytealg.MaxLen"], loops := true, apart := false, laid := [("unicode/utf8.acceptRanges", laid_unicode_utf8_acceptRanges), ("unicode/utf8.first", laid_unicode_utf8_first)], narrowed := true }
def LensTurnsUptoSaid : Prop := lensTurnsUptoRow.holds Tryd.pinned (OpenSpec.upto lensTurnsSpec)

/-- 'diptychlaw13.LensApart', WHERE WHAT IT READS IS OF BULK AT MOST 1048576: true; the input reads as it did. -/
def lensApartUptoRow : OpenClaim := { program := "ytpjdafhmneiohaadoor", sum := "1f617c43adc9246d5f1f17b70e6e7053f6c654a75b5a4495e77ade3299ce7e7c", func := "diptych/diptychlaw13.LensApart", spec := "lensApart", inPlace := ["internal/bytealg.IndexByteString", "internal/bytealg.IndexString", "internal/bytealg.CountString", "internal/abi.NoEscape", "internal/bytealg.MakeNoZero"], unfollowed := true, recurses := true, named := ["unicode/utf8.first", "unicode/utf8.acceptRanges", "internal/bytealg.MaxLen"], loops := true, apart := false, laid := [("unicode/utf8.acceptRanges", laid_unicode_utf8_acceptRanges), ("unicode/utf8.first", laid_unicode_utf8_first)], narrowed := true }
def LensApartUptoSaid : Prop := lensApartUptoRow.holds Tryd.pinned (OpenSpec.upto lensApartSpec)

/-- 'diptychlaw3.TokenBack', WHERE WHAT IT READS IS OF BULK AT MOST 1048576: true; the input reads as it did. -/
def tokenBackUptoRow : OpenClaim := { program := "ytpjdafhmneiohaadoor", sum := "1f617c43adc9246d5f1f17b70e6e7053f6c654a75b5a4495e77ade3299ce7e7c", func := "diptych/diptychlaw3.TokenBack", spec := "tokenBack", inPlace := ["internal/abi.NoEscape", "internal/bytealg.MakeNoZero", "internal/bytealg.CountString", "internal/bytealg.IndexByteString", "internal/bytealg.IndexString"], unfollowed := true, recurses := true, named := ["internal/bytealg.MaxLen", "unicode/utf8.first", "unicode/utf8.acceptRanges"], apart := false, laid := [("unicode/utf8.acceptRanges", laid_unicode_utf8_acceptRanges), ("unicode/utf8.first", laid_unicode_utf8_first)], narrowed := true }
def TokenBackUptoSaid : Prop := tokenBackUptoRow.holds Tryd.pinned (OpenSpec.upto tokenBackSpec)

/-- 'diptychlaw3.TokenChange', WHERE WHAT IT READS IS OF BULK AT MOST 1048576: true; the input reads as it did. -/
def tokenChangeUptoRow : OpenClaim := { program := "ytpjdafhmneiohaadoor", sum := "1f617c43adc9246d5f1f17b70e6e7053f6c654a75b5a4495e77ade3299ce7e7c", func := "diptych/diptychlaw3.TokenChange", spec := "tokenChange", inPlace := ["internal/abi.NoEscape", "internal/bytealg.MakeNoZero", "internal/bytealg.CountString", "internal/bytealg.IndexByteString", "internal/bytealg.IndexString"], unfollowed := true, recurses := true, named := ["internal/bytealg.MaxLen", "unicode/utf8.first", "unicode/utf8.acceptRanges"], apart := false, laid := [("unicode/utf8.acceptRanges", laid_unicode_utf8_acceptRanges), ("unicode/utf8.first", laid_unicode_utf8_first)], narrowed := true }
def TokenChangeUptoSaid : Prop := tokenChangeUptoRow.holds Tryd.pinned (OpenSpec.upto tokenChangeSpec)

/-- 'diptychlaw3.TokenJoins', WHERE WHAT IT READS IS OF BULK AT MOST 1048576: true; the input reads as it did. -/
def tokenJoinsUptoRow : OpenClaim := { program := "ytpjdafhmneiohaadoor", sum := "1f617c43adc9246d5f1f17b70e6e7053f6c654a75b5a4495e77ade3299ce7e7c", func := "diptych/diptychlaw3.TokenJoins", spec := "tokenJoins", inPlace := ["internal/abi.NoEscape", "internal/bytealg.MakeNoZero", "internal/bytealg.CountString", "internal/bytealg.IndexByteString", "internal/bytealg.IndexString"], unfollowed := true, recurses := true, named := ["internal/bytealg.MaxLen", "unicode/utf8.first", "unicode/utf8.acceptRanges"], apart := false, laid := [("unicode/utf8.acceptRanges", laid_unicode_utf8_acceptRanges), ("unicode/utf8.first", laid_unicode_utf8_first)], narrowed := true }
def TokenJoinsUptoSaid : Prop := tokenJoinsUptoRow.holds Tryd.pinned (OpenSpec.upto tokenJoinsSpec)

end Rows
end Go.Proofs.YtpjdafhmneiohaaDoor
