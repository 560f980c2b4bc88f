/-
  NARROWER THAN 'FOR EVERY INPUT', by the rows' own cells (each row's printed sentence says how): TokenRows: loops, laid · TokenEnds: laid · TokenLens: laid · PlaceTokens: laid · NodeWrong: laid · NodeTurns: laid · NodeOwn: laid · NodeChecks: loops, laid · NodeSums: laid · NodeTwice: laid · TokenBack: laid · TokenJoins: laid.
  DERIVED. THE GIVEN ROWS OF THIS SEAT. 12 by the template 'for every input the law returns true; each argument reads behind the call as it read before'; 0 by the template 'total and deterministic' (their statements: YtlgjbmgmoaphjaaDoorTotals.lean).
  GIVEN WITH THE SEED: the statements are not yours to turn. If you find one false, say at which input.
  Laid BY PROGRAM, IN A SANDBOX (cutbox-rows.mjs): the forced cells as the released guide's own fill.sh prints them over the translation 2482764fc50a7947… (all of the seat's roots in one cut). By AI agents, Wed Nov 11 2026. No macro, syntax, notation, axiom, sorry.
-/
import Derived.Test.YtlgjbmgmoaphjaaDoorChecked
import GoSem.PinnedTables
import GoSem.Claim
import GoSem.ClaimJoined
import GoSem.ClaimMapViews
import Derived.JoinedTies
import Derived.KernelRfl
namespace Go.Proofs.YtlgjbmgmoaphjaaDoor
/- THE CELL 'sum', in the pinned program and in every row, IS THE sha256 OF THE DUMP (.gsa) THAT YtlgjbmgmoaphjaaDoorProg.lean LOADS. Nothing in Lean hashes anything: it is a label: what it is worth is what the hold of that sum in a sandbox is worth. -/
noncomputable def Tryd.pinned : Pinned := { name := "ytlgjbmgmoaphjaadoor", sum := "2482764fc50a7947425c4f3db42c1e6577b296be16b69d9f5d6b9f093794fcc4", checked := Tryd.checked }
namespace Rows
def none {H : Type} : Left H := { results := [], args := [] }

/- WHAT THE LISTED PACKAGE-LEVEL VARIABLES READ AS WHEN THE CALL BEGINS. Each datum BY PROGRAM (the guide's laid-datum.mjs) off the statement by which the dump's own 'gosem.cut.vars' lays the variable. In a bare row this is a premise. The card (YtlgjbmgmoaphjaaDoorCards.lean) ties it to the program's text. -/
def laid_unicode_utf8_acceptRanges {H : Type} : DataW H := .agg [.agg [.lit (.int .u8 128), .lit (.int .u8 191)], .agg [.lit (.int .u8 160), .lit (.int .u8 191)], .agg [.lit (.int .u8 128), .lit (.int .u8 159)], .agg [.lit (.int .u8 144), .lit (.int .u8 191)], .agg [.lit (.int .u8 128), .lit (.int .u8 143)], .agg [.lit (.int .u8 0), .lit (.int .u8 0)], .agg [.lit (.int .u8 0), .lit (.int .u8 0)], .agg [.lit (.int .u8 0), .lit (.int .u8 0)], .agg [.lit (.int .u8 0), .lit (.int .u8 0)], .agg [.lit (.int .u8 0), .lit (.int .u8 0)], .agg [.lit (.int .u8 0), .lit (.int .u8 0)], .agg [.lit (.int .u8 0), .lit (.int .u8 0)], .agg [.lit (.int .u8 0), .lit (.int .u8 0)], .agg [.lit (.int .u8 0), .lit (.int .u8 0)], .agg [.lit (.int .u8 0), .lit (.int .u8 0)], .agg [.lit (.int .u8 0), .lit (.int .u8 0)]]
/-- One of Go's own tables, pinned by name: the form's constant. -/
def laid_unicode_utf8_first : DataW Unit := Go.Pinned.utf8First

/-- 'diptychlaw3.TokenRows': WHATEVER THE INPUT: true; the input reads as it did. -/
def tokenRowsSpec : ChangeSpec := { name := "tokenRows", fn := fun _ => fun
  | [d1, d2] => { results := [.lit (.bool true)], args := [d1, d2] }
  | _ => none }
def tokenRowsRow : OpenClaim := { program := "ytlgjbmgmoaphjaadoor", sum := "2482764fc50a7947425c4f3db42c1e6577b296be16b69d9f5d6b9f093794fcc4", func := "diptych/diptychlaw3.TokenRows", spec := "tokenRows", inPlace := ["internal/abi.NoEscape", "internal/bytealg.MakeNoZero", "internal/bytealg.CountString", "internal/bytealg.IndexByteString", "internal/bytealg.IndexString"], recurses := true, named := ["internal/bytealg.MaxLen", "unicode/utf8.first", "unicode/utf8.acceptRanges"], loops := true, apart := false, laid := [("unicode/utf8.acceptRanges", laid_unicode_utf8_acceptRanges), ("unicode/utf8.first", laid_unicode_utf8_first)] }
def TokenRowsSaid : Prop := tokenRowsRow.holds Tryd.pinned (OpenSpec.ofChange tokenRowsSpec)

/-- ITS FALSE NEIGHBOUR: 'it returns false'. Refute it at one input. -/
def tokenRowsWrong : ChangeSpec := { name := "tokenRows", fn := fun _ => fun
  | [d1, d2] => { results := [.lit (.bool false)], args := [d1, d2] }
  | _ => none }
def TokenRowsWrongFalsely : Prop := tokenRowsRow.holds Tryd.pinned (OpenSpec.ofChange tokenRowsWrong)

/-- 'diptychlaw3.TokenEnds': WHATEVER THE INPUT: true; the input reads as it did. -/
def tokenEndsSpec : ChangeSpec := { name := "tokenEnds", fn := fun _ => fun
  | [d1, d2] => { results := [.lit (.bool true)], args := [d1, d2] }
  | _ => none }
def tokenEndsRow : OpenClaim := { program := "ytlgjbmgmoaphjaadoor", sum := "2482764fc50a7947425c4f3db42c1e6577b296be16b69d9f5d6b9f093794fcc4", func := "diptych/diptychlaw3.TokenEnds", spec := "tokenEnds", inPlace := ["internal/abi.NoEscape", "internal/bytealg.MakeNoZero", "internal/bytealg.CountString", "internal/bytealg.IndexByteString", "internal/bytealg.IndexString"], recurses := true, named := ["internal/bytealg.MaxLen", "unicode/utf8.first", "unicode/utf8.acceptRanges"], apart := false, laid := [("unicode/utf8.acceptRanges", laid_unicode_utf8_acceptRanges), ("unicode/utf8.first", laid_unicode_utf8_first)] }
def TokenEndsSaid : Prop := tokenEndsRow.holds Tryd.pinned (OpenSpec.ofChange tokenEndsSpec)

/-- ITS FALSE NEIGHBOUR: 'it returns false'. Refute it at one input. -/
def tokenEndsWrong : ChangeSpec := { name := "tokenEnds", fn := fun _ => fun
  | [d1, d2] => { results := [.lit (.bool false)], args := [d1, d2] }
  | _ => none }
def TokenEndsWrongFalsely : Prop := tokenEndsRow.holds Tryd.pinned (OpenSpec.ofChange tokenEndsWrong)

/-- 'diptychlaw3.TokenLens': WHATEVER THE INPUT: true; the input reads as it did. -/
def tokenLensSpec : ChangeSpec := { name := "tokenLens", fn := fun _ => fun
  | [d1, d2] => { results := [.lit (.bool true)], args := [d1, d2] }
  | _ => none }
def tokenLensRow : OpenClaim := { program := "ytlgjbmgmoaphjaadoor", sum := "2482764fc50a7947425c4f3db42c1e6577b296be16b69d9f5d6b9f093794fcc4", func := "diptych/diptychlaw3.TokenLens", spec := "tokenLens", inPlace := ["internal/abi.NoEscape", "internal/bytealg.MakeNoZero", "internal/bytealg.CountString", "internal/bytealg.IndexByteString", "internal/bytealg.IndexString"], recurses := true, named := ["internal/bytealg.MaxLen", "unicode/utf8.first", "unicode/utf8.acceptRanges"], apart := false, laid := [("unicode/utf8.acceptRanges", laid_unicode_utf8_acceptRanges), ("unicode/utf8.first", laid_unicode_utf8_first)] }
def TokenLensSaid : Prop := tokenLensRow.holds Tryd.pinned (OpenSpec.ofChange tokenLensSpec)

/-- ITS FALSE NEIGHBOUR: 'it returns false'. Refute it at one input. -/
def tokenLensWrong : ChangeSpec := { name := "tokenLens", fn := fun _ => fun
  | [d1, d2] => { results := [.lit (.bool false)], args := [d1, d2] }
  | _ => none }
def TokenLensWrongFalsely : Prop := tokenLensRow.holds Tryd.pinned (OpenSpec.ofChange tokenLensWrong)

/-- 'diptychlaw4.PlaceTokens': WHATEVER THE INPUT: true; the input reads as it did. -/
def placeTokensSpec : ChangeSpec := { name := "placeTokens", fn := fun _ => fun
  | [d] => { results := [.lit (.bool true)], args := [d] }
  | _ => none }
def placeTokensRow : OpenClaim := { program := "ytlgjbmgmoaphjaadoor", sum := "2482764fc50a7947425c4f3db42c1e6577b296be16b69d9f5d6b9f093794fcc4", func := "diptych/diptychlaw4.PlaceTokens", spec := "placeTokens", inPlace := ["internal/abi.NoEscape", "internal/bytealg.MakeNoZero", "internal/bytealg.CountString", "internal/bytealg.IndexByteString", "internal/bytealg.IndexString"], recurses := true, named := ["internal/bytealg.MaxLen", "unicode/utf8.first", "unicode/utf8.acceptRanges"], apart := false, laid := [("unicode/utf8.acceptRanges", laid_unicode_utf8_acceptRanges), ("unicode/utf8.first", laid_unicode_utf8_first)] }
def PlaceTokensSaid : Prop := placeTokensRow.holds Tryd.pinned (OpenSpec.ofChange placeTokensSpec)

/-- ITS FALSE NEIGHBOUR: 'it returns false'. Refute it at one input. -/
def placeTokensWrong : ChangeSpec := { name := "placeTokens", fn := fun _ => fun
  | [d] => { results := [.lit (.bool false)], args := [d] }
  | _ => none }
def PlaceTokensWrongFalsely : Prop := placeTokensRow.holds Tryd.pinned (OpenSpec.ofChange placeTokensWrong)

/-- 'diptychlaw1.NodeWrong': WHATEVER THE INPUT: true; the input reads as it did. -/
def nodeWrongSpec : ChangeSpec := { name := "nodeWrong", fn := fun _ => fun
  | [d1, d2] => { results := [.lit (.bool true)], args := [d1, d2] }
  | _ => none }
def nodeWrongRow : OpenClaim := { program := "ytlgjbmgmoaphjaadoor", sum := "2482764fc50a7947425c4f3db42c1e6577b296be16b69d9f5d6b9f093794fcc4", func := "diptych/diptychlaw1.NodeWrong", spec := "nodeWrong", inPlace := ["internal/bytealg.IndexByteString", "internal/bytealg.IndexString"], recurses := true, named := ["unicode/utf8.first", "unicode/utf8.acceptRanges", "internal/bytealg.MaxLen"], apart := false, laid := [("unicode/utf8.acceptRanges", laid_unicode_utf8_acceptRanges), ("unicode/utf8.first", laid_unicode_utf8_first)] }
def NodeWrongSaid : Prop := nodeWrongRow.holds Tryd.pinned (OpenSpec.ofChange nodeWrongSpec)

/-- ITS FALSE NEIGHBOUR: 'it returns false'. Refute it at one input. -/
def nodeWrongWrong : ChangeSpec := { name := "nodeWrong", fn := fun _ => fun
  | [d1, d2] => { results := [.lit (.bool false)], args := [d1, d2] }
  | _ => none }
def NodeWrongWrongFalsely : Prop := nodeWrongRow.holds Tryd.pinned (OpenSpec.ofChange nodeWrongWrong)

/-- 'diptychlaw1.NodeTurns': WHATEVER THE INPUT: true; the input reads as it did. -/
def nodeTurnsSpec : ChangeSpec := { name := "nodeTurns", fn := fun _ => fun
  | [d1, d2] => { results := [.lit (.bool true)], args := [d1, d2] }
  | _ => none }
def nodeTurnsRow : OpenClaim := { program := "ytlgjbmgmoaphjaadoor", sum := "2482764fc50a7947425c4f3db42c1e6577b296be16b69d9f5d6b9f093794fcc4", func := "diptych/diptychlaw1.NodeTurns", spec := "nodeTurns", inPlace := ["internal/bytealg.IndexByteString", "internal/bytealg.IndexString"], recurses := true, named := ["unicode/utf8.first", "unicode/utf8.acceptRanges", "internal/bytealg.MaxLen"], apart := false, laid := [("unicode/utf8.acceptRanges", laid_unicode_utf8_acceptRanges), ("unicode/utf8.first", laid_unicode_utf8_first)] }
def NodeTurnsSaid : Prop := nodeTurnsRow.holds Tryd.pinned (OpenSpec.ofChange nodeTurnsSpec)

/-- ITS FALSE NEIGHBOUR: 'it returns false'. Refute it at one input. -/
def nodeTurnsWrong : ChangeSpec := { name := "nodeTurns", fn := fun _ => fun
  | [d1, d2] => { results := [.lit (.bool false)], args := [d1, d2] }
  | _ => none }
def NodeTurnsWrongFalsely : Prop := nodeTurnsRow.holds Tryd.pinned (OpenSpec.ofChange nodeTurnsWrong)

/-- 'diptychlaw1.NodeOwn': WHATEVER THE INPUT: true; the input reads as it did. -/
def nodeOwnSpec : ChangeSpec := { name := "nodeOwn", fn := fun _ => fun
  | [d] => { results := [.lit (.bool true)], args := [d] }
  | _ => none }
def nodeOwnRow : OpenClaim := { program := "ytlgjbmgmoaphjaadoor", sum := "2482764fc50a7947425c4f3db42c1e6577b296be16b69d9f5d6b9f093794fcc4", func := "diptych/diptychlaw1.NodeOwn", spec := "nodeOwn", inPlace := ["internal/bytealg.IndexByteString", "internal/bytealg.IndexString"], unfollowed := true, recurses := true, named := ["unicode/utf8.first", "unicode/utf8.acceptRanges", "internal/bytealg.MaxLen"], apart := false, laid := [("unicode/utf8.acceptRanges", laid_unicode_utf8_acceptRanges), ("unicode/utf8.first", laid_unicode_utf8_first)] }
def NodeOwnSaid : Prop := nodeOwnRow.holds Tryd.pinned (OpenSpec.ofChange nodeOwnSpec)

/-- ITS FALSE NEIGHBOUR: 'it returns false'. Refute it at one input. -/
def nodeOwnWrong : ChangeSpec := { name := "nodeOwn", fn := fun _ => fun
  | [d] => { results := [.lit (.bool false)], args := [d] }
  | _ => none }
def NodeOwnWrongFalsely : Prop := nodeOwnRow.holds Tryd.pinned (OpenSpec.ofChange nodeOwnWrong)

/-- 'diptychlaw1.NodeChecks': WHATEVER THE INPUT: true; the input reads as it did. -/
def nodeChecksSpec : ChangeSpec := { name := "nodeChecks", fn := fun _ => fun
  | [d1, d2] => { results := [.lit (.bool true)], args := [d1, d2] }
  | _ => none }
def nodeChecksRow : OpenClaim := { program := "ytlgjbmgmoaphjaadoor", sum := "2482764fc50a7947425c4f3db42c1e6577b296be16b69d9f5d6b9f093794fcc4", func := "diptych/diptychlaw1.NodeChecks", spec := "nodeChecks", inPlace := ["internal/bytealg.IndexByteString", "internal/bytealg.IndexString", "internal/abi.NoEscape"], unfollowed := true, recurses := true, named := ["unicode/utf8.first", "unicode/utf8.acceptRanges", "internal/bytealg.MaxLen"], loops := true, apart := false, laid := [("unicode/utf8.acceptRanges", laid_unicode_utf8_acceptRanges), ("unicode/utf8.first", laid_unicode_utf8_first)] }
def NodeChecksSaid : Prop := nodeChecksRow.holds Tryd.pinned (OpenSpec.ofChange nodeChecksSpec)

/-- ITS FALSE NEIGHBOUR: 'it returns false'. Refute it at one input. -/
def nodeChecksWrong : ChangeSpec := { name := "nodeChecks", fn := fun _ => fun
  | [d1, d2] => { results := [.lit (.bool false)], args := [d1, d2] }
  | _ => none }
def NodeChecksWrongFalsely : Prop := nodeChecksRow.holds Tryd.pinned (OpenSpec.ofChange nodeChecksWrong)

/-- 'diptychlaw1.NodeSums': WHATEVER THE INPUT: true; the input reads as it did. -/
def nodeSumsSpec : ChangeSpec := { name := "nodeSums", fn := fun _ => fun
  | [d] => { results := [.lit (.bool true)], args := [d] }
  | _ => none }
def nodeSumsRow : OpenClaim := { program := "ytlgjbmgmoaphjaadoor", sum := "2482764fc50a7947425c4f3db42c1e6577b296be16b69d9f5d6b9f093794fcc4", func := "diptych/diptychlaw1.NodeSums", spec := "nodeSums", inPlace := ["internal/bytealg.IndexByteString", "internal/bytealg.IndexString", "internal/abi.NoEscape"], unfollowed := true, recurses := true, named := ["unicode/utf8.first", "unicode/utf8.acceptRanges", "internal/bytealg.MaxLen"], apart := false, laid := [("unicode/utf8.acceptRanges", laid_unicode_utf8_acceptRanges), ("unicode/utf8.first", laid_unicode_utf8_first)] }
def NodeSumsSaid : Prop := nodeSumsRow.holds Tryd.pinned (OpenSpec.ofChange nodeSumsSpec)

/-- ITS FALSE NEIGHBOUR: 'it returns false'. Refute it at one input. -/
def nodeSumsWrong : ChangeSpec := { name := "nodeSums", fn := fun _ => fun
  | [d] => { results := [.lit (.bool false)], args := [d] }
  | _ => none }
def NodeSumsWrongFalsely : Prop := nodeSumsRow.holds Tryd.pinned (OpenSpec.ofChange nodeSumsWrong)

/-- 'diptychlaw1.NodeTwice': WHATEVER THE INPUT: true; the input reads as it did. -/
def nodeTwiceSpec : ChangeSpec := { name := "nodeTwice", fn := fun _ => fun
  | [d1, d2] => { results := [.lit (.bool true)], args := [d1, d2] }
  | _ => none }
def nodeTwiceRow : OpenClaim := { program := "ytlgjbmgmoaphjaadoor", sum := "2482764fc50a7947425c4f3db42c1e6577b296be16b69d9f5d6b9f093794fcc4", func := "diptych/diptychlaw1.NodeTwice", spec := "nodeTwice", inPlace := ["internal/bytealg.IndexByteString", "internal/bytealg.IndexString", "internal/abi.NoEscape"], unfollowed := true, recurses := true, named := ["unicode/utf8.first", "unicode/utf8.acceptRanges", "internal/bytealg.MaxLen"], apart := false, laid := [("unicode/utf8.acceptRanges", laid_unicode_utf8_acceptRanges), ("unicode/utf8.first", laid_unicode_utf8_first)] }
def NodeTwiceSaid : Prop := nodeTwiceRow.holds Tryd.pinned (OpenSpec.ofChange nodeTwiceSpec)

/-- ITS FALSE NEIGHBOUR: 'it returns false'. Refute it at one input. -/
def nodeTwiceWrong : ChangeSpec := { name := "nodeTwice", fn := fun _ => fun
  | [d1, d2] => { results := [.lit (.bool false)], args := [d1, d2] }
  | _ => none }
def NodeTwiceWrongFalsely : Prop := nodeTwiceRow.holds Tryd.pinned (OpenSpec.ofChange nodeTwiceWrong)

/-- 'diptychlaw3.TokenBack': WHATEVER THE INPUT: true; the input reads as it did. -/
def tokenBackSpec : ChangeSpec := { name := "tokenBack", fn := fun _ => fun
  | [d1, d2] => { results := [.lit (.bool true)], args := [d1, d2] }
  | _ => none }
def tokenBackRow : OpenClaim := { program := "ytlgjbmgmoaphjaadoor", sum := "2482764fc50a7947425c4f3db42c1e6577b296be16b69d9f5d6b9f093794fcc4", func := "diptych/diptychlaw3.TokenBack", spec := "tokenBack", inPlace := ["internal/abi.NoEscape", "internal/bytealg.MakeNoZero", "internal/bytealg.CountString", "internal/bytealg.IndexByteString", "internal/bytealg.IndexString"], unfollowed := true, recurses := true, named := ["internal/bytealg.MaxLen", "unicode/utf8.first", "unicode/utf8.acceptRanges"], apart := false, laid := [("unicode/utf8.acceptRanges", laid_unicode_utf8_acceptRanges), ("unicode/utf8.first", laid_unicode_utf8_first)] }
def TokenBackSaid : Prop := tokenBackRow.holds Tryd.pinned (OpenSpec.ofChange tokenBackSpec)

/-- ITS FALSE NEIGHBOUR: 'it returns false'. Refute it at one input. -/
def tokenBackWrong : ChangeSpec := { name := "tokenBack", fn := fun _ => fun
  | [d1, d2] => { results := [.lit (.bool false)], args := [d1, d2] }
  | _ => none }
def TokenBackWrongFalsely : Prop := tokenBackRow.holds Tryd.pinned (OpenSpec.ofChange tokenBackWrong)

/-- 'diptychlaw3.TokenJoins': WHATEVER THE INPUT: true; the input reads as it did. -/
def tokenJoinsSpec : ChangeSpec := { name := "tokenJoins", fn := fun _ => fun
  | [d1, d2] => { results := [.lit (.bool true)], args := [d1, d2] }
  | _ => none }
def tokenJoinsRow : OpenClaim := { program := "ytlgjbmgmoaphjaadoor", sum := "2482764fc50a7947425c4f3db42c1e6577b296be16b69d9f5d6b9f093794fcc4", func := "diptych/diptychlaw3.TokenJoins", spec := "tokenJoins", inPlace := ["internal/abi.NoEscape", "internal/bytealg.MakeNoZero", "internal/bytealg.CountString", "internal/bytealg.IndexByteString", "internal/bytealg.IndexString"], unfollowed := true, recurses := true, named := ["internal/bytealg.MaxLen", "unicode/utf8.first", "unicode/utf8.acceptRanges"], apart := false, laid := [("unicode/utf8.acceptRanges", laid_unicode_utf8_acceptRanges), ("unicode/utf8.first", laid_unicode_utf8_first)] }
def TokenJoinsSaid : Prop := tokenJoinsRow.holds Tryd.pinned (OpenSpec.ofChange tokenJoinsSpec)

/-- ITS FALSE NEIGHBOUR: 'it returns false'. Refute it at one input. -/
def tokenJoinsWrong : ChangeSpec := { name := "tokenJoins", fn := fun _ => fun
  | [d1, d2] => { results := [.lit (.bool false)], args := [d1, d2] }
  | _ => none }
def TokenJoinsWrongFalsely : Prop := tokenJoinsRow.holds Tryd.pinned (OpenSpec.ofChange tokenJoinsWrong)

/- THE SECOND FORM. 'bulk': how many values and letters a reading holds, each counted each time it is reached (what is shared counts as often as it is met; a slice's spare places count too). A statement '..UptoSaid' is the law's where the arguments, and the package variables that the reading takes, are together of bulk at most 1048576: NARROWER than '..Said'. Prove '..Said' where nothing that the law and all that it calls make is longer than what came in: it says more and counts as full. Else prove '..UptoSaid'. A law counts once. -/
mutual
def uptoBulk {H : Type} : DataW H → Nat
  | .lit (.string bytes) => bytes.length + 1
  | .lit _ => 1
  | .nil => 1
  | .ptr d => uptoBulk d + 1
  | .slice elems spare => uptoBulkAll elems + uptoBulkAll spare + 1
  | .agg parts => uptoBulkAll parts + 1
  | .iface _ d => uptoBulk d + 1
  | .map entries => uptoBulkEntries entries + 1
  | .held _ => 1
def uptoBulkAll {H : Type} : List (DataW H) → Nat
  | [] => 0
  | d :: r => uptoBulk d + uptoBulkAll r
def uptoBulkEntries {H : Type} : List (Lit × DataW H) → Nat
  | [] => 0
  | x :: r => uptoBulkEntry x + uptoBulkEntries r
def uptoBulkEntry {H : Type} : Lit × DataW H → Nat
  | (.string bytes, d) => bytes.length + uptoBulk d + 1
  | (_, d) => uptoBulk d + 1
 end
def uptoSmall : (H : Type) → List (DataW H) → Bool := fun _ ds => decide (uptoBulkAll ds ≤ 1048576)
def OpenSpec.upto (s : _root_.Go.ChangeSpec) : _root_.Go.OpenSpec := { _root_.Go.OpenSpec.ofChange s with cond := some uptoSmall }

/-- 'diptychlaw3.TokenRows', WHERE WHAT IT READS IS OF BULK AT MOST 1048576: true; the input reads as it did. -/
def tokenRowsUptoRow : OpenClaim := { program := "ytlgjbmgmoaphjaadoor", sum := "2482764fc50a7947425c4f3db42c1e6577b296be16b69d9f5d6b9f093794fcc4", func := "diptych/diptychlaw3.TokenRows", spec := "tokenRows", inPlace := ["internal/abi.NoEscape", "internal/bytealg.MakeNoZero", "internal/bytealg.CountString", "internal/bytealg.IndexByteString", "internal/bytealg.IndexString"], recurses := true, named := ["internal/bytealg.MaxLen", "unicode/utf8.first", "unicode/utf8.acceptRanges"], loops := true, apart := false, laid := [("unicode/utf8.acceptRanges", laid_unicode_utf8_acceptRanges), ("unicode/utf8.first", laid_unicode_utf8_first)], narrowed := true }
def TokenRowsUptoSaid : Prop := tokenRowsUptoRow.holds Tryd.pinned (OpenSpec.upto tokenRowsSpec)

/-- 'diptychlaw3.TokenEnds', WHERE WHAT IT READS IS OF BULK AT MOST 1048576: true; the input reads as it did. -/
def tokenEndsUptoRow : OpenClaim := { program := "ytlgjbmgmoaphjaadoor", sum := "2482764fc50a7947425c4f3db42c1e6577b296be16b69d9f5d6b9f093794fcc4", func := "diptych/diptychlaw3.TokenEnds", spec := "tokenEnds", inPlace := ["internal/abi.NoEscape", "internal/bytealg.MakeNoZero", "internal/bytealg.CountString", "internal/bytealg.IndexByteString", "internal/bytealg.IndexString"], recurses := true, named := ["internal/bytealg.MaxLen", "unicode/utf8.first", "unicode/utf8.acceptRanges"], apart := false, laid := [("unicode/utf8.acceptRanges", laid_unicode_utf8_acceptRanges), ("unicode/utf8.first", laid_unicode_utf8_first)], narrowed := true }
def TokenEndsUptoSaid : Prop := tokenEndsUptoRow.holds Tryd.pinned (OpenSpec.upto tokenEndsSpec)

/-- 'diptychlaw3.TokenLens', WHERE WHAT IT READS IS OF BULK AT MOST 1048576: true; the input reads as it did. -/
def tokenLensUptoRow : OpenClaim := { program := "ytlgjbmgmoaphjaadoor", sum := "2482764fc50a7947425c4f3db42c1e6577b296be16b69d9f5d6b9f093794fcc4", func := "diptych/diptychlaw3.TokenLens", spec := "tokenLens", inPlace := ["internal/abi.NoEscape", "internal/bytealg.MakeNoZero", "internal/bytealg.CountString", "internal/bytealg.IndexByteString", "internal/bytealg.IndexString"], recurses := true, named := ["internal/bytealg.MaxLen", "unicode/utf8.first", "unicode/utf8.acceptRanges"], apart := false, laid := [("unicode/utf8.acceptRanges", laid_unicode_utf8_acceptRanges), ("unicode/utf8.first", laid_unicode_utf8_first)], narrowed := true }
def TokenLensUptoSaid : Prop := tokenLensUptoRow.holds Tryd.pinned (OpenSpec.upto tokenLensSpec)

/-- 'diptychlaw4.PlaceTokens', WHERE WHAT IT READS IS OF BULK AT MOST 1048576: true; the input reads as it did. -/
def placeTokensUptoRow : OpenClaim := { program := "ytlgjbmgmoaphjaadoor", sum := "2482764fc50a7947425c4f3db42c1e6577b296be16b69d9f5d6b9f093794fcc4", func := "diptych/diptychlaw4.PlaceTokens", spec := "placeTokens", inPlace := ["internal/abi.NoEscape", "internal/bytealg.MakeNoZero", "internal/bytealg.CountString", "internal/bytealg.IndexByteString", "internal/bytealg.IndexString"], recurses := true, named := ["internal/bytealg.MaxLen", "unicode/utf8.first", "unicode/utf8.acceptRanges"], apart := false, laid := [("unicode/utf8.acceptRanges", laid_unicode_utf8_acceptRanges), ("unicode/utf8.first", laid_unicode_utf8_first)], narrowed := true }
def PlaceTokensUptoSaid : Prop := placeTokensUptoRow.holds Tryd.pinned (OpenSpec.upto placeTokensSpec)

/-- 'diptychlaw1.NodeWrong', WHERE WHAT IT READS IS OF BULK AT MOST 1048576: true; the input reads as it did. -/
def nodeWrongUptoRow : OpenClaim := { program := "ytlgjbmgmoaphjaadoor", sum := "2482764fc50a7947425c4f3db42c1e6577b296be16b69d9f5d6b9f093794fcc4", func := "diptych/diptychlaw1.NodeWrong", spec := "nodeWrong", inPlace := ["internal/bytealg.IndexByteString", "internal/bytealg.IndexString"], recurses := true, named := ["unicode/utf8.first", "unicode/utf8.acceptRanges", "internal/bytealg.MaxLen"], apart := false, laid := [("unicode/utf8.acceptRanges", laid_unicode_utf8_acceptRanges), ("unicode/utf8.first", laid_unicode_utf8_first)], narrowed := true }
def NodeWrongUptoSaid : Prop := nodeWrongUptoRow.holds Tryd.pinned (OpenSpec.upto nodeWrongSpec)

/-- 'diptychlaw1.NodeTurns', WHERE WHAT IT READS IS OF BULK AT MOST 1048576: true; the input reads as it did. -/
def nodeTurnsUptoRow : OpenClaim := { program := "ytlgjbmgmoaphjaadoor", sum := "2482764fc50a7947425c4f3db42c1e6577b296be16b69d9f5d6b9f093794fcc4", func := "diptych/diptychlaw1.NodeTurns", spec := "nodeTurns", inPlace := ["internal/bytealg.IndexByteString", "internal/bytealg.IndexString"], recurses := true, named := ["unicode/utf8.first", "unicode/utf8.acceptRanges", "internal/bytealg.MaxLen"], apart := false, laid := [("unicode/utf8.acceptRanges", laid_unicode_utf8_acceptRanges), ("unicode/utf8.first", laid_unicode_utf8_first)], narrowed := true }
def NodeTurnsUptoSaid : Prop := nodeTurnsUptoRow.holds Tryd.pinned (OpenSpec.upto nodeTurnsSpec)

/-- 'diptychlaw1.NodeOwn', WHERE WHAT IT READS IS OF BULK AT MOST 1048576: true; the input reads as it did. -/
def nodeOwnUptoRow : OpenClaim := { program := "ytlgjbmgmoaphjaadoor", sum := "2482764fc50a7947425c4f3db42c1e6577b296be16b69d9f5d6b9f093794fcc4", func := "diptych/diptychlaw1.NodeOwn", spec := "nodeOwn", inPlace := ["internal/bytealg.IndexByteString", "internal/bytealg.IndexString"], unfollowed := true, recurses := true, named := ["unicode/utf8.first", "unicode/utf8.acceptRanges", "internal/bytealg.MaxLen"], apart := false, laid := [("unicode/utf8.acceptRanges", laid_unicode_utf8_acceptRanges), ("unicode/utf8.first", laid_unicode_utf8_first)], narrowed := true }
def NodeOwnUptoSaid : Prop := nodeOwnUptoRow.holds Tryd.pinned (OpenSpec.upto nodeOwnSpec)

/-- 'diptychlaw1.NodeChecks', WHERE WHAT IT READS IS OF BULK AT MOST 1048576: true; the input reads as it did. -/
def nodeChecksUptoRow : OpenClaim := { program := "ytlgjbmgmoaphjaadoor", sum := "2482764fc50a7947425c4f3db42c1e6577b296be16b69d9f5d6b9f093794fcc4", func := "diptych/diptychlaw1.NodeChecks", spec := "nodeChecks", inPlace := ["internal/bytealg.IndexByteString", "internal/bytealg.IndexString", "internal/abi.NoEscape"], unfollowed := true, recurses := true, named := ["unicode/utf8.first", "unicode/utf8.acceptRanges", "internal/bytealg.MaxLen"], loops := true, apart := false, laid := [("unicode/utf8.acceptRanges", laid_unicode_utf8_acceptRanges), ("unicode/utf8.first", laid_unicode_utf8_first)], narrowed := true }
def NodeChecksUptoSaid : Prop := nodeChecksUptoRow.holds Tryd.pinned (OpenSpec.upto nodeChecksSpec)

/-- 'diptychlaw1.NodeSums', WHERE WHAT IT READS IS OF BULK AT MOST 1048576: true; the input reads as it did. -/
def nodeSumsUptoRow : OpenClaim := { program := "ytlgjbmgmoaphjaadoor", sum := "2482764fc50a7947425c4f3db42c1e6577b296be16b69d9f5d6b9f093794fcc4", func := "diptych/diptychlaw1.NodeSums", spec := "nodeSums", inPlace := ["internal/bytealg.IndexByteString", "internal/bytealg.IndexString", "internal/abi.NoEscape"], unfollowed := true, recurses := true, named := ["unicode/utf8.first", "unicode/utf8.acceptRanges", "internal/bytealg.MaxLen"], apart := false, laid := [("unicode/utf8.acceptRanges", laid_unicode_utf8_acceptRanges), ("unicode/utf8.first", laid_unicode_utf8_first)], narrowed := true }
def NodeSumsUptoSaid : Prop := nodeSumsUptoRow.holds Tryd.pinned (OpenSpec.upto nodeSumsSpec)

/-- 'diptychlaw1.NodeTwice', WHERE WHAT IT READS IS OF BULK AT MOST 1048576: true; the input reads as it did. -/
def nodeTwiceUptoRow : OpenClaim := { program := "ytlgjbmgmoaphjaadoor", sum := "2482764fc50a7947425c4f3db42c1e6577b296be16b69d9f5d6b9f093794fcc4", func := "diptych/diptychlaw1.NodeTwice", spec := "nodeTwice", inPlace := ["internal/bytealg.IndexByteString", "internal/bytealg.IndexString", "internal/abi.NoEscape"], unfollowed := true, recurses := true, named := ["unicode/utf8.first", "unicode/utf8.acceptRanges", "internal/bytealg.MaxLen"], apart := false, laid := [("unicode/utf8.acceptRanges", laid_unicode_utf8_acceptRanges), ("unicode/utf8.first", laid_unicode_utf8_first)], narrowed := true }
def NodeTwiceUptoSaid : Prop := nodeTwiceUptoRow.holds Tryd.pinned (OpenSpec.upto nodeTwiceSpec)

/-- 'diptychlaw3.TokenBack', WHERE WHAT IT READS IS OF BULK AT MOST 1048576: true; the input reads as it did. -/
def tokenBackUptoRow : OpenClaim := { program := "ytlgjbmgmoaphjaadoor", sum := "2482764fc50a7947425c4f3db42c1e6577b296be16b69d9f5d6b9f093794fcc4", func := "diptych/diptychlaw3.TokenBack", spec := "tokenBack", inPlace := ["internal/abi.NoEscape", "internal/bytealg.MakeNoZero", "internal/bytealg.CountString", "internal/bytealg.IndexByteString", "internal/bytealg.IndexString"], unfollowed := true, recurses := true, named := ["internal/bytealg.MaxLen", "unicode/utf8.first", "unicode/utf8.acceptRanges"], apart := false, laid := [("unicode/utf8.acceptRanges", laid_unicode_utf8_acceptRanges), ("unicode/utf8.first", laid_unicode_utf8_first)], narrowed := true }
def TokenBackUptoSaid : Prop := tokenBackUptoRow.holds Tryd.pinned (OpenSpec.upto tokenBackSpec)

/-- 'diptychlaw3.TokenJoins', WHERE WHAT IT READS IS OF BULK AT MOST 1048576: true; the input reads as it did. -/
def tokenJoinsUptoRow : OpenClaim := { program := "ytlgjbmgmoaphjaadoor", sum := "2482764fc50a7947425c4f3db42c1e6577b296be16b69d9f5d6b9f093794fcc4", func := "diptych/diptychlaw3.TokenJoins", spec := "tokenJoins", inPlace := ["internal/abi.NoEscape", "internal/bytealg.MakeNoZero", "internal/bytealg.CountString", "internal/bytealg.IndexByteString", "internal/bytealg.IndexString"], unfollowed := true, recurses := true, named := ["internal/bytealg.MaxLen", "unicode/utf8.first", "unicode/utf8.acceptRanges"], apart := false, laid := [("unicode/utf8.acceptRanges", laid_unicode_utf8_acceptRanges), ("unicode/utf8.first", laid_unicode_utf8_first)], narrowed := true }
def TokenJoinsUptoSaid : Prop := tokenJoinsUptoRow.holds Tryd.pinned (OpenSpec.upto tokenJoinsSpec)

end Rows
end Go.Proofs.YtlgjbmgmoaphjaaDoor
