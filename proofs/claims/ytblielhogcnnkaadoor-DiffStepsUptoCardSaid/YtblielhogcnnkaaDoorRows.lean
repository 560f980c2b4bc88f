/-
  NARROWER THAN 'FOR EVERY INPUT', by the rows' own cells (each row's printed sentence says how): NodeOwn: laid · DiffSteps: loops, laid · DiffSizes: laid · PieceSplit: laid · PieceSplits: laid · PieceApart: laid · PieceTwice: laid · PieceBack: laid · PieceIn: laid · PieceTokens: laid · WireApart: loops, laid.
  DERIVED. THE GIVEN ROWS OF THIS SEAT. 11 by the template 'for every input the law returns true; each argument reads behind the call as it read before'; 0 by the template 'total and deterministic' (their statements: YtblielhogcnnkaaDoorTotals.lean).
  GIVEN WITH THE SEED: the statements are not yours to turn. If you find one false, say at which input.
  Laid BY PROGRAM, IN A SANDBOX (cutbox-rows.mjs): the forced cells as the released guide's own fill.sh prints them over the translation 68ca67bc3f238401… (all of the seat's roots in one cut). By AI agents, Wed Nov 11 2026. No macro, syntax, notation, axiom, sorry.
-/
import Derived.Test.YtblielhogcnnkaaDoorChecked
import GoSem.PinnedTables
import GoSem.Claim
import GoSem.ClaimJoined
import GoSem.ClaimMapViews
import Derived.JoinedTies
import Derived.KernelRfl
namespace Go.Proofs.YtblielhogcnnkaaDoor
/- THE CELL 'sum', in the pinned program and in every row, IS THE sha256 OF THE DUMP (.gsa) THAT YtblielhogcnnkaaDoorProg.lean LOADS. Nothing in Lean hashes anything: it is a label: what it is worth is what the hold of that sum in a sandbox is worth. -/
noncomputable def Tryd.pinned : Pinned := { name := "ytblielhogcnnkaadoor", sum := "68ca67bc3f238401f080faf8bd275c90701d38418f1fa703a421166514f49233", checked := Tryd.checked }
namespace Rows
def none {H : Type} : Left H := { results := [], args := [] }

/- WHAT THE LISTED PACKAGE-LEVEL VARIABLES READ AS WHEN THE CALL BEGINS. Each datum BY PROGRAM (the guide's laid-datum.mjs) off the statement by which the dump's own 'gosem.cut.vars' lays the variable. In a bare row this is a premise. The card (YtblielhogcnnkaaDoorCards.lean) ties it to the program's text. -/
def laid_unicode_utf8_acceptRanges {H : Type} : DataW H := .agg [.agg [.lit (.int .u8 128), .lit (.int .u8 191)], .agg [.lit (.int .u8 160), .lit (.int .u8 191)], .agg [.lit (.int .u8 128), .lit (.int .u8 159)], .agg [.lit (.int .u8 144), .lit (.int .u8 191)], .agg [.lit (.int .u8 128), .lit (.int .u8 143)], .agg [.lit (.int .u8 0), .lit (.int .u8 0)], .agg [.lit (.int .u8 0), .lit (.int .u8 0)], .agg [.lit (.int .u8 0), .lit (.int .u8 0)], .agg [.lit (.int .u8 0), .lit (.int .u8 0)], .agg [.lit (.int .u8 0), .lit (.int .u8 0)], .agg [.lit (.int .u8 0), .lit (.int .u8 0)], .agg [.lit (.int .u8 0), .lit (.int .u8 0)], .agg [.lit (.int .u8 0), .lit (.int .u8 0)], .agg [.lit (.int .u8 0), .lit (.int .u8 0)], .agg [.lit (.int .u8 0), .lit (.int .u8 0)], .agg [.lit (.int .u8 0), .lit (.int .u8 0)]]
/-- One of Go's own tables, pinned by name: the form's constant. -/
def laid_unicode_utf8_first : DataW Unit := Go.Pinned.utf8First
def laid_math_bits_deBruijn32tab {H : Type} : DataW H := .agg [.lit (.int .u8 0), .lit (.int .u8 1), .lit (.int .u8 28), .lit (.int .u8 2), .lit (.int .u8 29), .lit (.int .u8 14), .lit (.int .u8 24), .lit (.int .u8 3), .lit (.int .u8 30), .lit (.int .u8 22), .lit (.int .u8 20), .lit (.int .u8 15), .lit (.int .u8 25), .lit (.int .u8 17), .lit (.int .u8 4), .lit (.int .u8 8), .lit (.int .u8 31), .lit (.int .u8 27), .lit (.int .u8 13), .lit (.int .u8 23), .lit (.int .u8 21), .lit (.int .u8 19), .lit (.int .u8 16), .lit (.int .u8 7), .lit (.int .u8 26), .lit (.int .u8 12), .lit (.int .u8 18), .lit (.int .u8 6), .lit (.int .u8 11), .lit (.int .u8 5), .lit (.int .u8 10), .lit (.int .u8 9)]
def laid_math_bits_deBruijn64tab {H : Type} : DataW H := .agg [.lit (.int .u8 0), .lit (.int .u8 1), .lit (.int .u8 56), .lit (.int .u8 2), .lit (.int .u8 57), .lit (.int .u8 49), .lit (.int .u8 28), .lit (.int .u8 3), .lit (.int .u8 61), .lit (.int .u8 58), .lit (.int .u8 42), .lit (.int .u8 50), .lit (.int .u8 38), .lit (.int .u8 29), .lit (.int .u8 17), .lit (.int .u8 4), .lit (.int .u8 62), .lit (.int .u8 47), .lit (.int .u8 59), .lit (.int .u8 36), .lit (.int .u8 45), .lit (.int .u8 43), .lit (.int .u8 51), .lit (.int .u8 22), .lit (.int .u8 53), .lit (.int .u8 39), .lit (.int .u8 33), .lit (.int .u8 30), .lit (.int .u8 24), .lit (.int .u8 18), .lit (.int .u8 12), .lit (.int .u8 5), .lit (.int .u8 63), .lit (.int .u8 55), .lit (.int .u8 48), .lit (.int .u8 27), .lit (.int .u8 60), .lit (.int .u8 41), .lit (.int .u8 37), .lit (.int .u8 16), .lit (.int .u8 46), .lit (.int .u8 35), .lit (.int .u8 44), .lit (.int .u8 21), .lit (.int .u8 52), .lit (.int .u8 32), .lit (.int .u8 23), .lit (.int .u8 11), .lit (.int .u8 54), .lit (.int .u8 26), .lit (.int .u8 40), .lit (.int .u8 15), .lit (.int .u8 34), .lit (.int .u8 20), .lit (.int .u8 31), .lit (.int .u8 10), .lit (.int .u8 25), .lit (.int .u8 14), .lit (.int .u8 19), .lit (.int .u8 9), .lit (.int .u8 13), .lit (.int .u8 8), .lit (.int .u8 7), .lit (.int .u8 6)]
def laid_internal_strconv_uint64pow10 {H : Type} : DataW H := .agg [.lit (.int .u64 1), .lit (.int .u64 10), .lit (.int .u64 100), .lit (.int .u64 1000), .lit (.int .u64 10000), .lit (.int .u64 100000), .lit (.int .u64 1000000), .lit (.int .u64 10000000), .lit (.int .u64 100000000), .lit (.int .u64 1000000000), .lit (.int .u64 10000000000), .lit (.int .u64 100000000000), .lit (.int .u64 1000000000000), .lit (.int .u64 10000000000000), .lit (.int .u64 100000000000000), .lit (.int .u64 1000000000000000), .lit (.int .u64 10000000000000000), .lit (.int .u64 100000000000000000), .lit (.int .u64 1000000000000000000), .lit (.int .u64 10000000000000000000)]

/-- 'diptychlaw1.NodeOwn': WHATEVER THE INPUT: true; the input reads as it did. -/
def nodeOwnSpec : ChangeSpec := { name := "nodeOwn", fn := fun _ => fun
  | [d] => { results := [.lit (.bool true)], args := [d] }
  | _ => none }
def nodeOwnRow : OpenClaim := { program := "ytblielhogcnnkaadoor", sum := "68ca67bc3f238401f080faf8bd275c90701d38418f1fa703a421166514f49233", func := "diptych/diptychlaw1.NodeOwn", spec := "nodeOwn", inPlace := ["internal/bytealg.IndexByteString", "internal/bytealg.IndexString"], unfollowed := true, recurses := true, named := ["unicode/utf8.first", "unicode/utf8.acceptRanges", "internal/bytealg.MaxLen"], apart := false, laid := [("unicode/utf8.acceptRanges", laid_unicode_utf8_acceptRanges), ("unicode/utf8.first", laid_unicode_utf8_first)] }
def NodeOwnSaid : Prop := nodeOwnRow.holds Tryd.pinned (OpenSpec.ofChange nodeOwnSpec)

/-- ITS FALSE NEIGHBOUR: 'it returns false'. Refute it at one input. -/
def nodeOwnWrong : ChangeSpec := { name := "nodeOwn", fn := fun _ => fun
  | [d] => { results := [.lit (.bool false)], args := [d] }
  | _ => none }
def NodeOwnWrongFalsely : Prop := nodeOwnRow.holds Tryd.pinned (OpenSpec.ofChange nodeOwnWrong)

/-- 'diptychlaw18.DiffSteps': WHATEVER THE INPUT: true; the input reads as it did. -/
def diffStepsSpec : ChangeSpec := { name := "diffSteps", fn := fun _ => fun
  | [d1, d2] => { results := [.lit (.bool true)], args := [d1, d2] }
  | _ => none }
def diffStepsRow : OpenClaim := { program := "ytblielhogcnnkaadoor", sum := "68ca67bc3f238401f080faf8bd275c90701d38418f1fa703a421166514f49233", func := "diptych/diptychlaw18.DiffSteps", spec := "diffSteps", inPlace := ["internal/bytealg.IndexByteString", "internal/bytealg.IndexString"], unfollowed := true, recurses := true, named := ["unicode/utf8.first", "unicode/utf8.acceptRanges", "internal/bytealg.MaxLen"], loops := true, apart := false, laid := [("unicode/utf8.acceptRanges", laid_unicode_utf8_acceptRanges), ("unicode/utf8.first", laid_unicode_utf8_first)] }
def DiffStepsSaid : Prop := diffStepsRow.holds Tryd.pinned (OpenSpec.ofChange diffStepsSpec)

/-- ITS FALSE NEIGHBOUR: 'it returns false'. Refute it at one input. -/
def diffStepsWrong : ChangeSpec := { name := "diffSteps", fn := fun _ => fun
  | [d1, d2] => { results := [.lit (.bool false)], args := [d1, d2] }
  | _ => none }
def DiffStepsWrongFalsely : Prop := diffStepsRow.holds Tryd.pinned (OpenSpec.ofChange diffStepsWrong)

/-- 'diptychlaw18.DiffSizes': WHATEVER THE INPUT: true; the input reads as it did. -/
def diffSizesSpec : ChangeSpec := { name := "diffSizes", fn := fun _ => fun
  | [d1, d2] => { results := [.lit (.bool true)], args := [d1, d2] }
  | _ => none }
def diffSizesRow : OpenClaim := { program := "ytblielhogcnnkaadoor", sum := "68ca67bc3f238401f080faf8bd275c90701d38418f1fa703a421166514f49233", func := "diptych/diptychlaw18.DiffSizes", spec := "diffSizes", inPlace := ["internal/bytealg.IndexByteString", "internal/bytealg.IndexString"], unfollowed := true, recurses := true, named := ["unicode/utf8.first", "unicode/utf8.acceptRanges", "internal/bytealg.MaxLen"], apart := false, laid := [("unicode/utf8.acceptRanges", laid_unicode_utf8_acceptRanges), ("unicode/utf8.first", laid_unicode_utf8_first)] }
def DiffSizesSaid : Prop := diffSizesRow.holds Tryd.pinned (OpenSpec.ofChange diffSizesSpec)

/-- ITS FALSE NEIGHBOUR: 'it returns false'. Refute it at one input. -/
def diffSizesWrong : ChangeSpec := { name := "diffSizes", fn := fun _ => fun
  | [d1, d2] => { results := [.lit (.bool false)], args := [d1, d2] }
  | _ => none }
def DiffSizesWrongFalsely : Prop := diffSizesRow.holds Tryd.pinned (OpenSpec.ofChange diffSizesWrong)

/-- 'diptychlaw5.PieceSplit': WHATEVER THE INPUT: true; the input reads as it did. -/
def pieceSplitSpec : ChangeSpec := { name := "pieceSplit", fn := fun _ => fun
  | [d1, d2] => { results := [.lit (.bool true)], args := [d1, d2] }
  | _ => none }
def pieceSplitRow : OpenClaim := { program := "ytblielhogcnnkaadoor", sum := "68ca67bc3f238401f080faf8bd275c90701d38418f1fa703a421166514f49233", func := "diptych/diptychlaw5.PieceSplit", spec := "pieceSplit", inPlace := ["internal/bytealg.IndexByteString", "internal/bytealg.IndexString"], unfollowed := true, recurses := true, named := ["unicode/utf8.first", "unicode/utf8.acceptRanges", "internal/bytealg.MaxLen"], apart := false, laid := [("unicode/utf8.acceptRanges", laid_unicode_utf8_acceptRanges), ("unicode/utf8.first", laid_unicode_utf8_first)] }
def PieceSplitSaid : Prop := pieceSplitRow.holds Tryd.pinned (OpenSpec.ofChange pieceSplitSpec)

/-- ITS FALSE NEIGHBOUR: 'it returns false'. Refute it at one input. -/
def pieceSplitWrong : ChangeSpec := { name := "pieceSplit", fn := fun _ => fun
  | [d1, d2] => { results := [.lit (.bool false)], args := [d1, d2] }
  | _ => none }
def PieceSplitWrongFalsely : Prop := pieceSplitRow.holds Tryd.pinned (OpenSpec.ofChange pieceSplitWrong)

/-- 'diptychlaw5.PieceSplits': WHATEVER THE INPUT: true; the input reads as it did. -/
def pieceSplitsSpec : ChangeSpec := { name := "pieceSplits", fn := fun _ => fun
  | [d1, d2, d3] => { results := [.lit (.bool true)], args := [d1, d2, d3] }
  | _ => none }
def pieceSplitsRow : OpenClaim := { program := "ytblielhogcnnkaadoor", sum := "68ca67bc3f238401f080faf8bd275c90701d38418f1fa703a421166514f49233", func := "diptych/diptychlaw5.PieceSplits", spec := "pieceSplits", inPlace := ["internal/bytealg.IndexByteString", "internal/bytealg.IndexString"], unfollowed := true, recurses := true, named := ["unicode/utf8.first", "unicode/utf8.acceptRanges", "internal/bytealg.MaxLen"], apart := false, laid := [("unicode/utf8.acceptRanges", laid_unicode_utf8_acceptRanges), ("unicode/utf8.first", laid_unicode_utf8_first)] }
def PieceSplitsSaid : Prop := pieceSplitsRow.holds Tryd.pinned (OpenSpec.ofChange pieceSplitsSpec)

/-- ITS FALSE NEIGHBOUR: 'it returns false'. Refute it at one input. -/
def pieceSplitsWrong : ChangeSpec := { name := "pieceSplits", fn := fun _ => fun
  | [d1, d2, d3] => { results := [.lit (.bool false)], args := [d1, d2, d3] }
  | _ => none }
def PieceSplitsWrongFalsely : Prop := pieceSplitsRow.holds Tryd.pinned (OpenSpec.ofChange pieceSplitsWrong)

/-- 'diptychlaw5.PieceApart': WHATEVER THE INPUT: true; the input reads as it did. -/
def pieceApartSpec : ChangeSpec := { name := "pieceApart", fn := fun _ => fun
  | [d1, d2, d3] => { results := [.lit (.bool true)], args := [d1, d2, d3] }
  | _ => none }
def pieceApartRow : OpenClaim := { program := "ytblielhogcnnkaadoor", sum := "68ca67bc3f238401f080faf8bd275c90701d38418f1fa703a421166514f49233", func := "diptych/diptychlaw5.PieceApart", spec := "pieceApart", inPlace := ["internal/bytealg.IndexByteString", "internal/bytealg.IndexString"], unfollowed := true, recurses := true, named := ["unicode/utf8.first", "unicode/utf8.acceptRanges", "internal/bytealg.MaxLen"], apart := false, laid := [("unicode/utf8.acceptRanges", laid_unicode_utf8_acceptRanges), ("unicode/utf8.first", laid_unicode_utf8_first)] }
def PieceApartSaid : Prop := pieceApartRow.holds Tryd.pinned (OpenSpec.ofChange pieceApartSpec)

/-- ITS FALSE NEIGHBOUR: 'it returns false'. Refute it at one input. -/
def pieceApartWrong : ChangeSpec := { name := "pieceApart", fn := fun _ => fun
  | [d1, d2, d3] => { results := [.lit (.bool false)], args := [d1, d2, d3] }
  | _ => none }
def PieceApartWrongFalsely : Prop := pieceApartRow.holds Tryd.pinned (OpenSpec.ofChange pieceApartWrong)

/-- 'diptychlaw5.PieceTwice': WHATEVER THE INPUT: true; the input reads as it did. -/
def pieceTwiceSpec : ChangeSpec := { name := "pieceTwice", fn := fun _ => fun
  | [d1, d2, d3] => { results := [.lit (.bool true)], args := [d1, d2, d3] }
  | _ => none }
def pieceTwiceRow : OpenClaim := { program := "ytblielhogcnnkaadoor", sum := "68ca67bc3f238401f080faf8bd275c90701d38418f1fa703a421166514f49233", func := "diptych/diptychlaw5.PieceTwice", spec := "pieceTwice", inPlace := ["internal/bytealg.IndexByteString", "internal/bytealg.IndexString"], unfollowed := true, recurses := true, named := ["unicode/utf8.first", "unicode/utf8.acceptRanges", "internal/bytealg.MaxLen"], apart := false, laid := [("unicode/utf8.acceptRanges", laid_unicode_utf8_acceptRanges), ("unicode/utf8.first", laid_unicode_utf8_first)] }
def PieceTwiceSaid : Prop := pieceTwiceRow.holds Tryd.pinned (OpenSpec.ofChange pieceTwiceSpec)

/-- ITS FALSE NEIGHBOUR: 'it returns false'. Refute it at one input. -/
def pieceTwiceWrong : ChangeSpec := { name := "pieceTwice", fn := fun _ => fun
  | [d1, d2, d3] => { results := [.lit (.bool false)], args := [d1, d2, d3] }
  | _ => none }
def PieceTwiceWrongFalsely : Prop := pieceTwiceRow.holds Tryd.pinned (OpenSpec.ofChange pieceTwiceWrong)

/-- 'diptychlaw5.PieceBack': WHATEVER THE INPUT: true; the input reads as it did. -/
def pieceBackSpec : ChangeSpec := { name := "pieceBack", fn := fun _ => fun
  | [d1, d2, d3] => { results := [.lit (.bool true)], args := [d1, d2, d3] }
  | _ => none }
def pieceBackRow : OpenClaim := { program := "ytblielhogcnnkaadoor", sum := "68ca67bc3f238401f080faf8bd275c90701d38418f1fa703a421166514f49233", func := "diptych/diptychlaw5.PieceBack", spec := "pieceBack", inPlace := ["internal/bytealg.IndexByteString", "internal/bytealg.IndexString"], unfollowed := true, recurses := true, named := ["unicode/utf8.first", "unicode/utf8.acceptRanges", "internal/bytealg.MaxLen"], apart := false, laid := [("unicode/utf8.acceptRanges", laid_unicode_utf8_acceptRanges), ("unicode/utf8.first", laid_unicode_utf8_first)] }
def PieceBackSaid : Prop := pieceBackRow.holds Tryd.pinned (OpenSpec.ofChange pieceBackSpec)

/-- ITS FALSE NEIGHBOUR: 'it returns false'. Refute it at one input. -/
def pieceBackWrong : ChangeSpec := { name := "pieceBack", fn := fun _ => fun
  | [d1, d2, d3] => { results := [.lit (.bool false)], args := [d1, d2, d3] }
  | _ => none }
def PieceBackWrongFalsely : Prop := pieceBackRow.holds Tryd.pinned (OpenSpec.ofChange pieceBackWrong)

/-- 'diptychlaw5.PieceIn': WHATEVER THE INPUT: true; the input reads as it did. -/
def pieceInSpec : ChangeSpec := { name := "pieceIn", fn := fun _ => fun
  | [d1, d2, d3, d4] => { results := [.lit (.bool true)], args := [d1, d2, d3, d4] }
  | _ => none }
def pieceInRow : OpenClaim := { program := "ytblielhogcnnkaadoor", sum := "68ca67bc3f238401f080faf8bd275c90701d38418f1fa703a421166514f49233", func := "diptych/diptychlaw5.PieceIn", spec := "pieceIn", inPlace := ["internal/bytealg.IndexByteString", "internal/bytealg.IndexString"], unfollowed := true, recurses := true, named := ["unicode/utf8.first", "unicode/utf8.acceptRanges", "internal/bytealg.MaxLen"], apart := false, laid := [("unicode/utf8.acceptRanges", laid_unicode_utf8_acceptRanges), ("unicode/utf8.first", laid_unicode_utf8_first)] }
def PieceInSaid : Prop := pieceInRow.holds Tryd.pinned (OpenSpec.ofChange pieceInSpec)

/-- ITS FALSE NEIGHBOUR: 'it returns false'. Refute it at one input. -/
def pieceInWrong : ChangeSpec := { name := "pieceIn", fn := fun _ => fun
  | [d1, d2, d3, d4] => { results := [.lit (.bool false)], args := [d1, d2, d3, d4] }
  | _ => none }
def PieceInWrongFalsely : Prop := pieceInRow.holds Tryd.pinned (OpenSpec.ofChange pieceInWrong)

/-- 'diptychlaw5.PieceTokens': WHATEVER THE INPUT: true; the input reads as it did. -/
def pieceTokensSpec : ChangeSpec := { name := "pieceTokens", fn := fun _ => fun
  | [d1, d2, d3, d4] => { results := [.lit (.bool true)], args := [d1, d2, d3, d4] }
  | _ => none }
def pieceTokensRow : OpenClaim := { program := "ytblielhogcnnkaadoor", sum := "68ca67bc3f238401f080faf8bd275c90701d38418f1fa703a421166514f49233", func := "diptych/diptychlaw5.PieceTokens", spec := "pieceTokens", inPlace := ["internal/bytealg.IndexByteString", "internal/bytealg.IndexString", "internal/abi.NoEscape", "internal/bytealg.MakeNoZero", "internal/bytealg.CountString"], unfollowed := true, recurses := true, named := ["unicode/utf8.first", "unicode/utf8.acceptRanges", "internal/bytealg.MaxLen"], apart := false, laid := [("unicode/utf8.acceptRanges", laid_unicode_utf8_acceptRanges), ("unicode/utf8.first", laid_unicode_utf8_first)] }
def PieceTokensSaid : Prop := pieceTokensRow.holds Tryd.pinned (OpenSpec.ofChange pieceTokensSpec)

/-- ITS FALSE NEIGHBOUR: 'it returns false'. Refute it at one input. -/
def pieceTokensWrong : ChangeSpec := { name := "pieceTokens", fn := fun _ => fun
  | [d1, d2, d3, d4] => { results := [.lit (.bool false)], args := [d1, d2, d3, d4] }
  | _ => none }
def PieceTokensWrongFalsely : Prop := pieceTokensRow.holds Tryd.pinned (OpenSpec.ofChange pieceTokensWrong)

/-- 'diptychlaw12.WireApart': WHATEVER THE INPUT: true; the input reads as it did. -/
def wireApartSpec : ChangeSpec := { name := "wireApart", fn := fun _ => fun
  | [d1, d2] => { results := [.lit (.bool true)], args := [d1, d2] }
  | _ => none }
def wireApartRow : OpenClaim := { program := "ytblielhogcnnkaadoor", sum := "68ca67bc3f238401f080faf8bd275c90701d38418f1fa703a421166514f49233", func := "diptych/diptychlaw12.WireApart", spec := "wireApart", inPlace := ["internal/bytealg.IndexByteString", "internal/bytealg.IndexString", "internal/bytealg.CountString", "internal/abi.NoEscape", "internal/bytealg.MakeNoZero"], recurses := true, named := ["unicode/utf8.first", "unicode/utf8.acceptRanges", "internal/bytealg.MaxLen", "internal/strconv.uint64pow10", "math/bits.deBruijn32tab", "math/bits.deBruijn64tab"], loops := true, apart := false, laid := [("math/bits.deBruijn32tab", laid_math_bits_deBruijn32tab), ("math/bits.deBruijn64tab", laid_math_bits_deBruijn64tab), ("internal/strconv.uint64pow10", laid_internal_strconv_uint64pow10), ("unicode/utf8.acceptRanges", laid_unicode_utf8_acceptRanges), ("unicode/utf8.first", laid_unicode_utf8_first)] }
def WireApartSaid : Prop := wireApartRow.holds Tryd.pinned (OpenSpec.ofChange wireApartSpec)

/-- ITS FALSE NEIGHBOUR: 'it returns false'. Refute it at one input. -/
def wireApartWrong : ChangeSpec := { name := "wireApart", fn := fun _ => fun
  | [d1, d2] => { results := [.lit (.bool false)], args := [d1, d2] }
  | _ => none }
def WireApartWrongFalsely : Prop := wireApartRow.holds Tryd.pinned (OpenSpec.ofChange wireApartWrong)

/- THE SECOND FORM. 'bulk': how many values and letters a reading holds, each counted each time it is reached (what is shared counts as often as it is met; a slice's spare places count too). A statement '..UptoSaid' is the law's where the arguments, and the package variables that the reading takes, are together of bulk at most 1048576: NARROWER than '..Said'. Prove '..Said' where nothing that the law and all that it calls make is longer than what came in: it says more and counts as full. Else prove '..UptoSaid'. A law counts once. -/
mutual
def uptoBulk {H : Type} : DataW H → Nat
  | .lit (.string bytes) => bytes.length + 1
  | .lit _ => 1
  | .nil => 1
  | .ptr d => uptoBulk d + 1
  | .slice elems spare => uptoBulkAll elems + uptoBulkAll spare + 1
  | .agg parts => uptoBulkAll parts + 1
  | .iface _ d => uptoBulk d + 1
  | .map entries => uptoBulkEntries entries + 1
  | .held _ => 1
def uptoBulkAll {H : Type} : List (DataW H) → Nat
  | [] => 0
  | d :: r => uptoBulk d + uptoBulkAll r
def uptoBulkEntries {H : Type} : List (Lit × DataW H) → Nat
  | [] => 0
  | x :: r => uptoBulkEntry x + uptoBulkEntries r
def uptoBulkEntry {H : Type} : Lit × DataW H → Nat
  | (.string bytes, d) => bytes.length + uptoBulk d + 1
  | (_, d) => uptoBulk d + 1
 end
def uptoSmall : (H : Type) → List (DataW H) → Bool := fun _ ds => decide (uptoBulkAll ds ≤ 1048576)
def OpenSpec.upto (s : _root_.Go.ChangeSpec) : _root_.Go.OpenSpec := { _root_.Go.OpenSpec.ofChange s with cond := some uptoSmall }

/-- 'diptychlaw1.NodeOwn', WHERE WHAT IT READS IS OF BULK AT MOST 1048576: true; the input reads as it did. -/
def nodeOwnUptoRow : OpenClaim := { program := "ytblielhogcnnkaadoor", sum := "68ca67bc3f238401f080faf8bd275c90701d38418f1fa703a421166514f49233", func := "diptych/diptychlaw1.NodeOwn", spec := "nodeOwn", inPlace := ["internal/bytealg.IndexByteString", "internal/bytealg.IndexString"], unfollowed := true, recurses := true, named := ["unicode/utf8.first", "unicode/utf8.acceptRanges", "internal/bytealg.MaxLen"], apart := false, laid := [("unicode/utf8.acceptRanges", laid_unicode_utf8_acceptRanges), ("unicode/utf8.first", laid_unicode_utf8_first)], narrowed := true }
def NodeOwnUptoSaid : Prop := nodeOwnUptoRow.holds Tryd.pinned (OpenSpec.upto nodeOwnSpec)

/-- 'diptychlaw18.DiffSteps', WHERE WHAT IT READS IS OF BULK AT MOST 1048576: true; the input reads as it did. -/
def diffStepsUptoRow : OpenClaim := { program := "ytblielhogcnnkaadoor", sum := "68ca67bc3f238401f080faf8bd275c90701d38418f1fa703a421166514f49233", func := "diptych/diptychlaw18.DiffSteps", spec := "diffSteps", inPlace := ["internal/bytealg.IndexByteString", "internal/bytealg.IndexString"], unfollowed := true, recurses := true, named := ["unicode/utf8.first", "unicode/utf8.acceptRanges", "internal/bytealg.MaxLen"], loops := true, apart := false, laid := [("unicode/utf8.acceptRanges", laid_unicode_utf8_acceptRanges), ("unicode/utf8.first", laid_unicode_utf8_first)], narrowed := true }
def DiffStepsUptoSaid : Prop := diffStepsUptoRow.holds Tryd.pinned (OpenSpec.upto diffStepsSpec)

/-- 'diptychlaw18.DiffSizes', WHERE WHAT IT READS IS OF BULK AT MOST 1048576: true; the input reads as it did. -/
def diffSizesUptoRow : OpenClaim := { program := "ytblielhogcnnkaadoor", sum := "68ca67bc3f238401f080faf8bd275c90701d38418f1fa703a421166514f49233", func := "diptych/diptychlaw18.DiffSizes", spec := "diffSizes", inPlace := ["internal/bytealg.IndexByteString", "internal/bytealg.IndexString"], unfollowed := true, recurses := true, named := ["unicode/utf8.first", "unicode/utf8.acceptRanges", "internal/bytealg.MaxLen"], apart := false, laid := [("unicode/utf8.acceptRanges", laid_unicode_utf8_acceptRanges), ("unicode/utf8.first", laid_unicode_utf8_first)], narrowed := true }
def DiffSizesUptoSaid : Prop := diffSizesUptoRow.holds Tryd.pinned (OpenSpec.upto diffSizesSpec)

/-- 'diptychlaw5.PieceSplit', WHERE WHAT IT READS IS OF BULK AT MOST 1048576: true; the input reads as it did. -/
def pieceSplitUptoRow : OpenClaim := { program := "ytblielhogcnnkaadoor", sum := "68ca67bc3f238401f080faf8bd275c90701d38418f1fa703a421166514f49233", func := "diptych/diptychlaw5.PieceSplit", spec := "pieceSplit", inPlace := ["internal/bytealg.IndexByteString", "internal/bytealg.IndexString"], unfollowed := true, recurses := true, named := ["unicode/utf8.first", "unicode/utf8.acceptRanges", "internal/bytealg.MaxLen"], apart := false, laid := [("unicode/utf8.acceptRanges", laid_unicode_utf8_acceptRanges), ("unicode/utf8.first", laid_unicode_utf8_first)], narrowed := true }
def PieceSplitUptoSaid : Prop := pieceSplitUptoRow.holds Tryd.pinned (OpenSpec.upto pieceSplitSpec)

/-- 'diptychlaw5.PieceSplits', WHERE WHAT IT READS IS OF BULK AT MOST 1048576: true; the input reads as it did. -/
def pieceSplitsUptoRow : OpenClaim := { program := "ytblielhogcnnkaadoor", sum := "68ca67bc3f238401f080faf8bd275c90701d38418f1fa703a421166514f49233", func := "diptych/diptychlaw5.PieceSplits", spec := "pieceSplits", inPlace := ["internal/bytealg.IndexByteString", "internal/bytealg.IndexString"], unfollowed := true, recurses := true, named := ["unicode/utf8.first", "unicode/utf8.acceptRanges", "internal/bytealg.MaxLen"], apart := false, laid := [("unicode/utf8.acceptRanges", laid_unicode_utf8_acceptRanges), ("unicode/utf8.first", laid_unicode_utf8_first)], narrowed := true }
def PieceSplitsUptoSaid : Prop := pieceSplitsUptoRow.holds Tryd.pinned (OpenSpec.upto pieceSplitsSpec)

/-- 'diptychlaw5.PieceApart', WHERE WHAT IT READS IS OF BULK AT MOST 1048576: true; the input reads as it did. -/
def pieceApartUptoRow : OpenClaim := { program := "ytblielhogcnnkaadoor", sum := "68ca67bc3f238401f080faf8bd275c90701d38418f1fa703a421166514f49233", func := "diptych/diptychlaw5.PieceApart", spec := "pieceApart", inPlace := ["internal/bytealg.IndexByteString", "internal/bytealg.IndexString"], unfollowed := true, recurses := true, named := ["unicode/utf8.first", "unicode/utf8.acceptRanges", "internal/bytealg.MaxLen"], apart := false, laid := [("unicode/utf8.acceptRanges", laid_unicode_utf8_acceptRanges), ("unicode/utf8.first", laid_unicode_utf8_first)], narrowed := true }
def PieceApartUptoSaid : Prop := pieceApartUptoRow.holds Tryd.pinned (OpenSpec.upto pieceApartSpec)

/-- 'diptychlaw5.PieceTwice', WHERE WHAT IT READS IS OF BULK AT MOST 1048576: true; the input reads as it did. -/
def pieceTwiceUptoRow : OpenClaim := { program := "ytblielhogcnnkaadoor", sum := "68ca67bc3f238401f080faf8bd275c90701d38418f1fa703a421166514f49233", func := "diptych/diptychlaw5.PieceTwice", spec := "pieceTwice", inPlace := ["internal/bytealg.IndexByteString", "internal/bytealg.IndexString"], unfollowed := true, recurses := true, named := ["unicode/utf8.first", "unicode/utf8.acceptRanges", "internal/bytealg.MaxLen"], apart := false, laid := [("unicode/utf8.acceptRanges", laid_unicode_utf8_acceptRanges), ("unicode/utf8.first", laid_unicode_utf8_first)], narrowed := true }
def PieceTwiceUptoSaid : Prop := pieceTwiceUptoRow.holds Tryd.pinned (OpenSpec.upto pieceTwiceSpec)

/-- 'diptychlaw5.PieceBack', WHERE WHAT IT READS IS OF BULK AT MOST 1048576: true; the input reads as it did. -/
def pieceBackUptoRow : OpenClaim := { program := "ytblielhogcnnkaadoor", sum := "68ca67bc3f238401f080faf8bd275c90701d38418f1fa703a421166514f49233", func := "diptych/diptychlaw5.PieceBack", spec := "pieceBack", inPlace := ["internal/bytealg.IndexByteString", "internal/bytealg.IndexString"], unfollowed := true, recurses := true, named := ["unicode/utf8.first", "unicode/utf8.acceptRanges", "internal/bytealg.MaxLen"], apart := false, laid := [("unicode/utf8.acceptRanges", laid_unicode_utf8_acceptRanges), ("unicode/utf8.first", laid_unicode_utf8_first)], narrowed := true }
def PieceBackUptoSaid : Prop := pieceBackUptoRow.holds Tryd.pinned (OpenSpec.upto pieceBackSpec)

/-- 'diptychlaw5.PieceIn', WHERE WHAT IT READS IS OF BULK AT MOST 1048576: true; the input reads as it did. -/
def pieceInUptoRow : OpenClaim := { program := "ytblielhogcnnkaadoor", sum := "68ca67bc3f238401f080faf8bd275c90701d38418f1fa703a421166514f49233", func := "diptych/diptychlaw5.PieceIn", spec := "pieceIn", inPlace := ["internal/bytealg.IndexByteString", "internal/bytealg.IndexString"], unfollowed := true, recurses := true, named := ["unicode/utf8.first", "unicode/utf8.acceptRanges", "internal/bytealg.MaxLen"], apart := false, laid := [("unicode/utf8.acceptRanges", laid_unicode_utf8_acceptRanges), ("unicode/utf8.first", laid_unicode_utf8_first)], narrowed := true }
def PieceInUptoSaid : Prop := pieceInUptoRow.holds Tryd.pinned (OpenSpec.upto pieceInSpec)

/-- 'diptychlaw5.PieceTokens', WHERE WHAT IT READS IS OF BULK AT MOST 1048576: true; the input reads as it did. -/
def pieceTokensUptoRow : OpenClaim := { program := "ytblielhogcnnkaadoor", sum := "68ca67bc3f238401f080faf8bd275c90701d38418f1fa703a421166514f49233", func := "diptych/diptychlaw5.PieceTokens", spec := "pieceTokens", inPlace := ["internal/bytealg.IndexByteString", "internal/bytealg.IndexString", "internal/abi.NoEscape", "internal/bytealg.MakeNoZero", "internal/bytealg.CountString"], unfollowed := true, recurses := true, named := ["unicode/utf8.first", "unicode/utf8.acceptRanges", "internal/bytealg.MaxLen"], apart := false, laid := [("unicode/utf8.acceptRanges", laid_unicode_utf8_acceptRanges), ("unicode/utf8.first", laid_unicode_utf8_first)], narrowed := true }
def PieceTokensUptoSaid : Prop := pieceTokensUptoRow.holds Tryd.pinned (OpenSpec.upto pieceTokensSpec)

/-- 'diptychlaw12.WireApart', WHERE WHAT IT READS IS OF BULK AT MOST 1048576: true; the input reads as it did. -/
def wireApartUptoRow : OpenClaim := { program := "ytblielhogcnnkaadoor", sum := "68ca67bc3f238401f080faf8bd275c90701d38418f1fa703a421166514f49233", func := "diptych/diptychlaw12.WireApart", spec := "wireApart", inPlace := ["internal/bytealg.IndexByteString", "internal/bytealg.IndexString", "internal/bytealg.CountString", "internal/abi.NoEscape", "internal/bytealg.MakeNoZero"], recurses := true, named := ["unicode/utf8.first", "unicode/utf8.acceptRanges", "internal/bytealg.MaxLen", "internal/strconv.uint64pow10", "math/bits.deBruijn32tab", "math/bits.deBruijn64tab"], loops := true, apart := false, laid := [("math/bits.deBruijn32tab", laid_math_bits_deBruijn32tab), ("math/bits.deBruijn64tab", laid_math_bits_deBruijn64tab), ("internal/strconv.uint64pow10", laid_internal_strconv_uint64pow10), ("unicode/utf8.acceptRanges", laid_unicode_utf8_acceptRanges), ("unicode/utf8.first", laid_unicode_utf8_first)], narrowed := true }
def WireApartUptoSaid : Prop := wireApartUptoRow.holds Tryd.pinned (OpenSpec.upto wireApartSpec)

end Rows
end Go.Proofs.YtblielhogcnnkaaDoor
