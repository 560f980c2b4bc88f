/-
  No cell of these rows narrows 'for every input' (looked for: loops, veiled, ifaces, maps, wideKeys, modest, calm, conditions, laid).
  DERIVED. THE GIVEN ROWS OF THIS SEAT. 12 by the template 'for every input the law returns true; each argument reads behind the call as it read before'; 0 by the template 'total and deterministic' (their statements: YtafcbjepmjcpgaaTotals.lean).
  GIVEN WITH THE SEED: the statements are not yours to turn. If you find one false, say at which input.
  Laid BY PROGRAM, IN A SANDBOX (cutbox-rows.mjs): the forced cells as the released guide's own fill.sh prints them over the translation 0ad20a2791f500ca… (all of the seat's roots in one cut). By AI agents, Wed Nov 11 2026. No macro, syntax, notation, axiom, sorry.
-/
import Derived.Test.YtafcbjepmjcpgaaChecked
import GoSem.Claim
import GoSem.ClaimJoined
import GoSem.ClaimMapViews
import Derived.JoinedTies
import Derived.KernelRfl
namespace Go.Proofs.Ytafcbjepmjcpgaa
/- THE CELL 'sum', in the pinned program and in every row, IS THE sha256 OF THE DUMP (.gsa) THAT YtafcbjepmjcpgaaProg.lean LOADS. Nothing in Lean hashes anything: it is a label: what it is worth is what the hold of that sum in a sandbox is worth. -/
noncomputable def Try.pinned : Pinned := { name := "ytafcbjepmjcpgaa", sum := "0ad20a2791f500ca69a037ca4ace50b70b4c78694cbdfdbb9ddf270437ad09a4", checked := Try.checked }
namespace Rows
def none {H : Type} : Left H := { results := [], args := [] }

/-- 'diptychlaw10.MapsThrough': WHATEVER THE INPUT: true; the input reads as it did. -/
def mapsThroughSpec : ChangeSpec := { name := "mapsThrough", fn := fun _ => fun
  | [d1, d2, d3, d4] => { results := [.lit (.bool true)], args := [d1, d2, d3, d4] }
  | _ => none }
def mapsThroughRow : OpenClaim := { program := "ytafcbjepmjcpgaa", sum := "0ad20a2791f500ca69a037ca4ace50b70b4c78694cbdfdbb9ddf270437ad09a4", func := "diptych/diptychlaw10.MapsThrough", spec := "mapsThrough", apart := false }
def MapsThroughSaid : Prop := mapsThroughRow.holds Try.pinned (OpenSpec.ofChange mapsThroughSpec)

/-- ITS FALSE NEIGHBOUR: 'it returns false'. Refute it at one input. -/
def mapsThroughWrong : ChangeSpec := { name := "mapsThrough", fn := fun _ => fun
  | [d1, d2, d3, d4] => { results := [.lit (.bool false)], args := [d1, d2, d3, d4] }
  | _ => none }
def MapsThroughWrongFalsely : Prop := mapsThroughRow.holds Try.pinned (OpenSpec.ofChange mapsThroughWrong)

/-- 'diptychlaw10.MapsRise': WHATEVER THE INPUT: true; the input reads as it did. -/
def mapsRiseSpec : ChangeSpec := { name := "mapsRise", fn := fun _ => fun
  | [d1, d2, d3] => { results := [.lit (.bool true)], args := [d1, d2, d3] }
  | _ => none }
def mapsRiseRow : OpenClaim := { program := "ytafcbjepmjcpgaa", sum := "0ad20a2791f500ca69a037ca4ace50b70b4c78694cbdfdbb9ddf270437ad09a4", func := "diptych/diptychlaw10.MapsRise", spec := "mapsRise", apart := false }
def MapsRiseSaid : Prop := mapsRiseRow.holds Try.pinned (OpenSpec.ofChange mapsRiseSpec)

/-- ITS FALSE NEIGHBOUR: 'it returns false'. Refute it at one input. -/
def mapsRiseWrong : ChangeSpec := { name := "mapsRise", fn := fun _ => fun
  | [d1, d2, d3] => { results := [.lit (.bool false)], args := [d1, d2, d3] }
  | _ => none }
def MapsRiseWrongFalsely : Prop := mapsRiseRow.holds Try.pinned (OpenSpec.ofChange mapsRiseWrong)

/-- 'diptychlaw10.MapsParts': WHATEVER THE INPUT: true; the input reads as it did. -/
def mapsPartsSpec : ChangeSpec := { name := "mapsParts", fn := fun _ => fun
  | [d1, d2] => { results := [.lit (.bool true)], args := [d1, d2] }
  | _ => none }
def mapsPartsRow : OpenClaim := { program := "ytafcbjepmjcpgaa", sum := "0ad20a2791f500ca69a037ca4ace50b70b4c78694cbdfdbb9ddf270437ad09a4", func := "diptych/diptychlaw10.MapsParts", spec := "mapsParts", apart := false }
def MapsPartsSaid : Prop := mapsPartsRow.holds Try.pinned (OpenSpec.ofChange mapsPartsSpec)

/-- ITS FALSE NEIGHBOUR: 'it returns false'. Refute it at one input. -/
def mapsPartsWrong : ChangeSpec := { name := "mapsParts", fn := fun _ => fun
  | [d1, d2] => { results := [.lit (.bool false)], args := [d1, d2] }
  | _ => none }
def MapsPartsWrongFalsely : Prop := mapsPartsRow.holds Try.pinned (OpenSpec.ofChange mapsPartsWrong)

/-- 'diptychlaw10.MapsTurned': WHATEVER THE INPUT: true; the input reads as it did. -/
def mapsTurnedSpec : ChangeSpec := { name := "mapsTurned", fn := fun _ => fun
  | [d1, d2, d3] => { results := [.lit (.bool true)], args := [d1, d2, d3] }
  | _ => none }
def mapsTurnedRow : OpenClaim := { program := "ytafcbjepmjcpgaa", sum := "0ad20a2791f500ca69a037ca4ace50b70b4c78694cbdfdbb9ddf270437ad09a4", func := "diptych/diptychlaw10.MapsTurned", spec := "mapsTurned", apart := false }
def MapsTurnedSaid : Prop := mapsTurnedRow.holds Try.pinned (OpenSpec.ofChange mapsTurnedSpec)

/-- ITS FALSE NEIGHBOUR: 'it returns false'. Refute it at one input. -/
def mapsTurnedWrong : ChangeSpec := { name := "mapsTurned", fn := fun _ => fun
  | [d1, d2, d3] => { results := [.lit (.bool false)], args := [d1, d2, d3] }
  | _ => none }
def MapsTurnedWrongFalsely : Prop := mapsTurnedRow.holds Try.pinned (OpenSpec.ofChange mapsTurnedWrong)

/-- 'diptychlaw10.MapsTell': WHATEVER THE INPUT: true; the input reads as it did. -/
def mapsTellSpec : ChangeSpec := { name := "mapsTell", fn := fun _ => fun
  | [d1, d2, d3] => { results := [.lit (.bool true)], args := [d1, d2, d3] }
  | _ => none }
def mapsTellRow : OpenClaim := { program := "ytafcbjepmjcpgaa", sum := "0ad20a2791f500ca69a037ca4ace50b70b4c78694cbdfdbb9ddf270437ad09a4", func := "diptych/diptychlaw10.MapsTell", spec := "mapsTell", apart := false }
def MapsTellSaid : Prop := mapsTellRow.holds Try.pinned (OpenSpec.ofChange mapsTellSpec)

/-- ITS FALSE NEIGHBOUR: 'it returns false'. Refute it at one input. -/
def mapsTellWrong : ChangeSpec := { name := "mapsTell", fn := fun _ => fun
  | [d1, d2, d3] => { results := [.lit (.bool false)], args := [d1, d2, d3] }
  | _ => none }
def MapsTellWrongFalsely : Prop := mapsTellRow.holds Try.pinned (OpenSpec.ofChange mapsTellWrong)

/-- 'diptychlaw10.MapsBack': WHATEVER THE INPUT: true; the input reads as it did. -/
def mapsBackSpec : ChangeSpec := { name := "mapsBack", fn := fun _ => fun
  | [d1, d2] => { results := [.lit (.bool true)], args := [d1, d2] }
  | _ => none }
def mapsBackRow : OpenClaim := { program := "ytafcbjepmjcpgaa", sum := "0ad20a2791f500ca69a037ca4ace50b70b4c78694cbdfdbb9ddf270437ad09a4", func := "diptych/diptychlaw10.MapsBack", spec := "mapsBack", apart := false }
def MapsBackSaid : Prop := mapsBackRow.holds Try.pinned (OpenSpec.ofChange mapsBackSpec)

/-- ITS FALSE NEIGHBOUR: 'it returns false'. Refute it at one input. -/
def mapsBackWrong : ChangeSpec := { name := "mapsBack", fn := fun _ => fun
  | [d1, d2] => { results := [.lit (.bool false)], args := [d1, d2] }
  | _ => none }
def MapsBackWrongFalsely : Prop := mapsBackRow.holds Try.pinned (OpenSpec.ofChange mapsBackWrong)

/-- 'diptychlaw10.MapsStay': WHATEVER THE INPUT: true; the input reads as it did. -/
def mapsStaySpec : ChangeSpec := { name := "mapsStay", fn := fun _ => fun
  | [d1, d2] => { results := [.lit (.bool true)], args := [d1, d2] }
  | _ => none }
def mapsStayRow : OpenClaim := { program := "ytafcbjepmjcpgaa", sum := "0ad20a2791f500ca69a037ca4ace50b70b4c78694cbdfdbb9ddf270437ad09a4", func := "diptych/diptychlaw10.MapsStay", spec := "mapsStay", apart := false }
def MapsStaySaid : Prop := mapsStayRow.holds Try.pinned (OpenSpec.ofChange mapsStaySpec)

/-- ITS FALSE NEIGHBOUR: 'it returns false'. Refute it at one input. -/
def mapsStayWrong : ChangeSpec := { name := "mapsStay", fn := fun _ => fun
  | [d1, d2] => { results := [.lit (.bool false)], args := [d1, d2] }
  | _ => none }
def MapsStayWrongFalsely : Prop := mapsStayRow.holds Try.pinned (OpenSpec.ofChange mapsStayWrong)

/-- 'diptychlaw4.PlaceResolves': WHATEVER THE INPUT: true; the input reads as it did. -/
def placeResolvesSpec : ChangeSpec := { name := "placeResolves", fn := fun _ => fun
  | [d1, d2, d3] => { results := [.lit (.bool true)], args := [d1, d2, d3] }
  | _ => none }
def placeResolvesRow : OpenClaim := { program := "ytafcbjepmjcpgaa", sum := "0ad20a2791f500ca69a037ca4ace50b70b4c78694cbdfdbb9ddf270437ad09a4", func := "diptych/diptychlaw4.PlaceResolves", spec := "placeResolves", recurses := true, apart := false }
def PlaceResolvesSaid : Prop := placeResolvesRow.holds Try.pinned (OpenSpec.ofChange placeResolvesSpec)

/-- ITS FALSE NEIGHBOUR: 'it returns false'. Refute it at one input. -/
def placeResolvesWrong : ChangeSpec := { name := "placeResolves", fn := fun _ => fun
  | [d1, d2, d3] => { results := [.lit (.bool false)], args := [d1, d2, d3] }
  | _ => none }
def PlaceResolvesWrongFalsely : Prop := placeResolvesRow.holds Try.pinned (OpenSpec.ofChange placeResolvesWrong)

/-- 'diptychlaw4.PlaceBack': WHATEVER THE INPUT: true; the input reads as it did. -/
def placeBackSpec : ChangeSpec := { name := "placeBack", fn := fun _ => fun
  | [d] => { results := [.lit (.bool true)], args := [d] }
  | _ => none }
def placeBackRow : OpenClaim := { program := "ytafcbjepmjcpgaa", sum := "0ad20a2791f500ca69a037ca4ace50b70b4c78694cbdfdbb9ddf270437ad09a4", func := "diptych/diptychlaw4.PlaceBack", spec := "placeBack", recurses := true, apart := false }
def PlaceBackSaid : Prop := placeBackRow.holds Try.pinned (OpenSpec.ofChange placeBackSpec)

/-- ITS FALSE NEIGHBOUR: 'it returns false'. Refute it at one input. -/
def placeBackWrong : ChangeSpec := { name := "placeBack", fn := fun _ => fun
  | [d] => { results := [.lit (.bool false)], args := [d] }
  | _ => none }
def PlaceBackWrongFalsely : Prop := placeBackRow.holds Try.pinned (OpenSpec.ofChange placeBackWrong)

/-- 'diptychlaw4.PlaceInner': WHATEVER THE INPUT: true; the input reads as it did. -/
def placeInnerSpec : ChangeSpec := { name := "placeInner", fn := fun _ => fun
  | [d1, d2, d3] => { results := [.lit (.bool true)], args := [d1, d2, d3] }
  | _ => none }
def placeInnerRow : OpenClaim := { program := "ytafcbjepmjcpgaa", sum := "0ad20a2791f500ca69a037ca4ace50b70b4c78694cbdfdbb9ddf270437ad09a4", func := "diptych/diptychlaw4.PlaceInner", spec := "placeInner", recurses := true, apart := false }
def PlaceInnerSaid : Prop := placeInnerRow.holds Try.pinned (OpenSpec.ofChange placeInnerSpec)

/-- ITS FALSE NEIGHBOUR: 'it returns false'. Refute it at one input. -/
def placeInnerWrong : ChangeSpec := { name := "placeInner", fn := fun _ => fun
  | [d1, d2, d3] => { results := [.lit (.bool false)], args := [d1, d2, d3] }
  | _ => none }
def PlaceInnerWrongFalsely : Prop := placeInnerRow.holds Try.pinned (OpenSpec.ofChange placeInnerWrong)

/-- 'diptychlaw4.PlaceWith': WHATEVER THE INPUT: true; the input reads as it did. -/
def placeWithSpec : ChangeSpec := { name := "placeWith", fn := fun _ => fun
  | [d1, d2, d3] => { results := [.lit (.bool true)], args := [d1, d2, d3] }
  | _ => none }
def placeWithRow : OpenClaim := { program := "ytafcbjepmjcpgaa", sum := "0ad20a2791f500ca69a037ca4ace50b70b4c78694cbdfdbb9ddf270437ad09a4", func := "diptych/diptychlaw4.PlaceWith", spec := "placeWith", unfollowed := true, recurses := true, apart := false }
def PlaceWithSaid : Prop := placeWithRow.holds Try.pinned (OpenSpec.ofChange placeWithSpec)

/-- ITS FALSE NEIGHBOUR: 'it returns false'. Refute it at one input. -/
def placeWithWrong : ChangeSpec := { name := "placeWith", fn := fun _ => fun
  | [d1, d2, d3] => { results := [.lit (.bool false)], args := [d1, d2, d3] }
  | _ => none }
def PlaceWithWrongFalsely : Prop := placeWithRow.holds Try.pinned (OpenSpec.ofChange placeWithWrong)

/-- 'diptychlaw4.PlacePaths': WHATEVER THE INPUT: true; the input reads as it did. -/
def placePathsSpec : ChangeSpec := { name := "placePaths", fn := fun _ => fun
  | [d] => { results := [.lit (.bool true)], args := [d] }
  | _ => none }
def placePathsRow : OpenClaim := { program := "ytafcbjepmjcpgaa", sum := "0ad20a2791f500ca69a037ca4ace50b70b4c78694cbdfdbb9ddf270437ad09a4", func := "diptych/diptychlaw4.PlacePaths", spec := "placePaths", unfollowed := true, recurses := true, apart := false }
def PlacePathsSaid : Prop := placePathsRow.holds Try.pinned (OpenSpec.ofChange placePathsSpec)

/-- ITS FALSE NEIGHBOUR: 'it returns false'. Refute it at one input. -/
def placePathsWrong : ChangeSpec := { name := "placePaths", fn := fun _ => fun
  | [d] => { results := [.lit (.bool false)], args := [d] }
  | _ => none }
def PlacePathsWrongFalsely : Prop := placePathsRow.holds Try.pinned (OpenSpec.ofChange placePathsWrong)

/- THE SECOND FORM. 'bulk': how many values and letters a reading holds, each counted each time it is reached (what is shared counts as often as it is met; a slice's spare places count too). A statement '..UptoSaid' is the law's where the arguments, and the package variables that the reading takes, are together of bulk at most 1048576: NARROWER than '..Said'. Prove '..Said' where nothing that the law and all that it calls make is longer than what came in: it says more and counts as full. Else prove '..UptoSaid'. A law counts once. -/
mutual
def uptoBulk {H : Type} : DataW H → Nat
  | .lit (.string bytes) => bytes.length + 1
  | .lit _ => 1
  | .nil => 1
  | .ptr d => uptoBulk d + 1
  | .slice elems spare => uptoBulkAll elems + uptoBulkAll spare + 1
  | .agg parts => uptoBulkAll parts + 1
  | .iface _ d => uptoBulk d + 1
  | .map entries => uptoBulkEntries entries + 1
  | .held _ => 1
def uptoBulkAll {H : Type} : List (DataW H) → Nat
  | [] => 0
  | d :: r => uptoBulk d + uptoBulkAll r
def uptoBulkEntries {H : Type} : List (Lit × DataW H) → Nat
  | [] => 0
  | x :: r => uptoBulkEntry x + uptoBulkEntries r
def uptoBulkEntry {H : Type} : Lit × DataW H → Nat
  | (.string bytes, d) => bytes.length + uptoBulk d + 1
  | (_, d) => uptoBulk d + 1
 end
def uptoSmall : (H : Type) → List (DataW H) → Bool := fun _ ds => decide (uptoBulkAll ds ≤ 1048576)
def OpenSpec.upto (s : _root_.Go.ChangeSpec) : _root_.Go.OpenSpec := { _root_.Go.OpenSpec.ofChange s with cond := some uptoSmall }

/-- 'diptychlaw10.MapsThrough', WHERE WHAT IT READS IS OF BULK AT MOST 1048576: true; the input reads as it did. -/
def mapsThroughUptoRow : OpenClaim := { program := "ytafcbjepmjcpgaa", sum := "0ad20a2791f500ca69a037ca4ace50b70b4c78694cbdfdbb9ddf270437ad09a4", func := "diptych/diptychlaw10.MapsThrough", spec := "mapsThrough", apart := false, narrowed := true }
def MapsThroughUptoSaid : Prop := mapsThroughUptoRow.holds Try.pinned (OpenSpec.upto mapsThroughSpec)

/-- 'diptychlaw10.MapsRise', WHERE WHAT IT READS IS OF BULK AT MOST 1048576: true; the input reads as it did. -/
def mapsRiseUptoRow : OpenClaim := { program := "ytafcbjepmjcpgaa", sum := "0ad20a2791f500ca69a037ca4ace50b70b4c78694cbdfdbb9ddf270437ad09a4", func := "diptych/diptychlaw10.MapsRise", spec := "mapsRise", apart := false, narrowed := true }
def MapsRiseUptoSaid : Prop := mapsRiseUptoRow.holds Try.pinned (OpenSpec.upto mapsRiseSpec)

/-- 'diptychlaw10.MapsParts', WHERE WHAT IT READS IS OF BULK AT MOST 1048576: true; the input reads as it did. -/
def mapsPartsUptoRow : OpenClaim := { program := "ytafcbjepmjcpgaa", sum := "0ad20a2791f500ca69a037ca4ace50b70b4c78694cbdfdbb9ddf270437ad09a4", func := "diptych/diptychlaw10.MapsParts", spec := "mapsParts", apart := false, narrowed := true }
def MapsPartsUptoSaid : Prop := mapsPartsUptoRow.holds Try.pinned (OpenSpec.upto mapsPartsSpec)

/-- 'diptychlaw10.MapsTurned', WHERE WHAT IT READS IS OF BULK AT MOST 1048576: true; the input reads as it did. -/
def mapsTurnedUptoRow : OpenClaim := { program := "ytafcbjepmjcpgaa", sum := "0ad20a2791f500ca69a037ca4ace50b70b4c78694cbdfdbb9ddf270437ad09a4", func := "diptych/diptychlaw10.MapsTurned", spec := "mapsTurned", apart := false, narrowed := true }
def MapsTurnedUptoSaid : Prop := mapsTurnedUptoRow.holds Try.pinned (OpenSpec.upto mapsTurnedSpec)

/-- 'diptychlaw10.MapsTell', WHERE WHAT IT READS IS OF BULK AT MOST 1048576: true; the input reads as it did. -/
def mapsTellUptoRow : OpenClaim := { program := "ytafcbjepmjcpgaa", sum := "0ad20a2791f500ca69a037ca4ace50b70b4c78694cbdfdbb9ddf270437ad09a4", func := "diptych/diptychlaw10.MapsTell", spec := "mapsTell", apart := false, narrowed := true }
def MapsTellUptoSaid : Prop := mapsTellUptoRow.holds Try.pinned (OpenSpec.upto mapsTellSpec)

/-- 'diptychlaw10.MapsBack', WHERE WHAT IT READS IS OF BULK AT MOST 1048576: true; the input reads as it did. -/
def mapsBackUptoRow : OpenClaim := { program := "ytafcbjepmjcpgaa", sum := "0ad20a2791f500ca69a037ca4ace50b70b4c78694cbdfdbb9ddf270437ad09a4", func := "diptych/diptychlaw10.MapsBack", spec := "mapsBack", apart := false, narrowed := true }
def MapsBackUptoSaid : Prop := mapsBackUptoRow.holds Try.pinned (OpenSpec.upto mapsBackSpec)

/-- 'diptychlaw10.MapsStay', WHERE WHAT IT READS IS OF BULK AT MOST 1048576: true; the input reads as it did. -/
def mapsStayUptoRow : OpenClaim := { program := "ytafcbjepmjcpgaa", sum := "0ad20a2791f500ca69a037ca4ace50b70b4c78694cbdfdbb9ddf270437ad09a4", func := "diptych/diptychlaw10.MapsStay", spec := "mapsStay", apart := false, narrowed := true }
def MapsStayUptoSaid : Prop := mapsStayUptoRow.holds Try.pinned (OpenSpec.upto mapsStaySpec)

/-- 'diptychlaw4.PlaceResolves', WHERE WHAT IT READS IS OF BULK AT MOST 1048576: true; the input reads as it did. -/
def placeResolvesUptoRow : OpenClaim := { program := "ytafcbjepmjcpgaa", sum := "0ad20a2791f500ca69a037ca4ace50b70b4c78694cbdfdbb9ddf270437ad09a4", func := "diptych/diptychlaw4.PlaceResolves", spec := "placeResolves", recurses := true, apart := false, narrowed := true }
def PlaceResolvesUptoSaid : Prop := placeResolvesUptoRow.holds Try.pinned (OpenSpec.upto placeResolvesSpec)

/-- 'diptychlaw4.PlaceBack', WHERE WHAT IT READS IS OF BULK AT MOST 1048576: true; the input reads as it did. -/
def placeBackUptoRow : OpenClaim := { program := "ytafcbjepmjcpgaa", sum := "0ad20a2791f500ca69a037ca4ace50b70b4c78694cbdfdbb9ddf270437ad09a4", func := "diptych/diptychlaw4.PlaceBack", spec := "placeBack", recurses := true, apart := false, narrowed := true }
def PlaceBackUptoSaid : Prop := placeBackUptoRow.holds Try.pinned (OpenSpec.upto placeBackSpec)

/-- 'diptychlaw4.PlaceInner', WHERE WHAT IT READS IS OF BULK AT MOST 1048576: true; the input reads as it did. -/
def placeInnerUptoRow : OpenClaim := { program := "ytafcbjepmjcpgaa", sum := "0ad20a2791f500ca69a037ca4ace50b70b4c78694cbdfdbb9ddf270437ad09a4", func := "diptych/diptychlaw4.PlaceInner", spec := "placeInner", recurses := true, apart := false, narrowed := true }
def PlaceInnerUptoSaid : Prop := placeInnerUptoRow.holds Try.pinned (OpenSpec.upto placeInnerSpec)

/-- 'diptychlaw4.PlaceWith', WHERE WHAT IT READS IS OF BULK AT MOST 1048576: true; the input reads as it did. -/
def placeWithUptoRow : OpenClaim := { program := "ytafcbjepmjcpgaa", sum := "0ad20a2791f500ca69a037ca4ace50b70b4c78694cbdfdbb9ddf270437ad09a4", func := "diptych/diptychlaw4.PlaceWith", spec := "placeWith", unfollowed := true, recurses := true, apart := false, narrowed := true }
def PlaceWithUptoSaid : Prop := placeWithUptoRow.holds Try.pinned (OpenSpec.upto placeWithSpec)

/-- 'diptychlaw4.PlacePaths', WHERE WHAT IT READS IS OF BULK AT MOST 1048576: true; the input reads as it did. -/
def placePathsUptoRow : OpenClaim := { program := "ytafcbjepmjcpgaa", sum := "0ad20a2791f500ca69a037ca4ace50b70b4c78694cbdfdbb9ddf270437ad09a4", func := "diptych/diptychlaw4.PlacePaths", spec := "placePaths", unfollowed := true, recurses := true, apart := false, narrowed := true }
def PlacePathsUptoSaid : Prop := placePathsUptoRow.holds Try.pinned (OpenSpec.upto placePathsSpec)

end Rows
end Go.Proofs.Ytafcbjepmjcpgaa
