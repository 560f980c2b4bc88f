/- The types of the program, plain. -/
import Derived.Test.YtafcbjepmjcpgaaAg0
namespace Go.Proofs.Ytafcbjepmjcpgaa
set_option linter.unusedSimpArgs false
set_option linter.unusedVariables false
open Go
set_option maxRecDepth 100000

abbrev pvL {α : Type} (sz : Nat) (f : α → PV) (l : List α) : PV := .list sz (l.map f)
structure maps_Range where
  Pos : Int
  Old : Int
  New : Int
instance : Inhabited maps_Range := ⟨⟨0, 0, 0⟩⟩
deriving instance DecidableEq for maps_Range
def maps_Range.pv (x : maps_Range) : PV := .agg [.int .i64 x.Pos, .int .i64 x.Old, .int .i64 x.New]
theorem maps_Range.pv_eq (x : maps_Range) : x.pv = .agg [.int .i64 x.Pos, .int .i64 x.Old, .int .i64 x.New] := rfl
structure diptychref10_Range where
  Pos : Int
  Old : Int
  New : Int
instance : Inhabited diptychref10_Range := ⟨⟨0, 0, 0⟩⟩
deriving instance DecidableEq for diptychref10_Range
def diptychref10_Range.pv (x : diptychref10_Range) : PV := .agg [.int .i64 x.Pos, .int .i64 x.Old, .int .i64 x.New]
theorem diptychref10_Range.pv_eq (x : diptychref10_Range) : x.pv = .agg [.int .i64 x.Pos, .int .i64 x.Old, .int .i64 x.New] := rfl

end Go.Proofs.Ytafcbjepmjcpgaa
