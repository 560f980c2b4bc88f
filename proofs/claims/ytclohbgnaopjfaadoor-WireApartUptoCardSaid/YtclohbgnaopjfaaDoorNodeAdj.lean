/- Nodes beside one another. -/
import Derived.Test.YtclohbgnaopjfaaDoorNodeBase
namespace Go.Proofs.YtclohbgnaopjfaaDoor
set_option linter.unusedSimpArgs false
set_option linter.unusedVariables false
open Go

/-- Two texts with the same marks. -/
def alikeB (a b : api_Node) : Bool := isT a && isT b && decide (a.Marks = b.Marks)
def AdjOk : List api_Node → Prop
  | a :: b :: l => alikeB a b = false ∧ AdjOk (b :: l)
  | _ => True

end Go.Proofs.YtclohbgnaopjfaaDoor
