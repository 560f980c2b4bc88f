/- node.Right, plainly. -/
import Derived.Test.YtpjdafhmneiohaaDoorForm
namespace Go.Proofs.YtpjdafhmneiohaaDoor
set_option linter.unusedSimpArgs false
set_option linter.unusedVariables false
open Go

theorem right_eq (n : api_Node) (h : nwt n ≤ 1099511627776) : node_Right n = some (checkN n == 0) := by
  unfold node_Right
  rw [check_eq n h]
  rfl

end Go.Proofs.YtpjdafhmneiohaaDoor
