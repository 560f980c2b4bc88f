/- What the walks may know of a world beside what is theirs: its global variables. (A seat may have its own text: /work/steering/wip/seat/<Name>/AwG.lean.) -/
import Derived.Test.YtacmddgliagpcaaAw1
namespace Go.Proofs.Ytacmddgliagpcaa
set_option linter.unusedSimpArgs false
set_option linter.unusedVariables false
open Go

def GW (_ : World) : Prop := True

end Go.Proofs.Ytacmddgliagpcaa
