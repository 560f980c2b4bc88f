/- What the walks may know of a world beside what is theirs: its global variables: 0 unicode/utf8.first, 1 unicode/utf8.acceptRanges, 2 internal/bytealg.MaxLen. -/
import Derived.Test.YtlgjbmgmoaphjaaDoorAw1
import Derived.Lib.DecodeN
namespace Go.Proofs.YtlgjbmgmoaphjaaDoor
set_option linter.unusedSimpArgs false
set_option linter.unusedVariables false
open Go

def GW (w : World) : Prop :=
  ((∀ c, c < 256 → w.cell? ⟨0, c, none⟩ = some (.int .u8 (Lib.firstT c))) ∧
   (∀ i, i < 16 → w.cell? ⟨1, 2 * i, none⟩ = some (.int .u8 (Lib.accLo i)) ∧ w.cell? ⟨1, 2 * i + 1, none⟩ = some (.int .u8 (Lib.accHi i)))) ∧
  ∃ m, w.cell? ⟨2, 0, none⟩ = some (.int .i64 m)

end Go.Proofs.YtlgjbmgmoaphjaaDoor
