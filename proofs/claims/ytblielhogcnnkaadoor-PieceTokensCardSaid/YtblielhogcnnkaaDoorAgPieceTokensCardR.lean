/- The card. -/
import Derived.Test.YtblielhogcnnkaaDoorAgPieceTokensR
import Derived.Test.YtblielhogcnnkaaDoorTie
import Derived.Test.YtblielhogcnnkaaDoorCards
import Derived.SevenTiedAt
namespace Go.Proofs.YtblielhogcnnkaaDoor
set_option linter.unusedSimpArgs false
set_option linter.unusedVariables false
open Go
set_option maxRecDepth 100000

theorem pieceTokensCard : Rows.PieceTokensCardSaid :=
  Claim7.holds_tied_plain_at .later [] [.data, .pinned] true (true, "ae54759e2eea76f5ceeef2c65bb2838921042dc9baa75c54d5c2b54394cb1f3e") false
    pieceTokens_over (fun _ h => by cases h) (by kernel_rfl) (fun _ h => by cases h) pieceTokens_row_tie rfl ⟨rfl, rfl⟩ (by kernel_rfl) rfl
    (fun f fn hf hfn => by
      obtain rfl : f = 12 := Option.some.inj ((show Tryd.prog.funcNamed "diptych/diptychlaw5.PieceTokens" = some 12 by kernel_rfl).symm.trans hf) |>.symm
      obtain rfl : fn = Tryd.f12 := (Option.some.inj (Tryd.func12.symm.trans hfn)).symm
      exact ⟨by kernel_rfl, fun j t ht => by
        rw [Tryd.params12] at ht
        have hm : t ∈ [58, 58, 3, 3] := by simpa using Array.mem_of_getElem? ht
        have hall : ([58, 58, 3, 3].all fun u => !Tryd.prog.wantsStandIn u) = true := by kernel_rfl
        exact (show Tryd.prog.wantsStandIn t = false by simpa using List.all_eq_true.1 hall t hm)⟩)
    (by kernel_rfl)
#print axioms pieceTokensCard

end Go.Proofs.YtblielhogcnnkaaDoor
