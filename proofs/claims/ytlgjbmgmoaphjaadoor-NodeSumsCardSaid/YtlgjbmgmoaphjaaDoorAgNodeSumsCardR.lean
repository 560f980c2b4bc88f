/- The card. -/
import Derived.Test.YtlgjbmgmoaphjaaDoorAgNodeSumsR
import Derived.Test.YtlgjbmgmoaphjaaDoorTie
import Derived.Test.YtlgjbmgmoaphjaaDoorCards
import Derived.SevenTiedAt
namespace Go.Proofs.YtlgjbmgmoaphjaaDoor
set_option linter.unusedSimpArgs false
set_option linter.unusedVariables false
open Go
set_option maxRecDepth 100000

theorem nodeSumsCard : Rows.NodeSumsCardSaid :=
  Claim7.holds_tied_plain_at .later [] [.data, .pinned] true (true, "566134d6d5b96c3f58f48a5f202f7921bfcad4f8fbdb9acd17308bba324e8910") false
    nodeSums_over (fun _ h => by cases h) (by kernel_rfl) (fun _ h => by cases h) nodeSums_row_tie rfl ⟨rfl, rfl⟩ (by kernel_rfl) rfl
    (fun f fn hf hfn => by
      obtain rfl : f = 11 := Option.some.inj ((show Tryd.prog.funcNamed "diptych/diptychlaw1.NodeSums" = some 11 by kernel_rfl).symm.trans hf) |>.symm
      obtain rfl : fn = Tryd.f11 := (Option.some.inj (Tryd.func11.symm.trans hfn)).symm
      exact ⟨by kernel_rfl, fun j t ht => by
        rw [Tryd.params11] at ht
        have hm : t ∈ [56] := by simpa using Array.mem_of_getElem? ht
        have hall : ([56].all fun u => !Tryd.prog.wantsStandIn u) = true := by kernel_rfl
        exact (show Tryd.prog.wantsStandIn t = false by simpa using List.all_eq_true.1 hall t hm)⟩)
    (by kernel_rfl)
#print axioms nodeSumsCard

end Go.Proofs.YtlgjbmgmoaphjaaDoor
