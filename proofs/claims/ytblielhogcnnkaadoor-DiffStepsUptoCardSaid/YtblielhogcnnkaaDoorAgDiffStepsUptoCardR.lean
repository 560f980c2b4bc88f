/- The card. -/
import Derived.Test.YtblielhogcnnkaaDoorAgDiffStepsUptoR
import Derived.Test.YtblielhogcnnkaaDoorTie
import Derived.Test.YtblielhogcnnkaaDoorCards
import Derived.SevenTiedAt
namespace Go.Proofs.YtblielhogcnnkaaDoor
set_option linter.unusedSimpArgs false
set_option linter.unusedVariables false
open Go
set_option maxRecDepth 100000

theorem diffStepsUptoCard : Rows.DiffStepsUptoCardSaid :=
  Claim7.holds_tied_plain_at .later [] [.data, .pinned] true (true, "ae54759e2eea76f5ceeef2c65bb2838921042dc9baa75c54d5c2b54394cb1f3e") false
    diffStepsUpto_over (fun _ h => by cases h) (by kernel_rfl) (fun _ h => by cases h) diffStepsUpto_row_tie rfl ⟨rfl, rfl⟩ (by kernel_rfl) rfl
    (fun f fn hf hfn => by
      obtain rfl : f = 4 := Option.some.inj ((show Tryd.prog.funcNamed "diptych/diptychlaw18.DiffSteps" = some 4 by kernel_rfl).symm.trans hf) |>.symm
      obtain rfl : fn = Tryd.f4 := (Option.some.inj (Tryd.func4.symm.trans hfn)).symm
      exact ⟨by kernel_rfl, fun j t ht => by
        rw [Tryd.params4] at ht
        have hm : t ∈ [28, 28] := by simpa using Array.mem_of_getElem? ht
        have hall : ([28, 28].all fun u => !Tryd.prog.wantsStandIn u) = true := by kernel_rfl
        exact (show Tryd.prog.wantsStandIn t = false by simpa using List.all_eq_true.1 hall t hm)⟩)
    (by kernel_rfl)
#print axioms diffStepsUptoCard

end Go.Proofs.YtblielhogcnnkaaDoor
