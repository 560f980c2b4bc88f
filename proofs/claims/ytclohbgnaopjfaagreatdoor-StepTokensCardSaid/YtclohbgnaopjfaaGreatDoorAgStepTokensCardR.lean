/- Texts of the proof of stepTokensCard -/
import Derived.Test.YtclohbgnaopjfaaGreatDoorAgStepTokensR
import Derived.Test.YtclohbgnaopjfaaGreatDoorTie
import Derived.Test.YtclohbgnaopjfaaGreatDoorCards
import Derived.SevenTiedAt
namespace Go.Proofs.YtclohbgnaopjfaaGreatDoor
set_option linter.unusedSimpArgs false
set_option linter.unusedVariables false
open Go
set_option maxRecDepth 100000
theorem stepTokensCard : Rows.StepTokensCardSaid :=
  Claim7.holds_tied_plain_at .later [] [.data, .pinned] true (true, "359858b3a92a8e312b589adfd198882ed3d9fd7c9615f449b3451ac380e24748") false
    XC (fun _ h => by cases h) (by kernel_rfl) (fun _ h => by cases h) stepTokens_row_tie rfl ⟨rfl, rfl⟩ (by kernel_rfl) rfl
    (fun f fn hf hfn => by
      obtain rfl : f = 3 := Option.some.inj ((show Tryz.prog.funcNamed "diptych/diptychlaw11.StepTokens" = some 3 by kernel_rfl).symm.trans hf) |>.symm
      obtain rfl : fn = Tryz.f3 := (Option.some.inj (Tryz.func3.symm.trans hfn)).symm
      exact ⟨by kernel_rfl, fun j t ht => by
        rw [Tryz.params3] at ht
        have hm : t ∈ [22, 3, 3, 3, 22] := by simpa using Array.mem_of_getElem? ht
        have hall : ([22, 3, 3, 3, 22].all fun u => !Tryz.prog.wantsStandIn u) = true := by kernel_rfl
        exact (show Tryz.prog.wantsStandIn t = false by simpa using List.all_eq_true.1 hall t hm)⟩)
    (by kernel_rfl)
#print axioms stepTokensCard
end Go.Proofs.YtclohbgnaopjfaaGreatDoor
