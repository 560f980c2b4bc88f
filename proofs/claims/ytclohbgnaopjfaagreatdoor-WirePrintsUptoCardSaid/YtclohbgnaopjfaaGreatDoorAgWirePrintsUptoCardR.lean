/- The card. -/
import Derived.Test.YtclohbgnaopjfaaGreatDoorAgWirePrintsUptoR
import Derived.Test.YtclohbgnaopjfaaGreatDoorTie
import Derived.Test.YtclohbgnaopjfaaGreatDoorCards
import Derived.SevenTiedAt
namespace Go.Proofs.YtclohbgnaopjfaaGreatDoor
set_option linter.unusedSimpArgs false
set_option linter.unusedVariables false
open Go
set_option maxRecDepth 100000

theorem wirePrintsUptoCard : Rows.WirePrintsUptoCardSaid :=
  Claim7.holds_tied_plain_at .later [] [.data, .data, .data, .data, .pinned] true (true, "359858b3a92a8e312b589adfd198882ed3d9fd7c9615f449b3451ac380e24748") false
    wirePrintsUpto_over (fun _ h => by cases h) (by kernel_rfl) (fun _ h => by cases h) wirePrintsUpto_row_tie rfl ⟨rfl, rfl⟩ (by kernel_rfl) rfl
    (fun f fn hf hfn => by
      obtain rfl : f = 5 := Option.some.inj ((show Tryz.prog.funcNamed "diptych/diptychlaw12.WirePrints" = some 5 by kernel_rfl).symm.trans hf) |>.symm
      obtain rfl : fn = Tryz.f5 := (Option.some.inj (Tryz.func5.symm.trans hfn)).symm
      exact ⟨by kernel_rfl, fun j t ht => by
        rw [Tryz.params5] at ht
        have hm : t ∈ [51] := by simpa using Array.mem_of_getElem? ht
        have hall : ([51].all fun u => !Tryz.prog.wantsStandIn u) = true := by kernel_rfl
        exact (show Tryz.prog.wantsStandIn t = false by simpa using List.all_eq_true.1 hall t hm)⟩)
    (by kernel_rfl)
#print axioms wirePrintsUptoCard

end Go.Proofs.YtclohbgnaopjfaaGreatDoor
