/- Texts of the proof of diffLeastCard -/
import Derived.Test.YtclohbgnaopjfaaDoorAgDiffLeastR
import Derived.Test.YtclohbgnaopjfaaDoorTie
import Derived.Test.YtclohbgnaopjfaaDoorCards
import Derived.SevenTiedAt
namespace Go.Proofs.YtclohbgnaopjfaaDoor
set_option linter.unusedSimpArgs false
set_option linter.unusedVariables false
open Go
set_option maxRecDepth 100000
theorem diffLeastCard : Rows.DiffLeastCardSaid :=
  Claim7.holds_tied_plain_at .later [] [.data, .pinned] true (true, "4af2f7be273b7731715cebdeff0cd435b284da0315ae0c1bc7f8d0a004a17138") false
    Yl (fun _ h => by cases h) (by kernel_rfl) (fun _ h => by cases h) diffLeast_row_tie rfl ⟨rfl, rfl⟩ (by kernel_rfl) rfl
    (fun f fn hf hfn => by
      obtain rfl : f = 6 := Option.some.inj ((show Tryd.prog.funcNamed "diptych/diptychlaw18.DiffLeast" = some 6 by kernel_rfl).symm.trans hf) |>.symm
      obtain rfl : fn = Tryd.f6 := (Option.some.inj (Tryd.func6.symm.trans hfn)).symm
      exact ⟨by kernel_rfl, fun j t ht => by
        rw [Tryd.params6] at ht
        have hm : t ∈ [22, 3, 9] := by simpa using Array.mem_of_getElem? ht
        have hall : ([22, 3, 9].all fun u => !Tryd.prog.wantsStandIn u) = true := by kernel_rfl
        exact (show Tryd.prog.wantsStandIn t = false by simpa using List.all_eq_true.1 hall t hm)⟩)
    (by kernel_rfl)
#print axioms diffLeastCard
end Go.Proofs.YtclohbgnaopjfaaDoor
