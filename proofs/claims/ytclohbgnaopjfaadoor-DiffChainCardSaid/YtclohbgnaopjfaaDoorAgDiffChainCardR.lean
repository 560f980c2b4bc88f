/- Texts of the proof of diffChainCard -/
import Derived.Test.YtclohbgnaopjfaaDoorAgDiffChainR
import Derived.Test.YtclohbgnaopjfaaDoorTie
import Derived.Test.YtclohbgnaopjfaaDoorCards
import Derived.SevenTiedAt
namespace Go.Proofs.YtclohbgnaopjfaaDoor
set_option linter.unusedSimpArgs false
set_option linter.unusedVariables false
open Go
set_option maxRecDepth 100000
theorem diffChainCard : Rows.DiffChainCardSaid :=
  Claim7.holds_tied_plain_at .later [] [.data, .pinned] true (true, "4af2f7be273b7731715cebdeff0cd435b284da0315ae0c1bc7f8d0a004a17138") false
    YZ (fun _ h => by cases h) (by kernel_rfl) (fun _ h => by cases h) diffChain_row_tie rfl ⟨rfl, rfl⟩ (by kernel_rfl) rfl
    (fun f fn hf hfn => by
      obtain rfl : f = 3 := Option.some.inj ((show Tryd.prog.funcNamed "diptych/diptychlaw18.DiffChain" = some 3 by kernel_rfl).symm.trans hf) |>.symm
      obtain rfl : fn = Tryd.f3 := (Option.some.inj (Tryd.func3.symm.trans hfn)).symm
      exact ⟨by kernel_rfl, fun j t ht => by
        rw [Tryd.params3] at ht
        have hm : t ∈ [22, 22, 22] := by simpa using Array.mem_of_getElem? ht
        have hall : ([22, 22, 22].all fun u => !Tryd.prog.wantsStandIn u) = true := by kernel_rfl
        exact (show Tryd.prog.wantsStandIn t = false by simpa using List.all_eq_true.1 hall t hm)⟩)
    (by kernel_rfl)
#print axioms diffChainCard
end Go.Proofs.YtclohbgnaopjfaaDoor
