/- The card. -/
import Derived.Test.YtlgjbmgmoaphjaaDoorAgTokenLensR
import Derived.Test.YtlgjbmgmoaphjaaDoorTie
import Derived.Test.YtlgjbmgmoaphjaaDoorCards
import Derived.SevenTiedAt
namespace Go.Proofs.YtlgjbmgmoaphjaaDoor
set_option linter.unusedSimpArgs false
set_option linter.unusedVariables false
open Go
set_option maxRecDepth 100000

theorem tokenLensCard : Rows.TokenLensCardSaid :=
  Claim7.holds_tied_plain_at .later [] [.data, .pinned] true (true, "566134d6d5b96c3f58f48a5f202f7921bfcad4f8fbdb9acd17308bba324e8910") false
    tokenLens_over (fun _ h => by cases h) (by kernel_rfl) (fun _ h => by cases h) tokenLens_row_tie rfl ⟨rfl, rfl⟩ (by kernel_rfl) rfl
    (fun f fn hf hfn => by
      obtain rfl : f = 5 := Option.some.inj ((show Tryd.prog.funcNamed "diptych/diptychlaw3.TokenLens" = some 5 by kernel_rfl).symm.trans hf) |>.symm
      obtain rfl : fn = Tryd.f5 := (Option.some.inj (Tryd.func5.symm.trans hfn)).symm
      exact ⟨by kernel_rfl, fun j t ht => by
        rw [Tryd.params5] at ht
        have hm : t ∈ [22, 22] := by simpa using Array.mem_of_getElem? ht
        have hall : ([22, 22].all fun u => !Tryd.prog.wantsStandIn u) = true := by kernel_rfl
        exact (show Tryd.prog.wantsStandIn t = false by simpa using List.all_eq_true.1 hall t hm)⟩)
    (by kernel_rfl)
#print axioms tokenLensCard

end Go.Proofs.YtlgjbmgmoaphjaaDoor
