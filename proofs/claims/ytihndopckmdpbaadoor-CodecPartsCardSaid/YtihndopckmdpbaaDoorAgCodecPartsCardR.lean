/- The card. -/
import Derived.Test.YtihndopckmdpbaaDoorAgCodecPartsR
import Derived.Test.YtihndopckmdpbaaDoorTie
import Derived.Test.YtihndopckmdpbaaDoorCards
import Derived.SevenTiedAt
namespace Go.Proofs.YtihndopckmdpbaaDoor
set_option linter.unusedSimpArgs false
set_option linter.unusedVariables false
open Go
set_option maxRecDepth 100000

theorem codecPartsCard : Rows.CodecPartsCardSaid :=
  Claim7.holds_tied_plain_at .later [] [.data, .pinned] true (true, "d4d9db4b6ce9142bba816f1f660b49e14e1f6381fdd9d3a1f4359c5fad3afa6f") false
    codecParts_over (fun _ h => by cases h) (by kernel_rfl) (fun _ h => by cases h) codecParts_row_tie rfl ⟨rfl, rfl⟩ (by kernel_rfl) rfl
    (fun f fn hf hfn => by
      obtain rfl : f = 6 := Option.some.inj ((show Tryd.prog.funcNamed "diptych/diptychlaw2.CodecParts" = some 6 by kernel_rfl).symm.trans hf) |>.symm
      obtain rfl : fn = Tryd.f6 := (Option.some.inj (Tryd.func6.symm.trans hfn)).symm
      exact ⟨by kernel_rfl, fun j t ht => by
        rw [Tryd.params6] at ht
        have hm : t ∈ [36] := by simpa using Array.mem_of_getElem? ht
        have hall : ([36].all fun u => !Tryd.prog.wantsStandIn u) = true := by kernel_rfl
        exact (show Tryd.prog.wantsStandIn t = false by simpa using List.all_eq_true.1 hall t hm)⟩)
    (by kernel_rfl)
#print axioms codecPartsCard

end Go.Proofs.YtihndopckmdpbaaDoor
