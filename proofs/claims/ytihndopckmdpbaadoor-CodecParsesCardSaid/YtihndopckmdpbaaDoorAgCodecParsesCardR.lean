/- The card. -/
import Derived.Test.YtihndopckmdpbaaDoorAgCodecParsesR
import Derived.Test.YtihndopckmdpbaaDoorTie
import Derived.Test.YtihndopckmdpbaaDoorCards
import Derived.SevenTiedAt
namespace Go.Proofs.YtihndopckmdpbaaDoor
set_option linter.unusedSimpArgs false
set_option linter.unusedVariables false
open Go
set_option maxRecDepth 100000

theorem codecParsesCard : Rows.CodecParsesCardSaid :=
  Claim7.holds_tied_plain_at .later [] [.data, .pinned] true (true, "d4d9db4b6ce9142bba816f1f660b49e14e1f6381fdd9d3a1f4359c5fad3afa6f") false
    codecParses_over (fun _ h => by cases h) (by kernel_rfl) (fun _ h => by cases h) codecParses_row_tie rfl ⟨rfl, rfl⟩ (by kernel_rfl) rfl
    (fun f fn hf hfn => by
      obtain rfl : f = 5 := Option.some.inj ((show Tryd.prog.funcNamed "diptych/diptychlaw2.CodecParses" = some 5 by kernel_rfl).symm.trans hf) |>.symm
      obtain rfl : fn = Tryd.f5 := (Option.some.inj (Tryd.func5.symm.trans hfn)).symm
      exact ⟨by kernel_rfl, fun j t ht => by
        rw [Tryd.params5] at ht
        have hm : t ∈ [9] := by simpa using Array.mem_of_getElem? ht
        have hall : ([9].all fun u => !Tryd.prog.wantsStandIn u) = true := by kernel_rfl
        exact (show Tryd.prog.wantsStandIn t = false by simpa using List.all_eq_true.1 hall t hm)⟩)
    (by kernel_rfl)
#print axioms codecParsesCard

end Go.Proofs.YtihndopckmdpbaaDoor
