/- The card. -/
import Derived.Test.YtihndopckmdpbaaDoorAgCodecDeepR
import Derived.Test.YtihndopckmdpbaaDoorTie
import Derived.Test.YtihndopckmdpbaaDoorCards
import Derived.SevenTiedAt
namespace Go.Proofs.YtihndopckmdpbaaDoor
set_option linter.unusedSimpArgs false
set_option linter.unusedVariables false
open Go
set_option maxRecDepth 100000

theorem codecDeepCard : Rows.CodecDeepCardSaid :=
  Claim7.holds_tied_plain_at .later [] [.data, .pinned] true (true, "d4d9db4b6ce9142bba816f1f660b49e14e1f6381fdd9d3a1f4359c5fad3afa6f") false
    codecDeep_over (fun _ h => by cases h) (by kernel_rfl) (fun _ h => by cases h) codecDeep_row_tie rfl ⟨rfl, rfl⟩ (by kernel_rfl) rfl
    (fun f fn hf hfn => by
      obtain rfl : f = 8 := Option.some.inj ((show Tryd.prog.funcNamed "diptych/diptychlaw2.CodecDeep" = some 8 by kernel_rfl).symm.trans hf) |>.symm
      obtain rfl : fn = Tryd.f8 := (Option.some.inj (Tryd.func8.symm.trans hfn)).symm
      exact ⟨by kernel_rfl, fun j t ht => by
        rw [Tryd.params8] at ht
        have hm : t ∈ [3, 4] := by simpa using Array.mem_of_getElem? ht
        have hall : ([3, 4].all fun u => !Tryd.prog.wantsStandIn u) = true := by kernel_rfl
        exact (show Tryd.prog.wantsStandIn t = false by simpa using List.all_eq_true.1 hall t hm)⟩)
    (by kernel_rfl)
#print axioms codecDeepCard

end Go.Proofs.YtihndopckmdpbaaDoor
