/- The card. -/
import Derived.Test.YtpjdafhmneiohaaDoorAgLensApartUptoR
import Derived.Test.YtpjdafhmneiohaaDoorTie
import Derived.Test.YtpjdafhmneiohaaDoorCards
import Derived.SevenTiedAt
namespace Go.Proofs.YtpjdafhmneiohaaDoor
set_option linter.unusedSimpArgs false
set_option linter.unusedVariables false
open Go
set_option maxRecDepth 100000

theorem lensApartUptoCard : Rows.LensApartUptoCardSaid :=
  Claim7.holds_tied_plain_at .later [] [.data, .pinned] true (true, "7df914cdf0dcad04ce6108e02f2be782ea612bc4022eba296fcfbd69c469a642") false
    lensApartUpto_over (fun _ h => by cases h) (by kernel_rfl) (fun _ h => by cases h) lensApartUpto_row_tie rfl ⟨rfl, rfl⟩ (by kernel_rfl) rfl
    (fun f fn hf hfn => by
      obtain rfl : f = 10 := Option.some.inj ((show Tryd.prog.funcNamed "diptych/diptychlaw13.LensApart" = some 10 by kernel_rfl).symm.trans hf) |>.symm
      obtain rfl : fn = Tryd.f10 := (Option.some.inj (Tryd.func10.symm.trans hfn)).symm
      exact ⟨by kernel_rfl, fun j t ht => by
        rw [Tryd.params10] at ht
        have hm : t ∈ [53, 53] := by simpa using Array.mem_of_getElem? ht
        have hall : ([53, 53].all fun u => !Tryd.prog.wantsStandIn u) = true := by kernel_rfl
        exact (show Tryd.prog.wantsStandIn t = false by simpa using List.all_eq_true.1 hall t hm)⟩)
    (by kernel_rfl)
#print axioms lensApartUptoCard

end Go.Proofs.YtpjdafhmneiohaaDoor
