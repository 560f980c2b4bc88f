/- The card. -/
import Derived.Test.YtclohbgnaopjfaaDoorAgWireApartUptoR
import Derived.Test.YtclohbgnaopjfaaDoorTie
import Derived.Test.YtclohbgnaopjfaaDoorCards
import Derived.SevenTiedAt
namespace Go.Proofs.YtclohbgnaopjfaaDoor
set_option linter.unusedSimpArgs false
set_option linter.unusedVariables false
open Go
set_option maxRecDepth 100000

theorem wireApartUptoCard : Rows.WireApartUptoCardSaid :=
  Claim7.holds_tied_plain_at .later [] [.data, .data, .data, .data, .pinned] true (true, "4af2f7be273b7731715cebdeff0cd435b284da0315ae0c1bc7f8d0a004a17138") false
    wireApartUpto_over (fun _ h => by cases h) (by kernel_rfl) (fun _ h => by cases h) wireApartUpto_row_tie rfl ⟨rfl, rfl⟩ (by kernel_rfl) rfl
    (fun f fn hf hfn => by
      obtain rfl : f = 4 := Option.some.inj ((show Tryd.prog.funcNamed "diptych/diptychlaw12.WireApart" = some 4 by kernel_rfl).symm.trans hf) |>.symm
      obtain rfl : fn = Tryd.f4 := (Option.some.inj (Tryd.func4.symm.trans hfn)).symm
      exact ⟨by kernel_rfl, fun j t ht => by
        rw [Tryd.params4] at ht
        have hm : t ∈ [39, 39] := by simpa using Array.mem_of_getElem? ht
        have hall : ([39, 39].all fun u => !Tryd.prog.wantsStandIn u) = true := by kernel_rfl
        exact (show Tryd.prog.wantsStandIn t = false by simpa using List.all_eq_true.1 hall t hm)⟩)
    (by kernel_rfl)
#print axioms wireApartUptoCard

end Go.Proofs.YtclohbgnaopjfaaDoor
