/- LensReads, plainly. -/
import Derived.Test.YtpjdafhmneiohaaDoorLensShown
import Derived.Test.YtpjdafhmneiohaaDoorLensRef2
import Derived.Test.YtpjdafhmneiohaaDoorLensWts
namespace Go.Proofs.YtpjdafhmneiohaaDoor
set_option linter.unusedSimpArgs false
set_option linter.unusedVariables false
open Go

theorem LensReads_true (l : lens_Lens) (h : lW l ≤ 1048576) : diptychlaw13_LensReads l = some true := by
  unfold diptychlaw13_LensReads
  rw [shown13_eq]
  simp only [Option.bind_some, Bool.not_true, Bool.false_eq_true, if_false]
  obtain ⟨r, hr⟩ := light13 l (by omega)
  rw [hr]
  simp only [Option.bind_some]
  split
  · rfl
  · have hm := lmany_le l
    have hf := lflat_len l
    have hlw := lW_eq l
    have hpw : pW (turnP l.Prim) ≤ 1099511627776 := by rw [pW_turn]; omega
    rw [asLens_eq l (by omega)]
    simp only [Option.bind_some]
    rw [print_eq l (by omega), rprint_eq l (by omega)]
    simp only [Option.bind_some]
    cases hrt : lright l with
    | false =>
      simp only [Bool.false_eq_true, if_false, Option.bind_some]
      rw [lright_eq l (by omega), rright_eq l (by omega), hrt, turn_eq, rL_prim, rturn_eq]
      simp only [Option.bind_some, beq_self_eq_true, bne_self_eq_false, Bool.not_true, Bool.false_eq_true, if_false]
      rw [samePrim_self _ hpw]
      rfl
    | true =>
      simp only [if_true, Option.bind_some]
      rw [lright_eq l (by omega), rright_eq l (by omega), hrt, turn_eq, rL_prim, rturn_eq]
      simp only [Option.bind_some, beq_self_eq_true, bne_self_eq_false, Bool.not_true, Bool.false_eq_true, if_false]
      rw [samePrim_self _ hpw]
      simp only [Option.bind_some, Bool.not_true, Bool.false_eq_true, if_false]
      rw [flat_eq l (by omega)]
      simp only [Option.bind_some]
      rw [rflat_eq l (by omega)]
      simp only [Option.bind_some]
      rw [samePrims_eq _ (fun p hp => by have := lflat_w l p hp; omega) (by omega)]
      rfl

end Go.Proofs.YtpjdafhmneiohaaDoor
