/- CodecPrints, plainly. -/
import Derived.Test.YtihndopckmdpbaaDoorPrint
import Derived.Test.YtihndopckmdpbaaDoorRefForm
import Derived.Test.YtihndopckmdpbaaDoorLight
import Derived.Test.YtihndopckmdpbaaDoorWts
import Derived.Test.YtihndopckmdpbaaDoorRWrite
namespace Go.Proofs.YtihndopckmdpbaaDoor
set_option linter.unusedSimpArgs false
set_option linter.unusedVariables false
open Go

theorem CodecPrints_true (n : api_Node) (s : Str) (hw : nwt n ≤ 1048576) : diptychlaw2_CodecPrints n s = some true := by
  have hk := nwts_kids n
  have xw := xN_wt n.Kids
  unfold diptychlaw2_CodecPrints
  rw [shown2_eq]
  simp only [Option.bind_some, Bool.not_true, Bool.false_eq_true, if_false]
  rw [light_eq n (by omega)]
  simp only [Option.bind_some]
  split
  · rfl
  · by_cases hs : s.length ≤ 500
    · have g : decide ((s.length : Int) > 500) = false := by simp; omega
      simp only [g, Bool.false_eq_true, if_false]
      rw [print_eq n (by omega), rprint_eq n (by omega), printAll_eq n.Kids (by omega), rprintAll_eq n.Kids (by omega), quote_eq s (by omega), rquote_eq s (by omega), head_eq n (by omega), rhead_eq n (by omega)]
      simp
    · have g : decide ((s.length : Int) > 500) = true := by simp; omega
      simp [g]

end Go.Proofs.YtihndopckmdpbaaDoor
