/- Print, plainly. -/
import Derived.Test.YtclohbgnaopjfaaDoorWrite
import Derived.Test.YtclohbgnaopjfaaDoorForm
namespace Go.Proofs.YtclohbgnaopjfaaDoor
set_option linter.unusedSimpArgs false
set_option linter.unusedVariables false
open Go

theorem print_eq (n : api_Node) (h : nwt n ≤ 268435456) : codec_Print n = some (if checkN n = 0 then (writeN n, 0) else ([], checkN n)) := by
  have hle := writeN_le n
  unfold codec_Print
  rw [check_eq n (by omega)]
  simp only [Option.bind_some]
  by_cases h0 : checkN n = 0
  · simp only [h0, bne_self_eq_false, Bool.false_eq_true, if_false, if_true]
    rw [write_eq n (by omega)]
    simp only [Option.bind_some]
    unfold strings_Builder_String_x
    rw [chk_eq (by omega)]
    rfl
  · have g : (checkN n != (0 : Int)) = true := by simpa using h0
    simp only [g, if_true, h0, if_false]

abbrev xN (l : List api_Node) : api_Node := ⟨[120], [], [], [], l⟩
theorem write_x (l : List api_Node) : writeN (xN l) = 120 :: 91 :: (writeL l ++ [93]) := by
  rw [writeN_eq]
  rfl
theorem xN_wt (l : List api_Node) : nwt (xN l) = nwts l + 3 := by
  simp only [nwt, strsW, attrsW, List.length_cons, List.length_nil]; omega
end Go.Proofs.YtclohbgnaopjfaaDoor
