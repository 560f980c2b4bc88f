/- Print, plainly; chapter 2's example. -/
import Derived.Test.YtihndopckmdpbaaDoorWrite
import Derived.Test.YtihndopckmdpbaaDoorForm
namespace Go.Proofs.YtihndopckmdpbaaDoor
set_option linter.unusedSimpArgs false
set_option linter.unusedVariables false
open Go

theorem print_eq (n : api_Node) (h : nwt n ≤ 268435456) : codec_Print n = some (if checkN n = 0 then (writeN n, 0) else ([], checkN n)) := by
  have hle := writeN_le n
  unfold codec_Print
  rw [check_eq n (by omega)]
  simp only [Option.bind_some]
  by_cases h0 : checkN n = 0
  · simp only [h0, bne_self_eq_false, Bool.false_eq_true, if_false, if_true]
    rw [write_eq n (by omega)]
    simp only [Option.bind_some]
    unfold strings_Builder_String_x
    rw [chk_eq (by omega)]
    rfl
  · have g : (checkN n != (0 : Int)) = true := by simpa using h0
    simp only [g, if_true, h0, if_false]

abbrev xN (l : List api_Node) : api_Node := ⟨[120], [], [], [], l⟩
theorem write_x (l : List api_Node) : writeN (xN l) = 120 :: 91 :: (writeL l ++ [93]) := by
  rw [writeN_eq]
  rfl
theorem xN_wt (l : List api_Node) : nwt (xN l) = nwts l + 3 := by
  simp only [nwt, strsW, attrsW, List.length_cons, List.length_nil]; omega
abbrev exN : api_Node := ({ Kind := ([100, 111, 99] : Str), Text := ([] : Str), Marks := [], Attrs := [], Kids := [({ Kind := ([112, 97, 114, 97] : Str), Text := ([] : Str), Marks := [], Attrs := [({ Name := ([97, 108, 105, 103, 110] : Str), Value := ([108, 101, 102, 116] : Str) } : api_Attr)], Kids := [({ Kind := ([116, 101, 120, 116] : Str), Text := ([104, 105] : Str), Marks := [], Attrs := [], Kids := [] } : api_Node), ({ Kind := ([116, 101, 120, 116] : Str), Text := ([33] : Str), Marks := [([98] : Str)], Attrs := [], Kids := [] } : api_Node)] } : api_Node)] } : api_Node)
theorem shown2_eq : diptychlaw2_shown = some true := by
  have e1 : checkN exN = 0 := by decide +kernel
  have e2 : writeN exN = ([100, 111, 99, 91, 112, 97, 114, 97, 40, 97, 108, 105, 103, 110, 61, 34, 108, 101, 102, 116, 34, 41, 91, 34, 104, 105, 34, 34, 33, 34, 60, 98, 62, 93, 93] : Str) := by decide +kernel
  have ew : nwt exN ≤ 268435456 := by decide +kernel
  unfold diptychlaw2_shown
  have := print_eq exN ew
  rw [e1, e2] at this
  rw [this]
  rfl

end Go.Proofs.YtihndopckmdpbaaDoor
