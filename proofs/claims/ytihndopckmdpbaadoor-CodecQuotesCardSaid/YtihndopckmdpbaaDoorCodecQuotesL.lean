/- CodecQuotes, plainly. -/
import Derived.Test.YtihndopckmdpbaaDoorPrint
import Derived.Test.YtihndopckmdpbaaDoorReadAll
import Derived.Test.YtihndopckmdpbaaDoorSame
import Derived.Test.YtihndopckmdpbaaDoorUtf
namespace Go.Proofs.YtihndopckmdpbaaDoor
set_option linter.unusedSimpArgs false
set_option linter.unusedVariables false
open Go

abbrev qA (s : Str) : api_Node := ({ Kind := ([112] : Str), Text := ([] : Str), Marks := [], Attrs := [({ Name := ([97] : Str), Value := s } : api_Attr)], Kids := [] } : api_Node)
abbrev qB (s : Str) : api_Node := ({ Kind := ([116, 101, 120, 116] : Str), Text := s, Marks := [], Attrs := [], Kids := [] } : api_Node)
theorem form_qA (s : Str) : formB (qA s) = isValue s := by
  have h1 : isName ([112] : Str) = true := by decide +kernel
  have h2 : riseB [([97] : Str)] = true := by decide +kernel
  have h3 : isT (qA s) = false := rfl
  rw [formB_eq, h3]
  simp [h1, h2, formBs_nil]
theorem form_qB (s : Str) : formB (qB s) = (decide (s ≠ []) && Lib.validD s) := by
  have h2 : riseB [] = true := rfl
  have h3 : isT (qB s) = true := rfl
  rw [formB_eq, h3]
  simp [h2]
theorem check_qA (s : Str) : checkN (qA s) = if isValue s = true then 0 else 2 := by
  have e1 : depN (qA s) = 1 := rfl
  have e2 : nsize (qA s) = 2 := rfl
  unfold checkN
  rw [form_qA, e1, e2]
  cases isValue s <;> simp
theorem check_qB (s : Str) (h : s.length ≤ 300) : checkN (qB s) = if (decide (s ≠ []) && Lib.validD s) = true then 0 else 2 := by
  have e1 : depN (qB s) = 0 := rfl
  have e2 : nsize (qB s) ≤ 300 := by
    have h3 : isT (qB s) = true := rfl
    have := rlen_le s
    rw [nsize_eq, if_pos h3]
    exact Nat.le_trans this h
  unfold checkN
  rw [form_qB, e1]
  generalize (decide (s ≠ []) && Lib.validD s) = b
  cases b
  · simp
  · rw [if_neg (by simp), if_neg (by omega), if_neg (by omega)]; rfl
theorem CodecQuotes_true (s : Str) : diptychlaw2_CodecQuotes s = some true := by
  unfold diptychlaw2_CodecQuotes
  rw [shown2_eq]
  simp only [Option.bind_some, Bool.not_true, Bool.false_eq_true, if_false]
  by_cases hl : s.length ≤ 300
  · have g : decide ((s.length : Int) > 300) = false := by simp; omega
    simp only [g, Bool.false_eq_true, if_false]
    have wA : nwt (qA s) ≤ 1000 := by simp only [nwt, strsW, attrsW, nwts, List.length_cons, List.length_nil]; omega
    have wB : nwt (qB s) ≤ 1000 := by simp only [nwt, strsW, attrsW, nwts, List.length_cons, List.length_nil]; omega
    have pA := print_eq (qA s) (by omega)
    have pB := print_eq (qB s) (by omega)
    rw [check_qA] at pA
    rw [check_qB s hl] at pB
    have sA := nsame_eq (qA s) (by omega)
    have sB := nsame_eq (qB s) (by omega)
    rw [pA, pB, value_eq s (by omega)]
    simp only [Option.bind_some]
    have rA : isValue s = true → codec_Parse (writeN (qA s)) = some (qA s, 0) := fun h => by
      have := parse_write (qA s) (by rw [form_qA, h]) (by omega)
      rw [check_qA, if_pos h] at this
      simpa using this
    have rB : (decide (s ≠ []) && Lib.validD s) = true → codec_Parse (writeN (qB s)) = some (qB s, 0) := fun h => by
      have := parse_write (qB s) (by rw [form_qB, h]) (by omega)
      rw [check_qB s hl, if_pos h] at this
      simpa using this
    rw [valid_eq]
    cases hv : isValue s with
    | true =>
      have rA := rA hv
      by_cases hs : s = []
      · simp [hs] at rA sA ⊢
        simp [rA, sA]
      · cases hd : Lib.validD s with
        | true =>
          have rB := rB (by simp [hs, hd])
          simp [hs, rA, rB, sA, sB]
        | false => simp [hs, rA, sA]
    | false =>
      by_cases hs : s = []
      · simp [hs]
      · cases hd : Lib.validD s with
        | true =>
          have rB := rB (by simp [hs, hd])
          simp [hs, rB, sB]
        | false => simp [hs]
  · have g : decide ((s.length : Int) > 300) = true := by simp; omega
    simp [g]

end Go.Proofs.YtihndopckmdpbaaDoor
