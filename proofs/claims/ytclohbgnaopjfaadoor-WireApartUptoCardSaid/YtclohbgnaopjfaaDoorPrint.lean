/- PrintAll, plainly. -/
import Derived.Test.YtclohbgnaopjfaaDoorPrintN
namespace Go.Proofs.YtclohbgnaopjfaaDoor
set_option linter.unusedSimpArgs false
set_option linter.unusedVariables false
open Go

theorem printAll_eq (l : List api_Node) (h : nwts l ≤ 268435400) : codec_PrintAll l = some (if checkN (xN l) = 0 then (writeL l, 0) else ([], checkN (xN l))) := by
  have hw := xN_wt l
  have hle := writeL_le l fun k _ => writeN_le k
  unfold codec_PrintAll
  rw [print_eq _ (by rw [hw]; omega)]
  simp only [Option.bind_some]
  by_cases h0 : checkN (xN l) = 0
  · simp only [h0, if_true, bne_self_eq_false, Bool.false_eq_true, if_false]
    have hs : sl (writeN (xN l)) (2 : Int) (w64 (((writeN (xN l)).length : Int) - (1 : Int))) = some (writeL l) := by
      rw [write_x]
      have hl : (120 :: 91 :: (writeL l ++ [93]) : Str).length = (writeL l).length + 3 := by simp
      rw [hl, w64_eq (by omega)]
      have e : (((writeL l).length + 3 : Nat) : Int) - 1 = (((writeL l).length + 2 : Nat) : Int) := by omega
      have := sl_nat (l := (120 :: 91 :: (writeL l ++ [93]) : Str)) (a := 2) (b := (writeL l).length + 2) (by omega) (by omega)
      rw [e]
      simpa using this
    rw [hs]
    rfl
  · have g : (checkN (xN l) != (0 : Int)) = true := by simpa using h0
    simp only [h0, if_false, g, if_true]

end Go.Proofs.YtclohbgnaopjfaaDoor
