/- TokenLens, plainly. -/
import Derived.Test.YtlgjbmgmoaphjaaDoorTokEnds
import Derived.Test.YtlgjbmgmoaphjaaDoorMade
namespace Go.Proofs.YtlgjbmgmoaphjaaDoor
set_option linter.unusedSimpArgs false
set_option linter.unusedVariables false
open Go

theorem as_l0 : ∀ (l : List token_Token) (i : Int) (out : List diptychref3_Token), (out.length + l.length) * 40 ≤ 140737488355328 → diptychlaw3_as_l0 l i out = some (out ++ l.map rt)
  | [], i, out, _ => by simp [diptychlaw3_as_l0]
  | x :: l, i, out, h => by
    simp only [List.length_cons] at h
    rw [diptychlaw3_as_l0, app_eq (by simp; omega)]
    simp only [Option.bind_some]
    rw [as_l0 l _ _ (by simp; omega)]
    simp [rt]
theorem as_eq (l : List token_Token) (h : l.length ≤ 1073741824) : diptychlaw3_as l = some (l.map rt) := by
  unfold diptychlaw3_as
  rw [chk_eq (by omega), as_l0 l 0 [] (by simp; omega)]
  simp

theorem TokenLens_true (a b : List diptychlaw3_Cell) (hla : a.length ≤ 9223372036854775807) (ha : ∀ y ∈ a, cellIn y) (hlb : b.length ≤ 9223372036854775807) (hb : ∀ y ∈ b, cellIn y) : diptychlaw3_TokenLens a b = some true := by
  obtain ⟨ka, e1, e2⟩ := made_eq a hla ha
  obtain ⟨kb, f1, f2⟩ := made_eq b hlb hb
  have hwa := e2.wt
  have hwb := f2.wt
  have hsa := nsizes_le' ka
  have hsb := nsizes_le' kb
  have hta := toksL_len ka
  have htb := toksL_len kb
  unfold diptychlaw3_TokenLens
  rw [tshown_eq]
  simp only [Option.bind_some, Bool.not_true, Bool.false_eq_true, if_false]
  rw [e1]
  simp only [Option.bind_some]
  rw [of_eq ka (by omega), f1]
  simp only [Option.bind_some]
  rw [of_eq kb (by omega)]
  simp only [Option.bind_some]
  have hx : (toksL ka).length ≤ 456 := by omega
  have hy : (toksL kb).length ≤ 456 := by omega
  generalize toksL ka = x at *
  generalize toksL kb = y at *
  have hc := com_le x y
  have hbk := back_le x y
  have hmin : (if (y.length : Int) < (x.length : Int) then (y.length : Int) else (x.length : Int)) = ((min x.length y.length : Nat) : Int) := by split <;> omega
  rw [psame_eq x y (by omega), pback_eq x y (by omega) (by omega)]
  simp only [Option.bind_some]
  have g1 : decide ((com x y : Int) < 0) = false := decide_eq_false (by omega)
  have g2 : decide ((back x y : Int) < 0) = false := decide_eq_false (by omega)
  have g3 : decide ((com x y : Int) + (back x y : Int) > ((min x.length y.length : Nat) : Int)) = false := by simp; omega
  rw [w64_eq (by omega), hmin]
  simp only [g1, g2, g3, Bool.false_eq_true, if_false]
  have s1 : sl x 0 (com x y : Int) = some (x.take (com x y)) := by
    have := sl_nat (l := x) (a := 0) (b := com x y) (by omega) hc.1
    simpa using this
  have s2 : sl y (com x y : Int) ((y.length : Int) - (back x y : Int)) = some ((y.take (y.length - back x y)).drop (com x y)) := by
    have := sl_nat (l := y) (a := com x y) (b := y.length - back x y) (by omega) (by omega)
    rw [← this]
    congr 1
    omega
  have s3 : sl x ((x.length : Int) - (back x y : Int)) (x.length : Int) = some (x.drop (x.length - back x y)) := by
    have := sl_nat (l := x) (a := x.length - back x y) (b := x.length) (by omega) (Nat.le_refl _)
    rw [List.take_length] at this
    rw [← this]
    congr 1
    omega
  rw [s1]
  simp only [Option.bind_some]
  rw [app_eq (by simp; omega)]
  simp only [Option.bind_some, List.nil_append]
  rw [w64_eq (by omega), s2]
  simp only [Option.bind_some]
  rw [app_eq (by simp; omega)]
  simp only [Option.bind_some]
  rw [w64_eq (by omega), s3]
  simp only [Option.bind_some]
  rw [app_eq (by simp; omega)]
  simp only [Option.bind_some]
  have hz : x.take (com x y) ++ (y.take (y.length - back x y)).drop (com x y) ++ x.drop (x.length - back x y) = y := by
    rw [com_take, back_drop]
    have : y.take (com x y) = (y.take (y.length - back x y)).take (com x y) := by rw [List.take_take, Nat.min_eq_left (by omega)]
    rw [this, List.take_append_drop, List.take_append_drop]
  rw [hz, as_eq y (by omega)]
  simp only [Option.bind_some]
  rw [tsame_eq _ _ (by omega)]
  simp only [decide_true, Option.bind_some, if_true]
  rw [psame_eq y x (by omega), com_comm y x]
  simp only [Option.bind_some, beq_self_eq_true, if_true]
  rw [pback_eq y x (by omega) (by omega), back_comm y x]
  simp

end Go.Proofs.YtlgjbmgmoaphjaaDoor
