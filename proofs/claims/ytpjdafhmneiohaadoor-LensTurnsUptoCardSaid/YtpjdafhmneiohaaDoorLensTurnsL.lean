/- LensTurns, plainly. -/
import Derived.Test.YtpjdafhmneiohaaDoorLensShown
import Derived.Test.YtpjdafhmneiohaaDoorLensSame
import Derived.Test.YtpjdafhmneiohaaDoorLensWts
namespace Go.Proofs.YtpjdafhmneiohaaDoor
set_option linter.unusedSimpArgs false
set_option linter.unusedVariables false
open Go

theorem rt_at (pre suf : List lens_Prim) (y : lens_Prim) : rd (rt (pre ++ y :: suf)) (suf.length : Int) = some (turnP y) := by
  have e : rt (pre ++ y :: suf) = rt suf ++ turnP y :: rt pre := by simp [rt]
  have hl : (suf.length : Int) = ((rt suf).length : Int) := by rw [rt_len]
  rw [e, hl]
  exact rd_mid _ _ _
theorem turns_l0 (f : List lens_Prim) (hf : f.length ≤ 1099511627776) (hw : ∀ p ∈ f, pW p ≤ 1099511627776) : ∀ (suf pre : List lens_Prim), f = pre ++ suf → diptychlaw13_LensTurns_l0 f (rt f) f suf (pre.length : Int) = some (.inr ())
  | [], pre, _ => rfl
  | y :: suf, pre, h => by
    have hl := congrArg List.length h
    simp only [List.length_append, List.length_cons] at hl
    have hy := hw y (by rw [h]; simp)
    have hy2 : pW (turnP y) ≤ 1099511627776 := by rw [pW_turn]; exact hy
    have ei : w64 (w64 ((f.length : Int) - 1) - (pre.length : Int)) = (suf.length : Int) := by
      rw [w64_eq (x := (f.length : Int) - 1) (by omega), w64_eq (by omega)]; omega
    have r1 : rd (rt f) (suf.length : Int) = some (turnP y) := by rw [h]; exact rt_at _ _ _
    have r2 : rd f (pre.length : Int) = some y := by rw [h]; exact rd_mid _ _ _
    have ih := turns_l0 f hf hw suf (pre ++ [y]) (by simp [h])
    have e2 : ((pre ++ [y]).length : Int) = (pre.length : Int) + 1 := by simp
    rw [e2] at ih
    rw [diptychlaw13_LensTurns_l0, ei, r1]
    simp only [Option.bind_some, turn_eq, asPrim_eq]
    rw [samePrim_self _ hy2]
    simp only [Option.bind_some, Bool.not_true, Bool.false_eq_true, if_false]
    rw [r2]
    simp only [Option.bind_some]
    rw [samePrim_self _ hy, turn_turn]
    simp only [Option.bind_some, Bool.not_true, Bool.false_eq_true, if_false]
    rw [samePrim_self _ hy]
    simp only [Option.bind_some, Bool.not_true, Bool.false_eq_true, if_false]
    exact ih
theorem LensTurns_true (l : lens_Lens) (h : lW l ≤ 1048576) : diptychlaw13_LensTurns l = some true := by
  unfold diptychlaw13_LensTurns
  rw [shown13_eq]
  simp only [Option.bind_some, Bool.not_true, Bool.false_eq_true, if_false]
  obtain ⟨r, hr⟩ := light13 l (by omega)
  rw [hr]
  simp only [Option.bind_some]
  split
  · rfl
  · rw [lright_eq l (by omega)]
    simp only [Option.bind_some]
    cases hrt : lright l with
    | false => rfl
    | true =>
      have i1 := linv_w l
      have i2 := linv_w (linv l)
      have hm := lmany_le l
      have hf := lflat_len l
      have h3 : lflat (linv (linv l)) = lflat l := by rw [flat_inv, flat_inv, rt_rt]
      simp only [Bool.not_true, Bool.false_eq_true, if_false]
      rw [flat_eq l (by omega)]
      simp only [Option.bind_some]
      rw [invert_eq l (by omega)]
      simp only [Option.bind_some]
      rw [flat_eq _ (by omega)]
      simp only [Option.bind_some]
      rw [invert_eq (linv l) (by omega)]
      simp only [Option.bind_some]
      rw [flat_eq _ (by omega), h3, flat_inv]
      simp only [Option.bind_some]
      rw [if_neg (by rw [rt_len]; simp), if_neg (by simp), chk_eq (by omega)]
      have := turns_l0 (lflat l) (by omega) (fun p hp => by have := lflat_w l p hp; omega) (lflat l) [] rfl
      have this' : diptychlaw13_LensTurns_l0 (lflat l) (rt (lflat l)) (lflat l) (lflat l) 0 = some (.inr ()) := this
      rw [this']
      rfl

end Go.Proofs.YtpjdafhmneiohaaDoor
