/- LensRows, plainly. -/
import Derived.Test.YtpjdafhmneiohaaDoorLensShown
import Derived.Test.YtpjdafhmneiohaaDoorLensSame
import Derived.Test.YtpjdafhmneiohaaDoorLensWts
namespace Go.Proofs.YtpjdafhmneiohaaDoor
set_option linter.unusedSimpArgs false
set_option linter.unusedVariables false
open Go

theorem rows_l4 : ∀ (l : List lens_Prim) (i : Int) (out : List diptychref13_Prim), out.length + l.length ≤ 1099511627776 → diptychlaw13_LensRows_l4 l i out = some (out ++ l.map rP)
  | [], i, out, _ => by simp [diptychlaw13_LensRows_l4]
  | p :: l, i, out, h => by
    simp only [List.length_cons] at h
    rw [diptychlaw13_LensRows_l4, asPrim_eq]
    simp only [Option.bind_some]
    rw [app_eq (by simp; omega)]
    simp only [Option.bind_some]
    rw [rows_l4 l _ _ (by simp; omega)]
    simp
theorem rows_l1 : ∀ (l : List lens_Lens) (i : Int) (out : List diptychref13_Prim), lWs l ≤ 1048577 → out.length + lmanys l ≤ 1073741824 → diptychlaw13_LensRows_l1 l i out = some (out ++ (lflats l).map rP)
  | [], i, out, _, _ => by simp [diptychlaw13_LensRows_l1, lflats]
  | x :: l, i, out, hw, h => by
    simp only [lmanys, lWs] at h hw
    have hx := lflat_len x
    rw [diptychlaw13_LensRows_l1, flat_eq x (by omega)]
    simp only [Option.bind_some]
    rw [chk_eq (by omega), rows_l4 _ _ _ (by omega)]
    simp only [Option.bind_some]
    rw [rows_l1 l _ _ (by omega) (by simp; omega)]
    simp [lflats]
theorem rows_l5 (l : lens_Lens) (a f : List lens_Prim) (ha : a.length ≤ 1099511627776) (hw : ∀ p ∈ a, pW p ≤ 1099511627776) (hf : f = if l.Turned = true then rt a else a) : ∀ (suf pre : List lens_Prim), f = pre ++ suf → diptychlaw13_LensRows_l5 l (a.map rP) suf (pre.length : Int) = some (.inr ())
  | [], pre, _ => rfl
  | y :: suf, pre, h => by
    have hfl : f.length = a.length := by rw [hf]; split <;> simp [rt_len]
    have hl := congrArg List.length h
    simp only [List.length_append, List.length_cons] at hl
    have ih := rows_l5 l a f ha hw hf suf (pre ++ [y]) (by simp [h])
    have e2 : ((pre ++ [y]).length : Int) = (pre.length : Int) + 1 := by simp
    rw [e2] at ih
    have hi : pre.length < a.length := by omega
    have r1 : rd (a.map rP) (pre.length : Int) = some (rP a[pre.length]) := rd_nat (by simp [hi])
    rw [diptychlaw13_LensRows_l5, r1]
    simp only [Option.bind_some]
    by_cases ht : l.Turned = true
    · rw [if_pos ht] at hf
      have ei : w64 (w64 (((a.map rP).length : Int) - 1) - (pre.length : Int)) = (suf.length : Int) := by
        rw [List.length_map, w64_eq (x := (a.length : Int) - 1) (by omega), w64_eq (by omega)]; omega
      have ea : a = rt f := by rw [hf, rt_rt]
      have e : a = rt suf ++ turnP y :: rt pre := by rw [ea, h]; simp [rt]
      have r2 : rd (a.map rP) (suf.length : Int) = some (rP (turnP y)) := by
        have hl2 : (suf.length : Int) = (((rt suf).map rP).length : Int) := by rw [List.length_map, rt_len]
        rw [e, List.map_append, List.map_cons, hl2]
        exact rd_mid _ _ _
      have hy : pW y ≤ 1099511627776 := by
        have := hw (turnP y) (by rw [e]; simp)
        rwa [pW_turn] at this
      rw [if_pos ht, ei, r2]
      simp only [Option.bind_some]
      rw [rturn_eq, turn_turn]
      simp only [Option.bind_some]
      rw [samePrim_self _ hy]
      simp only [Option.bind_some, Bool.not_true, Bool.false_eq_true, if_false]
      exact ih
    · rw [if_neg ht] at hf
      have ey : a[pre.length] = y := by
        have : a[pre.length]? = some y := by rw [← hf, h]; simp
        rw [List.getElem?_eq_getElem hi] at this
        exact Option.some.inj this
      have hy : pW y ≤ 1099511627776 := hw y (by rw [← hf, h]; simp)
      rw [if_neg ht, ey]
      simp only [Option.bind_some]
      rw [samePrim_self _ hy]
      simp only [Option.bind_some, Bool.not_true, Bool.false_eq_true, if_false]
      exact ih
theorem LensRows_true (l : lens_Lens) (h : lW l ≤ 1048576) : diptychlaw13_LensRows l = some true := by
  unfold diptychlaw13_LensRows
  rw [shown13_eq]
  simp only [Option.bind_some, Bool.not_true, Bool.false_eq_true, if_false]
  obtain ⟨r, hr⟩ := light13 l (by omega)
  rw [hr]
  simp only [Option.bind_some]
  split
  · rfl
  · rw [lright_eq l (by omega)]
    simp only [Option.bind_some]
    cases hrt : lright l with
    | false => rfl
    | true =>
      have hfm : lform l = true := by
        unfold lright at hrt
        simp only [Bool.and_eq_true] at hrt
        exact hrt.2
      have hm := lmany_le l
      have hmm := lmany_eq l
      have hf := lflat_len l
      have hlw := lW_eq l
      have hfs := lflats_len l.Kids fun x _ => lflat_len x
      have hkl := lWs_len l.Kids
      simp only [Bool.not_true, Bool.false_eq_true, if_false]
      by_cases h0 : l.Prim.Op = 0
      · rw [if_neg (by simp [h0])]
        simp only [Option.bind_some]
        rw [chk_eq (by omega), rows_l1 l.Kids 0 [] (by omega) (by simp; omega)]
        simp only [Option.bind_some, List.nil_append]
        rw [flat_eq l (by omega)]
        simp only [Option.bind_some]
        have e := lflat_eq l
        rw [if_pos h0] at e
        have el : (lflat l).length = (lflats l.Kids).length := by rw [e]; split <;> simp [rt_len]
        rw [if_neg (by simp [el]), chk_eq (by omega)]
        have hw : ∀ p ∈ lflats l.Kids, pW p ≤ 1099511627776 := fun p hp => by
          have := lflats_w l.Kids (fun x _ => lflat_w x) p hp; omega
        have := rows_l5 l (lflats l.Kids) (lflat l) (by omega) hw e (lflat l) [] rfl
        have this' : diptychlaw13_LensRows_l5 l ((lflats l.Kids).map rP) (lflat l) 0 = some (.inr ()) := this
        rw [this']
        rfl
      · obtain ⟨f1, f2, f3⟩ := lform_prim hfm h0
        rw [if_pos (by simpa using h0), asPrim_eq]
        simp only [Option.bind_some]
        rw [app_eq (by simp)]
        simp only [Option.bind_some]
        rw [chk_eq (by omega), f3]
        have e := lflat_eq l
        rw [if_neg h0] at e
        simp only [diptychlaw13_LensRows_l1, Option.bind_some, List.nil_append]
        rw [flat_eq l (by omega), e]
        simp only [Option.bind_some]
        rw [if_neg (by simp), chk_eq (by simp)]
        have hw : ∀ p ∈ [l.Prim], pW p ≤ 1099511627776 := fun p hp => by
          simp only [List.mem_singleton] at hp
          rw [hp]; omega
        have := rows_l5 l [l.Prim] [l.Prim] (by simp) hw (by rw [f2]; rfl) [l.Prim] [] rfl
        have this' : diptychlaw13_LensRows_l5 l [rP l.Prim] [l.Prim] 0 = some (.inr ()) := this
        rw [this']
        rfl

end Go.Proofs.YtpjdafhmneiohaaDoor
