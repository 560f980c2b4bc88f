/- Texts of the proof of stepAttrsCard -/
import Derived.Test.YtclohbgnaopjfaaDoorLwA
namespace Go.Proofs.YtclohbgnaopjfaaDoor
set_option linter.unusedSimpArgs false
set_option linter.unusedVariables false
open Go Classical
theorem afq (l : List zu) (a b : Int) (v : Str) (hl : l.length ≤ 9223372036854775807) (hlc : ∀ y ∈ l, abj y) (ha : -9223372036854775808 ≤ a ∧ a ≤ 9223372036854775807) (hb' : -9223372036854775808 ≤ b ∧ b ≤ 9223372036854775807) (hv : v.length ≤ 9223372036854775807) : jb l a b v = some true := by
  obtain ⟨ks, e1, hb⟩ := arI l hl hlc
  obtain ⟨h, hw⟩ := arR hb
  obtain ⟨p, p1, p2⟩ := akD hb a ha
  obtain ⟨q, q1, q2⟩ := akD hb b hb'
  have hkw := hb.wt
  have hks := xW ks
  have n1 : isName [110, 111, 116, 101] = true := by decide +kernel
  have n2 : isName [97, 108, 105, 103, 110] = true := by decide +kernel
  have v2 : isValue [114, 105, 103, 104, 116] = true := by decide +kernel
  unfold jb
  rw [amk]
  simp only [Option.bind_some, Bool.not_true, Bool.false_eq_true, if_false]
  by_cases hv40 : (v.length : Int) > 40
  · rw [if_pos (by simpa using hv40)]
  rw [if_neg (by simpa using hv40)]
  by_cases hvn : ¬ Lib.validD v = true
  · rw [valid_eq, if_pos (by simpa using hvn)]
  have hvv : Lib.validD v = true := Classical.not_not.1 hvn
  rw [valid_eq, if_neg (by simp [hvv]), e1]
  have v1 : isValue v = true := by unfold isValue; rw [hvv]; simp; omega
  simp only [Option.bind_some]
  rw [acP ks (by omega)]
  simp only [Option.bind_some]
  rw [p1]
  simp only [Option.bind_some]
  rw [q1]
  simp only [Option.bind_some]
  rcases (afw h (by omega) p (by omega) n1 v1).symm with ⟨e, he, hap⟩ | ⟨k, aa, i, at', hA⟩
  · rw [hap, aqZ he hap]
    simp only [Option.bind_some]
    rw [if_pos (by simpa using he)]
    simp
  obtain ⟨N, a1, a2, a3, a4, a5, a6⟩ := Vr h (by omega) hA v1
  rw [a1, aod rfl a1 a2]
  simp only [Option.bind_some, bne_self_eq_false, Bool.false_eq_true, if_false]
  obtain ⟨vals, rise⟩ := aoq h (by omega) hA.1
  have vw : isValue at'.Value = true := (List.all_eq_true.1 vals) at' (List.mem_of_getElem? hA.2.1)
  obtain ⟨B, b1, _, b3, b4, b5, b6⟩ := Vr a3 (by omega) (hA.set v) vw
  obtain ⟨C, c1, _, c3, c4, c5, c6⟩ := Vr a3 (by omega) (hA.set v) v1
  rw [arH b1, c1]
  simp only [Option.bind_some, bne_self_eq_false, Bool.false_eq_true, if_false]
  have hl1 := (List.getElem?_eq_some_iff.1 hA.1).1
  have eB : (((tkL ks).set p (.opn k (jO aa i v))).set p (.opn k (jO (jO aa i v) i at'.Value))) = tkL ks := by
    rw [aof hA.2.1, List.set_set]
    obtain ⟨_, hg⟩ := List.getElem?_eq_some_iff.1 hA.1
    rw [← hg, List.set_getElem_self]
  rw [eB] at b3
  rw [b3.same h (by rw [b4, a4]) (by rw [b5, a5]) (by rw [eB] at b6; omega)]
  simp only [Option.bind_some, Bool.not_true, Bool.false_eq_true, if_false]
  have eC : (((tkL ks).set p (.opn k (jO aa i v))).set p (.opn k (jO (jO aa i v) i v))) = (tkL ks).set p (.opn k (jO aa i v)) := by
    rw [amt, List.set_set]
  rw [eC] at c3
  rw [c3.same a3 (by rw [c4]) (by rw [c5]) (by rw [eC] at c6; omega)]
  simp only [Option.bind_some, Bool.not_true, Bool.false_eq_true, if_false]
  rw [a3.words (by omega), h.words (by omega), ap5 k k aa _ _ p hA.1]
  simp only [Option.bind_some, beq_self_eq_true, Bool.not_true, Bool.false_eq_true, if_false, List.length_singleton, Int.cast_ofNat_Int, bne_self_eq_false]
  have r0 : rd [(⟨97, (p : Int), 0, [], [110, 111, 116, 101], at'.Value⟩ : zz)] (0 : Int) = some ⟨97, (p : Int), 0, [], [110, 111, 116, 101], at'.Value⟩ := rfl
  rw [r0]
  simp only [Option.bind_some, bne_self_eq_false, Bool.false_eq_true, if_false]
  rcases (afw h (by omega) q (by omega) n2 v2).symm with ⟨e, he, hap⟩ | ⟨k2, aa2, i2, at2, hA2⟩
  · rw [hap]
    simp only [Option.bind_some]
    rw [if_pos (by simpa using he)]
  obtain ⟨D, d1, _, d3, d4, d5, d6⟩ := Vr h (by omega) hA2 v2
  rw [d1]
  simp only [Option.bind_some, bne_self_eq_false, Bool.false_eq_true, if_false]
  by_cases hpq : p = q
  · subst hpq
    have hkk := hA.1.symm.trans hA2.1
    simp only [Option.some.injEq, Tk.opn.injEq] at hkk
    obtain ⟨rfl, rfl⟩ := hkk
    have hii : i ≠ i2 := fun e => by
      subst e
      have h1 := hA.2.1.symm.trans hA2.2.1
      simp only [Option.some.injEq] at h1
      subst h1
      have := hA.2.2.symm.trans hA2.2.2
      revert this
      decide
    have hA3 : af9 ((tkL ks).set p (.opn k (jO aa i v))) p [97, 108, 105, 103, 110] k (jO aa i v) i2 at2 := ⟨ate hA v, by rw [Zm, if_neg (fun h => hii h.symm)]; exact hA2.2.1, hA2.2.2⟩
    have hA4 : af9 ((tkL ks).set p (.opn k (jO aa i2 [114, 105, 103, 104, 116]))) p [110, 111, 116, 101] k (jO aa i2 [114, 105, 103, 104, 116]) i at' := ⟨ate hA2 _, by rw [Zm, if_neg hii]; exact hA.2.1, hA.2.2⟩
    obtain ⟨E, x1, _, x3, x4, x5, x6⟩ := Vr a3 (by omega) hA3 v2
    obtain ⟨F, y1, _, y3, y4, y5, y6⟩ := Vr d3 (by omega) hA4 v1
    rw [ae5 a1 x1, ae5 d1 y1]
    simp only [Option.bind_some, beq_self_eq_true, if_true]
    rw [List.set_set] at x3 y3 x6
    rw [an7 aa hii] at x3 x6
    rw [x3.same y3 (by rw [x4, y4, a4, d4]) (by rw [x5, y5, a5, d5]) (by omega)]
    rfl
  · have hA3 : af9 ((tkL ks).set p (.opn k (jO aa i v))) q [97, 108, 105, 103, 110] k2 aa2 i2 at2 := ⟨by rw [List.getElem?_set_ne hpq]; exact hA2.1, hA2.2.1, hA2.2.2⟩
    have hA4 : af9 ((tkL ks).set q (.opn k2 (jO aa2 i2 [114, 105, 103, 104, 116]))) p [110, 111, 116, 101] k aa i at' := ⟨by rw [List.getElem?_set_ne (fun h => hpq h.symm)]; exact hA.1, hA.2.1, hA.2.2⟩
    obtain ⟨E, x1, _, x3, x4, x5, x6⟩ := Vr a3 (by omega) hA3 v2
    obtain ⟨F, y1, _, y3, y4, y5, y6⟩ := Vr d3 (by omega) hA4 v1
    rw [ae5 a1 x1, ae5 d1 y1]
    simp only [Option.bind_some, beq_self_eq_true, if_true]
    rw [List.set_comm _ _ hpq] at x3 x6
    rw [x3.same y3 (by rw [x4, y4, a4, d4]) (by rw [x5, y5, a5, d5]) (by omega)]
    rfl
end Go.Proofs.YtclohbgnaopjfaaDoor
