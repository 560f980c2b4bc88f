/- The reference's names. -/
import Derived.Test.YtpjdafhmneiohaaDoorName
namespace Go.Proofs.YtpjdafhmneiohaaDoor
set_option linter.unusedSimpArgs false
set_option linter.unusedVariables false
open Go

theorem rname_l0 (s : Str) (hs : s.length ≤ 4611686018427387904) : ∀ (suf pre : Str) (f : Nat), s = pre ++ suf → suf.length < f → diptychref1_Name_l0 s f (pre.length : Int) = some (sumB (suf.all letter))
  | [], pre, 0, _, h => by simp at h
  | [], pre, f + 1, hk, _ => by
    have g : decide ((pre.length : Int) < (s.length : Int)) = false := by rw [hk]; simp
    rw [diptychref1_Name_l0, g]
    rfl
  | c :: suf, pre, 0, _, h => by simp at h
  | c :: suf, pre, f + 1, hk, hf => by
    have hl : s.length = pre.length + (suf.length + 1) := by rw [hk]; simp
    have g : decide ((pre.length : Int) < (s.length : Int)) = true := by simp; omega
    have e : s.getD (pre.length : Int).toNat 0 = c := by rw [hk]; simp [List.getD]
    have e2 : (pre.length : Int) + 1 = ((pre ++ [c]).length : Int) := by simp
    have ih := rname_l0 s hs suf (pre ++ [c]) f (by rw [hk]; simp) (by simp at hf; omega)
    rw [diptychref1_Name_l0, g]
    simp only [if_true]
    rw [chk_eq (by omega), e]
    by_cases h1 : c.toNat < 97
    · have g1 : decide ((c.toNat : Int) < 97) = true := by simp; omega
      have g2 : letter c = false := by simp [letter]; omega
      simp [g1, g2, sumB]
    · have g1 : decide ((c.toNat : Int) < 97) = false := by simp; omega
      simp only [g1, Bool.false_eq_true, if_false]
      rw [chk_eq (by omega)]
      by_cases h2 : c.toNat > 122
      · have g3 : decide ((c.toNat : Int) > 122) = true := by simp; omega
        have g2 : letter c = false := by simp [letter]; omega
        simp [g3, g2, sumB]
      · have g3 : decide ((c.toNat : Int) > 122) = false := by simp; omega
        have g2 : letter c = true := by simp [letter]; omega
        simp only [g3, Bool.false_eq_true, if_false]
        rw [w64_eq (by omega), e2, ih]
        simp [g2]
theorem rname_eq (s : Str) (hs : s.length ≤ 4611686018427387904) : diptychref1_Name s = some (isName s) := by
  unfold diptychref1_Name
  have h0 : (lim fun k => diptychref1_Name_l0 s k 0) = some (sumB (s.all letter)) := lim_of (s.length + 1) fun k hk => rname_l0 s hs s [] k rfl (by omega)
  rw [h0]
  simp only [Option.bind_some]
  unfold isName
  cases ha : s.all letter with
  | false => simp [sumB]
  | true =>
    simp only [sumB, Bool.true_and]
    by_cases h1 : s = []
    · subst h1; rfl
    · have hp := List.length_pos_iff.2 h1
      have g1 : decide ((s.length : Int) ≥ 1) = true := by simp; omega
      simp only [g1, if_true]
      by_cases h2 : s.length ≤ 8
      · have g2 : decide ((s.length : Int) ≤ 8) = true := by simp; omega
        simp only [g2, if_true, Option.some.injEq]
        rw [Bool.eq_iff_iff]
        simp [h1, h2]
      · have g2 : decide ((s.length : Int) ≤ 8) = false := by simp; omega
        simp [g2, h2]
end Go.Proofs.YtpjdafhmneiohaaDoor
