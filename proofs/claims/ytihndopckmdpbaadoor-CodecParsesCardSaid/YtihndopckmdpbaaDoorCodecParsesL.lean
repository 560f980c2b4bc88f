/- CodecParses, plainly. -/
import Derived.Test.YtihndopckmdpbaaDoorRReadAll
import Derived.Test.YtihndopckmdpbaaDoorRSame
namespace Go.Proofs.YtihndopckmdpbaaDoor
set_option linter.unusedSimpArgs false
set_option linter.unusedVariables false
open Go

theorem both_parse (s : Str) (hs : s.length ≤ 1048576) : ∃ n e, codec_Parse s = some (n, e) ∧ diptychref2_Parse s = some (n, e) ∧ nwt n ≤ 268435456 := by
  by_cases hex : ∃ m, formB m = true ∧ nwt m ≤ 268435456 ∧ writeN m = s
  · obtain ⟨m, h1, h2, rfl⟩ := hex
    rw [parse_write m h1 h2, rparse_write m h1 h2]
    by_cases h0 : checkN m = 0
    · exact ⟨m, 0, by simp [h0], by simp [h0], h2⟩
    · exact ⟨zeroN, checkN m, by simp [h0], by simp [h0], by simp [nwt, strsW, attrsW, nwts]⟩
  · exact ⟨zeroN, 2, parse_none s hs hex, rparse_none s hs hex, by simp [nwt, strsW, attrsW, nwts]⟩
theorem CodecParses_true (s : Str) : diptychlaw2_CodecParses s = some true := by
  unfold diptychlaw2_CodecParses
  rw [shown2_eq]
  simp only [Option.bind_some, Bool.not_true, Bool.false_eq_true, if_false]
  by_cases hs : s.length ≤ 1500
  · have g : decide ((s.length : Int) > 1500) = false := by simp; omega
    simp only [g, Bool.false_eq_true, if_false]
    obtain ⟨n, e, p1, p2, p3⟩ := both_parse s (by omega)
    obtain ⟨m, f, q1, q2, q3⟩ := both_parse (([120, 91] : Str) ++ s ++ ([93] : Str)) (by simp only [List.length_append, List.length_cons, List.length_nil]; omega)
    have hk := nwts_kids m
    have a1 : codec_ParseAll s = some (m.Kids, f) := by
      unfold codec_ParseAll
      rw [chk_eq (by simp only [List.length_cons, List.length_nil]; omega), chk_eq (by simp only [List.length_append, List.length_cons, List.length_nil]; omega), q1]
      rfl
    have a2 : diptychref2_ParseAll s = some (m.Kids, f) := by
      unfold diptychref2_ParseAll
      rw [chk_eq (by simp only [List.length_cons, List.length_nil]; omega), chk_eq (by simp only [List.length_append, List.length_cons, List.length_nil]; omega), q2]
      rfl
    have hS : diptychref1_Same n n = some true := by
      unfold diptychref1_Same
      exact lim_of (2 * ndep n) fun k hk => rsame_k n (by omega) k hk
    rw [p1, p2, a1, a2]
    simp only [Option.bind_some]
    rw [hS, rsameAll_eq m.Kids (by omega)]
    simp
  · have g : decide ((s.length : Int) > 1500) = true := by simp; omega
    simp [g]

end Go.Proofs.YtihndopckmdpbaaDoor
