/- Chapter 13's example; whether a lens can be gone through. -/
import Derived.Test.YtpjdafhmneiohaaDoorLensText
namespace Go.Proofs.YtpjdafhmneiohaaDoor
set_option linter.unusedSimpArgs false
set_option linter.unusedVariables false
open Go

abbrev exT : Str := [114, 101, 110, 97, 109, 101, 32, 112, 97, 114, 97, 32, 112, 59, 32, 105, 110, 118, 101, 114, 116, 40, 119, 114, 97, 112, 32, 105, 116, 101, 109, 32, 98, 111, 120, 41]
abbrev exT1 : Str := [114, 101, 110, 97, 109, 101, 32, 112, 97, 114, 97, 32, 112]
abbrev exT2 : Str := [119, 114, 97, 112, 32, 105, 116, 101, 109, 32, 98, 111, 120]
abbrev exP1 : lens_Prim := ⟨114, [112, 97, 114, 97], [], [112], [], []⟩
abbrev exP2 : lens_Prim := ⟨119, [105, 116, 101, 109], [], [98, 111, 120], [], []⟩
theorem split1 : splitL exT1 [32] = [[114, 101, 110, 97, 109, 101], [112, 97, 114, 97], [112]] := by decide +kernel
theorem split2 : splitL exT2 [32] = [[119, 114, 97, 112], [105, 116, 101, 109], [98, 111, 120]] := by decide +kernel
theorem prim1 : lens_prim exT1 = some (exP1, true) := by
  have r : lens_Prim_right exP1 = some true := by rw [right_p _ (by decide +kernel)]; exact congrArg some (by decide +kernel)
  unfold lens_prim strings_Split
  rw [chk_eq (by decide), split1]
  simp only [Option.bind_some]
  have r0 : ∀ a b c : Str, rd [a, b, c] 0 = some a := fun _ _ _ => rfl
  have r1 : ∀ a b c : Str, rd [a, b, c] 1 = some b := fun _ _ _ => rfl
  have r2 : ∀ a b c : Str, rd [a, b, c] 2 = some c := fun _ _ _ => rfl
  have o : opN [114, 101, 110, 97, 109, 101] = 114 := by decide +kernel
  have v : verbS 114 = [114, 101, 110, 97, 109, 101] := by decide +kernel
  rw [r0]
  simp only [Option.bind_some, opOf_eq, o, verb_eq, v]
  rw [if_neg (by decide), if_neg (by decide), r1, r2]
  simp only [Option.bind_some, beq_self_eq_true, if_true]
  rw [r]
  rfl
theorem prim2 : lens_prim exT2 = some (exP2, true) := by
  have r : lens_Prim_right exP2 = some true := by rw [right_p _ (by decide +kernel)]; exact congrArg some (by decide +kernel)
  unfold lens_prim strings_Split
  rw [chk_eq (by decide), split2]
  simp only [Option.bind_some]
  have r0 : ∀ a b c : Str, rd [a, b, c] 0 = some a := fun _ _ _ => rfl
  have r1 : ∀ a b c : Str, rd [a, b, c] 1 = some b := fun _ _ _ => rfl
  have r2 : ∀ a b c : Str, rd [a, b, c] 2 = some c := fun _ _ _ => rfl
  have o : opN [119, 114, 97, 112] = 119 := by decide +kernel
  have v : verbS 119 = [119, 114, 97, 112] := by decide +kernel
  rw [r0]
  simp only [Option.bind_some, opOf_eq, o, verb_eq, v]
  rw [if_neg (by decide), if_neg (by decide), r1, r2]
  simp only [Option.bind_some]
  have e : ((if ((119 : Int) == (114 : Int)) = true then some ((119 : Int) == (114 : Int)) else if ((119 : Int) == (119 : Int)) = true then some ((119 : Int) == (119 : Int)) else some ((119 : Int) == (117 : Int))) : Option Bool) = some true := rfl
  rw [e]
  simp only [Option.bind_some, if_true]
  rw [r]
  rfl

theorem hasp_eq (s q : Str) (h : s.length ≤ 9223372036854775807) : internal_stringslite_HasPrefix s q = some (decide (q <+: s)) := by
  unfold internal_stringslite_HasPrefix
  by_cases hl : q.length ≤ s.length
  · rw [if_pos (by simp; omega)]
    have hs : sl s 0 (q.length : Int) = some (s.take q.length) := by
      have := sl_nat (l := s) (a := 0) (b := q.length) (by omega) hl
      simpa using this
    rw [hs]
    simp only [Option.bind_some, Option.some.injEq]
    by_cases hp : q <+: s
    · rw [decide_eq_true hp, List.prefix_iff_eq_take.1 hp]; simp
    · rw [decide_eq_false hp, beq_eq_false_iff_ne]
      intro e
      exact hp (List.prefix_iff_eq_take.2 e.symm)
  · rw [if_neg (by simp; omega)]
    have : ¬ q <+: s := fun hp => hl hp.length_le
    simp [this]
theorem cutp_eq (s q : Str) (h : s.length ≤ 9223372036854775807) : strings_CutPrefix s q = some (if q <+: s then (s.drop q.length, true) else (s, false)) := by
  unfold strings_CutPrefix internal_stringslite_CutPrefix
  rw [hasp_eq s q h]
  simp only [Option.bind_some]
  by_cases hp : q <+: s
  · have hs : sl s (q.length : Int) (s.length : Int) = some (s.drop q.length) := by
      have := sl_nat (l := s) (a := q.length) (b := s.length) hp.length_le (Nat.le_refl _)
      simpa using this
    simp only [hp, decide_true, Bool.not_true, Bool.false_eq_true, if_false, if_true]
    rw [hs]
    rfl
  · simp [hp]

abbrev exT3 : Str := exT2 ++ [41]
theorem row2 (kr : Nat) : lens_row_k (kr + 1) exT3 1 = some ([⟨exP2, false, []⟩], [41], true) := by
  have ia : strings_IndexAny (exT3 ++ [59]) [59, 41] = some 13 := by
    unfold strings_IndexAny
    rw [chk_eq (by decide +kernel)]
    exact congrArg some (by decide +kernel)
  have s1 : sl exT3 0 13 = some exT2 := rfl
  have s2 : sl exT3 13 (exT3.length : Int) = some [41] := rfl
  have c1 : strings_CutPrefix exT3 [105, 110, 118, 101, 114, 116, 40] = some (exT3, false) := by rw [cutp_eq _ _ (by decide)]; rfl
  have c2 : strings_CutPrefix [41] [59, 32] = some ([41], false) := by rw [cutp_eq _ _ (by decide)]; rfl
  have h0 : (lim fun k => lens_row_l0 1 (lens_row_k kr) k exT3 []) = some (.inl ([⟨exP2, false, []⟩], [41], true)) := by
    refine lim_of 1 fun k hk => ?_
    obtain ⟨k, rfl⟩ : ∃ j, k = j + 1 := ⟨k - 1, by omega⟩
    rw [lens_row_l0, if_pos (by decide), c1]
    simp only [Option.bind_some, Bool.false_eq_true, if_false]
    rw [chk_eq (by decide), ia]
    simp only [Option.bind_some]
    rw [if_pos (by decide), s1]
    simp only [Option.bind_some]
    rw [prim2]
    simp only [Option.bind_some, Bool.not_true, Bool.false_eq_true, if_false]
    rw [app_eq (by simp)]
    simp only [Option.bind_some]
    rw [s2]
    simp only [Option.bind_some]
    rw [c2]
    rfl
  rw [lens_row_k, h0]
  rfl
abbrev exT4 : Str := [59, 32, 105, 110, 118, 101, 114, 116, 40, 119, 114, 97, 112, 32, 105, 116, 101, 109, 32, 98, 111, 120, 41]
abbrev exT5 : Str := [105, 110, 118, 101, 114, 116, 40, 119, 114, 97, 112, 32, 105, 116, 101, 109, 32, 98, 111, 120, 41]
abbrev exL : List lens_Lens := [⟨exP1, false, []⟩, ⟨nilP, true, [⟨exP2, false, []⟩]⟩]
theorem row1 : lens_row exT 0 = some (exL, [], true) := by
  unfold lens_row
  refine lim_of 2 fun kr hk => ?_
  obtain ⟨kr, rfl⟩ : ∃ j, kr = j + 1 + 1 := ⟨kr - 2, by omega⟩
  have ia : strings_IndexAny (exT ++ [59]) [59, 41] = some 13 := by
    unfold strings_IndexAny
    rw [chk_eq (by decide +kernel)]
    exact congrArg some (by decide +kernel)
  have s1 : sl exT 0 13 = some exT1 := rfl
  have s2 : sl exT 13 (exT.length : Int) = some exT4 := rfl
  have c1 : strings_CutPrefix exT [105, 110, 118, 101, 114, 116, 40] = some (exT, false) := by rw [cutp_eq _ _ (by decide)]; rfl
  have c2 : strings_CutPrefix exT4 [59, 32] = some (exT5, true) := by rw [cutp_eq _ _ (by decide)]; rfl
  have c3 : strings_CutPrefix exT5 [105, 110, 118, 101, 114, 116, 40] = some (exT3, true) := by rw [cutp_eq _ _ (by decide)]; rfl
  have c4 : strings_CutPrefix [] [59, 32] = some ([], false) := by rw [cutp_eq _ _ (by decide)]; rfl
  have p1 : strings_HasPrefix [41] [41] = some true := by unfold strings_HasPrefix; rw [hasp_eq _ _ (by decide)]; rfl
  have s3 : sl ([41] : Str) 1 (([41] : Str).length : Int) = some [] := rfl
  have h0 : (lim fun k => lens_row_l0 0 (lens_row_k (kr + 1)) k exT []) = some (.inl (exL, [], true)) := by
    refine lim_of 2 fun k hk => ?_
    obtain ⟨k, rfl⟩ : ∃ j, k = j + 1 + 1 := ⟨k - 2, by omega⟩
    have w1 : w64 ((0 : Int) + 1) = 1 := rfl
    rw [lens_row_l0, if_pos (by decide), c1]
    simp only [Option.bind_some, Bool.false_eq_true, if_false]
    rw [chk_eq (by decide), ia]
    simp only [Option.bind_some]
    rw [if_pos (by decide), s1]
    simp only [Option.bind_some]
    rw [prim1]
    simp only [Option.bind_some, Bool.not_true, Bool.false_eq_true, if_false]
    rw [app_eq (by simp)]
    simp only [Option.bind_some]
    rw [s2]
    simp only [Option.bind_some]
    rw [c2]
    simp only [Option.bind_some, Bool.not_true, Bool.false_eq_true, if_false]
    rw [lens_row_l0, if_pos (by decide), c3]
    simp only [Option.bind_some, if_true]
    rw [w1, row2]
    simp only [Option.bind_some, Bool.not_true, Bool.false_eq_true, if_false]
    rw [p1]
    simp only [Option.bind_some, Bool.not_true, Bool.false_eq_true, if_false]
    rw [app_eq (by simp)]
    simp only [Option.bind_some]
    rw [s3]
    simp only [Option.bind_some]
    rw [c4]
    rfl
  rw [lens_row_k, h0]
  rfl
theorem shown13_eq : diptychlaw13_shown = some true := by
  have w : lW (⟨nilP, false, exL⟩ : lens_Lens) ≤ 1048577 := by decide +kernel
  have r : lright (⟨nilP, false, exL⟩ : lens_Lens) = true := by decide +kernel
  have t : ltext (⟨nilP, false, exL⟩ : lens_Lens) = exT := by decide +kernel
  have f : lflat (⟨nilP, false, exL⟩ : lens_Lens) = [exP1, ⟨117, [105, 116, 101, 109], [], [98, 111, 120], [], []⟩] := by decide +kernel
  have hp : lens_Parse exT = some (⟨nilP, false, exL⟩, 0) := by
    unfold lens_Parse
    rw [row1]
    simp only [Option.bind_some]
    rw [if_neg (by decide)]
    simp only [Option.bind_some]
    rw [print_eq _ w, r, t]
    rfl
  unfold diptychlaw13_shown
  rw [hp]
  simp only [Option.bind_some]
  rw [flat_eq _ (by have := w; omega), f]
  rfl

/-! ### Light -/
theorem llight (l : lens_Lens) : lW l ≤ 1048577 → ∀ left : Int, 0 < left → left ≤ 300 → ∃ r : Int, r ≤ 300 ∧ ∀ kr, lD l ≤ kr → diptychlaw13_light_k kr l left = some r := by
  induction l using lens_Lens.ind with
  | h l ih =>
    intro hw left h0 h3
    have hd := lD_eq l
    have hwt := lW_eq l
    have hl := lWs_len l.Kids
    have hv := strsW_n l.Prim.Values
    have ht := strsW_n l.Prim.To
    have hpw : strsW l.Prim.Values + strsW l.Prim.To ≤ pW l.Prim := by unfold pW; omega
    have key : ∀ ks : List lens_Lens, (∀ k ∈ ks, k ∈ l.Kids) → ∀ left : Int, left ≤ 300 → ∃ r : Int, r ≤ 300 ∧ ∀ kr, lDs ks ≤ kr → ∀ i, diptychlaw13_light_l0 (diptychlaw13_light_k kr) ks i left = some r := by
      intro ks
      induction ks with
      | nil => intro _ left h; exact ⟨left, h, fun kr _ i => by rw [diptychlaw13_light_l0]⟩
      | cons k ks ihk =>
        intro hm left h
        by_cases hp : 0 < left
        · have hk := hm k (by simp)
          obtain ⟨r, r1, r2⟩ := ih k hk (by have := lW_mem hk; omega) left hp h
          obtain ⟨q, q1, q2⟩ := ihk (fun x hx => hm x (by simp [hx])) r r1
          refine ⟨q, q1, fun kr hkr i => ?_⟩
          simp only [lDs] at hkr
          rw [diptychlaw13_light_l0, if_pos (by simp; omega), r2 kr (by omega)]
          exact q2 kr (by omega) _
        · exact ⟨left, h, fun kr _ i => by rw [diptychlaw13_light_l0, if_neg (by simp; omega)]⟩
    obtain ⟨r, r1, r2⟩ := key l.Kids (fun _ h => h) (left - 1 - l.Prim.Values.length - l.Prim.To.length) (by omega)
    refine ⟨if r < 1 then -1 else r, by split <;> omega, fun kr hk => ?_⟩
    obtain ⟨kr, rfl⟩ : ∃ j, kr = j + 1 := ⟨kr - 1, by omega⟩
    rw [diptychlaw13_light_k, chk_eq (by omega), w64_eq (x := left - 1) (by omega), w64_eq (x := left - 1 - _) (by omega), w64_eq (by omega), r2 kr (by omega)]
    simp only [Option.bind_some]
    by_cases h : r < 1
    · rw [if_pos (by simpa using h), if_pos h]
    · rw [if_neg (by simpa using h), if_neg h]
theorem light13 (l : lens_Lens) (h : lW l ≤ 1048577) : ∃ r : Int, diptychlaw13_light l 300 = some r := by
  obtain ⟨r, _, h2⟩ := llight l h 300 (by omega) (by omega)
  exact ⟨r, by unfold diptychlaw13_light; exact lim_of (lD l) fun kr hk => h2 kr hk⟩

end Go.Proofs.YtpjdafhmneiohaaDoor
