/- Code points of valid texts: they are put together, and taken apart. -/
import Derived.Test.YtpjdafhmneiohaaDoorUtf
namespace Go.Proofs.YtpjdafhmneiohaaDoor
set_option linter.unusedSimpArgs false
set_option linter.unusedVariables false
open Go

/-- What a valid beginning decodes to hangs on no more than its own bytes. -/
theorem decodeL_pre (s t : Str) (hne : s ≠ []) (hv : ¬ ((Lib.decodeL s).1 = 65533 ∧ (Lib.decodeL s).2 = 1)) : Lib.decodeL (s.take (Lib.decodeL s).2 ++ t) = Lib.decodeL s := by
  have hl : 0 < s.length := List.length_pos_iff.2 hne
  have hS := Lib.decodeL_N s
  rcases Lib.decodeN_shape s.length (s.getD 0 0).toNat (s.getD 1 0).toNat (s.getD 2 0).toNat (s.getD 3 0).toNat with ⟨h1, e⟩ | ⟨h1, h2, h3, h4, e⟩ | ⟨h1, h2, h3, h4, h5, h6, e⟩ | ⟨h1, h2, h3, h4, h5, h6, h7, e⟩ | e
  · rw [hS, e]
    simp only
    rw [Lib.takeA s hl, Lib.decodeL_N]
    simp only [List.cons_append, List.getD_cons_zero]
    unfold Lib.decodeN
    rw [if_pos h1]
  · rw [hS, e]
    simp only
    rw [Lib.takeB s h2, Lib.decodeL_N]
    simp only [List.cons_append, List.nil_append, List.getD_cons_zero, List.getD_cons_succ]
    unfold Lib.decodeN
    rw [if_neg (by omega), if_pos ⟨h1, by simp, h3⟩, if_pos (by omega)]
  · rw [hS, e]
    simp only
    rw [Lib.takeC s h2, Lib.decodeL_N]
    simp only [List.cons_append, List.nil_append, List.getD_cons_zero, List.getD_cons_succ]
    unfold Lib.decodeN
    rw [if_neg (by omega), if_neg (by omega), if_pos ⟨h1, ⟨by simp, h3⟩, by simp, h4⟩, if_pos ⟨by omega, by omega⟩]
  · rw [hS, e]
    simp only
    rw [Lib.takeD s h2, Lib.decodeL_N]
    simp only [List.cons_append, List.nil_append, List.getD_cons_zero, List.getD_cons_succ]
    unfold Lib.decodeN
    rw [if_neg (by omega), if_neg (by omega), if_neg (by omega), if_pos ⟨h1, ⟨by simp, h3⟩, ⟨by simp, h4⟩, by simp, h5⟩, if_pos ⟨by omega, by omega⟩]
  · rw [hS, e] at hv
    simp at hv

/-- A code point that reads as it is written. -/
def VR (c : Int) : Prop := (∀ t : Str, runes (rune1 c ++ t) = c :: runes t) ∧ ∀ t : Str, Lib.validD (rune1 c ++ t) = Lib.validD t
theorem rn_fuel' : ∀ (f g : Nat) (s : Str), s.length ≤ f → s.length ≤ g → rn f s = rn g s
  | 0, 0, s, _, _ => rfl
  | 0, g + 1, s, hf, _ => by
    have : s = [] := List.eq_nil_of_length_eq_zero (by omega)
    subst this
    simp [rn]
  | f + 1, 0, s, _, hg => by
    have : s = [] := List.eq_nil_of_length_eq_zero (by omega)
    subst this
    simp [rn]
  | f + 1, g + 1, s, hf, hg => by
    unfold rn
    by_cases h : s = []
    · simp [h]
    · have h1 := Lib.decodeL_width s
      have h2 := Lib.decodeL_le s h
      rw [if_neg h, if_neg h, rn_fuel' f g _ (by simp; omega) (by simp; omega)]
theorem runes_nil : runes [] = [] := by rw [runes_eq]; rfl
theorem runes_step (s : Str) (hne : s ≠ []) : runes s = ((Lib.decodeL s).1 : Int) :: runes (s.drop (Lib.decodeL s).2) := by
  rw [runes_eq, runes_eq]
  have h1 := Lib.decodeL_width s
  have h2 := Lib.decodeL_le s hne
  have hl : 0 < s.length := List.length_pos_iff.2 hne
  obtain ⟨n, hn⟩ : ∃ n, s.length = n + 1 := ⟨s.length - 1, by omega⟩
  rw [hn, rn, if_neg hne, rn_fuel' n _ _ (by simp; omega) (Nat.le_refl _)]
theorem vr_head (s : Str) (hne : s ≠ []) (hv : ¬ ((Lib.decodeL s).1 = 65533 ∧ (Lib.decodeL s).2 = 1)) : VR ((Lib.decodeL s).1 : Int) ∧ rune1 ((Lib.decodeL s).1 : Int) = s.take (Lib.decodeL s).2 := by
  have e5 : rune1 ((Lib.decodeL s).1 : Int) = s.take (Lib.decodeL s).2 := by rw [enc_eq _ (Lib.decodeL_rune s)]; exact Lib.encode_decode s hne hv
  have h1 := Lib.decodeL_width s
  have h2 := Lib.decodeL_le s hne
  have hlen : (s.take (Lib.decodeL s).2).length = (Lib.decodeL s).2 := by rw [List.length_take]; omega
  have hdr : ∀ t : Str, (s.take (Lib.decodeL s).2 ++ t).drop (Lib.decodeL s).2 = t := by
    intro t
    rw [List.drop_append_of_le_length (by omega), List.drop_of_length_le (by omega)]
    rfl
  refine ⟨⟨fun t => ?_, fun t => ?_⟩, e5⟩
  · have hne' : rune1 ((Lib.decodeL s).1 : Int) ++ t ≠ [] := by
      intro h
      have := congrArg List.length h
      rw [List.length_append, e5, hlen, List.length_nil] at this
      omega
    rw [runes_step _ hne', e5, decodeL_pre s t hne hv, hdr]
  · have hne' : rune1 ((Lib.decodeL s).1 : Int) ++ t ≠ [] := by
      intro h
      have := congrArg List.length h
      rw [List.length_append, e5, hlen, List.length_nil] at this
      omega
    rw [Lib.validD_step _ hne', e5, decodeL_pre s t hne hv, if_neg hv, hdr]
theorem vr_of : ∀ (f : Nat) (s : Str), s.length ≤ f → Lib.validD s = true → ∀ c ∈ runes s, VR c
  | 0, s, h, _, c, hc => by
    have : s = [] := List.eq_nil_of_length_eq_zero (by omega)
    subst this
    rw [runes_nil] at hc
    cases hc
  | f + 1, s, h, hv, c, hc => by
    by_cases hne : s = []
    · subst hne
      rw [runes_nil] at hc
      cases hc
    · rw [Lib.validD_step s hne] at hv
      by_cases hb : (Lib.decodeL s).1 = 65533 ∧ (Lib.decodeL s).2 = 1
      · rw [if_pos hb] at hv; cases hv
      · rw [if_neg hb] at hv
        have h1 := Lib.decodeL_width s
        rw [runes_step s hne] at hc
        rcases List.mem_cons.1 hc with rfl | hc
        · exact (vr_head s hne hb).1
        · exact vr_of f (s.drop (Lib.decodeL s).2) (by simp; omega) hv c hc
theorem runes_vr {s : Str} (h : Lib.validD s = true) : ∀ c ∈ runes s, VR c := vr_of s.length s (Nat.le_refl _) h
theorem runesStr_cons (c : Int) (l : List Int) : runesStr (c :: l) = rune1 c ++ runesStr l := by simp [runesStr]
theorem runesStr_app (a b : List Int) : runesStr (a ++ b) = runesStr a ++ runesStr b := by simp [runesStr]
/-- Code points that read as they are written, put together. -/
theorem runes_str : ∀ (l : List Int) (t : Str), (∀ c ∈ l, VR c) → runes (runesStr l ++ t) = l ++ runes t ∧ Lib.validD (runesStr l ++ t) = Lib.validD t
  | [], t, _ => by simp [runesStr]
  | c :: l, t, h => by
    obtain ⟨h1, h2⟩ := runes_str l t fun x hx => h x (by simp [hx])
    obtain ⟨h3, h4⟩ := h c (by simp)
    rw [runesStr_cons, List.append_assoc, h3, h1, h4, h2]
    simp
theorem runes_of_str {l : List Int} (h : ∀ c ∈ l, VR c) : runes (runesStr l) = l ∧ Lib.validD (runesStr l) = true := by
  have := runes_str l [] h
  simpa [runes_nil, Lib.validD_nil] using this
theorem runes_app {s : Str} (t : Str) (h : Lib.validD s = true) : runes (s ++ t) = runes s ++ runes t ∧ Lib.validD (s ++ t) = Lib.validD t := by
  have := runes_str (runes s) t (runes_vr h)
  rwa [runes_valid h] at this

end Go.Proofs.YtpjdafhmneiohaaDoor
