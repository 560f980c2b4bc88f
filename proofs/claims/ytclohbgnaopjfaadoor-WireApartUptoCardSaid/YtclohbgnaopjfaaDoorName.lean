/- What is a name. -/
import Derived.Test.YtclohbgnaopjfaaDoorSmall
import Derived.Lib.SlTrimSet
namespace Go.Proofs.YtclohbgnaopjfaaDoor
set_option linter.unusedSimpArgs false
set_option linter.unusedVariables false
open Go

/-- A way on, or 'false'. -/
def sumB (b : Bool) : Bool ⊕ Unit := match b with
  | true => .inr ()
  | false => .inl false

/-! ### Names, values -/
def letter (b : UInt8) : Bool := decide (97 ≤ b.toNat) && decide (b.toNat ≤ 122)
abbrev abc : Str := [97, 98, 99, 100, 101, 102, 103, 104, 105, 106, 107, 108, 109, 110, 111, 112, 113, 114, 115, 116, 117, 118, 119, 120, 121, 122]
def isName (s : Str) : Bool := s.all letter && decide (s ≠ []) && decide (s.length ≤ 8) && decide (s ≠ sText)

theorem abc_contains (b : UInt8) : abc.contains b = letter b := by
  have h : ∀ n, n < 256 → abc.contains (UInt8.ofNat n) = letter (UInt8.ofNat n) := by decide +kernel
  have := h b.toNat b.toNat_lt
  simpa using this
theorem all_drop (p : UInt8 → Bool) : ∀ l : Str, (∀ x ∈ l.dropWhile p, p x = true) → ∀ x ∈ l, p x = true
  | [], _ => by simp
  | a :: l, h => by
    by_cases ha : p a = true
    · rw [List.dropWhile_cons_of_pos ha] at h
      intro x hx
      rcases List.mem_cons.1 hx with rfl | hx
      · exact ha
      · exact all_drop p l h x hx
    · rw [List.dropWhile_cons_of_neg ha] at h
      exact (ha (h a (by simp))).elim
theorem drop_all (p : UInt8 → Bool) : ∀ l : Str, (∀ x ∈ l, p x = true) → l.dropWhile p = []
  | [], _ => rfl
  | a :: l, h => by
    rw [List.dropWhile_cons_of_pos (h a (by simp))]
    exact drop_all p l fun x hx => h x (by simp [hx])
theorem trim_nil (s : Str) : (Lib.trimS s abc == []) = s.all letter := by
  have hp : (fun b => abc.contains b) = letter := funext abc_contains
  unfold Lib.trimS Lib.trimLeftS Lib.trimRightS
  rw [hp]
  cases h : s.all letter with
  | true =>
    have h' := List.all_eq_true.1 h
    rw [drop_all letter s.reverse fun x hx => h' x (by simpa using hx)]
    rfl
  | false =>
    rw [beq_eq_false_iff_ne]
    intro e
    have h1 : ∀ x ∈ (s.reverse.dropWhile letter).reverse, letter x = true := all_drop letter _ (by rw [e]; simp)
    have h2 := all_drop letter s.reverse fun x hx => h1 x (by simpa using hx)
    have h3 : s.all letter = true := List.all_eq_true.2 fun x hx => h2 x (by simpa using hx)
    rw [h] at h3
    cases h3
theorem name_eq (s : Str) (h : s.length ≤ 9223372036854775807) : node_Name s = some (isName s) := by
  unfold node_Name strings_Trim isName
  rw [chk_eq ⟨h, by decide, by decide⟩]
  simp only [Option.bind_some, trim_nil]
  cases h1 : s.all letter with
  | false => simp
  | true =>
    by_cases h2 : s = []
    · simp [h2]
    · by_cases h3 : s.length ≤ 8
      · have g3 : decide ((s.length : Int) ≤ 8) = true := by simp; omega
        have g2 : (s == []) = false := by simpa using h2
        simp only [if_true, g2, Bool.not_false, g3, h2, h3, ne_eq, not_false_eq_true, decide_true, Bool.true_and]
        by_cases h4 : s = sText <;> simp [h4]
      · have g3 : decide ((s.length : Int) ≤ 8) = false := by simp; omega
        have g2 : (s == []) = false := by simpa using h2
        simp only [if_true, g2, Bool.not_false, g3, Bool.false_eq_true, if_false]
        simp [h3]
end Go.Proofs.YtclohbgnaopjfaaDoor
