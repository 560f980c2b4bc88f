/- Small words. -/
import Derived.Test.YtclohbgnaopjfaaDoorAgF
namespace Go.Proofs.YtclohbgnaopjfaaDoor
set_option linter.unusedSimpArgs false
set_option linter.unusedVariables false
open Go

/-! ### Small words -/
theorem w64_eq {x : Int} (h : -9223372036854775808 ≤ x ∧ x ≤ 9223372036854775807) : w64 x = x := wrapI h
theorem chk_eq {α : Type} {p : Prop} [Decidable p] (h : p) (x : Option α) : chk p x = x := if_pos h
theorem rd_nat {α : Type} {l : List α} {i : Nat} {x : α} (h : l[i]? = some x) : rd l (i : Int) = some x := by
  unfold rd; rw [if_pos (by omega)]; simpa using h
theorem rd_mid {α : Type} (pre suf : List α) (x : α) : rd (pre ++ x :: suf) (pre.length : Int) = some x := rd_nat (by simp)
theorem sl_nat {α : Type} {l : List α} {a b : Nat} (h1 : a ≤ b) (h2 : b ≤ l.length) : sl l (a : Int) (b : Int) = some ((l.take b).drop a) := by
  unfold sl; rw [if_pos (by omega)]; simp
theorem sl_pre {α : Type} (pre suf : List α) : sl (pre ++ suf) 0 (pre.length : Int) = some pre := by
  have := sl_nat (l := pre ++ suf) (a := 0) (b := pre.length) (by omega) (by simp)
  simpa using this
theorem sl_suf {α : Type} (pre suf : List α) : sl (pre ++ suf) (pre.length : Int) ((pre ++ suf).length : Int) = some suf := by
  have := sl_nat (l := pre ++ suf) (a := pre.length) (b := (pre ++ suf).length) (by simp) (by omega)
  rw [this, List.take_length, List.drop_left']
  rfl
theorem app_eq {α : Type} {z : Nat} {l ys : List α} (h : (l.length + ys.length) * z ≤ 140737488355328) : app z l ys = some (l ++ ys) := if_pos h
theorem snoc_cases {α : Type} (l : List α) : l = [] ∨ ∃ a x, l = a ++ [x] := by
  rcases List.eq_nil_or_concat l with h | ⟨a, x, h⟩
  · exact .inl h
  · exact .inr ⟨a, x, by simpa using h⟩

abbrev sText : Str := [116, 101, 120, 116]
def strsW : List Str → Nat
  | [] => 0
  | s :: l => 1 + s.length + strsW l
theorem strsW_mem {s : Str} : ∀ {l : List Str}, s ∈ l → s.length ≤ strsW l
  | x :: l, h => by
    simp only [strsW]
    rcases List.mem_cons.1 h with rfl | h
    · omega
    · have := strsW_mem h; omega
theorem strsW_n (l : List Str) : l.length ≤ strsW l := by
  induction l with
  | nil => simp
  | cons s l ih => simp only [List.length_cons, strsW]; omega
end Go.Proofs.YtclohbgnaopjfaaDoor
