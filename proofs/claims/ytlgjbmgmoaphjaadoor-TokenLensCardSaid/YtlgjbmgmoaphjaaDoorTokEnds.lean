/- What two rows of tokens begin and end with alike, plainly. -/
import Derived.Test.YtlgjbmgmoaphjaaDoorTokRef
namespace Go.Proofs.YtlgjbmgmoaphjaaDoor
set_option linter.unusedSimpArgs false
set_option linter.unusedVariables false
open Go

/-! ### Lists -/
def com : List token_Token → List token_Token → Nat
  | x :: a, y :: b => if x = y then com a b + 1 else 0
  | _, _ => 0
theorem com_le : ∀ (a b : List token_Token), com a b ≤ a.length ∧ com a b ≤ b.length
  | [], _ => by simp [com]
  | _ :: _, [] => by simp [com]
  | x :: a, y :: b => by
    have := com_le a b
    simp only [com]
    split <;> simp <;> omega
theorem com_take : ∀ (a b : List token_Token), a.take (com a b) = b.take (com a b)
  | [], _ => by simp [com]
  | _ :: _, [] => by simp [com]
  | x :: a, y :: b => by
    simp only [com]
    split
    · rename_i h
      rw [List.take_succ_cons, List.take_succ_cons, com_take a b, h]
    · simp
theorem com_at {a b : List token_Token} {i : Nat} (h : i < com a b) : a[i]? = b[i]? := by
  have h1 := congrArg (·[i]?) (com_take a b)
  simp only [List.getElem?_take, h, if_true] at h1
  exact h1
theorem com_max : ∀ (a b : List token_Token), com a b < a.length → com a b < b.length → a[com a b]? ≠ b[com a b]?
  | [], _, h, _ => by simp at h
  | _ :: _, [], _, h => by simp at h
  | x :: a, y :: b, h1, h2 => by
    simp only [com] at h1 h2 ⊢
    split
    · rename_i h
      rw [if_pos h] at h1 h2
      simp only [List.length_cons] at h1 h2
      rw [List.getElem?_cons_succ, List.getElem?_cons_succ]
      exact com_max a b (by omega) (by omega)
    · rename_i h
      simpa using h
theorem com_comm : ∀ (a b : List token_Token), com a b = com b a
  | [], [] => rfl
  | [], _ :: _ => rfl
  | _ :: _, [] => rfl
  | x :: a, y :: b => by
    simp only [com, com_comm a b]
    by_cases h : x = y
    · rw [if_pos h, if_pos h.symm]
    · rw [if_neg h, if_neg fun e => h e.symm]
def back (a b : List token_Token) : Nat := com (a.drop (com a b)).reverse (b.drop (com a b)).reverse
theorem back_comm (a b : List token_Token) : back a b = back b a := by
  unfold back
  rw [com_comm a b, com_comm]
theorem back_le (a b : List token_Token) : com a b + back a b ≤ a.length ∧ com a b + back a b ≤ b.length := by
  have h1 := com_le a b
  have h2 := com_le (a.drop (com a b)).reverse (b.drop (com a b)).reverse
  simp only [List.length_reverse, List.length_drop] at h2
  unfold back
  omega
theorem rev_at {a : List token_Token} {n i : Nat} (h : n + i < a.length) : (a.drop n).reverse[i]? = a[a.length - 1 - i]? := by
  rw [List.getElem?_reverse (by simp; omega), List.getElem?_drop, List.length_drop]
  congr 1
  omega
theorem back_at {a b : List token_Token} {i : Nat} (h : i < back a b) : a[a.length - 1 - i]? = b[b.length - 1 - i]? := by
  have h1 := back_le a b
  have h2 := com_at h
  rwa [rev_at (by omega), rev_at (by omega)] at h2
theorem back_max {a b : List token_Token} (h1 : com a b + back a b < a.length) (h2 : com a b + back a b < b.length) : a[a.length - 1 - back a b]? ≠ b[b.length - 1 - back a b]? := by
  have h3 := com_max (a.drop (com a b)).reverse (b.drop (com a b)).reverse (by simp only [List.length_reverse, List.length_drop]; unfold back at h1; omega) (by simp only [List.length_reverse, List.length_drop]; unfold back at h2; omega)
  unfold back at h1 h2 ⊢
  rwa [rev_at (by omega), rev_at (by omega)] at h3
theorem back_drop (a b : List token_Token) : a.drop (a.length - back a b) = b.drop (b.length - back a b) := by
  have h1 := back_le a b
  apply List.ext_getElem?
  intro i
  rw [List.getElem?_drop, List.getElem?_drop]
  by_cases hi : i < back a b
  · have h2 := back_at (a := a) (b := b) (i := back a b - 1 - i) (by omega)
    rw [show a.length - back a b + i = a.length - 1 - (back a b - 1 - i) by omega, show b.length - back a b + i = b.length - 1 - (back a b - 1 - i) by omega]
    exact h2
  · rw [List.getElem?_eq_none (by omega), List.getElem?_eq_none (by omega)]

/-! ### The program's -/
theorem tok_eq (x y : token_Token) : ((x.Kind == y.Kind) && ((x.Text == y.Text) && (x.Head == y.Head))) = decide (x = y) := by
  cases x; cases y
  rw [Bool.eq_iff_iff]
  simp
theorem com_drop : ∀ (p s t : List token_Token), com (p ++ s) (p ++ t) = p.length + com s t
  | [], s, t => by simp
  | x :: p, s, t => by simp only [List.cons_append, com, if_true, com_drop p s t, List.length_cons]; omega
theorem psame_l0 (b : List token_Token) : ∀ (suf pre : List token_Token) (t : List token_Token), b = pre ++ t → token_Same_l0 b suf (pre.length : Int) = some (if com suf t = suf.length then .inr () else .inl ((pre.length + com suf t : Nat) : Int))
  | [], pre, t, _ => by simp [token_Same_l0, com]
  | x :: suf, pre, [], hb => by
    have g : ((pre.length : Int) == (b.length : Int)) = true := by rw [hb]; simp
    rw [token_Same_l0, if_pos g]
    simp [com]
  | x :: suf, pre, y :: t, hb => by
    have g : ((pre.length : Int) == (b.length : Int)) = false := by rw [hb]; simp; omega
    have hr : rd b (pre.length : Int) = some y := by rw [hb]; exact rd_mid pre t y
    rw [token_Same_l0, g, hr]
    simp only [Bool.false_eq_true, if_false, Option.bind_some, tok_eq]
    by_cases h : x = y
    · have e : (pre.length : Int) + 1 = ((pre ++ [y]).length : Int) := by simp
      have ih := psame_l0 b suf (pre ++ [y]) t (by rw [hb]; simp)
      simp only [h, decide_true, bne_self_eq_false, Bool.false_eq_true, if_false, com, if_true]
      rw [e, ih]
      simp only [List.length_cons, List.length_append, List.length_nil, Nat.add_right_cancel_iff]
      split
      · rfl
      · congr 2
        omega
    · simp [h, com]
theorem psame_eq (a b : List token_Token) (h : a.length ≤ 9223372036854775807) : token_Same a b = some (com a b : Int) := by
  have h0 := psame_l0 b a [] b rfl
  have h0' : token_Same_l0 b a 0 = _ := h0
  unfold token_Same
  rw [chk_eq h, h0']
  simp only [Option.bind_some]
  split
  · rename_i hh
    split at hh
    · cases hh
    · cases hh; simp
  · rename_i hh
    split at hh
    · rename_i h1; rw [h1]
    · cases hh

theorem two_ends {α : Type} : ∀ (l : List α), l = [] ∨ (∃ x, l = [x]) ∨ ∃ x m y, l = x :: (m ++ [y])
  | [] => .inl rfl
  | [x] => .inr (.inl ⟨x, rfl⟩)
  | x :: y :: l => by
    rcases snoc_cases (y :: l) with h | ⟨m, z, h⟩
    · cases h
    · exact .inr (.inr ⟨x, m, z, by rw [h]⟩)
theorem wr_mid {α : Type} (p s : List α) (x y : α) : wr (p ++ x :: s) (p.length : Int) y = some (p ++ y :: s) := by
  have h : (0 : Int) ≤ (p.length : Int) ∧ (p.length : Int) < ((p ++ x :: s).length : Int) := by simp; omega
  unfold wr
  rw [if_pos h]
  simp
theorem rev_l0 : ∀ (f : Nat) (k : Nat) (pre mid post : List token_Token), mid.length ≤ f → f < k → pre.length = post.length → (pre ++ mid ++ post).length ≤ 1099511627776 →
    slices_Reverse_token_Token_x_l0 k (pre.length : Int) ((pre.length : Int) + mid.length - 1) (pre ++ mid ++ post) = some (pre ++ mid.reverse ++ post)
  | f, 0, _, _, _, _, h, _, _ => by omega
  | f, k + 1, pre, mid, post, hf, hk, hl, hb => by
    rcases two_ends mid with rfl | ⟨x, rfl⟩ | ⟨x, m, y, rfl⟩
    · have g : decide ((pre.length : Int) < (pre.length : Int) + (([] : List token_Token).length : Int) - 1) = false := by simp; omega
      rw [slices_Reverse_token_Token_x_l0, g]
      simp
    · have g : decide ((pre.length : Int) < (pre.length : Int) + (([x] : List token_Token).length : Int) - 1) = false := by simp
      rw [slices_Reverse_token_Token_x_l0, g]
      simp
    · have hm : (x :: (m ++ [y])).length = m.length + 2 := by simp
      have g : decide ((pre.length : Int) < (pre.length : Int) + ((x :: (m ++ [y])).length : Int) - 1) = true := by rw [hm]; simp; omega
      have ej : (pre.length : Int) + ((x :: (m ++ [y])).length : Int) - 1 = ((pre ++ x :: m).length : Int) := by rw [hm]; simp; omega
      have ej2 : (pre.length : Int) + ((x :: (m ++ [y])).length : Int) - 1 = ((pre ++ y :: m).length : Int) := by rw [hm]; simp; omega
      have s0 : pre ++ x :: (m ++ [y]) ++ post = (pre ++ x :: m) ++ y :: post := by simp
      have s0' : pre ++ x :: (m ++ [y]) ++ post = pre ++ x :: (m ++ [y] ++ post) := by simp
      have s1 : pre ++ y :: (m ++ [y] ++ post) = (pre ++ y :: m) ++ y :: post := by simp
      have r1 : rd (pre ++ x :: (m ++ [y]) ++ post) ((pre.length : Int) + ((x :: (m ++ [y])).length : Int) - 1) = some y := by rw [ej, s0]; exact rd_mid _ _ _
      have r2 : rd (pre ++ x :: (m ++ [y]) ++ post) (pre.length : Int) = some x := by rw [s0']; exact rd_mid _ _ _
      have w1 : wr (pre ++ x :: (m ++ [y]) ++ post) (pre.length : Int) y = some (pre ++ y :: (m ++ [y] ++ post)) := by rw [s0']; exact wr_mid _ _ _ _
      have r3 : rd (pre ++ y :: (m ++ [y] ++ post)) ((pre.length : Int) + ((x :: (m ++ [y])).length : Int) - 1) = some y := by rw [ej2, s1]; exact rd_mid _ _ _
      have w2 : wr (pre ++ y :: (m ++ [y] ++ post)) ((pre.length : Int) + ((x :: (m ++ [y])).length : Int) - 1) x = some ((pre ++ y :: m) ++ x :: post) := by rw [ej2, s1]; exact wr_mid _ _ _ _
      have hlb : (pre ++ x :: (m ++ [y]) ++ post).length = pre.length + m.length + post.length + 2 := by simp; omega
      rw [slices_Reverse_token_Token_x_l0, g]
      simp only [if_true]
      rw [r1]
      simp only [Option.bind_some]
      rw [r2]
      simp only [Option.bind_some]
      rw [w1]
      simp only [Option.bind_some]
      rw [r3]
      simp only [Option.bind_some]
      rw [w2]
      simp only [Option.bind_some]
      rw [hlb] at hb
      rw [w64_eq (by omega), w64_eq (by rw [hm]; omega)]
      have ih := rev_l0 m.length k (pre ++ [y]) m (x :: post) (Nat.le_refl _) (by rw [hm] at hf; omega) (by simp; omega) (by simp; omega)
      have e1 : ((pre ++ [y]).length : Int) = (pre.length : Int) + 1 := by simp
      have e2 : ((pre ++ [y]).length : Int) + (m.length : Int) - 1 = (pre.length : Int) + ((x :: (m ++ [y])).length : Int) - 1 - 1 := by rw [hm]; simp; omega
      rw [e2, e1] at ih
      have e3 : (pre ++ y :: m) ++ x :: post = pre ++ [y] ++ m ++ x :: post := by simp
      rw [e3, ih]
      simp
theorem rev_eq (l : List token_Token) (h : l.length ≤ 1099511627776) : slices_Reverse_token_Token_x l = some l.reverse := by
  unfold slices_Reverse_token_Token_x
  have h0 : (lim fun k => slices_Reverse_token_Token_x_l0 k 0 (w64 ((l.length : Int) - 1)) l) = some l.reverse := by
    refine lim_of (l.length + 1) fun k hk => ?_
    have := rev_l0 l.length k [] l [] (Nat.le_refl _) (by omega) rfl (by simpa using h)
    rw [w64_eq (by omega)]
    simpa using this
  rw [h0]
  rfl
theorem pback_eq (a b : List token_Token) (ha : a.length ≤ 1073741824) (hb : b.length ≤ 1073741824) : token_Back a b = some (back a b : Int) := by
  have hc := com_le a b
  unfold token_Back
  rw [psame_eq a b (by omega)]
  simp only [Option.bind_some]
  have s1 : sl a (com a b : Int) (a.length : Int) = some (a.drop (com a b)) := by
    have := sl_nat (l := a) (a := com a b) (b := a.length) hc.1 (Nat.le_refl _)
    simpa using this
  have s2 : sl b (com a b : Int) (b.length : Int) = some (b.drop (com a b)) := by
    have := sl_nat (l := b) (a := com a b) (b := b.length) hc.2 (Nat.le_refl _)
    simpa using this
  rw [s1]
  simp only [Option.bind_some]
  unfold slices_Clone_token_Token
  rw [app_eq (by simp; omega)]
  simp only [Option.bind_some, List.nil_append]
  rw [s2]
  simp only [Option.bind_some]
  rw [app_eq (by simp; omega)]
  simp only [Option.bind_some, List.nil_append]
  rw [rev_eq _ (by simp; omega)]
  simp only [Option.bind_some]
  rw [chk_eq (by simp), rev_eq _ (by simp; omega)]
  simp only [Option.bind_some]
  rw [chk_eq (by simp), psame_eq _ _ (by simp; omega)]
  rfl

end Go.Proofs.YtlgjbmgmoaphjaaDoor
