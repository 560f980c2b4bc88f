/- Numbers as texts. -/
import Derived.Test.YtclohbgnaopjfaaDoorSmall
import Derived.Lib.ItoaNum
namespace Go.Proofs.YtclohbgnaopjfaaDoor
set_option linter.unusedSimpArgs false
set_option linter.unusedVariables false
open Go

def dval (l : Str) : Nat := l.foldl (fun a b => 10 * a + (b.toNat - 48)) 0
theorem dval_snoc (l : Str) (b : UInt8) : dval (l ++ [b]) = 10 * dval l + (b.toNat - 48) := by simp [dval]
theorem dval_one (b : UInt8) : dval [b] = b.toNat - 48 := by
  show 10 * 0 + (b.toNat - 48) = _
  omega
theorem digit_of (d : Nat) (h : d < 10) : (UInt8.ofNat (48 + d)).toNat = 48 + d := by
  simp only [UInt8.toNat_ofNat']
  omega
theorem dec_facts : ∀ (f u : Nat), u ≤ f → dval (Lib.decDigits u) = u ∧ (∀ b ∈ Lib.decDigits u, 48 ≤ b.toNat ∧ b.toNat ≤ 57) ∧ Lib.decDigits u ≠ []
  | 0, u, h => by
    have : u = 0 := by omega
    subst this
    rw [Lib.decDigits, dif_pos (by omega)]
    decide
  | f + 1, u, h => by
    rw [Lib.decDigits]
    by_cases hu : u < 10
    · rw [dif_pos hu]
      have e := digit_of u hu
      refine ⟨?_, fun b hb => ?_, List.cons_ne_nil _ _⟩
      · rw [dval_one, e]; omega
      · rw [List.mem_singleton.1 hb, e]; omega
    · rw [dif_neg hu]
      obtain ⟨h1, h2, h3⟩ := dec_facts f (u / 10) (by omega)
      have e := digit_of (u % 10) (by omega)
      refine ⟨?_, fun b hb => ?_, List.append_ne_nil_of_right_ne_nil _ (List.cons_ne_nil _ _)⟩
      · rw [dval_snoc, h1, e]; omega
      · rcases List.mem_append.1 hb with hb | hb
        · exact h2 b hb
        · rw [List.mem_singleton.1 hb, e]; omega
theorem dec_inj {u v : Nat} (h : Lib.decDigits u = Lib.decDigits v) : u = v := by
  rw [← (dec_facts u u (Nat.le_refl _)).1, ← (dec_facts v v (Nat.le_refl _)).1, h]
theorem itoa_no {n : Int} {b : UInt8} (hb : b ∈ Lib.itoa n) : b.toNat = 45 ∨ (48 ≤ b.toNat ∧ b.toNat ≤ 57) := by
  unfold Lib.itoa at hb
  split at hb
  · rcases List.mem_cons.1 hb with rfl | hb
    · exact .inl rfl
    · exact .inr ((dec_facts _ _ (Nat.le_refl _)).2.1 b hb)
  · exact .inr ((dec_facts _ _ (Nat.le_refl _)).2.1 b hb)
theorem itoa_inj {m n : Int} (h : Lib.itoa m = Lib.itoa n) : m = n := by
  have no45 : ∀ u : Nat, ∀ l : Str, Lib.decDigits u = 45 :: l → False := fun u l e => by
    have := (dec_facts u u (Nat.le_refl _)).2.1 45 (by rw [e]; simp)
    have h45 : (45 : UInt8).toNat = 45 := rfl
    omega
  unfold Lib.itoa at h
  by_cases hm : m < 0
  · by_cases hn : n < 0
    · rw [if_pos hm, if_pos hn] at h
      simp only [List.cons.injEq, true_and] at h
      have := dec_inj h
      omega
    · rw [if_pos hm, if_neg hn] at h
      exact (no45 _ _ h.symm).elim
  · by_cases hn : n < 0
    · rw [if_neg hm, if_pos hn] at h
      exact (no45 _ _ h).elim
    · rw [if_neg hm, if_neg hn] at h
      have := dec_inj h
      omega
theorem itoa_len {n : Int} (h : -1 ≤ n ∧ n ≤ 1048576) : (Lib.itoa n).length ≤ 20 := by
  have key : ∀ (k u : Nat), u < 10 ^ (k + 1) → (Lib.decDigits u).length ≤ k + 1 := by
    intro k
    induction k with
    | zero =>
      intro u hu
      rw [Lib.decDigits, dif_pos (by simpa using hu)]
      simp
    | succ k ih =>
      intro u hu
      rw [Lib.decDigits]
      split
      · simp
      · have := ih (u / 10) (by rw [Nat.pow_succ] at hu; omega)
        simp; omega
  unfold Lib.itoa
  split
  · have := key 18 n.natAbs (by omega)
    simp; omega
  · have := key 18 n.toNat (by omega)
    omega
theorem itoa_ne (n : Int) : Lib.itoa n ≠ [] := by
  unfold Lib.itoa
  split
  · simp
  · exact (dec_facts _ _ (Nat.le_refl _)).2.2

end Go.Proofs.YtclohbgnaopjfaaDoor
