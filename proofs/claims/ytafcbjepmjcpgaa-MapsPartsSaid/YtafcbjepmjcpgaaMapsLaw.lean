/- Plain laws of maps: order, ends, turned maps. -/
import Derived.Test.YtafcbjepmjcpgaaMaps4
namespace Go.Proofs.Ytafcbjepmjcpgaa
set_option linter.unusedSimpArgs false
set_option linter.unusedVariables false
open Go

theorem rightG_ok : ∀ (m : List Rg) (last : Int), rightG last m = true → ∀ r ∈ m, r.ok
  | [], _, _ => by simp
  | r :: m, last, h => by
    simp only [rightG, Bool.and_eq_true, decide_eq_true_eq] at h
    intro x hx
    rcases List.mem_cons.1 hx with rfl | hx
    · exact h.1.1
    · exact rightG_ok m _ h.2 x hx

theorem rightG_cons {last : Int} {r : Rg} {m : List Rg} (h : rightG last (r :: m) = true) : r.ok ∧ last < r.a ∧ rightG (r.a + r.o) m = true := by
  simp only [rightG, Bool.and_eq_true, decide_eq_true_eq] at h
  exact ⟨h.1.1, h.1.2, h.2⟩

theorem toM_lo (right : Bool) (pos : Int) : ∀ (m : List Rg) (last sh : Int), rightG last m = true → last < pos → last + 1 + sh ≤ toM pos right sh m
  | [], last, sh, _, h => by simp only [toM]; omega
  | r :: m, last, sh, hr, h => by
    obtain ⟨h1, h2, h3⟩ := rightG_cons hr
    unfold Rg.ok at h1
    simp only [toM]
    split
    · have := toM_lo right pos m (r.a + r.o) (sh + (r.n - r.o)) h3 (by omega)
      omega
    · split
      · omega
      · split <;> omega

theorem toM_mono (right : Bool) (p q : Int) (hpq : p ≤ q) : ∀ (m : List Rg) (last sh : Int), rightG last m = true → toM p right sh m ≤ toM q right sh m
  | [], last, sh, _ => by simp only [toM]; omega
  | r :: m, last, sh, hr => by
    obtain ⟨h1, h2, h3⟩ := rightG_cons hr
    unfold Rg.ok at h1
    simp only [toM]
    by_cases c1 : r.a + r.o < p
    · rw [if_pos c1, if_pos (show r.a + r.o < q by omega)]
      exact toM_mono right p q hpq m _ _ h3
    · rw [if_neg c1]
      by_cases c2 : r.a + r.o < q
      · rw [if_pos c2]
        have := toM_lo right q m (r.a + r.o) (sh + (r.n - r.o)) h3 c2
        split
        · omega
        · split <;> omega
      · rw [if_neg c2]
        by_cases c3 : r.a > p
        · rw [if_pos c3]
          split
          · omega
          · split <;> omega
        · rw [if_neg c3, if_neg (show ¬ r.a > q by omega)]
          by_cases c4 : side r p right = true
          · have c5 : side r q right = true := by
              simp only [side] at c4 ⊢
              split
              · rename_i hz; rw [if_pos hz] at c4; exact c4
              · rename_i hz
                rw [if_neg hz] at c4
                split at c4
                · cases c4
                · rw [if_neg (show ¬ q = r.a by omega)]
                  simp only [Bool.or_eq_true, beq_iff_eq] at c4 ⊢
                  rcases c4 with c4 | c4
                  · exact .inl c4
                  · exact .inr (by omega)
            rw [if_pos c4, if_pos c5]
            omega
          · rw [if_neg c4]
            split <;> omega

theorem toM_lr (p : Int) : ∀ (m : List Rg) (last sh : Int), rightG last m = true → toM p false sh m ≤ toM p true sh m
  | [], last, sh, _ => by simp only [toM]; omega
  | r :: m, last, sh, hr => by
    obtain ⟨h1, h2, h3⟩ := rightG_cons hr
    unfold Rg.ok at h1
    simp only [toM]
    split
    · exact toM_lr p m _ _ h3
    · split
      · omega
      · have : side r p false = true → side r p true = true := by
          simp only [side]
          split
          · intro h; cases h
          · split
            · intro h; cases h
            · simp
        by_cases c : side r p false = true
        · rw [if_pos c, if_pos (this c)]; omega
        · rw [if_neg c]; split <;> omega

theorem toM_end (right : Bool) (e : Int) : ∀ (m : List Rg) (sh : Int), (∀ r ∈ m, r.a + r.o < e) → toM e right sh m = e + sh + growsM m
  | [], sh, _ => by simp [toM, growsM]
  | r :: m, sh, h => by
    simp only [toM, growsM, if_pos (h r (by simp))]
    rw [toM_end right e m _ fun x hx => h x (by simp [hx])]
    omega

theorem toM_skip (right : Bool) (pos : Int) : ∀ (pre suf : List Rg) (sh : Int), (∀ r ∈ pre, r.a + r.o < pos) → toM pos right sh (pre ++ suf) = toM pos right (sh + growsM pre) suf
  | [], suf, sh, _ => by simp [growsM]
  | r :: pre, suf, sh, h => by
    simp only [List.cons_append, toM, if_pos (h r (by simp)), growsM]
    rw [toM_skip right pos pre suf _ fun x hx => h x (by simp [hx])]
    congr 1
    omega

/-- Behind a range all others lie behind it. -/
theorem rightG_after : ∀ (m : List Rg) (last : Int), rightG last m = true → ∀ r ∈ m, last < r.a
  | [], _, _ => by simp
  | r :: m, last, h => by
    obtain ⟨h1, h2, h3⟩ := rightG_cons h
    unfold Rg.ok at h1
    intro x hx
    rcases List.mem_cons.1 hx with rfl | hx
    · exact h2
    · have := rightG_after m _ h3 x hx
      omega

theorem rightG_suf : ∀ (pre suf : List Rg) (last : Int), rightG last (pre ++ suf) = true → ∃ last', rightG last' suf = true
  | [], suf, last, h => ⟨last, h⟩
  | r :: pre, suf, last, h => rightG_suf pre suf _ (rightG_cons h).2.2

theorem lostM_at (pos : Int) (pre suf : List Rg) (r : Rg) (last : Int) (h : rightG last (pre ++ r :: suf) = true) (hpre : ∀ x ∈ pre, x.a + x.o < pos) (hr : pos ≤ r.a + r.o) : lostM pos (pre ++ r :: suf) = (decide (r.a < pos) && decide (pos < r.a + r.o)) := by
  obtain ⟨last', h'⟩ := rightG_suf pre _ _ h
  have h3 := rightG_after suf _ (rightG_cons h').2.2
  have e1 : pre.any (fun r => decide (r.a < pos) && decide (pos < r.a + r.o)) = false := by
    rw [List.any_eq_false]
    intro x hx
    have := hpre x hx
    simp only [Bool.and_eq_true, decide_eq_true_eq]
    omega
  have e2 : suf.any (fun r => decide (r.a < pos) && decide (pos < r.a + r.o)) = false := by
    rw [List.any_eq_false]
    intro x hx
    have := h3 x hx
    simp only [Bool.and_eq_true, decide_eq_true_eq]
    omega
  simp only [lostM, List.any_append, List.any_cons, e1, e2, Bool.false_or, Bool.or_false]

theorem toM_at (right : Bool) (pos : Int) (pre suf : List Rg) (r : Rg) (hpre : ∀ x ∈ pre, x.a + x.o < pos) (h1 : r.a ≤ pos) (h2 : pos ≤ r.a + r.o) : toM pos right 0 (pre ++ r :: suf) = if side r pos right = true then r.a + growsM pre + r.n else r.a + growsM pre := by
  rw [toM_skip right pos pre _ 0 hpre]
  simp only [toM, if_neg (show ¬ r.a + r.o < pos by omega), if_neg (show ¬ r.a > pos by omega), Int.zero_add]

theorem toM_gap (right : Bool) (pos : Int) (pre suf : List Rg) (last : Int) (h : rightG last (pre ++ suf) = true) (hpre : ∀ x ∈ pre, x.a + x.o < pos) (hsuf : ∀ x ∈ suf, pos < x.a) : toM pos right 0 (pre ++ suf) = pos + growsM pre := by
  rw [toM_skip right pos pre _ 0 hpre]
  cases suf with
  | nil => simp [toM]
  | cons r suf =>
    obtain ⟨last', h'⟩ := rightG_suf pre _ _ h
    have h1 := (rightG_cons h').1
    have h2 := hsuf r (by simp)
    unfold Rg.ok at h1
    simp only [toM, if_neg (show ¬ r.a + r.o < pos by omega), if_pos (show r.a > pos by omega), Int.zero_add]

end Go.Proofs.Ytafcbjepmjcpgaa
