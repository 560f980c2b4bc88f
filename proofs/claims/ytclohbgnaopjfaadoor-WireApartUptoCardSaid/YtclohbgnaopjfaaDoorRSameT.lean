/- When two nodes are the same, plainly: the reference's answer. -/
import Derived.Test.YtclohbgnaopjfaaDoorTells
import Derived.Test.YtclohbgnaopjfaaDoorRSame
namespace Go.Proofs.YtclohbgnaopjfaaDoor
set_option linter.unusedSimpArgs false
set_option linter.unusedVariables false
open Go

theorem req_l0 (b : api_Node) : ∀ (suf pre tb pb : List api_Attr) (i : Int), i = (pre.length : Int) → b.Attrs = pb ++ tb → pb.length = pre.length → suf.length = tb.length → diptychref1_Same_l0 b suf i = some (if suf = tb then .inr () else .inl false)
  | [], pre, tb, pb, i, hi, hb, hl, hs => by
    have : tb = [] := List.eq_nil_of_length_eq_zero (by simpa using hs.symm)
    subst this
    simp [diptychref1_Same_l0]
  | y :: suf, pre, [], pb, i, hi, hb, hl, hs => by simp at hs
  | y :: suf, pre, x :: tb, pb, i, hi, hb, hl, hs => by
    simp only [List.length_cons] at hs
    have hx : rd b.Attrs (pre.length : Int) = some x := by rw [hb, ← hl]; exact rd_mid _ _ _
    rw [diptychref1_Same_l0, hi, hx]
    simp only [Option.bind_some]
    by_cases e : y = x
    · subst e
      simp only [beq_self_eq_true, Bool.and_self, bne_self_eq_false, Bool.false_eq_true, if_false]
      rw [req_l0 b suf (pre ++ [y]) tb (pb ++ [y]) _ (by simp) (by simp [hb]) (by simp [hl]) (by omega)]
      simp
    · have g : (((y.Name == x.Name) && (y.Value == x.Value)) != true) = true := by
        rw [bne_iff_ne, ne_eq, Bool.and_eq_true, beq_iff_eq, beq_iff_eq]
        rintro ⟨h1, h2⟩
        apply e
        cases y; cases x
        simp_all
      rw [if_pos g, if_neg (by simp [e])]
theorem rqn_l0 (f : api_Node → api_Node → Option Bool) (b : List api_Node) : ∀ (suf pre : List api_Node) (i : Int), i = (pre.length : Int) → b.length = pre.length + suf.length → b.take pre.length = pre → (∀ x ∈ suf, ∀ y, Tells (f x y) (x = y)) → ∃ r, diptychref1_SameAll_l0 b f suf i = some r ∧ ((r = .inr () ∧ pre ++ suf = b) ∨ (r = .inl false ∧ pre ++ suf ≠ b))
  | [], pre, i, hi, hl, ht, _ => by
    have : pre = b := by
      rw [← ht, List.take_of_length_le]
      simp at hl; omega
    exact ⟨_, rfl, .inl ⟨rfl, by simp [this]⟩⟩
  | y :: suf, pre, i, hi, hl, ht, hf => by
    simp only [List.length_cons] at hl
    obtain ⟨x, hx⟩ : ∃ x, b[pre.length]? = some x := ⟨b[pre.length], List.getElem?_eq_getElem (by omega)⟩
    rw [diptychref1_SameAll_l0, hi, rd_nat hx]
    simp only [Option.bind_some]
    have htk : b.take (pre.length + 1) = pre ++ [x] := by
      rw [List.take_add_one, ht, hx]
      rfl
    by_cases hxy : y = x
    · subst hxy
      rw [(hf y (by simp) y).yes rfl]
      simp only [Option.bind_some, Bool.not_true, Bool.false_eq_true, if_false]
      obtain ⟨r, h1, h2⟩ := rqn_l0 f b suf (pre ++ [y]) ((pre.length : Int) + 1) (by simp) (by simp; omega) (by simpa using htk) fun z hz => hf z (by simp [hz])
      exact ⟨r, h1, by simpa using h2⟩
    · have hn : ¬ pre ++ y :: suf = b := by
        intro h
        rw [← h] at hx
        simp at hx
        exact hxy hx
      rw [(hf y (by simp) x).no hxy]
      exact ⟨_, rfl, .inr ⟨rfl, hn⟩⟩
theorem rsame_kt (n : api_Node) : nwt n ≤ 1099511627776 → ∀ kr, 2 * ndep n ≤ kr → ∀ m, Tells (diptychref1_Same_k kr n m) (n = m) := by
  induction n using api_Node.ind with
  | h n ih =>
    intro hw kr hk m
    have hd := ndep_eq n
    obtain ⟨kr, rfl⟩ : ∃ j, kr = j + 1 + 1 := ⟨kr - 2, by omega⟩
    have hwt := nwt_eq n
    have hl := nwts_len n.Kids
    have hs := strsW_n n.Marks
    have ha := attrsW_n n.Attrs
    have key : n = m ↔ n.Kind = m.Kind ∧ n.Text = m.Text ∧ n.Marks = m.Marks ∧ n.Attrs = m.Attrs ∧ n.Kids = m.Kids := by
      cases n; cases m; simp
    rw [diptychref1_Same_k]
    by_cases h1 : n.Kind = m.Kind
    · rw [if_neg (by simp [h1])]
      by_cases h2 : n.Text = m.Text
      · rw [if_neg (by simp [h2]), sameNames_eq _ _ (by omega)]
        simp only [Option.bind_some]
        by_cases h3 : n.Marks = m.Marks
        · rw [if_neg (by simp [h3])]
          by_cases hal : n.Attrs.length = m.Attrs.length
          · rw [if_neg (by simp [hal]), chk_eq (by omega), req_l0 m n.Attrs [] m.Attrs [] 0 rfl rfl rfl hal]
            by_cases h4 : n.Attrs = m.Attrs
            · rw [if_pos h4]
              simp only [Option.bind_some]
              rw [diptychref1_SameAll_k]
              by_cases hkl : n.Kids.length = m.Kids.length
              · rw [if_neg (by simp [hkl])]
                obtain ⟨r, e5, h5⟩ := rqn_l0 (diptychref1_Same_k kr) m.Kids n.Kids [] 0 rfl (by simp [hkl]) (by simp) fun k hkk y => ih k hkk (by have := nwt_mem hkk; omega) kr (by have := ndep_mem hkk; omega) y
                rw [chk_eq (by omega), e5]
                simp only [List.nil_append] at h5
                rcases h5 with ⟨rfl, h5⟩ | ⟨rfl, h5⟩
                · exact ⟨true, rfl, by simp [key, h1, h2, h3, h4, h5]⟩
                · exact ⟨false, rfl, by simp [key, h5]⟩
              · have g : ((n.Kids.length : Int) != (m.Kids.length : Int)) = true := by simp; omega
                rw [if_pos g]
                exact ⟨false, rfl, by
                  simp only [Bool.false_eq_true, false_iff]
                  rintro rfl
                  exact hkl rfl⟩
            · rw [if_neg h4]
              exact ⟨false, rfl, by simp [key, h4]⟩
          · have g : ((n.Attrs.length : Int) != (m.Attrs.length : Int)) = true := by simp; omega
            rw [if_pos g]
            exact ⟨false, rfl, by
              simp only [Bool.false_eq_true, false_iff]
              rintro rfl
              exact hal rfl⟩
        · rw [if_pos (by simp [h3])]
          exact ⟨false, rfl, by simp [key, h3]⟩
      · rw [if_pos (by simp [h2])]
        exact ⟨false, rfl, by simp [key, h2]⟩
    · rw [if_pos (by simp [h1])]
      exact ⟨false, rfl, by simp [key, h1]⟩
theorem rsame_tells (n m : api_Node) (h : nwt n ≤ 1099511627776) : Tells (diptychref1_Same n m) (n = m) := by
  by_cases e : n = m
  · refine ⟨true, ?_, by simp [e]⟩
    unfold diptychref1_Same
    exact lim_of (2 * ndep n) fun k hk => (rsame_kt n h k hk m).yes e
  · refine ⟨false, ?_, by simp [e]⟩
    unfold diptychref1_Same
    exact lim_of (2 * ndep n) fun k hk => (rsame_kt n h k hk m).no e

theorem rsameAll_tells (l m : List api_Node) (h : nwts l ≤ 1099511627776) : Tells (diptychref1_SameAll l m) (l = m) := by
  have key : ∀ kr, 2 * ndeps l ≤ kr → Tells (diptychref1_SameAll_k (kr + 1) l m) (l = m) := by
    intro kr hk
    have hl := nwts_len l
    rw [diptychref1_SameAll_k]
    by_cases he : l.length = m.length
    · rw [if_neg (by simp [he]), chk_eq (by omega)]
      obtain ⟨r, h1, h2⟩ := rqn_l0 (diptychref1_Same_k kr) m l [] 0 rfl (by simp [he]) (by simp) (fun x hx y => rsame_kt x (by have := nwt_mem hx; omega) kr (by have := ndep_mem hx; omega) y)
      rw [h1]
      rcases h2 with ⟨rfl, h3⟩ | ⟨rfl, h3⟩
      · exact ⟨true, rfl, by simpa using h3⟩
      · exact ⟨false, rfl, by simpa using h3⟩
    · rw [if_pos (by simp; omega)]
      exact ⟨false, rfl, by
        simp only [Bool.false_eq_true, false_iff]
        rintro rfl
        exact he rfl⟩
  by_cases e : l = m
  · refine ⟨true, ?_, by simp [e]⟩
    unfold diptychref1_SameAll
    refine lim_of (2 * ndeps l + 1) fun k hk => ?_
    obtain ⟨k, rfl⟩ : ∃ j, k = j + 1 := ⟨k - 1, by omega⟩
    exact (key k (by omega)).yes e
  · refine ⟨false, ?_, by simp [e]⟩
    unfold diptychref1_SameAll
    refine lim_of (2 * ndeps l + 1) fun k hk => ?_
    obtain ⟨k, rfl⟩ : ∃ j, k = j + 1 := ⟨k - 1, by omega⟩
    exact (key k (by omega)).no e

end Go.Proofs.YtclohbgnaopjfaaDoor
