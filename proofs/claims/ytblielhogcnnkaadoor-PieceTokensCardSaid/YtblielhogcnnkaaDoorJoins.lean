/- Nodes joined, plainly. -/
import Derived.Test.YtblielhogcnnkaaDoorForm
namespace Go.Proofs.YtblielhogcnnkaaDoor
set_option linter.unusedSimpArgs false
set_option linter.unusedVariables false
open Go

/-! ### Joined piece by piece -/
theorem joinStep_two (p : List api_Node) (x n : api_Node) (hx : isT x = true) (hn : isT n = true) (hm : x.Marks = n.Marks) (ha : x.Attrs = n.Attrs) (hk : x.Kids = n.Kids) : joinStep (joinStep p x) n = joinStep p { n with Text := x.Text ++ n.Text } := by
  have hkd : x.Kind = n.Kind := by
    have h1 : x.Kind = sText := by simpa [isT] using hx
    have h2 : n.Kind = sText := by simpa [isT] using hn
    rw [h1, h2]
  have hxn : ({ n with Text := x.Text ++ n.Text } : api_Node).Marks = n.Marks := rfl
  have hnt : isT { n with Text := x.Text ++ n.Text } = true := hn
  by_cases hx0 : x.Text = []
  · have e1 : joinStep p x = p := by unfold joinStep; simp [hx, hx0]
    have e2 : ({ n with Text := x.Text ++ n.Text } : api_Node) = n := by cases n; simp [hx0]
    rw [e1, e2]
  · by_cases hn0 : n.Text = []
    · have e1 : ∀ o, joinStep o n = o := fun o => by unfold joinStep; simp [hn, hn0]
      have e2 : ({ n with Text := x.Text ++ n.Text } : api_Node) = x := by cases x; cases n; simp_all
      rw [e1, e2]
    · have hxn0 : (({ n with Text := x.Text ++ n.Text } : api_Node).Text == []) = false := by simp [hx0]
      have hx0' : (x.Text == []) = false := by simpa using hx0
      have hn0' : (n.Text == []) = false := by simpa using hn0
      rcases snoc_cases p with rfl | ⟨p, y, rfl⟩
      · rw [joinStep_nil, joinStep_nil]
        simp only [hx0', Bool.and_false, Bool.false_eq_true, if_false, hxn0]
        have := joinStep_snoc [] x n
        rw [List.nil_append] at this
        rw [this]
        simp [hn, hx, hn0', hm]
      · rw [joinStep_snoc, joinStep_snoc]
        simp only [hx0', Bool.and_false, Bool.false_eq_true, if_false, hxn0, hx, hnt, Bool.true_and]
        by_cases hc : (isT y && decide (y.Marks = n.Marks)) = true
        · have hc' : (isT y && decide (y.Marks = x.Marks)) = true := by rw [hm]; exact hc
          rw [if_pos hc', if_pos hc, joinStep_snoc]
          have hxt : ∀ m, isT { x with Text := y.Text ++ x.Text, Marks := m } = true := fun _ => hx
          simp [hn, hn0', hxt, hm, List.append_assoc]
        · have hc' : ¬ (isT y && decide (y.Marks = x.Marks)) = true := by rw [hm]; exact hc
          rw [if_neg hc', if_neg hc]
          have := joinStep_snoc (p ++ [y]) x n
          rw [List.append_assoc] at this
          rw [List.singleton_append] at this
          rw [this]
          simp [hn, hx, hn0', hm]

theorem snoc_ind {α : Type} {p : List α → Prop} (h0 : p []) (h1 : ∀ l x, p l → p (l ++ [x])) (l : List α) : p l := by
  have key : ∀ m : List α, p m.reverse := by
    intro m
    induction m with
    | nil => exact h0
    | cons x m ih => rw [List.reverse_cons]; exact h1 _ _ ih
  have := key l.reverse
  rwa [List.reverse_reverse] at this

/-- Texts that hold no attributes, and no kids. -/
def Plain (n : api_Node) : Prop := isT n = true → n.Attrs = [] ∧ n.Kids = []
theorem joinStep_plain {o : List api_Node} {n : api_Node} (ho : ∀ x ∈ o, Plain x) (hn : Plain n) : ∀ x ∈ joinStep o n, Plain x := by
  rcases snoc_cases o with rfl | ⟨o, y, rfl⟩
  · rw [joinStep_nil]
    split
    · simp
    · simpa using hn
  · rw [joinStep_snoc]
    split
    · exact ho
    · split
      · intro x hx
        rcases List.mem_append.1 hx with hx | hx
        · exact ho x (by simp [hx])
        · simp at hx; subst hx; exact hn
      · intro x hx
        rcases List.mem_append.1 hx with hx | hx
        · exact ho x (by simp [hx])
        · simp at hx
          rcases hx with rfl | rfl
          · exact ho x (by simp)
          · exact hn
theorem fold_plain : ∀ (l o : List api_Node), (∀ x ∈ o, Plain x) → (∀ x ∈ l, Plain x) → ∀ x ∈ l.foldl joinStep o, Plain x
  | [], o, ho, _ => ho
  | n :: l, o, ho, hl => fold_plain l _ (joinStep_plain ho (hl n (by simp))) fun x hx => hl x (by simp [hx])
theorem fold_join (o l : List api_Node) (hl : ∀ x ∈ l, Plain x) : (joinR l).foldl joinStep o = l.foldl joinStep o := by
  have key : ∀ (l o : List api_Node), (∀ x ∈ l, Plain x) → (l.foldl joinStep []).foldl joinStep o = l.foldl joinStep o := by
    intro l
    induction l using snoc_ind with
    | h0 => intro o _; rfl
    | h1 l n ih =>
      intro o h
      have ih' := ih o fun x hx => h x (by simp [hx])
      have hn := h n (by simp)
      have hpl := fold_plain l [] (by simp) fun x hx => h x (by simp [hx])
      rw [List.foldl_append, List.foldl_append, List.foldl_cons, List.foldl_nil, List.foldl_cons, List.foldl_nil, ← ih']
      generalize l.foldl joinStep [] = m at hpl
      rcases snoc_cases m with rfl | ⟨m, x, rfl⟩
      · rw [joinStep_nil]
        by_cases hc : (isT n && n.Text == []) = true
        · rw [if_pos hc]
          have : joinStep o n = o := by unfold joinStep; rw [if_pos hc]
          simp [this]
        · rw [if_neg hc]; rfl
      · rw [joinStep_snoc]
        by_cases hc : (isT n && n.Text == []) = true
        · rw [if_pos hc]
          have : ∀ o, joinStep o n = o := fun o => by unfold joinStep; rw [if_pos hc]
          rw [this]
        · rw [if_neg hc]
          by_cases hd : (isT n && isT x && decide (x.Marks = n.Marks)) = true
          · rw [if_pos hd]
            simp only [Bool.and_eq_true, decide_eq_true_eq] at hd
            obtain ⟨⟨h1, h2⟩, h3⟩ := hd
            have hx := hpl x (by simp) h2
            have hn' := hn h1
            rw [List.foldl_append, List.foldl_append, List.foldl_cons, List.foldl_nil, List.foldl_cons, List.foldl_nil]
            rw [joinStep_two _ x n h2 h1 h3 (by rw [hx.1, hn'.1]) (by rw [hx.2, hn'.2])]
          · rw [if_neg hd]
            have e : m ++ [x, n] = (m ++ [x]) ++ [n] := by simp
            rw [e, List.foldl_append]
            rfl
  exact key l o hl
theorem joinR_parts (a b : List api_Node) (ha : ∀ x ∈ a, Plain x) (hb : ∀ x ∈ b, Plain x) : joinR (joinR a ++ joinR b) = joinR (a ++ b) := by
  have e1 : joinR (joinR a ++ joinR b) = (joinR b).foldl joinStep ((joinR a).foldl joinStep []) := by unfold joinR; rw [List.foldl_append]
  have e2 : joinR (a ++ b) = b.foldl joinStep (a.foldl joinStep []) := by unfold joinR; rw [List.foldl_append]
  rw [e1, e2, fold_join _ b hb, fold_join _ a ha]
theorem joinR_two (a : List api_Node) (ha : ∀ x ∈ a, Plain x) : joinR (joinR a) = joinR a := fold_join [] a ha

end Go.Proofs.YtblielhogcnnkaaDoor
