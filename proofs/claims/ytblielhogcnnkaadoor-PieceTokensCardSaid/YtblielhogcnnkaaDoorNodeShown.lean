/- Chapter 1's example; made texts are valid; what is the same as itself. -/
import Derived.Test.YtblielhogcnnkaaDoorJoins
import Derived.Test.YtblielhogcnnkaaDoorMade
import Derived.Test.YtblielhogcnnkaaDoorUtf
namespace Go.Proofs.YtblielhogcnnkaaDoor
set_option linter.unusedSimpArgs false
set_option linter.unusedVariables false
open Go

theorem valid_pre {x : Str} (hx : x ∈ mTexts) (s : Str) : Lib.validD (x ++ s) = Lib.validD s := by
  simp only [mTexts, List.mem_cons, List.not_mem_nil, or_false] at hx
  have two : ∀ a b : UInt8, ∀ s, (Lib.decodeL (a :: b :: s)).2 = 2 → Lib.validD (a :: b :: s) = Lib.validD s := fun a b s h => by
    rw [Lib.validD_step _ (by simp), h]; simp
  have three : ∀ a b c : UInt8, ∀ s, (Lib.decodeL (a :: b :: c :: s)).2 = 3 → Lib.validD (a :: b :: c :: s) = Lib.validD s := fun a b c s h => by
    rw [Lib.validD_step _ (by simp), h]; simp
  rcases hx with rfl | rfl | rfl | rfl | rfl
  · exact Lib.validD_cons _ _ (by decide)
  · rw [List.cons_append, List.cons_append, Lib.validD_cons _ _ (by decide), Lib.validD_cons _ _ (by decide)]; rfl
  · refine two _ _ _ ?_
    rw [Lib.decodeL_N]; simp [Lib.decodeN]
  · rw [List.cons_append, List.cons_append, List.cons_append, Lib.validD_cons _ _ (by decide), Lib.validD_cons _ _ (by decide), Lib.validD_cons _ _ (by decide)]; rfl
  · rw [List.cons_append, List.cons_append, List.cons_append, three _ _ _ _ (by rw [Lib.decodeL_N]; simp [Lib.decodeN])]
    refine three _ _ _ _ ?_
    rw [Lib.decodeL_N]; simp [Lib.decodeN]
theorem valid_mtext {t : Str} (h : MText t) : Lib.validD t = true := by
  obtain ⟨hne, l, hl, rfl⟩ := h
  clear hne
  induction l with
  | nil => exact Lib.validD_nil
  | cons x l ih =>
    rw [List.flatten_cons, valid_pre (hl x (by simp))]
    exact ih fun y hy => hl y (by simp [hy])

/-! ### What is made is well formed -/
theorem name_kind {k : Str} (h : k ∈ mKinds) : isName k = true := by
  simp only [mKinds, List.mem_cons, List.not_mem_nil, or_false] at h
  rcases h with rfl | rfl | rfl | rfl <;> decide +kernel
theorem rise_marks {m : List Str} (h : MMarks m) : riseB m = true := by
  rcases h with rfl | rfl | rfl <;> decide +kernel
theorem value_text {v : Str} (h : v ∈ mTexts) : isValue v = true := by
  have h1 := valid_mtext (mtext_one h)
  have h2 := text_w h
  simp [isValue, h1]; omega
theorem adj_bs : ∀ (l : List api_Node) (last : Option api_Node), (∀ x ∈ l, formB x = true) → AdjOk l → (∀ x y, last = some x → l.head? = some y → alikeB x y = false) → formBs last l = true
  | [], last, _, _, _ => formBs_nil last
  | y :: l, last, hf, hj, hl => by
    rw [formBs_cons, hf y (by simp)]
    have h2 : formBs (some y) l = true := by
      refine adj_bs l (some y) (fun x hx => hf x (by simp [hx])) ?_ ?_
      · cases l with
        | nil => trivial
        | cons z l => exact hj.2
      · intro x z hx hz
        cases hx
        cases l with
        | nil => cases hz
        | cons z' l => cases hz; exact hj.1
    rw [h2]
    cases last with
    | none => rfl
    | some x => simp [hl x y rfl rfl]
theorem form_mn {n : api_Node} (h : MN n) : formB n = true := by
  induction h with
  | text t m ht hm =>
    rw [formB_eq]
    have h1 := valid_mtext ht
    have h2 := rise_marks hm
    have h3 := ht.1
    simp [isT, h1, h2, h3]
  | node k a ks hk ha hs hj ih =>
    rw [formB_eq]
    have hkk : isT (⟨k, [], [], a, ks⟩ : api_Node) = false := mn_kind hk
    have h1 := name_kind hk
    have h2 := adj_bs ks none ih hj (fun x y hx => by cases hx)
    have h3 : a.all (fun x => isValue x.Value) = true ∧ riseB (a.map (·.Name)) = true := by
      rcases ha with rfl | ⟨v, hv, rfl⟩
      · exact ⟨rfl, rfl⟩
      · refine ⟨by simp [value_text hv], ?_⟩
        show riseB [sAlign] = true
        decide +kernel
    simp [hkk, h1, h2, h3.1, h3.2]
theorem forms_kids {n : api_Node} (h : formB n = true) (ht : isT n = false) : ∀ k ∈ n.Kids, formB k = true := by
  have key : ∀ (l : List api_Node) (last : Option api_Node), formBs last l = true → ∀ k ∈ l, formB k = true := by
    intro l
    induction l with
    | nil => simp
    | cons y l ih =>
      intro last h k hk
      rw [formBs_cons, Bool.and_eq_true, Bool.and_eq_true] at h
      rcases List.mem_cons.1 hk with rfl | hk
      · exact h.1.1
      · exact ih _ h.2 k hk
  rw [formB_eq, if_neg (by simp [ht])] at h
  simp only [Bool.and_eq_true] at h
  exact key _ _ h.2

/-! ### The same -/
end Go.Proofs.YtblielhogcnnkaaDoor
