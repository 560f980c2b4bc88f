/- What is made is right in a document; sizes and words of what is joined. -/
import Derived.Test.YtblielhogcnnkaaDoorNodeShown
namespace Go.Proofs.YtblielhogcnnkaaDoor
set_option linter.unusedSimpArgs false
set_option linter.unusedVariables false
open Go

theorem form_doc {ks : List api_Node} (h : ∀ x ∈ ks, MN x) (hj : AdjOk ks) : formB ⟨sDoc, [], [], [], ks⟩ = true := by
  rw [formB_eq]
  have hkk : isT (⟨sDoc, [], [], [], ks⟩ : api_Node) = false := rfl
  have h1 : isName sDoc = true := by decide +kernel
  have h2 := adj_bs ks none (fun x hx => form_mn (h x hx)) hj (fun x y hx => by cases hx)
  have h3 : riseB [] = true := rfl
  simp [hkk, h1, h2, h3]
theorem doc_right {ks : List api_Node} (h : Kids ks) : checkN ⟨sDoc, [], [], [], ks⟩ = 0 := by
  have hf := form_doc h.mn h.adj
  have hd := depNs_le ks fun n _ => depN_le n
  have hs := nsizes_le' ks
  have hw := h.wt
  have hdp := h.dep
  have e1 : depN ⟨sDoc, [], [], [], ks⟩ = depNs ks + 1 := by rw [depN_eq]; rfl
  have e2 : nsize ⟨sDoc, [], [], [], ks⟩ = 2 + nsizes ks := by rw [nsize_eq]; rfl
  unfold checkN
  rw [hf, e1, e2, if_neg (by simp), if_neg (by omega), if_neg (by omega)]

/-! ### Words -/
/-! ### Sizes -/
theorem rn_fuel : ∀ (f g : Nat) (s : Str), s.length ≤ f → s.length ≤ g → rn f s = rn g s
  | 0, g, s, h, _ => by
    have : s = [] := List.eq_nil_of_length_eq_zero (by omega)
    subst this
    cases g <;> simp [rn]
  | f + 1, 0, s, _, h => by
    have : s = [] := List.eq_nil_of_length_eq_zero (by omega)
    subst this
    simp [rn]
  | f + 1, g + 1, s, h1, h2 => by
    unfold rn
    by_cases hne : s = []
    · rw [if_pos hne, if_pos hne]
    · have hw := Lib.decodeL_width s
      have hl := List.length_pos_iff.2 hne
      rw [if_neg hne, if_neg hne, rn_fuel f g _ (by simp; omega) (by simp; omega)]
theorem rlen_step (s t : Str) (hne : s ≠ []) (ht : s.drop (Lib.decodeL s).2 = t) : rlen s = 1 + rlen t := by
  rw [← runes_cnt, ← runes_cnt, runes_eq, runes_eq]
  have hw := Lib.decodeL_width s
  have hl := List.length_pos_iff.2 hne
  have e : rn s.length s = ((Lib.decodeL s).1 : Int) :: rn t.length t := by
    obtain ⟨f, hf⟩ : ∃ f, s.length = f + 1 := ⟨s.length - 1, by omega⟩
    rw [hf, rn, if_neg hne, ht, rn_fuel f t.length t (by rw [← ht]; simp; omega) (Nat.le_refl _)]
  rw [e, List.length_cons]
  omega
theorem rlen_text {x : Str} (hx : x ∈ mTexts) (s : Str) : rlen (x ++ s) = rlen x + rlen s := by
  have h0 : rlen [] = 0 := rfl
  have one : ∀ (b : UInt8) (t : Str), b.toNat < 128 → rlen (b :: t) = 1 + rlen t := fun b t h => rlen_step _ _ (by simp) (by
    have : (Lib.decodeL (b :: t)).2 = 1 := by rw [Lib.decodeL_N]; simp [Lib.decodeN, h]
    rw [this]; rfl)
  have two : ∀ (a b : UInt8) (t : Str), (Lib.decodeL (a :: b :: t)).2 = 2 → rlen (a :: b :: t) = 1 + rlen t := fun a b t h => rlen_step _ _ (by simp) (by rw [h]; rfl)
  have three : ∀ (a b c : UInt8) (t : Str), (Lib.decodeL (a :: b :: c :: t)).2 = 3 → rlen (a :: b :: c :: t) = 1 + rlen t := fun a b c t h => rlen_step _ _ (by simp) (by rw [h]; rfl)
  simp only [mTexts, List.mem_cons, List.not_mem_nil, or_false] at hx
  rcases hx with rfl | rfl | rfl | rfl | rfl
  · simp only [List.cons_append, List.nil_append]
    rw [one _ _ (by decide), one _ [] (by decide), h0]
  · simp only [List.cons_append, List.nil_append]
    rw [one _ _ (by decide), one _ s (by decide), one _ [_] (by decide), one _ [] (by decide), h0]
    omega
  · simp only [List.cons_append, List.nil_append]
    rw [two _ _ _ (by rw [Lib.decodeL_N]; simp [Lib.decodeN]), two _ _ [] (by rw [Lib.decodeL_N]; simp [Lib.decodeN]), h0]
  · simp only [List.cons_append, List.nil_append]
    rw [one _ _ (by decide), one _ (_ :: s) (by decide), one _ s (by decide), one _ [_, _] (by decide), one _ [_] (by decide), one _ [] (by decide), h0]
    omega
  · simp only [List.cons_append, List.nil_append]
    rw [three _ _ _ _ (by rw [Lib.decodeL_N]; simp [Lib.decodeN]), three _ _ _ s (by rw [Lib.decodeL_N]; simp [Lib.decodeN]), three _ _ _ [_, _, _] (by rw [Lib.decodeL_N]; simp [Lib.decodeN]), three _ _ _ [] (by rw [Lib.decodeL_N]; simp [Lib.decodeN]), h0]
    omega
theorem rlen_mtext {t : Str} (h : MText t) (s : Str) : rlen (t ++ s) = rlen t + rlen s := by
  obtain ⟨_, l, hl, rfl⟩ := h
  have key : ∀ l : List Str, (∀ x ∈ l, x ∈ mTexts) → rlen (l.flatten ++ s) = rlen l.flatten + rlen s := by
    intro l
    induction l with
    | nil => intro _; have : rlen [] = 0 := rfl; simp [this]
    | cons x l ih =>
      intro hl
      rw [List.flatten_cons, List.append_assoc, rlen_text (hl x (by simp)), rlen_text (hl x (by simp)), ih fun y hy => hl y (by simp [hy])]
      omega
  exact key l hl
theorem joinStep_size (o : List api_Node) (n : api_Node) (ho : ∀ x ∈ o, MN x) : nsizes (joinStep o n) = nsizes o + nsize n := by
  have h0 : rlen [] = 0 := rfl
  rcases snoc_cases o with rfl | ⟨p, x, rfl⟩
  · rw [joinStep_nil]
    split
    · rename_i h
      simp only [Bool.and_eq_true, beq_iff_eq] at h
      rw [nsize_eq, if_pos h.1, h.2, h0]
      rfl
    · simp [nsizes]
  · rw [joinStep_snoc]
    split
    · rename_i h
      simp only [Bool.and_eq_true, beq_iff_eq] at h
      rw [nsize_eq n, if_pos h.1, h.2, h0]
      rfl
    · split
      · rename_i h
        simp only [Bool.and_eq_true] at h
        have e1 : isT ({ n with Text := x.Text ++ n.Text } : api_Node) = true := h.1.1
        have hx : MText x.Text := by
          have := ho x (by simp)
          cases this with
          | text t m ht hm => exact ht
          | node k a ks hk ha hs hj =>
            have hkk : isT (⟨k, [], [], a, ks⟩ : api_Node) = false := mn_kind hk
            rw [hkk] at h
            cases h.1.2
        simp only [nsizes_app, nsizes]
        rw [nsize_eq { n with Text := x.Text ++ n.Text }, if_pos e1, nsize_eq x, if_pos h.1.2, nsize_eq n, if_pos h.1.1]
        have := rlen_mtext hx n.Text
        simp only [Nat.add_zero]
        omega
      · simp only [nsizes_app, nsizes]; omega
theorem fold_size : ∀ (l o : List api_Node), (∀ x ∈ o, MN x) → AdjOk o → (∀ x ∈ l, MN x) → nsizes (l.foldl joinStep o) = nsizes o + nsizes l
  | [], o, _, _, _ => by simp [nsizes]
  | n :: l, o, h, hj, hl => by
    obtain ⟨h1, h2⟩ := joinStep_ok o n h hj (hl n (by simp))
    rw [List.foldl_cons, fold_size l _ h1 h2 (fun x hx => hl x (by simp [hx])), joinStep_size o n h, nsizes]
    omega
theorem joinR_size (l : List api_Node) (hl : ∀ x ∈ l, MN x) : nsizes (joinR l) = nsizes l := by
  have := fold_size l [] (by simp) trivial hl
  simpa [joinR, nsizes] using this

end Go.Proofs.YtblielhogcnnkaaDoor
