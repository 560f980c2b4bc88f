/- What is written is read: nodes. -/
import Derived.Test.YtihndopckmdpbaaDoorRead2
namespace Go.Proofs.YtihndopckmdpbaaDoor
set_option linter.unusedSimpArgs false
set_option linter.unusedVariables false
open Go

theorem isName_letters {s : Str} (h : isName s = true) : s.all letter = true := by
  unfold isName at h
  simp only [Bool.and_eq_true] at h
  exact h.1.1.1
theorem isName_ne {s : Str} (h : isName s = true) : s ≠ [] := by
  unfold isName at h
  simp only [Bool.and_eq_true, decide_eq_true_eq] at h
  exact h.1.1.2
theorem riseAfter_names : ∀ (l : List Str) (last : Option Str), riseAfter last l = true → ∀ y ∈ l, isName y = true
  | [], _, _, y, h => by cases h
  | x :: l, last, hr, y, h => by
    rw [riseAfter_cons] at hr
    simp only [Bool.and_eq_true] at hr
    rcases List.mem_cons.1 h with rfl | h
    · exact hr.1.1
    · exact riseAfter_names l _ hr.2 y h
theorem rise_letters {l : List Str} (h : riseB l = true) : ∀ y ∈ l, y.all letter = true := fun y hy => isName_letters (riseAfter_names l none h y hy)

theorem formed_text {n : api_Node} (h : formB n = true) (ht : isT n = true) : n = ⟨sText, n.Text, n.Marks, [], []⟩ ∧ riseB n.Marks = true := by
  rw [formB_eq, if_pos ht] at h
  simp only [Bool.and_eq_true, decide_eq_true_eq] at h
  obtain ⟨⟨⟨_, _⟩, h3⟩, h4⟩ := h
  have ha : n.Attrs = [] := List.eq_nil_of_length_eq_zero (by omega)
  have hk : n.Kids = [] := List.eq_nil_of_length_eq_zero (by omega)
  have hkind : n.Kind = sText := by
    unfold isT at ht
    simpa using ht
  refine ⟨?_, h3⟩
  cases n
  simp_all
theorem formed_node {n : api_Node} (h : formB n = true) (ht : isT n = false) : n = ⟨n.Kind, [], [], n.Attrs, n.Kids⟩ ∧ isName n.Kind = true ∧ riseB (n.Attrs.map (·.Name)) = true ∧ ∀ k ∈ n.Kids, formB k = true := by
  have hk : ∀ k ∈ n.Kids, formB k = true := by
    have key : ∀ (l : List api_Node) (last : Option api_Node), formBs last l = true → ∀ k ∈ l, formB k = true := by
      intro l
      induction l with
      | nil => simp
      | cons y l ih =>
        intro last h k hk
        rw [formBs_cons, Bool.and_eq_true, Bool.and_eq_true] at h
        rcases List.mem_cons.1 hk with rfl | hk
        · exact h.1.1
        · exact ih _ h.2 k hk
    rw [formB_eq, if_neg (by simp [ht])] at h
    simp only [Bool.and_eq_true] at h
    exact key _ _ h.2
  rw [formB_eq, if_neg (by simp [ht])] at h
  simp only [Bool.and_eq_true, decide_eq_true_eq] at h
  obtain ⟨⟨⟨⟨⟨_, h2⟩, h3⟩, h4⟩, h5⟩, h6⟩ := h
  refine ⟨?_, h2, h5, hk⟩
  cases n
  simp_all

/-- What a written node begins with. -/
theorem write_head {n : api_Node} (h : formB n = true) (t : Str) : ∃ c, (writeN n ++ t).head? = some c ∧ ((isT n = true ∧ c = 34) ∨ (isT n = false ∧ letter c = true)) := by
  rw [writeN_eq]
  cases ht : isT n with
  | true => exact ⟨34, by simp [qt], by simp⟩
  | false =>
    obtain ⟨_, h1, _, _⟩ := formed_node h ht
    have hne := isName_ne h1
    have hal := isName_letters h1
    unfold hd
    simp only [ht, Bool.false_eq_true, if_false]
    cases hk : n.Kind with
    | nil => exact (hne hk).elim
    | cons c k =>
      rw [hk] at hal
      simp only [List.all_cons, Bool.and_eq_true] at hal
      refine ⟨c, ?_, by simp [hal.1]⟩
      split <;> simp

theorem kids_l2 (f : codec_reader → Option (api_Node × codec_reader)) (t : Str) (ks : List api_Node) (acc : List api_Node) (k : Nat) (hf : ∀ n ∈ ks, formB n = true)
    (hr : ∀ n ∈ ks, ∀ t : Str, t.head? ≠ some 60 → (writeN n ++ t).length ≤ 1073741824 → f ⟨writeN n ++ t, false⟩ = some (n, ⟨t, false⟩)) (hb : (writeL ks ++ 93 :: t).length ≤ 1073741824) (ha : (acc.length + ks.length) * 104 ≤ 140737488355328) (hk : ks.length < k) :
    codec_reader_node_x_l2 f k acc ⟨writeL ks ++ 93 :: t, false⟩ = some (acc ++ ks, ⟨93 :: t, false⟩) := by
  induction ks generalizing acc k with
  | nil =>
    obtain ⟨k, rfl⟩ : ∃ j, k = j + 1 := ⟨k - 1, by simp at hk; omega⟩
    have e : writeL [] ++ 93 :: t = 93 :: t := by simp [writeL]
    rw [e, codec_reader_node_x_l2]
    have g : ((93 :: t : Str) == []) = false := by simp
    have g2 : ((((93 :: t : Str).getD (0 : Int).toNat 0).toNat : Int) == 93) = true := by simp [List.getD]
    simp only [Bool.false_eq_true, if_false, g, g2, if_true]
    rw [chk_eq ⟨by omega, by simp only [List.length_cons]; omega⟩]
    simp
  | cons n ks ih =>
    obtain ⟨k, rfl⟩ : ∃ j, k = j + 1 := ⟨k - 1, by simp at hk; omega⟩
    have e : writeL (n :: ks) ++ 93 :: t = writeN n ++ (writeL ks ++ 93 :: t) := by simp [writeL]
    rw [e] at hb ⊢
    clear e
    have hb2 : (writeL ks ++ 93 :: t).length ≤ 1073741824 := by rw [List.length_append] at hb; omega
    obtain ⟨c, hc, hor⟩ := write_head (hf n (by simp)) (writeL ks ++ 93 :: t)
    have hc93 : c ≠ 93 := by
      rintro rfl
      rcases hor with ⟨_, h⟩ | ⟨_, h⟩
      · cases h
      · revert h; decide
    have hnx : (writeL ks ++ 93 :: t).head? ≠ some 60 := by
      cases ks with
      | nil => simp [writeL]
      | cons m ks =>
        obtain ⟨d, hd', hor'⟩ := write_head (hf m (by simp)) (writeL ks ++ 93 :: t)
        have e : writeL (m :: ks) ++ 93 :: t = writeN m ++ (writeL ks ++ 93 :: t) := by simp [writeL]
        rw [e, hd']
        rintro h
        cases h
        rcases hor' with ⟨_, h⟩ | ⟨_, h⟩
        · cases h
        · revert h; decide
    have hrd := hr n (by simp) (writeL ks ++ 93 :: t) hnx hb
    obtain ⟨W, hW⟩ : ∃ W, W = writeN n ++ (writeL ks ++ 93 :: t) := ⟨_, rfl⟩
    rw [← hW] at hrd hc hb ⊢
    cases W with
    | nil => cases hc
    | cons b W =>
      simp only [List.head?_cons, Option.some.injEq] at hc
      subst hc
      have g : ((b :: W : Str) == []) = false := by simp
      have g2 : ((((b :: W : Str).getD (0 : Int).toNat 0).toNat : Int) == 93) = false := by
        rw [beq_eq_false_iff_ne]
        intro e
        have e' : (b.toNat : Int) = 93 := e
        exact hc93 (UInt8.toNat_inj.1 (by have h0 : (93 : UInt8).toNat = 93 := rfl; omega))
      rw [codec_reader_node_x_l2]
      simp only [Bool.false_eq_true, if_false, g, g2]
      rw [chk_eq ⟨by omega, by simp only [List.length_cons]; omega⟩, hrd]
      simp only [Option.bind_some]
      have hap : app 104 acc [n] = some (acc ++ [n]) := app_eq (Nat.le_trans (Nat.mul_le_mul_right 104 (by have h1 : [n].length = 1 := rfl; have h2 : (n :: ks).length = ks.length + 1 := rfl; omega)) ha)
      rw [hap]
      simp only [Option.bind_some]
      rw [ih (acc ++ [n]) k (fun m hm => hf m (List.mem_cons_of_mem _ hm)) (fun m hm => hr m (List.mem_cons_of_mem _ hm)) hb2 (by rw [show (acc ++ [n]).length + ks.length = acc.length + (n :: ks).length by simp; omega]; exact ha) (by simp only [List.length_cons] at hk; omega)]
      simp

end Go.Proofs.YtihndopckmdpbaaDoor
