/- What a right lens is: the program's answer. -/
import Derived.Test.YtpjdafhmneiohaaDoorLensSpec
namespace Go.Proofs.YtpjdafhmneiohaaDoor
set_option linter.unusedSimpArgs false
set_option linter.unusedVariables false
open Go

/-! ### Names, each once -/
def valsFrom : List Str → List Str → Bool
  | _, [] => true
  | pre, s :: r => isName s && !decide (s ∈ pre) && valsFrom (pre ++ [s]) r
def valsB (l : List Str) (least : Nat) : Bool := valsFrom [] l && decide (least ≤ l.length) && decide (l.length ≤ 6)
theorem index_l0 (v : Str) : ∀ (l : List Str) (i : Nat), ∃ r : Int ⊕ Unit, slices_Index_string_l0 v l (i : Int) = some r ∧ (match r with | .inl j => 0 ≤ j ∧ v ∈ l | .inr _ => v ∉ l)
  | [], i => ⟨.inr (), rfl, by simp⟩
  | y :: l, i => by
    rw [slices_Index_string_l0]
    by_cases h : v = y
    · exact ⟨.inl (i : Int), by simp [h], by omega, by simp [h]⟩
    · obtain ⟨r, h1, h2⟩ := index_l0 v l (i + 1)
      refine ⟨r, by rw [if_neg (by simpa using h)]; exact h1, ?_⟩
      cases r with
      | inl j => exact ⟨h2.1, by simp [h2.2]⟩
      | inr _ => simpa [h] using h2
theorem contains_eq (l : List Str) (v : Str) (h : l.length ≤ 9223372036854775807) : slices_Contains_string l v = some (decide (v ∈ l)) := by
  obtain ⟨r, h1, h2⟩ := index_l0 v l 0
  have h1' : slices_Index_string_l0 v l 0 = some r := h1
  unfold slices_Contains_string slices_Index_string
  rw [chk_eq h, h1']
  cases r with
  | inl j => simp [h2.1, h2.2]
  | inr _ =>
    have : v ∉ l := h2
    simp [this]
theorem values_l0 : ∀ (suf pre : List Str), (pre ++ suf).length ≤ 1099511627776 → (∀ s ∈ suf, s.length ≤ 1099511627776) → lens_values_l0 (pre ++ suf) suf (pre.length : Int) = some (sumB (valsFrom pre suf))
  | [], pre, _, _ => rfl
  | y :: suf, pre, hb, hs => by
    have hy := hs y (by simp)
    simp only [List.length_append, List.length_cons] at hb
    have ih := values_l0 suf (pre ++ [y]) (by simp; omega) fun s h => hs s (by simp [h])
    have e1 : pre ++ [y] ++ suf = pre ++ y :: suf := by simp
    have e2 : ((pre ++ [y]).length : Int) = (pre.length : Int) + 1 := by simp
    rw [e1, e2] at ih
    rw [lens_values_l0, name_eq y (by omega)]
    simp only [Option.bind_some, valsFrom]
    cases hn : isName y with
    | false => rfl
    | true =>
      simp only [Bool.not_true, Bool.false_eq_true, if_false]
      rw [sl_pre]
      simp only [Option.bind_some]
      rw [contains_eq _ _ (by omega)]
      simp only [Option.bind_some]
      by_cases hm : y ∈ pre
      · simp [hm, sumB]
      · simp only [hm, decide_false, Bool.false_eq_true, if_false, ih]
        rfl
theorem values_eq (l : List Str) (least : Nat) (hw : strsW l ≤ 1099511627776) : lens_values l (least : Int) = some (valsB l least) := by
  have hn := strsW_n l
  have h0 := values_l0 l [] (by simpa using (by omega : l.length ≤ 1099511627776)) fun s hs => by have := strsW_mem hs; omega
  have h0' : lens_values_l0 l l 0 = some (sumB (valsFrom [] l)) := h0
  unfold lens_values valsB
  rw [chk_eq (by omega), h0']
  cases valsFrom [] l with
  | false => rfl
  | true =>
    simp only [sumB, Option.bind_some, Bool.true_and]
    by_cases h1 : least ≤ l.length
    · rw [if_pos (by simp; omega)]
      simp only [h1, decide_true, Bool.true_and, Option.some.injEq]
      exact decide_eq_decide.2 (by omega)
    · rw [if_neg (by simp; omega)]
      simp [h1]

/-! ### Prims -/
def noneP (p : lens_Prim) : Bool := decide (p.Values = [] ∧ p.To = [])
def primB (p : lens_Prim) : Bool :=
  if p.Op = 114 ∨ p.Op = 119 ∨ p.Op = 117 then noneP p && isName p.Kind && isName p.New && decide (p.Name = [])
  else if p.Op = 109 then noneP p && isName p.Name && isName p.New && decide (p.Kind = [])
  else if p.Op = 110 then noneP p && isName p.Kind && isName p.Name && isName p.New
  else if p.Op = 116 then valsB p.Values 1 && valsB p.To 1 && decide (p.Values.length = p.To.length) && isName p.Kind && isName p.Name && decide (p.New = [])
  else if p.Op = 97 ∨ p.Op = 100 then valsB p.Values 0 && decide (p.To = []) && isName p.Kind && isName p.Name && decide (p.New = [])
  else if p.Op = 104 ∨ p.Op = 115 then noneP p && isName p.Kind && isName p.Name && decide (p.New = [])
  else false
theorem none_eq (p : lens_Prim) (h : pW p ≤ 1099511627776) : (w64 ((p.Values.length : Int) + (p.To.length : Int)) == 0) = noneP p := by
  have h1 := strsW_n p.Values
  have h2 := strsW_n p.To
  unfold pW at h
  rw [w64_eq (by omega)]
  unfold noneP
  by_cases h3 : p.Values = [] ∧ p.To = []
  · simp [h3.1, h3.2]
  · rw [decide_eq_false h3, beq_eq_false_iff_ne]
    intro e
    exact h3 ⟨List.eq_nil_of_length_eq_zero (by omega), List.eq_nil_of_length_eq_zero (by omega)⟩
theorem beq_nil (s : Str) : (s == ([] : Str)) = decide (s = []) := by cases s <;> rfl
theorem tern (a b c d : Bool) : (if a = true then (if b = true then (if c = true then some d else some false) else some false) else some false) = some (a && b && c && d) := by cases a <;> cases b <;> cases c <;> rfl
theorem right_p (p : lens_Prim) (h : pW p ≤ 1099511627776) : lens_Prim_right p = some (primB p) := by
  have h' := h
  unfold pW at h'
  have v0 := values_eq p.Values 0 (by omega)
  have v1 := values_eq p.Values 1 (by omega)
  have v2 := values_eq p.To 1 (by omega)
  have c0 : ((0 : Nat) : Int) = 0 := rfl
  have c1 : ((1 : Nat) : Int) = 1 := rfl
  rw [c0] at v0
  rw [c1] at v1 v2
  unfold lens_Prim_right
  rw [name_eq p.Kind (by omega), name_eq p.Name (by omega), name_eq p.New (by omega), none_eq p h]
  simp only [Option.bind_some, beq_nil]
  unfold primB
  by_cases h1 : p.Op = 114
  · simp only [h1]
    simp [tern]
  by_cases h2 : p.Op = 119
  · simp only [h2]
    simp [tern]
  by_cases h3 : p.Op = 117
  · simp only [h3]
    simp [tern]
  by_cases h4 : p.Op = 109
  · simp only [h4]
    simp [tern]
  by_cases h5 : p.Op = 110
  · simp only [h5]
    simp [tern]
  by_cases h6 : p.Op = 116
  · simp only [h6]
    rw [v1]
    cases hv : valsB p.Values 1 with
    | false => simp [hv]
    | true =>
      simp only [Option.bind_some, v2]
      cases hw : valsB p.To 1 with
      | false => simp [hw]
      | true =>
        have e : ((p.Values.length : Int) == (p.To.length : Int)) = decide (p.Values.length = p.To.length) := by
          by_cases e : p.Values.length = p.To.length
          · simp [e]
          · rw [decide_eq_false e, beq_eq_false_iff_ne]; omega
        simp only [Option.bind_some, e]
        by_cases e2 : p.Values.length = p.To.length <;> cases isName p.Kind <;> cases isName p.Name <;> simp [e2]
  have tl : ((p.To.length : Int) == 0) = decide (p.To = []) := by cases p.To <;> simp; omega
  by_cases h7 : p.Op = 97
  · simp only [h7]
    rw [v0]
    cases hv : valsB p.Values 0 with
    | false => simp [hv]
    | true =>
      simp only [Option.bind_some, tl]
      by_cases e2 : p.To = [] <;> cases isName p.Kind <;> cases isName p.Name <;> simp [e2]
  by_cases h8 : p.Op = 100
  · simp only [h8]
    rw [v0]
    cases hv : valsB p.Values 0 with
    | false => simp [hv]
    | true =>
      simp only [Option.bind_some, tl]
      by_cases e2 : p.To = [] <;> cases isName p.Kind <;> cases isName p.Name <;> simp [e2]
  by_cases h9 : p.Op = 104
  · simp only [h9]
    simp [tern]
  by_cases h10 : p.Op = 115
  · simp only [h10]
    simp [tern]
  simp [h1, h2, h3, h4, h5, h6, h7, h8, h9, h10]

/-! ### Lenses -/
def isRow (l : lens_Lens) : Bool := decide (l.Prim.Op = 0) && !l.Turned
def emptyP (p : lens_Prim) : Bool := decide (p.Kind = [] ∧ p.Name = [] ∧ p.New = []) && noneP p
mutual
def lform : lens_Lens → Bool
  | ⟨p, t, ks⟩ => if p.Op = 0 then emptyP p && (t || decide (ks.length ≠ 1)) && lforms ks else primB p && !t && decide (ks = [])
def lforms : List lens_Lens → Bool
  | [] => true
  | k :: r => !isRow k && lform k && lforms r
end
theorem lform_eq (l : lens_Lens) : lform l = if l.Prim.Op = 0 then emptyP l.Prim && (l.Turned || decide (l.Kids.length ≠ 1)) && lforms l.Kids else primB l.Prim && !l.Turned && decide (l.Kids = []) := by
  cases l; simp only [lform]
theorem plain_eq (l : lens_Lens) : lens_Lens_plain l = some (isRow l) := by
  unfold lens_Lens_plain isRow
  by_cases h : l.Prim.Op = 0 <;> simp [h]
theorem idx_l0 (f : lens_Lens → Option Bool) : ∀ (l : List lens_Lens) (i : Nat), (∀ k ∈ l, f k = some (isRow k || !lform k)) → ∃ r : Int ⊕ Unit, slices_IndexFunc_lens_Lens_lens_Lens_formed_1_l0 f l (i : Int) = some r ∧ (match r with | .inl j => 0 ≤ j ∧ lforms l = false | .inr _ => lforms l = true)
  | [], i, _ => ⟨.inr (), rfl, rfl⟩
  | y :: l, i, h => by
    rw [slices_IndexFunc_lens_Lens_lens_Lens_formed_1_l0, h y (by simp)]
    simp only [Option.bind_some]
    cases hy : isRow y || !lform y with
    | true =>
      refine ⟨.inl (i : Int), by simp, by omega, ?_⟩
      rw [lforms]
      cases h1 : isRow y with
      | true => rfl
      | false => simp [h1] at hy; simp [hy]
    | false =>
      obtain ⟨r, h1, h2⟩ := idx_l0 f l (i + 1) fun k hk => h k (by simp [hk])
      refine ⟨r, by simpa using h1, ?_⟩
      have h3 : isRow y = false ∧ lform y = true := by simpa using hy
      cases r with
      | inl j => exact ⟨h2.1, by rw [lforms, h3.1, h3.2]; simpa using h2.2⟩
      | inr _ =>
        have h4 : lforms l = true := h2
        show lforms (y :: l) = true
        rw [lforms, h3.1, h3.2, h4]
        rfl
theorem lformed_k (l : lens_Lens) : lW l ≤ 1099511627776 → ∀ kr, 4 * lD l ≤ kr → lens_Lens_formed_k kr l = some (lform l) := by
  induction l using lens_Lens.ind with
  | h l ih =>
    intro hw kr hk
    have hd := lD_eq l
    have hwt := lW_eq l
    have hl := lWs_len l.Kids
    obtain ⟨kr, rfl⟩ : ∃ j, kr = j + 1 + 1 + 1 + 1 := ⟨kr - 4, by omega⟩
    have hwp : l.Prim.Kind.length + l.Prim.Name.length + l.Prim.New.length ≤ pW l.Prim := by unfold pW; omega
    have hin : slices_ContainsFunc_lens_Lens_lens_Lens_formed_1_k (kr + 1 + 1 + 1) l.Kids = some (!lforms l.Kids) := by
      obtain ⟨r, h1, h2⟩ := idx_l0 (lens_Lens_formed_1_k (kr + 1)) l.Kids 0 fun k hkk => by
        rw [lens_Lens_formed_1_k, plain_eq]
        simp only [Option.bind_some]
        cases hr : isRow k with
        | true => rfl
        | false =>
          rw [ih k hkk (by have := lW_mem hkk; omega) kr (by have := lD_mem hkk; omega)]
          rfl
      have h1' : slices_IndexFunc_lens_Lens_lens_Lens_formed_1_l0 (lens_Lens_formed_1_k (kr + 1)) l.Kids 0 = some r := h1
      rw [slices_ContainsFunc_lens_Lens_lens_Lens_formed_1_k, slices_IndexFunc_lens_Lens_lens_Lens_formed_1_k, chk_eq (by omega), h1']
      cases r with
      | inl j => simp [h2.1, h2.2]
      | inr _ =>
        have : lforms l.Kids = true := h2
        simp [this]
    rw [lens_Lens_formed_k, lform_eq]
    by_cases h0 : l.Prim.Op = 0
    · rw [if_neg (by simp [h0]), if_pos h0, chk_eq (by omega), chk_eq (by rw [List.length_append]; omega), none_eq _ (by omega), hin]
      have e : (l.Prim.Kind ++ l.Prim.Name ++ l.Prim.New == ([] : Str)) = decide (l.Prim.Kind = [] ∧ l.Prim.Name = [] ∧ l.Prim.New = []) := by
        rw [beq_nil]
        exact decide_eq_decide.2 (by simp [and_assoc])
      rw [e]
      unfold emptyP
      have g : ((l.Kids.length : Int) != 1) = decide (l.Kids.length ≠ 1) := by
        by_cases g : l.Kids.length = 1
        · simp [g]
        · rw [decide_eq_true g]; simp; omega
      rw [g]
      cases decide (l.Prim.Kind = [] ∧ l.Prim.Name = [] ∧ l.Prim.New = []) <;> cases noneP l.Prim <;> cases l.Turned <;> cases decide (l.Kids.length ≠ 1) <;> simp
    · rw [if_pos (by simpa using h0), if_neg h0, right_p _ (by omega)]
      have g : ((l.Kids.length : Int) == 0) = decide (l.Kids = []) := by cases l.Kids <;> simp; omega
      rw [g]
      cases primB l.Prim <;> cases l.Turned <;> simp
theorem lformed_eq (l : lens_Lens) (h : lW l ≤ 1099511627776) : lens_Lens_formed l = some (lform l) := by
  unfold lens_Lens_formed
  exact lim_of (4 * lD l) fun kr hk => lformed_k l h kr hk
def lright (l : lens_Lens) : Bool := decide (lmany l ≤ 20) && lform l
theorem lright_eq (l : lens_Lens) (h : lW l ≤ 1099511627776) : lens_Right l = some (lright l) := by
  unfold lens_Right lright
  rw [many_eq l h, lformed_eq l h]
  simp only [Option.bind_some]
  by_cases hm : lmany l ≤ 20
  · rw [if_pos (by simp; omega)]; simp [hm]
  · rw [if_neg (by simp; omega)]; simp [hm]

end Go.Proofs.YtpjdafhmneiohaaDoor
