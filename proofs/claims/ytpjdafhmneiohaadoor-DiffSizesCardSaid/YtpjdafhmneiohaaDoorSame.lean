/- When two nodes are the same, plainly: the program's answer. -/
import Derived.Test.YtpjdafhmneiohaaDoorForm
namespace Go.Proofs.YtpjdafhmneiohaaDoor
set_option linter.unusedSimpArgs false
set_option linter.unusedVariables false
open Go

/-- A yes that says just so much. -/
def Tells (x : Option Bool) (p : Prop) : Prop := ∃ b, x = some b ∧ (b = true ↔ p)
theorem Tells.yes {x : Option Bool} {p : Prop} (h : Tells x p) (hp : p) : x = some true := by
  obtain ⟨b, rfl, hb⟩ := h
  rw [hb.2 hp]
theorem Tells.no {x : Option Bool} {p : Prop} (h : Tells x p) (hp : ¬ p) : x = some false := by
  obtain ⟨b, rfl, hb⟩ := h
  cases b with
  | false => rfl
  | true => exact (hp (hb.1 rfl)).elim

theorem eqA_l0 (b : List api_Attr) : ∀ (suf pre : List api_Attr) (i : Int), i = (pre.length : Int) → b.length = pre.length + suf.length → b.take pre.length = pre → slices_Equal_api_Attr_l0 b suf i = some (if pre ++ suf = b then .inr () else .inl false)
  | [], pre, i, hi, hl, ht => by
    have : pre = b := by
      rw [← ht, List.take_of_length_le]
      simp at hl; omega
    simp [slices_Equal_api_Attr_l0, this]
  | y :: suf, pre, i, hi, hl, ht => by
    simp only [List.length_cons] at hl
    obtain ⟨x, hx⟩ : ∃ x, b[pre.length]? = some x := ⟨b[pre.length], List.getElem?_eq_getElem (by omega)⟩
    rw [slices_Equal_api_Attr_l0, hi, rd_nat hx]
    simp only [Option.bind_some]
    have htk : b.take (pre.length + 1) = pre ++ [x] := by
      rw [List.take_add_one, ht, hx]
      rfl
    by_cases hxy : y = x
    · subst hxy
      simp only [beq_self_eq_true, Bool.and_self, bne_self_eq_false, Bool.false_eq_true, if_false]
      rw [eqA_l0 b suf (pre ++ [y]) _ (by simp) (by simp; omega) (by simpa using htk)]
      simp
    · have hn : ¬ pre ++ y :: suf = b := by
        intro h
        rw [← h] at hx
        simp at hx
        exact hxy hx
      have g : (((y.Name == x.Name) && (y.Value == x.Value)) != true) = true := by
        rw [bne_iff_ne, ne_eq, Bool.and_eq_true, beq_iff_eq, beq_iff_eq]
        rintro ⟨h1, h2⟩
        apply hxy
        cases y; cases x
        simp_all
      rw [if_pos g, if_neg hn]
theorem eqA_eq (a b : List api_Attr) (h : a.length ≤ 9223372036854775807) : Tells (slices_Equal_api_Attr a b) (a = b) := by
  unfold slices_Equal_api_Attr
  by_cases hl : a.length = b.length
  · simp only [hl, bne_self_eq_false, Bool.false_eq_true, if_false]
    rw [chk_eq (by omega), eqA_l0 b a [] 0 rfl (by simp [hl]) (by simp)]
    by_cases e : a = b
    · exact ⟨true, by simp [e], by simp [e]⟩
    · exact ⟨false, by simp [e], by simp [e]⟩
  · have h1 : ((a.length : Int) != (b.length : Int)) = true := by simp; omega
    have h2 : ¬ a = b := fun e => hl (by rw [e])
    rw [if_pos h1]
    exact ⟨false, rfl, by simp [h2]⟩
theorem eqN_l0 (f : api_Node → api_Node → Option Bool) (b : List api_Node) : ∀ (suf pre : List api_Node) (i : Int), i = (pre.length : Int) → b.length = pre.length + suf.length → b.take pre.length = pre → (∀ x ∈ suf, ∀ y, Tells (f x y) (x = y)) → ∃ r, slices_EqualFunc_api_Node_node_Same_l0 b f suf i = some r ∧ ((r = .inr () ∧ pre ++ suf = b) ∨ (r = .inl false ∧ pre ++ suf ≠ b))
  | [], pre, i, hi, hl, ht, _ => by
    have : pre = b := by
      rw [← ht, List.take_of_length_le]
      simp at hl; omega
    exact ⟨_, rfl, .inl ⟨rfl, by simp [this]⟩⟩
  | y :: suf, pre, i, hi, hl, ht, hf => by
    simp only [List.length_cons] at hl
    obtain ⟨x, hx⟩ : ∃ x, b[pre.length]? = some x := ⟨b[pre.length], List.getElem?_eq_getElem (by omega)⟩
    rw [slices_EqualFunc_api_Node_node_Same_l0, hi, rd_nat hx]
    simp only [Option.bind_some]
    have htk : b.take (pre.length + 1) = pre ++ [x] := by
      rw [List.take_add_one, ht, hx]
      rfl
    by_cases hxy : y = x
    · subst hxy
      rw [(hf y (by simp) y).yes rfl]
      simp only [Option.bind_some, Bool.not_true, Bool.false_eq_true, if_false]
      obtain ⟨r, h1, h2⟩ := eqN_l0 f b suf (pre ++ [y]) ((pre.length : Int) + 1) (by simp) (by simp; omega) (by simpa using htk) fun z hz => hf z (by simp [hz])
      exact ⟨r, h1, by simpa using h2⟩
    · have hn : ¬ pre ++ y :: suf = b := by
        intro h
        rw [← h] at hx
        simp at hx
        exact hxy hx
      rw [(hf y (by simp) x).no hxy]
      exact ⟨_, rfl, .inr ⟨rfl, hn⟩⟩
theorem nsame_k (n : api_Node) : nwt n ≤ 1099511627776 → ∀ kr, 2 * ndep n ≤ kr → ∀ m, Tells (node_Same_k kr n m) (n = m) := by
  induction n using api_Node.ind with
  | h n ih =>
    intro hw kr hk m
    have hd := ndep_eq n
    obtain ⟨kr, rfl⟩ : ∃ j, kr = j + 1 + 1 := ⟨kr - 2, by omega⟩
    have hwt := nwt_eq n
    have hl := nwts_len n.Kids
    have hs := strsW_n n.Marks
    have ha := attrsW_n n.Attrs
    have key : n = m ↔ n.Kind = m.Kind ∧ n.Text = m.Text ∧ n.Marks = m.Marks ∧ n.Attrs = m.Attrs ∧ n.Kids = m.Kids := by
      cases n; cases m; simp
    rw [node_Same_k]
    by_cases h1 : n.Kind = m.Kind
    · by_cases h2 : n.Text = m.Text
      · simp only [h1, h2, beq_self_eq_true, if_true]
        rw [eqS_eq _ _ (by omega)]
        simp only [Option.bind_some]
        by_cases h3 : n.Marks = m.Marks
        · simp only [h3, decide_true, if_true]
          obtain ⟨b, e4, h4⟩ := eqA_eq n.Attrs m.Attrs (by omega)
          rw [e4]
          simp only [Option.bind_some]
          cases b with
          | true =>
            have h4' := h4.1 rfl
            simp only [if_true]
            rw [slices_EqualFunc_api_Node_node_Same_k]
            by_cases hkl : n.Kids.length = m.Kids.length
            · simp only [hkl, bne_self_eq_false, Bool.false_eq_true, if_false]
              obtain ⟨r, e5, h5⟩ := eqN_l0 (node_Same_k kr) m.Kids n.Kids [] 0 rfl (by simp [hkl]) (by simp) fun k hkk y => ih k hkk (by have := nwt_mem hkk; omega) kr (by have := ndep_mem hkk; omega) y
              rw [chk_eq (by omega), e5]
              simp only [List.nil_append] at h5
              rcases h5 with ⟨rfl, h5⟩ | ⟨rfl, h5⟩
              · exact ⟨true, rfl, by simp [key, h1, h2, h3, h4', h5]⟩
              · exact ⟨false, rfl, by simp [key, h5]⟩
            · have g : ((n.Kids.length : Int) != (m.Kids.length : Int)) = true := by simp; omega
              rw [if_pos g]
              exact ⟨false, rfl, by
                simp only [Bool.false_eq_true, false_iff]
                rintro rfl
                exact hkl rfl⟩
          | false =>
            have h4' : ¬ n.Attrs = m.Attrs := fun e => by have := h4.2 e; cases this
            exact ⟨false, by simp, by simp [key, h4']⟩
        · exact ⟨false, by simp [h3], by simp [key, h3]⟩
      · exact ⟨false, by simp [h1, h2], by simp [key, h2]⟩
    · exact ⟨false, by simp [h1], by simp [key, h1]⟩
theorem nsame_tells (n m : api_Node) (h : nwt n ≤ 1099511627776) : Tells (node_Same n m) (n = m) := by
  by_cases e : n = m
  · refine ⟨true, ?_, by simp [e]⟩
    unfold node_Same
    exact lim_of (2 * ndep n) fun k hk => (nsame_k n h k hk m).yes e
  · refine ⟨false, ?_, by simp [e]⟩
    unfold node_Same
    exact lim_of (2 * ndep n) fun k hk => (nsame_k n h k hk m).no e
theorem nsame_eq (n : api_Node) (h : nwt n ≤ 1099511627776) : node_Same n n = some true := (nsame_tells n n h).yes rfl

end Go.Proofs.YtpjdafhmneiohaaDoor
