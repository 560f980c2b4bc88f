/- A node is the same as itself. -/
import Derived.Test.YtblielhogcnnkaaDoorNodeBase
namespace Go.Proofs.YtblielhogcnnkaaDoor
set_option linter.unusedSimpArgs false
set_option linter.unusedVariables false
open Go

theorem strsW_len : ∀ l : List Str, l.length ≤ strsW l
  | [] => by simp
  | s :: l => by have := strsW_len l; simp only [strsW, List.length_cons]; omega
theorem attrsW_len : ∀ l : List api_Attr, l.length ≤ attrsW l
  | [] => by simp
  | s :: l => by have := attrsW_len l; simp only [attrsW, List.length_cons]; omega
theorem eqStr_l0 : ∀ (suf pre : List Str) (i : Int), i = (pre.length : Int) → slices_Equal_string_l0 (pre ++ suf) suf i = some (.inr ())
  | [], pre, i, hi => rfl
  | y :: suf, pre, i, hi => by
    rw [slices_Equal_string_l0, hi, rd_mid]
    have := eqStr_l0 suf (pre ++ [y]) (pre.length + 1) (by simp)
    simp only [List.append_assoc, List.cons_append, List.nil_append] at this
    simp [this]
theorem eqStr (l : List Str) (h : l.length ≤ 9223372036854775807) : slices_Equal_string l l = some true := by
  unfold slices_Equal_string
  have := eqStr_l0 l [] 0 rfl
  simp only [List.nil_append] at this
  rw [chk_eq h, this]
  simp
theorem eqAttr_l0 : ∀ (suf pre : List api_Attr) (i : Int), i = (pre.length : Int) → slices_Equal_api_Attr_l0 (pre ++ suf) suf i = some (.inr ())
  | [], pre, i, hi => rfl
  | y :: suf, pre, i, hi => by
    rw [slices_Equal_api_Attr_l0, hi, rd_mid]
    have := eqAttr_l0 suf (pre ++ [y]) (pre.length + 1) (by simp)
    simp only [List.append_assoc, List.cons_append, List.nil_append] at this
    simp [this]
theorem eqAttr (l : List api_Attr) (h : l.length ≤ 9223372036854775807) : slices_Equal_api_Attr l l = some true := by
  unfold slices_Equal_api_Attr
  have := eqAttr_l0 l [] 0 rfl
  simp only [List.nil_append] at this
  rw [chk_eq h, this]
  simp
theorem eqFunc_l0 (f : api_Node → api_Node → Option Bool) : ∀ (suf pre : List api_Node) (i : Int), i = (pre.length : Int) → (∀ k ∈ suf, f k k = some true) → slices_EqualFunc_api_Node_node_Same_l0 (pre ++ suf) f suf i = some (.inr ())
  | [], pre, i, hi, _ => rfl
  | y :: suf, pre, i, hi, h => by
    rw [slices_EqualFunc_api_Node_node_Same_l0, hi, rd_mid]
    have := eqFunc_l0 f suf (pre ++ [y]) (pre.length + 1) (by simp) fun k hk => h k (by simp [hk])
    simp only [List.append_assoc, List.cons_append, List.nil_append] at this
    simp [this, h y (by simp)]
theorem same_k (n : api_Node) : nwt n ≤ 1099511627776 → ∀ kr, 2 * ndep n ≤ kr → node_Same_k kr n n = some true := by
  induction n using api_Node.ind with
  | h n ih =>
    intro hw kr hk
    have hd := ndep_eq n
    obtain ⟨kr, rfl⟩ : ∃ j, kr = j + 1 + 1 := ⟨kr - 2, by omega⟩
    have hwt := nwt_eq n
    have hl := nwts_len n.Kids
    have hs := strsW_len n.Marks
    have ha := attrsW_len n.Attrs
    have hf := eqFunc_l0 (node_Same_k kr) n.Kids [] 0 rfl fun k hkk => ih k hkk (by have := nwt_mem hkk; omega) kr (by have := ndep_mem hkk; omega)
    simp only [List.nil_append] at hf
    rw [node_Same_k]
    simp only [beq_self_eq_true, if_true]
    rw [eqStr _ (by omega), eqAttr _ (by omega)]
    simp only [Option.bind_some, if_true]
    rw [slices_EqualFunc_api_Node_node_Same_k]
    simp only [bne_self_eq_false, Bool.false_eq_true, if_false]
    rw [chk_eq (by omega), hf]
    rfl
theorem nsame_eq (n : api_Node) (h : nwt n ≤ 1099511627776) : node_Same n n = some true := by
  unfold node_Same
  exact lim_of (2 * ndep n) fun k hk => same_k n h k hk

/-! ### Same, the reference's -/

end Go.Proofs.YtblielhogcnnkaaDoor
