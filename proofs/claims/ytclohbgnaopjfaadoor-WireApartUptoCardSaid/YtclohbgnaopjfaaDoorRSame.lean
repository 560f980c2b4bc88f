/- What is the same as itself: the reference's answer. -/
import Derived.Test.YtclohbgnaopjfaaDoorForm
namespace Go.Proofs.YtclohbgnaopjfaaDoor
set_option linter.unusedSimpArgs false
set_option linter.unusedVariables false
open Go

theorem rsame_l0 (b : api_Node) : ∀ (suf pre : List api_Attr) (i : Int), i = (pre.length : Int) → b.Attrs = pre ++ suf → diptychref1_Same_l0 b suf i = some (.inr ())
  | [], pre, i, _, _ => rfl
  | y :: suf, pre, i, hi, hb => by
    have hr : rd b.Attrs i = some y := by rw [hb, hi]; exact rd_mid pre suf y
    rw [diptychref1_Same_l0, hr]
    have ih := rsame_l0 b suf (pre ++ [y]) (i + 1) (by rw [hi]; simp) (by rw [hb]; simp)
    simp [ih]
theorem rsameAll_l0 (f : api_Node → api_Node → Option Bool) : ∀ (suf pre : List api_Node) (i : Int), i = (pre.length : Int) → (∀ k ∈ suf, f k k = some true) → diptychref1_SameAll_l0 (pre ++ suf) f suf i = some (.inr ())
  | [], pre, i, _, _ => rfl
  | y :: suf, pre, i, hi, hf => by
    have hr : rd (pre ++ y :: suf) i = some y := by rw [hi]; exact rd_mid pre suf y
    have ih := rsameAll_l0 f suf (pre ++ [y]) (i + 1) (by rw [hi]; simp) fun k hk => hf k (by simp [hk])
    rw [List.append_assoc, List.singleton_append] at ih
    rw [diptychref1_SameAll_l0, hr]
    simp only [Option.bind_some]
    rw [hf y (by simp)]
    simp [ih]
theorem rsame_k (n : api_Node) : nwt n ≤ 1099511627776 → ∀ kr, 2 * ndep n ≤ kr → diptychref1_Same_k kr n n = some true := by
  induction n using api_Node.ind with
  | h n ih =>
    intro hw kr hk
    have hd := ndep_eq n
    obtain ⟨kr, rfl⟩ : ∃ j, kr = j + 1 + 1 := ⟨kr - 2, by omega⟩
    have hwt := nwt_eq n
    have hl := nwts_len n.Kids
    have hm := strsW_n n.Marks
    have ha := attrsW_n n.Attrs
    have h1 := rsame_l0 n n.Attrs [] 0 rfl rfl
    have h2 := rsameAll_l0 (diptychref1_Same_k kr) n.Kids [] 0 rfl fun k hkk => ih k hkk (by have := nwt_mem hkk; omega) kr (by have := ndep_mem hkk; omega)
    rw [List.nil_append] at h2
    rw [diptychref1_Same_k]
    simp only [beq_self_eq_true, Bool.not_true, Bool.false_eq_true, if_false]
    rw [sameNames_eq _ _ (by omega)]
    simp only [decide_true, Option.bind_some, Bool.not_true, Bool.false_eq_true, if_false, bne_self_eq_false]
    rw [chk_eq (by omega), h1]
    simp only [Option.bind_some]
    rw [diptychref1_SameAll_k]
    simp only [bne_self_eq_false, Bool.false_eq_true, if_false]
    rw [chk_eq (by omega), h2]
    rfl
theorem rsameAll_eq (l : List api_Node) (h : nwts l ≤ 1099511627776) : diptychref1_SameAll l l = some true := by
  unfold diptychref1_SameAll
  refine lim_of (2 * ndeps l + 1) fun kr hk => ?_
  obtain ⟨kr, rfl⟩ : ∃ j, kr = j + 1 := ⟨kr - 1, by omega⟩
  have hl := nwts_len l
  have h2 := rsameAll_l0 (diptychref1_Same_k kr) l [] 0 rfl fun k hkk => rsame_k k (by have := nwt_mem hkk; omega) kr (by have := ndep_mem hkk; omega)
  rw [List.nil_append] at h2
  rw [diptychref1_SameAll_k]
  simp only [bne_self_eq_false, Bool.false_eq_true, if_false]
  rw [chk_eq (by omega), h2]
  rfl
theorem rsame_eq (n : api_Node) (h : nwt n ≤ 1099511627776) : diptychref1_Same n n = some true := by
  unfold diptychref1_Same
  exact lim_of (2 * ndep n) fun k hk => rsame_k n h k hk

end Go.Proofs.YtclohbgnaopjfaaDoor
