/- Where two nodes differ: the reference's way, what is alike, copies. -/
import Derived.Test.YtpjdafhmneiohaaDoorDiffSpec
namespace Go.Proofs.YtpjdafhmneiohaaDoor
set_option linter.unusedSimpArgs false
set_option linter.unusedVariables false
open Go Classical

/-! ### Alike -/
def alD (a b : api_Node) : Bool := decide (a.Kind = b.Kind) && !isT a && decide (a.Attrs.map (·.Name) = b.Attrs.map (·.Name))
theorem alk_l0 (b : List api_Attr) : ∀ (suf pre : List api_Attr) (tb pb : List api_Attr) (i : Int), i = (pre.length : Int) → b = pb ++ tb → pb.length = pre.length → suf.length = tb.length → slices_EqualFunc_api_Attr_diff_alike_1_l0 b suf i = some (if suf.map (·.Name) = tb.map (·.Name) then .inr () else .inl false)
  | [], pre, tb, pb, i, hi, hb, hl, hs => by
    have : tb = [] := List.eq_nil_of_length_eq_zero (by simpa using hs.symm)
    subst this
    simp [slices_EqualFunc_api_Attr_diff_alike_1_l0]
  | y :: suf, pre, [], pb, i, hi, hb, hl, hs => by simp at hs
  | y :: suf, pre, x :: tb, pb, i, hi, hb, hl, hs => by
    simp only [List.length_cons] at hs
    have hx : rd b (pre.length : Int) = some x := by rw [hb, ← hl]; exact rd_mid _ _ _
    rw [slices_EqualFunc_api_Attr_diff_alike_1_l0, hi, hx]
    simp only [Option.bind_some, diff_alike_1]
    by_cases e : y.Name = x.Name
    · rw [if_neg (by simp [e]), alk_l0 b suf (pre ++ [y]) tb (pb ++ [x]) _ (by simp) (by simp [hb]) (by simp [hl]) (by omega)]
      simp [e]
    · rw [if_pos (by simp [e])]
      simp [e]
theorem alike_d (a b : api_Node) (h : a.Attrs.length ≤ 9223372036854775807) : diff_alike a b = some (alD a b) := by
  unfold diff_alike alD
  by_cases hk : a.Kind = b.Kind
  · rw [if_pos (by simp [hk])]
    cases ht : isT a with
    | true =>
      have : (!(a.Kind == ([116, 101, 120, 116] : Str))) = false := by rw [isT_def, ht]; rfl
      rw [this]
      simp
    | false =>
      have : (!(a.Kind == ([116, 101, 120, 116] : Str))) = true := by rw [isT_def, ht]; rfl
      rw [this]
      simp only [if_true]
      unfold slices_EqualFunc_api_Attr_diff_alike_1
      by_cases hl : a.Attrs.length = b.Attrs.length
      · simp only [hl, bne_self_eq_false, Bool.false_eq_true, if_false]
        rw [chk_eq (by omega), alk_l0 b.Attrs a.Attrs [] b.Attrs [] 0 rfl rfl rfl hl]
        by_cases e : a.Attrs.map (·.Name) = b.Attrs.map (·.Name)
        · simp [e, hk]
        · simp [e, hk]
      · have h1 : ((a.Attrs.length : Int) != (b.Attrs.length : Int)) = true := by simp; omega
        have h2 : ¬ a.Attrs.map (·.Name) = b.Attrs.map (·.Name) := fun e => hl (by simpa using congrArg List.length e)
        rw [if_pos h1]
        simp [h2, hk]
  · rw [if_neg (by simp [hk])]
    simp [hk]
/-! ### Copies -/
theorem copy_l0 (l : List api_Node) (f : api_Node → Option api_Node) (hf : ∀ x ∈ l, f x = some x) (hl : l.length ≤ 1099511627776) : ∀ (d i k : Nat), l.length - i ≤ d → d < k → i ≤ l.length → node_Copy_l0 l f k (i : Int) l = some l
  | 0, i, k, hd, hk, hi => by
    obtain ⟨k, rfl⟩ : ∃ j, k = j + 1 := ⟨k - 1, by omega⟩
    have g : decide ((i : Int) < (l.length : Int)) = false := by simp; omega
    rw [node_Copy_l0, g]
    simp
  | d + 1, i, k, hd, hk, hi => by
    obtain ⟨k, rfl⟩ : ∃ j, k = j + 1 := ⟨k - 1, by omega⟩
    rw [node_Copy_l0]
    by_cases hlt : i < l.length
    · have g : decide ((i : Int) < (l.length : Int)) = true := by simp; omega
      have hx : l[i]? = some l[i] := List.getElem?_eq_getElem hlt
      have hw : wr l (i : Int) l[i] = some l := by
        have : wr l (i : Int) l[i] = some (l.set i l[i]) := by
          unfold wr
          rw [if_pos (by omega)]
          simp
        rw [this, List.set_getElem_self]
      have e1 : w64 ((i : Int) + 1) = ((i + 1 : Nat) : Int) := by rw [w64_eq (by omega)]; omega
      rw [g]
      simp only [if_true]
      rw [rd_nat hx]
      simp only [Option.bind_some]
      rw [hf _ (List.getElem_mem hlt)]
      simp only [Option.bind_some]
      rw [hw]
      simp only [Option.bind_some]
      rw [e1]
      exact copy_l0 l f hf hl d (i + 1) k (by omega) (by omega) (by omega)
    · have g : decide ((i : Int) < (l.length : Int)) = false := by simp; omega
      rw [g]
      simp
theorem copy_k (n : api_Node) : nwt n ≤ 1099511627776 → ∀ kr, ndep n ≤ kr → node_Copy_k kr n = some n := by
  induction n using api_Node.ind with
  | h n ih =>
    intro hw kr hk
    have hd := ndep_eq n
    obtain ⟨kr, rfl⟩ : ∃ j, kr = j + 1 := ⟨kr - 1, by omega⟩
    have hwt := nwt_eq n
    have hl := nwts_len n.Kids
    have hm := strsW_n n.Marks
    have ha := attrsW_n n.Attrs
    rw [node_Copy_k]
    unfold slices_Clone_string slices_Clone_api_Attr slices_Clone_api_Node
    rw [app_eq (by simp; omega), app_eq (by simp; omega), app_eq (by simp; omega)]
    simp only [Option.bind_some, List.nil_append]
    have h0 : ((0 : Nat) : Int) = 0 := rfl
    rw [lim_of (n.Kids.length + 1) fun k hk' => by
      have := copy_l0 n.Kids (node_Copy_k kr) (fun x hx => ih x hx (by have := nwt_mem hx; omega) kr (by have := ndep_mem hx; omega)) (by omega) n.Kids.length 0 k (by omega) (by omega) (by omega)
      rwa [h0] at this]
    simp only [Option.bind_some]
    cases n
    rfl
theorem copy_eq (n : api_Node) (h : nwt n ≤ 1099511627776) : node_Copy n = some n := by
  unfold node_Copy
  exact lim_of (ndep n) fun kr hk => copy_k n h kr hk

end Go.Proofs.YtpjdafhmneiohaaDoor
