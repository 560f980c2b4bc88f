/- The reference's depth. -/
import Derived.Test.YtpjdafhmneiohaaDoorForm
namespace Go.Proofs.YtpjdafhmneiohaaDoor
set_option linter.unusedSimpArgs false
set_option linter.unusedVariables false
open Go

theorem rdepth_l0 (f : api_Node → Option Int) : ∀ (l : List api_Node) (i : Int) (d : Nat), (∀ k ∈ l, f k = some (depN k : Int)) → diptychref1_Depth_l0 f l i (d : Int) = some ((max d (depNs l) : Nat) : Int)
  | [], i, d, _ => by simp [diptychref1_Depth_l0, depNs]
  | n :: l, i, d, h => by
    rw [diptychref1_Depth_l0, h n (by simp)]
    simp only [Option.bind_some]
    have e : (if (depN n : Int) > (d : Int) then (depN n : Int) else (d : Int)) = ((max d (depN n) : Nat) : Int) := by split <;> omega
    rw [e, rdepth_l0 f l _ _ fun k hk => h k (by simp [hk])]
    simp only [depNs, Option.some.injEq]
    omega
theorem rdepth_k (n : api_Node) : nwt n ≤ 1099511627776 → ∀ kr, ndep n ≤ kr → diptychref1_Depth_k kr n = some (depN n : Int) := by
  induction n using api_Node.ind with
  | h n ih =>
    intro hw kr hk
    have hd := ndep_eq n
    obtain ⟨kr, rfl⟩ : ∃ j, kr = j + 1 := ⟨kr - 1, by omega⟩
    have hwt := nwt_eq n
    have hl := nwts_len n.Kids
    have hdl := depN_le n
    have hdw := ndep_le n
    have en : (n.Kind == ([116, 101, 120, 116] : Str)) = isT n := rfl
    rw [diptychref1_Depth_k, en]
    by_cases ht : isT n = true
    · simp [ht, depN_eq n]
    · have e := depN_eq n
      rw [if_neg ht] at e
      simp only [ht, Bool.false_eq_true, if_false]
      have h0 := rdepth_l0 (diptychref1_Depth_k kr) n.Kids 0 0 (fun k hkk => ih k hkk (by have := nwt_mem hkk; omega) kr (by have := ndep_mem hkk; omega))
      have h0' : diptychref1_Depth_l0 (diptychref1_Depth_k kr) n.Kids 0 0 = _ := h0
      rw [chk_eq (by omega), h0']
      simp only [Option.bind_some, Nat.zero_max]
      rw [w64_eq (by omega), e]
      rfl
theorem rdepth_eq (n : api_Node) (h : nwt n ≤ 1099511627776) : diptychref1_Depth n = some (depN n : Int) := by
  unfold diptychref1_Depth
  exact lim_of (ndep n) fun kr hk => rdepth_k n h kr hk
end Go.Proofs.YtpjdafhmneiohaaDoor
