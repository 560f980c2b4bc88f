/- The reference's writing is the same. -/
import Derived.Test.YtihndopckmdpbaaDoorPrint0
import Derived.Test.YtihndopckmdpbaaDoorRefForm
import Derived.Test.YtihndopckmdpbaaDoorRQuote
namespace Go.Proofs.YtihndopckmdpbaaDoor
set_option linter.unusedSimpArgs false
set_option linter.unusedVariables false
open Go

theorem rwrite_l0 (f : api_Node → Option Str) : ∀ (l : List api_Node) (i : Int) (acc : Str), (∀ k ∈ l, f k = some (writeN k)) → acc.length + 4 * nwts l ≤ 4294967296 → diptychref2_WriteAll_l0 f l i acc = some (acc ++ writeL l)
  | [], i, acc, _, _ => by simp [diptychref2_WriteAll_l0, writeL]
  | n :: l, i, acc, h, hb => by
    simp only [nwts] at hb
    have hle := writeN_le n
    rw [diptychref2_WriteAll_l0, h n (by simp)]
    simp only [Option.bind_some]
    rw [chk_eq (by omega), rwrite_l0 f l _ _ (fun k hk => h k (by simp [hk])) (by simp; omega)]
    simp [writeL]
theorem rwrite_k (n : api_Node) : nwt n ≤ 1073741824 → ∀ kr, 2 * ndep n ≤ kr → diptychref2_Write_k kr n = some (writeN n) := by
  induction n using api_Node.ind with
  | h n ih =>
    intro hw kr hk
    have hd' := ndep_eq n
    obtain ⟨kr, rfl⟩ : ∃ j, kr = j + 1 + 1 := ⟨kr - 2, by omega⟩
    have hwt := nwt_eq n
    have hl := nwts_len n.Kids
    have hh := hd_le n
    have hq := qt_le n.Text
    have en : (n.Kind == ([116, 101, 120, 116] : Str)) = isT n := rfl
    rw [diptychref2_Write_k, en, writeN_eq]
    by_cases ht : isT n = true
    · simp only [ht, if_true]
      rw [rquote_eq _ (by omega)]
      simp only [Option.bind_some]
      rw [rhead_eq n hw]
      simp only [Option.bind_some]
      rw [chk_eq (by omega)]
    · simp only [ht, Bool.false_eq_true, if_false]
      rw [rhead_eq n hw]
      simp only [Option.bind_some]
      have hwl := writeL_le n.Kids fun k _ => writeN_le k
      rw [chk_eq (by simp; omega), diptychref2_WriteAll_k, chk_eq (by omega), rwrite_l0 (diptychref2_Write_k kr) n.Kids 0 [] (fun k hkk => ih k hkk (by have := nwt_mem hkk; omega) kr (by have := ndep_mem hkk; omega)) (by simp; omega)]
      simp only [Option.bind_some, List.nil_append]
      rw [chk_eq (by simp; omega), chk_eq (by simp; omega)]
      simp
theorem rwrite_eq (n : api_Node) (h : nwt n ≤ 1073741824) : diptychref2_Write n = some (writeN n) := by
  unfold diptychref2_Write
  exact lim_of (2 * ndep n) fun kr hk => rwrite_k n h kr hk
theorem rwriteAll_eq (l : List api_Node) (h : nwts l ≤ 1073741824) : diptychref2_WriteAll l = some (writeL l) := by
  have hl := nwts_len l
  unfold diptychref2_WriteAll
  refine lim_of (2 * ndeps l + 1) fun kr hk => ?_
  obtain ⟨kr, rfl⟩ : ∃ j, kr = j + 1 := ⟨kr - 1, by omega⟩
  rw [diptychref2_WriteAll_k, chk_eq (by omega), rwrite_l0 (diptychref2_Write_k kr) l 0 [] (fun k hkk => rwrite_k k (by have := nwt_mem hkk; omega) kr (by have := ndep_mem hkk; omega)) (by simp; omega)]
  rfl
end Go.Proofs.YtihndopckmdpbaaDoor
