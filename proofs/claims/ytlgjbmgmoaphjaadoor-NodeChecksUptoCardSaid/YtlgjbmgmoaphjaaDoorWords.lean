/- The words of a node, plainly. -/
import Derived.Test.YtlgjbmgmoaphjaaDoorForm
namespace Go.Proofs.YtlgjbmgmoaphjaaDoor
set_option linter.unusedSimpArgs false
set_option linter.unusedVariables false
open Go

mutual
def wordsN : api_Node → Str
  | ⟨k, t, _, _, ks⟩ => if (k == sText) = true then t else wordsNs ks
def wordsNs : List api_Node → Str
  | [] => []
  | n :: l => wordsN n ++ wordsNs l
end
theorem wordsN_eq (n : api_Node) : wordsN n = if isT n = true then n.Text else wordsNs n.Kids := by cases n; simp only [wordsN, isT]; rfl
theorem wordsNs_app (a b : List api_Node) : wordsNs (a ++ b) = wordsNs a ++ wordsNs b := by
  induction a with
  | nil => simp [wordsNs]
  | cons n a ih => simp only [List.cons_append, wordsNs, ih, List.append_assoc]
theorem wordsNs_le : ∀ (l : List api_Node), (∀ n ∈ l, (wordsN n).length ≤ nwt n) → (wordsNs l).length ≤ nwts l
  | [], _ => by simp [wordsNs, nwts]
  | n :: l, h => by
    have h1 := h n (by simp)
    have h2 := wordsNs_le l fun x hx => h x (by simp [hx])
    simp only [wordsNs, nwts, List.length_append]; omega
theorem wordsN_le (n : api_Node) : (wordsN n).length ≤ nwt n := by
  induction n using api_Node.ind with
  | h n ih =>
    have h1 := wordsNs_le n.Kids ih
    have h2 := nwt_eq n
    rw [wordsN_eq]
    split <;> omega

theorem words_l0 (f : api_Node → Str → Option Str) : ∀ (l : List api_Node) (i : Int) (acc : Str), (∀ k ∈ l, ∀ a : Str, a.length + nwt k ≤ 1099511627776 → f k a = some (a ++ wordsN k)) → acc.length + nwts l ≤ 1099511627776 →
    node_Words_1_x_l0 f l i acc = some (acc ++ wordsNs l)
  | [], i, acc, _, _ => by simp [node_Words_1_x_l0, wordsNs]
  | n :: l, i, acc, h, hb => by
    simp only [nwts] at hb
    have hle := wordsN_le n
    rw [node_Words_1_x_l0, h n (by simp) acc (by omega)]
    simp only [Option.bind_some]
    rw [words_l0 f l _ _ (fun k hk => h k (by simp [hk])) (by simp; omega)]
    simp [wordsNs]
theorem words_k (n : api_Node) : ∀ kr, ndep n ≤ kr → ∀ acc : Str, acc.length + nwt n ≤ 1099511627776 → node_Words_1_x_k kr n acc = some (acc ++ wordsN n) := by
  induction n using api_Node.ind with
  | h n ih =>
    intro kr hk acc hw
    have hd := ndep_eq n
    obtain ⟨kr, rfl⟩ : ∃ j, kr = j + 1 := ⟨kr - 1, by omega⟩
    have hwt := nwt_eq n
    have hl := nwts_len n.Kids
    rw [node_Words_1_x_k, isText_eq]
    simp only [Option.bind_some]
    by_cases ht : isT n = true
    · simp only [ht, if_true]
      have h1 : strings_Builder_WriteString_x n.Text acc = some ((n.Text.length : Int), acc ++ n.Text) := by
        unfold strings_Builder_WriteString_x strings_Builder_copyCheck_x
        simp only [Option.bind_some]
        rw [app_eq (by omega)]
        rfl
      rw [h1, wordsN_eq, if_pos ht]
      rfl
    · simp only [ht, Bool.false_eq_true, if_false]
      rw [chk_eq (by omega), words_l0 (node_Words_1_x_k kr) n.Kids 0 acc (fun k hkk a ha => ih k hkk kr (by have := ndep_mem hkk; omega) a ha) (by omega), wordsN_eq, if_neg ht]
      rfl
theorem words_eq (n : api_Node) (h : nwt n ≤ 1099511627776) : node_Words n = some (wordsN n) := by
  have h1 : node_Words_1_x n [] = some ([] ++ wordsN n) := by
    unfold node_Words_1_x
    exact lim_of (ndep n) fun kr hk => words_k n kr hk [] (by simpa using h)
  have h2 := wordsN_le n
  unfold node_Words strings_Builder_String_x
  rw [h1]
  simp only [Option.bind_some, List.nil_append]
  rw [chk_eq (by omega)]
  rfl

end Go.Proofs.YtlgjbmgmoaphjaaDoor
