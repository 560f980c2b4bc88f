/- How nodes are written, plainly. -/
import Derived.Test.YtclohbgnaopjfaaDoorQuote
namespace Go.Proofs.YtclohbgnaopjfaaDoor
set_option linter.unusedSimpArgs false
set_option linter.unusedVariables false
open Go

mutual
def writeN : api_Node → Str
  | ⟨k, t, m, a, ks⟩ => if (k == sText) = true then qt t ++ hd ⟨k, t, m, a, ks⟩ else hd ⟨k, t, m, a, ks⟩ ++ 91 :: (writeL ks ++ [93])
def writeL : List api_Node → Str
  | [] => []
  | n :: l => writeN n ++ writeL l
end
theorem writeN_eq (n : api_Node) : writeN n = if isT n = true then qt n.Text ++ hd n else hd n ++ 91 :: (writeL n.Kids ++ [93]) := by cases n; simp only [writeN, isT]; rfl
theorem writeL_app (a b : List api_Node) : writeL (a ++ b) = writeL a ++ writeL b := by
  induction a with
  | nil => simp [writeL]
  | cons n a ih => simp only [List.cons_append, writeL, ih, List.append_assoc]
theorem hd_le (n : api_Node) : (hd n).length ≤ n.Kind.length + strsW n.Marks + 4 * attrsW n.Attrs + 2 := by
  unfold hd
  have h1 := join_le 44 n.Marks
  have h2 := join_le 32 (n.Attrs.map atx)
  have h3 := atxs_le n.Attrs
  repeat' split
  all_goals first
    | omega
    | (simp only [List.length_append, List.length_cons, List.length_nil]; omega)
theorem writeL_le : ∀ (l : List api_Node), (∀ n ∈ l, (writeN n).length ≤ 4 * nwt n) → (writeL l).length ≤ 4 * nwts l
  | [], _ => by simp [writeL, nwts]
  | n :: l, h => by
    have h1 := h n (by simp)
    have h2 := writeL_le l fun x hx => h x (by simp [hx])
    simp only [writeL, nwts, List.length_append]; omega
theorem writeN_le (n : api_Node) : (writeN n).length ≤ 4 * nwt n := by
  induction n using api_Node.ind with
  | h n ih =>
    have h1 := writeL_le n.Kids ih
    have h2 := nwt_eq n
    have h3 := hd_le n
    have h4 := qt_le n.Text
    rw [writeN_eq]
    split
    · simp only [List.length_append]; omega
    · simp only [List.length_append, List.length_cons, List.length_nil]; omega

theorem wstr_eq (s acc : Str) (h : acc.length + s.length ≤ 140737488355328) : strings_Builder_WriteString_x s acc = some ((s.length : Int), acc ++ s) := by
  unfold strings_Builder_WriteString_x strings_Builder_copyCheck_x
  simp only [Option.bind_some]
  rw [app_eq (by omega)]
  rfl
theorem write_l0 (f : api_Node → Str → Option Str) : ∀ (l : List api_Node) (i : Int) (acc : Str), (∀ k ∈ l, ∀ a : Str, a.length + 4 * nwt k ≤ 4294967296 → f k a = some (a ++ writeN k)) → acc.length + 4 * nwts l ≤ 4294967296 →
    codec_write_x_l0 f l i acc = some (acc ++ writeL l)
  | [], i, acc, _, _ => by simp [codec_write_x_l0, writeL]
  | n :: l, i, acc, h, hb => by
    simp only [nwts] at hb
    have hle := writeN_le n
    rw [codec_write_x_l0, h n (by simp) acc (by omega)]
    simp only [Option.bind_some]
    rw [write_l0 f l _ _ (fun k hk => h k (by simp [hk])) (by simp; omega)]
    simp [writeL]
theorem write_k (n : api_Node) : nwt n ≤ 1073741824 → ∀ kr, ndep n ≤ kr → ∀ acc : Str, acc.length + 4 * nwt n ≤ 4294967296 → codec_write_x_k kr n acc = some (acc ++ writeN n) := by
  induction n using api_Node.ind with
  | h n ih =>
    intro hw kr hk acc ha
    have hd' := ndep_eq n
    obtain ⟨kr, rfl⟩ : ∃ j, kr = j + 1 := ⟨kr - 1, by omega⟩
    have hwt := nwt_eq n
    have hl := nwts_len n.Kids
    have hh := hd_le n
    have hq := qt_le n.Text
    have en : (n.Kind == ([116, 101, 120, 116] : Str)) = isT n := rfl
    rw [codec_write_x_k, en, writeN_eq]
    by_cases ht : isT n = true
    · simp only [ht, if_true]
      rw [quote_eq _ (by omega)]
      simp only [Option.bind_some]
      rw [head_eq n hw]
      simp only [Option.bind_some]
      rw [chk_eq (by omega), wstr_eq _ _ (by simp; omega)]
      rfl
    · simp only [ht, Bool.false_eq_true, if_false]
      rw [head_eq n hw]
      simp only [Option.bind_some]
      rw [chk_eq (by simp; omega), wstr_eq _ _ (by simp; omega)]
      simp only [Option.bind_some]
      have hwl := writeL_le n.Kids fun k _ => writeN_le k
      rw [chk_eq (by omega), write_l0 (codec_write_x_k kr) n.Kids 0 _ (fun k hkk a ha => ih k hkk (by have := nwt_mem hkk; omega) kr (by have := ndep_mem hkk; omega) a ha) (by simp; omega)]
      simp only [Option.bind_some]
      rw [wstr_eq _ _ (by simp; omega)]
      simp
theorem write_eq (n : api_Node) (h : nwt n ≤ 1073741824) : codec_write_x n [] = some (writeN n) := by
  unfold codec_write_x
  have : (lim fun kr => codec_write_x_k kr n []) = some ([] ++ writeN n) := lim_of (ndep n) fun kr hk => write_k n h kr hk [] (by simp; omega)
  exact this

end Go.Proofs.YtclohbgnaopjfaaDoor
