/- Tokens, plainly: what nodes are as tokens. -/
import Derived.Test.YtblielhogcnnkaaDoorQuote
namespace Go.Proofs.YtblielhogcnnkaaDoor
set_option linter.unusedSimpArgs false
set_option linter.unusedVariables false
open Go

/-! ### Code points of a text -/
def rpos (s : Str) : Nat → Nat → List Int
  | 0, _ => []
  | f + 1, pos => if pos < s.length then runeAt s pos :: rpos s f (pos + runeW s pos) else []
theorem runesFrom_rpos (s : Str) (g : Value → Int) (hg : ∀ n, g (.int .i32 n) = n) : ∀ (f pos : Nat) (acc : Array Value), (Conv.runesFrom ⟨s.toArray⟩ f pos acc).toList.map g = acc.toList.map g ++ rpos s f pos
  | 0, pos, acc => by simp [Conv.runesFrom, rpos]
  | f + 1, pos, acc => by
    unfold Conv.runesFrom rpos
    have hz : ByteArray.size ⟨s.toArray⟩ = s.length := by simp [ByteArray.size]
    by_cases h : pos < s.length
    · rw [if_pos (by rw [hz]; exact h), if_pos h, runesFrom_rpos s g hg f]
      simp only [Array.toList_push, List.map_append, List.map_cons, List.map_nil, hg, List.append_assoc, List.cons_append, List.nil_append]
      rfl
    · rw [if_neg (by rw [hz]; exact h), if_neg h]
      simp
theorem runes_rpos (s : Str) : runes s = rpos s s.length 0 := by
  unfold runes
  rw [runesFrom_rpos s _ (fun _ => rfl)]
  rfl
theorem rpos_len (s : Str) : ∀ (f pos : Nat), (rpos s f pos).length = Lib.runeCountFrom ⟨s.toArray⟩ f pos
  | 0, pos => rfl
  | f + 1, pos => by
    have hz : ByteArray.size ⟨s.toArray⟩ = s.length := by simp [ByteArray.size]
    unfold rpos Lib.runeCountFrom
    by_cases h : pos < s.length
    · rw [if_pos h, if_pos (by rw [hz]; exact h), List.length_cons, rpos_len s f]
      simp only [runeW]
      omega
    · rw [if_neg h, if_neg (by rw [hz]; exact h)]
      rfl
theorem runes_len (s : Str) : (runes s).length = rlen s := by
  rw [runes_rpos, rpos_len, rlen, Lib.runeCountL, Lib.runeCount]
  simp [ByteArray.size]

/-! ### Tokens -/
def signs (h : Str) (l : List Int) : List token_Token := l.map fun c => ⟨116, rune1 c, h⟩
abbrev tEnd : token_Token := ⟨99, [], []⟩
mutual
def tokN : api_Node → List token_Token
  | ⟨k, t, m, a, ks⟩ => if (k == sText) = true then signs (hd ⟨k, t, m, a, ks⟩) (runes t) else ⟨111, [], hd ⟨k, t, m, a, ks⟩⟩ :: (toksL ks ++ [tEnd])
def toksL : List api_Node → List token_Token
  | [] => []
  | n :: l => tokN n ++ toksL l
end
theorem tokN_text {n : api_Node} (h : isT n = true) : tokN n = signs (hd n) (runes n.Text) := by
  cases n
  have h' := h
  simp only [isT] at h'
  simp only [tokN]
  rw [if_pos h']
theorem tokN_node {n : api_Node} (h : isT n = false) : tokN n = ⟨111, [], hd n⟩ :: (toksL n.Kids ++ [tEnd]) := by
  cases n
  have h' := h
  simp only [isT] at h'
  simp only [tokN]
  rw [if_neg (by rw [h']; simp)]
theorem toksL_app (a b : List api_Node) : toksL (a ++ b) = toksL a ++ toksL b := by
  induction a with
  | nil => simp [toksL]
  | cons n a ih => simp only [List.cons_append, toksL, ih, List.append_assoc]
theorem toksL_len' : ∀ (l : List api_Node), (∀ n ∈ l, (tokN n).length = nsize n) → (toksL l).length = nsizes l
  | [], _ => by simp [toksL, nsizes]
  | n :: l, h => by
    simp only [toksL, nsizes, List.length_append, h n (by simp), toksL_len' l fun k hk => h k (by simp [hk])]
theorem tokN_len (n : api_Node) : (tokN n).length = nsize n := by
  induction n using api_Node.ind with
  | h n ih =>
    rw [nsize_eq]
    by_cases ht : isT n = true
    · rw [if_pos ht, tokN_text ht, signs, List.length_map, runes_len]
    · rw [if_neg ht, tokN_node (by simpa using ht)]
      simp only [List.length_cons, List.length_append, List.length_nil, toksL_len' n.Kids ih]
      omega
theorem toksL_len (l : List api_Node) : (toksL l).length = nsizes l := toksL_len' l fun n _ => tokN_len n

/-! ### Of -/
theorem of_l7 (y : api_Node) (hy : nwt y ≤ 1073741824) : ∀ (f k : Nat) (out : List token_Token) (pos : Nat), y.Text.length - pos ≤ f → f < k → (out.length + f) * 40 ≤ 140737488355328 → token_Of_l7 y k out pos = some (out ++ signs (hd y) (rpos y.Text f pos))
  | 0, k, out, pos, h1, h2, _ => by
    obtain ⟨k, rfl⟩ : ∃ j, k = j + 1 := ⟨k - 1, by omega⟩
    have : ¬ pos < y.Text.length := by omega
    simp [token_Of_l7, this, rpos, signs]
  | f + 1, k, out, pos, h1, h2, h3 => by
    obtain ⟨k, rfl⟩ : ∃ j, k = j + 1 := ⟨k - 1, by omega⟩
    rw [token_Of_l7, rpos]
    by_cases hp : pos < y.Text.length
    · have hw := Lib.decode_width_pos ⟨y.Text.toArray⟩ pos (by simpa [ByteArray.size] using hp)
      have hw' : 1 ≤ runeW y.Text pos := hw
      simp only [hp, decide_true, if_true, Option.bind_some]
      rw [head_eq y hy]
      simp only [Option.bind_some]
      rw [app_eq (by simp; omega)]
      simp only [Option.bind_some]
      rw [of_l7 y hy f k _ _ (by omega) (by omega) (by simp; omega)]
      simp [signs]
    · simp only [hp, decide_false, Bool.false_eq_true, if_false, Option.bind_some]
      simp [signs]
theorem of_text (y : api_Node) (hy : nwt y ≤ 1073741824) (out : List token_Token) (h : (out.length + y.Text.length) * 40 ≤ 140737488355328) : (lim fun k => token_Of_l7 y k out 0) = some (out ++ signs (hd y) (runes y.Text)) := by
  refine lim_of (y.Text.length + 1) fun k hk => ?_
  rw [of_l7 y hy y.Text.length k out 0 (by omega) (by omega) h, runes_rpos]

theorem of_l0 (f : List api_Node → Option (List token_Token)) : ∀ (l : List api_Node) (i : Int) (out : List token_Token), (∀ n ∈ l, isT n = false → f n.Kids = some (toksL n.Kids)) → (out.length + nwts l) * 40 ≤ 140737488355328 → nwts l ≤ 1073741824 → token_Of_l0 f l i out = some (out ++ toksL l)
  | [], i, out, _, _, _ => by simp [token_Of_l0, toksL]
  | n :: l, i, out, hf, hb, hw => by
    simp only [nwts] at hb hw
    have hwt := nwt_eq n
    have hn : nwt n ≤ 1073741824 := by omega
    have hsz := tokN_len n
    have hle := nsize_le n
    rw [token_Of_l0]
    by_cases ht : isT n = true
    · simp only [isT_def', ht, if_true]
      rw [of_text n hn out (by omega)]
      simp only [Option.bind_some]
      rw [← tokN_text ht, of_l0 f l _ _ (fun k hk => hf k (by simp [hk])) (by simp only [List.length_append]; omega) (by omega)]
      simp [toksL]
    · have ht' : isT n = false := by simpa using ht
      have hk := toksL_len n.Kids
      have hns := size_node ht'
      simp only [isT_def', ht', Bool.false_eq_true, if_false]
      rw [head_eq n hn]
      simp only [Option.bind_some]
      rw [app_eq (by simp only [List.length_cons, List.length_nil]; omega), ]
      simp only [Option.bind_some]
      rw [hf n (by simp) ht']
      simp only [Option.bind_some]
      rw [app_eq (by simp only [List.length_cons, List.length_nil, List.length_append]; omega)]
      simp only [Option.bind_some]
      rw [app_eq (by simp only [List.length_cons, List.length_nil, List.length_append]; omega)]
      simp only [Option.bind_some]
      rw [of_l0 f l _ _ (fun k hk => hf k (by simp [hk])) (by simp only [List.length_cons, List.length_nil, List.length_append]; omega) (by omega)]
      simp [toksL, tokN_node ht']

theorem of_k : ∀ (d : Nat) (l : List api_Node), ndeps l ≤ d → nwts l ≤ 1073741824 → ∀ kr, d + 1 ≤ kr → token_Of_k kr l = some (toksL l)
  | d, l, hd, hw, kr, hk => by
    obtain ⟨kr, rfl⟩ : ∃ j, kr = j + 1 := ⟨kr - 1, by omega⟩
    have hl := nwts_len l
    rw [token_Of_k, chk_eq (by omega), of_l0 (token_Of_k kr) l 0 [] (fun n hn ht => ?_) (by simp; omega) hw]
    · simp
    · have h1 := ndep_mem hn
      have h2 := ndep_eq n
      have h3 := nwt_mem hn
      have h4 := nwts_kids n
      obtain ⟨d, rfl⟩ : ∃ j, d = j + 1 := ⟨d - 1, by omega⟩
      exact of_k d n.Kids (by omega) (by omega) kr (by omega)
theorem of_eq (l : List api_Node) (hw : nwts l ≤ 1073741824) : token_Of l = some (toksL l) := by
  unfold token_Of
  exact lim_of (ndeps l + 1) fun kr hk => of_k (ndeps l) l (Nat.le_refl _) hw kr hk

end Go.Proofs.YtblielhogcnnkaaDoor
