/- Quoted texts, and heads of nodes, plainly: the program's and the reference's. -/
import Derived.Test.YtclohbgnaopjfaaDoorNodeBase
import Derived.Lib.Replace
import Derived.Lib.Join
namespace Go.Proofs.YtclohbgnaopjfaaDoor
set_option linter.unusedSimpArgs false
set_option linter.unusedVariables false
open Go

theorem isT_def' (n : api_Node) : (n.Kind == ([116, 101, 120, 116] : Str)) = isT n := rfl

/-! ### One byte in the place of another -/
def sub1 (c : UInt8) (new : Str) (s : Str) : Str := s.flatMap fun b => if b = c then new else [b]
theorem replaceK_one (c : UInt8) (new : Str) : ∀ s : Str, Lib.replaceK [c] new (Lib.count s [c]) s = sub1 c new s
  | [] => by rw [Lib.count_miss (by simp [Lib.index])]; rfl
  | b :: l => by
    have ih := replaceK_one c new l
    by_cases h : b = c
    · subst h
      have hix : Lib.index (b :: l) [b] = ((0 : Nat) : Int) := by rw [Lib.index]; simp [List.isPrefixOf]
      rw [Lib.count_cons_eq, Nat.add_comm, Lib.replaceK_hit _ _ _ _ 0 hix]
      simp [ih, sub1]
    · rw [Lib.count_cons_ne b c l h]
      have hp : ([c] : List UInt8).isPrefixOf (b :: l) = false := by simp [List.isPrefixOf, Ne.symm h]
      have hix : Lib.index (b :: l) [c] = if Lib.index l [c] == -1 then -1 else Lib.index l [c] + 1 := by rw [Lib.index, hp]; simp
      cases hk : Lib.count l [c] with
      | zero =>
        rw [hk] at ih
        have e : l = sub1 c new l := ih
        show b :: l = sub1 c new (b :: l)
        have e2 : sub1 c new (b :: l) = b :: sub1 c new l := by simp [sub1, h]
        rw [e2, ← e]
      | succ k =>
        obtain ⟨j, hj⟩ := Lib.index_of_count (s := l) (old := [c]) (by omega)
        have hj' : Lib.index (b :: l) [c] = ((j + 1 : Nat) : Int) := by
          have hge := Lib.index_ge l [c]
          rw [hix, if_neg (by simp; omega), hj]; omega
        rw [hk, Lib.replaceK_hit _ _ _ _ j hj] at ih
        rw [Lib.replaceK_hit _ _ _ _ (j + 1) hj']
        have e2 : sub1 c new (b :: l) = b :: sub1 c new l := by simp [sub1, h]
        rw [e2, ← ih]
        simp
theorem replaceAll_one (c : UInt8) (new : Str) (s : Str) (h : ([c] : Str) ≠ new) : Lib.replaceAll s [c] new = sub1 c new s := by
  unfold Lib.replaceAll Lib.replace
  rw [if_neg (by simpa using h)]
  have : Lib.replaceNum s [c] (-1) = Lib.count s [c] := by simp [Lib.replaceNum]
  rw [this, replaceK_one]
theorem count_le1 (c : UInt8) (s : Str) : Lib.count s [c] ≤ s.length := by rw [Lib.count_one]; exact List.count_le_length

/-! ### Quoted texts -/
def esc1 (b : UInt8) : Str := if b = 34 ∨ b = 92 then [92, b] else [b]
def esc (s : Str) : Str := s.flatMap esc1
def qt (s : Str) : Str := 34 :: (esc s ++ [34])
theorem esc_cons (b : UInt8) (s : Str) : esc (b :: s) = esc1 b ++ esc s := by simp [esc]
theorem esc_app (s t : Str) : esc (s ++ t) = esc s ++ esc t := by simp [esc]
theorem esc_le (s : Str) : (esc s).length ≤ 2 * s.length := by
  induction s with
  | nil => simp [esc]
  | cons b s ih => rw [esc_cons]; simp only [List.length_append, esc1, List.length_cons]; split <;> simp <;> omega
theorem qt_le (s : Str) : (qt s).length ≤ 2 * s.length + 2 := by have := esc_le s; simp [qt]; omega
theorem esc_two (s : Str) : sub1 34 [92, 34] (sub1 92 [92, 92] s) = esc s := by
  induction s with
  | nil => rfl
  | cons b s ih =>
    have e1 : sub1 92 [92, 92] (b :: s) = (if b = 92 then [92, 92] else [b]) ++ sub1 92 [92, 92] s := rfl
    have e2 : ∀ x y : Str, sub1 34 [92, 34] (x ++ y) = sub1 34 [92, 34] x ++ sub1 34 [92, 34] y := fun x y => by simp [sub1]
    rw [e1, e2, ih, esc_cons]
    congr 1
    by_cases h : b = 92
    · subst h; simp [sub1, esc1]
    · by_cases h2 : b = 34
      · subst h2; simp [sub1, esc1]
      · simp [sub1, esc1, h, h2]
theorem sub1_le (c : UInt8) (x y : UInt8) (s : Str) : (sub1 c [x, y] s).length ≤ 2 * s.length := by
  induction s with
  | nil => simp [sub1]
  | cons b s ih =>
    have e1 : sub1 c [x, y] (b :: s) = (if b = c then [x, y] else [b]) ++ sub1 c [x, y] s := rfl
    rw [e1, List.length_append, List.length_cons]
    split <;> simp <;> omega
theorem quote_eq (s : Str) (h : s.length ≤ 1073741824) : codec_Quote s = some (qt s) := by
  have hc : ∀ (c : UInt8) (t : Str), Lib.countB (ba t) (ba [c]) ≤ t.length := fun c t => by
    have := count_le1 c t
    simpa [Lib.countB] using this
  have h1 := hc 92 s
  have hl := sub1_le 92 92 92 s
  have h2 := hc 34 (sub1 92 [92, 92] s)
  have he := esc_le s
  unfold codec_Quote strings_ReplaceAll
  rw [chk_eq (by simp only [List.length_cons, List.length_nil]; omega), replaceAll_one _ _ _ (by simp)]
  simp only [Option.bind_some]
  rw [chk_eq (by simp only [List.length_cons, List.length_nil]; omega), replaceAll_one _ _ _ (by simp), esc_two]
  simp only [Option.bind_some]
  rw [chk_eq (by simp; omega), chk_eq (by simp; omega)]
  rfl

/-! ### Heads -/
def atx (a : api_Attr) : Str := a.Name ++ 61 :: qt a.Value
def hd (n : api_Node) : Str :=
  if isT n = true then (if n.Marks = [] then [] else 60 :: (Lib.join n.Marks [44] ++ [62]))
  else if n.Attrs = [] then n.Kind else n.Kind ++ 40 :: (Lib.join (n.Attrs.map atx) [32] ++ [41])

theorem joinTail_cons (sep x : Str) (r : List Str) : Lib.joinTail sep (x :: r) = sep ++ x ++ Lib.joinTail sep r := by simp [Lib.joinTail]
theorem joinTail_le (c : UInt8) (l : List Str) : (Lib.joinTail [c] l).length ≤ strsW l := by
  induction l with
  | nil => simp [Lib.joinTail]
  | cons s l ih => rw [joinTail_cons]; simp only [List.length_append, List.length_cons, List.length_nil, strsW]; omega
theorem join_le (c : UInt8) (l : List Str) : (Lib.join l [c]).length ≤ strsW l := by
  cases l with
  | nil => simp [Lib.join]
  | cons s l => rw [Lib.join_cons]; have := joinTail_le c l; simp only [List.length_append, strsW]; omega
theorem strsW_len' (l : List Str) : l.length ≤ strsW l := by
  induction l with
  | nil => simp
  | cons s l ih => simp only [List.length_cons, strsW]; omega
theorem attrsW_len' (l : List api_Attr) : l.length ≤ attrsW l := by
  induction l with
  | nil => simp
  | cons s l ih => simp only [List.length_cons, attrsW]; omega
theorem atx_le (a : api_Attr) : (atx a).length ≤ a.Name.length + 2 * a.Value.length + 3 := by
  have := qt_le a.Value
  simp only [atx, List.length_append, List.length_cons]; omega
theorem atxs_le (l : List api_Attr) : strsW (l.map atx) ≤ 4 * attrsW l := by
  induction l with
  | nil => simp [strsW]
  | cons a l ih => have := atx_le a; simp only [List.map_cons, strsW, attrsW]; omega

theorem sjoin_eq (l : List Str) (sep : Str) (h1 : l.length ≤ 140737488355328) (h2 : (Lib.join l sep).length ≤ 140737488355328) : strings_Join l sep = some (Lib.join l sep) := by
  unfold strings_Join; rw [chk_eq ⟨h1, h2⟩]

theorem head_l0 : ∀ (l : List api_Attr) (i : Int) (out : List Str), out.length + attrsW l ≤ 1073741824 → codec_Head_l0 l i out = some (out ++ l.map atx)
  | [], i, out, _ => by simp [codec_Head_l0]
  | a :: l, i, out, h => by
    simp only [attrsW] at h
    have hq := qt_le a.Value
    rw [codec_Head_l0, chk_eq (by simp; omega), quote_eq _ (by omega)]
    simp only [Option.bind_some]
    rw [chk_eq (by simp; omega), app_eq (by simp; omega)]
    simp only [Option.bind_some]
    rw [head_l0 l _ _ (by simp; omega)]
    simp [atx]
theorem head_eq (n : api_Node) (h : nwt n ≤ 1073741824) : codec_Head n = some (hd n) := by
  have hw := nwt_eq n
  have hm := strsW_len' n.Marks
  have ha := attrsW_len' n.Attrs
  unfold codec_Head hd
  rw [isT_def']
  by_cases ht : isT n = true
  · simp only [ht, if_true]
    have hj := join_le 44 n.Marks
    by_cases hm0 : n.Marks = []
    · simp [hm0]
    · have g : ((n.Marks.length : Int) == 0) = false := by simpa using hm0
      simp only [g, Bool.false_eq_true, if_false, hm0]
      rw [sjoin_eq _ _ (by omega) (by omega)]
      simp only [Option.bind_some]
      rw [chk_eq (by simp; omega), chk_eq (by simp; omega)]
      rfl
  · simp only [ht, Bool.false_eq_true, if_false]
    have hj := join_le 32 (n.Attrs.map atx)
    have hj2 := atxs_le n.Attrs
    by_cases ha0 : n.Attrs = []
    · simp [ha0]
    · have g : ((n.Attrs.length : Int) == 0) = false := by simpa using ha0
      simp only [g, Bool.false_eq_true, if_false, ha0]
      rw [chk_eq (by omega), head_l0 _ _ _ (by simp; omega)]
      simp only [Option.bind_some, List.nil_append]
      rw [chk_eq (by simp; omega), sjoin_eq _ _ (by simp; omega) (by omega)]
      simp only [Option.bind_some]
      rw [chk_eq (by simp; omega), chk_eq (by simp; omega)]
      simp

end Go.Proofs.YtclohbgnaopjfaaDoor
