/- Quoted texts, and heads of nodes, plainly: the program's and the reference's. -/
import Derived.Test.YtlgjbmgmoaphjaaDoorNodeBase
import Derived.Lib.Replace
import Derived.Lib.Join
namespace Go.Proofs.YtlgjbmgmoaphjaaDoor
set_option linter.unusedSimpArgs false
set_option linter.unusedVariables false
open Go

theorem isT_def' (n : api_Node) : (n.Kind == ([116, 101, 120, 116] : Str)) = isT n := rfl

/-! ### One byte in the place of another -/
def sub1 (c : UInt8) (new : Str) (s : Str) : Str := s.flatMap fun b => if b = c then new else [b]
theorem replaceK_one (c : UInt8) (new : Str) : ∀ s : Str, Lib.replaceK [c] new (Lib.count s [c]) s = sub1 c new s
  | [] => by rw [Lib.count_miss (by simp [Lib.index])]; rfl
  | b :: l => by
    have ih := replaceK_one c new l
    by_cases h : b = c
    · subst h
      have hix : Lib.index (b :: l) [b] = ((0 : Nat) : Int) := by rw [Lib.index]; simp [List.isPrefixOf]
      rw [Lib.count_cons_eq, Nat.add_comm, Lib.replaceK_hit _ _ _ _ 0 hix]
      simp [ih, sub1]
    · rw [Lib.count_cons_ne b c l h]
      have hp : ([c] : List UInt8).isPrefixOf (b :: l) = false := by simp [List.isPrefixOf, Ne.symm h]
      have hix : Lib.index (b :: l) [c] = if Lib.index l [c] == -1 then -1 else Lib.index l [c] + 1 := by rw [Lib.index, hp]; simp
      cases hk : Lib.count l [c] with
      | zero =>
        rw [hk] at ih
        have e : l = sub1 c new l := ih
        show b :: l = sub1 c new (b :: l)
        have e2 : sub1 c new (b :: l) = b :: sub1 c new l := by simp [sub1, h]
        rw [e2, ← e]
      | succ k =>
        obtain ⟨j, hj⟩ := Lib.index_of_count (s := l) (old := [c]) (by omega)
        have hj' : Lib.index (b :: l) [c] = ((j + 1 : Nat) : Int) := by
          have hge := Lib.index_ge l [c]
          rw [hix, if_neg (by simp; omega), hj]; omega
        rw [hk, Lib.replaceK_hit _ _ _ _ j hj] at ih
        rw [Lib.replaceK_hit _ _ _ _ (j + 1) hj']
        have e2 : sub1 c new (b :: l) = b :: sub1 c new l := by simp [sub1, h]
        rw [e2, ← ih]
        simp
theorem replaceAll_one (c : UInt8) (new : Str) (s : Str) (h : ([c] : Str) ≠ new) : Lib.replaceAll s [c] new = sub1 c new s := by
  unfold Lib.replaceAll Lib.replace
  rw [if_neg (by simpa using h)]
  have : Lib.replaceNum s [c] (-1) = Lib.count s [c] := by simp [Lib.replaceNum]
  rw [this, replaceK_one]
theorem count_le1 (c : UInt8) (s : Str) : Lib.count s [c] ≤ s.length := by rw [Lib.count_one]; exact List.count_le_length

/-! ### Quoted texts -/
def esc1 (b : UInt8) : Str := if b = 34 ∨ b = 92 then [92, b] else [b]
def esc (s : Str) : Str := s.flatMap esc1
def qt (s : Str) : Str := 34 :: (esc s ++ [34])
theorem esc_cons (b : UInt8) (s : Str) : esc (b :: s) = esc1 b ++ esc s := by simp [esc]
theorem esc_app (s t : Str) : esc (s ++ t) = esc s ++ esc t := by simp [esc]
theorem esc_le (s : Str) : (esc s).length ≤ 2 * s.length := by
  induction s with
  | nil => simp [esc]
  | cons b s ih => rw [esc_cons]; simp only [List.length_append, esc1, List.length_cons]; split <;> simp <;> omega
theorem qt_le (s : Str) : (qt s).length ≤ 2 * s.length + 2 := by have := esc_le s; simp [qt]; omega
theorem esc_two (s : Str) : sub1 34 [92, 34] (sub1 92 [92, 92] s) = esc s := by
  induction s with
  | nil => rfl
  | cons b s ih =>
    have e1 : sub1 92 [92, 92] (b :: s) = (if b = 92 then [92, 92] else [b]) ++ sub1 92 [92, 92] s := rfl
    have e2 : ∀ x y : Str, sub1 34 [92, 34] (x ++ y) = sub1 34 [92, 34] x ++ sub1 34 [92, 34] y := fun x y => by simp [sub1]
    rw [e1, e2, ih, esc_cons]
    congr 1
    by_cases h : b = 92
    · subst h; simp [sub1, esc1]
    · by_cases h2 : b = 34
      · subst h2; simp [sub1, esc1]
      · simp [sub1, esc1, h, h2]
theorem sub1_le (c : UInt8) (x y : UInt8) (s : Str) : (sub1 c [x, y] s).length ≤ 2 * s.length := by
  induction s with
  | nil => simp [sub1]
  | cons b s ih =>
    have e1 : sub1 c [x, y] (b :: s) = (if b = c then [x, y] else [b]) ++ sub1 c [x, y] s := rfl
    rw [e1, List.length_append, List.length_cons]
    split <;> simp <;> omega
theorem quote_eq (s : Str) (h : s.length ≤ 1073741824) : codec_Quote s = some (qt s) := by
  have hc : ∀ (c : UInt8) (t : Str), Lib.countB (ba t) (ba [c]) ≤ t.length := fun c t => by
    have := count_le1 c t
    simpa [Lib.countB] using this
  have h1 := hc 92 s
  have hl := sub1_le 92 92 92 s
  have h2 := hc 34 (sub1 92 [92, 92] s)
  have he := esc_le s
  unfold codec_Quote strings_ReplaceAll
  rw [chk_eq (by simp only [List.length_cons, List.length_nil]; omega), replaceAll_one _ _ _ (by simp)]
  simp only [Option.bind_some]
  rw [chk_eq (by simp only [List.length_cons, List.length_nil]; omega), replaceAll_one _ _ _ (by simp), esc_two]
  simp only [Option.bind_some]
  rw [chk_eq (by simp; omega), chk_eq (by simp; omega)]
  rfl

theorem rquote_l0 (s : Str) : ∀ (f i k : Nat) (out : Str), i + f = s.length → f < k → out.length + 2 * f ≤ 4611686018427387904 → s.length ≤ 1099511627776 → diptychref2_Quote_l0 s k out (i : Int) = some (out ++ esc (s.drop i))
  | 0, i, k, out, h1, h2, _, _ => by
    obtain ⟨k, rfl⟩ : ∃ x, k = x + 1 := ⟨k - 1, by omega⟩
    have hd : decide ((i : Int) < (s.length : Int)) = false := by simp; omega
    rw [diptychref2_Quote_l0]
    simp only [hd, Bool.false_eq_true, if_false]
    rw [List.drop_of_length_le (by omega)]
    simp [esc]
  | f + 1, i, k, out, h1, h2, h3, h4 => by
    obtain ⟨k, rfl⟩ : ∃ x, k = x + 1 := ⟨k - 1, by omega⟩
    have hi : i < s.length := by omega
    have hd : decide ((i : Int) < (s.length : Int)) = true := by simp; omega
    have hb : s.drop i = s[i] :: s.drop (i + 1) := List.drop_eq_getElem_cons hi
    have hg : s.getD ((i : Int)).toNat 0 = s[i] := by simp [List.getD, hi]
    have hsl : sl s (i : Int) (w64 ((i : Int) + 1)) = some [s[i]] := by
      rw [w64_eq (by omega)]
      have := sl_nat (l := s) (a := i) (b := i + 1) (by omega) (by omega)
      have e : (i : Int) + 1 = ((i + 1 : Nat) : Int) := by omega
      rw [e, this, List.drop_take, hb, show i + 1 - i = 1 by omega]
      rfl
    have e : w64 ((i : Int) + 1) = ((i + 1 : Nat) : Int) := by rw [w64_eq (by omega)]; omega
    have ih := fun out' h => rquote_l0 s f (i + 1) k out' (by omega) (by omega) h h4
    rw [diptychref2_Quote_l0]
    simp only [hd, if_true]
    rw [chk_eq (by omega), hg, hsl, e, hb, esc_cons]
    have hnat : ∀ m : Nat, (((s[i].toNat : Int) == (m : Int)) = true ↔ s[i].toNat = m) := fun m => by
      rw [beq_iff_eq]; omega
    by_cases c1 : s[i] = 34
    · have g1 : ((s[i].toNat : Int) == 34) = true := by rw [c1]; rfl
      simp only [g1, if_true]
      rw [chk_eq (by simp; omega)]
      simp only [Option.bind_some]
      rw [chk_eq (by simp; omega), ih _ (by simp; omega)]
      simp [esc1, c1]
    · have g1 : ((s[i].toNat : Int) == 34) = false := by
        rw [Bool.eq_false_iff]
        intro h
        exact c1 (UInt8.toNat_inj.1 (by have := (hnat 34).1 h; simpa using this))
      by_cases c2 : s[i] = 92
      · have g2 : ((s[i].toNat : Int) == 92) = true := by rw [c2]; rfl
        simp only [g1, g2, Bool.false_eq_true, if_false, if_true]
        rw [chk_eq (by omega), chk_eq (by simp; omega)]
        simp only [Option.bind_some]
        rw [chk_eq (by simp; omega), ih _ (by simp; omega)]
        simp [esc1, c2]
      · have g2 : ((s[i].toNat : Int) == 92) = false := by
          rw [Bool.eq_false_iff]
          intro h
          exact c2 (UInt8.toNat_inj.1 (by have := (hnat 92).1 h; simpa using this))
        simp only [g1, g2, Bool.false_eq_true, if_false]
        rw [chk_eq (by omega)]
        simp only [Option.bind_some]
        rw [chk_eq (by simp; omega), ih _ (by simp; omega)]
        simp [esc1, c1, c2]
theorem rquote_eq (s : Str) (h : s.length ≤ 1073741824) : diptychref2_Quote s = some (qt s) := by
  have he := esc_le s
  have h0 : (lim fun k => diptychref2_Quote_l0 s k [34] 0) = some ([34] ++ esc s) :=
    lim_of (s.length + 1) fun k hk => by
      have := rquote_l0 s s.length 0 k [34] (by omega) (by omega) (by simp; omega) (by omega)
      simpa using this
  unfold diptychref2_Quote
  rw [h0]
  simp only [Option.bind_some]
  rw [chk_eq (by simp; omega)]
  rfl

/-! ### Heads -/
def atx (a : api_Attr) : Str := a.Name ++ 61 :: qt a.Value
def hd (n : api_Node) : Str :=
  if isT n = true then (if n.Marks = [] then [] else 60 :: (Lib.join n.Marks [44] ++ [62]))
  else if n.Attrs = [] then n.Kind else n.Kind ++ 40 :: (Lib.join (n.Attrs.map atx) [32] ++ [41])

theorem joinTail_cons (sep x : Str) (r : List Str) : Lib.joinTail sep (x :: r) = sep ++ x ++ Lib.joinTail sep r := by simp [Lib.joinTail]
theorem joinTail_le (c : UInt8) (l : List Str) : (Lib.joinTail [c] l).length ≤ strsW l := by
  induction l with
  | nil => simp [Lib.joinTail]
  | cons s l ih => rw [joinTail_cons]; simp only [List.length_append, List.length_cons, List.length_nil, strsW]; omega
theorem join_le (c : UInt8) (l : List Str) : (Lib.join l [c]).length ≤ strsW l := by
  cases l with
  | nil => simp [Lib.join]
  | cons s l => rw [Lib.join_cons]; have := joinTail_le c l; simp only [List.length_append, strsW]; omega
theorem strsW_len' (l : List Str) : l.length ≤ strsW l := by
  induction l with
  | nil => simp
  | cons s l ih => simp only [List.length_cons, strsW]; omega
theorem attrsW_len' (l : List api_Attr) : l.length ≤ attrsW l := by
  induction l with
  | nil => simp
  | cons s l ih => simp only [List.length_cons, attrsW]; omega
theorem atx_le (a : api_Attr) : (atx a).length ≤ a.Name.length + 2 * a.Value.length + 3 := by
  have := qt_le a.Value
  simp only [atx, List.length_append, List.length_cons]; omega
theorem atxs_le (l : List api_Attr) : strsW (l.map atx) ≤ 4 * attrsW l := by
  induction l with
  | nil => simp [strsW]
  | cons a l ih => have := atx_le a; simp only [List.map_cons, strsW, attrsW]; omega

theorem sjoin_eq (l : List Str) (sep : Str) (h1 : l.length ≤ 140737488355328) (h2 : (Lib.join l sep).length ≤ 140737488355328) : strings_Join l sep = some (Lib.join l sep) := by
  unfold strings_Join; rw [chk_eq ⟨h1, h2⟩]

theorem head_l0 : ∀ (l : List api_Attr) (i : Int) (out : List Str), out.length + attrsW l ≤ 1073741824 → codec_Head_l0 l i out = some (out ++ l.map atx)
  | [], i, out, _ => by simp [codec_Head_l0]
  | a :: l, i, out, h => by
    simp only [attrsW] at h
    have hq := qt_le a.Value
    rw [codec_Head_l0, chk_eq (by simp; omega), quote_eq _ (by omega)]
    simp only [Option.bind_some]
    rw [chk_eq (by simp; omega), app_eq (by simp; omega)]
    simp only [Option.bind_some]
    rw [head_l0 l _ _ (by simp; omega)]
    simp [atx]
theorem head_eq (n : api_Node) (h : nwt n ≤ 1073741824) : codec_Head n = some (hd n) := by
  have hw := nwt_eq n
  have hm := strsW_len' n.Marks
  have ha := attrsW_len' n.Attrs
  unfold codec_Head hd
  rw [isT_def']
  by_cases ht : isT n = true
  · simp only [ht, if_true]
    have hj := join_le 44 n.Marks
    by_cases hm0 : n.Marks = []
    · simp [hm0]
    · have g : ((n.Marks.length : Int) == 0) = false := by simpa using hm0
      simp only [g, Bool.false_eq_true, if_false, hm0]
      rw [sjoin_eq _ _ (by omega) (by omega)]
      simp only [Option.bind_some]
      rw [chk_eq (by simp; omega), chk_eq (by simp; omega)]
      rfl
  · simp only [ht, Bool.false_eq_true, if_false]
    have hj := join_le 32 (n.Attrs.map atx)
    have hj2 := atxs_le n.Attrs
    by_cases ha0 : n.Attrs = []
    · simp [ha0]
    · have g : ((n.Attrs.length : Int) == 0) = false := by simpa using ha0
      simp only [g, Bool.false_eq_true, if_false, ha0]
      rw [chk_eq (by omega), head_l0 _ _ _ (by simp; omega)]
      simp only [Option.bind_some, List.nil_append]
      rw [chk_eq (by simp; omega), sjoin_eq _ _ (by simp; omega) (by omega)]
      simp only [Option.bind_some]
      rw [chk_eq (by simp; omega), chk_eq (by simp; omega)]
      simp

theorem rhead_l0 : ∀ (l : List Str) (i : Int) (s : Str), 0 < i → s.length + strsW l ≤ 4611686018427387904 → diptychref2_Head_l0 l i s = some (s ++ Lib.joinTail [44] l)
  | [], i, s, _, _ => by simp [diptychref2_Head_l0, Lib.joinTail]
  | x :: l, i, s, hi, h => by
    simp only [strsW] at h
    have g : decide (i > 0) = true := by simpa using hi
    rw [diptychref2_Head_l0]
    simp only [g, if_true]
    rw [chk_eq (by simp; omega), chk_eq (by simp; omega), rhead_l0 l _ _ (by omega) (by simp; omega), joinTail_cons]
    simp
theorem rhead_l0' (l : List Str) (h : strsW l ≤ 1073741824) : diptychref2_Head_l0 l 0 [] = some (Lib.join l [44]) := by
  cases l with
  | nil => rfl
  | cons x l =>
    simp only [strsW] at h
    rw [diptychref2_Head_l0, if_neg (by decide), chk_eq (by simp; omega), rhead_l0 l _ _ (by omega) (by simp; omega), Lib.join_cons]
    simp
theorem rhead_l1 : ∀ (l : List api_Attr) (i : Int) (s : Str), 0 < i → s.length + 4 * attrsW l ≤ 4611686018427387904 → attrsW l ≤ 1073741824 → diptychref2_Head_l1 l i s = some (s ++ Lib.joinTail [32] (l.map atx))
  | [], i, s, _, _, _ => by simp [diptychref2_Head_l1, Lib.joinTail]
  | x :: l, i, s, hi, h, h' => by
    simp only [attrsW] at h h'
    have g : decide (i > 0) = true := by simpa using hi
    have hq := qt_le x.Value
    rw [diptychref2_Head_l1]
    simp only [g, if_true]
    rw [chk_eq (by simp; omega), chk_eq (by simp; omega), chk_eq (by simp; omega), rquote_eq _ (by omega)]
    simp only [Option.bind_some]
    rw [chk_eq (by simp; omega), rhead_l1 l _ _ (by omega) (by simp; omega) (by omega), List.map_cons, joinTail_cons]
    simp [atx]
theorem rhead_l1' (l : List api_Attr) (h : attrsW l ≤ 1073741824) : diptychref2_Head_l1 l 0 [] = some (Lib.join (l.map atx) [32]) := by
  cases l with
  | nil => rfl
  | cons x l =>
    simp only [attrsW] at h
    have hq := qt_le x.Value
    rw [diptychref2_Head_l1, if_neg (by decide), chk_eq (by simp; omega), chk_eq (by simp; omega), rquote_eq _ (by omega)]
    simp only [Option.bind_some]
    rw [chk_eq (by simp; omega), rhead_l1 l _ _ (by omega) (by simp; omega) (by omega), List.map_cons, Lib.join_cons]
    simp [atx]
theorem rhead_eq (n : api_Node) (h : nwt n ≤ 1073741824) : diptychref2_Head n = some (hd n) := by
  have hw := nwt_eq n
  have hm := strsW_len' n.Marks
  have ha := attrsW_len' n.Attrs
  unfold diptychref2_Head hd
  rw [isT_def']
  by_cases ht : isT n = true
  · simp only [ht, if_true]
    have hj := join_le 44 n.Marks
    rw [chk_eq (by omega), rhead_l0' _ (by omega)]
    simp only [Option.bind_some]
    by_cases hm0 : n.Marks = []
    · simp [hm0, Lib.join]
    · have g : decide ((n.Marks.length : Int) > 0) = true := by
        have := List.length_pos_iff.2 hm0
        simp; omega
      simp only [g, if_true, hm0, if_false]
      rw [chk_eq (by simp; omega), chk_eq (by simp; omega)]
      rfl
  · simp only [ht, Bool.false_eq_true, if_false]
    have hj := join_le 32 (n.Attrs.map atx)
    have hj2 := atxs_le n.Attrs
    rw [chk_eq (by omega), rhead_l1' _ (by omega)]
    simp only [Option.bind_some]
    by_cases ha0 : n.Attrs = []
    · have e : Lib.join [] [32] = [] := rfl
      simp only [ha0, if_true, List.map_nil, e, List.length_nil, List.append_nil]
      rw [if_neg (by decide), chk_eq (by simp; omega)]
    · have g : decide ((n.Attrs.length : Int) > 0) = true := by
        have := List.length_pos_iff.2 ha0
        simp; omega
      simp only [g, if_true, ha0, if_false]
      rw [chk_eq (by simp; omega), chk_eq (by simp; omega), chk_eq (by simp; omega)]
      simp

end Go.Proofs.YtlgjbmgmoaphjaaDoor
