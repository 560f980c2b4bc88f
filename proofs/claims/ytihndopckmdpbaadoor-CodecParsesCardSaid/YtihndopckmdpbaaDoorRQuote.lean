/- Quoted texts and heads: the reference's. -/
import Derived.Test.YtihndopckmdpbaaDoorQuote
namespace Go.Proofs.YtihndopckmdpbaaDoor
set_option linter.unusedSimpArgs false
set_option linter.unusedVariables false
open Go

theorem rquote_l0 (s : Str) : ∀ (f i k : Nat) (out : Str), i + f = s.length → f < k → out.length + 2 * f ≤ 4611686018427387904 → s.length ≤ 1099511627776 → diptychref2_Quote_l0 s k out (i : Int) = some (out ++ esc (s.drop i))
  | 0, i, k, out, h1, h2, _, _ => by
    obtain ⟨k, rfl⟩ : ∃ x, k = x + 1 := ⟨k - 1, by omega⟩
    have hd : decide ((i : Int) < (s.length : Int)) = false := by simp; omega
    rw [diptychref2_Quote_l0]
    simp only [hd, Bool.false_eq_true, if_false]
    rw [List.drop_of_length_le (by omega)]
    simp [esc]
  | f + 1, i, k, out, h1, h2, h3, h4 => by
    obtain ⟨k, rfl⟩ : ∃ x, k = x + 1 := ⟨k - 1, by omega⟩
    have hi : i < s.length := by omega
    have hd : decide ((i : Int) < (s.length : Int)) = true := by simp; omega
    have hb : s.drop i = s[i] :: s.drop (i + 1) := List.drop_eq_getElem_cons hi
    have hg : s.getD ((i : Int)).toNat 0 = s[i] := by simp [List.getD, hi]
    have hsl : sl s (i : Int) (w64 ((i : Int) + 1)) = some [s[i]] := by
      rw [w64_eq (by omega)]
      have := sl_nat (l := s) (a := i) (b := i + 1) (by omega) (by omega)
      have e : (i : Int) + 1 = ((i + 1 : Nat) : Int) := by omega
      rw [e, this, List.drop_take, hb, show i + 1 - i = 1 by omega]
      rfl
    have e : w64 ((i : Int) + 1) = ((i + 1 : Nat) : Int) := by rw [w64_eq (by omega)]; omega
    have ih := fun out' h => rquote_l0 s f (i + 1) k out' (by omega) (by omega) h h4
    rw [diptychref2_Quote_l0]
    simp only [hd, if_true]
    rw [chk_eq (by omega), hg, hsl, e, hb, esc_cons]
    have hnat : ∀ m : Nat, (((s[i].toNat : Int) == (m : Int)) = true ↔ s[i].toNat = m) := fun m => by
      rw [beq_iff_eq]; omega
    by_cases c1 : s[i] = 34
    · have g1 : ((s[i].toNat : Int) == 34) = true := by rw [c1]; rfl
      simp only [g1, if_true]
      rw [chk_eq (by simp; omega)]
      simp only [Option.bind_some]
      rw [chk_eq (by simp; omega), ih _ (by simp; omega)]
      simp [esc1, c1]
    · have g1 : ((s[i].toNat : Int) == 34) = false := by
        rw [Bool.eq_false_iff]
        intro h
        exact c1 (UInt8.toNat_inj.1 (by have := (hnat 34).1 h; simpa using this))
      by_cases c2 : s[i] = 92
      · have g2 : ((s[i].toNat : Int) == 92) = true := by rw [c2]; rfl
        simp only [g1, g2, Bool.false_eq_true, if_false, if_true]
        rw [chk_eq (by omega), chk_eq (by simp; omega)]
        simp only [Option.bind_some]
        rw [chk_eq (by simp; omega), ih _ (by simp; omega)]
        simp [esc1, c2]
      · have g2 : ((s[i].toNat : Int) == 92) = false := by
          rw [Bool.eq_false_iff]
          intro h
          exact c2 (UInt8.toNat_inj.1 (by have := (hnat 92).1 h; simpa using this))
        simp only [g1, g2, Bool.false_eq_true, if_false]
        rw [chk_eq (by omega)]
        simp only [Option.bind_some]
        rw [chk_eq (by simp; omega), ih _ (by simp; omega)]
        simp [esc1, c1, c2]
theorem rquote_eq (s : Str) (h : s.length ≤ 1073741824) : diptychref2_Quote s = some (qt s) := by
  have he := esc_le s
  have h0 : (lim fun k => diptychref2_Quote_l0 s k [34] 0) = some ([34] ++ esc s) :=
    lim_of (s.length + 1) fun k hk => by
      have := rquote_l0 s s.length 0 k [34] (by omega) (by omega) (by simp; omega) (by omega)
      simpa using this
  unfold diptychref2_Quote
  rw [h0]
  simp only [Option.bind_some]
  rw [chk_eq (by simp; omega)]
  rfl

theorem rhead_l0 : ∀ (l : List Str) (i : Int) (s : Str), 0 < i → s.length + strsW l ≤ 4611686018427387904 → diptychref2_Head_l0 l i s = some (s ++ Lib.joinTail [44] l)
  | [], i, s, _, _ => by simp [diptychref2_Head_l0, Lib.joinTail]
  | x :: l, i, s, hi, h => by
    simp only [strsW] at h
    have g : decide (i > 0) = true := by simpa using hi
    rw [diptychref2_Head_l0]
    simp only [g, if_true]
    rw [chk_eq (by simp; omega), chk_eq (by simp; omega), rhead_l0 l _ _ (by omega) (by simp; omega), joinTail_cons]
    simp
theorem rhead_l0' (l : List Str) (h : strsW l ≤ 1073741824) : diptychref2_Head_l0 l 0 [] = some (Lib.join l [44]) := by
  cases l with
  | nil => rfl
  | cons x l =>
    simp only [strsW] at h
    rw [diptychref2_Head_l0, if_neg (by decide), chk_eq (by simp; omega), rhead_l0 l _ _ (by omega) (by simp; omega), Lib.join_cons]
    simp
theorem rhead_l1 : ∀ (l : List api_Attr) (i : Int) (s : Str), 0 < i → s.length + 4 * attrsW l ≤ 4611686018427387904 → attrsW l ≤ 1073741824 → diptychref2_Head_l1 l i s = some (s ++ Lib.joinTail [32] (l.map atx))
  | [], i, s, _, _, _ => by simp [diptychref2_Head_l1, Lib.joinTail]
  | x :: l, i, s, hi, h, h' => by
    simp only [attrsW] at h h'
    have g : decide (i > 0) = true := by simpa using hi
    have hq := qt_le x.Value
    rw [diptychref2_Head_l1]
    simp only [g, if_true]
    rw [chk_eq (by simp; omega), chk_eq (by simp; omega), chk_eq (by simp; omega), rquote_eq _ (by omega)]
    simp only [Option.bind_some]
    rw [chk_eq (by simp; omega), rhead_l1 l _ _ (by omega) (by simp; omega) (by omega), List.map_cons, joinTail_cons]
    simp [atx]
theorem rhead_l1' (l : List api_Attr) (h : attrsW l ≤ 1073741824) : diptychref2_Head_l1 l 0 [] = some (Lib.join (l.map atx) [32]) := by
  cases l with
  | nil => rfl
  | cons x l =>
    simp only [attrsW] at h
    have hq := qt_le x.Value
    rw [diptychref2_Head_l1, if_neg (by decide), chk_eq (by simp; omega), chk_eq (by simp; omega), rquote_eq _ (by omega)]
    simp only [Option.bind_some]
    rw [chk_eq (by simp; omega), rhead_l1 l _ _ (by omega) (by simp; omega) (by omega), List.map_cons, Lib.join_cons]
    simp [atx]
theorem rhead_eq (n : api_Node) (h : nwt n ≤ 1073741824) : diptychref2_Head n = some (hd n) := by
  have hw := nwt_eq n
  have hm := strsW_len' n.Marks
  have ha := attrsW_len' n.Attrs
  unfold diptychref2_Head hd
  rw [isT_def']
  by_cases ht : isT n = true
  · simp only [ht, if_true]
    have hj := join_le 44 n.Marks
    rw [chk_eq (by omega), rhead_l0' _ (by omega)]
    simp only [Option.bind_some]
    by_cases hm0 : n.Marks = []
    · simp [hm0, Lib.join]
    · have g : decide ((n.Marks.length : Int) > 0) = true := by
        have := List.length_pos_iff.2 hm0
        simp; omega
      simp only [g, if_true, hm0, if_false]
      rw [chk_eq (by simp; omega), chk_eq (by simp; omega)]
      rfl
  · simp only [ht, Bool.false_eq_true, if_false]
    have hj := join_le 32 (n.Attrs.map atx)
    have hj2 := atxs_le n.Attrs
    rw [chk_eq (by omega), rhead_l1' _ (by omega)]
    simp only [Option.bind_some]
    by_cases ha0 : n.Attrs = []
    · have e : Lib.join [] [32] = [] := rfl
      simp only [ha0, if_true, List.map_nil, e, List.length_nil, List.append_nil]
      rw [if_neg (by decide), chk_eq (by simp; omega)]
    · have g : decide ((n.Attrs.length : Int) > 0) = true := by
        have := List.length_pos_iff.2 ha0
        simp; omega
      simp only [g, if_true, ha0, if_false]
      rw [chk_eq (by simp; omega), chk_eq (by simp; omega), chk_eq (by simp; omega)]
      simp

end Go.Proofs.YtihndopckmdpbaaDoor
