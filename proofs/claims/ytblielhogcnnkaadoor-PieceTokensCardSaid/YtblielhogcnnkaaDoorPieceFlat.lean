/- Two positions that are one piece, as chapter 5's laws pick them. -/
import Derived.Test.YtblielhogcnnkaaDoorPieceShown
namespace Go.Proofs.YtblielhogcnnkaaDoor
set_option linter.unusedSimpArgs false
set_option linter.unusedVariables false
open Go

theorem SpotOk.uniq {n : api_Node} {s t p} (h : SpotOk n s p) (h' : SpotOk n t p) : s = t := by
  obtain ⟨q, m, a, i, r, rfl, h1, hm, b1, b2, b3, b4⟩ := h
  obtain ⟨q', m', a', i', r', rfl, h1', hm', c1, c2, c3, c4⟩ := h'
  obtain ⟨rfl, rfl, rfl⟩ := spot_uniq h1 h1' hm hm' ⟨b1, b3, b4⟩ ⟨c1, c3, c4⟩ (by omega)
  rfl
theorem same4_l0 (b : List Int) : ∀ (suf pre : List Int) (i : Int), i = (pre.length : Int) → b.length = pre.length + suf.length → b.take pre.length = pre → diptychref4_same_l0 b suf i = some (if pre ++ suf = b then .inr () else .inl false)
  | [], pre, i, hi, hl, ht => by
    have : pre = b := by
      rw [← ht, List.take_of_length_le]
      simp at hl; omega
    simp [diptychref4_same_l0, this]
  | y :: suf, pre, i, hi, hl, ht => by
    simp only [List.length_cons] at hl
    obtain ⟨x, hx⟩ : ∃ x, b[pre.length]? = some x := ⟨b[pre.length], List.getElem?_eq_getElem (by omega)⟩
    rw [diptychref4_same_l0, hi, rd_nat hx]
    simp only [Option.bind_some]
    have htk : b.take (pre.length + 1) = pre ++ [x] := by
      rw [List.take_add_one, ht, hx]
      rfl
    by_cases hxy : y = x
    · subst hxy
      simp only [bne_self_eq_false, Bool.false_eq_true, if_false]
      rw [same4_l0 b suf (pre ++ [y]) _ (by simp) (by simp; omega) (by simpa using htk)]
      simp
    · have hn : ¬ pre ++ y :: suf = b := by
        intro h
        rw [← h] at hx
        simp at hx
        exact hxy hx
      have g : (y != x) = true := by simpa using hxy
      rw [if_pos g, if_neg hn]
theorem same4_eq (a b : List Int) (h : a.length ≤ 9223372036854775807) : diptychref4_same a b = some (decide (a = b)) := by
  unfold diptychref4_same
  by_cases hl : a.length = b.length
  · simp only [hl, bne_self_eq_false, Bool.false_eq_true, if_false]
    rw [chk_eq (by omega), same4_l0 b a [] 0 rfl (by simp [hl]) (by simp)]
    by_cases e : a = b <;> simp [e]
  · have h1 : ((a.length : Int) != (b.length : Int)) = true := by simp; omega
    have h2 : ¬ a = b := fun e => hl (by rw [e])
    rw [if_pos h1]
    simp [h2]
theorem flat_l0 {n : api_Node} (hn : isT n = false) (hw : nwt n ≤ 1099511627776) {p : Nat} {s} (hs : SpotOk n s p) (hp : p ≤ nsizes n.Kids) : ∀ (d b : Nat), b ≤ nsizes n.Kids → (b - p) + (p - b) ≤ d → ∃ b' : Nat, b' ≤ nsizes n.Kids ∧ (∀ s', SpotOk n s' b' → s'.Path = s.Path) ∧ ∀ k, d < k → diptychlaw5_flat_l0 n (p : Int) s k (b : Int) = some (b' : Int)
  | 0, b, hb, hd => by
    have e : b = p := by omega
    subst e
    refine ⟨b, hb, fun s' h' => by rw [hs.uniq h'], fun k hk => ?_⟩
    obtain ⟨k, rfl⟩ : ∃ j, k = j + 1 := ⟨k - 1, by omega⟩
    rw [diptychlaw5_flat_l0]
    simp
  | d + 1, b, hb, hd => by
    have h3 := nsizes_le' n.Kids
    have h4 := nwts_kids n
    by_cases e : b = p
    · subst e
      refine ⟨b, hb, fun s' h' => by rw [hs.uniq h'], fun k hk => ?_⟩
      obtain ⟨k, rfl⟩ : ∃ j, k = j + 1 := ⟨k - 1, by omega⟩
      rw [diptychlaw5_flat_l0]
      simp
    · obtain ⟨t, t1, t2⟩ := resolve_eq hn hw b hb
      have g1 : ((b : Int) != (p : Int)) = true := by simp; omega
      have hl := hs.len
      by_cases he : s.Path = t.Path
      · refine ⟨b, hb, fun s' h' => by rw [← t2.uniq h', he], fun k hk => ?_⟩
        obtain ⟨k, rfl⟩ : ∃ j, k = j + 1 := ⟨k - 1, by omega⟩
        rw [diptychlaw5_flat_l0]
        simp only [g1, if_true]
        rw [t1]
        simp only [Option.bind_some]
        unfold diptychref4_Same
        rw [same4_eq _ _ (by show s.Path.length ≤ _; omega)]
        simp [he]
      · have key : ∀ b2 : Nat, b2 ≤ nsizes n.Kids → (b2 - p) + (p - b2) ≤ d → (if decide ((b : Int) < (p : Int)) = true then w64 ((b : Int) + 1) else w64 ((b : Int) - 1)) = (b2 : Int) → ∃ b' : Nat, b' ≤ nsizes n.Kids ∧ (∀ s', SpotOk n s' b' → s'.Path = s.Path) ∧ ∀ k, d + 1 < k → diptychlaw5_flat_l0 n (p : Int) s k (b : Int) = some (b' : Int) := by
          intro b2 x1 x2 x3
          obtain ⟨b', y1, y2, y3⟩ := flat_l0 hn hw hs hp d b2 x1 x2
          refine ⟨b', y1, y2, fun k hk => ?_⟩
          obtain ⟨k, rfl⟩ : ∃ j, k = j + 1 := ⟨k - 1, by omega⟩
          rw [diptychlaw5_flat_l0]
          simp only [g1, if_true]
          rw [t1]
          simp only [Option.bind_some]
          have hS : diptychref4_Same ({ Path := s.Path, Index := (0 : Int), Offset := (0 : Int) } : diptychref4_Spot) ({ Path := t.Path, Index := (0 : Int), Offset := (0 : Int) } : diptychref4_Spot) = some false := by
            unfold diptychref4_Same
            rw [same4_eq _ _ (by show s.Path.length ≤ _; omega)]
            simp [he]
          rw [hS]
          simp only [Option.bind_some, Bool.false_eq_true, if_false]
          by_cases hlt : (b : Int) < (p : Int)
          · simp only [hlt, decide_true, if_true] at x3 ⊢
            rw [x3]
            exact y3 k (by omega)
          · simp only [hlt, decide_false, Bool.false_eq_true, if_false] at x3 ⊢
            rw [x3]
            exact y3 k (by omega)
        rcases Nat.lt_or_ge b p with hlt | hge
        · refine key (b + 1) (by omega) (by omega) ?_
          have : ((b : Int) < (p : Int)) := by omega
          simp only [this, decide_true, if_true]
          rw [w64_eq (by omega)]
          omega
        · refine key (b - 1) (by omega) (by omega) ?_
          have : ¬ ((b : Int) < (p : Int)) := by omega
          simp only [this, decide_false, Bool.false_eq_true, if_false]
          rw [w64_eq (by omega)]
          omega
theorem flat_eq {n : api_Node} (hn : RN n) (from_ to_ : Int) (hf : -9223372036854775808 ≤ from_ ∧ from_ ≤ 9223372036854775807) (ht : -9223372036854775808 ≤ to_ ∧ to_ ≤ 9223372036854775807) : ∃ (f t : Nat) (q : List Nat) (m : api_Node) (a : Nat) (X Y Z : List It), diptychlaw5_flat n from_ to_ = some ((f : Int), (t : Int)) ∧ Flat n f t q m a X Y Z := by
  have hw := hn.wt
  have h3 := nsizes_le' n.Kids
  have h4 := nwts_kids n
  obtain ⟨p, p1, p2⟩ := pick_eq from_ ((nsizes n.Kids : Int) + 1) hf (by omega)
  obtain ⟨r, r1, r2⟩ := pick_eq to_ ((nsizes n.Kids : Int) + 1) ht (by omega)
  obtain ⟨s, s1, s2⟩ := resolve_eq hn.nt (by omega) p (by omega)
  obtain ⟨b, b1, b2, b3⟩ := flat_l0 hn.nt (by omega) s2 (by omega) ((r - p) + (p - r)) r (by omega) (Nat.le_refl _)
  obtain ⟨t, t1, t2⟩ := resolve_eq hn.nt (by omega) b b1
  have hpath := b2 t t2
  have e : diptychlaw5_flat n from_ to_ = some (((min p b : Nat) : Int), ((max p b : Nat) : Int)) := by
    unfold diptychlaw5_flat
    rw [total_eq _ (by omega)]
    simp only [Option.bind_some]
    rw [w64_eq (x := (nsizes n.Kids : Int) + 1) (by omega), p1, r1]
    simp only [Option.bind_some]
    rw [s1]
    simp only [Option.bind_some]
    rw [lim_of ((r - p) + (p - r) + 1) fun k hk => b3 k (by omega)]
    simp only [Option.bind_some, if_min, if_max]
  rcases Nat.le_total p b with hle | hle
  · obtain ⟨q, m, a, X, Y, Z, hF, _⟩ := flat_of hn hle s2 t2 hpath.symm
    exact ⟨p, b, q, m, a, X, Y, Z, by rw [e, Nat.min_eq_left hle, Nat.max_eq_right hle], hF⟩
  · obtain ⟨q, m, a, X, Y, Z, hF, _⟩ := flat_of hn hle t2 s2 hpath
    exact ⟨b, p, q, m, a, X, Y, Z, by rw [e, Nat.min_eq_right hle, Nat.max_eq_left hle], hF⟩

end Go.Proofs.YtblielhogcnnkaaDoor
