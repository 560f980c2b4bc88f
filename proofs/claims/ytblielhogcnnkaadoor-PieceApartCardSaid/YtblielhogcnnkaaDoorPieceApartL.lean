/- PieceApart, plainly. -/
import Derived.Test.YtblielhogcnnkaaDoorPieceShown
namespace Go.Proofs.YtblielhogcnnkaaDoor
set_option linter.unusedSimpArgs false
set_option linter.unusedVariables false
open Go

theorem apart_l0 (b : place_Spot) : ∀ (suf pre : List Int) (i : Int), i = (pre.length : Int) → b.Path.length = pre.length + suf.length → b.Path.take pre.length = pre → diptychlaw5_PieceApart_l0 b suf i true = some (decide (pre ++ suf = b.Path))
  | [], pre, i, hi, hl, ht => by
    have : pre = b.Path := by
      rw [← ht, List.take_of_length_le]
      simp at hl; omega
    simp [diptychlaw5_PieceApart_l0, this]
  | y :: suf, pre, i, hi, hl, ht => by
    simp only [List.length_cons] at hl
    obtain ⟨x, hx⟩ : ∃ x, b.Path[pre.length]? = some x := ⟨b.Path[pre.length], List.getElem?_eq_getElem (by omega)⟩
    rw [diptychlaw5_PieceApart_l0, hi, rd_nat hx]
    simp only [if_true, Option.bind_some]
    have htk : b.Path.take (pre.length + 1) = pre ++ [x] := by
      rw [List.take_add_one, ht, hx]
      rfl
    by_cases hxy : y = x
    · subst hxy
      simp only [beq_self_eq_true]
      rw [apart_l0 b suf (pre ++ [y]) _ (by simp) (by simp; omega) (by simpa using htk)]
      simp
    · have hn : ¬ pre ++ y :: suf = b.Path := by
        intro h
        rw [← h] at hx
        simp at hx
        exact hxy hx
      have g : (y == x) = false := by simpa using hxy
      rw [g]
      have : ∀ (l : List Int) (j : Int), diptychlaw5_PieceApart_l0 b l j false = some false := by
        intro l j
        cases l <;> simp [diptychlaw5_PieceApart_l0]
      rw [this]
      simp [hn]
theorem apart_eq (a : List Int) (b : place_Spot) : diptychlaw5_PieceApart_l0 b a 0 ((a.length : Int) == (b.Path.length : Int)) = some (decide (a = b.Path)) := by
  by_cases hl : a.length = b.Path.length
  · have g : ((a.length : Int) == (b.Path.length : Int)) = true := by simp; omega
    rw [g, apart_l0 b a [] 0 rfl (by simp [hl]) (by simp)]
    simp
  · have g : ((a.length : Int) == (b.Path.length : Int)) = false := by simp; omega
    have hn : ¬ a = b.Path := fun e => hl (by rw [e])
    rw [g]
    cases a <;> simp [diptychlaw5_PieceApart_l0, hn]
theorem PieceApart_true (l : List diptychlaw5_Cell) (from_ to_ : Int) (hl : l.length ≤ 9223372036854775807) (h : ∀ y ∈ l, cellIn y) (hf : -9223372036854775808 ≤ from_ ∧ from_ ≤ 9223372036854775807) (ht : -9223372036854775808 ≤ to_ ∧ to_ ≤ 9223372036854775807) : diptychlaw5_PieceApart l from_ to_ = some true := by
  obtain ⟨ks, e1, e2⟩ := doc_eq l hl h
  obtain ⟨hn, hw, hd, hz, hs⟩ := doc_rn e2
  have hwk := e2.wt
  obtain ⟨p, p1, p2⟩ := pick_eq from_ ((nsizes ks : Int) + 1) hf (by omega)
  obtain ⟨q, q1, q2⟩ := pick_eq to_ ((nsizes ks : Int) + 1) ht (by omega)
  unfold diptychlaw5_PieceApart
  rw [shown5_eq]
  simp only [Option.bind_some, Bool.not_true, Bool.false_eq_true, if_false]
  rw [e1]
  simp only [Option.bind_some]
  rw [total_eq ks (by omega)]
  simp only [Option.bind_some]
  rw [w64_eq (x := (nsizes ks : Int) + 1) (by omega), p1, q1]
  simp only [Option.bind_some, if_min, if_max]
  have hx : min p q ≤ nsizes ks := by omega
  have hy : max p q ≤ nsizes ks := by omega
  have hxy : min p q ≤ max p q := by omega
  generalize min p q = x at *
  generalize max p q = y at *
  obtain ⟨s, s1, s2⟩ := resolve_eq hn.nt (by omega) x hx
  obtain ⟨t, t1, t2⟩ := resolve_eq hn.nt (by omega) y hy
  have hsl := s2.len
  rw [s1, t1]
  simp only [Option.bind_some]
  rw [chk_eq (by omega), apart_eq]
  simp only [Option.bind_some]
  by_cases he : s.Path = t.Path
  · obtain ⟨q', m, a, X, Y, Z, hF, _⟩ := flat_of hn hxy s2 t2 he
    obtain ⟨c, c1, c2, c3, c4, c5⟩ := cut_eq hn hF
    have hdep := hF.at_.depth
    have hnd := ndep_eq m
    obtain ⟨K, N, _, h1, _⟩ := put_eq hn (by omega) hF (l := []) (by simp) (by simp [nwts]) (by omega) (by simp only [ndeps]; omega) (by simp only [nsizes]; omega)
    rw [c1, h1]
    simp only [Option.bind_some, he, decide_true, Bool.not_true, Bool.false_eq_true, if_false, beq_self_eq_true, if_true]
    rw [total_eq c (by omega)]
    simp only [Option.bind_some]
    have z1 := hF.sx
    have z2 := hF.sy
    have z3 : nsizes c = szI Y := by rw [← szI_items, c3]
    rw [w64_eq (by omega)]
    have : ((nsizes c : Int) == (y : Int) - (x : Int)) = true := by simp; omega
    rw [this]
  · have hwh := where_apart hn hxy s2 s1 t1 he
    have hc : piece_Cut (docN ks) (x : Int) (y : Int) = some ([], 10) := by
      unfold piece_Cut
      rw [hwh]
      rfl
    have hp : piece_Put (docN ks) (x : Int) (y : Int) [] = some (nil0, 10) := by
      unfold piece_Put
      rw [hwh]
      have g1 : ((10 : Int) == 2) = false := rfl
      simp only [Option.bind_some, g1, Bool.false_eq_true, if_false]
      rw [njoin_eq [] (by simp [nwts])]
      simp only [Option.bind_some]
      have e3 : joinR [] = [] := rfl
      rw [e3, check_eq _ (by decide +kernel)]
      have g2 : (checkN (⟨[120], [], [], [], []⟩ : api_Node) == 2) = false := by simpa using x_not2 .nil
      simp only [Option.bind_some, g2, Bool.false_eq_true, if_false]
      rfl
    rw [hc, hp]
    simp only [Option.bind_some, he, decide_false, Bool.not_false, if_true]
    rfl

end Go.Proofs.YtblielhogcnnkaaDoor
