/- PieceTwice, plainly. -/
import Derived.Test.YtblielhogcnnkaaDoorPieceShown
import Derived.Test.YtblielhogcnnkaaDoorNSame
namespace Go.Proofs.YtblielhogcnnkaaDoor
set_option linter.unusedSimpArgs false
set_option linter.unusedVariables false
open Go

/-- Something put into a row. -/
def spl {α : Type} (l : List α) (i : Nat) (x : List α) : List α := l.take i ++ (x ++ l.drop i)
theorem spl_of {α : Type} {l P S : List α} (h : l = P ++ S) (x : List α) : P ++ (x ++ S) = spl l P.length x := by
  subst h
  simp [spl]
theorem spl_two {α : Type} (l x y : List α) {i j : Nat} (h : i ≤ j) (hj : j ≤ l.length) : spl (spl l i x) (j + x.length) y = spl (spl l j y) i x := by
  have hi : (l.take i).length = i := by rw [List.length_take]; omega
  have e1 : (spl l i x).take (j + x.length) = l.take i ++ (x ++ (l.drop i).take (j - i)) := by
    unfold spl
    rw [List.take_append, hi, List.take_of_length_le (by omega)]
    congr 1
    rw [List.take_append, List.take_of_length_le (by omega)]
    congr 2
    omega
  have e2 : (spl l i x).drop (j + x.length) = l.drop j := by
    unfold spl
    rw [List.drop_append, hi, List.drop_of_length_le (by omega), List.drop_append, List.drop_of_length_le (by omega), List.drop_drop]
    simp only [List.nil_append]
    congr 1
    omega
  have e3 : (spl l j y).take i = l.take i := by
    unfold spl
    rw [List.take_append, List.take_take, List.length_take]
    have : i - min j l.length = 0 := by omega
    rw [this, Nat.min_eq_left h]
    simp
  have e4 : (spl l j y).drop i = (l.drop i).take (j - i) ++ (y ++ l.drop j) := by
    unfold spl
    rw [List.drop_append, List.length_take]
    have : i - min j l.length = 0 := by omega
    rw [this, List.drop_zero, List.drop_take]
  unfold spl at e1 e2 e3 e4 ⊢
  rw [e1, e2, e3, e4]
  simp only [List.append_assoc]
abbrev one5 : api_Node := tN [111, 110, 101] [[122]]
abbrev two5 : api_Node := tN [116, 119, 111] [[121]]
theorem put_one {n : api_Node} (hn : RN n) (hw : nwt n ≤ 100000) (hd : ndep n ≤ 30) (hs : nsize n ≤ 3000) (f : Nat) (hf : f ≤ nsizes n.Kids) (x : api_Node) (hx : formB x = true) (h1 : nwt x ≤ 1000) (h2 : ndep x ≤ 1) (h3 : nsize x ≤ 10) :
    ∃ N, piece_Put n (f : Int) (f : Int) [x] = some (N, 0) ∧ RN N ∧ nwt N ≤ 2 * nwt n + nwt x ∧ ndep N ≤ 32 ∧ nsize N = nsize n + nsize x ∧ N.Kind = n.Kind ∧ N.Attrs = n.Attrs ∧ tkL N.Kids = spl (tkL n.Kids) f (tkN x) ∧ (ndep n ≤ 20 → ndep N ≤ 22) := by
  obtain ⟨q, m, a, X, Z, hF⟩ := flat_one hn hf
  have hdep := hF.at_.depth
  have hnd := ndep_eq m
  have e1 : nwts [x] = nwt x := by simp [nwts]
  have e2 : ndeps [x] = ndep x := by simp [ndeps]
  have e3 : nsizes [x] = nsize x := by simp [nsizes]
  obtain ⟨K, N, rfl, b1, b2, b3, b4, b5, b6, b7⟩ := put_eq hn (by omega) hF (l := [x]) (fun y hy => by simp at hy; rw [hy]; exact hx) (by omega) (by omega) (by omega) (by simp only [szI]; omega)
  obtain ⟨P, S, t1, t2, t3, t4⟩ := put_tk hF b3
  obtain ⟨k1, k2, _, _⟩ := rep_kind (x := ({ m with Kids := K } : api_Node)) hF.at_ rfl rfl rfl rfl
  refine ⟨_, b1, b4, by omega, by omega, by simp only [szI] at b7; omega, k1, k2, ?_, by omega⟩
  have : tkI ([] : List It) = [] := rfl
  rw [this, List.nil_append] at t3
  have e4 : tkL [x] = tkN x := by simp [tkL]
  rw [t4, e4, spl_of t3, t1]
theorem PieceTwice_true (l : List diptychlaw5_Cell) (from_ to_ : Int) (hl : l.length ≤ 9223372036854775807) (h : ∀ y ∈ l, cellIn y) (hf : -9223372036854775808 ≤ from_ ∧ from_ ≤ 9223372036854775807) (ht : -9223372036854775808 ≤ to_ ∧ to_ ≤ 9223372036854775807) : diptychlaw5_PieceTwice l from_ to_ = some true := by
  obtain ⟨ks, e1, e2⟩ := doc_eq l hl h
  obtain ⟨hn, hw, hd, hz, hs⟩ := doc_rn e2
  have hwk := e2.wt
  obtain ⟨p, p1, p2⟩ := pick_eq from_ ((nsizes ks : Int) + 1) hf (by omega)
  obtain ⟨q, q1, q2⟩ := pick_eq to_ ((nsizes ks : Int) + 1) ht (by omega)
  unfold diptychlaw5_PieceTwice
  rw [shown5_eq]
  simp only [Option.bind_some, Bool.not_true, Bool.false_eq_true, if_false]
  rw [e1]
  simp only [Option.bind_some]
  rw [total_eq ks (by omega)]
  simp only [Option.bind_some]
  rw [w64_eq (x := (nsizes ks : Int) + 1) (by omega), p1, q1]
  simp only [Option.bind_some]
  by_cases hpq : (p : Int) ≥ (q : Int)
  · simp [hpq]
  · simp only [hpq, decide_false, Bool.false_eq_true, if_false]
    have o1 : formB one5 = true := by decide +kernel
    have o2 : formB two5 = true := by decide +kernel
    have o3 : nsize one5 = 3 := by decide +kernel
    have o4 : nsize two5 = 3 := by decide +kernel
    have o5 : ndep one5 = 1 := by decide +kernel
    have o6 : ndep two5 = 1 := by decide +kernel
    have o7 : nwt one5 ≤ 20 := by decide +kernel
    have o8 : nwt two5 ≤ 20 := by decide +kernel
    obtain ⟨A, a1, a2, a3, a4, a5, a6, a7, a8, a9⟩ := put_one hn (by omega) (by omega) (by omega) p (by show p ≤ nsizes ks; omega) one5 o1 (by omega) (by omega) (by omega)
    have a9' := a9 hd
    have sA := size_node a2.nt
    obtain ⟨B, b1, b2, b3, b4, b5, b6, b7, b8, _⟩ := put_one a2 (by omega) (by omega) (by omega) (q + 3) (by omega) two5 o2 (by omega) (by omega) (by omega)
    obtain ⟨C, c1, c2, c3, c4, c5, c6, c7, c8, c9⟩ := put_one hn (by omega) (by omega) (by omega) q (by show q ≤ nsizes ks; omega) two5 o2 (by omega) (by omega) (by omega)
    have c9' := c9 hd
    have sC := size_node c2.nt
    obtain ⟨D, d1, d2, d3, d4, d5, d6, d7, d8, _⟩ := put_one c2 (by omega) (by omega) (by omega) p (by omega) one5 o1 (by omega) (by omega) (by omega)
    have ew : w64 ((q : Int) + 3) = ((q + 3 : Nat) : Int) := by rw [w64_eq (by omega)]; omega
    rw [a1]
    simp only [Option.bind_some]
    rw [ew, b1]
    simp only [Option.bind_some]
    rw [c1]
    simp only [Option.bind_some]
    rw [d1]
    simp only [Option.bind_some, beq_self_eq_true, if_true]
    have hBD : B = D := by
      refine doc_ext b2 d2 (by rw [b6, a6, d6, c6]) (by rw [b7, a7, d7, c7]) ?_
      rw [b8, a8, d8, c8]
      have h3 : (tkN one5).length = 3 := by rw [tkN_len, o3]
      have := spl_two (tkL (docN ks).Kids) (tkN one5) (tkN two5) (i := p) (j := q) (by omega) (by rw [tkL_len]; show q ≤ nsizes ks; omega)
      rw [h3] at this
      exact this
    rw [hBD, nsame_eq D (by omega)]
    rfl

end Go.Proofs.YtblielhogcnnkaaDoor
