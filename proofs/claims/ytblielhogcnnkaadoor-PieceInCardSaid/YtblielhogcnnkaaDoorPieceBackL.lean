/- PieceBack, PieceIn, plainly. -/
import Derived.Test.YtblielhogcnnkaaDoorPieceFlat
import Derived.Test.YtblielhogcnnkaaDoorNSame
namespace Go.Proofs.YtblielhogcnnkaaDoor
set_option linter.unusedSimpArgs false
set_option linter.unusedVariables false
open Go

theorem rep_self {n : api_Node} {q m a} (h : At n q m a) : repN q n m = n := by
  induction h with
  | nil n => rfl
  | cons n i k q m a hi hn hk h ih =>
    rw [repN_cons hi, ih]
    obtain ⟨_, rfl⟩ := List.getElem?_eq_some_iff.1 hi
    simp only [List.set_getElem_self]
    exact node_eta n
/-- What was there put in again, for something else. -/
theorem back_again {n : api_Node} (hn : RN n) {f t q m a X Y Z} (h : Flat n f t q m a X Y Z) {K K' : List api_Node} (hK' : FRow K') (e : items K' = X ++ (Y ++ Z)) : repN q (repN q n ({ m with Kids := K } : api_Node)) ({ ({ m with Kids := K } : api_Node) with Kids := K' } : api_Node) = n := by
  have hr := kids_row (h.at_.form hn.form) h.nt
  have : K' = m.Kids := frow_ext hK' hr (by rw [e, h.it])
  subst this
  have e2 : ({ ({ m with Kids := K } : api_Node) with Kids := m.Kids } : api_Node) = m := node_eta m
  rw [e2]
  exact rep_back h.at_
theorem PieceBack_true (l : List diptychlaw5_Cell) (from_ to_ : Int) (hl : l.length ≤ 9223372036854775807) (h : ∀ y ∈ l, cellIn y) (hf : -9223372036854775808 ≤ from_ ∧ from_ ≤ 9223372036854775807) (ht : -9223372036854775808 ≤ to_ ∧ to_ ≤ 9223372036854775807) : diptychlaw5_PieceBack l from_ to_ = some true := by
  obtain ⟨ks, e1, e2⟩ := doc_eq l hl h
  obtain ⟨hn, hw, hd, hz, hs⟩ := doc_rn e2
  obtain ⟨f, t, q, m, a, X, Y, Z, f1, hF⟩ := flat_eq hn from_ to_ hf ht
  obtain ⟨c, c1, c2, c3, c4, c5⟩ := cut_eq hn hF
  have hdep := hF.at_.depth
  have hnd := ndep_eq m
  have zc : nsizes c = szI Y := by rw [← szI_items, c3]
  have z1 := hF.sx
  have z2 := hF.sy
  have z3 := hF.at_.sizes
  have z4 : szI X + (szI Y + szI Z) = nsizes m.Kids := by rw [← szI_items, hF.it, szI_app, szI_app]
  -- the same put in its place
  obtain ⟨K1, N1, rfl, a1, a2, a3, a4, _⟩ := put_eq hn (by omega) hF (l := c) c2.form (by omega) (by omega) (by omega) (by omega)
  have hr := kids_row (hF.at_.form hn.form) hF.nt
  have k1 : K1 = m.Kids := frow_ext a2 hr (by rw [a3, c3, hF.it])
  have n1 : repN q (docN ks) ({ m with Kids := K1 } : api_Node) = docN ks := by
    rw [k1, node_eta m]
    exact rep_self hF.at_
  rw [n1] at a1
  -- nothing put in its place
  obtain ⟨K2, N2, en2, b1, b2, b3, b4, b5, b6, b7⟩ := put_eq hn (by omega) hF (l := []) (by simp) (by simp [nwts]) (by omega) (by simp only [ndeps]; omega) (by simp only [nsizes]; omega)
  have hF2 := put_flat hF (l := []) b3
  rw [← en2] at hF2
  simp only [nsizes, Nat.add_zero] at hF2 b7
  simp only [nwts, ndeps, Nat.add_zero] at b5 b6
  -- and put in again
  obtain ⟨K3, N3, en3, d1, d2, d3, d4, _⟩ := put_eq b4 (by omega) hF2 (l := c) c2.form (by omega) (by omega) (by omega) (by have : szI (items []) = 0 := rfl; omega)
  have n3 : N3 = docN ks := by
    rw [en3, en2]
    exact back_again hn hF d2 (by rw [d3, c3])
  rw [n3] at d1
  -- put behind
  have hF4 : Flat (docN ks) t t q m a (X ++ Y) [] Z := ⟨hF.at_, hF.nt, by rw [hF.it]; simp, by rw [szI_app]; omega, by simp [szI]⟩
  obtain ⟨K4, N4, en4, g1, g2, g3, g4, g5, g6, g7⟩ := put_eq hn (by omega) hF4 (l := c) c2.form (by omega) (by omega) (by omega) (by simp only [szI]; omega)
  simp only [szI, Nat.add_zero] at g7
  unfold diptychlaw5_PieceBack
  rw [shown5_eq]
  simp only [Option.bind_some, Bool.not_true, Bool.false_eq_true, if_false]
  rw [e1]
  simp only [Option.bind_some]
  rw [f1]
  simp only [Option.bind_some]
  rw [c1]
  simp only [Option.bind_some]
  rw [a1, b1]
  simp only [Option.bind_some]
  rw [d1, g1]
  simp only [Option.bind_some, beq_self_eq_true, if_true]
  rw [total_eq c (by omega)]
  simp only [Option.bind_some]
  have ew : (t : Int) - (f : Int) = (szI Y : Int) := by omega
  rw [ew, w64_eq (x := (szI Y : Int)) (by omega), zc]
  simp only [beq_self_eq_true, if_true]
  rw [nsame_eq _ (by omega)]
  simp only [Option.bind_some, if_true]
  rw [size_eq N2 (by omega), size_eq (docN ks) (by omega)]
  simp only [Option.bind_some]
  rw [w64_eq (x := (nsize (docN ks) : Int) - (szI Y : Int)) (by omega)]
  have g5' : ((nsize N2 : Int) == (nsize (docN ks) : Int) - (szI Y : Int)) = true := by simp only [beq_iff_eq]; omega
  simp only [g5', if_true]
  rw [size_eq N4 (by omega)]
  simp only [Option.bind_some]
  rw [w64_eq (by omega)]
  have g6' : ((nsize N4 : Int) == (nsize (docN ks) : Int) + (szI Y : Int)) = true := by simp only [beq_iff_eq]; omega
  rw [g6']

theorem PieceIn_true (l k : List diptychlaw5_Cell) (from_ to_ : Int) (hl : l.length ≤ 9223372036854775807) (h : ∀ y ∈ l, cellIn y) (hk : k.length ≤ 9223372036854775807) (hk' : ∀ y ∈ k, cellIn y) (hf : -9223372036854775808 ≤ from_ ∧ from_ ≤ 9223372036854775807) (ht : -9223372036854775808 ≤ to_ ∧ to_ ≤ 9223372036854775807) : diptychlaw5_PieceIn l k from_ to_ = some true := by
  obtain ⟨ks, e1, e2⟩ := doc_eq l hl h
  obtain ⟨hn, hw, hd, hz, hs⟩ := doc_rn e2
  obtain ⟨js, j1, j2⟩ := made_eq k hk hk'
  have hj : FRow js := mn_row j2.mn j2.adj
  have hjw := j2.wt
  have hjd := j2.dep
  have hjs := nsizes_le' js
  obtain ⟨f, t, q, m, a, X, Y, Z, f1, hF⟩ := flat_eq hn from_ to_ hf ht
  obtain ⟨c, c1, c2, c3, c4, c5⟩ := cut_eq hn hF
  have hdep := hF.at_.depth
  have hnd := ndep_eq m
  have zc : nsizes c = szI Y := by rw [← szI_items, c3]
  have z1 := hF.sx
  have z2 := hF.sy
  have z3 := hF.at_.sizes
  have z5 : nsizes (docN ks).Kids = nsizes ks := rfl
  have z4 : szI X + (szI Y + szI Z) = nsizes m.Kids := by rw [← szI_items, hF.it, szI_app, szI_app]
  obtain ⟨K1, N1, en1, a1, a2, a3, a4, a5, a6, a7⟩ := put_eq hn (by omega) hF (l := js) hj.form (by omega) (by omega) (by omega) (by omega)
  have hF1 := put_flat hF (l := js) a3
  rw [← en1] at hF1
  obtain ⟨c', c1', c2', c3', c4', c5'⟩ := cut_eq a4 hF1
  have ec : c' = js := frow_ext c2' hj c3'
  rw [ec] at c1'
  obtain ⟨K2, N2, en2, b1, b2, b3, b4, _⟩ := put_eq a4 (by omega) hF1 (l := c) c2.form (by omega) (by omega) (by omega) (by have := szI_items js; omega)
  have n2 : N2 = docN ks := by
    rw [en2, en1]
    exact back_again hn hF b2 (by rw [b3, c3])
  rw [n2] at b1
  unfold diptychlaw5_PieceIn
  rw [shown5_eq]
  simp only [Option.bind_some, Bool.not_true, Bool.false_eq_true, if_false]
  rw [e1]
  simp only [Option.bind_some]
  rw [f1]
  simp only [Option.bind_some]
  rw [j1]
  simp only [Option.bind_some]
  rw [c1, a1]
  simp only [Option.bind_some]
  rw [total_eq js (by omega)]
  simp only [Option.bind_some]
  have ew : w64 ((f : Int) + (nsizes js : Int)) = ((f + nsizes js : Nat) : Int) := by rw [w64_eq (by omega)]; omega
  rw [ew, c1', b1]
  simp only [Option.bind_some, beq_self_eq_true, if_true]
  rw [rsameAll_eq js (by omega)]
  simp only [Option.bind_some, if_true]
  rw [nsame_eq _ (by omega)]
  simp only [Option.bind_some, if_true]
  rw [size_eq N1 (by omega), size_eq (docN ks) (by omega)]
  simp only [Option.bind_some]
  have ew1 : (t : Int) - (f : Int) = (szI Y : Int) := by omega
  rw [ew1, w64_eq (x := (szI Y : Int)) (by omega), w64_eq (x := (nsize (docN ks) : Int) - (szI Y : Int)) (by omega), w64_eq (by omega)]
  have g5' : ((nsize N1 : Int) == (nsize (docN ks) : Int) - (szI Y : Int) + (nsizes js : Int)) = true := by simp only [beq_iff_eq]; omega
  simp only [g5', if_true]
  rw [right_eq N1 (by omega), a4.ok]
  rfl

end Go.Proofs.YtblielhogcnnkaaDoor
