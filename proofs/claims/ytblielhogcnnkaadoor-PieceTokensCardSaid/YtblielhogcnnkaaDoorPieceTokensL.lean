/- PieceTokens, plainly. -/
import Derived.Test.YtblielhogcnnkaaDoorPieceFlat
import Derived.Test.YtblielhogcnnkaaDoorTok
namespace Go.Proofs.YtblielhogcnnkaaDoor
set_option linter.unusedSimpArgs false
set_option linter.unusedVariables false
open Go

/-- A sign, a beginning, an end, as a token. -/
def tkT : Tk → token_Token
  | .sgn c m => ⟨116, rune1 c, hd ⟨sText, [], m, [], []⟩⟩
  | .opn k a => ⟨111, [], hd ⟨k, [], [], a, []⟩⟩
  | .cls => tEnd
theorem hd_text {n : api_Node} (h : isT n = true) : hd n = hd ⟨sText, [], n.Marks, [], []⟩ := by
  have h2 : isT (⟨sText, [], n.Marks, [], []⟩ : api_Node) = true := rfl
  unfold hd
  rw [if_pos h, if_pos h2]
theorem hd_node {n : api_Node} (h : isT n = false) : hd n = hd ⟨n.Kind, [], [], n.Attrs, []⟩ := by
  have h2 : isT (⟨n.Kind, [], [], n.Attrs, []⟩ : api_Node) = false := h
  unfold hd
  simp only [h, h2, Bool.false_eq_true, if_false]
theorem toks_tk (n : api_Node) : tokN n = (tkN n).map tkT := by
  induction n using api_Node.ind with
  | h n ih =>
    rw [tkN_eq]
    cases ht : isT n with
    | true =>
      rw [tokN_text ht]
      simp only [if_true, List.map_map, signs]
      refine List.map_congr_left fun c _ => ?_
      simp only [Function.comp, tkT]
      rw [hd_text ht]
    | false =>
      rw [tokN_node ht]
      have key : ∀ l : List api_Node, (∀ k ∈ l, tokN k = (tkN k).map tkT) → toksL l = (tkL l).map tkT := by
        intro l
        induction l with
        | nil => intro _; simp [toksL, tkL]
        | cons x l ihl =>
          intro hl
          rw [toksL, tkL, List.map_append, hl x (by simp), ihl fun k hk => hl k (by simp [hk])]
      rw [key n.Kids ih]
      simp only [Bool.false_eq_true, if_false, List.map_cons, List.map_append, List.map_nil, tkT]
      rw [hd_node ht]
theorem toksL_tk (l : List api_Node) : toksL l = (tkL l).map tkT := by
  induction l with
  | nil => simp [toksL, tkL]
  | cons x l ih => rw [toksL, tkL, List.map_append, toks_tk, ih]
theorem ptok_l0 (P S A B Y : List token_Token) (f t : Nat) (hA : A = P ++ (Y ++ S)) (hf : f = P.length) (ht : t = P.length + Y.length) (hb : A.length + B.length ≤ 1099511627776) : ∀ (suf pre : List token_Token), P ++ (B ++ S) = pre ++ suf → diptychlaw5_PieceTokens_l0 (f : Int) (t : Int) A B suf (pre.length : Int) = some (.inr ())
  | [], pre, _ => rfl
  | y :: suf, pre, h => by
    have hy : (P ++ (B ++ S))[pre.length]? = some y := by rw [h]; simp
    have hlt : pre.length < (P ++ (B ++ S)).length := (List.getElem?_eq_some_iff.1 hy).1
    have hAl := congrArg List.length hA
    simp only [List.length_append] at hlt hAl
    have ih := ptok_l0 P S A B Y f t hA hf ht hb suf (pre ++ [y]) (by rw [h]; simp)
    have e1 : ((pre ++ [y]).length : Int) = (pre.length : Int) + 1 := by simp
    rw [e1] at ih
    have fin : ((((y.Kind == y.Kind) && ((y.Text == y.Text) && (y.Head == y.Head))) != true)) = false := by simp
    rw [diptychlaw5_PieceTokens_l0]
    by_cases c1 : pre.length < f
    · have g1 : decide ((pre.length : Int) < (f : Int)) = true := by simp; omega
      have r1 : A[pre.length]? = some y := by
        rw [hA, List.getElem?_append_left (by omega)]
        rw [List.getElem?_append_left (by omega)] at hy
        exact hy
      simp only [g1, if_true]
      rw [rd_nat r1]
      simp only [Option.bind_some, fin, Bool.false_eq_true, if_false]
      exact ih
    · have g1 : decide ((pre.length : Int) < (f : Int)) = false := by simp; omega
      rw [List.getElem?_append_right (by omega)] at hy
      have w1 : w64 ((f : Int) + (B.length : Int)) = (f : Int) + (B.length : Int) := w64_eq (by omega)
      simp only [g1, Bool.false_eq_true, if_false, w1]
      by_cases c2 : pre.length < f + B.length
      · have g2 : decide ((pre.length : Int) < (f : Int) + (B.length : Int)) = true := by simp; omega
        have w2 : w64 ((pre.length : Int) - (f : Int)) = ((pre.length - P.length : Nat) : Int) := by rw [w64_eq (by omega)]; omega
        have r2 : B[pre.length - P.length]? = some y := by
          rw [List.getElem?_append_left (by omega)] at hy
          exact hy
        simp only [g2, if_true, w2]
        rw [rd_nat r2]
        simp only [Option.bind_some, fin, Bool.false_eq_true, if_false]
        exact ih
      · have g2 : decide ((pre.length : Int) < (f : Int) + (B.length : Int)) = false := by simp; omega
        have w2 : w64 ((w64 ((w64 ((pre.length : Int) - (B.length : Int))) + (t : Int))) - (f : Int)) = ((P.length + (Y.length + (pre.length - P.length - B.length)) : Nat) : Int) := by
          rw [w64_eq (x := (pre.length : Int) - (B.length : Int)) (by omega), w64_eq (x := (pre.length : Int) - (B.length : Int) + (t : Int)) (by omega), w64_eq (by omega)]
          omega
        have r2 : A[P.length + (Y.length + (pre.length - P.length - B.length))]? = some y := by
          rw [List.getElem?_append_right (by omega)] at hy
          rw [hA, List.getElem?_append_right (by omega), List.getElem?_append_right (by omega), ← hy]
          congr 1
          omega
        simp only [g2, Bool.false_eq_true, if_false, w2]
        rw [rd_nat r2]
        simp only [Option.bind_some, fin, Bool.false_eq_true, if_false]
        exact ih
theorem PieceTokens_true (l k : List diptychlaw5_Cell) (from_ to_ : Int) (hl : l.length ≤ 9223372036854775807) (h : ∀ y ∈ l, cellIn y) (hk : k.length ≤ 9223372036854775807) (hk' : ∀ y ∈ k, cellIn y) (hf : -9223372036854775808 ≤ from_ ∧ from_ ≤ 9223372036854775807) (ht : -9223372036854775808 ≤ to_ ∧ to_ ≤ 9223372036854775807) : diptychlaw5_PieceTokens l k from_ to_ = some true := by
  obtain ⟨ks, e1, e2⟩ := doc_eq l hl h
  obtain ⟨hn, hw, hd, hz, hs⟩ := doc_rn e2
  have hkw := e2.wt
  obtain ⟨js, j1, j2⟩ := made_eq k hk hk'
  have hj : FRow js := mn_row j2.mn j2.adj
  have hjw := j2.wt
  have hjd := j2.dep
  have hjs := nsizes_le' js
  obtain ⟨f, t, q, m, a, X, Y, Z, f1, hF⟩ := flat_eq hn from_ to_ hf ht
  have hdep := hF.at_.depth
  have hnd := ndep_eq m
  obtain ⟨K1, N1, en1, a1, a2, a3, a4, a5, a6, a7⟩ := put_eq hn (by omega) hF (l := js) hj.form (by omega) (by omega) (by omega) (by omega)
  obtain ⟨P, S, t1, t2, t3, t4⟩ := put_tk hF a3
  rw [← en1] at t4
  have z1 := hF.sx
  have z2 := hF.sy
  have z3 := hF.at_.sizes
  have z5 : nsizes (docN ks).Kids = nsizes ks := rfl
  have z6 : szI X + (szI Y + szI Z) = nsizes m.Kids := by rw [← szI_items, hF.it, szI_app, szI_app]
  have nk := nwts_kids N1
  have nz := size_node a4.nt
  have zY := tkI_len Y
  unfold diptychlaw5_PieceTokens
  rw [shown5_eq]
  simp only [Option.bind_some, Bool.not_true, Bool.false_eq_true, if_false]
  rw [e1]
  simp only [Option.bind_some]
  rw [f1]
  simp only [Option.bind_some]
  rw [j1]
  simp only [Option.bind_some]
  rw [a1]
  simp only [Option.bind_some, bne_self_eq_false, Bool.false_eq_true, if_false]
  rw [of_eq ks (by omega), of_eq N1.Kids (by omega), of_eq js (by omega)]
  simp only [Option.bind_some, toksL_len]
  have ew : (t : Int) - (f : Int) = (szI Y : Int) := by omega
  rw [ew, w64_eq (x := (szI Y : Int)) (by omega), w64_eq (x := (nsizes ks : Int) - (szI Y : Int)) (by omega), w64_eq (by omega)]
  have g1 : ((nsizes N1.Kids : Int) != (nsizes ks : Int) - (szI Y : Int) + (nsizes js : Int)) = false := by simp; omega
  simp only [g1, Bool.false_eq_true, if_false]
  rw [chk_eq (by omega)]
  have hP : (P.map tkT).length = f := by simp [t1]
  have main := ptok_l0 (P.map tkT) (S.map tkT) (toksL ks) (toksL js) ((tkI Y).map tkT) f t (by
    have t3' : tkL ks = P ++ (tkI Y ++ S) := t3
    rw [toksL_tk, t3']; simp) hP.symm (by simp; omega) (by rw [toksL_len, toksL_len]; omega) (toksL N1.Kids) [] (by
    rw [toksL_tk N1.Kids, t4, toksL_tk js]; simp)
  have e0 : (([] : List token_Token).length : Int) = 0 := rfl
  rw [e0] at main
  rw [main]
  rfl

end Go.Proofs.YtblielhogcnnkaaDoor
