/- PlaceWith and PlacePaths, plainly. -/
import Derived.Test.YtafcbjepmjcpgaaPlaceRep
import Derived.Test.YtafcbjepmjcpgaaPlaceBackL
namespace Go.Proofs.Ytafcbjepmjcpgaa
set_option linter.unusedSimpArgs false
set_option linter.unusedVariables false
open Go

theorem snocN (l : List Nat) : l = [] ∨ ∃ a x, l = a ++ [x] := by
  rcases List.eq_nil_or_concat l with h | ⟨a, x, h⟩
  · exact .inl h
  · exact .inr ⟨a, x, by simpa using h⟩

theorem PlaceWith_true (l k : List diptychlaw4_Cell) (pos : Int) (hl : l.length ≤ 9223372036854775807) (h : ∀ y ∈ l, cellIn y) (hl' : k.length ≤ 9223372036854775807) (h' : ∀ y ∈ k, cellIn y) (hpos : -9223372036854775808 ≤ pos ∧ pos ≤ 9223372036854775807) : diptychlaw4_PlaceWith l k pos = some true := by
  obtain ⟨ks, e1, e2⟩ := doc_eq l hl h
  obtain ⟨js, f1, f2⟩ := doc_eq k hl' h'
  have hkw := e2.wt
  have hjw := f2.wt
  have hn : isT ⟨sDoc, [], [], [], ks⟩ = false := rfl
  have hj : isT ⟨sDoc, [], [], [], js⟩ = false := rfl
  have hw0 : nwt ⟨sDoc, [], [], [], ks⟩ ≤ 1000000 := by simp [nwt, strsW, attrsW]; omega
  have hv0 : nwt ⟨sDoc, [], [], [], js⟩ ≤ 1000000 := by simp [nwt, strsW, attrsW]; omega
  have hs := nsizes_le' ks
  have htot : node_Total ks = some (nsizes ks : Int) := total_eq ks (by omega)
  generalize hD : (⟨sDoc, [], [], [], ks⟩ : api_Node) = n at *
  generalize hE : (⟨sDoc, [], [], [], js⟩ : api_Node) = x at *
  have hk : n.Kids = ks := by rw [← hD]
  have hw : nwt n ≤ 1099511627776 := by omega
  obtain ⟨p, p1, p2⟩ := pick_eq pos ((nsizes ks : Int) + 1) hpos (by omega)
  obtain ⟨s, s1, q, m, a, idx, off, s2, h1, hm, _⟩ := resolve_eq hn hw p (by rw [hk]; omega)
  have sp : s.Path = up q := by rw [s2]
  have g1 := h1.len
  have g2 := h1.sizes
  have g3 := h1.wt
  rw [hk] at g2
  have gq : q.length ≤ 9223372036854775807 := by omega
  have r0 := rep_wt (x := x) h1
  have r1 := h1.rep hj
  have r2 := rep_notT q n x hn hj
  have r3 := rep_back (x := x) h1
  have r4 := rep_size hj h1 hn
  have w1 := nsize_le n
  have w2 := nsize_le x
  have w3 := nsize_le m
  have w4 := nsize_le (repN q n x)
  have i1 := inner_eq h1 hm gq
  have i2 := with_eq (x := x) h1 hn hw
  have i3 := inner_eq r1 hj gq
  have i4 := with_eq (x := m) r1 r2 (by omega)
  rw [r3] at i4
  unfold diptychlaw4_PlaceWith
  rw [shown_eq, e1, f1]
  simp only [Option.bind_some, Bool.not_true, Bool.false_eq_true, if_false, hk, htot]
  rw [w64_eq (by omega), p1]
  simp only [Option.bind_some, s1, sp, i1, i2, i3, i4, beq_self_eq_true, if_true, nsame_eq x (by omega), nsame_eq n hw, size_eq _ (show nwt (repN q n x) ≤ 1099511627776 by omega), size_eq _ hw, size_eq _ (show nwt x ≤ 1099511627776 by omega), size_eq _ (show nwt m ≤ 1099511627776 by omega)]
  rw [w64_eq (x := (nsize n : Int) - (nsize m : Int)) (by omega), w64_eq (by omega)]
  simp only [Option.some.injEq, beq_iff_eq]
  omega

theorem paths_l0 {n : api_Node} (hn : isT n = false) (hw : nwt n ≤ 1099511627776) : ∀ (f pos : Nat), pos + f = nsizes n.Kids + 1 → ∀ k, f < k → diptychlaw4_PlacePaths_l0 n k (pos : Int) = some (.inr ())
  | 0, pos, hf, k, hk => by
    have h4 := nwts_kids n
    obtain ⟨k, rfl⟩ : ∃ j, k = j + 1 := ⟨k - 1, by omega⟩
    have : decide ((pos : Int) ≤ (nsizes n.Kids : Int)) = false := by simp; omega
    rw [diptychlaw4_PlacePaths_l0, total_eq _ (by omega)]
    simp only [Option.bind_some, this, Bool.false_eq_true, if_false]
  | f + 1, pos, hf, k, hk => by
    have h3 := nsizes_le' n.Kids
    have h4 := nwts_kids n
    obtain ⟨k, rfl⟩ : ∃ j, k = j + 1 := ⟨k - 1, by omega⟩
    have hle : decide ((pos : Int) ≤ (nsizes n.Kids : Int)) = true := by simp; omega
    obtain ⟨s, e1, e2⟩ := resolve_eq hn hw pos (by omega)
    obtain ⟨q, m, a, idx, off, hs, h1, hm, h2, h5, h6, h7⟩ := e2
    have g1 := h1.len
    have g2 := h1.sizes
    have g5 := h1.wt
    have g6 := nwts_kids m
    have hw3 : w64 ((pos : Int) + 1) = ((pos + 1 : Nat) : Int) := by rw [w64_eq (by omega)]; omega
    have ih := paths_l0 hn hw f (pos + 1) (by omega) k (by omega)
    have p1 : s.Path = up q := by rw [hs]
    have hta : a + nsizes (m.Kids.take idx) + off ≤ a + nsizes m.Kids := by
      rcases Nat.lt_or_ge idx m.Kids.length with hl | hl
      · obtain ⟨kk, hkk⟩ : ∃ k, m.Kids[idx]? = some k := ⟨_, List.getElem?_eq_getElem hl⟩
        have := kid_sizes hkk
        have := (h6 kk hkk).1
        omega
      · have := h7 (by omega)
        have := take_sizes m.Kids idx
        omega
    rw [diptychlaw4_PlacePaths_l0, total_eq _ (by omega)]
    simp only [Option.bind_some, hle, if_true, e1, p1, bne_self_eq_false, Bool.false_eq_true, if_false, up_len]
    rcases snocN q with rfl | ⟨q0, i, rfl⟩
    · simp only [List.length_nil, hw3]
      exact ih
    · have hnz : (((q0 ++ [i]).length : Int) == 0) = false := by simp; omega
      have hi := inner_eq h1 hm (by omega)
      have ht := start_eq h1 hm hw
      obtain ⟨m0, b, u1, u2, u3, u4, u5⟩ := h1.unsnoc
      have u6 := (List.getElem?_eq_some_iff.1 u2).1
      have hz := size_node u4
      have hq : q0.length ≤ 9223372036854775807 := by simp at g1; omega
      have hlast : w64 (((q0 ++ [i]).length : Int) - 1) = (q0.length : Int) := by
        simp at g1
        rw [w64_eq (by simp; omega)]
        simp
      have hsl : sl (up (q0 ++ [i])) 0 (q0.length : Int) = some (up q0) := by
        rw [up_app]
        have := sl_pre (up q0) (up [i])
        rw [up_len] at this
        exact this
      have hrd : rd (up (q0 ++ [i])) (q0.length : Int) = some (i : Int) := by
        rw [up_app]
        have := rd_mid (up q0) [] (i : Int)
        rw [up_len] at this
        exact this
      have hspot : SpotOk n ⟨up q0, (i : Int), 0⟩ (b + nsizes (m0.Kids.take i)) :=
        ⟨q0, m0, b, i, 0, rfl, u1, u3, by omega, rfl, fun k' hk' => by
          rw [u2] at hk'
          cases hk'
          exact ⟨by omega, fun h => absurd h (by omega)⟩, fun _ => rfl⟩
      have hp := pos_eq hw hspot
      have hi0 := inner_eq u1 u3 hq
      have c1 : ((a : Int) != w64 (((b + nsizes (m0.Kids.take i) : Nat) : Int) + 1)) = false := by
        rw [w64_eq (by omega)]
        simp; omega
      have c2 : decide ((pos : Int) < (a : Int)) = false := by simp; omega
      have c3 : decide ((pos : Int) > w64 ((a : Int) + (nsizes m.Kids : Int))) = false := by
        rw [w64_eq (by omega)]
        simp; omega
      simp only [hnz, Bool.false_eq_true, if_false, ht, Option.bind_some, hlast, hsl, hrd, hp, hi, hi0, bne_self_eq_false, c1, rd_nat u2, nsame_eq m (by omega), Bool.not_true, c2, total_eq _ (show nwts m.Kids ≤ 1099511627776 by omega), c3, hw3]
      exact ih

theorem PlacePaths_true (l : List diptychlaw4_Cell) (hl : l.length ≤ 9223372036854775807) (h : ∀ y ∈ l, cellIn y) : diptychlaw4_PlacePaths l = some true := by
  obtain ⟨ks, e1, e2⟩ := doc_eq l hl h
  have hkw := e2.wt
  have hn : isT ⟨sDoc, [], [], [], ks⟩ = false := rfl
  have hw : nwt ⟨sDoc, [], [], [], ks⟩ ≤ 1099511627776 := by simp [nwt, strsW, attrsW]; omega
  have hb := paths_l0 hn hw (nsizes ks + 1) 0 (by simp)
  have hs := nsizes_le' ks
  unfold diptychlaw4_PlacePaths
  rw [shown_eq, e1]
  simp only [Option.bind_some, Bool.not_true, Bool.false_eq_true, if_false]
  have e0 : ((0 : Nat) : Int) = 0 := rfl
  rw [e0] at hb
  rw [lim_of (nsizes ks + 2) fun k hk => hb k (by omega)]
  rfl

end Go.Proofs.Ytafcbjepmjcpgaa
