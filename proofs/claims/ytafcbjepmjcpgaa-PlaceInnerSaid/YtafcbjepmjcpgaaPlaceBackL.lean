/- PlaceBack, plainly. -/
import Derived.Test.YtafcbjepmjcpgaaPlaceSpec
import Derived.Test.YtafcbjepmjcpgaaMade
namespace Go.Proofs.Ytafcbjepmjcpgaa
set_option linter.unusedSimpArgs false
set_option linter.unusedVariables false
open Go

theorem rlen_hi : rlen [104, 105] = 2 := by rfl
theorem shown_eq : diptychlaw4_shown = some true := by
  have hs : place_Resolve ({ Kind := ([100, 111, 99] : Str), Text := ([] : Str), Marks := [], Attrs := [], Kids := [({ Kind := ([112] : Str), Text := ([] : Str), Marks := [], Attrs := [], Kids := [({ Kind := ([116, 101, 120, 116] : Str), Text := ([104, 105] : Str), Marks := [], Attrs := [], Kids := [] } : api_Node)] } : api_Node)] } : api_Node) (2 : Int) = some (⟨[0], 0, 1⟩, 0) := by
    have z1 : node_Size ({ Kind := ([112] : Str), Text := ([] : Str), Marks := [], Attrs := [], Kids := [({ Kind := ([116, 101, 120, 116] : Str), Text := ([104, 105] : Str), Marks := [], Attrs := [], Kids := [] } : api_Node)] } : api_Node) = some 4 := by
      rw [size_eq _ (by simp [nwt, nwts, strsW, attrsW])]
      simp [nsize, nsizes, sText, rlen_hi]
    have z2 : node_Size ({ Kind := ([116, 101, 120, 116] : Str), Text := ([104, 105] : Str), Marks := [], Attrs := [], Kids := [] } : api_Node) = some 2 := by
      rw [size_eq _ (by simp [nwt, nwts, strsW, attrsW])]
      simp [nsize, nsizes, sText, rlen_hi]
    have z3 : node_Total [({ Kind := ([112] : Str), Text := ([] : Str), Marks := [], Attrs := [], Kids := [({ Kind := ([116, 101, 120, 116] : Str), Text := ([104, 105] : Str), Marks := [], Attrs := [], Kids := [] } : api_Node)] } : api_Node)] = some 4 := by
      rw [total_eq _ (by simp [nwt, nwts, strsW, attrsW])]
      simp [nsize, nsizes, sText, rlen_hi]
    unfold place_Resolve
    simp only [z3]
    rw [lim_of (r := ((⟨[0], 0, 1⟩ : place_Spot), (0 : Int))) 2]
    · simp
    · intro k hk
      obtain ⟨k, rfl⟩ : ∃ j, k = j + 1 + 1 := ⟨k - 2, by omega⟩
      simp [place_Resolve_l0, place_Resolve_l2, z1, z2, chk, app, w64_eq]
  unfold diptychlaw4_shown
  rw [hs]
  simp [rd]

theorem same_l0 (b : List Int) : ∀ (suf pre : List Int) (i : Int), i = (pre.length : Int) → b.length = pre.length + suf.length → b.take pre.length = pre → diptychref4_same_l0 b suf i = some (if pre ++ suf = b then .inr () else .inl false)
  | [], pre, i, hi, hl, ht => by
    have : pre = b := by
      rw [← ht, List.take_of_length_le]
      simp at hl; omega
    simp [diptychref4_same_l0, this]
  | y :: suf, pre, i, hi, hl, ht => by
    simp only [List.length_cons] at hl
    obtain ⟨x, hx⟩ : ∃ x, b[pre.length]? = some x := ⟨b[pre.length], List.getElem?_eq_getElem (by omega)⟩
    rw [diptychref4_same_l0, hi, rd_nat hx]
    simp only [Option.bind_some]
    have htk : b.take (pre.length + 1) = pre ++ [x] := by
      rw [List.take_add_one, ht, hx]
      rfl
    by_cases hxy : y = x
    · subst hxy
      simp only [bne_self_eq_false, Bool.false_eq_true, if_false]
      rw [same_l0 b suf (pre ++ [y]) _ (by simp) (by simp; omega) (by simpa using htk)]
      simp
    · have : ¬ pre ++ y :: suf = b := by
        intro h
        rw [← h] at hx
        simp at hx
        exact hxy hx
      simp [hxy, this]
theorem same_eq (a b : List Int) (h : a.length ≤ 9223372036854775807) : diptychref4_same a b = some (decide (a = b)) := by
  unfold diptychref4_same
  by_cases hl : a.length = b.length
  · simp only [hl, bne_self_eq_false, Bool.false_eq_true, if_false]
    rw [chk_eq (by omega), same_l0 b a [] 0 rfl (by simp [hl]) (by simp)]
    by_cases e : a = b <;> simp [e]
  · have h1 : ((a.length : Int) != (b.length : Int)) = true := by simp; omega
    have h2 : ¬ a = b := fun e => hl (by rw [e])
    rw [if_pos h1]
    simp [h2]
theorem Same_ne (a b : place_Spot) (h : a.Path.length ≤ 9223372036854775807) (hne : a ≠ b) : diptychref4_Same ⟨a.Path, a.Index, a.Offset⟩ ⟨b.Path, b.Index, b.Offset⟩ = some false := by
  unfold diptychref4_Same
  rw [same_eq _ _ h]
  simp only [Option.bind_some]
  by_cases e : a.Path = b.Path
  · by_cases e2 : a.Index = b.Index
    · have e3 : ¬ a.Offset = b.Offset := fun e3 => hne (by cases a; cases b; simp_all)
      simp [e, e2, e3]
    · simp [e, e2]
  · simp [e]

theorem SpotOk.ne {n : api_Node} {s t p r} (hw : nwt n ≤ 1099511627776) (h : SpotOk n s p) (h' : SpotOk n t r) (hne : p ≠ r) : s ≠ t := by
  rintro rfl
  have h1 := pos_eq hw h
  rw [pos_eq hw h'] at h1
  simp at h1
  omega

theorem back_l0 {n : api_Node} (hn : isT n = false) (hw : nwt n ≤ 1099511627776) : ∀ (f pos : Nat) (last : place_Spot), pos + f = nsizes n.Kids + 1 → (∀ s, SpotOk n s pos → s ≠ last) → ∀ k, f < k → diptychlaw4_PlaceBack_l0 n k (pos : Int) last = some (.inr ())
  | 0, pos, last, hf, hl, k, hk => by
    have h4 := nwts_kids n
    obtain ⟨k, rfl⟩ : ∃ j, k = j + 1 := ⟨k - 1, by omega⟩
    have : decide ((pos : Int) ≤ (nsizes n.Kids : Int)) = false := by simp; omega
    rw [diptychlaw4_PlaceBack_l0, total_eq _ (by omega)]
    simp only [Option.bind_some, this, Bool.false_eq_true, if_false]
  | f + 1, pos, last, hf, hl, k, hk => by
    have h3 := nsizes_le' n.Kids
    have h4 := nwts_kids n
    obtain ⟨k, rfl⟩ : ∃ j, k = j + 1 := ⟨k - 1, by omega⟩
    have hle : decide ((pos : Int) ≤ (nsizes n.Kids : Int)) = true := by simp; omega
    obtain ⟨s, e1, e2⟩ := resolve_eq hn hw pos (by omega)
    have hne := hl s e2
    have ep := pos_eq hw e2
    have hnext : ∀ t, SpotOk n t (pos + 1) → t ≠ s := fun t ht => SpotOk.ne hw ht e2 (by omega)
    obtain ⟨q, m, a, idx, off, hs, h1, hm, h2, h5, h6, h7⟩ := e2
    have g1 := h1.len
    have g2 := h1.sizes
    have g5 := h1.wt
    have g6 := nwts_kids m
    have g7 := take_wts m.Kids idx
    have hplen : s.Path.length ≤ 9223372036854775807 := by rw [hs, up_len]; omega
    have hi := inner_eq h1 hm (by omega)
    have ht := start_eq h1 hm hw
    have hsame := Same_ne s last hplen hne
    have hgt : decide ((idx : Int) > (m.Kids.length : Int)) = false := by simp; omega
    have hw2 : w64 (w64 ((a : Int) + (nsizes (m.Kids.take idx) : Int)) + (off : Int)) = (pos : Int) := by
      rw [w64_eq (x := (a : Int) + (nsizes (m.Kids.take idx) : Int)) (by omega), w64_eq (by omega)]
      omega
    have hw3 : w64 ((pos : Int) + 1) = ((pos + 1 : Nat) : Int) := by rw [w64_eq (by omega)]; omega
    have ih := back_l0 hn hw f (pos + 1) s (by omega) hnext k (by omega)
    have p1 : s.Path = up q := by rw [hs]
    have p2 : s.Index = (idx : Int) := by rw [hs]
    have p3 : s.Offset = (off : Int) := by rw [hs]
    rw [diptychlaw4_PlaceBack_l0, total_eq _ (by omega)]
    simp only [Option.bind_some, hle, if_true, e1, ep, diptychlaw4_as, hsame]
    rw [p1, p2, p3, hi, ht]
    simp only [Option.bind_some, bne_self_eq_false, Bool.false_eq_true, if_false, hgt, sl_take h2, total_eq _ (show nwts (m.Kids.take idx) ≤ 1099511627776 by omega), hw2, hw3]
    exact ih

theorem PlaceBack_true (l : List diptychlaw4_Cell) (hl : l.length ≤ 9223372036854775807) (h : ∀ y ∈ l, cellIn y) : diptychlaw4_PlaceBack l = some true := by
  obtain ⟨ks, e1, e2⟩ := doc_eq l hl h
  have hkw := e2.wt
  have hn : isT ⟨sDoc, [], [], [], ks⟩ = false := rfl
  have hw : nwt ⟨sDoc, [], [], [], ks⟩ ≤ 1099511627776 := by simp [nwt, strsW, attrsW]; omega
  have hb := back_l0 hn hw (nsizes ks + 1) 0 ⟨[], -1, 0⟩ (by simp) (by
    rintro s ⟨q, m, a, idx, off, rfl, _⟩ h
    simp only [place_Spot.mk.injEq] at h
    omega)
  have hs := nsizes_le' ks
  unfold diptychlaw4_PlaceBack
  rw [shown_eq, e1]
  simp only [Option.bind_some, Bool.not_true, Bool.false_eq_true, if_false]
  have e0 : ((0 : Nat) : Int) = 0 := rfl
  rw [e0] at hb
  rw [lim_of (nsizes ks + 2) fun k hk => hb k (by omega)]
  simp only [Option.bind_some]
  rw [resolve_out hn hw (-1) (by omega)]
  simp only [Option.bind_some]
  rw [total_eq _ (by omega)]
  simp only [Option.bind_some]
  rw [w64_eq (by omega), resolve_out hn hw _ (by simp; omega)]
  rfl

end Go.Proofs.Ytafcbjepmjcpgaa
