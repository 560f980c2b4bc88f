/- PlaceTokens, plainly. -/
import Derived.Test.YtlgjbmgmoaphjaaDoorTokSpec
namespace Go.Proofs.YtlgjbmgmoaphjaaDoor
set_option linter.unusedSimpArgs false
set_option linter.unusedVariables false
open Go

theorem rlen_hi : rlen [104, 105] = 2 := by rfl
theorem shown_eq : diptychlaw4_shown = some true := by
  have hs : place_Resolve ({ Kind := ([100, 111, 99] : Str), Text := ([] : Str), Marks := [], Attrs := [], Kids := [({ Kind := ([112] : Str), Text := ([] : Str), Marks := [], Attrs := [], Kids := [({ Kind := ([116, 101, 120, 116] : Str), Text := ([104, 105] : Str), Marks := [], Attrs := [], Kids := [] } : api_Node)] } : api_Node)] } : api_Node) (2 : Int) = some (⟨[0], 0, 1⟩, 0) := by
    have z1 : node_Size ({ Kind := ([112] : Str), Text := ([] : Str), Marks := [], Attrs := [], Kids := [({ Kind := ([116, 101, 120, 116] : Str), Text := ([104, 105] : Str), Marks := [], Attrs := [], Kids := [] } : api_Node)] } : api_Node) = some 4 := by
      rw [size_eq _ (by simp [nwt, nwts, strsW, attrsW])]
      simp [nsize, nsizes, sText, rlen_hi]
    have z2 : node_Size ({ Kind := ([116, 101, 120, 116] : Str), Text := ([104, 105] : Str), Marks := [], Attrs := [], Kids := [] } : api_Node) = some 2 := by
      rw [size_eq _ (by simp [nwt, nwts, strsW, attrsW])]
      simp [nsize, nsizes, sText, rlen_hi]
    have z3 : node_Total [({ Kind := ([112] : Str), Text := ([] : Str), Marks := [], Attrs := [], Kids := [({ Kind := ([116, 101, 120, 116] : Str), Text := ([104, 105] : Str), Marks := [], Attrs := [], Kids := [] } : api_Node)] } : api_Node)] = some 4 := by
      rw [total_eq _ (by simp [nwt, nwts, strsW, attrsW])]
      simp [nsize, nsizes, sText, rlen_hi]
    unfold place_Resolve
    simp only [z3]
    rw [lim_of (r := ((⟨[0], 0, 1⟩ : place_Spot), (0 : Int))) 2]
    · simp
    · intro k hk
      obtain ⟨k, rfl⟩ : ∃ j, k = j + 1 + 1 := ⟨k - 2, by omega⟩
      simp [place_Resolve_l0, place_Resolve_l2, z1, z2, chk, app, w64_eq]
  unfold diptychlaw4_shown
  rw [hs]
  simp [rd]

/-- The tokens of what a path leads to, among all. -/
theorem At.toks {n : api_Node} {q m a} (h : At n q m a) : ∃ pre suf, toksL n.Kids = pre ++ (toksL m.Kids ++ suf) ∧ pre.length = a ∧ (q = [] → suf = []) ∧ (q ≠ [] → ∃ r, suf = tEnd :: r) := by
  induction h with
  | nil n => exact ⟨[], [], by simp, rfl, fun _ => rfl, fun h => absurd rfl h⟩
  | cons n i k q m a hi hn hk h ih =>
    obtain ⟨pre, suf, e1, e2, e3, e4⟩ := ih
    have hs : toksL n.Kids = toksL (n.Kids.take i) ++ (⟨111, [], hdN k⟩ :: (pre ++ (toksL m.Kids ++ suf) ++ [tEnd])) ++ toksL (n.Kids.drop (i + 1)) := by
      conv => lhs; rw [kid_split hi]
      rw [toksL_app, toksL, tokN_node hk, e1]
      simp only [List.append_assoc, List.cons_append]
    refine ⟨toksL (n.Kids.take i) ++ (⟨111, [], hdN k⟩ :: pre), suf ++ tEnd :: toksL (n.Kids.drop (i + 1)), ?_, ?_, fun h => (by cases h), fun _ => ?_⟩
    · rw [hs]
      simp only [List.append_assoc, List.cons_append, List.nil_append]
    · simp only [List.length_append, List.length_cons, toksL_len, e2]
      omega
    · cases q with
      | nil => exact ⟨_, by rw [e3 rfl]; rfl⟩
      | cons j q =>
        obtain ⟨r, hr⟩ := e4 (by simp)
        exact ⟨r ++ tEnd :: toksL (n.Kids.drop (i + 1)), by rw [hr]; rfl⟩

theorem At.mn {n : api_Node} {q m a} (h : At n q m a) : (∀ x ∈ n.Kids, MN x) → ∀ x ∈ m.Kids, MN x := by
  induction h with
  | nil => exact fun h => h
  | cons n i k q m a hi hn hk h ih => exact fun hx => ih (hx k (List.mem_of_getElem? hi)).kids

/-- The token behind a position. -/
theorem spot_tok {n : api_Node} {q m a idx off pos} (h1 : At n q m a) (h2 : idx ≤ m.Kids.length) (h5 : a + nsizes (m.Kids.take idx) + off = pos) (h6 : ∀ k, m.Kids[idx]? = some k → off < nsize k ∧ (0 < off → isT k = true)) (h7 : idx = m.Kids.length → off = 0) (hp : pos < nsizes n.Kids) :
    (idx = m.Kids.length ∧ (toksL n.Kids)[pos]? = some tEnd) ∨
    ∃ k, m.Kids[idx]? = some k ∧ ((isT k = true ∧ ∃ c, (runes k.Text)[off]? = some c ∧ (toksL n.Kids)[pos]? = some ⟨116, rune1 c, hdN k⟩) ∨ (isT k = false ∧ off = 0 ∧ (toksL n.Kids)[pos]? = some ⟨111, [], hdN k⟩)) := by
  obtain ⟨pre, suf, e1, e2, e3, e4⟩ := h1.toks
  rcases Nat.lt_or_ge idx m.Kids.length with hl | hl
  · right
    obtain ⟨k, hk⟩ : ∃ k, m.Kids[idx]? = some k := ⟨_, List.getElem?_eq_getElem hl⟩
    obtain ⟨h8, h9⟩ := h6 k hk
    have hs : toksL n.Kids = (pre ++ toksL (m.Kids.take idx)) ++ (tokN k ++ (toksL (m.Kids.drop (idx + 1)) ++ suf)) := by
      rw [e1]
      conv => lhs; rw [kid_split hk]
      rw [toksL_app, toksL]
      simp only [List.append_assoc]
    have hlen : (pre ++ toksL (m.Kids.take idx)).length = a + nsizes (m.Kids.take idx) := by simp only [List.length_append, e2, toksL_len]
    have hget : (toksL n.Kids)[pos]? = (tokN k)[off]? := by
      rw [hs, List.getElem?_append_right (by omega), hlen]
      have : pos - (a + nsizes (m.Kids.take idx)) = off := by omega
      rw [this, List.getElem?_append_left (by rw [tokN_len]; exact h8)]
    refine ⟨k, hk, ?_⟩
    by_cases ht : isT k = true
    · left
      have hr : off < (runes k.Text).length := by
        rw [runes_len]
        have := nsize_eq k
        rw [if_pos ht] at this
        omega
      refine ⟨ht, (runes k.Text)[off], List.getElem?_eq_getElem hr, ?_⟩
      rw [hget, tokN_text ht, signs, List.getElem?_map, List.getElem?_eq_getElem hr]
      rfl
    · right
      have ht' : isT k = false := by simpa using ht
      have ho : off = 0 := by
        rcases Nat.eq_zero_or_pos off with h | h
        · exact h
        · exact absurd (h9 h) ht
      subst ho
      refine ⟨ht', rfl, ?_⟩
      rw [hget, tokN_node ht']
      rfl
  · left
    have hidx : idx = m.Kids.length := by omega
    have ho := h7 hidx
    refine ⟨hidx, ?_⟩
    have htk : nsizes (m.Kids.take idx) = nsizes m.Kids := by rw [hidx, List.take_length]
    cases q with
    | nil =>
      cases h1
      omega
    | cons j q =>
      obtain ⟨r, rfl⟩ := e4 (by simp)
      rw [e1, List.getElem?_append_right (by omega), List.getElem?_append_right (by rw [toksL_len]; omega), toksL_len]
      have : pos - pre.length - nsizes m.Kids = 0 := by omega
      rw [this]
      rfl

theorem ptoks_l0 {n : api_Node} (hn : isT n = false) (hw : nwt n ≤ 1099511627776) (hmn : ∀ x ∈ n.Kids, MN x) : ∀ (suf pre : List token_Token) (i : Int), i = (pre.length : Int) → toksL n.Kids = pre ++ suf → diptychlaw4_PlaceTokens_l0 n suf i = some (.inr ())
  | [], pre, i, _, _ => rfl
  | y :: suf, pre, i, hi, he => by
    have hlen := toksL_len n.Kids
    rw [he] at hlen
    simp only [List.length_append, List.length_cons] at hlen
    have hy : (toksL n.Kids)[pre.length]? = some y := by rw [he]; simp
    have h3 := nsizes_le' n.Kids
    have h4 := nwts_kids n
    obtain ⟨s, e1, q, m, a, idx, off, hs, h1, hm, h2, h5, h6, h7⟩ := resolve_eq hn hw pre.length (by omega)
    have ih := ptoks_l0 hn hw hmn suf (pre ++ [y]) (i + 1) (by simp [hi]) (by simp [he])
    have g1 := h1.len
    have g2 := h1.sizes
    have p1 : s.Path = up q := by rw [hs]
    have p2 : s.Index = (idx : Int) := by rw [hs]
    have p3 : s.Offset = (off : Int) := by rw [hs]
    rw [diptychlaw4_PlaceTokens_l0, hi, e1]
    simp only [Option.bind_some]
    rw [p1, p2, p3, inner_eq h1 hm (by omega)]
    simp only [Option.bind_some, bne_self_eq_false, Bool.false_eq_true, if_false]
    rw [← hi]
    rcases spot_tok h1 h2 h5 h6 h7 (by omega) with ⟨t1, t2⟩ | ⟨k, t1, t2⟩
    · rw [hy] at t2
      cases t2
      have c1 : ((idx : Int) == (m.Kids.length : Int)) = true := by simp; omega
      simp only [c1, if_true, bne_self_eq_false, Bool.false_eq_true, if_false]
      exact ih
    · have hidx := (List.getElem?_eq_some_iff.1 t1).1
      have c1 : ((idx : Int) == (m.Kids.length : Int)) = false := by simp; omega
      simp only [c1, Bool.false_eq_true, if_false, rd_nat t1, Option.bind_some]
      rcases t2 with ⟨t2, c, t3, t4⟩ | ⟨t2, t3, t4⟩
      · rw [hy] at t4
        cases t4
        have hoff := (List.getElem?_eq_some_iff.1 t3).1
        have hr := runes_len k.Text
        have hrl := rlen_le k.Text
        have hkw := nwt_mem (List.mem_of_getElem? t1)
        have hkt := nwt_eq k
        have hmw := h1.wt
        have hmk := nwts_kids m
        have c2 : decide ((off : Int) ≥ ((runes k.Text).length : Int)) = false := by simp; omega
        have c3 : w64 ((off : Int) + 1) = ((off + 1 : Nat) : Int) := by rw [w64_eq (by omega)]; omega
        have c4 : ((runes k.Text).take (off + 1)).drop off = [c] := by
          rw [List.take_add_one, t3]
          simp [List.drop_append, Nat.min_eq_left (Nat.le_of_lt hoff)]
        simp only [isT_def, t2, if_true, bne_self_eq_false, Bool.false_eq_true, if_false, c2, c3]
        rw [sl_nat (by omega) (by omega), c4]
        simp only [Option.bind_some, runesStr, List.flatMap_cons, List.flatMap_nil, List.append_nil, beq_self_eq_true, Bool.not_true, Bool.false_eq_true, if_false]
        exact ih
      · rw [hy] at t4
        cases t4
        subst t3
        have hh : codec_Head k = some (hdN k) := head_mn (h1.mn hmn k (List.mem_of_getElem? t1))
        simp only [isT_def, t2, Bool.false_eq_true, if_false, bne_self_eq_false, hh, Option.bind_some, beq_self_eq_true, Bool.not_true]
        have c5 : (((0 : Nat) : Int) != 0) = false := by simp
        simp only [c5, Bool.false_eq_true, if_false]
        exact ih

theorem PlaceTokens_true (l : List diptychlaw4_Cell) (hl : l.length ≤ 9223372036854775807) (h : ∀ y ∈ l, cellIn y) : diptychlaw4_PlaceTokens l = some true := by
  obtain ⟨ks, e1, e2⟩ := doc_eq l hl h
  have hkw := e2.wt
  have hn : isT ⟨sDoc, [], [], [], ks⟩ = false := rfl
  have hw : nwt ⟨sDoc, [], [], [], ks⟩ ≤ 1099511627776 := by simp [nwt, strsW, attrsW]; omega
  have hb := ptoks_l0 hn hw e2.mn (toksL ks) [] 0 rfl rfl
  have hs := nsizes_le' ks
  have hlen := toksL_len ks
  unfold diptychlaw4_PlaceTokens
  rw [shown_eq, e1]
  simp only [Option.bind_some, Bool.not_true, Bool.false_eq_true, if_false]
  rw [of_eq ks (heads_mn ks e2.mn) (by omega)]
  simp only [Option.bind_some]
  rw [chk_eq (by omega), hb]
  simp only [Option.bind_some]
  rw [total_eq _ (by omega)]
  simp [hlen]

end Go.Proofs.YtlgjbmgmoaphjaaDoor
