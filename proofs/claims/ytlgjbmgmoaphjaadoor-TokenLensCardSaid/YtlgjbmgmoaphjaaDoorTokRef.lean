/- The reference's tokens, and tokens held against each other. -/
import Derived.Test.YtlgjbmgmoaphjaaDoorTok
import Derived.Test.YtlgjbmgmoaphjaaDoorMade
namespace Go.Proofs.YtlgjbmgmoaphjaaDoor
set_option linter.unusedSimpArgs false
set_option linter.unusedVariables false
open Go

abbrev rt (t : token_Token) : diptychref3_Token := ⟨t.Kind, t.Text, t.Head⟩
theorem rt_inj {a b : List token_Token} (h : a.map rt = b.map rt) : a = b := by
  induction a generalizing b with
  | nil => cases b with
    | nil => rfl
    | cons y b => simp at h
  | cons x a ih => cases b with
    | nil => simp at h
    | cons y b =>
      simp only [List.map_cons, List.cons.injEq, diptychref3_Token.mk.injEq] at h
      obtain ⟨⟨h1, h2, h3⟩, h4⟩ := h
      rw [ih h4]
      cases x; cases y
      simp_all

theorem rof_l3 (y : api_Node) (hy : nwt y ≤ 1073741824) : ∀ (suf pre : List Int) (out : List diptychref3_Token), runes y.Text = pre ++ suf → (out.length + suf.length) * 40 ≤ 140737488355328 →
    diptychref3_Of_l3 y suf (pre.length : Int) out = some (out ++ (signs (hd y) suf).map rt)
  | [], pre, out, _, _ => by simp [diptychref3_Of_l3, signs]
  | c :: suf, pre, out, h, hb => by
    have hs : sl (runes y.Text) (pre.length : Int) ((pre.length : Int) + 1) = some [c] := by
      have h1 := sl_nat (l := runes y.Text) (a := pre.length) (b := pre.length + 1) (by omega) (by rw [h]; simp)
      have e : (pre.length : Int) + 1 = ((pre.length + 1 : Nat) : Int) := by omega
      rw [e, h1, List.drop_take, h, List.drop_left, show pre.length + 1 - pre.length = 1 by omega]
      rfl
    have h1 : runesStr [c] = rune1 c := by simp [runesStr]
    rw [diptychref3_Of_l3, hs]
    simp only [Option.bind_some]
    rw [rhead_eq y hy]
    simp only [Option.bind_some, h1]
    rw [app_eq (by simp at hb ⊢; omega)]
    simp only [Option.bind_some]
    have e : (pre.length : Int) + 1 = ((pre ++ [c]).length : Int) := by simp
    rw [e, rof_l3 y hy suf (pre ++ [c]) _ (by rw [h]; simp) (by simp at hb ⊢; omega)]
    simp [signs]

theorem rof_l0 (f : List api_Node → Option (List diptychref3_Token)) : ∀ (l : List api_Node) (i : Int) (out : List diptychref3_Token), (∀ n ∈ l, isT n = false → f n.Kids = some ((toksL n.Kids).map rt)) → (out.length + nwts l) * 40 ≤ 140737488355328 → nwts l ≤ 1073741824 → diptychref3_Of_l0 f l i out = some (out ++ (toksL l).map rt)
  | [], i, out, _, _, _ => by simp [diptychref3_Of_l0, toksL]
  | n :: l, i, out, hf, hb, hw => by
    simp only [nwts] at hb hw
    have hwt := nwt_eq n
    have hn : nwt n ≤ 1073741824 := by omega
    have hsz := tokN_len n
    have hle := nsize_le n
    rw [diptychref3_Of_l0, isT_def]
    by_cases ht : isT n = true
    · have hr := rlen_le n.Text
      have hrl := runes_len n.Text
      simp only [ht, if_true]
      have h0 := rof_l3 n hn (runes n.Text) [] out rfl (by omega)
      have h0' : diptychref3_Of_l3 n (runes n.Text) 0 out = _ := h0
      rw [chk_eq (by omega), h0']
      simp only [Option.bind_some]
      rw [← tokN_text ht, rof_l0 f l _ _ (fun k hk => hf k (by simp [hk])) (by simp only [List.length_append, List.length_map]; omega) (by omega)]
      simp [toksL]
    · have ht' : isT n = false := by simpa using ht
      have hk := toksL_len n.Kids
      have hns := size_node ht'
      simp only [ht', Bool.false_eq_true, if_false]
      rw [rhead_eq n hn]
      simp only [Option.bind_some]
      rw [app_eq (by simp only [List.length_cons, List.length_nil]; omega)]
      simp only [Option.bind_some]
      rw [hf n (by simp) ht']
      simp only [Option.bind_some]
      rw [app_eq (by simp only [List.length_cons, List.length_nil, List.length_append, List.length_map]; omega)]
      simp only [Option.bind_some]
      rw [app_eq (by simp only [List.length_cons, List.length_nil, List.length_append, List.length_map]; omega)]
      simp only [Option.bind_some]
      rw [rof_l0 f l _ _ (fun k hk => hf k (by simp [hk])) (by simp only [List.length_cons, List.length_nil, List.length_append, List.length_map]; omega) (by omega)]
      simp [toksL, tokN_node ht']
theorem rof_k : ∀ (d : Nat) (l : List api_Node), ndeps l ≤ d → nwts l ≤ 1073741824 → ∀ kr, d + 1 ≤ kr → diptychref3_Of_k kr l = some ((toksL l).map rt)
  | d, l, hd, hw, kr, hk => by
    obtain ⟨kr, rfl⟩ : ∃ j, kr = j + 1 := ⟨kr - 1, by omega⟩
    have hl := nwts_len l
    rw [diptychref3_Of_k, chk_eq (by omega), rof_l0 (diptychref3_Of_k kr) l 0 [] (fun n hn ht => ?_) (by simp; omega) hw]
    · simp
    · have h1 := ndep_mem hn
      have h2 := ndep_eq n
      have h3 := nwt_mem hn
      have h4 := nwts_kids n
      obtain ⟨d, rfl⟩ : ∃ j, d = j + 1 := ⟨d - 1, by omega⟩
      exact rof_k d n.Kids (by omega) (by omega) kr (by omega)
theorem rof_eq (l : List api_Node) (hw : nwts l ≤ 1073741824) : diptychref3_Of l = some ((toksL l).map rt) := by
  unfold diptychref3_Of
  exact lim_of (ndeps l + 1) fun kr hk => rof_k (ndeps l) l (Nat.le_refl _) hw kr hk

theorem tsame_l0 (b : List diptychref3_Token) : ∀ (suf pre : List token_Token) (i : Int), i = (pre.length : Int) → b.length = pre.length + suf.length → b.take pre.length = pre.map rt → diptychlaw3_same_l0 b suf i = some (if (pre ++ suf).map rt = b then .inr () else .inl false)
  | [], pre, i, hi, hl, ht => by
    have : pre.map rt = b := by
      rw [← ht, List.take_of_length_le]
      simp at hl; omega
    simp [diptychlaw3_same_l0, this]
  | y :: suf, pre, i, hi, hl, ht => by
    simp only [List.length_cons] at hl
    obtain ⟨x, hx⟩ : ∃ x, b[pre.length]? = some x := ⟨b[pre.length], List.getElem?_eq_getElem (by omega)⟩
    have htk : b.take (pre.length + 1) = pre.map rt ++ [x] := by
      rw [List.take_add_one, ht, hx]
      rfl
    have hne : rt y ≠ x → ¬ (pre ++ y :: suf).map rt = b := by
      intro hxy h
      rw [← h] at hx
      simp at hx
      exact hxy hx
    rw [diptychlaw3_same_l0, hi, rd_nat hx]
    simp only [Option.bind_some]
    by_cases h1 : y.Kind = x.Kind
    · by_cases h2 : y.Text = x.Text
      · by_cases h3 : y.Head = x.Head
        · have hxy : rt y = x := by cases x; simp_all
          simp only [h1, h2, h3, bne_self_eq_false, beq_self_eq_true, Bool.not_true, Bool.false_eq_true, if_false]
          rw [tsame_l0 b suf (pre ++ [y]) _ (by simp) (by simp; omega) (by simp only [List.length_append, List.length_cons, List.length_nil, Nat.zero_add]; rw [htk, ← hxy]; simp)]
          simp
        · have := hne fun e => h3 (by rw [← e])
          simp only [h1, h2, bne_self_eq_false, beq_self_eq_true, Bool.not_true, Bool.false_eq_true, if_false, this]
          simp [h3]
      · have := hne fun e => h2 (by rw [← e])
        simp only [h1, bne_self_eq_false, Bool.false_eq_true, if_false, this]
        simp [h2]
    · have := hne fun e => h1 (by rw [← e])
      simp only [this, if_false]
      simp [h1]
theorem tsame_eq (a : List token_Token) (b : List diptychref3_Token) (h : a.length ≤ 9223372036854775807) : diptychlaw3_same a b = some (decide (a.map rt = b)) := by
  unfold diptychlaw3_same
  by_cases hl : a.length = b.length
  · simp only [hl, bne_self_eq_false, Bool.false_eq_true, if_false]
    rw [chk_eq (by omega), tsame_l0 b a [] 0 rfl (by simp [hl]) (by simp)]
    by_cases e : a.map rt = b <;> simp [e]
  · have h1 : ((a.length : Int) != (b.length : Int)) = true := by simp; omega
    have h2 : ¬ a.map rt = b := fun e => hl (by rw [← e]; simp)
    rw [if_pos h1]
    simp [h2]

theorem tshown_eq : diptychlaw3_shown = some true := by
  unfold diptychlaw3_shown
  rw [of_eq _ (by simp [nwts, nwt, strsW, attrsW])]
  have e1 : runes [104, 105] = [104, 105] := by rfl
  have e2 : rune1 104 = [104] := by rfl
  have e3 : rune1 105 = [105] := by rfl
  simp [toksL, tokN, signs, hd, isT, e1, e2, e3, rd]

end Go.Proofs.YtlgjbmgmoaphjaaDoor
