/- How a right lens is written, and what it is made of: the reference's answer. -/
import Derived.Test.YtpjdafhmneiohaaDoorLensRef
namespace Go.Proofs.YtpjdafhmneiohaaDoor
set_option linter.unusedSimpArgs false
set_option linter.unusedVariables false
open Go

theorem filt2 {a b c : Str} (ha : a ≠ []) (hb : b ≠ []) (hc : c = []) : [a, b, c].filter (fun s => decide (s ≠ [])) = [a, b] := by simp [ha, hb, hc]
theorem filt2' {a b c : Str} (ha : a ≠ []) (hb : b = []) (hc : c ≠ []) : [a, b, c].filter (fun s => decide (s ≠ [])) = [a, c] := by simp [ha, hb, hc]
theorem filt2'' {a b c : Str} (ha : a = []) (hb : b ≠ []) (hc : c ≠ []) : [a, b, c].filter (fun s => decide (s ≠ [])) = [b, c] := by simp [ha, hb, hc]
theorem filt3 {a b c : Str} (ha : a ≠ []) (hb : b ≠ []) (hc : c ≠ []) : [a, b, c].filter (fun s => decide (s ≠ [])) = [a, b, c] := by simp [ha, hb, hc]
theorem pt2 {p : lens_Prim} {v a b : Str} (h1 : ¬ (p.Op = 97 ∨ p.Op = 100)) (h2 : ¬ p.Op = 116) (hv : verbS p.Op = v) (hf : [p.Kind, p.Name, p.New].filter (fun s => decide (s ≠ [])) = [a, b]) : ptext p = v ++ [32] ++ a ++ [32] ++ b := by
  unfold ptext pwords
  rw [if_neg h1, if_neg h2, hf, hv, join2]
theorem word_eq (p : lens_Prim) (h : primB p = true) (hw : pW p ≤ 2097152) : diptychref13_word (rP p) = some (ptext p) := by
  have hw' := hw
  unfold pW at hw'
  have hj := join_len p.Values [124] (by simp)
  have hvl := valsT_len p.Values
  have hpr := pairs_w p.Values p.To
  have hjp := join_len (pairsT p.Values p.To) [44] (by simp)
  have hvn := strsW_n p.Values
  have ev : (rP p).Values = p.Values := rfl
  have ek : (rP p).Kind = p.Kind := rfl
  have en : (rP p).Name = p.Name := rfl
  have ew : (rP p).New = p.New := rfl
  have eo : (rP p).Op = p.Op := rfl
  have hb : ((if (Lib.join p.Values [124] == ([] : Str)) = true then some ([42] : Str) else some (Lib.join p.Values [124])) : Option Str) = some (valsT p.Values) := by
    unfold valsT
    by_cases e : Lib.join p.Values [124] = [] <;> simp [e]
  unfold diptychref13_word
  rw [ev, ek, en, ew, eo, row_eq _ _ (by simp) (by omega)]
  simp only [Option.bind_some]
  rw [hb]
  simp only [Option.bind_some]
  unfold primB at h
  by_cases h1 : p.Op = 114
  · rw [if_pos (by omega)] at h
    simp only [Bool.and_eq_true, decide_eq_true_eq] at h
    obtain ⟨⟨⟨a1, a2⟩, a3⟩, a4⟩ := h
    have e := pt2 (v := [114, 101, 110, 97, 109, 101]) (by omega) (by omega) (by rw [h1]; decide +kernel) (filt2' (name_ne a2).1 a4 (name_ne a3).1)
    rw [if_pos (by simp [h1]), chk_eq (by simp; omega), chk_eq (by simp; omega), chk_eq (by simp; omega), e]
    simp
  rw [if_neg (by simpa using h1)]
  by_cases h2 : p.Op = 109
  · rw [if_neg (by omega), if_pos h2] at h
    simp only [Bool.and_eq_true, decide_eq_true_eq] at h
    obtain ⟨⟨⟨a1, a2⟩, a3⟩, a4⟩ := h
    have e := pt2 (v := [109, 97, 114, 107]) (by omega) (by omega) (by rw [h2]; decide +kernel) (filt2'' a4 (name_ne a2).1 (name_ne a3).1)
    rw [if_pos (by simp [h2]), chk_eq (by simp; omega), chk_eq (by simp; omega), chk_eq (by simp; omega), e]
    simp
  rw [if_neg (by simpa using h2)]
  by_cases h3 : p.Op = 110
  · rw [if_neg (by omega), if_neg h2, if_pos h3] at h
    simp only [Bool.and_eq_true, decide_eq_true_eq] at h
    obtain ⟨⟨⟨a1, a2⟩, a3⟩, a4⟩ := h
    have e : ptext p = [97, 116, 116, 114] ++ [32] ++ p.Kind ++ [32] ++ p.Name ++ [32] ++ p.New := by
      unfold ptext pwords
      rw [if_neg (by omega), if_neg (by omega), filt3 (name_ne a2).1 (name_ne a3).1 (name_ne a4).1, show verbS p.Op = [97, 116, 116, 114] by rw [h3]; decide +kernel, join3]
    rw [if_pos (by simp [h3]), chk_eq (by simp; omega), chk_eq (by simp; omega), chk_eq (by simp; omega), chk_eq (by simp; omega), chk_eq (by simp; omega), e]
    simp
  rw [if_neg (by simpa using h3)]
  by_cases h4 : p.Op = 97
  · have e : ptext p = [97, 100, 100] ++ [32] ++ p.Kind ++ [32] ++ (p.Name ++ ([61] ++ valsT p.Values)) := by
      unfold ptext pwords
      rw [if_pos (.inl h4), show verbS p.Op = [97, 100, 100] by rw [h4]; decide +kernel, join2]
    rw [if_pos (by simp [h4]), chk_eq (by simp; omega), chk_eq (by simp; omega), chk_eq (by simp; omega), chk_eq (by simp; omega), chk_eq (by simp; omega), e]
    simp
  rw [if_neg (by simpa using h4)]
  by_cases h5 : p.Op = 100
  · have e : ptext p = [100, 114, 111, 112] ++ [32] ++ p.Kind ++ [32] ++ (p.Name ++ ([61] ++ valsT p.Values)) := by
      unfold ptext pwords
      rw [if_pos (.inr h5), show verbS p.Op = [100, 114, 111, 112] by rw [h5]; decide +kernel, join2]
    rw [if_pos (by simp [h5]), chk_eq (by simp; omega), chk_eq (by simp; omega), chk_eq (by simp; omega), chk_eq (by simp; omega), chk_eq (by simp; omega), e]
    simp
  rw [if_neg (by simpa using h5)]
  by_cases h6 : p.Op = 119
  · rw [if_pos (by omega)] at h
    simp only [Bool.and_eq_true, decide_eq_true_eq] at h
    obtain ⟨⟨⟨a1, a2⟩, a3⟩, a4⟩ := h
    have e := pt2 (v := [119, 114, 97, 112]) (by omega) (by omega) (by rw [h6]; decide +kernel) (filt2' (name_ne a2).1 a4 (name_ne a3).1)
    rw [if_pos (by simp [h6]), chk_eq (by simp; omega), chk_eq (by simp; omega), chk_eq (by simp; omega), e]
    simp
  rw [if_neg (by simpa using h6)]
  by_cases h7 : p.Op = 117
  · rw [if_pos (by omega)] at h
    simp only [Bool.and_eq_true, decide_eq_true_eq] at h
    obtain ⟨⟨⟨a1, a2⟩, a3⟩, a4⟩ := h
    have e := pt2 (v := [117, 110, 119, 114, 97, 112]) (by omega) (by omega) (by rw [h7]; decide +kernel) (filt2' (name_ne a2).1 a4 (name_ne a3).1)
    rw [if_pos (by simp [h7]), chk_eq (by simp; omega), chk_eq (by simp; omega), chk_eq (by simp; omega), e]
    simp
  rw [if_neg (by simpa using h7)]
  by_cases h8 : p.Op = 104
  · rw [if_neg (by omega), if_neg h2, if_neg h3, if_neg (by omega), if_neg (by omega), if_pos (.inl h8)] at h
    simp only [Bool.and_eq_true, decide_eq_true_eq] at h
    obtain ⟨⟨⟨a1, a2⟩, a3⟩, a4⟩ := h
    have e := pt2 (v := [104, 101, 97, 100]) (by omega) (by omega) (by rw [h8]; decide +kernel) (filt2 (name_ne a2).1 (name_ne a3).1 a4)
    rw [if_pos (by simp [h8]), chk_eq (by simp; omega), chk_eq (by simp; omega), chk_eq (by simp; omega), e]
    simp
  rw [if_neg (by simpa using h8)]
  by_cases h9 : p.Op = 115
  · rw [if_neg (by omega), if_neg h2, if_neg h3, if_neg (by omega), if_neg (by omega), if_pos (.inr h9)] at h
    simp only [Bool.and_eq_true, decide_eq_true_eq] at h
    obtain ⟨⟨⟨a1, a2⟩, a3⟩, a4⟩ := h
    have e := pt2 (v := [115, 112, 114, 101, 97, 100]) (by omega) (by omega) (by rw [h9]; decide +kernel) (filt2 (name_ne a2).1 (name_ne a3).1 a4)
    rw [if_pos (by simp [h9]), chk_eq (by simp; omega), chk_eq (by simp; omega), chk_eq (by simp; omega), e]
    simp
  rw [if_neg (by simpa using h9)]
  by_cases h10 : p.Op = 116
  · rw [if_neg (by omega), if_neg h2, if_neg h3, if_pos h10] at h
    simp only [Bool.and_eq_true, decide_eq_true_eq] at h
    obtain ⟨⟨⟨⟨⟨a1, a2⟩, a3⟩, a4⟩, a5⟩, a6⟩ := h
    have e : ptext p = [116, 97, 98, 108, 101] ++ [32] ++ p.Kind ++ [32] ++ p.Name ++ [32] ++ Lib.join (pairsT p.Values p.To) [44] := by
      unfold ptext pwords
      rw [if_neg (by omega), if_pos h10, show verbS p.Op = [116, 97, 98, 108, 101] by rw [h10]; decide +kernel, join3]
    have hl1 := word_l1 p p.Values p.To [] 0 [] rfl rfl a3 (by omega) (by simp; omega)
    rw [chk_eq (by omega), hl1]
    simp only [Option.bind_some, List.nil_append]
    rw [chk_eq (by simp; omega), chk_eq (by simp; omega), chk_eq (by simp; omega), chk_eq (by simp; omega), row_eq _ _ (by simp) (by omega)]
    simp only [Option.bind_some]
    rw [chk_eq (by simp; omega), e]
    simp
  · rw [if_neg (by omega), if_neg h2, if_neg h3, if_neg h10, if_neg (by omega), if_neg (by omega)] at h
    cases h

theorem write_l0 (f : diptychref13_Lens → Option Str) : ∀ (l : List lens_Lens) (i : Int) (out : List Str), (∀ k ∈ l, f (rL k) = some (ltext k)) → out.length + l.length ≤ 1073741824 → diptychref13_write_l0 f (rLs l) i out = some (out ++ ltexts l)
  | [], i, out, _, _ => by simp [diptychref13_write_l0, ltexts, rLs]
  | x :: l, i, out, h, hb => by
    simp only [List.length_cons] at hb
    rw [rLs, diptychref13_write_l0, h x (by simp)]
    simp only [Option.bind_some]
    rw [app_eq (by simp; omega)]
    simp only [Option.bind_some]
    rw [write_l0 f l _ _ (fun k hk => h k (by simp [hk])) (by simp; omega)]
    simp [ltexts]
theorem write_k (l : lens_Lens) : lW l ≤ 1048577 → lform l = true → ∀ kr, lD l ≤ kr → diptychref13_write_k kr (rL l) = some (ltext l) := by
  induction l using lens_Lens.ind with
  | h l ih =>
    intro hw hf kr hk
    have hd := lD_eq l
    have hwt := lW_eq l
    have hl := lWs_len l.Kids
    obtain ⟨kr, rfl⟩ : ∃ j, kr = j + 1 := ⟨kr - 1, by omega⟩
    rw [diptychref13_write_k, ltext_eq, rL_eq]
    simp only
    have eo : (rP l.Prim).Op = l.Prim.Op := rfl
    rw [eo]
    by_cases h0 : l.Prim.Op = 0
    · obtain ⟨f1, f2, f3⟩ := lform_kids hf h0
      have h1 := ltexts_len l.Kids fun x _ => ltext_len x
      have h2 := jlen2 (ltexts l.Kids)
      have h3 := lens_strs (ltexts l.Kids)
      rw [ltexts_n] at h2 h3
      rw [if_neg (by simp [h0]), if_pos h0, chk_eq (by rw [rLs_len]; omega), write_l0 _ l.Kids 0 [] (fun k hkk => ih k hkk (by have := lW_mem hkk; omega) (lforms_mem f3 k hkk).2 kr (by have := lD_mem hkk; omega)) (by simp; omega)]
      simp only [Option.bind_some, List.nil_append]
      rw [row_eq _ _ (by simp) (by omega)]
      simp only [Option.bind_some]
      by_cases ht : l.Turned = true
      · rw [if_pos ht, if_pos ht, chk_eq (by simp; omega), chk_eq (by simp; omega)]
      · rw [if_neg ht, if_neg ht]
    · obtain ⟨f1, f2, f3⟩ := lform_prim hf h0
      rw [if_pos (by simpa using h0), if_neg h0, word_eq _ f1 (by omega)]
      rfl
theorem rprint_eq (l : lens_Lens) (h : lW l ≤ 1048577) : diptychref13_Print (rL l) = some (if lright l = true then (ltext l, 0) else ([], 2)) := by
  unfold diptychref13_Print
  rw [rright_eq l (by omega)]
  simp only [Option.bind_some]
  cases hr : lright l with
  | false => rfl
  | true =>
    have hf : lform l = true := by
      unfold lright at hr
      simp only [Bool.and_eq_true] at hr
      exact hr.2
    have ht : diptychref13_write (rL l) = some (ltext l) := by
      unfold diptychref13_write
      exact lim_of (lD l) fun kr hk => write_k l h hf kr hk
    simp only [Bool.not_true, Bool.false_eq_true, if_false]
    rw [ht]
    rfl

/-! ### Flat -/
theorem rflat_l0 (f : diptychref13_Lens → Option (List diptychref13_Prim)) : ∀ (l : List lens_Lens) (i : Int) (out : List diptychref13_Prim), (∀ k ∈ l, f (rL k) = some ((lflat k).map rP)) → out.length + lmanys l ≤ 1073741824 → diptychref13_Flat_l0 f (rLs l) i out = some (out ++ (lflats l).map rP)
  | [], i, out, _, _ => by simp [diptychref13_Flat_l0, lflats, rLs]
  | x :: l, i, out, h, hb => by
    simp only [lmanys] at hb
    have hx := lflat_len x
    rw [rLs, diptychref13_Flat_l0, h x (by simp)]
    simp only [Option.bind_some]
    rw [app_eq (by rw [List.length_map]; omega)]
    simp only [Option.bind_some]
    rw [rflat_l0 f l _ _ (fun k hk => h k (by simp [hk])) (by rw [List.length_append, List.length_map]; omega)]
    simp [lflats]
theorem rflat_l1 (a : List lens_Prim) (ha : a.length ≤ 1073741824) : ∀ (n : Nat) (k : Nat) (back : List diptychref13_Prim), n ≤ a.length → n < k → back.length + n ≤ 1073741824 → diptychref13_Flat_l1 (a.map rP) k ((n : Int) - 1) back = some (back ++ (rt (a.take n)).map rP)
  | n, 0, back, _, hk, _ => by omega
  | 0, k + 1, back, _, hk, _ => by
    rw [diptychref13_Flat_l1, if_neg (by simp)]
    simp [rt]
  | n + 1, k + 1, back, hn, hk, hb => by
    have hx : n < a.length := by omega
    have e1 : (((n + 1 : Nat) : Int) - 1) = (n : Int) := by omega
    have r : rd (a.map rP) (n : Int) = some (rP a[n]) := rd_nat (by simp [hx])
    have e2 : w64 ((n : Int) - 1) = (n : Int) - 1 := w64_eq (by omega)
    have et : rt (a.take (n + 1)) = turnP a[n] :: rt (a.take n) := by
      unfold rt
      rw [List.take_add_one, List.getElem?_eq_getElem hx]
      show List.map turnP (List.take n a ++ [a[n]]).reverse = _
      rw [List.reverse_append]
      rfl
    rw [e1, diptychref13_Flat_l1, if_pos (by simp), r]
    simp only [Option.bind_some, rturn_eq]
    rw [app_eq (by simp; omega)]
    simp only [Option.bind_some]
    rw [e2, rflat_l1 a ha n k _ (by omega) (by omega) (by simp; omega), et]
    simp
theorem rflat_k (l : lens_Lens) : lW l ≤ 1048577 → ∀ kr, lD l ≤ kr → diptychref13_Flat_k kr (rL l) = some ((lflat l).map rP) := by
  induction l using lens_Lens.ind with
  | h l ih =>
    intro hw kr hk
    have hd := lD_eq l
    have hwt := lW_eq l
    have hl := lWs_len l.Kids
    have hm := lmanys_le l.Kids fun x _ => lmany_le x
    have hf := lflats_len l.Kids fun x _ => lflat_len x
    obtain ⟨kr, rfl⟩ : ∃ j, kr = j + 1 := ⟨kr - 1, by omega⟩
    rw [diptychref13_Flat_k, lflat_eq, rL_eq]
    simp only
    have eo : (rP l.Prim).Op = l.Prim.Op := rfl
    rw [eo]
    by_cases h0 : l.Prim.Op = 0
    · rw [if_neg (by simp [h0]), if_pos h0, chk_eq (by rw [rLs_len]; omega), rflat_l0 _ l.Kids 0 [] (fun k hkk => ih k hkk (by have := lW_mem hkk; omega) kr (by have := lD_mem hkk; omega)) (by simp; omega)]
      simp only [Option.bind_some, List.nil_append]
      by_cases ht : l.Turned = true
      · rw [if_neg (by simp [ht]), if_pos ht]
        have h1 : (lim fun k => diptychref13_Flat_l1 ((lflats l.Kids).map rP) k (w64 ((((lflats l.Kids).map rP).length : Int) - 1)) []) = some ((rt (lflats l.Kids)).map rP) := by
          refine lim_of ((lflats l.Kids).length + 1) fun k hk => ?_
          have := rflat_l1 (lflats l.Kids) (by omega) (lflats l.Kids).length k [] (Nat.le_refl _) (by omega) (by simp; omega)
          rw [List.length_map, w64_eq (by omega), this]
          simp
        rw [h1]
        rfl
      · rw [if_pos (by simpa using ht), if_neg ht]
    · rw [if_pos (by simpa using h0), if_neg h0]
      rfl
theorem rflat_eq (l : lens_Lens) (h : lW l ≤ 1048577) : diptychref13_Flat (rL l) = some ((lflat l).map rP) := by
  unfold diptychref13_Flat
  exact lim_of (lD l) fun kr hk => rflat_k l h kr hk
theorem samePrims_l0 (f : List lens_Prim) (hw : ∀ p ∈ f, pW p ≤ 1099511627776) : ∀ (suf pre : List lens_Prim), f = pre ++ suf → diptychlaw13_samePrims_l0 (f.map rP) suf (pre.length : Int) = some (.inr ())
  | [], pre, _ => rfl
  | y :: suf, pre, h => by
    have ih := samePrims_l0 f hw suf (pre ++ [y]) (by simp [h])
    have e2 : ((pre ++ [y]).length : Int) = (pre.length : Int) + 1 := by simp
    rw [e2] at ih
    have r : rd (f.map rP) (pre.length : Int) = some (rP y) := rd_nat (by rw [h]; simp)
    rw [diptychlaw13_samePrims_l0, r]
    simp only [Option.bind_some]
    rw [samePrim_self y (hw y (by rw [h]; simp))]
    simpa using ih
theorem samePrims_eq (f : List lens_Prim) (hw : ∀ p ∈ f, pW p ≤ 1099511627776) (hl : f.length ≤ 1099511627776) : diptychlaw13_samePrims f (f.map rP) = some true := by
  unfold diptychlaw13_samePrims
  rw [if_neg (by simp), chk_eq (by omega)]
  have := samePrims_l0 f hw f [] rfl
  have this' : diptychlaw13_samePrims_l0 (f.map rP) f 0 = some (.inr ()) := this
  rw [this']
  rfl

end Go.Proofs.YtpjdafhmneiohaaDoor
