/- The reference's checks are the same. -/
import Derived.Test.YtblielhogcnnkaaDoorForm
import Derived.Test.YtblielhogcnnkaaDoorUtf
namespace Go.Proofs.YtblielhogcnnkaaDoor
set_option linter.unusedSimpArgs false
set_option linter.unusedVariables false
open Go

/-! ### Names and values -/
theorem rname_l0 (s : Str) (hs : s.length ≤ 4611686018427387904) : ∀ (suf pre : Str) (f : Nat), s = pre ++ suf → suf.length < f → diptychref1_Name_l0 s f (pre.length : Int) = some (sumB (suf.all letter))
  | [], pre, 0, _, h => by simp at h
  | [], pre, f + 1, hk, _ => by
    have g : decide ((pre.length : Int) < (s.length : Int)) = false := by rw [hk]; simp
    rw [diptychref1_Name_l0, g]
    rfl
  | c :: suf, pre, 0, _, h => by simp at h
  | c :: suf, pre, f + 1, hk, hf => by
    have hl : s.length = pre.length + (suf.length + 1) := by rw [hk]; simp
    have g : decide ((pre.length : Int) < (s.length : Int)) = true := by simp; omega
    have e : s.getD (pre.length : Int).toNat 0 = c := by rw [hk]; simp [List.getD]
    have e2 : (pre.length : Int) + 1 = ((pre ++ [c]).length : Int) := by simp
    have ih := rname_l0 s hs suf (pre ++ [c]) f (by rw [hk]; simp) (by simp at hf; omega)
    rw [diptychref1_Name_l0, g]
    simp only [if_true]
    rw [chk_eq (by omega), e]
    by_cases h1 : c.toNat < 97
    · have g1 : decide ((c.toNat : Int) < 97) = true := by simp; omega
      have g2 : letter c = false := by simp [letter]; omega
      simp [g1, g2, sumB]
    · have g1 : decide ((c.toNat : Int) < 97) = false := by simp; omega
      simp only [g1, Bool.false_eq_true, if_false]
      rw [chk_eq (by omega)]
      by_cases h2 : c.toNat > 122
      · have g3 : decide ((c.toNat : Int) > 122) = true := by simp; omega
        have g2 : letter c = false := by simp [letter]; omega
        simp [g3, g2, sumB]
      · have g3 : decide ((c.toNat : Int) > 122) = false := by simp; omega
        have g2 : letter c = true := by simp [letter]; omega
        simp only [g3, Bool.false_eq_true, if_false]
        rw [w64_eq (by omega), e2, ih]
        simp [g2]
theorem rname_eq (s : Str) (hs : s.length ≤ 4611686018427387904) : diptychref1_Name s = some (isName s) := by
  unfold diptychref1_Name
  have h0 : (lim fun k => diptychref1_Name_l0 s k 0) = some (sumB (s.all letter)) := lim_of (s.length + 1) fun k hk => rname_l0 s hs s [] k rfl (by omega)
  rw [h0]
  simp only [Option.bind_some]
  unfold isName
  cases ha : s.all letter with
  | false => simp [sumB]
  | true =>
    simp only [sumB, Bool.true_and]
    by_cases h1 : s = []
    · subst h1; rfl
    · have hp := List.length_pos_iff.2 h1
      have g1 : decide ((s.length : Int) ≥ 1) = true := by simp; omega
      simp only [g1, if_true]
      by_cases h2 : s.length ≤ 8
      · have g2 : decide ((s.length : Int) ≤ 8) = true := by simp; omega
        simp only [g2, if_true, Option.some.injEq]
        rw [Bool.eq_iff_iff]
        simp [h1, h2]
      · have g2 : decide ((s.length : Int) ≤ 8) = false := by simp; omega
        simp [g2, h2]
theorem rvalue_eq (s : Str) : diptychref1_Value s = some (isValue s) := by
  unfold diptychref1_Value diptychref1_formed diptychref1_runes isValue
  simp only [Option.bind_some, valid_eq]
  by_cases h2 : s.length ≤ 40
  · have g2 : decide ((s.length : Int) ≤ 40) = true := by simp; omega
    simp [g2, h2]
  · have g2 : decide ((s.length : Int) ≤ 40) = false := by simp; omega
    simp [g2, h2]

/-! ### Rising -/
theorem rrise_l0 : ∀ (suf pre : List Str), (∀ s ∈ suf, s.length ≤ 4611686018427387904) → (pre ++ suf).length ≤ 4611686018427387904 → diptychref1_rise_l0 (pre ++ suf) suf (pre.length : Int) = some (sumB (riseAfter pre.getLast? suf))
  | [], pre, _, _ => by simp [diptychref1_rise_l0, riseAfter, sumB]
  | y :: suf, pre, h, hb => by
    have e : (pre.length : Int) + 1 = ((pre ++ [y]).length : Int) := by simp
    have ih := rrise_l0 suf (pre ++ [y]) (fun s hs => h s (by simp [hs])) (by simpa using hb)
    rw [List.append_assoc, List.singleton_append, ← e, List.getLast?_append, List.getLast?_singleton] at ih
    simp only [Option.some_or] at ih
    rw [diptychref1_rise_l0, rname_eq y (h y (by simp))]
    simp only [Option.bind_some]
    rw [riseAfter_cons]
    rcases Bool.eq_false_or_eq_true (isName y) with hn | hn
    rotate_left
    · simp [hn, sumB]
    · rw [hn]
      simp only [Bool.not_true, Bool.false_eq_true, if_false, Bool.true_and]
      rcases snoc_cases pre with rfl | ⟨p, x, rfl⟩
      · have g : decide ((([] : List Str).length : Int) > 0) = false := by decide
        simp only [g, Bool.false_eq_true, if_false]
        rw [ih]
        simp
      · have g : decide (((p ++ [x]).length : Int) > 0) = true := decide_eq_true (by simp only [List.length_append, List.length_cons, List.length_nil]; omega)
        have hr : rd (p ++ [x] ++ y :: suf) (w64 (((p ++ [x]).length : Int) - 1)) = some x := by
          simp only [List.length_append, List.length_cons, List.length_nil] at hb
          rw [w64_eq (by simp; omega)]
          have e2 : ((p ++ [x]).length : Int) - 1 = (p.length : Int) := by simp
          rw [e2, List.append_assoc]
          exact rd_mid p (y :: suf) x
        simp only [g, if_true, hr, Option.bind_some, List.getLast?_append, List.getLast?_singleton, Option.some_or]
        rcases Bool.eq_false_or_eq_true (Op.bytesLess y x || y == x) with hc | hc
        · simp only [hc, if_true, Bool.not_true, Bool.false_and, sumB]
        · simp only [hc, Bool.false_eq_true, if_false, Bool.not_false, Bool.true_and]
          exact ih
theorem rrise_eq (l : List Str) (h : ∀ s ∈ l, s.length ≤ 4611686018427387904) (hb : l.length ≤ 4611686018427387904) : diptychref1_rise l = some (riseB l) := by
  have h0 := rrise_l0 l [] h (by simpa using hb)
  have h0' : diptychref1_rise_l0 l l 0 = _ := h0
  unfold diptychref1_rise
  rw [chk_eq (by omega), h0']
  simp only [Option.bind_some, List.getLast?_nil, riseB]
  cases riseAfter none l <;> rfl

/-! ### Formed -/
theorem rformed_l0 : ∀ (l : List api_Attr) (i : Int) (out : List Str), (out.length + l.length) * 16 ≤ 140737488355328 → diptychref1_Formed_l0 l i out = some (if l.all (fun x => isValue x.Value) = true then .inr (out ++ l.map (·.Name)) else .inl false)
  | [], i, out, _ => by simp [diptychref1_Formed_l0]
  | a :: l, i, out, hb => by
    simp only [List.length_cons] at hb
    rw [diptychref1_Formed_l0, app_eq (by simp; omega)]
    simp only [Option.bind_some]
    rw [rvalue_eq]
    simp only [Option.bind_some]
    rcases Bool.eq_false_or_eq_true (isValue a.Value) with hv | hv
    rotate_left
    · simp [hv]
    · simp only [hv, Bool.not_true, Bool.false_eq_true, if_false, List.all_cons, Bool.true_and]
      rw [rformed_l0 l _ _ (by simp; omega)]
      simp
theorem rformed_l1 (n : api_Node) (f : api_Node → Option Bool) : ∀ (suf pre : List api_Node), n.Kids = pre ++ suf → (∀ k ∈ suf, f k = some (formB k)) → nwts n.Kids ≤ 1099511627776 → diptychref1_Formed_l1 n f suf (pre.length : Int) = some (sumB (formBs pre.getLast? suf))
  | [], pre, _, _, _ => by simp [diptychref1_Formed_l1, formBs_nil, sumB]
  | y :: suf, pre, hk, hf, hw => by
    have e : (pre.length : Int) + 1 = ((pre ++ [y]).length : Int) := by simp
    have ih := rformed_l1 n f suf (pre ++ [y]) (by rw [hk]; simp) (fun s hs => hf s (by simp [hs])) hw
    rw [← e, List.getLast?_append, List.getLast?_singleton] at ih
    simp only [Option.some_or] at ih
    rw [diptychref1_Formed_l1, hf y (by simp)]
    simp only [Option.bind_some]
    rw [formBs_cons]
    rcases Bool.eq_false_or_eq_true (formB y) with hn | hn
    rotate_left
    · simp [hn, sumB]
    · rw [hn]
      simp only [Bool.not_true, Bool.false_eq_true, if_false, Bool.true_and]
      rcases snoc_cases pre with rfl | ⟨p, x, rfl⟩
      · have g : decide ((([] : List api_Node).length : Int) > 0) = false := by decide
        simp only [g, Bool.false_eq_true, if_false]
        rw [ih]
        simp
      · have g : decide (((p ++ [x]).length : Int) > 0) = true := decide_eq_true (by simp only [List.length_append, List.length_cons, List.length_nil]; omega)
        have hl := nwts_len n.Kids
        have hr : rd n.Kids (w64 (((p ++ [x]).length : Int) - 1)) = some x := by
          rw [hk] at hl ⊢
          simp only [List.length_append, List.length_cons, List.length_nil] at hl
          rw [w64_eq (by simp; rw [hk] at hw; omega)]
          have e2 : ((p ++ [x]).length : Int) - 1 = (p.length : Int) := by simp
          rw [e2, List.append_assoc]
          exact rd_mid p (y :: suf) x
        have hy : nwt y ≤ nwts n.Kids := nwt_mem (by rw [hk]; simp)
        have hyw := nwt_eq y
        have hym := strsW_n y.Marks
        have ey : (y.Kind == ([116, 101, 120, 116] : Str)) = isT y := rfl
        have ex : (x.Kind == ([116, 101, 120, 116] : Str)) = isT x := rfl
        simp only [g, if_true, ey, List.getLast?_append, List.getLast?_singleton, Option.some_or]
        unfold alikeB
        cases hty : isT y with
        | false =>
          simp only [Bool.false_eq_true, if_false, Bool.and_false, Bool.false_and, Bool.not_false, Bool.true_and]
          exact ih
        | true =>
          simp only [if_true]
          rw [hr]
          simp only [Option.bind_some, ex]
          cases htx : isT x with
          | false =>
            simp only [Bool.false_eq_true, if_false, Bool.false_and, Bool.not_false, Bool.true_and]
            exact ih
          | true =>
            simp only [if_true]
            rw [sameNames_eq _ _ (by omega)]
            simp only [Option.bind_some, Bool.true_and]
            by_cases hm : x.Marks = y.Marks
            · simp [hm, sumB]
            · have hm' : ¬ y.Marks = x.Marks := fun e => hm e.symm
              simp only [hm, hm', decide_false, Bool.false_eq_true, if_false, Bool.not_false, Bool.true_and]
              exact ih
theorem rformed_k (n : api_Node) : nwt n ≤ 1099511627776 → ∀ kr, ndep n ≤ kr → diptychref1_Formed_k kr n = some (formB n) := by
  induction n using api_Node.ind with
  | h n ih =>
    intro hw kr hk
    have hd := ndep_eq n
    obtain ⟨kr, rfl⟩ : ∃ j, kr = j + 1 := ⟨kr - 1, by omega⟩
    have hwt := nwt_eq n
    have hl := nwts_len n.Kids
    have hm := strsW_n n.Marks
    have ha := attrsW_n n.Attrs
    have en : (n.Kind == ([116, 101, 120, 116] : Str)) = isT n := rfl
    rw [diptychref1_Formed_k, en, formB_eq]
    by_cases ht : isT n = true
    · simp only [ht, if_true]
      by_cases h1 : n.Text = []
      · simp [h1]
      · have g1 : (n.Text == []) = false := by simpa using h1
        simp only [g1, Bool.not_false, if_true]
        unfold diptychref1_formed diptychref1_runes
        simp only [Option.bind_some, valid_eq]
        cases hv : Lib.validD n.Text with
        | false => simp
        | true =>
          simp only [if_true]
          rw [rrise_eq _ (fun s hs => by have := strsW_mem hs; omega) (by omega)]
          simp only [Option.bind_some]
          cases hr : riseB n.Marks with
          | false => simp
          | true =>
            simp only [if_true, ne_eq, h1, not_false_eq_true, decide_true, Bool.true_and]
            by_cases h5 : n.Attrs.length = 0
            · have g5 : ((n.Attrs.length : Int) == 0) = true := by simp [h5]
              have g6 : decide (n.Attrs.length + n.Kids.length = 0) = ((n.Kids.length : Int) == 0) := by
                rw [Bool.eq_iff_iff]
                simp only [decide_eq_true_eq, beq_iff_eq]
                omega
              rw [if_pos g5, g6]
            · have g5 : ((n.Attrs.length : Int) == 0) = false := by simpa using h5
              have g6 : decide (n.Attrs.length + n.Kids.length = 0) = false := decide_eq_false fun e => h5 (by omega)
              simp only [g5, g6, Bool.false_eq_true, if_false]
    · simp only [ht, Bool.false_eq_true, if_false]
      rw [chk_eq (by omega), rformed_l0 _ _ _ (by simp; omega)]
      simp only [Option.bind_some]
      cases hv : n.Attrs.all (fun x => isValue x.Value) with
      | false => simp
      | true =>
        simp only [if_true, List.nil_append, Bool.true_and]
        rw [rname_eq _ (by omega)]
        simp only [Option.bind_some]
        cases h2 : isName n.Kind with
        | false => simp
        | true =>
          simp only [Bool.not_true, Bool.false_eq_true, if_false, Bool.true_and]
          by_cases h3 : n.Text = []
          · by_cases h4 : n.Marks = []
            · have g4 : decide ((n.Marks.length : Int) > 0) = false := by simp [h4]
              have g3 : (n.Text == []) = true := by simp [h3]
              simp only [g3, Bool.not_true, Bool.false_eq_true, if_false, g4]
              rw [rrise_eq _ (fun s hs => by
                obtain ⟨a, ha', rfl⟩ := List.mem_map.1 hs
                have := attrsW_mem ha'; omega) (by simp; omega)]
              simp only [Option.bind_some]
              cases hr : riseB (n.Attrs.map (·.Name)) with
              | false => simp
              | true =>
                simp only [Bool.not_true, Bool.false_eq_true, if_false]
                have h0 := rformed_l1 n (diptychref1_Formed_k kr) n.Kids [] rfl (fun k hkk => ih k hkk (by have := nwt_mem hkk; omega) kr (by have := ndep_mem hkk; omega)) (by omega)
                have h0' : diptychref1_Formed_l1 n (diptychref1_Formed_k kr) n.Kids 0 = _ := h0
                rw [chk_eq (by omega), h0']
                simp only [Option.bind_some, List.getLast?_nil, h3, h4, decide_true, Bool.true_and]
                cases formBs none n.Kids <;> rfl
            · have g4 : decide ((n.Marks.length : Int) > 0) = true := by
                have := List.length_pos_iff.2 h4
                simp; omega
              have g3 : (n.Text == []) = true := by simp [h3]
              simp only [g3, Bool.not_true, Bool.false_eq_true, if_false, g4, if_true]
              simp [h4]
          · have g3 : (n.Text == []) = false := by simpa using h3
            simp only [g3, Bool.not_false, if_true]
            simp [h3]
theorem rformed_eq (n : api_Node) (h : nwt n ≤ 1099511627776) : diptychref1_Formed n = some (formB n) := by
  unfold diptychref1_Formed
  exact lim_of (ndep n) fun kr hk => rformed_k n h kr hk

/-! ### Depth, size, words -/
theorem rdepth_l0 (f : api_Node → Option Int) : ∀ (l : List api_Node) (i : Int) (d : Nat), (∀ k ∈ l, f k = some (depN k : Int)) → diptychref1_Depth_l0 f l i (d : Int) = some ((max d (depNs l) : Nat) : Int)
  | [], i, d, _ => by simp [diptychref1_Depth_l0, depNs]
  | n :: l, i, d, h => by
    rw [diptychref1_Depth_l0, h n (by simp)]
    simp only [Option.bind_some]
    have e : (if (depN n : Int) > (d : Int) then (depN n : Int) else (d : Int)) = ((max d (depN n) : Nat) : Int) := by split <;> omega
    rw [e, rdepth_l0 f l _ _ fun k hk => h k (by simp [hk])]
    simp only [depNs, Option.some.injEq]
    omega
theorem rdepth_k (n : api_Node) : nwt n ≤ 1099511627776 → ∀ kr, ndep n ≤ kr → diptychref1_Depth_k kr n = some (depN n : Int) := by
  induction n using api_Node.ind with
  | h n ih =>
    intro hw kr hk
    have hd := ndep_eq n
    obtain ⟨kr, rfl⟩ : ∃ j, kr = j + 1 := ⟨kr - 1, by omega⟩
    have hwt := nwt_eq n
    have hl := nwts_len n.Kids
    have hdl := depN_le n
    have hdw := ndep_le n
    have en : (n.Kind == ([116, 101, 120, 116] : Str)) = isT n := rfl
    rw [diptychref1_Depth_k, en]
    by_cases ht : isT n = true
    · simp [ht, depN_eq n]
    · have e := depN_eq n
      rw [if_neg ht] at e
      simp only [ht, Bool.false_eq_true, if_false]
      have h0 := rdepth_l0 (diptychref1_Depth_k kr) n.Kids 0 0 (fun k hkk => ih k hkk (by have := nwt_mem hkk; omega) kr (by have := ndep_mem hkk; omega))
      have h0' : diptychref1_Depth_l0 (diptychref1_Depth_k kr) n.Kids 0 0 = _ := h0
      rw [chk_eq (by omega), h0']
      simp only [Option.bind_some, Nat.zero_max]
      rw [w64_eq (by omega), e]
      rfl
theorem rdepth_eq (n : api_Node) (h : nwt n ≤ 1099511627776) : diptychref1_Depth n = some (depN n : Int) := by
  unfold diptychref1_Depth
  exact lim_of (ndep n) fun kr hk => rdepth_k n h kr hk

theorem rtot_l0 (sz : api_Node → Option Int) : ∀ (l : List api_Node) (i acc : Int), (∀ k ∈ l, sz k = some (nsize k : Int)) → 0 ≤ acc → acc + nsizes l ≤ 9223372036854775807 → diptychref1_Total_l0 sz l i acc = some (acc + nsizes l)
  | [], i, acc, _, _, _ => by simp [diptychref1_Total_l0, nsizes]
  | n :: l, i, acc, h, h0, hb => by
    simp only [nsizes] at hb
    rw [diptychref1_Total_l0, h n (by simp)]
    simp only [Option.bind_some]
    rw [w64_eq (by omega), rtot_l0 sz l _ _ (fun k hk => h k (by simp [hk])) (by omega) (by omega)]
    simp only [nsizes, Option.some.injEq]
    omega
theorem rsiz_k (n : api_Node) : nwt n ≤ 1099511627776 → ∀ kr, 2 * ndep n ≤ kr → diptychref1_Size_k kr n = some (nsize n : Int) := by
  induction n using api_Node.ind with
  | h n ih =>
    intro hw kr hk
    have hd := ndep_eq n
    obtain ⟨kr, rfl⟩ : ∃ j, kr = j + 2 := ⟨kr - 2, by omega⟩
    have hwt := nwt_eq n
    have hl := nwts_len n.Kids
    have hs := nsizes_le' n.Kids
    have en : (n.Kind == ([116, 101, 120, 116] : Str)) = isT n := rfl
    rw [diptychref1_Size_k, en, nsize_eq]
    by_cases ht : isT n = true
    · simp only [ht, if_true]
      unfold diptychref1_runes
      simp only [Option.bind_some, runes_cnt]
    · simp only [ht, Bool.false_eq_true, if_false]
      have h0 := rtot_l0 (diptychref1_Size_k kr) n.Kids 0 0 (fun k hkk => ih k hkk (by have := nwt_mem hkk; omega) kr (by have := ndep_mem hkk; omega)) (by omega) (by omega)
      rw [diptychref1_Total_k, chk_eq (by omega), h0]
      simp only [Option.bind_some]
      rw [w64_eq (by omega)]
      simp
theorem rsiz_eq (n : api_Node) (h : nwt n ≤ 1099511627776) : diptychref1_Size n = some (nsize n : Int) := by
  unfold diptychref1_Size
  exact lim_of (2 * ndep n) fun kr hk => rsiz_k n h kr hk
theorem rtot_eq (l : List api_Node) (h : nwts l ≤ 1099511627776) : diptychref1_Total l = some (nsizes l : Int) := by
  unfold diptychref1_Total
  refine lim_of (2 * ndeps l + 1) fun kr hk => ?_
  obtain ⟨kr, rfl⟩ : ∃ j, kr = j + 1 := ⟨kr - 1, by omega⟩
  have hl := nwts_len l
  have hs := nsizes_le' l
  have h0 := rtot_l0 (diptychref1_Size_k kr) l 0 0 (fun k hkk => rsiz_k k (by have := nwt_mem hkk; omega) kr (by have := ndep_mem hkk; omega)) (by omega) (by omega)
  rw [diptychref1_Total_k, chk_eq (by omega), h0]
  simp

theorem rcheck_eq (n : api_Node) (h : nwt n ≤ 1099511627776) : diptychref1_Check n = some (checkN n) := by
  unfold diptychref1_Check checkN
  rw [rformed_eq n h]
  simp only [Option.bind_some]
  cases hf : formB n with
  | false => simp
  | true =>
    simp only [Bool.not_true, Bool.false_eq_true, if_false]
    rw [rdepth_eq n h]
    simp only [Option.bind_some]
    by_cases hd : 40 < depN n
    · have g : decide ((depN n : Int) > 40) = true := by simp; omega
      simp [g, hd]
    · have g : decide ((depN n : Int) > 40) = false := by simp; omega
      simp only [g, Bool.false_eq_true, if_false]
      rw [rsiz_eq n h]
      simp only [Option.bind_some, hd, if_false]
      by_cases hs : 4000 < nsize n
      · have g : decide ((nsize n : Int) > 4000) = true := by simp; omega
        simp [g, hs]
      · have g : decide ((nsize n : Int) > 4000) = false := by simp; omega
        simp only [g, Bool.false_eq_true, if_false, hs]
        simp

end Go.Proofs.YtblielhogcnnkaaDoor
