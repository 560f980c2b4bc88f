/- CodecBack, CodecParts, CodecApart, plainly. -/
import Derived.Test.YtihndopckmdpbaaDoorPrint
import Derived.Test.YtihndopckmdpbaaDoorReadAll
import Derived.Test.YtihndopckmdpbaaDoorSame
import Derived.Test.YtihndopckmdpbaaDoorDocRight
namespace Go.Proofs.YtihndopckmdpbaaDoor
set_option linter.unusedSimpArgs false
set_option linter.unusedVariables false
open Go

theorem cells_eq {y : diptychlaw2_Cell} (h : cellIn y) : cellIn y := h

/-- A node of a name alone, and its kids: whichever the name. -/
theorem check_kind (a b : Str) (ha : isName a = true) (hb : isName b = true) (ks : List api_Node) : checkN ⟨a, [], [], [], ks⟩ = checkN ⟨b, [], [], [], ks⟩ := by
  have hT : ∀ k : Str, isName k = true → isT (⟨k, [], [], [], ks⟩ : api_Node) = false := by
    intro k hk
    unfold isName at hk
    simp only [Bool.and_eq_true, decide_eq_true_eq] at hk
    unfold isT
    simpa using hk.2
  have f : ∀ k : Str, isName k = true → formB ⟨k, [], [], [], ks⟩ = formBs none ks := by
    intro k hk
    have h2 : riseB [] = true := rfl
    rw [formB_eq, hT k hk]
    simp [hk, h2]
  have d : ∀ k : Str, isName k = true → depN ⟨k, [], [], [], ks⟩ = depNs ks + 1 := by
    intro k hk
    rw [depN_eq, hT k hk]
    simp
  have s : ∀ k : Str, isName k = true → nsize ⟨k, [], [], [], ks⟩ = 2 + nsizes ks := by
    intro k hk
    rw [nsize_eq, hT k hk]
    simp
  unfold checkN
  rw [f a ha, f b hb, d a ha, d b hb, s a ha, s b hb]
theorem name_x : isName ([120] : Str) = true := by decide +kernel
theorem name_doc : isName sDoc = true := by decide +kernel
theorem kids_right {ks : List api_Node} (h : Kids ks) : checkN (xN ks) = 0 := by
  rw [check_kind [120] sDoc name_x name_doc]
  exact doc_right h
theorem write_doc (ks : List api_Node) : writeN ⟨sDoc, [], [], [], ks⟩ = [100, 111, 99, 91] ++ (writeL ks ++ [93]) := by
  rw [writeN_eq]
  rfl
theorem doc_wt {ks : List api_Node} (h : Kids ks) : nwt ⟨sDoc, [], [], [], ks⟩ ≤ 1000 := by
  have := h.wt
  simp only [nwt, strsW, attrsW, List.length_nil]
  have : sDoc.length = 3 := rfl
  omega
theorem right_form {n : api_Node} (h : checkN n = 0) : formB n = true := by
  unfold checkN at h
  cases hf : formB n with
  | true => rfl
  | false => simp [hf] at h

theorem parse_right {n : api_Node} (hc : checkN n = 0) (hw : nwt n ≤ 268435456) : codec_Parse (writeN n) = some (n, 0) := by
  have := parse_write n (right_form hc) hw
  rw [hc] at this
  simpa using this
theorem print_right {n : api_Node} (hc : checkN n = 0) (hw : nwt n ≤ 268435456) : codec_Print n = some (writeN n, 0) := by
  have := print_eq n hw
  rw [hc] at this
  simpa using this

/-- A text that is cut is no node's. -/
theorem cut_none {n : api_Node} (hf : formB n = true) (hT : isT n = false) (hw : nwt n ≤ 200000) (p q : Str) (h : writeN n = p ++ q) (hq : q ≠ []) : codec_Parse p = some (zeroN, 2) := by
  have hle := writeN_le n
  have hlen : p.length + q.length = (writeN n).length := by rw [h, List.length_append]
  refine parse_none p (by omega) ?_
  rintro ⟨m, h1, h2, h3⟩
  have r1 := node_read n hf (by omega) [] (by simp) (by simp; omega)
  have hmT : isT m = true → q.head? ≠ some 60 := by
    intro hmT
    exfalso
    obtain ⟨c, hc, hor⟩ := write_head hf []
    obtain ⟨d, hd, hor'⟩ := write_head h1 q
    rw [h3, ← h] at hd
    rw [List.append_nil, hd] at hc
    cases hc
    rcases hor' with ⟨_, rfl⟩ | ⟨h', _⟩
    · rcases hor with ⟨h', _⟩ | ⟨_, h'⟩
      · rw [hT] at h'; cases h'
      · revert h'; decide
    · rw [hmT] at h'; cases h'
  have r2 := node_read m h1 h2 q hmT (by rw [h3, List.length_append]; omega)
  rw [h3, ← h] at r2
  rw [List.append_nil, r2] at r1
  simp only [Option.some.injEq, Prod.mk.injEq, codec_reader.mk.injEq] at r1
  exact hq r1.2.1

theorem parseAll_eq (s : Str) (h : s.length ≤ 1000000) : codec_ParseAll s = (codec_Parse (120 :: 91 :: (s ++ [93]))).bind fun x => some (x.1.Kids, x.2) := by
  unfold codec_ParseAll
  rw [chk_eq (by simp only [List.length_cons, List.length_nil]; omega), chk_eq (by simp only [List.length_append, List.length_cons, List.length_nil]; omega)]
  rfl

theorem CodecBack_true (l : List diptychlaw2_Cell) (s : Str) (at_ : Int) (hl : l.length ≤ 9223372036854775807) (hc : ∀ y ∈ l, cellIn y) (ha : -9223372036854775808 ≤ at_ ∧ at_ ≤ 9223372036854775807) : diptychlaw2_CodecBack l s at_ = some true := by
  obtain ⟨ks, e1, K⟩ := doc_eq l hl hc
  have hk := K.wt
  have hwl := writeL_le ks fun k _ => writeN_le k
  have hw := doc_wt K
  have hD := doc_right K
  have hX := kids_right K
  have xw := xN_wt ks
  have wd := write_doc ks
  have wle := writeN_le ⟨sDoc, [], [], [], ks⟩
  unfold diptychlaw2_CodecBack
  rw [shown2_eq]
  simp only [Option.bind_some, Bool.not_true, Bool.false_eq_true, if_false]
  by_cases hs : s.length ≤ 1500
  · have g : decide ((s.length : Int) > 1500) = false := by simp; omega
    simp only [g, Bool.false_eq_true, if_false]
    rw [e1]
    simp only [Option.bind_some]
    rw [print_right hD (by omega)]
    simp only [Option.bind_some]
    rw [parse_right hD (by omega), printAll_eq ks (by omega), hX]
    simp only [Option.bind_some, if_true]
    rw [parseAll_eq _ (by omega), ← write_x, parse_right hX (by rw [xw]; omega)]
    simp only [Option.bind_some, bne_self_eq_false, Bool.false_eq_true, if_false]
    rw [nsame_eq _ (by omega), rsameAll_eq ks (by omega)]
    simp only [Option.bind_some, Bool.not_true, Bool.false_eq_true, if_false]
    rw [chk_eq (by simp only [List.length_cons, List.length_nil]; omega), chk_eq (by simp only [List.length_append, List.length_cons, List.length_nil]; omega)]
    have ew : (writeN ⟨sDoc, [], [], [], ks⟩ == ([100, 111, 99, 91] : Str) ++ writeL ks ++ [93]) = true := by rw [wd]; simp
    simp only [ew, Bool.not_true, Bool.false_eq_true, if_false]
    have hpos : 0 < (writeN ⟨sDoc, [], [], [], ks⟩).length := by rw [wd]; simp
    obtain ⟨p, hp, hp2⟩ := pick_eq at_ ((writeN ⟨sDoc, [], [], [], ks⟩).length : Int) ha (by omega)
    rw [hp]
    simp only [Option.bind_some]
    have hsl : sl (writeN ⟨sDoc, [], [], [], ks⟩) 0 (p : Int) = some ((writeN ⟨sDoc, [], [], [], ks⟩).take p) := by
      have := sl_nat (l := writeN ⟨sDoc, [], [], [], ks⟩) (a := 0) (b := p) (by omega) (by omega)
      simpa using this
    rw [hsl]
    simp only [Option.bind_some]
    rw [cut_none (right_form hD) rfl (by omega) ((writeN ⟨sDoc, [], [], [], ks⟩).take p) ((writeN ⟨sDoc, [], [], [], ks⟩).drop p) (List.take_append_drop _ _).symm (by
      intro h
      have := congrArg List.length h
      rw [List.length_drop, List.length_nil] at this
      omega)]
    have g1 : (([] : Str) == ([] : Str)) = true := rfl
    have g2 : ((([] : List api_Node).length : Int) != 0) = false := rfl
    simp only [Option.bind_some, bne_self_eq_false, Bool.false_eq_true, if_false, g1, Bool.not_true, g2]
    by_cases hex : ∃ m, formB m = true ∧ nwt m ≤ 268435456 ∧ writeN m = s
    · obtain ⟨m, h1, h2, rfl⟩ := hex
      rw [parse_write m h1 h2]
      simp only [Option.bind_some]
      by_cases h0 : checkN m = 0
      · simp only [h0, if_true, bne_self_eq_false, Bool.false_eq_true, if_false]
        rw [print_right h0 h2, right_eq m (by omega), h0]
        simp
      · have g3 : (checkN m != 0) = true := by simpa using h0
        simp [h0]
    · rw [parse_none s (by omega) hex]
      simp
  · have g : decide ((s.length : Int) > 1500) = true := by simp; omega
    simp [g]

/-! ### CodecParts -/
theorem depNs_mem {n : api_Node} : ∀ {l : List api_Node}, n ∈ l → depN n ≤ depNs l
  | x :: l, h => by
    simp only [depNs]
    rcases List.mem_cons.1 h with rfl | h
    · omega
    · have := depNs_mem h; omega
theorem nsizes_mem {n : api_Node} : ∀ {l : List api_Node}, n ∈ l → nsize n ≤ nsizes l
  | x :: l, h => by
    simp only [nsizes]
    rcases List.mem_cons.1 h with rfl | h
    · omega
    · have := nsizes_mem h; omega
/-- The kids of a right node are right. -/
theorem kid_right {n k : api_Node} (h : checkN n = 0) (hT : isT n = false) (hk : k ∈ n.Kids) : checkN k = 0 := by
  have hf := right_form h
  have hkf := forms_kids hf hT k hk
  unfold checkN at h ⊢
  rw [hf, depN_eq, nsize_eq, hT] at h
  simp only [Bool.true_eq_false, Bool.false_eq_true, if_false] at h
  have h1 := depNs_mem hk
  have h2 := nsizes_mem hk
  split at h
  · cases h
  · split at h
    · cases h
    · rw [hkf, if_neg (by simp), if_neg (by omega), if_neg (by omega)]

theorem parts_l0 : ∀ (ks : List api_Node) (i : Int) (acc : Str), (∀ k ∈ ks, checkN k = 0) → acc.length + 4 * nwts ks ≤ 268435456 → diptychlaw2_CodecParts_l0 ks i acc = some (.inr (acc ++ writeL ks))
  | [], i, acc, _, _ => by simp [diptychlaw2_CodecParts_l0, writeL]
  | k :: ks, i, acc, h, hb => by
    simp only [nwts] at hb
    have hk := h k (by simp)
    have hle := writeN_le k
    have hw := nwt_eq k
    have hh := hd_le k
    have hq := qt_le k.Text
    have hwl : nwt k ≤ 67108864 := by omega
    rw [diptychlaw2_CodecParts_l0, print_right hk (by omega)]
    simp only [Option.bind_some]
    rw [parse_right hk (by omega)]
    simp only [Option.bind_some, bne_self_eq_false, Bool.false_eq_true, if_false]
    rw [nsame_eq k (by omega)]
    simp only [Option.bind_some, Bool.not_true, Bool.false_eq_true, if_false]
    have ih := parts_l0 ks (i + 1) (acc ++ writeN k) (fun x hx => h x (by simp [hx])) (by simp only [List.length_append]; omega)
    have e : acc ++ writeN k ++ writeL ks = acc ++ writeL (k :: ks) := by simp [writeL]
    rw [e] at ih
    have en : (k.Kind == ([116, 101, 120, 116] : Str)) = isT k := rfl
    rw [en]
    cases hT : isT k with
    | true =>
      simp only [if_true]
      rw [quote_eq _ (by omega), head_eq k (by omega)]
      simp only [Option.bind_some]
      rw [chk_eq (by omega)]
      have ew : writeN k = qt k.Text ++ hd k := by rw [writeN_eq, if_pos hT]
      have g : (writeN k == qt k.Text ++ hd k) = true := by rw [ew]; simp
      simp only [g, Bool.not_true, Bool.false_eq_true, if_false]
      rw [chk_eq (by omega)]
      exact ih
    | false =>
      simp only [Bool.false_eq_true, if_false]
      rw [chk_eq (by omega)]
      exact ih
theorem CodecParts_true (l : List diptychlaw2_Cell) (hl : l.length ≤ 9223372036854775807) (hc : ∀ y ∈ l, cellIn y) : diptychlaw2_CodecParts l = some true := by
  obtain ⟨ks, e1, K⟩ := doc_eq l hl hc
  have hk := K.wt
  have hkl := nwts_len ks
  have hwl := writeL_le ks fun k _ => writeN_le k
  have hw := doc_wt K
  have hD := doc_right K
  have wd := write_doc ks
  unfold diptychlaw2_CodecParts
  rw [shown2_eq]
  simp only [Option.bind_some, Bool.not_true, Bool.false_eq_true, if_false]
  rw [e1]
  simp only [Option.bind_some]
  rw [head_eq _ (by omega)]
  have eh : hd ⟨sDoc, [], [], [], ks⟩ = [100, 111, 99] := rfl
  rw [eh]
  simp only [Option.bind_some]
  rw [chk_eq (by simp only [List.length_cons, List.length_nil]; omega), chk_eq (by omega)]
  rw [parts_l0 ks 0 _ (fun k hkk => kid_right hD rfl hkk) (by simp only [List.length_append, List.length_cons, List.length_nil]; omega)]
  simp only [Option.bind_some]
  rw [print_right hD (by omega)]
  simp only [Option.bind_some, beq_self_eq_true, if_true]
  rw [chk_eq (by simp only [List.length_append, List.length_cons, List.length_nil]; omega), wd]
  simp

/-! ### CodecApart -/
theorem qt_inj {s t : Str} (h : qt s = qt t) : s = t := by
  have h1 := unq_esc s [] []
  have h2 := unq_esc t [] []
  have e : esc s ++ [34] = esc t ++ [34] := by
    unfold qt at h
    exact (List.cons.inj h).2
  rw [e] at h1
  rw [h1] at h2
  simpa using h2
theorem esc_ge (s : Str) : s.length ≤ (esc s).length := by
  induction s with
  | nil => simp [esc]
  | cons b s ih => rw [esc_cons]; simp only [List.length_append, esc1, List.length_cons]; split <;> simp <;> omega
theorem apart_l0 (s : Str) (hs : s.length ≤ 1000000) : ∀ (suf pre : Str) (k : Nat), s = pre ++ suf → suf.length < k → diptychlaw2_CodecApart_l0 (qt s) k ((1 + (esc pre).length : Nat) : Int) = some (.inr ((1 + (esc s).length : Nat) : Int))
  | [], pre, k, h, hk => by
    obtain ⟨k, rfl⟩ : ∃ j, k = j + 1 := ⟨k - 1, by simp at hk; omega⟩
    have e : pre = s := by simpa using h.symm
    subst e
    have he := esc_le pre
    have hl : (qt pre).length = (esc pre).length + 2 := by simp [qt]
    rw [diptychlaw2_CodecApart_l0, hl, w64_eq (by omega)]
    have g : decide (((1 + (esc pre).length : Nat) : Int) < (((esc pre).length + 2 : Nat) : Int) - 1) = false := by simp; omega
    simp only [g, Bool.false_eq_true, if_false]
  | b :: suf, pre, k, h, hk => by
    obtain ⟨k, rfl⟩ : ∃ j, k = j + 1 := ⟨k - 1, by simp at hk; omega⟩
    have he := esc_le s
    have e1 : esc s = esc pre ++ (esc1 b ++ esc suf) := by rw [h, esc_app, esc_cons]
    have hl : (qt s).length = (esc s).length + 2 := by simp [qt]
    have ih := apart_l0 s hs suf (pre ++ [b]) k (by rw [h]; simp) (by simp at hk; omega)
    have e2 : esc (pre ++ [b]) = esc pre ++ esc1 b := by rw [esc_app, esc_cons]; simp [esc]
    rw [e2, List.length_append] at ih
    have hlen : (esc s).length = (esc pre).length + ((esc1 b).length + (esc suf).length) := by rw [e1]; simp
    have hb1 : 1 ≤ (esc1 b).length := by unfold esc1; split <;> simp
    rw [diptychlaw2_CodecApart_l0, hl, w64_eq (by omega)]
    have g : decide (((1 + (esc pre).length : Nat) : Int) < (((esc s).length + 2 : Nat) : Int) - 1) = true := by simp; omega
    simp only [g, if_true]
    have hcond : (0 : Int) ≤ ((1 + (esc pre).length : Nat) : Int) ∧ ((1 + (esc pre).length : Nat) : Int) < (((esc s).length + 2 : Nat) : Int) := by omega
    rw [chk_eq hcond, chk_eq hcond]
    have hget : (qt s).getD ((1 + (esc pre).length : Nat) : Int).toNat 0 = (esc1 b).headD 0 := by
      have e3 : qt s = (34 :: esc pre) ++ (esc1 b ++ (esc suf ++ [34])) := by unfold qt; rw [e1]; simp
      have e4 : ((1 + (esc pre).length : Nat) : Int).toNat = (34 :: esc pre).length := by rw [List.length_cons]; omega
      have hne : esc1 b ≠ [] := by intro h0; rw [h0] at hb1; simp at hb1
      rw [e3, e4]
      cases hx : esc1 b with
      | nil => exact (hne hx).elim
      | cons x xs => simp [List.getD]
    rw [hget]
    by_cases hsp : b = 34 ∨ b = 92
    · have e5 : esc1 b = [92, b] := if_pos hsp
      rw [e5] at ih ⊢
      have g1 : (((([92, b] : Str).headD 0).toNat : Int) == 34) = false := by simp [List.headD]
      have g2 : (((([92, b] : Str).headD 0).toNat : Int) == 92) = true := by simp [List.headD]
      simp only [g1, g2, Bool.false_eq_true, if_false, if_true]
      have i1 : w64 (((1 + (esc pre).length : Nat) : Int) + 1) = ((1 + (esc pre).length : Nat) : Int) + 1 := w64_eq (by omega)
      rw [i1, w64_eq (by omega)]
      have e6 : ((1 + (esc pre).length : Nat) : Int) + 1 + 1 = ((1 + ((esc pre).length + ([92, b] : Str).length) : Nat) : Int) := by simp only [List.length_cons, List.length_nil]; omega
      rw [e6]
      exact ih
    · have e5 : esc1 b = [b] := if_neg hsp
      rw [e5] at ih ⊢
      have n34 : b ≠ 34 := fun h => hsp (.inl h)
      have n92 : b ≠ 92 := fun h => hsp (.inr h)
      have g1 : (((([b] : Str).headD 0).toNat : Int) == 34) = false := by
        rw [beq_eq_false_iff_ne]
        intro e
        exact n34 (UInt8.toNat_inj.1 (by have h0 : (34 : UInt8).toNat = 34 := rfl; simp only [List.headD_cons] at e; omega))
      have g2 : (((([b] : Str).headD 0).toNat : Int) == 92) = false := by
        rw [beq_eq_false_iff_ne]
        intro e
        exact n92 (UInt8.toNat_inj.1 (by have h0 : (92 : UInt8).toNat = 92 := rfl; simp only [List.headD_cons] at e; omega))
      simp only [g1, g2, Bool.false_eq_true, if_false]
      rw [w64_eq (by omega)]
      have e6 : ((1 + (esc pre).length : Nat) : Int) + 1 = ((1 + ((esc pre).length + ([b] : Str).length) : Nat) : Int) := by simp only [List.length_cons, List.length_nil]; omega
      rw [e6]
      exact ih
theorem CodecApart_true (a b : List diptychlaw2_Cell) (s t : Str) (ha : a.length ≤ 9223372036854775807) (hca : ∀ y ∈ a, cellIn y) (hb : b.length ≤ 9223372036854775807) (hcb : ∀ y ∈ b, cellIn y) : diptychlaw2_CodecApart a b s t = some true := by
  obtain ⟨ks, e1, K⟩ := doc_eq a ha hca
  obtain ⟨js, e2, J⟩ := doc_eq b hb hcb
  have hwK := doc_wt K
  have hwJ := doc_wt J
  have hDK := doc_right K
  have hDJ := doc_right J
  unfold diptychlaw2_CodecApart
  rw [shown2_eq]
  simp only [Option.bind_some, Bool.not_true, Bool.false_eq_true, if_false]
  by_cases hs : s.length ≤ 500
  · have g : decide ((s.length : Int) > 500) = false := by simp; omega
    simp only [g, Bool.false_eq_true, if_false]
    by_cases ht : t.length ≤ 500
    · have g : decide ((t.length : Int) > 500) = false := by simp; omega
      simp only [g, Bool.false_eq_true, if_false]
      have he := esc_le s
      have hge := esc_ge s
      have hl : (qt s).length = (esc s).length + 2 := by simp [qt]
      rw [e1, e2]
      simp only [Option.bind_some]
      rw [print_right hDK (by omega), print_right hDJ (by omega), quote_eq s (by omega), quote_eq t (by omega)]
      simp only [Option.bind_some, bne_self_eq_false, Bool.false_eq_true, if_false]
      obtain ⟨r, er, hr⟩ := nsame_tells (⟨sDoc, [], [], [], ks⟩ : api_Node) ⟨sDoc, [], [], [], js⟩ (by omega)
      rw [er]
      simp only [Option.bind_some]
      have g1 : (((writeN ⟨sDoc, [], [], [], ks⟩ == writeN ⟨sDoc, [], [], [], js⟩) == r) != true) = false := by
        have : (writeN ⟨sDoc, [], [], [], ks⟩ == writeN ⟨sDoc, [], [], [], js⟩) = r := by
          rw [Bool.eq_iff_iff, beq_iff_eq, hr]
          exact ⟨fun h => write_inj (right_form hDK) (right_form hDJ) (by omega) (by omega) h, fun h => by rw [h]⟩
        rw [this]
        simp
      have g2 : (((qt s == qt t) == (s == t)) != true) = false := by
        have : (qt s == qt t) = (s == t) := by
          rw [Bool.eq_iff_iff, beq_iff_eq, beq_iff_eq]
          exact ⟨qt_inj, fun h => by rw [h]⟩
        rw [this]
        simp
      simp only [g1, g2, Bool.false_eq_true, if_false]
      rw [w64_eq (by omega)]
      have g3 : decide (((qt s).length : Int) < (s.length : Int) + 2) = false := by simp; omega
      simp only [g3, Bool.false_eq_true, if_false]
      have h0 : (lim fun k => diptychlaw2_CodecApart_l0 (qt s) k (1 : Int)) = some (.inr ((1 + (esc s).length : Nat) : Int)) :=
        lim_of (s.length + 1) fun k hk => apart_l0 s (by omega) s [] k rfl (by omega)
      rw [h0]
      simp only [Option.bind_some]
      rw [w64_eq (by omega)]
      have g4 : (((1 + (esc s).length : Nat) : Int) == ((qt s).length : Int) - 1) = true := by rw [beq_iff_eq]; omega
      simp only [g4, if_true]
      rw [chk_eq (by omega)]
      have g5 : ((((qt s).getD (0 : Int).toNat 0).toNat : Int) == 34) = true := by simp [qt, List.getD]
      simp only [g5, if_true]
      rw [chk_eq (by omega)]
      have g6 : (qt s).getD ((1 + (esc s).length : Nat) : Int).toNat 0 = 34 := by
        have e4 : ((1 + (esc s).length : Nat) : Int).toNat = (34 :: esc s).length := by rw [List.length_cons]; omega
        have e3 : qt s = (34 :: esc s) ++ [34] := by simp [qt]
        rw [e4, e3]
        simp [List.getD]
      rw [g6]
      rfl
    · have g : decide ((t.length : Int) > 500) = true := by simp; omega
      simp [g]
  · have g : decide ((s.length : Int) > 500) = true := by simp; omega
    simp [g]

end Go.Proofs.YtihndopckmdpbaaDoor
