/- Nodes that are written alike are the same: by their signs alone. -/
import Derived.Test.YtclohbgnaopjfaaDoorWrite
import Derived.Test.YtclohbgnaopjfaaDoorForm
import Derived.Test.YtclohbgnaopjfaaDoorSpan
namespace Go.Proofs.YtclohbgnaopjfaaDoor
set_option linter.unusedSimpArgs false
set_option linter.unusedVariables false
open Go

theorem esc_inj : ∀ (a b r s : Str), esc a ++ 34 :: r = esc b ++ 34 :: s → a = b ∧ r = s
  | [], [], r, s, h => ⟨rfl, by simpa [esc] using h⟩
  | [], y :: b, r, s, h => by
    rw [esc_cons] at h
    by_cases hy : y = 34 ∨ y = 92
    · simp [esc, esc1, hy] at h
    · simp only [esc, List.flatMap_nil, List.nil_append, esc1, hy, if_false, List.cons_append, List.cons.injEq] at h
      exact (hy (.inl h.1.symm)).elim
  | x :: a, [], r, s, h => by
    rw [esc_cons] at h
    by_cases hx : x = 34 ∨ x = 92
    · simp [esc, esc1, hx] at h
    · simp only [esc, List.flatMap_nil, List.nil_append, esc1, hx, if_false, List.cons_append, List.cons.injEq] at h
      exact (hx (.inl h.1)).elim
  | x :: a, y :: b, r, s, h => by
    rw [esc_cons, esc_cons, List.append_assoc, List.append_assoc] at h
    by_cases hx : x = 34 ∨ x = 92
    · by_cases hy : y = 34 ∨ y = 92
      · simp only [esc1, hx, hy, if_true, List.cons_append, List.nil_append, List.cons.injEq, true_and] at h
        obtain ⟨h1, h2⟩ := esc_inj a b r s h.2
        rw [h.1, h1]
        exact ⟨rfl, h2⟩
      · simp only [esc1, hx, hy, if_true, if_false, List.cons_append, List.nil_append, List.cons.injEq] at h
        exact (hy (.inr h.1.symm)).elim
    · by_cases hy : y = 34 ∨ y = 92
      · simp only [esc1, hx, hy, if_true, if_false, List.cons_append, List.nil_append, List.cons.injEq] at h
        exact (hx (.inr h.1)).elim
      · simp only [esc1, hx, hy, if_false, List.cons_append, List.nil_append, List.cons.injEq] at h
        obtain ⟨h1, h2⟩ := esc_inj a b r s h.2
        rw [h.1, h1]
        exact ⟨rfl, h2⟩
theorem qt_inj {a b r s : Str} (h : qt a ++ r = qt b ++ s) : a = b ∧ r = s := by
  unfold qt at h
  have h' : esc a ++ 34 :: r = esc b ++ 34 :: s := by simpa using h
  exact esc_inj a b r s h'
theorem rise_names : ∀ {last : Option Str} {l : List Str}, riseAfter last l = true → ∀ s ∈ l, isName s = true
  | last, y :: l, h, s, hs => by
    rw [riseAfter_cons] at h
    simp only [Bool.and_eq_true] at h
    rcases List.mem_cons.1 hs with rfl | hs
    · exact h.1.1
    · exact rise_names h.2 s hs
theorem form_txt {n : api_Node} (h : formB n = true) (ht : isT n = true) : (∀ s ∈ n.Marks, isName s = true) ∧ n.Attrs = [] ∧ n.Kids = [] ∧ n.Kind = sText := by
  rw [formB_eq, if_pos ht] at h
  simp only [Bool.and_eq_true, decide_eq_true_eq] at h
  exact ⟨rise_names h.1.2, List.eq_nil_of_length_eq_zero (by omega), List.eq_nil_of_length_eq_zero (by omega), by simpa [isT] using ht⟩
theorem forms_mem : ∀ {l : List api_Node} {last : Option api_Node}, formBs last l = true → ∀ k ∈ l, formB k = true
  | y :: l, last, h, k, hk => by
    rw [formBs_cons, Bool.and_eq_true, Bool.and_eq_true] at h
    rcases List.mem_cons.1 hk with rfl | hk
    · exact h.1.1
    · exact forms_mem h.2 k hk
theorem form_nod {n : api_Node} (h : formB n = true) (ht : isT n = false) : isName n.Kind = true ∧ (∀ a ∈ n.Attrs, isName a.Name = true) ∧ n.Text = [] ∧ n.Marks = [] ∧ ∀ k ∈ n.Kids, formB k = true := by
  rw [formB_eq, if_neg (by simp [ht])] at h
  simp only [Bool.and_eq_true, decide_eq_true_eq] at h
  obtain ⟨⟨⟨⟨⟨h1, h2⟩, h3⟩, h4⟩, h5⟩, h6⟩ := h
  refine ⟨h2, fun a ha => rise_names h5 a.Name (List.mem_map.2 ⟨a, ha, rfl⟩), h3, h4, forms_mem h6⟩
theorem atx_inj {a b : api_Attr} {r s : Str} (ha : isName a.Name = true) (hb : isName b.Name = true) (h : atx a ++ r = atx b ++ s) : a = b ∧ r = s := by
  unfold atx at h
  rw [List.append_assoc, List.append_assoc] at h
  obtain ⟨h1, h2⟩ := span_inj letter a.Name b.Name _ _ (name_all ha) (name_all hb) (fun z hz => by simp at hz; rw [← hz]; decide) (fun z hz => by simp at hz; rw [← hz]; decide) h
  simp only [List.cons_append, List.cons.injEq, true_and] at h2
  obtain ⟨h3, h4⟩ := qt_inj h2
  refine ⟨?_, h4⟩
  cases a; cases b
  simp only at h1 h3
  rw [h1, h3]
theorem attrs_inj : ∀ (la lb : List api_Attr) (r s : Str), (∀ a ∈ la, isName a.Name = true) → (∀ b ∈ lb, isName b.Name = true) → Lib.joinTail [32] (la.map atx) ++ 41 :: r = Lib.joinTail [32] (lb.map atx) ++ 41 :: s → la = lb ∧ r = s
  | [], [], r, s, _, _, h => ⟨rfl, by simpa [Lib.joinTail] using h⟩
  | [], y :: lb, r, s, _, _, h => by simp [Lib.joinTail] at h
  | x :: la, [], r, s, _, _, h => by simp [Lib.joinTail] at h
  | x :: la, y :: lb, r, s, ha, hb, h => by
    rw [List.map_cons, List.map_cons, jtail_cons, jtail_cons] at h
    simp only [List.append_assoc] at h
    have h' := List.append_cancel_left h
    obtain ⟨h1, h2⟩ := atx_inj (ha x (by simp)) (hb y (by simp)) h'
    obtain ⟨h3, h4⟩ := attrs_inj la lb r s (fun a h => ha a (by simp [h])) (fun b h => hb b (by simp [h])) h2
    rw [h1, h3]
    exact ⟨rfl, h4⟩
theorem hd_nod {a b : api_Node} {r s : Str} (ta : isT a = false) (tb : isT b = false) (fa : formB a = true) (fb : formB b = true) (h : hd a ++ 91 :: r = hd b ++ 91 :: s) : a.Kind = b.Kind ∧ a.Attrs = b.Attrs ∧ r = s := by
  obtain ⟨ka, aa, _, _, _⟩ := form_nod fa ta
  obtain ⟨kb, ab, _, _, _⟩ := form_nod fb tb
  have form : ∀ {n : api_Node}, isT n = false → hd n = n.Kind ++ (if n.Attrs = [] then [] else 40 :: (Lib.join (n.Attrs.map atx) [32] ++ [41])) := fun {n} hn => by
    unfold hd
    have : (n.Kind == sText) = false := hn
    rw [if_neg (by simpa [isT] using hn)]
    by_cases e : n.Attrs = [] <;> simp [e]
  rw [form ta, form tb, List.append_assoc, List.append_assoc] at h
  have head : ∀ (n : api_Node) (r : Str) (z : UInt8), ((if n.Attrs = [] then ([] : Str) else 40 :: (Lib.join (n.Attrs.map atx) [32] ++ [41])) ++ 91 :: r).head? = some z → letter z = false := fun n r z hz => by
    split at hz
    · simp at hz; rw [← hz]; decide
    · simp at hz; rw [← hz]; decide
  obtain ⟨h1, h2⟩ := span_inj letter a.Kind b.Kind _ _ (name_all ka) (name_all kb) (head a r) (head b s) h
  refine ⟨h1, ?_⟩
  cases ea : a.Attrs with
  | nil =>
    cases eb : b.Attrs with
    | nil => rw [ea, eb] at h2; simpa using h2
    | cons y lb => rw [ea, eb] at h2; simp at h2
  | cons x la =>
    cases eb : b.Attrs with
    | nil => rw [ea, eb] at h2; simp at h2
    | cons y lb =>
      rw [ea, eb] at h2
      rw [ea] at aa
      rw [eb] at ab
      simp only [reduceCtorEq, if_false, List.map_cons, List.cons_append, List.cons.injEq, true_and] at h2
      rw [Lib.join_cons, Lib.join_cons] at h2
      simp only [List.append_assoc, List.cons_append, List.nil_append] at h2
      obtain ⟨k1, k2⟩ := atx_inj (aa x (by simp)) (ab y (by simp)) h2
      obtain ⟨k3, k4⟩ := attrs_inj la lb (91 :: r) (91 :: s) (fun z hz => aa z (by simp [hz])) (fun z hz => ab z (by simp [hz])) k2
      simp only [List.cons.injEq, true_and] at k4
      rw [k1, k3]
      exact ⟨rfl, k4⟩
theorem hd_txt {a b : api_Node} {r s : Str} (ta : isT a = true) (tb : isT b = true) (fa : formB a = true) (fb : formB b = true) (hr : r.head? ≠ some 60) (hs : s.head? ≠ some 60) (h : hd a ++ r = hd b ++ s) : a.Marks = b.Marks ∧ r = s := by
  obtain ⟨ma, _, _, ka⟩ := form_txt fa ta
  obtain ⟨mb, _, _, kb⟩ := form_txt fb tb
  have form : ∀ {n : api_Node}, isT n = true → hd n = if n.Marks = [] then [] else 60 :: (Lib.join n.Marks [44] ++ [62]) := fun {n} hn => by
    unfold hd
    rw [if_pos hn]
  rw [form ta, form tb] at h
  cases ea : a.Marks with
  | nil =>
    cases eb : b.Marks with
    | nil => rw [ea, eb] at h; simpa using h
    | cons y lb =>
      rw [ea, eb] at h
      simp only [if_true, List.nil_append, reduceCtorEq, if_false, List.cons_append] at h
      exact (hr (by rw [h]; rfl)).elim
  | cons x la =>
    cases eb : b.Marks with
    | nil =>
      rw [ea, eb] at h
      simp only [if_true, List.nil_append, reduceCtorEq, if_false, List.cons_append] at h
      exact (hs (by rw [← h]; rfl)).elim
    | cons y lb =>
      rw [ea, eb] at h
      rw [ea] at ma
      rw [eb] at mb
      simp only [reduceCtorEq, if_false, List.cons_append, List.append_assoc, List.nil_append, List.cons.injEq, true_and] at h
      have inP : ∀ l : List Str, (∀ s ∈ l, isName s = true) → ∀ z ∈ Lib.join l [44], (z != 62) = true := fun l hl z hz => by
        have := join_all (fun z => z != 62) [44] (by decide) l (fun w hw x hx => by simpa using letter_ne (c := 62) (name_all (hl w hw) x hx) (by decide)) z hz
        exact this
      obtain ⟨k1, k2⟩ := span_inj (fun z => z != 62) _ _ _ _ (inP _ ma) (inP _ mb) (fun z hz => by simp at hz; rw [← hz]; rfl) (fun z hz => by simp at hz; rw [← hz]; rfl) h
      obtain ⟨k3, k4⟩ := join_inj 44 (fun z hz => name_not (ma z hz) (by decide)) (fun z hz => name_not (mb z hz) (by decide)) k1
      simp only [List.cons.injEq, true_and] at k2
      rw [k3, k4]
      exact ⟨rfl, k2⟩
theorem write_head {n : api_Node} (h : formB n = true) : ∃ c s, writeN n = c :: s ∧ ((isT n = true ∧ c = 34) ∨ (isT n = false ∧ letter c = true)) := by
  rw [writeN_eq]
  cases ht : isT n with
  | true => exact ⟨34, _, rfl, .inl ⟨rfl, rfl⟩⟩
  | false =>
    obtain ⟨hk, _⟩ := form_nod h ht
    obtain ⟨k1, k2⟩ := name_ne hk
    cases hkk : n.Kind with
    | nil => exact (k1 hkk).elim
    | cons c s =>
      have e : ∃ t, hd n = c :: t := by
        unfold hd
        rw [if_neg (by simpa [isT] using ht), hkk]
        split <;> exact ⟨_, rfl⟩
      obtain ⟨t, e⟩ := e
      rw [if_neg (by simp), e]
      exact ⟨c, _, rfl, .inr ⟨rfl, name_all hk c (by rw [hkk]; simp)⟩⟩
theorem writeL_head {l : List api_Node} (h : ∀ x ∈ l, formB x = true) (r : Str) : (writeL l ++ 93 :: r).head? ≠ some 60 := by
  cases l with
  | nil => simp [writeL]
  | cons x l =>
    obtain ⟨c, s, e, hc⟩ := write_head (h x (by simp))
    rw [writeL, e]
    rcases hc with ⟨_, rfl⟩ | ⟨_, hc⟩
    · simp
    · simp only [List.cons_append, List.head?_cons, ne_eq, Option.some.injEq]
      rintro rfl
      revert hc
      decide
abbrev NInj (a : api_Node) : Prop := formB a = true → ∀ (b : api_Node) (r s : Str), formB b = true → r.head? ≠ some 60 → s.head? ≠ some 60 → writeN a ++ r = writeN b ++ s → a = b ∧ r = s
theorem writeL_inj' : ∀ (la lb : List api_Node) (r s : Str), (∀ x ∈ la, NInj x) → (∀ x ∈ la, formB x = true) → (∀ x ∈ lb, formB x = true) → writeL la ++ 93 :: r = writeL lb ++ 93 :: s → la = lb ∧ r = s
  | [], [], r, s, _, _, _, h => ⟨rfl, by simpa [writeL] using h⟩
  | [], y :: lb, r, s, _, _, hb, h => by
    obtain ⟨c, t, e, hc⟩ := write_head (hb y (by simp))
    rw [writeL, writeL, e] at h
    simp only [List.nil_append, List.cons_append, List.cons.injEq] at h
    rw [← h.1] at hc
    rcases hc with ⟨_, hc⟩ | ⟨_, hc⟩ <;> exact absurd hc (by decide)
  | x :: la, [], r, s, _, ha, _, h => by
    obtain ⟨c, t, e, hc⟩ := write_head (ha x (by simp))
    rw [writeL, writeL, e] at h
    simp only [List.nil_append, List.cons_append, List.cons.injEq] at h
    rw [h.1] at hc
    rcases hc with ⟨_, hc⟩ | ⟨_, hc⟩ <;> exact absurd hc (by decide)
  | x :: la, y :: lb, r, s, hi, ha, hb, h => by
    rw [writeL, writeL, List.append_assoc, List.append_assoc] at h
    obtain ⟨h1, h2⟩ := hi x (by simp) (ha x (by simp)) y _ _ (hb y (by simp)) (writeL_head (fun z hz => ha z (by simp [hz])) r) (writeL_head (fun z hz => hb z (by simp [hz])) s) h
    obtain ⟨h3, h4⟩ := writeL_inj' la lb r s (fun z hz => hi z (by simp [hz])) (fun z hz => ha z (by simp [hz])) (fun z hz => hb z (by simp [hz])) h2
    rw [h1, h3]
    exact ⟨rfl, h4⟩
theorem writeN_inj (a : api_Node) : NInj a := by
  induction a using api_Node.ind with
  | h a ih =>
    intro fa b r s fb hr hs h
    obtain ⟨ca, sa, ea, ha⟩ := write_head fa
    obtain ⟨cb, sb, eb, hb⟩ := write_head fb
    have hc : ca = cb := by
      rw [ea, eb] at h
      simp only [List.cons_append, List.cons.injEq] at h
      exact h.1
    have l34 : letter 34 = false := by decide
    rw [writeN_eq a, writeN_eq b] at h
    cases ta : isT a with
    | true =>
      have tb : isT b = true := by
        rcases ha with ⟨_, e⟩ | ⟨e, _⟩
        · rcases hb with ⟨e', _⟩ | ⟨_, e'⟩
          · exact e'
          · rw [← hc, e, l34] at e'; cases e'
        · rw [ta] at e; cases e
      rw [if_pos ta, if_pos tb, List.append_assoc, List.append_assoc] at h
      obtain ⟨h1, h2⟩ := qt_inj h
      obtain ⟨h3, h4⟩ := hd_txt ta tb fa fb hr hs h2
      obtain ⟨_, a1, a2, a3⟩ := form_txt fa ta
      obtain ⟨_, b1, b2, b3⟩ := form_txt fb tb
      refine ⟨?_, h4⟩
      cases a; cases b
      simp only at h1 h3 a1 a2 a3 b1 b2 b3
      subst h1 h3 a1 a2 a3 b1 b2 b3
      rfl
    | false =>
      have tb : isT b = false := by
        rcases ha with ⟨e, _⟩ | ⟨_, e⟩
        · rw [ta] at e; cases e
        · rcases hb with ⟨_, e'⟩ | ⟨e', _⟩
          · rw [hc, e', l34] at e; cases e
          · exact e'
      rw [if_neg (by simp [ta]), if_neg (by simp [tb])] at h
      simp only [List.append_assoc, List.cons_append, List.nil_append] at h
      obtain ⟨h1, h2, h3⟩ := hd_nod ta tb fa fb h
      obtain ⟨_, _, a1, a2, a3⟩ := form_nod fa ta
      obtain ⟨_, _, b1, b2, b3⟩ := form_nod fb tb
      obtain ⟨h4, h5⟩ := writeL_inj' a.Kids b.Kids r s ih a3 b3 h3
      refine ⟨?_, h5⟩
      cases a; cases b
      simp only at h1 h2 h4 a1 a2 b1 b2
      subst h1 h2 h4 a1 a2 b1 b2
      rfl
/-- Rows of right nodes that are written alike are the same. -/
theorem writeL_inj {la lb : List api_Node} (ha : ∀ x ∈ la, formB x = true) (hb : ∀ x ∈ lb, formB x = true) (h : writeL la = writeL lb) : la = lb :=
  (writeL_inj' la lb [] [] (fun x _ => writeN_inj x) ha hb (by rw [h])).1

end Go.Proofs.YtclohbgnaopjfaaDoor
