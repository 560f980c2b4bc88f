/- Texts merged into one: Span, WriteInj, Digits, WireInj, WireL, StepRight. -/
import Derived.Test.YtclohbgnaopjfaaGreatDoorM1
import Derived.Lib.Join
import Derived.Lib.ItoaNum

/- Texts that are told apart by their signs. -/
namespace Go.Proofs.YtclohbgnaopjfaaGreatDoor
set_option linter.unusedSimpArgs false
set_option linter.unusedVariables false
open Go

theorem name_ne {s : Str} (h : isName s = true) : s ≠ [] ∧ s.all letter = true := by
  unfold isName at h
  simp only [Bool.and_eq_true, decide_eq_true_eq] at h
  exact ⟨h.1.1.2, h.1.1.1⟩
theorem span_inj (P : UInt8 → Bool) : ∀ (a b s t : Str), (∀ x ∈ a, P x = true) → (∀ x ∈ b, P x = true) → (∀ x, s.head? = some x → P x = false) → (∀ x, t.head? = some x → P x = false) → a ++ s = b ++ t → a = b ∧ s = t
  | [], [], s, t, _, _, _, _, h => ⟨rfl, h⟩
  | [], y :: b, s, t, _, hb, hs, _, h => by
    have h' : s = y :: (b ++ t) := h
    have := hs y (by rw [h']; rfl)
    rw [hb y (by simp)] at this
    cases this
  | x :: a, [], s, t, ha, _, _, ht, h => by
    have h' : t = x :: (a ++ s) := h.symm
    have := ht x (by rw [h']; rfl)
    rw [ha x (by simp)] at this
    cases this
  | x :: a, y :: b, s, t, ha, hb, hs, ht, h => by
    simp only [List.cons_append, List.cons.injEq] at h
    obtain ⟨h1, h2⟩ := span_inj P a b s t (fun z hz => ha z (by simp [hz])) (fun z hz => hb z (by simp [hz])) hs ht h.2
    rw [h.1, h1, h2]
    exact ⟨rfl, rfl⟩
theorem tail_head (c : UInt8) (r : List Str) : ∀ x, (Lib.joinTail [c] r).head? = some x → x = c := by
  cases r with
  | nil => simp [Lib.joinTail]
  | cons y r => intro x hx; simp [Lib.joinTail] at hx; exact hx.symm
theorem jtail_cons (sep y : Str) (r : List Str) : Lib.joinTail sep (y :: r) = sep ++ y ++ Lib.joinTail sep r := by simp [Lib.joinTail]
theorem tail_inj (c : UInt8) : ∀ ws vs : List Str, (∀ w ∈ ws, c ∉ w) → (∀ v ∈ vs, c ∉ v) → Lib.joinTail [c] ws = Lib.joinTail [c] vs → ws = vs
  | [], [], _, _, _ => rfl
  | [], v :: vs, _, _, h => by simp [Lib.joinTail] at h
  | w :: ws, [], _, _, h => by simp [Lib.joinTail] at h
  | w :: ws, v :: vs, hw, hv, h => by
    rw [jtail_cons, jtail_cons, List.append_assoc, List.append_assoc] at h
    have h' := List.append_cancel_left h
    obtain ⟨h1, h2⟩ := span_inj (fun x => decide (x ≠ c)) w v _ _ (fun x hx => by simp; exact fun e => hw w (by simp) (e ▸ hx)) (fun x hx => by simp; exact fun e => hv v (by simp) (e ▸ hx)) (fun x hx => by simp [tail_head c ws x hx]) (fun x hx => by simp [tail_head c vs x hx]) h'
    rw [h1, tail_inj c ws vs (fun z hz => hw z (by simp [hz])) (fun z hz => hv z (by simp [hz])) h2]
theorem join_inj (c : UInt8) {w v : Str} {ws vs : List Str} (hw : ∀ x ∈ w :: ws, c ∉ x) (hv : ∀ x ∈ v :: vs, c ∉ x) (h : Lib.join (w :: ws) [c] = Lib.join (v :: vs) [c]) : w = v ∧ ws = vs := by
  rw [Lib.join_cons, Lib.join_cons] at h
  obtain ⟨h1, h2⟩ := span_inj (fun x => decide (x ≠ c)) w v _ _ (fun x hx => by simp; exact fun e => hw w (by simp) (e ▸ hx)) (fun x hx => by simp; exact fun e => hv v (by simp) (e ▸ hx)) (fun x hx => by simp [tail_head c ws x hx]) (fun x hx => by simp [tail_head c vs x hx]) h
  exact ⟨h1, tail_inj c ws vs (fun z hz => hw z (by simp [hz])) (fun z hz => hv z (by simp [hz])) h2⟩
theorem join_all (P : UInt8 → Bool) (sep : Str) (hs : ∀ x ∈ sep, P x = true) : ∀ ws : List Str, (∀ w ∈ ws, ∀ x ∈ w, P x = true) → ∀ x ∈ Lib.join ws sep, P x = true
  | [], _, x, h => by simp [Lib.join_nil] at h
  | w :: ws, hw, x, h => by
    rw [Lib.join_cons, List.mem_append] at h
    rcases h with h | h
    · exact hw w (by simp) x h
    · unfold Lib.joinTail at h
      obtain ⟨y, hy, hx⟩ := List.mem_flatten.1 h
      obtain ⟨z, hz, rfl⟩ := List.mem_map.1 hy
      rcases List.mem_append.1 hx with hx | hx
      · exact hs x hx
      · exact hw z (by simp [hz]) x hx

/-! ### Letters -/
theorem letter_ge {x : UInt8} (h : letter x = true) : 97 ≤ x.toNat := by
  unfold letter at h
  simp only [Bool.and_eq_true, decide_eq_true_eq] at h
  exact h.1
theorem name_all {s : Str} (h : isName s = true) : ∀ x ∈ s, letter x = true := List.all_eq_true.1 (name_ne h).2
theorem letter_ne {x c : UInt8} (h : letter x = true) (hc : c.toNat < 97 ∨ 122 < c.toNat) : x ≠ c := by
  rintro rfl
  unfold letter at h
  simp only [Bool.and_eq_true, decide_eq_true_eq] at h
  omega
theorem name_not {s : Str} (h : isName s = true) {c : UInt8} (hc : c.toNat < 97 ∨ 122 < c.toNat) : c ∉ s := fun hm => letter_ne (name_all h c hm) hc rfl
end Go.Proofs.YtclohbgnaopjfaaGreatDoor

/- Nodes that are written alike are the same: by their signs alone. -/
namespace Go.Proofs.YtclohbgnaopjfaaGreatDoor
set_option linter.unusedSimpArgs false
set_option linter.unusedVariables false
open Go

theorem esc_inj : ∀ (a b r s : Str), esc a ++ 34 :: r = esc b ++ 34 :: s → a = b ∧ r = s
  | [], [], r, s, h => ⟨rfl, by simpa [esc] using h⟩
  | [], y :: b, r, s, h => by
    rw [esc_cons] at h
    by_cases hy : y = 34 ∨ y = 92
    · simp [esc, esc1, hy] at h
    · simp only [esc, List.flatMap_nil, List.nil_append, esc1, hy, if_false, List.cons_append, List.cons.injEq] at h
      exact (hy (.inl h.1.symm)).elim
  | x :: a, [], r, s, h => by
    rw [esc_cons] at h
    by_cases hx : x = 34 ∨ x = 92
    · simp [esc, esc1, hx] at h
    · simp only [esc, List.flatMap_nil, List.nil_append, esc1, hx, if_false, List.cons_append, List.cons.injEq] at h
      exact (hx (.inl h.1)).elim
  | x :: a, y :: b, r, s, h => by
    rw [esc_cons, esc_cons, List.append_assoc, List.append_assoc] at h
    by_cases hx : x = 34 ∨ x = 92
    · by_cases hy : y = 34 ∨ y = 92
      · simp only [esc1, hx, hy, if_true, List.cons_append, List.nil_append, List.cons.injEq, true_and] at h
        obtain ⟨h1, h2⟩ := esc_inj a b r s h.2
        rw [h.1, h1]
        exact ⟨rfl, h2⟩
      · simp only [esc1, hx, hy, if_true, if_false, List.cons_append, List.nil_append, List.cons.injEq] at h
        exact (hy (.inr h.1.symm)).elim
    · by_cases hy : y = 34 ∨ y = 92
      · simp only [esc1, hx, hy, if_true, if_false, List.cons_append, List.nil_append, List.cons.injEq] at h
        exact (hx (.inr h.1)).elim
      · simp only [esc1, hx, hy, if_false, List.cons_append, List.nil_append, List.cons.injEq] at h
        obtain ⟨h1, h2⟩ := esc_inj a b r s h.2
        rw [h.1, h1]
        exact ⟨rfl, h2⟩
theorem qt_inj {a b r s : Str} (h : qt a ++ r = qt b ++ s) : a = b ∧ r = s := by
  unfold qt at h
  have h' : esc a ++ 34 :: r = esc b ++ 34 :: s := by simpa using h
  exact esc_inj a b r s h'
theorem rise_names : ∀ {last : Option Str} {l : List Str}, riseAfter last l = true → ∀ s ∈ l, isName s = true
  | last, y :: l, h, s, hs => by
    rw [riseAfter_cons] at h
    simp only [Bool.and_eq_true] at h
    rcases List.mem_cons.1 hs with rfl | hs
    · exact h.1.1
    · exact rise_names h.2 s hs
theorem form_txt {n : api_Node} (h : formB n = true) (ht : isT n = true) : (∀ s ∈ n.Marks, isName s = true) ∧ n.Attrs = [] ∧ n.Kids = [] ∧ n.Kind = sText := by
  rw [formB_eq, if_pos ht] at h
  simp only [Bool.and_eq_true, decide_eq_true_eq] at h
  exact ⟨rise_names h.1.2, List.eq_nil_of_length_eq_zero (by omega), List.eq_nil_of_length_eq_zero (by omega), by simpa [isT] using ht⟩
theorem forms_mem : ∀ {l : List api_Node} {last : Option api_Node}, formBs last l = true → ∀ k ∈ l, formB k = true
  | y :: l, last, h, k, hk => by
    rw [formBs_cons, Bool.and_eq_true, Bool.and_eq_true] at h
    rcases List.mem_cons.1 hk with rfl | hk
    · exact h.1.1
    · exact forms_mem h.2 k hk
theorem form_nod {n : api_Node} (h : formB n = true) (ht : isT n = false) : isName n.Kind = true ∧ (∀ a ∈ n.Attrs, isName a.Name = true) ∧ n.Text = [] ∧ n.Marks = [] ∧ ∀ k ∈ n.Kids, formB k = true := by
  rw [formB_eq, if_neg (by simp [ht])] at h
  simp only [Bool.and_eq_true, decide_eq_true_eq] at h
  obtain ⟨⟨⟨⟨⟨h1, h2⟩, h3⟩, h4⟩, h5⟩, h6⟩ := h
  refine ⟨h2, fun a ha => rise_names h5 a.Name (List.mem_map.2 ⟨a, ha, rfl⟩), h3, h4, forms_mem h6⟩
theorem atx_inj {a b : api_Attr} {r s : Str} (ha : isName a.Name = true) (hb : isName b.Name = true) (h : atx a ++ r = atx b ++ s) : a = b ∧ r = s := by
  unfold atx at h
  rw [List.append_assoc, List.append_assoc] at h
  obtain ⟨h1, h2⟩ := span_inj letter a.Name b.Name _ _ (name_all ha) (name_all hb) (fun z hz => by simp at hz; rw [← hz]; decide) (fun z hz => by simp at hz; rw [← hz]; decide) h
  simp only [List.cons_append, List.cons.injEq, true_and] at h2
  obtain ⟨h3, h4⟩ := qt_inj h2
  refine ⟨?_, h4⟩
  cases a; cases b
  simp only at h1 h3
  rw [h1, h3]
theorem attrs_inj : ∀ (la lb : List api_Attr) (r s : Str), (∀ a ∈ la, isName a.Name = true) → (∀ b ∈ lb, isName b.Name = true) → Lib.joinTail [32] (la.map atx) ++ 41 :: r = Lib.joinTail [32] (lb.map atx) ++ 41 :: s → la = lb ∧ r = s
  | [], [], r, s, _, _, h => ⟨rfl, by simpa [Lib.joinTail] using h⟩
  | [], y :: lb, r, s, _, _, h => by simp [Lib.joinTail] at h
  | x :: la, [], r, s, _, _, h => by simp [Lib.joinTail] at h
  | x :: la, y :: lb, r, s, ha, hb, h => by
    rw [List.map_cons, List.map_cons, jtail_cons, jtail_cons] at h
    simp only [List.append_assoc] at h
    have h' := List.append_cancel_left h
    obtain ⟨h1, h2⟩ := atx_inj (ha x (by simp)) (hb y (by simp)) h'
    obtain ⟨h3, h4⟩ := attrs_inj la lb r s (fun a h => ha a (by simp [h])) (fun b h => hb b (by simp [h])) h2
    rw [h1, h3]
    exact ⟨rfl, h4⟩
theorem hd_nod {a b : api_Node} {r s : Str} (ta : isT a = false) (tb : isT b = false) (fa : formB a = true) (fb : formB b = true) (h : hd a ++ 91 :: r = hd b ++ 91 :: s) : a.Kind = b.Kind ∧ a.Attrs = b.Attrs ∧ r = s := by
  obtain ⟨ka, aa, _, _, _⟩ := form_nod fa ta
  obtain ⟨kb, ab, _, _, _⟩ := form_nod fb tb
  have form : ∀ {n : api_Node}, isT n = false → hd n = n.Kind ++ (if n.Attrs = [] then [] else 40 :: (Lib.join (n.Attrs.map atx) [32] ++ [41])) := fun {n} hn => by
    unfold hd
    have : (n.Kind == sText) = false := hn
    rw [if_neg (by simpa [isT] using hn)]
    by_cases e : n.Attrs = [] <;> simp [e]
  rw [form ta, form tb, List.append_assoc, List.append_assoc] at h
  have head : ∀ (n : api_Node) (r : Str) (z : UInt8), ((if n.Attrs = [] then ([] : Str) else 40 :: (Lib.join (n.Attrs.map atx) [32] ++ [41])) ++ 91 :: r).head? = some z → letter z = false := fun n r z hz => by
    split at hz
    · simp at hz; rw [← hz]; decide
    · simp at hz; rw [← hz]; decide
  obtain ⟨h1, h2⟩ := span_inj letter a.Kind b.Kind _ _ (name_all ka) (name_all kb) (head a r) (head b s) h
  refine ⟨h1, ?_⟩
  cases ea : a.Attrs with
  | nil =>
    cases eb : b.Attrs with
    | nil => rw [ea, eb] at h2; simpa using h2
    | cons y lb => rw [ea, eb] at h2; simp at h2
  | cons x la =>
    cases eb : b.Attrs with
    | nil => rw [ea, eb] at h2; simp at h2
    | cons y lb =>
      rw [ea, eb] at h2
      rw [ea] at aa
      rw [eb] at ab
      simp only [reduceCtorEq, if_false, List.map_cons, List.cons_append, List.cons.injEq, true_and] at h2
      rw [Lib.join_cons, Lib.join_cons] at h2
      simp only [List.append_assoc, List.cons_append, List.nil_append] at h2
      obtain ⟨k1, k2⟩ := atx_inj (aa x (by simp)) (ab y (by simp)) h2
      obtain ⟨k3, k4⟩ := attrs_inj la lb (91 :: r) (91 :: s) (fun z hz => aa z (by simp [hz])) (fun z hz => ab z (by simp [hz])) k2
      simp only [List.cons.injEq, true_and] at k4
      rw [k1, k3]
      exact ⟨rfl, k4⟩
theorem hd_txt {a b : api_Node} {r s : Str} (ta : isT a = true) (tb : isT b = true) (fa : formB a = true) (fb : formB b = true) (hr : r.head? ≠ some 60) (hs : s.head? ≠ some 60) (h : hd a ++ r = hd b ++ s) : a.Marks = b.Marks ∧ r = s := by
  obtain ⟨ma, _, _, ka⟩ := form_txt fa ta
  obtain ⟨mb, _, _, kb⟩ := form_txt fb tb
  have form : ∀ {n : api_Node}, isT n = true → hd n = if n.Marks = [] then [] else 60 :: (Lib.join n.Marks [44] ++ [62]) := fun {n} hn => by
    unfold hd
    rw [if_pos hn]
  rw [form ta, form tb] at h
  cases ea : a.Marks with
  | nil =>
    cases eb : b.Marks with
    | nil => rw [ea, eb] at h; simpa using h
    | cons y lb =>
      rw [ea, eb] at h
      simp only [if_true, List.nil_append, reduceCtorEq, if_false, List.cons_append] at h
      exact (hr (by rw [h]; rfl)).elim
  | cons x la =>
    cases eb : b.Marks with
    | nil =>
      rw [ea, eb] at h
      simp only [if_true, List.nil_append, reduceCtorEq, if_false, List.cons_append] at h
      exact (hs (by rw [← h]; rfl)).elim
    | cons y lb =>
      rw [ea, eb] at h
      rw [ea] at ma
      rw [eb] at mb
      simp only [reduceCtorEq, if_false, List.cons_append, List.append_assoc, List.nil_append, List.cons.injEq, true_and] at h
      have inP : ∀ l : List Str, (∀ s ∈ l, isName s = true) → ∀ z ∈ Lib.join l [44], (z != 62) = true := fun l hl z hz => by
        have := join_all (fun z => z != 62) [44] (by decide) l (fun w hw x hx => by simpa using letter_ne (c := 62) (name_all (hl w hw) x hx) (by decide)) z hz
        exact this
      obtain ⟨k1, k2⟩ := span_inj (fun z => z != 62) _ _ _ _ (inP _ ma) (inP _ mb) (fun z hz => by simp at hz; rw [← hz]; rfl) (fun z hz => by simp at hz; rw [← hz]; rfl) h
      obtain ⟨k3, k4⟩ := join_inj 44 (fun z hz => name_not (ma z hz) (by decide)) (fun z hz => name_not (mb z hz) (by decide)) k1
      simp only [List.cons.injEq, true_and] at k2
      rw [k3, k4]
      exact ⟨rfl, k2⟩
theorem write_head {n : api_Node} (h : formB n = true) : ∃ c s, writeN n = c :: s ∧ ((isT n = true ∧ c = 34) ∨ (isT n = false ∧ letter c = true)) := by
  rw [writeN_eq]
  cases ht : isT n with
  | true => exact ⟨34, _, rfl, .inl ⟨rfl, rfl⟩⟩
  | false =>
    obtain ⟨hk, _⟩ := form_nod h ht
    obtain ⟨k1, k2⟩ := name_ne hk
    cases hkk : n.Kind with
    | nil => exact (k1 hkk).elim
    | cons c s =>
      have e : ∃ t, hd n = c :: t := by
        unfold hd
        rw [if_neg (by simpa [isT] using ht), hkk]
        split <;> exact ⟨_, rfl⟩
      obtain ⟨t, e⟩ := e
      rw [if_neg (by simp), e]
      exact ⟨c, _, rfl, .inr ⟨rfl, name_all hk c (by rw [hkk]; simp)⟩⟩
theorem writeL_head {l : List api_Node} (h : ∀ x ∈ l, formB x = true) (r : Str) : (writeL l ++ 93 :: r).head? ≠ some 60 := by
  cases l with
  | nil => simp [writeL]
  | cons x l =>
    obtain ⟨c, s, e, hc⟩ := write_head (h x (by simp))
    rw [writeL, e]
    rcases hc with ⟨_, rfl⟩ | ⟨_, hc⟩
    · simp
    · simp only [List.cons_append, List.head?_cons, ne_eq, Option.some.injEq]
      rintro rfl
      revert hc
      decide
abbrev NInj (a : api_Node) : Prop := formB a = true → ∀ (b : api_Node) (r s : Str), formB b = true → r.head? ≠ some 60 → s.head? ≠ some 60 → writeN a ++ r = writeN b ++ s → a = b ∧ r = s
theorem writeL_inj' : ∀ (la lb : List api_Node) (r s : Str), (∀ x ∈ la, NInj x) → (∀ x ∈ la, formB x = true) → (∀ x ∈ lb, formB x = true) → writeL la ++ 93 :: r = writeL lb ++ 93 :: s → la = lb ∧ r = s
  | [], [], r, s, _, _, _, h => ⟨rfl, by simpa [writeL] using h⟩
  | [], y :: lb, r, s, _, _, hb, h => by
    obtain ⟨c, t, e, hc⟩ := write_head (hb y (by simp))
    rw [writeL, writeL, e] at h
    simp only [List.nil_append, List.cons_append, List.cons.injEq] at h
    rw [← h.1] at hc
    rcases hc with ⟨_, hc⟩ | ⟨_, hc⟩ <;> exact absurd hc (by decide)
  | x :: la, [], r, s, _, ha, _, h => by
    obtain ⟨c, t, e, hc⟩ := write_head (ha x (by simp))
    rw [writeL, writeL, e] at h
    simp only [List.nil_append, List.cons_append, List.cons.injEq] at h
    rw [h.1] at hc
    rcases hc with ⟨_, hc⟩ | ⟨_, hc⟩ <;> exact absurd hc (by decide)
  | x :: la, y :: lb, r, s, hi, ha, hb, h => by
    rw [writeL, writeL, List.append_assoc, List.append_assoc] at h
    obtain ⟨h1, h2⟩ := hi x (by simp) (ha x (by simp)) y _ _ (hb y (by simp)) (writeL_head (fun z hz => ha z (by simp [hz])) r) (writeL_head (fun z hz => hb z (by simp [hz])) s) h
    obtain ⟨h3, h4⟩ := writeL_inj' la lb r s (fun z hz => hi z (by simp [hz])) (fun z hz => ha z (by simp [hz])) (fun z hz => hb z (by simp [hz])) h2
    rw [h1, h3]
    exact ⟨rfl, h4⟩
theorem writeN_inj (a : api_Node) : NInj a := by
  induction a using api_Node.ind with
  | h a ih =>
    intro fa b r s fb hr hs h
    obtain ⟨ca, sa, ea, ha⟩ := write_head fa
    obtain ⟨cb, sb, eb, hb⟩ := write_head fb
    have hc : ca = cb := by
      rw [ea, eb] at h
      simp only [List.cons_append, List.cons.injEq] at h
      exact h.1
    have l34 : letter 34 = false := by decide
    rw [writeN_eq a, writeN_eq b] at h
    cases ta : isT a with
    | true =>
      have tb : isT b = true := by
        rcases ha with ⟨_, e⟩ | ⟨e, _⟩
        · rcases hb with ⟨e', _⟩ | ⟨_, e'⟩
          · exact e'
          · rw [← hc, e, l34] at e'; cases e'
        · rw [ta] at e; cases e
      rw [if_pos ta, if_pos tb, List.append_assoc, List.append_assoc] at h
      obtain ⟨h1, h2⟩ := qt_inj h
      obtain ⟨h3, h4⟩ := hd_txt ta tb fa fb hr hs h2
      obtain ⟨_, a1, a2, a3⟩ := form_txt fa ta
      obtain ⟨_, b1, b2, b3⟩ := form_txt fb tb
      refine ⟨?_, h4⟩
      cases a; cases b
      simp only at h1 h3 a1 a2 a3 b1 b2 b3
      subst h1 h3 a1 a2 a3 b1 b2 b3
      rfl
    | false =>
      have tb : isT b = false := by
        rcases ha with ⟨e, _⟩ | ⟨_, e⟩
        · rw [ta] at e; cases e
        · rcases hb with ⟨_, e'⟩ | ⟨e', _⟩
          · rw [hc, e', l34] at e; cases e
          · exact e'
      rw [if_neg (by simp [ta]), if_neg (by simp [tb])] at h
      simp only [List.append_assoc, List.cons_append, List.nil_append] at h
      obtain ⟨h1, h2, h3⟩ := hd_nod ta tb fa fb h
      obtain ⟨_, _, a1, a2, a3⟩ := form_nod fa ta
      obtain ⟨_, _, b1, b2, b3⟩ := form_nod fb tb
      obtain ⟨h4, h5⟩ := writeL_inj' a.Kids b.Kids r s ih a3 b3 h3
      refine ⟨?_, h5⟩
      cases a; cases b
      simp only at h1 h2 h4 a1 a2 b1 b2
      subst h1 h2 h4 a1 a2 b1 b2
      rfl
/-- Rows of right nodes that are written alike are the same. -/
theorem writeL_inj {la lb : List api_Node} (ha : ∀ x ∈ la, formB x = true) (hb : ∀ x ∈ lb, formB x = true) (h : writeL la = writeL lb) : la = lb :=
  (writeL_inj' la lb [] [] (fun x _ => writeN_inj x) ha hb (by rw [h])).1

end Go.Proofs.YtclohbgnaopjfaaGreatDoor

/- Numbers as texts. -/
namespace Go.Proofs.YtclohbgnaopjfaaGreatDoor
set_option linter.unusedSimpArgs false
set_option linter.unusedVariables false
open Go

def dval (l : Str) : Nat := l.foldl (fun a b => 10 * a + (b.toNat - 48)) 0
theorem dval_snoc (l : Str) (b : UInt8) : dval (l ++ [b]) = 10 * dval l + (b.toNat - 48) := by simp [dval]
theorem dval_one (b : UInt8) : dval [b] = b.toNat - 48 := by
  show 10 * 0 + (b.toNat - 48) = _
  omega
theorem digit_of (d : Nat) (h : d < 10) : (UInt8.ofNat (48 + d)).toNat = 48 + d := by
  simp only [UInt8.toNat_ofNat']
  omega
theorem dec_facts : ∀ (f u : Nat), u ≤ f → dval (Lib.decDigits u) = u ∧ (∀ b ∈ Lib.decDigits u, 48 ≤ b.toNat ∧ b.toNat ≤ 57) ∧ Lib.decDigits u ≠ []
  | 0, u, h => by
    have : u = 0 := by omega
    subst this
    rw [Lib.decDigits, dif_pos (by omega)]
    decide
  | f + 1, u, h => by
    rw [Lib.decDigits]
    by_cases hu : u < 10
    · rw [dif_pos hu]
      have e := digit_of u hu
      refine ⟨?_, fun b hb => ?_, List.cons_ne_nil _ _⟩
      · rw [dval_one, e]; omega
      · rw [List.mem_singleton.1 hb, e]; omega
    · rw [dif_neg hu]
      obtain ⟨h1, h2, h3⟩ := dec_facts f (u / 10) (by omega)
      have e := digit_of (u % 10) (by omega)
      refine ⟨?_, fun b hb => ?_, List.append_ne_nil_of_right_ne_nil _ (List.cons_ne_nil _ _)⟩
      · rw [dval_snoc, h1, e]; omega
      · rcases List.mem_append.1 hb with hb | hb
        · exact h2 b hb
        · rw [List.mem_singleton.1 hb, e]; omega
theorem dec_inj {u v : Nat} (h : Lib.decDigits u = Lib.decDigits v) : u = v := by
  rw [← (dec_facts u u (Nat.le_refl _)).1, ← (dec_facts v v (Nat.le_refl _)).1, h]
theorem itoa_no {n : Int} {b : UInt8} (hb : b ∈ Lib.itoa n) : b.toNat = 45 ∨ (48 ≤ b.toNat ∧ b.toNat ≤ 57) := by
  unfold Lib.itoa at hb
  split at hb
  · rcases List.mem_cons.1 hb with rfl | hb
    · exact .inl rfl
    · exact .inr ((dec_facts _ _ (Nat.le_refl _)).2.1 b hb)
  · exact .inr ((dec_facts _ _ (Nat.le_refl _)).2.1 b hb)
theorem itoa_inj {m n : Int} (h : Lib.itoa m = Lib.itoa n) : m = n := by
  have no45 : ∀ u : Nat, ∀ l : Str, Lib.decDigits u = 45 :: l → False := fun u l e => by
    have := (dec_facts u u (Nat.le_refl _)).2.1 45 (by rw [e]; simp)
    have h45 : (45 : UInt8).toNat = 45 := rfl
    omega
  unfold Lib.itoa at h
  by_cases hm : m < 0
  · by_cases hn : n < 0
    · rw [if_pos hm, if_pos hn] at h
      simp only [List.cons.injEq, true_and] at h
      have := dec_inj h
      omega
    · rw [if_pos hm, if_neg hn] at h
      exact (no45 _ _ h.symm).elim
  · by_cases hn : n < 0
    · rw [if_neg hm, if_pos hn] at h
      exact (no45 _ _ h).elim
    · rw [if_neg hm, if_neg hn] at h
      have := dec_inj h
      omega
theorem itoa_len {n : Int} (h : -1 ≤ n ∧ n ≤ 1048576) : (Lib.itoa n).length ≤ 20 := by
  have key : ∀ (k u : Nat), u < 10 ^ (k + 1) → (Lib.decDigits u).length ≤ k + 1 := by
    intro k
    induction k with
    | zero =>
      intro u hu
      rw [Lib.decDigits, dif_pos (by simpa using hu)]
      simp
    | succ k ih =>
      intro u hu
      rw [Lib.decDigits]
      split
      · simp
      · have := ih (u / 10) (by rw [Nat.pow_succ] at hu; omega)
        simp; omega
  unfold Lib.itoa
  split
  · have := key 18 n.natAbs (by omega)
    simp; omega
  · have := key 18 n.toNat (by omega)
    omega
theorem itoa_ne (n : Int) : Lib.itoa n ≠ [] := by
  unfold Lib.itoa
  split
  · simp
  · exact (dec_facts _ _ (Nat.le_refl _)).2.2

end Go.Proofs.YtclohbgnaopjfaaGreatDoor

/- Right steps that are written alike are the same. -/
namespace Go.Proofs.YtclohbgnaopjfaaGreatDoor
set_option linter.unusedSimpArgs false
set_option linter.unusedVariables false
open Go

abbrev vRep : Str := [114, 101, 112, 108, 97, 99, 101]
abbrev vAtt : Str := [97, 116, 116, 114]
abbrev vMrk : Str := [109, 97, 114, 107]
abbrev vUnm : Str := [117, 110, 109, 97, 114, 107]
def verbW (k : Int) : Str := if k = 114 then vRep else if k = 97 then vAtt else if k = 109 then vMrk else vUnm
/-- The third word of a step, and what is behind it. -/
def thirdW (s : step_Step) : Str := if s.Kind = 97 then s.Name else Lib.itoa s.To
def restW (s : step_Step) : Str :=
  if s.Kind = 114 then (if writeL s.Nodes = [] then [] else 32 :: writeL s.Nodes)
  else if s.Kind = 97 then 32 :: qt s.Value
  else 32 :: s.Name
/-- A step as it is written. -/
def wtext (s : step_Step) : Str := verbW s.Kind ++ 32 :: (Lib.itoa s.From ++ 32 :: (thirdW s ++ restW s))
/-- What a right step is. -/
inductive StepR : step_Step → Prop
  | rep (f t : Int) (l : List api_Node) (h : ∀ x ∈ l, formB x = true) : StepR ⟨114, f, t, l, [], []⟩
  | att (f : Int) (n v : Str) (h : isName n = true) : StepR ⟨97, f, 0, [], n, v⟩
  | mrk (k f t : Int) (n : Str) (hk : k = 109 ∨ k = 117) (h : isName n = true) : StepR ⟨k, f, t, [], n, []⟩
theorem verb_no (k : Int) : ∀ x ∈ verbW k, (x != 32) = true := by
  unfold verbW
  split
  · decide
  · split
    · decide
    · split <;> decide
theorem itoa_no32 (n : Int) : ∀ x ∈ Lib.itoa n, (x != 32) = true := fun x hx => by
  have := itoa_no hx
  simp only [bne_iff_ne, ne_eq]
  rintro rfl
  revert this
  decide
theorem name_no32 {n : Str} (h : isName n = true) : ∀ x ∈ n, (x != 32) = true := fun x hx => by
  simpa using letter_ne (c := 32) (name_all h x hx) (by decide)
theorem mk_not {k c : Int} (hk : k = 109 ∨ k = 117) (h1 : (109 : Int) ≠ c) (h2 : (117 : Int) ≠ c) : ¬ k = c := by
  rcases hk with rfl | rfl
  · exact h1
  · exact h2
theorem third_no {s : step_Step} (h : StepR s) : ∀ x ∈ thirdW s, (x != 32) = true := by
  cases h with
  | rep f t l h => exact itoa_no32 t
  | att f n v h => exact name_no32 h
  | mrk k f t n hk h =>
    have : thirdW ⟨k, f, t, [], n, []⟩ = Lib.itoa t := by
      unfold thirdW
      rw [if_neg (mk_not hk (by decide) (by decide))]
    rw [this]
    exact itoa_no32 t
theorem rest_head (s : step_Step) : ∀ x, (restW s).head? = some x → (x != 32) = false := by
  intro x hx
  unfold restW at hx
  split at hx
  · split at hx
    · cases hx
    · simp at hx; rw [← hx]; rfl
  · split at hx
    · simp at hx; rw [← hx]; rfl
    · simp at hx; rw [← hx]; rfl
theorem head32 (t : Str) : ∀ x, ((32 :: t : Str)).head? = some x → (x != 32) = false := fun x hx => by
  simp at hx; rw [← hx]; rfl
theorem wtext_inj {a b : step_Step} (ha : StepR a) (hb : StepR b) (h : wtext a = wtext b) : a = b := by
  unfold wtext at h
  obtain ⟨h1, h2⟩ := span_inj (fun x => x != 32) _ _ _ _ (verb_no _) (verb_no _) (head32 _) (head32 _) h
  simp only [List.cons.injEq, true_and] at h2
  obtain ⟨h3, h4⟩ := span_inj (fun x => x != 32) _ _ _ _ (itoa_no32 _) (itoa_no32 _) (head32 _) (head32 _) h2
  simp only [List.cons.injEq, true_and] at h4
  obtain ⟨h5, h6⟩ := span_inj (fun x => x != 32) _ _ _ _ (third_no ha) (third_no hb) (rest_head _) (rest_head _) h4
  have hf := itoa_inj h3
  cases ha with
  | rep f t l hl =>
    cases hb with
    | rep f' t' l' hl' =>
      have ht : t = t' := itoa_inj h5
      have hll : writeL l = writeL l' := by
        have e : ∀ (f t : Int) (l : List api_Node), restW ⟨114, f, t, l, [], []⟩ = if writeL l = [] then [] else 32 :: writeL l := fun _ _ _ => rfl
        rw [e, e] at h6
        by_cases e1 : writeL l = []
        · by_cases e2 : writeL l' = []
          · rw [e1, e2]
          · rw [if_pos e1, if_neg e2] at h6; cases h6
        · by_cases e2 : writeL l' = []
          · rw [if_neg e1, if_pos e2] at h6; cases h6
          · rw [if_neg e1, if_neg e2] at h6
            simpa using h6
      have hl3 := writeL_inj hl hl' hll
      simp only at hf
      subst hf ht hl3
      rfl
    | att f' n v h => exact absurd h1 (show verbW 114 ≠ verbW 97 by decide)
    | mrk k f' t' n hk h =>
      rcases hk with rfl | rfl
      · exact absurd h1 (show verbW 114 ≠ verbW 109 by decide)
      · exact absurd h1 (show verbW 114 ≠ verbW 117 by decide)
  | att f n v hn =>
    cases hb with
    | rep f' t' l' hl' => exact absurd h1 (show verbW 97 ≠ verbW 114 by decide)
    | att f' n' v' hn' =>
      have h5' : n = n' := h5
      have h6' : (32 :: qt v : Str) = 32 :: qt v' := h6
      simp only [List.cons.injEq, true_and] at h6'
      have hv : v = v' := (qt_inj (r := []) (s := []) (by rw [h6'])).1
      simp only at hf
      subst hf h5' hv
      rfl
    | mrk k f' t' n' hk h =>
      rcases hk with rfl | rfl
      · exact absurd h1 (show verbW 97 ≠ verbW 109 by decide)
      · exact absurd h1 (show verbW 97 ≠ verbW 117 by decide)
  | mrk k f t n hk hn =>
    cases hb with
    | rep f' t' l' hl' =>
      rcases hk with rfl | rfl
      · exact absurd h1 (show verbW 109 ≠ verbW 114 by decide)
      · exact absurd h1 (show verbW 117 ≠ verbW 114 by decide)
    | att f' n' v' hn' =>
      rcases hk with rfl | rfl
      · exact absurd h1 (show verbW 109 ≠ verbW 97 by decide)
      · exact absurd h1 (show verbW 117 ≠ verbW 97 by decide)
    | mrk k' f' t' n' hk' hn' =>
      have hkk : k = k' := by
        rcases hk with rfl | rfl <;> rcases hk' with rfl | rfl
        · rfl
        · exact absurd h1 (show verbW 109 ≠ verbW 117 by decide)
        · exact absurd h1 (show verbW 117 ≠ verbW 109 by decide)
        · rfl
      subst hkk
      have th : ∀ (f t : Int) (n : Str), thirdW ⟨k, f, t, [], n, []⟩ = Lib.itoa t := fun f t n => by
        unfold thirdW
        rw [if_neg (mk_not hk (by decide) (by decide))]
      have rs : ∀ (f t : Int) (n : Str), restW ⟨k, f, t, [], n, []⟩ = 32 :: n := fun f t n => by
        unfold restW
        rw [if_neg (mk_not hk (by decide) (by decide)), if_neg (mk_not hk (by decide) (by decide))]
      rw [th, th] at h5
      rw [rs, rs] at h6
      have ht := itoa_inj h5
      simp only [List.cons.injEq, true_and] at h6
      simp only at hf
      subst hf ht h6
      rfl

end Go.Proofs.YtclohbgnaopjfaaGreatDoor

/- Steps as the program writes them. -/
namespace Go.Proofs.YtclohbgnaopjfaaGreatDoor
set_option linter.unusedSimpArgs false
set_option linter.unusedVariables false
open Go

theorem itoa_eq (n : Int) (h : -9223372036854775808 ≤ n ∧ n ≤ 9223372036854775807) : strconv_Itoa n = some (Lib.itoa n) := chk_eq h _
/-- What is known of a step that is right. -/
structure StepK (s : step_Step) : Prop where
  r : StepR s
  f : -1 ≤ s.From ∧ s.From ≤ 1048576
  t : -1 ≤ s.To ∧ s.To ≤ 1048576
theorem checkx_form {l : List api_Node} (h : checkN (xN l) ≠ 2) : ∀ x ∈ l, formB x = true := by
  have hf : formB (xN l) = true := by
    unfold checkN at h
    cases hf : formB (xN l) with
    | true => rfl
    | false => rw [hf] at h; simp at h
  exact (form_nod hf rfl).2.2.2.2
theorem stepRight_eq (s : step_Step) (hw : nwts s.Nodes ≤ 268435400) (h1 : s.Name.length ≤ 1048576) (h2 : s.Value.length ≤ 1048576) : ∃ b, step_Right s = some b ∧ (b = true → StepK s) := by
  obtain ⟨k, f, t, l, n, v⟩ := s
  simp only at hw h1 h2
  obtain ⟨sp, hsp, hsp2⟩ : ∃ sp : Bool, ((if (decide (f ≥ (0 : Int))) = true then if (decide (f ≤ t)) = true then some (decide (t ≤ (1048576 : Int))) else some false else some false) : Option Bool) = some sp ∧ (sp = true → 0 ≤ f ∧ f ≤ t ∧ t ≤ 1048576) := by
    by_cases a : f ≥ 0
    · by_cases b : f ≤ t
      · exact ⟨decide (t ≤ 1048576), by simp [a, b], fun h => ⟨a, b, by simpa using h⟩⟩
      · exact ⟨false, by simp [a, b], fun h => by cases h⟩
    · exact ⟨false, by simp [a], fun h => by cases h⟩
  unfold step_Right
  simp only
  rw [hsp]
  simp only [Option.bind_some]
  have hxw := xN_wt l
  by_cases hk : k = 114
  · rw [if_pos (by simp [hk]), check_eq (xN l) (by omega)]
    simp only [Option.bind_some]
    cases sp with
    | false => exact ⟨false, by simp, fun h => by cases h⟩
    | true =>
      obtain ⟨s1, s2, s3⟩ := hsp2 rfl
      by_cases hc : checkN (xN l) = 2
      · exact ⟨false, by simp [hc], fun h => by cases h⟩
      · rw [if_pos rfl, if_pos (by simpa using hc), chk_eq (by omega)]
        refine ⟨_, rfl, fun h => ?_⟩
        have hn : n = [] ∧ v = [] := by simpa using h
        obtain ⟨rfl, rfl⟩ := hn
        subst hk
        exact ⟨.rep f t l (checkx_form hc), by simp only; omega, by simp only; omega⟩
  · rw [if_neg (by simpa using hk)]
    by_cases hk2 : k = 97
    · rw [if_pos (by simp [hk2])]
      by_cases a : f ≥ -1
      · by_cases b : f ≤ 1048576
        · by_cases c : t = 0
          · rw [if_pos (by simpa using a), if_pos (by simpa using b), if_pos (by simp [c]), name_eq n (by omega)]
            simp only [Option.bind_some]
            cases hn : isName n with
            | false => exact ⟨false, by simp, fun h => by cases h⟩
            | true =>
              rw [if_pos rfl, value_eq v (by omega)]
              simp only [Option.bind_some]
              cases hv : isValue v with
              | false => exact ⟨false, by simp, fun h => by cases h⟩
              | true =>
                rw [if_pos rfl]
                refine ⟨_, rfl, fun h => ?_⟩
                have hl : l = [] := by simpa using h
                subst hl hk2 c
                exact ⟨.att f n v hn, by simp only; omega, by simp only; omega⟩
          · exact ⟨false, by simp [a, b, c], fun h => by cases h⟩
        · exact ⟨false, by simp [a, b], fun h => by cases h⟩
      · exact ⟨false, by simp [a], fun h => by cases h⟩
    · rw [if_neg (by simpa using hk2)]
      have mk : ∀ k' : Int, k = k' → (k' = 109 ∨ k' = 117) → ∃ b, (if sp = true then (node_Name n).bind fun name_6 => if (name_6) = true then if ((l.length : Int) == (0 : Int)) = true then some (v == ([] : Str)) else some false else some false else some false : Option Bool) = some b ∧ (b = true → StepK ⟨k, f, t, l, n, v⟩) := by
        intro k' e hk'
        subst e
        cases sp with
        | false => exact ⟨false, by simp, fun h => by cases h⟩
        | true =>
          obtain ⟨s1, s2, s3⟩ := hsp2 rfl
          rw [if_pos rfl, name_eq n (by omega)]
          simp only [Option.bind_some]
          cases hn : isName n with
          | false => exact ⟨false, by simp, fun h => by cases h⟩
          | true =>
            rw [if_pos rfl]
            by_cases hl : l = []
            · subst hl
              rw [if_pos (by simp)]
              refine ⟨_, rfl, fun h => ?_⟩
              have hv : v = [] := by simpa using h
              subst hv
              exact ⟨.mrk k f t n hk' hn, by simp only; omega, by simp only; omega⟩
            · have : ((l.length : Int) == 0) = false := by
                rw [beq_eq_false_iff_ne]
                have := List.length_pos_iff.2 hl
                omega
              exact ⟨false, by simp [this], fun h => by cases h⟩
      by_cases hk3 : k = 109
      · rw [if_pos (by simp [hk3])]
        exact mk 109 hk3 (.inl rfl)
      · rw [if_neg (by simpa using hk3)]
        by_cases hk4 : k = 117
        · rw [if_pos (by simp [hk4])]
          exact mk 117 hk4 (.inr rfl)
        · rw [if_neg (by simpa using hk4)]
          exact ⟨false, rfl, fun h => by cases h⟩
theorem jn3 (a b c : Str) : Lib.join [a, b, c] [32] = a ++ 32 :: (b ++ 32 :: c) := by simp [Lib.join_cons, Lib.joinTail]
theorem jn4 (a b c d : Str) : Lib.join [a, b, c, d] [32] = a ++ 32 :: (b ++ 32 :: (c ++ 32 :: d)) := by simp [Lib.join_cons, Lib.joinTail]
theorem wwrite_eq {s : step_Step} (hs : StepK s) (hw : nwts s.Nodes ≤ 268435400) (h1 : s.Name.length ≤ 1048576) (h2 : s.Value.length ≤ 1048576) : wire_write s (writeL s.Nodes) = some (wtext s) ∧ (wtext s).length ≤ 1200000000 := by
  obtain ⟨hr, hf, ht⟩ := hs
  have i1 := itoa_len hf
  have i2 := itoa_len ht
  have hle := writeL_le s.Nodes fun k _ => writeN_le k
  have q1 := qt_le s.Value
  unfold wire_write
  rw [itoa_eq s.From (by omega), itoa_eq s.To (by omega)]
  simp only [Option.bind_some]
  cases hr with
  | rep f t l hl =>
    simp only at i1 i2 hle hw ⊢
    have e : wtext ⟨114, f, t, l, [], []⟩ = vRep ++ 32 :: (Lib.itoa f ++ 32 :: (Lib.itoa t ++ (if writeL l = [] then [] else 32 :: writeL l))) := rfl
    rw [e, if_pos (by decide)]
    by_cases hn : writeL l = []
    · rw [if_neg (by simp [hn]), sjoin_eq _ _ (by simp) (by rw [jn3]; simp; omega), if_pos hn, jn3]
      exact ⟨by simp, by simp; omega⟩
    · rw [if_pos (by simpa using hn), app_eq (by simp)]
      simp only [Option.bind_some, List.cons_append, List.nil_append]
      rw [sjoin_eq _ _ (by simp) (by rw [jn4]; simp; omega), if_neg hn, jn4]
      exact ⟨by simp, by simp; omega⟩
  | att f n v hn =>
    simp only at i1 i2 h1 h2 q1 ⊢
    have e : wtext ⟨97, f, 0, [], n, v⟩ = vAtt ++ 32 :: (Lib.itoa f ++ 32 :: (n ++ 32 :: qt v)) := rfl
    rw [e, if_neg (by decide), if_pos (by decide), quote_eq v (by omega)]
    simp only [Option.bind_some]
    rw [sjoin_eq _ _ (by simp) (by rw [jn4]; simp; omega), jn4]
    exact ⟨by simp, by simp; omega⟩
  | mrk k f t n hk hn =>
    simp only at i1 i2 h1 ⊢
    rcases hk with rfl | rfl
    · have e : wtext ⟨109, f, t, [], n, []⟩ = vMrk ++ 32 :: (Lib.itoa f ++ 32 :: (Lib.itoa t ++ 32 :: n)) := rfl
      have r : ∀ a b c d : Str, rd [a, b, c, d] 0 = some a := fun _ _ _ _ => rfl
      have w : ∀ a b c d x : Str, wr [a, b, c, d] 0 x = some [x, b, c, d] := fun _ _ _ _ _ => rfl
      rw [e, if_neg (by decide), if_neg (by decide), if_pos (by decide), r]
      simp only [Option.bind_some]
      rw [w]
      simp only [Option.bind_some]
      rw [sjoin_eq _ _ (by simp) (by rw [jn4]; simp; omega), jn4]
      exact ⟨by simp, by simp; omega⟩
    · have e : wtext ⟨117, f, t, [], n, []⟩ = vUnm ++ 32 :: (Lib.itoa f ++ 32 :: (Lib.itoa t ++ 32 :: n)) := rfl
      rw [e, if_neg (by decide), if_neg (by decide), if_neg (by decide), sjoin_eq _ _ (by simp) (by rw [jn4]; simp; omega), jn4]
      exact ⟨by simp, by simp; omega⟩
theorem wprint_eq (s : step_Step) (hw : nwts s.Nodes ≤ 268435400) (h1 : s.Name.length ≤ 1048576) (h2 : s.Value.length ≤ 1048576) : ∃ t e, wire_Print s = some (t, e) ∧ (e = 0 → StepR s ∧ t = wtext s ∧ t.length ≤ 1200000000) ∧ (e ≠ 0 → t = []) := by
  obtain ⟨b, hb, hk⟩ := stepRight_eq s hw h1 h2
  unfold wire_Print
  rw [hb]
  simp only [Option.bind_some]
  cases b with
  | false => exact ⟨[], 1, rfl, fun h => absurd h (by decide), fun _ => rfl⟩
  | true =>
    have k := hk rfl
    simp only [Bool.not_true, Bool.false_eq_true, if_false]
    rw [printAll_eq s.Nodes hw]
    by_cases hc : checkN (xN s.Nodes) = 0
    · rw [if_pos hc]
      simp only [Option.bind_some, bne_self_eq_false, Bool.false_eq_true, if_false]
      obtain ⟨w1, w2⟩ := wwrite_eq k hw h1 h2
      rw [w1]
      exact ⟨wtext s, 0, rfl, fun _ => ⟨k.r, rfl, w2⟩, fun h => (h rfl).elim⟩
    · rw [if_neg hc]
      simp only [Option.bind_some]
      rw [if_pos (by simpa using hc)]
      exact ⟨[], _, rfl, fun h => (hc h).elim, fun _ => rfl⟩
theorem shown12_eq : diptychlaw12_shown = some true := by
  have hr : StepK ⟨114, 1, 3, [⟨[112], [], [], [], []⟩], [], []⟩ := ⟨.rep 1 3 _ (by intro x hx; simp at hx; rw [hx]; decide +kernel), by simp only; omega, by simp only; omega⟩
  have w0 : nwts [⟨[112], [], [], [], []⟩] ≤ 268435400 := by decide +kernel
  obtain ⟨w1, _⟩ := wwrite_eq hr w0 (by simp) (by simp)
  have hs : step_Right ⟨114, 1, 3, [⟨[112], [], [], [], []⟩], [], []⟩ = some true := by
    have hc : checkN (xN [⟨[112], [], [], [], []⟩]) = 0 := by decide +kernel
    unfold step_Right
    simp only
    have := check_eq (xN [⟨[112], [], [], [], []⟩]) (by decide +kernel)
    rw [hc] at this
    rw [this]
    rfl
  have hp : codec_PrintAll [⟨[112], [], [], [], []⟩] = some (writeL [⟨[112], [], [], [], []⟩], 0) := by
    rw [printAll_eq _ w0, if_pos (by decide +kernel)]
  have ht : wtext ⟨114, 1, 3, [⟨[112], [], [], [], []⟩], [], []⟩ = [114, 101, 112, 108, 97, 99, 101, 32, 49, 32, 51, 32, 112, 91, 93] := by decide +kernel
  unfold diptychlaw12_shown wire_Print
  rw [hs]
  simp only [Option.bind_some, Bool.not_true, Bool.false_eq_true, if_false]
  rw [hp]
  simp only [Option.bind_some, bne_self_eq_false, Bool.false_eq_true, if_false]
  rw [w1, ht]
  rfl

end Go.Proofs.YtclohbgnaopjfaaGreatDoor

/- When a step is right. -/
namespace Go.Proofs.YtclohbgnaopjfaaGreatDoor
set_option linter.unusedSimpArgs false
set_option linter.unusedVariables false
open Go

def spanB (f t : Int) : Bool := decide (0 ≤ f) && (decide (f ≤ t) && decide (t ≤ 1048576))
/-- A right step. -/
def srB (s : step_Step) : Bool :=
  if s.Kind = 114 then spanB s.From s.To && (formB (xN s.Nodes) && (s.Name == [] && s.Value == []))
  else if s.Kind = 97 then decide (-1 ≤ s.From) && (decide (s.From ≤ 1048576) && (decide (s.To = 0) && (isName s.Name && (isValue s.Value && s.Nodes.isEmpty))))
  else if s.Kind = 109 ∨ s.Kind = 117 then spanB s.From s.To && (isName s.Name && (s.Nodes.isEmpty && s.Value == []))
  else false
theorem span_eq (f t : Int) : ((if (decide (f ≥ (0 : Int))) = true then if (decide (f ≤ t)) = true then some (decide (t ≤ (1048576 : Int))) else some false else some false) : Option Bool) = some (spanB f t) := by
  unfold spanB
  by_cases a : f ≥ 0
  · by_cases b : f ≤ t
    · have : (0 : Int) ≤ f := a
      simp [b, this]
    · have : (0 : Int) ≤ f := a
      simp [b, this]
  · have : ¬ (0 : Int) ≤ f := a
    simp [this]
theorem check_form (n : api_Node) : (checkN n != (2 : Int)) = formB n := by
  unfold checkN
  cases formB n with
  | false => rfl
  | true =>
    simp only [Bool.true_eq_false, if_false]
    split
    · rfl
    · split <;> rfl
theorem len_empty {α : Type} (l : List α) : ((l.length : Int) == (0 : Int)) = l.isEmpty := by
  cases l with
  | nil => rfl
  | cons x l =>
    simp only [List.length_cons, List.isEmpty_cons, beq_eq_false_iff_ne, ne_eq]
    omega
theorem app_empty (a b : Str) : ((a ++ b) == ([] : Str)) = (a == [] && b == []) := by
  cases a <;> cases b <;> rfl
theorem stepRight_val (s : step_Step) (hw : nwts s.Nodes ≤ 268435400) (h1 : s.Name.length ≤ 1048576) (h2 : s.Value.length ≤ 1048576) : step_Right s = some (srB s) := by
  obtain ⟨k, f, t, l, n, v⟩ := s
  simp only at hw h1 h2
  have hxw := xN_wt l
  unfold step_Right srB
  simp only
  rw [span_eq]
  simp only [Option.bind_some]
  by_cases hk : k = 114
  · subst hk
    rw [if_pos (by decide), check_eq (xN l) (by omega), if_pos rfl]
    simp only [Option.bind_some]
    rw [check_form, chk_eq (by omega), app_empty]
    cases spanB f t <;> cases formB (xN l) <;> rfl
  · rw [if_neg (by simpa using hk), if_neg hk]
    by_cases hk2 : k = 97
    · subst hk2
      rw [if_pos (by decide), if_pos rfl, name_eq n (by omega), value_eq v (by omega), len_empty]
      simp only [Option.bind_some]
      have e1 : decide (f ≥ -1) = decide (-1 ≤ f) := rfl
      have e2 : (t == 0) = decide (t = 0) := by by_cases h : t = 0 <;> simp [h]
      rw [e1, e2]
      cases decide (-1 ≤ f) <;> cases decide (f ≤ 1048576) <;> cases decide (t = 0) <;> cases isName n <;> cases isValue v <;> rfl
    · rw [if_neg (by simpa using hk2), if_neg hk2]
      by_cases hk3 : k = 109
      · subst hk3
        rw [if_pos (by decide), if_pos (show (109 : Int) = 109 ∨ (109 : Int) = 117 from .inl rfl), name_eq n (by omega), len_empty]
        simp only [Option.bind_some]
        cases spanB f t <;> cases isName n <;> cases l.isEmpty <;> rfl
      · rw [if_neg (by simpa using hk3)]
        by_cases hk4 : k = 117
        · subst hk4
          rw [if_pos (by decide), if_pos (show (117 : Int) = 109 ∨ (117 : Int) = 117 from .inr rfl), name_eq n (by omega), len_empty]
          simp only [Option.bind_some]
          cases spanB f t <;> cases isName n <;> cases l.isEmpty <;> rfl
        · rw [if_neg (by simpa using hk4), if_neg (by omega)]

end Go.Proofs.YtclohbgnaopjfaaGreatDoor
