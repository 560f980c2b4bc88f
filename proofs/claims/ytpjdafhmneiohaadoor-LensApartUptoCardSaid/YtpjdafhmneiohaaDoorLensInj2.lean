/- Two right lenses are written alike just if they are one: prims, rows, lenses. -/
import Derived.Test.YtpjdafhmneiohaaDoorLensInj
import Derived.Test.YtpjdafhmneiohaaDoorLensFilt
namespace Go.Proofs.YtpjdafhmneiohaaDoor
set_option linter.unusedSimpArgs false
set_option linter.unusedVariables false
open Go

theorem pwords_ne (p : lens_Prim) : ∃ r, pwords p = verbS p.Op :: r := by
  unfold pwords
  split
  · exact ⟨_, rfl⟩
  · split <;> exact ⟨_, rfl⟩
theorem prim_ext {p q : lens_Prim} (h0 : p.Op = q.Op) (h1 : p.Kind = q.Kind) (h2 : p.Name = q.Name) (h3 : p.New = q.New) (h4 : p.Values = q.Values) (h5 : p.To = q.To) : p = q := by
  cases p; cases q
  simp only at h0 h1 h2 h3 h4 h5
  subst h0 h1 h2 h3 h4 h5
  rfl
theorem none_ext {p q : lens_Prim} (hp : noneP p = true) (hq : noneP q = true) : p.Values = q.Values ∧ p.To = q.To := by
  unfold noneP at hp hq
  simp only [decide_eq_true_eq] at hp hq
  rw [hp.1, hp.2, hq.1, hq.2]
  exact ⟨rfl, rfl⟩
theorem ptext_inj {p q : lens_Prim} (hp : primB p = true) (hq : primB q = true) (h : ptext p = ptext q) : p = q := by
  have hw : ∀ {p : lens_Prim}, primB p = true → ∀ w ∈ pwords p, (32 : UInt8) ∉ w := fun hp w hm hx => by
    have := words_in (fun x => x != 32) (fun x hx => by simpa using letter_ne (c := 32) hx (by decide)) (by decide) (by decide) (by decide) (by decide) (by decide) hp w hm 32 hx
    simp at this
  have hpw : pwords p = pwords q := by
    obtain ⟨r, e⟩ := pwords_ne p
    obtain ⟨r', e'⟩ := pwords_ne q
    have h1 := hw hp
    have h2 := hw hq
    unfold ptext at h
    rw [e] at h1 h ⊢
    rw [e'] at h2 h ⊢
    obtain ⟨k1, k2⟩ := join_inj 32 h1 h2 h
    rw [k1, k2]
  have hop : p.Op = q.Op := by
    obtain ⟨r, e⟩ := pwords_ne p
    obtain ⟨r', e'⟩ := pwords_ne q
    rw [e, e'] at hpw
    simp only [List.cons.injEq] at hpw
    rw [← (verb_facts (prim_ten hp)).1, ← (verb_facts (prim_ten hq)).1, hpw.1]
  have hp' := hp
  have hq' := hq
  unfold primB at hp hq
  unfold pwords at hpw
  rw [← hop] at hq hpw
  by_cases c1 : p.Op = 97 ∨ p.Op = 100
  · rw [if_neg (by omega), if_neg (by omega), if_neg (by omega), if_neg (by omega), if_pos c1] at hp hq
    rw [if_pos c1, if_pos c1] at hpw
    simp only [Bool.and_eq_true, decide_eq_true_eq] at hp hq
    obtain ⟨⟨⟨⟨a1, a2⟩, a3⟩, a4⟩, a5⟩ := hp
    obtain ⟨⟨⟨⟨b1, b2⟩, b3⟩, b4⟩, b5⟩ := hq
    simp only [List.cons.injEq, and_true] at hpw
    obtain ⟨_, k1, k2⟩ := hpw
    obtain ⟨n1, n2⟩ := span_inj letter _ _ _ _ (name_all a4) (name_all b4) (fun z hz => by simp at hz; rw [← hz]; decide) (fun z hz => by simp at hz; rw [← hz]; decide) k2
    have n3 := valsT_inj (vals_names a1).1 (vals_names b1).1 (List.append_cancel_left n2)
    exact prim_ext hop k1 n1 (by rw [a5, b5]) n3 (by rw [a2, b2])
  rw [if_neg c1, if_neg c1] at hpw
  by_cases c2 : p.Op = 116
  · rw [if_neg (by omega), if_neg (by omega), if_neg (by omega), if_pos c2] at hp hq
    rw [if_pos c2, if_pos c2] at hpw
    simp only [Bool.and_eq_true, decide_eq_true_eq] at hp hq
    obtain ⟨⟨⟨⟨⟨a1, a2⟩, a3⟩, a4⟩, a5⟩, a6⟩ := hp
    obtain ⟨⟨⟨⟨⟨b1, b2⟩, b3⟩, b4⟩, b5⟩, b6⟩ := hq
    simp only [List.cons.injEq, and_true] at hpw
    obtain ⟨_, k1, k2, k3⟩ := hpw
    have nn : ∀ {v t : List Str}, (∀ s ∈ v, isName s = true) → (∀ s ∈ t, isName s = true) → ∀ w ∈ pairsT v t, (44 : UInt8) ∉ w := by
      intro v
      induction v with
      | nil => intro t _ _ w hw; simp [pairsT] at hw
      | cons a v ih =>
        intro t hv ht w hw
        cases t with
        | nil => simp [pairsT] at hw
        | cons b t =>
          simp only [pairsT, List.zipWith_cons_cons, List.mem_cons] at hw
          rcases hw with rfl | hw
          · intro hm
            simp only [List.append_assoc, List.mem_append, List.mem_cons, List.not_mem_nil, or_false] at hm
            rcases hm with hm | hm | hm
            · exact name_not (hv a (by simp)) (by decide) hm
            · cases hm
            · exact name_not (ht b (by simp)) (by decide) hm
          · exact ih (fun s hs => hv s (by simp [hs])) (fun s hs => ht s (by simp [hs])) w hw
    have i1 := nn (vals_names a1).1 (vals_names a2).1
    have i2 := nn (vals_names b1).1 (vals_names b2).1
    have hpp : pairsT p.Values p.To = pairsT q.Values q.To := by
      have l1 : 1 ≤ (pairsT p.Values p.To).length := by
        have := (vals_names a1).2
        simp [pairsT]; omega
      have l2 : 1 ≤ (pairsT q.Values q.To).length := by
        have := (vals_names b1).2
        simp [pairsT]; omega
      cases e1 : pairsT p.Values p.To with
      | nil => rw [e1] at l1; simp at l1
      | cons x r =>
        cases e2 : pairsT q.Values q.To with
        | nil => rw [e2] at l2; simp at l2
        | cons y s =>
          rw [e1] at i1 k3
          rw [e2] at i2 k3
          obtain ⟨j1, j2⟩ := join_inj 44 i1 i2 k3
          rw [j1, j2]
    obtain ⟨j1, j2⟩ := pairs_inj _ _ _ _ (vals_names a1).1 (vals_names b1).1 a3 b3 hpp
    exact prim_ext hop k1 k2 (by rw [a6, b6]) j1 j2
  rw [if_neg c2, if_neg c2] at hpw
  rw [if_neg c2, if_neg c1] at hp hq
  by_cases c3 : p.Op = 114 ∨ p.Op = 119 ∨ p.Op = 117
  · rw [if_pos c3] at hp hq
    simp only [Bool.and_eq_true, decide_eq_true_eq] at hp hq
    obtain ⟨⟨⟨a1, a2⟩, a3⟩, a4⟩ := hp
    obtain ⟨⟨⟨b1, b2⟩, b3⟩, b4⟩ := hq
    rw [filt2' (name_ne a2).1 a4 (name_ne a3).1, filt2' (name_ne b2).1 b4 (name_ne b3).1] at hpw
    simp only [List.cons.injEq, and_true] at hpw
    obtain ⟨_, k1, k2⟩ := hpw
    obtain ⟨n1, n2⟩ := none_ext a1 b1
    exact prim_ext hop k1 (by rw [a4, b4]) k2 n1 n2
  rw [if_neg c3] at hp hq
  by_cases c4 : p.Op = 109
  · rw [if_pos c4] at hp hq
    simp only [Bool.and_eq_true, decide_eq_true_eq] at hp hq
    obtain ⟨⟨⟨a1, a2⟩, a3⟩, a4⟩ := hp
    obtain ⟨⟨⟨b1, b2⟩, b3⟩, b4⟩ := hq
    rw [filt2'' a4 (name_ne a2).1 (name_ne a3).1, filt2'' b4 (name_ne b2).1 (name_ne b3).1] at hpw
    simp only [List.cons.injEq, and_true] at hpw
    obtain ⟨_, k1, k2⟩ := hpw
    obtain ⟨n1, n2⟩ := none_ext a1 b1
    exact prim_ext hop (by rw [a4, b4]) k1 k2 n1 n2
  rw [if_neg c4] at hp hq
  by_cases c5 : p.Op = 110
  · rw [if_pos c5] at hp hq
    simp only [Bool.and_eq_true, decide_eq_true_eq] at hp hq
    obtain ⟨⟨⟨a1, a2⟩, a3⟩, a4⟩ := hp
    obtain ⟨⟨⟨b1, b2⟩, b3⟩, b4⟩ := hq
    rw [filt3 (name_ne a2).1 (name_ne a3).1 (name_ne a4).1, filt3 (name_ne b2).1 (name_ne b3).1 (name_ne b4).1] at hpw
    simp only [List.cons.injEq, and_true] at hpw
    obtain ⟨_, k1, k2, k3⟩ := hpw
    obtain ⟨n1, n2⟩ := none_ext a1 b1
    exact prim_ext hop k1 k2 k3 n1 n2
  rw [if_neg c5] at hp hq
  by_cases c6 : p.Op = 104 ∨ p.Op = 115
  · rw [if_pos c6] at hp hq
    simp only [Bool.and_eq_true, decide_eq_true_eq] at hp hq
    obtain ⟨⟨⟨a1, a2⟩, a3⟩, a4⟩ := hp
    obtain ⟨⟨⟨b1, b2⟩, b3⟩, b4⟩ := hq
    rw [filt2 (name_ne a2).1 (name_ne a3).1 a4, filt2 (name_ne b2).1 (name_ne b3).1 b4] at hpw
    simp only [List.cons.injEq, and_true] at hpw
    obtain ⟨_, k1, k2⟩ := hpw
    obtain ⟨n1, n2⟩ := none_ext a1 b1
    exact prim_ext hop k1 k2 (by rw [a4, b4]) n1 n2
  rw [if_neg c6] at hp
  cases hp

/-! ### Lenses -/
theorem empty_nil {p : lens_Prim} (h : emptyP p = true) (h0 : p.Op = 0) : p = nilP := by
  unfold emptyP noneP at h
  simp only [Bool.and_eq_true, decide_eq_true_eq] at h
  exact prim_ext h0 h.1.1 h.1.2.1 h.1.2.2 h.2.1 h.2.2
theorem ptext_in {p : lens_Prim} (h : primB p = true) : ∀ x ∈ ptext p, P3 x = true :=
  join_all P3 [32] (by decide) _ (words_in P3 (fun _ hx => P3_letter hx) (by decide) (by decide) (by decide) (by decide) (by decide) h)
theorem ptext_head {p : lens_Prim} (h : primB p = true) : ∃ c s, ptext p = c :: s ∧ letter c = true := by
  obtain ⟨r, e⟩ := pwords_ne p
  obtain ⟨_, h2, h3⟩ := verb_facts (prim_ten h)
  unfold ptext
  rw [e, Lib.join_cons]
  cases hv : verbS p.Op with
  | nil => exact (h2 hv).elim
  | cons c s =>
    rw [hv] at h3
    exact ⟨c, s ++ Lib.joinTail [32] r, rfl, List.all_eq_true.1 h3 c (by simp)⟩
theorem item_head {l : lens_Lens} (h : lform l = true) (hr : isRow l = false) : ∃ c s, ltext l = c :: s ∧ letter c = true := by
  rw [ltext_eq]
  by_cases h0 : l.Prim.Op = 0
  · have ht : l.Turned = true := by
      unfold isRow at hr
      simpa [h0] using hr
    rw [if_pos h0, if_pos ht]
    exact ⟨105, _, rfl, by decide⟩
  · obtain ⟨f1, _, _⟩ := lform_prim h h0
    rw [if_neg h0]
    exact ptext_head f1
def TailS (r : Str) : Prop := ∀ x, r.head? = some x → x = 59 ∨ x = 41
def TailE (r : Str) : Prop := ∀ x, r.head? = some x → x = 41
abbrev ItemInj (x : lens_Lens) : Prop := lform x = true → isRow x = false → ∀ (y : lens_Lens) (r r' : Str), lform y = true → isRow y = false → TailS r → TailS r' → ltext x ++ r = ltext y ++ r' → x = y ∧ r = r'
theorem tail_S (l : List Str) {t : Str} (ht : TailE t) : TailS (Lib.joinTail [59, 32] l ++ t) := by
  cases l with
  | nil => intro x hx; exact .inr (ht x (by simpa [Lib.joinTail] using hx))
  | cons y l => intro x hx; rw [joinTail_cons] at hx; simp at hx; exact .inl hx.symm
theorem rowT : ∀ (ks ks' : List lens_Lens), (∀ k ∈ ks, ItemInj k) → lforms ks = true → lforms ks' = true → ∀ t t' : Str, TailE t → TailE t' → Lib.joinTail [59, 32] (ltexts ks) ++ t = Lib.joinTail [59, 32] (ltexts ks') ++ t' → ks = ks' ∧ t = t'
  | [], [], _, _, _, t, t', _, _, h => ⟨rfl, by simpa [ltexts, Lib.joinTail] using h⟩
  | [], y :: ks', _, _, _, t, t', ht, _, h => by
    have h' : t = Lib.joinTail [59, 32] (ltexts (y :: ks')) ++ t' := by simpa [ltexts, Lib.joinTail] using h
    have := ht 59 (by rw [h', ltexts, joinTail_cons]; rfl)
    cases this
  | x :: ks, [], _, _, _, t, t', _, ht', h => by
    have h' : t' = Lib.joinTail [59, 32] (ltexts (x :: ks)) ++ t := by
      have := h.symm
      simpa [ltexts, Lib.joinTail] using this
    have := ht' 59 (by rw [h', ltexts, joinTail_cons]; rfl)
    cases this
  | x :: ks, y :: ks', hi, hf, hf', t, t', ht, ht', h => by
    rw [ltexts, ltexts, joinTail_cons, joinTail_cons, List.append_assoc, List.append_assoc, List.append_assoc, List.append_assoc] at h
    have h' := List.append_cancel_left h
    obtain ⟨x1, x2⟩ := lforms_mem hf x (by simp)
    obtain ⟨y1, y2⟩ := lforms_mem hf' y (by simp)
    obtain ⟨k1, k2⟩ := hi x (by simp) x2 x1 y _ _ y2 y1 (tail_S _ ht) (tail_S _ ht') h'
    have f1 : lforms ks = true := by rw [lforms] at hf; simp only [Bool.and_eq_true] at hf; exact hf.2
    have f2 : lforms ks' = true := by rw [lforms] at hf'; simp only [Bool.and_eq_true] at hf'; exact hf'.2
    obtain ⟨k3, k4⟩ := rowT ks ks' (fun k hk => hi k (by simp [hk])) f1 f2 t t' ht ht' k2
    rw [k1, k3]
    exact ⟨rfl, k4⟩
theorem rowInj (ks ks' : List lens_Lens) (hi : ∀ k ∈ ks, ItemInj k) (hf : lforms ks = true) (hf' : lforms ks' = true) (t t' : Str) (ht : TailE t) (ht' : TailE t') (h : Lib.join (ltexts ks) [59, 32] ++ t = Lib.join (ltexts ks') [59, 32] ++ t') : ks = ks' ∧ t = t' := by
  have l41 : letter 41 = false := by decide
  cases ks with
  | nil =>
    cases ks' with
    | nil => exact ⟨rfl, by simpa [ltexts, Lib.join_nil] using h⟩
    | cons y ks' =>
      obtain ⟨y1, y2⟩ := lforms_mem hf' y (by simp)
      obtain ⟨c, s, e, hc⟩ := item_head y2 y1
      have h' : t = (c :: s) ++ Lib.joinTail [59, 32] (ltexts ks') ++ t' := by
        rw [← e, ← Lib.join_cons]
        simpa [ltexts, Lib.join_nil] using h
      have := ht c (by rw [h']; rfl)
      rw [this, l41] at hc
      cases hc
  | cons x ks =>
    obtain ⟨x1, x2⟩ := lforms_mem hf x (by simp)
    cases ks' with
    | nil =>
      obtain ⟨c, s, e, hc⟩ := item_head x2 x1
      have h' : t' = (c :: s) ++ Lib.joinTail [59, 32] (ltexts ks) ++ t := by
        rw [← e, ← Lib.join_cons]
        have := h.symm
        simpa [ltexts, Lib.join_nil] using this
      have := ht' c (by rw [h']; rfl)
      rw [this, l41] at hc
      cases hc
    | cons y ks' =>
      obtain ⟨y1, y2⟩ := lforms_mem hf' y (by simp)
      rw [ltexts, ltexts, Lib.join_cons, Lib.join_cons, List.append_assoc, List.append_assoc] at h
      obtain ⟨k1, k2⟩ := hi x (by simp) x2 x1 y _ _ y2 y1 (tail_S _ ht) (tail_S _ ht') h
      have f1 : lforms ks = true := by rw [lforms] at hf; simp only [Bool.and_eq_true] at hf; exact hf.2
      have f2 : lforms ks' = true := by rw [lforms] at hf'; simp only [Bool.and_eq_true] at hf'; exact hf'.2
      obtain ⟨k3, k4⟩ := rowT ks ks' (fun k hk => hi k (by simp [hk])) f1 f2 t t' ht ht' k2
      rw [k1, k3]
      exact ⟨rfl, k4⟩
theorem tailS_P3 {r : Str} (h : TailS r) : ∀ x, r.head? = some x → P3 x = false := fun x hx => by
  rcases h x hx with rfl | rfl <;> decide
theorem lens_ext {x y : lens_Lens} (h1 : x.Prim = y.Prim) (h2 : x.Turned = y.Turned) (h3 : x.Kids = y.Kids) : x = y := by
  cases x; cases y
  simp only at h1 h2 h3
  subst h1 h2 h3
  rfl
theorem itemInj (x : lens_Lens) : ItemInj x := by
  induction x using lens_Lens.ind with
  | h x ih =>
    intro hx hrx y r r' hy hry hr hr' h
    rw [ltext_eq x, ltext_eq y] at h
    have turned : ∀ {z : lens_Lens}, isRow z = false → z.Prim.Op = 0 → z.Turned = true := fun hz h0 => by
      unfold isRow at hz
      simpa [h0] using hz
    by_cases h0 : x.Prim.Op = 0
    · have tx := turned hrx h0
      obtain ⟨e1, _, f1⟩ := lform_kids hx h0
      rw [if_pos h0, if_pos tx] at h
      by_cases g0 : y.Prim.Op = 0
      · have ty := turned hry g0
        obtain ⟨e2, _, f2⟩ := lform_kids hy g0
        rw [if_pos g0, if_pos ty, List.append_assoc, List.append_assoc, List.append_assoc, List.append_assoc] at h
        have h' := List.append_cancel_left h
        obtain ⟨k1, k2⟩ := rowInj x.Kids y.Kids ih f1 f2 ([41] ++ r) ([41] ++ r') (fun z hz => by simpa using hz.symm) (fun z hz => by simpa using hz.symm) h'
        refine ⟨lens_ext ?_ (by rw [tx, ty]) k1, List.append_cancel_left k2⟩
        rw [empty_nil e1 h0, empty_nil e2 g0]
      · obtain ⟨f2, _, _⟩ := lform_prim hy g0
        rw [if_neg g0] at h
        have h' : ([105, 110, 118, 101, 114, 116] : Str) ++ ([40] ++ Lib.join (ltexts x.Kids) [59, 32] ++ [41] ++ r) = ptext y.Prim ++ r' := by simpa using h
        obtain ⟨_, k2⟩ := span_inj P3 _ _ _ _ (by decide) (ptext_in f2) (fun z hz => by simp at hz; rw [← hz]; decide) (tailS_P3 hr') h'
        have := hr' 40 (by rw [← k2]; rfl)
        rcases this with e | e <;> cases e
    · obtain ⟨f1, t1, c1⟩ := lform_prim hx h0
      rw [if_neg h0] at h
      by_cases g0 : y.Prim.Op = 0
      · have ty := turned hry g0
        rw [if_pos g0, if_pos ty] at h
        have h' : ptext x.Prim ++ r = ([105, 110, 118, 101, 114, 116] : Str) ++ ([40] ++ Lib.join (ltexts y.Kids) [59, 32] ++ [41] ++ r') := by simpa using h
        obtain ⟨_, k2⟩ := span_inj P3 _ _ _ _ (ptext_in f1) (by decide) (tailS_P3 hr) (fun z hz => by simp at hz; rw [← hz]; decide) h'
        have := hr 40 (by rw [k2]; rfl)
        rcases this with e | e <;> cases e
      · obtain ⟨f2, t2, c2⟩ := lform_prim hy g0
        rw [if_neg g0] at h
        obtain ⟨k1, k2⟩ := span_inj P3 _ _ _ _ (ptext_in f1) (ptext_in f2) (tailS_P3 hr) (tailS_P3 hr') h
        exact ⟨lens_ext (ptext_inj f1 f2 k1) (by rw [t1, t2]) (by rw [c1, c2]), k2⟩
/-- What is beside one another in a lens's text. -/
def litems (l : lens_Lens) : List lens_Lens := if isRow l = true then l.Kids else [l]
theorem litems_text (l : lens_Lens) : ltext l = Lib.join (ltexts (litems l)) [59, 32] := by
  unfold litems
  cases hr : isRow l with
  | false => simp [ltexts, Lib.join_one]
  | true =>
    rw [if_pos rfl, ltext_eq]
    unfold isRow at hr
    simp only [Bool.and_eq_true, decide_eq_true_eq, Bool.not_eq_true'] at hr
    rw [if_pos hr.1, if_neg (by simp [hr.2])]
theorem litems_form {l : lens_Lens} (h : lform l = true) : lforms (litems l) = true := by
  unfold litems
  cases hr : isRow l with
  | false => simp [lforms, hr, h]
  | true =>
    rw [if_pos rfl]
    unfold isRow at hr
    simp only [Bool.and_eq_true, decide_eq_true_eq, Bool.not_eq_true'] at hr
    exact (lform_kids h hr.1).2.2
theorem ltext_inj {a b : lens_Lens} (ha : lform a = true) (hb : lform b = true) (h : ltext a = ltext b) : a = b := by
  rw [litems_text a, litems_text b] at h
  have h' : Lib.join (ltexts (litems a)) [59, 32] ++ [] = Lib.join (ltexts (litems b)) [59, 32] ++ [] := by simpa using h
  obtain ⟨k, _⟩ := rowInj _ _ (fun k _ => itemInj k) (litems_form ha) (litems_form hb) [] [] (fun x hx => by cases hx) (fun x hx => by cases hx) h'
  have row : ∀ {l : lens_Lens}, isRow l = true → l.Prim.Op = 0 ∧ l.Turned = false := fun hr => by
    unfold isRow at hr
    simpa using hr
  unfold litems at k
  cases ra : isRow a with
  | false =>
    cases rb : isRow b with
    | false => rw [ra, rb] at k; simpa using k
    | true =>
      rw [ra, rb, if_neg (by simp), if_pos rfl] at k
      obtain ⟨b0, bt⟩ := row rb
      rcases (lform_kids hb b0).2.1 with e | e
      · rw [bt] at e; cases e
      · rw [← k] at e; simp at e
  | true =>
    obtain ⟨a0, at'⟩ := row ra
    cases rb : isRow b with
    | false =>
      rw [ra, rb, if_pos rfl, if_neg (by simp)] at k
      rcases (lform_kids ha a0).2.1 with e | e
      · rw [at'] at e; cases e
      · rw [k] at e; simp at e
    | true =>
      obtain ⟨b0, bt⟩ := row rb
      rw [ra, rb, if_pos rfl, if_pos rfl] at k
      exact lens_ext (by rw [empty_nil (lform_kids ha a0).1 a0, empty_nil (lform_kids hb b0).1 b0]) (by rw [at', bt]) k
theorem linv_ne (a : lens_Lens) : linv a ≠ a := by
  intro h
  unfold linv at h
  by_cases h0 : a.Prim.Op = 0
  · rw [if_pos h0] at h
    by_cases ht : a.Turned = true
    · rw [if_pos ht] at h
      split at h
      · rename_i k hk
        have := lW_eq a
        rw [hk] at this
        simp only [lWs] at this
        rw [h] at this
        omega
      · have := congrArg lens_Lens.Turned h
        rw [ht] at this
        cases this
    · rw [if_neg ht] at h
      have := congrArg lens_Lens.Turned h
      exact ht this.symm
  · rw [if_neg h0] at h
    have := congrArg (fun l => l.Prim.Op) h
    exact h0 this.symm

end Go.Proofs.YtpjdafhmneiohaaDoor
