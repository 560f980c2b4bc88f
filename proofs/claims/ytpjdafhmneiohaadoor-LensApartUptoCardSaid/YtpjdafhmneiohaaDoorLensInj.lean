/- Two right lenses are written alike just if they are one. -/
import Derived.Test.YtpjdafhmneiohaaDoorLensText
namespace Go.Proofs.YtpjdafhmneiohaaDoor
set_option linter.unusedSimpArgs false
set_option linter.unusedVariables false
open Go

theorem span_inj (P : UInt8 → Bool) : ∀ (a b s t : Str), (∀ x ∈ a, P x = true) → (∀ x ∈ b, P x = true) → (∀ x, s.head? = some x → P x = false) → (∀ x, t.head? = some x → P x = false) → a ++ s = b ++ t → a = b ∧ s = t
  | [], [], s, t, _, _, _, _, h => ⟨rfl, h⟩
  | [], y :: b, s, t, _, hb, hs, _, h => by
    have h' : s = y :: (b ++ t) := h
    have := hs y (by rw [h']; rfl)
    rw [hb y (by simp)] at this
    cases this
  | x :: a, [], s, t, ha, _, _, ht, h => by
    have h' : t = x :: (a ++ s) := h.symm
    have := ht x (by rw [h']; rfl)
    rw [ha x (by simp)] at this
    cases this
  | x :: a, y :: b, s, t, ha, hb, hs, ht, h => by
    simp only [List.cons_append, List.cons.injEq] at h
    obtain ⟨h1, h2⟩ := span_inj P a b s t (fun z hz => ha z (by simp [hz])) (fun z hz => hb z (by simp [hz])) hs ht h.2
    rw [h.1, h1, h2]
    exact ⟨rfl, rfl⟩
theorem tail_head (c : UInt8) (r : List Str) : ∀ x, (Lib.joinTail [c] r).head? = some x → x = c := by
  cases r with
  | nil => simp [Lib.joinTail]
  | cons y r => intro x hx; simp [Lib.joinTail] at hx; exact hx.symm
theorem joinTail_cons (sep y : Str) (r : List Str) : Lib.joinTail sep (y :: r) = sep ++ y ++ Lib.joinTail sep r := by simp [Lib.joinTail]
theorem tail_inj (c : UInt8) : ∀ ws vs : List Str, (∀ w ∈ ws, c ∉ w) → (∀ v ∈ vs, c ∉ v) → Lib.joinTail [c] ws = Lib.joinTail [c] vs → ws = vs
  | [], [], _, _, _ => rfl
  | [], v :: vs, _, _, h => by simp [Lib.joinTail] at h
  | w :: ws, [], _, _, h => by simp [Lib.joinTail] at h
  | w :: ws, v :: vs, hw, hv, h => by
    rw [joinTail_cons, joinTail_cons, List.append_assoc, List.append_assoc] at h
    have h' := List.append_cancel_left h
    obtain ⟨h1, h2⟩ := span_inj (fun x => decide (x ≠ c)) w v _ _ (fun x hx => by simp; exact fun e => hw w (by simp) (e ▸ hx)) (fun x hx => by simp; exact fun e => hv v (by simp) (e ▸ hx)) (fun x hx => by simp [tail_head c ws x hx]) (fun x hx => by simp [tail_head c vs x hx]) h'
    rw [h1, tail_inj c ws vs (fun z hz => hw z (by simp [hz])) (fun z hz => hv z (by simp [hz])) h2]
theorem join_inj (c : UInt8) {w v : Str} {ws vs : List Str} (hw : ∀ x ∈ w :: ws, c ∉ x) (hv : ∀ x ∈ v :: vs, c ∉ x) (h : Lib.join (w :: ws) [c] = Lib.join (v :: vs) [c]) : w = v ∧ ws = vs := by
  rw [Lib.join_cons, Lib.join_cons] at h
  obtain ⟨h1, h2⟩ := span_inj (fun x => decide (x ≠ c)) w v _ _ (fun x hx => by simp; exact fun e => hw w (by simp) (e ▸ hx)) (fun x hx => by simp; exact fun e => hv v (by simp) (e ▸ hx)) (fun x hx => by simp [tail_head c ws x hx]) (fun x hx => by simp [tail_head c vs x hx]) h
  exact ⟨h1, tail_inj c ws vs (fun z hz => hw z (by simp [hz])) (fun z hz => hv z (by simp [hz])) h2⟩
theorem join_all (P : UInt8 → Bool) (sep : Str) (hs : ∀ x ∈ sep, P x = true) : ∀ ws : List Str, (∀ w ∈ ws, ∀ x ∈ w, P x = true) → ∀ x ∈ Lib.join ws sep, P x = true
  | [], _, x, h => by simp [Lib.join_nil] at h
  | w :: ws, hw, x, h => by
    rw [Lib.join_cons, List.mem_append] at h
    rcases h with h | h
    · exact hw w (by simp) x h
    · unfold Lib.joinTail at h
      obtain ⟨y, hy, hx⟩ := List.mem_flatten.1 h
      obtain ⟨z, hz, rfl⟩ := List.mem_map.1 hy
      rcases List.mem_append.1 hx with hx | hx
      · exact hs x hx
      · exact hw z (by simp [hz]) x hx

/-! ### Letters -/
theorem letter_ge {x : UInt8} (h : letter x = true) : 97 ≤ x.toNat := by
  unfold letter at h
  simp only [Bool.and_eq_true, decide_eq_true_eq] at h
  exact h.1
theorem name_all {s : Str} (h : isName s = true) : ∀ x ∈ s, letter x = true := List.all_eq_true.1 (name_ne h).2
theorem letter_ne {x c : UInt8} (h : letter x = true) (hc : c.toNat < 97 ∨ 122 < c.toNat) : x ≠ c := by
  rintro rfl
  unfold letter at h
  simp only [Bool.and_eq_true, decide_eq_true_eq] at h
  omega
theorem name_not {s : Str} (h : isName s = true) {c : UInt8} (hc : c.toNat < 97 ∨ 122 < c.toNat) : c ∉ s := fun hm => letter_ne (name_all h c hm) hc rfl
def tenB (op : Int) : Bool := op == 114 || op == 109 || op == 110 || op == 97 || op == 100 || op == 116 || op == 119 || op == 117 || op == 104 || op == 115
theorem ten_cases {op : Int} (h : tenB op = true) : op = 114 ∨ op = 109 ∨ op = 110 ∨ op = 97 ∨ op = 100 ∨ op = 116 ∨ op = 119 ∨ op = 117 ∨ op = 104 ∨ op = 115 := by
  unfold tenB at h
  simpa [or_assoc] using h
theorem prim_ten {p : lens_Prim} (h : primB p = true) : tenB p.Op = true := by
  unfold primB at h
  unfold tenB
  by_cases h1 : p.Op = 114 ∨ p.Op = 119 ∨ p.Op = 117
  · rcases h1 with e | e | e <;> simp [e]
  rw [if_neg h1] at h
  by_cases h2 : p.Op = 109
  · simp [h2]
  rw [if_neg h2] at h
  by_cases h3 : p.Op = 110
  · simp [h3]
  rw [if_neg h3] at h
  by_cases h4 : p.Op = 116
  · simp [h4]
  rw [if_neg h4] at h
  by_cases h5 : p.Op = 97 ∨ p.Op = 100
  · rcases h5 with e | e <;> simp [e]
  rw [if_neg h5] at h
  by_cases h6 : p.Op = 104 ∨ p.Op = 115
  · rcases h6 with e | e <;> simp [e]
  rw [if_neg h6] at h
  cases h
theorem verb_facts {op : Int} (h : tenB op = true) : opN (verbS op) = op ∧ verbS op ≠ [] ∧ (verbS op).all letter = true := by
  rcases ten_cases h with rfl | rfl | rfl | rfl | rfl | rfl | rfl | rfl | rfl | rfl <;> decide +kernel
theorem verb_not {op : Int} (h : tenB op = true) {c : UInt8} (hc : c.toNat < 97 ∨ 122 < c.toNat) : c ∉ verbS op := fun hm => letter_ne (List.all_eq_true.1 (verb_facts h).2.2 c hm) hc rfl

/-! ### Values -/
theorem vals_all : ∀ {pre l : List Str}, valsFrom pre l = true → ∀ s ∈ l, isName s = true
  | pre, y :: l, h, s, hs => by
    rw [valsFrom] at h
    simp only [Bool.and_eq_true] at h
    rcases List.mem_cons.1 hs with rfl | hs
    · exact h.1.1
    · exact vals_all h.2 s hs
theorem vals_names {l : List Str} {n : Nat} (h : valsB l n = true) : (∀ s ∈ l, isName s = true) ∧ n ≤ l.length := by
  unfold valsB at h
  simp only [Bool.and_eq_true, decide_eq_true_eq] at h
  exact ⟨vals_all h.1.1, h.1.2⟩
theorem join_ne {x : Str} {r : List Str} (h : isName x = true) (sep : Str) : ∃ c s, Lib.join (x :: r) sep = c :: s ∧ letter c = true := by
  obtain ⟨h1, _⟩ := name_ne h
  cases x with
  | nil => exact (h1 rfl).elim
  | cons c s => exact ⟨c, s ++ Lib.joinTail sep r, by rw [Lib.join_cons]; rfl, name_all h c (by simp)⟩
theorem valsT_inj {v w : List Str} (hv : ∀ s ∈ v, isName s = true) (hw : ∀ s ∈ w, isName s = true) (h : valsT v = valsT w) : v = w := by
  have l42 : letter 42 = false := by decide
  cases v with
  | nil =>
    cases w with
    | nil => rfl
    | cons y w =>
      obtain ⟨c, s, e, hc⟩ := join_ne (r := w) (hw y (by simp)) [124]
      unfold valsT at h
      rw [if_pos (Lib.join_nil _), if_neg (by rw [e]; simp), e] at h
      simp only [List.cons.injEq] at h
      rw [← h.1, l42] at hc
      cases hc
  | cons x v =>
    obtain ⟨c, s, e, hc⟩ := join_ne (r := v) (hv x (by simp)) [124]
    cases w with
    | nil =>
      unfold valsT at h
      rw [if_neg (by rw [e]; simp), if_pos (Lib.join_nil _), e] at h
      simp only [List.cons.injEq] at h
      rw [h.1, l42] at hc
      cases hc
    | cons y w =>
      obtain ⟨c', s', e', _⟩ := join_ne (r := w) (hw y (by simp)) [124]
      unfold valsT at h
      rw [if_neg (by rw [e]; simp), if_neg (by rw [e']; simp)] at h
      obtain ⟨h1, h2⟩ := join_inj 124 (fun z hz => name_not (hv z hz) (by decide)) (fun z hz => name_not (hw z hz) (by decide)) h
      rw [h1, h2]
theorem pairs_inj : ∀ v t v' t' : List Str, (∀ s ∈ v, isName s = true) → (∀ s ∈ v', isName s = true) → v.length = t.length → v'.length = t'.length → pairsT v t = pairsT v' t' → v = v' ∧ t = t'
  | [], [], [], [], _, _, _, _, _ => ⟨rfl, rfl⟩
  | [], [], x' :: v', y' :: t', _, _, _, _, h => by simp [pairsT] at h
  | x :: v, y :: t, [], [], _, _, _, _, h => by simp [pairsT] at h
  | [], y :: t, _, _, _, _, hl, _, _ => by simp at hl
  | x :: v, [], _, _, _, _, hl, _, _ => by simp at hl
  | _, _, [], y :: t, _, _, _, hl, _ => by simp at hl
  | _, _, x :: v, [], _, _, _, hl, _ => by simp at hl
  | x :: v, y :: t, x' :: v', y' :: t', hv, hv', hl, hl', h => by
    simp only [pairsT, List.zipWith_cons_cons, List.cons.injEq] at h
    obtain ⟨h1, h2⟩ := h
    rw [List.append_assoc, List.append_assoc] at h1
    obtain ⟨e1, e2⟩ := span_inj letter x x' _ _ (name_all (hv x (by simp))) (name_all (hv' x' (by simp))) (fun z hz => by simp at hz; rw [← hz]; decide) (fun z hz => by simp at hz; rw [← hz]; decide) h1
    have e3 := List.append_cancel_left e2
    obtain ⟨e4, e5⟩ := pairs_inj v t v' t' (fun s hs => hv s (by simp [hs])) (fun s hs => hv' s (by simp [hs])) (by simpa using hl) (by simpa using hl') h2
    rw [e1, e3, e4, e5]
    exact ⟨rfl, rfl⟩

/-! ### Prims -/
def P3 (x : UInt8) : Bool := x != 40 && x != 41 && x != 59
theorem P3_letter {x : UInt8} (h : letter x = true) : P3 x = true := by
  unfold P3
  have h1 := letter_ne (c := 40) h (by decide)
  have h2 := letter_ne (c := 41) h (by decide)
  have h3 := letter_ne (c := 59) h (by decide)
  simp [h1, h2, h3]
theorem valsT_in (P : UInt8 → Bool) (hl : ∀ x, letter x = true → P x = true) (h42 : P 42 = true) (h124 : P 124 = true) {v : List Str} (hv : ∀ s ∈ v, isName s = true) : ∀ x ∈ valsT v, P x = true := by
  intro x hx
  unfold valsT at hx
  split at hx
  · simp at hx; rw [hx]; exact h42
  · exact join_all P [124] (by simpa using h124) v (fun w hw y hy => hl y (name_all (hv w hw) y hy)) x hx
/-- What the words of a right prim are made of. -/
theorem words_in (P : UInt8 → Bool) (hl : ∀ x, letter x = true → P x = true) (h42 : P 42 = true) (h124 : P 124 = true) (h61 : P 61 = true) (h58 : P 58 = true) (h44 : P 44 = true) {p : lens_Prim} (h : primB p = true) : ∀ w ∈ pwords p, ∀ x ∈ w, P x = true := by
  have ht := prim_ten h
  have hvb : ∀ x ∈ verbS p.Op, P x = true := fun x hx => hl x (List.all_eq_true.1 (verb_facts ht).2.2 x hx)
  have hnm : ∀ {s : Str}, isName s = true ∨ s = [] → ∀ x ∈ s, P x = true := fun hs x hx => by
    rcases hs with hs | rfl
    · exact hl x (name_all hs x hx)
    · cases hx
  unfold primB at h
  unfold pwords
  by_cases c1 : p.Op = 97 ∨ p.Op = 100
  · rw [if_neg (by omega), if_neg (by omega), if_neg (by omega), if_neg (by omega), if_pos c1] at h
    simp only [Bool.and_eq_true, decide_eq_true_eq] at h
    obtain ⟨⟨⟨⟨a1, a2⟩, a3⟩, a4⟩, a5⟩ := h
    rw [if_pos c1]
    intro w hw x hx
    simp only [List.mem_cons, List.not_mem_nil, or_false] at hw
    rcases hw with rfl | rfl | rfl
    · exact hvb x hx
    · exact hnm (.inl a3) x hx
    · rcases List.mem_append.1 hx with hx | hx
      · exact hnm (.inl a4) x hx
      · rcases List.mem_append.1 hx with hx | hx
        · simp at hx; rw [hx]; exact h61
        · exact valsT_in P hl h42 h124 (vals_names a1).1 x hx
  · rw [if_neg c1]
    by_cases c2 : p.Op = 116
    · rw [if_neg (by omega), if_neg (by omega), if_neg (by omega), if_pos c2] at h
      simp only [Bool.and_eq_true, decide_eq_true_eq] at h
      obtain ⟨⟨⟨⟨⟨a1, a2⟩, a3⟩, a4⟩, a5⟩, a6⟩ := h
      rw [if_pos c2]
      intro w hw x hx
      simp only [List.mem_cons, List.not_mem_nil, or_false] at hw
      rcases hw with rfl | rfl | rfl | rfl
      · exact hvb x hx
      · exact hnm (.inl a4) x hx
      · exact hnm (.inl a5) x hx
      · refine join_all P [44] (by simpa using h44) _ (fun w hw y hy => ?_) x hx
        have key : ∀ v t : List Str, (∀ s ∈ v, isName s = true) → (∀ s ∈ t, isName s = true) → ∀ w ∈ pairsT v t, ∀ y ∈ w, P y = true := by
          intro v
          induction v with
          | nil => intro t _ _ w hw; simp [pairsT] at hw
          | cons a v ih =>
            intro t hv ht w hw y hy
            cases t with
            | nil => simp [pairsT] at hw
            | cons b t =>
              simp only [pairsT, List.zipWith_cons_cons, List.mem_cons] at hw
              rcases hw with rfl | hw
              · simp only [List.append_assoc, List.mem_append, List.mem_cons, List.not_mem_nil, or_false] at hy
                rcases hy with hy | rfl | hy
                · exact hl y (name_all (hv a (by simp)) y hy)
                · exact h58
                · exact hl y (name_all (ht b (by simp)) y hy)
              · exact ih t (fun s hs => hv s (by simp [hs])) (fun s hs => ht s (by simp [hs])) w hw y hy
        exact key p.Values p.To (vals_names a1).1 (vals_names a2).1 w hw y hy
    · rw [if_neg c2]
      have hn : (isName p.Kind = true ∨ p.Kind = []) ∧ (isName p.Name = true ∨ p.Name = []) ∧ (isName p.New = true ∨ p.New = []) := by
        rw [if_neg c2, if_neg c1] at h
        by_cases c3 : p.Op = 114 ∨ p.Op = 119 ∨ p.Op = 117
        · rw [if_pos c3] at h
          simp only [Bool.and_eq_true, decide_eq_true_eq] at h
          exact ⟨.inl h.1.1.2, .inr h.2, .inl h.1.2⟩
        rw [if_neg c3] at h
        by_cases c4 : p.Op = 109
        · rw [if_pos c4] at h
          simp only [Bool.and_eq_true, decide_eq_true_eq] at h
          exact ⟨.inr h.2, .inl h.1.1.2, .inl h.1.2⟩
        rw [if_neg c4] at h
        by_cases c5 : p.Op = 110
        · rw [if_pos c5] at h
          simp only [Bool.and_eq_true, decide_eq_true_eq] at h
          exact ⟨.inl h.1.1.2, .inl h.1.2, .inl h.2⟩
        rw [if_neg c5] at h
        by_cases c6 : p.Op = 104 ∨ p.Op = 115
        · rw [if_pos c6] at h
          simp only [Bool.and_eq_true, decide_eq_true_eq] at h
          exact ⟨.inl h.1.1.2, .inl h.1.2, .inr h.2⟩
        rw [if_neg c6] at h
        cases h
      intro w hw x hx
      rcases List.mem_cons.1 hw with rfl | hw
      · exact hvb x hx
      · have hw' := (List.mem_filter.1 hw).1
        simp only [List.mem_cons, List.not_mem_nil, or_false] at hw'
        rcases hw' with rfl | rfl | rfl
        · exact hnm hn.1 x hx
        · exact hnm hn.2.1 x hx
        · exact hnm hn.2.2 x hx

end Go.Proofs.YtpjdafhmneiohaaDoor
