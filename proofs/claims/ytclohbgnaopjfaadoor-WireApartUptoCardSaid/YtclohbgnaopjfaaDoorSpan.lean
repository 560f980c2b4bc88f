/- Texts that are told apart by their signs. -/
import Derived.Test.YtclohbgnaopjfaaDoorName
import Derived.Lib.Join
namespace Go.Proofs.YtclohbgnaopjfaaDoor
set_option linter.unusedSimpArgs false
set_option linter.unusedVariables false
open Go

theorem name_ne {s : Str} (h : isName s = true) : s ≠ [] ∧ s.all letter = true := by
  unfold isName at h
  simp only [Bool.and_eq_true, decide_eq_true_eq] at h
  exact ⟨h.1.1.2, h.1.1.1⟩
theorem span_inj (P : UInt8 → Bool) : ∀ (a b s t : Str), (∀ x ∈ a, P x = true) → (∀ x ∈ b, P x = true) → (∀ x, s.head? = some x → P x = false) → (∀ x, t.head? = some x → P x = false) → a ++ s = b ++ t → a = b ∧ s = t
  | [], [], s, t, _, _, _, _, h => ⟨rfl, h⟩
  | [], y :: b, s, t, _, hb, hs, _, h => by
    have h' : s = y :: (b ++ t) := h
    have := hs y (by rw [h']; rfl)
    rw [hb y (by simp)] at this
    cases this
  | x :: a, [], s, t, ha, _, _, ht, h => by
    have h' : t = x :: (a ++ s) := h.symm
    have := ht x (by rw [h']; rfl)
    rw [ha x (by simp)] at this
    cases this
  | x :: a, y :: b, s, t, ha, hb, hs, ht, h => by
    simp only [List.cons_append, List.cons.injEq] at h
    obtain ⟨h1, h2⟩ := span_inj P a b s t (fun z hz => ha z (by simp [hz])) (fun z hz => hb z (by simp [hz])) hs ht h.2
    rw [h.1, h1, h2]
    exact ⟨rfl, rfl⟩
theorem tail_head (c : UInt8) (r : List Str) : ∀ x, (Lib.joinTail [c] r).head? = some x → x = c := by
  cases r with
  | nil => simp [Lib.joinTail]
  | cons y r => intro x hx; simp [Lib.joinTail] at hx; exact hx.symm
theorem jtail_cons (sep y : Str) (r : List Str) : Lib.joinTail sep (y :: r) = sep ++ y ++ Lib.joinTail sep r := by simp [Lib.joinTail]
theorem tail_inj (c : UInt8) : ∀ ws vs : List Str, (∀ w ∈ ws, c ∉ w) → (∀ v ∈ vs, c ∉ v) → Lib.joinTail [c] ws = Lib.joinTail [c] vs → ws = vs
  | [], [], _, _, _ => rfl
  | [], v :: vs, _, _, h => by simp [Lib.joinTail] at h
  | w :: ws, [], _, _, h => by simp [Lib.joinTail] at h
  | w :: ws, v :: vs, hw, hv, h => by
    rw [jtail_cons, jtail_cons, List.append_assoc, List.append_assoc] at h
    have h' := List.append_cancel_left h
    obtain ⟨h1, h2⟩ := span_inj (fun x => decide (x ≠ c)) w v _ _ (fun x hx => by simp; exact fun e => hw w (by simp) (e ▸ hx)) (fun x hx => by simp; exact fun e => hv v (by simp) (e ▸ hx)) (fun x hx => by simp [tail_head c ws x hx]) (fun x hx => by simp [tail_head c vs x hx]) h'
    rw [h1, tail_inj c ws vs (fun z hz => hw z (by simp [hz])) (fun z hz => hv z (by simp [hz])) h2]
theorem join_inj (c : UInt8) {w v : Str} {ws vs : List Str} (hw : ∀ x ∈ w :: ws, c ∉ x) (hv : ∀ x ∈ v :: vs, c ∉ x) (h : Lib.join (w :: ws) [c] = Lib.join (v :: vs) [c]) : w = v ∧ ws = vs := by
  rw [Lib.join_cons, Lib.join_cons] at h
  obtain ⟨h1, h2⟩ := span_inj (fun x => decide (x ≠ c)) w v _ _ (fun x hx => by simp; exact fun e => hw w (by simp) (e ▸ hx)) (fun x hx => by simp; exact fun e => hv v (by simp) (e ▸ hx)) (fun x hx => by simp [tail_head c ws x hx]) (fun x hx => by simp [tail_head c vs x hx]) h
  exact ⟨h1, tail_inj c ws vs (fun z hz => hw z (by simp [hz])) (fun z hz => hv z (by simp [hz])) h2⟩
theorem join_all (P : UInt8 → Bool) (sep : Str) (hs : ∀ x ∈ sep, P x = true) : ∀ ws : List Str, (∀ w ∈ ws, ∀ x ∈ w, P x = true) → ∀ x ∈ Lib.join ws sep, P x = true
  | [], _, x, h => by simp [Lib.join_nil] at h
  | w :: ws, hw, x, h => by
    rw [Lib.join_cons, List.mem_append] at h
    rcases h with h | h
    · exact hw w (by simp) x h
    · unfold Lib.joinTail at h
      obtain ⟨y, hy, hx⟩ := List.mem_flatten.1 h
      obtain ⟨z, hz, rfl⟩ := List.mem_map.1 hy
      rcases List.mem_append.1 hx with hx | hx
      · exact hs x hx
      · exact hw z (by simp [hz]) x hx

/-! ### Letters -/
theorem letter_ge {x : UInt8} (h : letter x = true) : 97 ≤ x.toNat := by
  unfold letter at h
  simp only [Bool.and_eq_true, decide_eq_true_eq] at h
  exact h.1
theorem name_all {s : Str} (h : isName s = true) : ∀ x ∈ s, letter x = true := List.all_eq_true.1 (name_ne h).2
theorem letter_ne {x c : UInt8} (h : letter x = true) (hc : c.toNat < 97 ∨ 122 < c.toNat) : x ≠ c := by
  rintro rfl
  unfold letter at h
  simp only [Bool.and_eq_true, decide_eq_true_eq] at h
  omega
theorem name_not {s : Str} (h : isName s = true) {c : UInt8} (hc : c.toNat < 97 ∨ 122 < c.toNat) : c ∉ s := fun hm => letter_ne (name_all h c hm) hc rfl
end Go.Proofs.YtclohbgnaopjfaaDoor
