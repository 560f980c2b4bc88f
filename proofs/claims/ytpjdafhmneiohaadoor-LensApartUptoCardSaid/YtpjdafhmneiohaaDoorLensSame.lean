/- Prims and names that are the same. -/
import Derived.Test.YtpjdafhmneiohaaDoorLensSpec
namespace Go.Proofs.YtpjdafhmneiohaaDoor
set_option linter.unusedSimpArgs false
set_option linter.unusedVariables false
open Go

def rP (p : lens_Prim) : diptychref13_Prim := ⟨p.Op, p.Kind, p.Name, p.New, p.Values, p.To⟩
theorem asPrim_eq (p : lens_Prim) : diptychlaw13_asPrim p = some (rP p) := rfl
theorem rP_inj {p q : lens_Prim} (h : rP p = rP q) : p = q := by
  cases p; cases q
  simp only [rP, diptychref13_Prim.mk.injEq] at h
  obtain ⟨rfl, rfl, rfl, rfl, rfl, rfl⟩ := h
  rfl
theorem sn_l0 (b : List Str) : ∀ (suf pre tb pb : List Str) (i : Int), b = pb ++ tb → i = (pb.length : Int) → suf.length = tb.length → diptychlaw13_sameNames_l0 b suf i = some (if suf = tb then .inr () else .inl false)
  | [], pre, tb, pb, i, hb, hi, hl => by
    have : tb = [] := List.eq_nil_of_length_eq_zero (by simpa using hl.symm)
    subst this
    rfl
  | y :: suf, pre, [], pb, i, hb, hi, hl => by simp at hl
  | y :: suf, pre, x :: tb, pb, i, hb, hi, hl => by
    simp only [List.length_cons] at hl
    have r : rd b i = some x := by rw [hb, hi]; exact rd_mid _ _ _
    rw [diptychlaw13_sameNames_l0, r]
    simp only [Option.bind_some]
    by_cases e : y = x
    · rw [if_neg (by simp [e]), sn_l0 b suf pre tb (pb ++ [x]) _ (by simp [hb]) (by simp [hi]) (by omega)]
      simp [e]
    · rw [if_pos (by simpa using e)]
      simp [e]
theorem sameNames13 (a b : List Str) (h : a.length ≤ 9223372036854775807) : diptychlaw13_sameNames a b = some (decide (a = b)) := by
  unfold diptychlaw13_sameNames
  by_cases hl : a.length = b.length
  · rw [if_neg (by simp [hl]), chk_eq h, sn_l0 b a [] b [] 0 rfl rfl hl]
    by_cases e : a = b <;> simp [e]
  · rw [if_pos (by simp; omega)]
    have : ¬ a = b := fun e => hl (by rw [e])
    simp [this]
theorem samePrim_eq (a b : lens_Prim) (h : pW a ≤ 1099511627776) : diptychlaw13_samePrim a (rP b) = some (decide (a = b)) := by
  have h1 := strsW_n a.Values
  have h2 := strsW_n a.To
  unfold pW at h
  obtain ⟨op, k, n, w, v, t⟩ := a
  obtain ⟨op', k', n', w', v', t'⟩ := b
  simp only at h h1 h2
  unfold diptychlaw13_samePrim rP
  simp only
  rw [sameNames13 v v' (by omega), sameNames13 t t' (by omega)]
  by_cases e1 : op = op'
  · by_cases e2 : k = k'
    · by_cases e3 : n = n'
      · by_cases e4 : w = w'
        · by_cases e5 : v = v' <;> simp [e1, e2, e3, e4, e5]
        · simp [e1, e2, e3, e4]
      · simp [e1, e2, e3]
    · simp [e1, e2]
  · simp [e1]
theorem samePrim_self (a : lens_Prim) (h : pW a ≤ 1099511627776) : diptychlaw13_samePrim a (rP a) = some true := by rw [samePrim_eq a a h]; simp
theorem pW_turn (p : lens_Prim) : pW (turnP p) = pW p := by
  unfold turnP pW
  repeat' split
  all_goals simp only
  all_goals omega
/-- What is in a lens is no greater than it. -/
theorem lflats_w : ∀ (l : List lens_Lens), (∀ x ∈ l, ∀ p ∈ lflat x, pW p ≤ lW x) → ∀ p ∈ lflats l, pW p ≤ lWs l
  | [], _, p, h => by simp [lflats] at h
  | x :: l, hx, p, h => by
    simp only [lflats, List.mem_append] at h
    simp only [lWs]
    rcases h with h | h
    · have := hx x (by simp) p h; omega
    · have := lflats_w l (fun y hy => hx y (by simp [hy])) p h; omega
theorem rt_w {l : List lens_Prim} {b : Nat} (h : ∀ p ∈ l, pW p ≤ b) : ∀ p ∈ rt l, pW p ≤ b := by
  intro p hp
  unfold rt at hp
  obtain ⟨q, hq, rfl⟩ := List.mem_map.1 hp
  rw [pW_turn]
  exact h q (List.mem_reverse.1 hq)
theorem lflat_w (l : lens_Lens) : ∀ p ∈ lflat l, pW p ≤ lW l := by
  induction l using lens_Lens.ind with
  | h l ih =>
    have hwt := lW_eq l
    have hk := lflats_w l.Kids ih
    intro p hp
    rw [lflat_eq] at hp
    split at hp
    · split at hp
      · have := rt_w hk p hp; omega
      · have := hk p hp; omega
    · simp only [List.mem_singleton] at hp
      rw [hp]; omega
end Go.Proofs.YtpjdafhmneiohaaDoor
