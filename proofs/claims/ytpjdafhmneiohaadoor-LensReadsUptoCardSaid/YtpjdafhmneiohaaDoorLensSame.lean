/- Prims and names that are the same; the reference's Turn. -/
import Derived.Test.YtpjdafhmneiohaaDoorLensSpec
namespace Go.Proofs.YtpjdafhmneiohaaDoor
set_option linter.unusedSimpArgs false
set_option linter.unusedVariables false
open Go

def rP (p : lens_Prim) : diptychref13_Prim := ⟨p.Op, p.Kind, p.Name, p.New, p.Values, p.To⟩
theorem asPrim_eq (p : lens_Prim) : diptychlaw13_asPrim p = some (rP p) := rfl
theorem rP_inj {p q : lens_Prim} (h : rP p = rP q) : p = q := by
  cases p; cases q
  simp only [rP, diptychref13_Prim.mk.injEq] at h
  obtain ⟨rfl, rfl, rfl, rfl, rfl, rfl⟩ := h
  rfl
theorem sn_l0 (b : List Str) : ∀ (suf pre tb pb : List Str) (i : Int), b = pb ++ tb → i = (pb.length : Int) → suf.length = tb.length → diptychlaw13_sameNames_l0 b suf i = some (if suf = tb then .inr () else .inl false)
  | [], pre, tb, pb, i, hb, hi, hl => by
    have : tb = [] := List.eq_nil_of_length_eq_zero (by simpa using hl.symm)
    subst this
    rfl
  | y :: suf, pre, [], pb, i, hb, hi, hl => by simp at hl
  | y :: suf, pre, x :: tb, pb, i, hb, hi, hl => by
    simp only [List.length_cons] at hl
    have r : rd b i = some x := by rw [hb, hi]; exact rd_mid _ _ _
    rw [diptychlaw13_sameNames_l0, r]
    simp only [Option.bind_some]
    by_cases e : y = x
    · rw [if_neg (by simp [e]), sn_l0 b suf pre tb (pb ++ [x]) _ (by simp [hb]) (by simp [hi]) (by omega)]
      simp [e]
    · rw [if_pos (by simpa using e)]
      simp [e]
theorem sameNames13 (a b : List Str) (h : a.length ≤ 9223372036854775807) : diptychlaw13_sameNames a b = some (decide (a = b)) := by
  unfold diptychlaw13_sameNames
  by_cases hl : a.length = b.length
  · rw [if_neg (by simp [hl]), chk_eq h, sn_l0 b a [] b [] 0 rfl rfl hl]
    by_cases e : a = b <;> simp [e]
  · rw [if_pos (by simp; omega)]
    have : ¬ a = b := fun e => hl (by rw [e])
    simp [this]
theorem samePrim_eq (a b : lens_Prim) (h : pW a ≤ 1099511627776) : diptychlaw13_samePrim a (rP b) = some (decide (a = b)) := by
  have h1 := strsW_n a.Values
  have h2 := strsW_n a.To
  unfold pW at h
  obtain ⟨op, k, n, w, v, t⟩ := a
  obtain ⟨op', k', n', w', v', t'⟩ := b
  simp only at h h1 h2
  unfold diptychlaw13_samePrim rP
  simp only
  rw [sameNames13 v v' (by omega), sameNames13 t t' (by omega)]
  by_cases e1 : op = op'
  · by_cases e2 : k = k'
    · by_cases e3 : n = n'
      · by_cases e4 : w = w'
        · by_cases e5 : v = v' <;> simp [e1, e2, e3, e4, e5]
        · simp [e1, e2, e3, e4]
      · simp [e1, e2, e3]
    · simp [e1, e2]
  · simp [e1]
theorem samePrim_self (a : lens_Prim) (h : pW a ≤ 1099511627776) : diptychlaw13_samePrim a (rP a) = some true := by rw [samePrim_eq a a h]; simp
theorem pW_turn (p : lens_Prim) : pW (turnP p) = pW p := by
  unfold turnP pW
  repeat' split
  all_goals simp only
  all_goals omega
/-- What is in a lens is no greater than it. -/
theorem lflats_w : ∀ (l : List lens_Lens), (∀ x ∈ l, ∀ p ∈ lflat x, pW p ≤ lW x) → ∀ p ∈ lflats l, pW p ≤ lWs l
  | [], _, p, h => by simp [lflats] at h
  | x :: l, hx, p, h => by
    simp only [lflats, List.mem_append] at h
    simp only [lWs]
    rcases h with h | h
    · have := hx x (by simp) p h; omega
    · have := lflats_w l (fun y hy => hx y (by simp [hy])) p h; omega
theorem rt_w {l : List lens_Prim} {b : Nat} (h : ∀ p ∈ l, pW p ≤ b) : ∀ p ∈ rt l, pW p ≤ b := by
  intro p hp
  unfold rt at hp
  obtain ⟨q, hq, rfl⟩ := List.mem_map.1 hp
  rw [pW_turn]
  exact h q (List.mem_reverse.1 hq)
theorem lflat_w (l : lens_Lens) : ∀ p ∈ lflat l, pW p ≤ lW l := by
  induction l using lens_Lens.ind with
  | h l ih =>
    have hwt := lW_eq l
    have hk := lflats_w l.Kids ih
    intro p hp
    rw [lflat_eq] at hp
    split at hp
    · split at hp
      · have := rt_w hk p hp; omega
      · have := hk p hp; omega
    · simp only [List.mem_singleton] at hp
      rw [hp]; omega

/-! ### The reference's Turn -/
def twinA : List UInt8 := [97, 100, 119, 117, 104, 115]
def twinB : List UInt8 := [100, 97, 117, 119, 115, 104]
theorem t2_step (p : diptychref13_Prim) (k : Nat) (op : Int) (i : Nat) (hi : i < 6) : diptychref13_Turn_l2 p (k + 1) op (i : Int) = diptychref13_Turn_l2 p k (if p.Op = ((twinA.getD i 0).toNat : Int) then ((twinB.getD i 0).toNat : Int) else op) ((i + 1 : Nat) : Int) := by
  have e : w64 ((i : Int) + 1) = ((i + 1 : Nat) : Int) := by rw [w64_eq (by omega)]; omega
  have hn : (i : Int).toNat = i := by simp
  rw [diptychref13_Turn_l2, if_pos (by simp; omega), chk_eq (by simp; omega), chk_eq (by simp; omega), e, hn]
  by_cases h : p.Op = ((twinA.getD i 0).toNat : Int)
  · rw [if_pos (by rw [h]; simp [twinA]), if_pos h]
    rfl
  · rw [if_neg (by simpa [twinA] using h), if_neg h]
theorem t2_end (p : diptychref13_Prim) (k : Nat) (op : Int) : diptychref13_Turn_l2 p (k + 1) op 6 = some op := by
  rw [diptychref13_Turn_l2, if_neg (by simp)]
theorem rturn_eq (p : lens_Prim) : diptychref13_Turn (rP p) = some (rP (turnP p)) := by
  have all : ∀ (q : diptychref13_Prim), (lim fun k => diptychref13_Turn_l2 q k q.Op 0) = some (if q.Op = 97 then 100 else if q.Op = 100 then 97 else if q.Op = 119 then 117 else if q.Op = 117 then 119 else if q.Op = 104 then 115 else if q.Op = 115 then 104 else q.Op) := by
    intro q
    refine lim_of 7 fun k hk => ?_
    obtain ⟨k, rfl⟩ : ∃ j, k = j + 1 + 1 + 1 + 1 + 1 + 1 + 1 := ⟨k - 7, by omega⟩
    have c0 : (0 : Int) = ((0 : Nat) : Int) := rfl
    have c6 : ((5 + 1 : Nat) : Int) = 6 := rfl
    rw [c0, t2_step q _ _ 0 (by omega), t2_step q _ _ (0 + 1) (by omega), t2_step q _ _ (0 + 1 + 1) (by omega), t2_step q _ _ (0 + 1 + 1 + 1) (by omega), t2_step q _ _ (0 + 1 + 1 + 1 + 1) (by omega), t2_step q _ _ (0 + 1 + 1 + 1 + 1 + 1) (by omega)]
    show diptychref13_Turn_l2 q (k + 1) (if q.Op = 115 then 104 else if q.Op = 104 then 115 else if q.Op = 117 then 119 else if q.Op = 119 then 117 else if q.Op = 100 then 97 else if q.Op = 97 then 100 else q.Op) 6 = _
    rw [t2_end, Option.some.injEq]
    by_cases h1 : q.Op = 97
    · simp [h1]
    by_cases h2 : q.Op = 100
    · simp [h2]
    by_cases h3 : q.Op = 119
    · simp [h3]
    by_cases h4 : q.Op = 117
    · simp [h4]
    by_cases h5 : q.Op = 104
    · simp [h5]
    by_cases h6 : q.Op = 115
    · simp [h6]
    simp [h1, h2, h3, h4, h5, h6]
  obtain ⟨op, k, n, w, v, t⟩ := p
  unfold diptychref13_Turn rP turnP
  by_cases h1 : op = 114
  · subst h1
    simp only [beq_self_eq_true, if_true, Option.bind_some]
    rw [all]
    rfl
  by_cases h2 : op = 109
  · subst h2
    simp only [beq_self_eq_true, if_true, Option.bind_some]
    rw [if_neg (by decide)]
    simp only [Option.bind_some]
    rw [all]
    rfl
  by_cases h3 : op = 110
  · subst h3
    simp only [beq_self_eq_true, if_true, Option.bind_some]
    rw [if_neg (by decide), if_neg (by decide)]
    simp only [Option.bind_some, if_true]
    rw [all]
    rfl
  have g1 : (op == 114) = false := by simpa using h1
  have g2 : (op == 109) = false := by simpa using h2
  have g3 : (op == 110) = false := by simpa using h3
  simp only [g1, g2, g3, Bool.false_eq_true, if_false, Option.bind_some]
  by_cases h4 : op = 116
  · subst h4
    simp only [beq_self_eq_true, if_true, Option.bind_some]
    rw [all]
    rfl
  have g4 : (op == 116) = false := by simpa using h4
  simp only [g4, Bool.false_eq_true, if_false, Option.bind_some]
  rw [all]
  simp only [Option.bind_some, Option.some.injEq, h1, h2, h3, h4, if_false, false_or]
  by_cases e1 : op = 97
  · simp [e1]
  by_cases e2 : op = 100
  · simp [e2]
  by_cases e3 : op = 119
  · simp [e3]
  by_cases e4 : op = 117
  · simp [e4]
  by_cases e5 : op = 104
  · simp [e5]
  by_cases e6 : op = 115
  · simp [e6]
  simp [e1, e2, e3, e4, e5, e6]

end Go.Proofs.YtpjdafhmneiohaaDoor
