/- maps: the written laws return true. -/
import Derived.Test.YtafcbjepmjcpgaaMapsSpec
namespace Go.Proofs.Ytafcbjepmjcpgaa
set_option linter.unusedSimpArgs false
set_option linter.unusedVariables false
open Go

theorem turned_l0 (pos thr : Int) : ∀ (m : List maps_Range) (i : Int), (∀ r ∈ m, r.ok) →
    (∃ r ∈ m, (r.Pos ≤ pos ∧ pos ≤ r.Pos + r.Old) ∧ diptychlaw10_MapsTurned_l0 pos thr m i = some (.inl (thr == r.Pos || thr == r.Pos + r.Old))) ∨
    ((∀ r ∈ m, ¬ (r.Pos ≤ pos ∧ pos ≤ r.Pos + r.Old)) ∧ diptychlaw10_MapsTurned_l0 pos thr m i = some (.inr ()))
  | [], i, _ => .inr ⟨by simp, by simp [diptychlaw10_MapsTurned_l0]⟩
  | r :: m, i, hok => by
    have h1 := hok r (by simp)
    unfold maps_Range.ok at h1
    rw [diptychlaw10_MapsTurned_l0, w64_eq (by omega)]
    by_cases c : r.Pos ≤ pos ∧ pos ≤ r.Pos + r.Old
    · refine .inl ⟨r, by simp, c, ?_⟩
      by_cases d : thr = r.Pos <;> simp [c.1, c.2, d]
    · have h : (if decide (pos ≥ r.Pos) = true then if decide (pos ≤ r.Pos + r.Old) = true then if (thr == r.Pos) = true then some (Sum.inl true) else some (Sum.inl (thr == r.Pos + r.Old)) else diptychlaw10_MapsTurned_l0 pos thr m (i + 1) else diptychlaw10_MapsTurned_l0 pos thr m (i + 1)) = diptychlaw10_MapsTurned_l0 pos thr m (i + 1) := by
        by_cases c1 : r.Pos ≤ pos
        · have c2 : ¬ pos ≤ r.Pos + r.Old := fun h => c ⟨c1, h⟩
          simp [c1, c2]
        · simp [c1]
      rw [h]
      rcases turned_l0 pos thr m (i + 1) (fun x hx => hok x (by simp [hx])) with ⟨x, hx, h2, h3⟩ | ⟨h2, h3⟩
      · exact .inl ⟨x, by simp [hx], h2, h3⟩
      · refine .inr ⟨fun x hx => ?_, h3⟩
        rcases List.mem_cons.1 hx with rfl | hx
        · exact c
        · exact h2 x hx

theorem mapsTurned_true (m : List maps_Range) (pos : Int) (right : Bool) (hm : m.length ≤ 9223372036854775807) : diptychlaw10_MapsTurned m pos right = some true := by
  unfold diptychlaw10_MapsTurned
  rw [shown10]
  simp only [Option.bind_some, Bool.not_true, Bool.false_eq_true, if_false, decide_eq_true_eq]
  by_cases h1 : (m.length : Int) > 100
  · simp [h1]
  rw [right_eq m hm]
  simp only [h1, if_false, Option.bind_some]
  by_cases h2 : rightG (-1) m = true
  rotate_left
  · simp [h2]
  have hok := rightG_ok m _ h2
  simp only [h2, Bool.not_true, Bool.false_eq_true, if_false]
  by_cases h3 : pos < 0
  · simp [h3]
  by_cases h4 : pos > 33554432
  · simp [h4]
  have hl := turnG_len 0 m
  rw [turn_eq m hok (by omega)]
  simp only [h3, h4, if_false, Option.bind_some]
  rw [right_eq _ (by omega)]
  simp only [Option.bind_some]
  by_cases h5 : rightG (-1) (turnG 0 m) = true
  rotate_left
  · simp [h5]
  have hokt := rightG_ok _ _ h5
  simp only [h5, Bool.not_true, Bool.false_eq_true, if_false]
  rw [thru_eq2 m _ hok hokt (by omega) (by omega) pos (by omega) right]
  simp only [Option.bind_some, chk]
  rw [if_pos (by omega)]
  rcases turned_l0 pos (toM (toM pos right 0 m) right 0 (turnG 0 m)) m 0 hok with ⟨r, hr, c, e⟩ | ⟨hn, e⟩
  · rw [e]
    obtain ⟨pre, suf, rfl⟩ := List.append_of_mem hr
    have hb := back_at right right pos pre suf r (-1) (-1) h2 h5 c.1 c.2
    rw [hb]
    split <;> simp
  · rw [e]
    obtain ⟨pre, suf, rfl, g1, g2⟩ := split_gap pos m _ h2 hn
    obtain ⟨a1, a2, a3, a4⟩ := back_gap right right pos pre suf _ _ h2 h5 g1 g2
    rw [a3, a4]
    simp

/-! ### The reference's maps -/
abbrev asR (r : maps_Range) : diptychref10_Range := ⟨r.Pos, r.Old, r.New⟩

theorem as_l0 : ∀ (m : List maps_Range) (i : Int) (out : List diptychref10_Range), out.length + m.length ≤ 1000000 → diptychlaw10_as_l0 m i out = some (out ++ m.map asR)
  | [], i, out, _ => by simp [diptychlaw10_as_l0]
  | r :: m, i, out, h => by
    simp only [List.length_cons] at h
    rw [diptychlaw10_as_l0]
    simp only [app, List.length_cons, List.length_nil]
    rw [if_pos (by omega)]
    simp only [Option.bind_some]
    rw [as_l0 m _ _ (by simp; omega)]
    simp [asR]

theorem as_eq (m : List maps_Range) (h : m.length ≤ 1000000) : diptychlaw10_as m = some (m.map asR) := by
  unfold diptychlaw10_as chk
  rw [if_pos (by omega), as_l0 m 0 [] (by simpa using h)]
  simp

theorem rd_mid {α : Type} (pre suf : List α) (x : α) : rd (pre ++ x :: suf) (pre.length : Int) = some x := by
  unfold rd
  rw [if_pos (by omega)]
  simp

theorem same_l0 : ∀ (suf pre : List maps_Range) (i : Int) (b : List diptychref10_Range), i = (pre.length : Int) → b = (pre ++ suf).map asR → diptychlaw10_same_l0 b suf i = some (.inr ())
  | [], pre, i, b, _, _ => by simp [diptychlaw10_same_l0]
  | r :: suf, pre, i, b, hi, hb => by
    rw [diptychlaw10_same_l0]
    have : rd b i = some (asR r) := by
      subst hi hb
      have := rd_mid (pre.map asR) (suf.map asR) (asR r)
      simpa using this
    rw [this]
    simp only [Option.bind_some, asR, bne_self_eq_false, Bool.false_eq_true, if_false]
    exact same_l0 suf (pre ++ [r]) _ b (by simp [hi]) (by simp [hb])

theorem same_self (m : List maps_Range) (h : m.length ≤ 9223372036854775807) : diptychlaw10_same m (m.map asR) = some true := by
  unfold diptychlaw10_same chk
  simp only [List.length_map, bne_self_eq_false, Bool.false_eq_true, if_false]
  rw [if_pos h, same_l0 m [] 0 (m.map asR) rfl (by simp)]
  simp

theorem back_l0 (m t : List maps_Range) (pos : Int) (hokm : ∀ r ∈ m, r.ok) (hokt : ∀ r ∈ t, r.ok) (hlm : m.length ≤ 100) (hlt : t.length ≤ 100) : ∀ (s : List maps_Range) (i : Int), (∀ r ∈ s, r.ok) →
    (∃ r ∈ s, (r.Pos ≤ pos ∧ pos ≤ r.Pos + r.Old) ∧ diptychlaw10_MapsBack_l0 m pos t s i = some (.inl (toM (toM r.Pos false 0 m) false 0 t == r.Pos))) ∨
    ((∀ r ∈ s, ¬ (r.Pos ≤ pos ∧ pos ≤ r.Pos + r.Old)) ∧ diptychlaw10_MapsBack_l0 m pos t s i = some (.inr ()))
  | [], i, _ => .inr ⟨by simp, by simp [diptychlaw10_MapsBack_l0]⟩
  | r :: s, i, hok => by
    have h1 := hok r (by simp)
    unfold maps_Range.ok at h1
    have hb := toM_in m hokm 1048576 (by omega) r.Pos (by omega) false 0
    rw [diptychlaw10_MapsBack_l0, w64_eq (by omega), to_eq m hokm (by omega) r.Pos (by omega)]
    simp only [Option.bind_some]
    rw [to_eq t hokt (by omega) _ (by omega)]
    simp only [Option.bind_some, decide_eq_true_eq]
    by_cases c : r.Pos ≤ pos ∧ pos ≤ r.Pos + r.Old
    · refine .inl ⟨r, by simp, c, ?_⟩
      simp [c.1, c.2]
    · have h : ∀ (a b : Option (Bool ⊕ Unit)), (if pos ≥ r.Pos then if pos ≤ r.Pos + r.Old then a else b else b) = b := by
        intro a b
        by_cases c1 : r.Pos ≤ pos
        · have c2 : ¬ pos ≤ r.Pos + r.Old := fun h => c ⟨c1, h⟩
          simp [c1, c2]
        · simp [c1]
      rw [h]
      rcases back_l0 m t pos hokm hokt hlm hlt s (i + 1) (fun x hx => hok x (by simp [hx])) with ⟨x, hx, h2, h3⟩ | ⟨h2, h3⟩
      · exact .inl ⟨x, by simp [hx], h2, h3⟩
      · refine .inr ⟨fun x hx => ?_, h3⟩
        rcases List.mem_cons.1 hx with rfl | hx
        · exact c
        · exact h2 x hx

theorem mapsBack_true (m : List maps_Range) (pos : Int) (hm : m.length ≤ 9223372036854775807) : diptychlaw10_MapsBack m pos = some true := by
  unfold diptychlaw10_MapsBack
  rw [shown10]
  simp only [Option.bind_some, Bool.not_true, Bool.false_eq_true, if_false, decide_eq_true_eq]
  by_cases h1 : (m.length : Int) > 100
  · simp [h1]
  rw [right_eq m hm]
  simp only [h1, if_false, Option.bind_some]
  by_cases h2 : rightG (-1) m = true
  rotate_left
  · simp [h2]
  have hok := rightG_ok m _ h2
  simp only [h2, Bool.not_true, Bool.false_eq_true, if_false]
  by_cases h3 : pos < 0
  · simp [h3]
  by_cases h4 : pos > 33554432
  · simp [h4]
  have hl := turnG_len 0 m
  rw [turn_eq m hok (by omega)]
  simp only [h3, h4, if_false, Option.bind_some]
  rw [right_eq _ (by omega)]
  simp only [Option.bind_some]
  by_cases h5 : rightG (-1) (turnG 0 m) = true
  rotate_left
  · simp [h5]
  have hokt := rightG_ok _ _ h5
  simp only [h5, Bool.not_true, Bool.false_eq_true, if_false]
  have htt : turnG 0 (turnG 0 m) = m := by simpa using turnG_turn 0 m
  have hgr := growsM_le m hok
  rw [turn_eq _ hokt (by omega), htt, as_eq m (by omega)]
  simp only [Option.bind_some]
  rw [same_self m hm, grows_eq _ hokt (by omega), grows_eq m hok (by omega)]
  simp only [Option.bind_some, Bool.not_true, Bool.false_eq_true, if_false]
  rw [w64_eq (by omega), growsM_turn]
  simp only [Int.zero_sub, bne_self_eq_false, Bool.false_eq_true, if_false, chk]
  rw [if_pos hm]
  rcases back_l0 m (turnG 0 m) pos hok hokt (by omega) (by omega) m 0 hok with ⟨r, hr, c, e⟩ | ⟨hn, e⟩
  · rw [e]
    obtain ⟨pre, suf, rfl⟩ := List.append_of_mem hr
    have hro := hok r (by simp)
    unfold maps_Range.ok at hro
    have hb := back_at false false r.Pos pre suf r (-1) (-1) h2 h5 (by omega) (by omega)
    rw [hb]
    have hpre := rightG_ahead pre suf r _ h2
    have e1 := toM_at false r.Pos pre suf r hpre (by omega) (by omega)
    have e2 : side r r.Pos false = false := by simp [side]
    rw [e2] at e1
    simp only [Bool.false_eq_true, if_false] at e1
    rw [e1]
    have e3 : side ⟨r.Pos + growsM pre, r.New, r.Old⟩ (r.Pos + growsM pre) false = false := by simp [side]
    rw [e3]
    simp
  · rw [e]
    obtain ⟨pre, suf, rfl, g1, g2⟩ := split_gap pos m _ h2 hn
    obtain ⟨a1, a2, a3, a4⟩ := back_gap false false pos pre suf _ _ h2 h5 g1 g2
    obtain ⟨b1, b2, b3, b4⟩ := back_gap true true pos pre suf _ _ h2 h5 g1 g2
    have hg := growsM_le pre fun x hx => hok x (by simp [hx])
    have hlp : pre.length ≤ 100 := by simp at h1; omega
    simp only [Option.bind_some]
    rw [to_eq _ hok (by omega) pos (by omega), to_eq _ hok (by omega) pos (by omega), a3, b3]
    simp only [Option.bind_some, beq_self_eq_true, if_true]
    rw [to_eq _ hokt (by omega) _ (by omega), to_eq _ hokt (by omega) _ (by omega), a4, b4]
    simp only [Option.bind_some, beq_self_eq_true, if_true]
    rw [lost_eq _ hok (by omega), lost_eq _ hokt (by omega), lostM_gap pos pre suf g1 g2]
    have : lostM (pos + growsM pre) (turnG 0 (pre ++ suf)) = false := by
      rw [turnG_app, Int.zero_add]
      exact lostM_gap _ _ _ a1 a2
    rw [this]
    simp

theorem mapsStay_true (x : maps_Range) (pos : Int) : diptychlaw10_MapsStay x pos = some true := by
  unfold diptychlaw10_MapsStay
  rw [shown10, right_eq [x] (by simp)]
  simp only [Option.bind_some, Bool.not_true, Bool.false_eq_true, if_false, decide_eq_true_eq]
  by_cases h2 : rightG (-1) [x] = true
  rotate_left
  · simp [h2]
  have hok := rightG_ok _ _ h2
  have hx := hok x (by simp)
  have hx' := hx
  unfold maps_Range.ok at hx'
  simp only [h2, Bool.not_true, Bool.false_eq_true, if_false]
  by_cases h3 : pos < 0
  · simp [h3]
  by_cases h4 : pos > 33554432
  · simp [h4]
  have hn : ∀ r ∈ ([] : List maps_Range), r.ok := by simp
  rw [to_eq [] hn (by simp) pos (by omega), to_eq [] hn (by simp) pos (by omega), lost_eq [] hn (by simp), grows_eq [] hn (by simp), turn_eq [] hn (by simp), right_eq [] (by simp),
    to_eq [x] hok (by simp) pos (by omega), to_eq [x] hok (by simp) pos (by omega), lost_eq [x] hok (by simp), grows_eq [x] hok (by simp)]
  rw [w64_eq (x := x.Pos + x.Old) (by omega), w64_eq (x := pos + x.New) (by omega), w64_eq (x := pos + x.New - x.Old) (by omega), w64_eq (x := x.New - x.Old) (by omega)]
  simp only [h3, h4, if_false, Option.bind_some, toM, lostM, growsM, turnG, rightG, List.any_nil, List.any_cons, List.length_nil, Int.add_zero, bne_self_eq_false, Bool.false_eq_true, Int.zero_add, Bool.not_true, Bool.or_false, Int.natCast_zero, Int.ofNat_zero]
  by_cases c1 : pos < x.Pos
  · have d1 : ¬ x.Pos + x.Old < pos := by omega
    have d2 : x.Pos > pos := c1
    have d3 : ¬ x.Pos < pos := by omega
    simp [c1, d1, d3]
  · by_cases c2 : pos > x.Pos + x.Old
    · have d1 : x.Pos + x.Old < pos := c2
      have d2 : ¬ pos < x.Pos + x.Old := by omega
      simp [c1, d1, d2]
      omega
    · have d1 : ¬ x.Pos + x.Old < pos := by omega
      have d2 : ¬ x.Pos > pos := by omega
      simp only [c1, c2, d1, d2, if_false]
      have key : ∀ b : Bool, (if side x pos b = true then x.Pos + x.New else x.Pos) = x.Pos ∨ (if side x pos b = true then x.Pos + x.New else x.Pos) = x.Pos + x.New := by
        intro b; split <;> simp
      have k1 := key false
      have k2 := key true
      generalize (if side x pos false = true then x.Pos + x.New else x.Pos) = l at k1
      generalize (if side x pos true = true then x.Pos + x.New else x.Pos) = r at k2
      have inner : (if pos > x.Pos then
            if (((decide (x.Pos < pos) && decide (pos < x.Pos + x.Old)) == decide (pos < x.Pos + x.Old)) != false) = true then some (x.New - x.Old == x.New - x.Old) else some false
          else
            if (((decide (x.Pos < pos) && decide (pos < x.Pos + x.Old)) == false) != false) = true then some (x.New - x.Old == x.New - x.Old) else some false) = some true := by
        by_cases e : x.Pos < pos <;> simp [e]
      simp only [inner]
      rw [w64_eq (by omega)]
      rcases k1 with rfl | rfl <;> rcases k2 with rfl | rfl <;> simp <;> split <;> simp_all

/-! ### The reference answers alike -/
theorem refGrows_l0 : ∀ (m : List maps_Range) (i n : Int), (∀ r ∈ m, r.ok) → -4611686018427387904 ≤ n - 2097152 * m.length ∧ n + 2097152 * m.length ≤ 4611686018427387904 → diptychref10_Grows_l0 (m.map asR) i n = some (n + growsM m)
  | [], i, n, _, _ => by simp [diptychref10_Grows_l0, growsM]
  | r :: m, i, n, hok, hb => by
    have h1 := hok r (by simp)
    unfold maps_Range.ok at h1
    simp only [List.length_cons] at hb
    rw [List.map_cons, diptychref10_Grows_l0]
    simp only [asR]
    rw [w64_eq (x := n + r.New) (by omega), w64_eq (by omega), refGrows_l0 m _ _ (fun x hx => hok x (by simp [hx])) (by omega)]
    simp only [growsM, Option.some.injEq]
    omega

theorem refGrows_eq (m : List maps_Range) (hok : ∀ r ∈ m, r.ok) (hl : m.length ≤ 1000000) : diptychref10_Grows (m.map asR) = some (growsM m) := by
  unfold diptychref10_Grows chk
  rw [if_pos (by simp; omega), refGrows_l0 m _ _ hok (by omega)]
  simp

theorem refTurn_l0 : ∀ (suf pre : List maps_Range) (out : List diptychref10_Range) (m : List maps_Range) (i : Int), m = pre ++ suf → i = (pre.length : Int) → (∀ r ∈ m, r.ok) → m.length ≤ 1000000 → out.length = pre.length →
    diptychref10_Turn_l0 (m.map asR) (suf.map asR) i out = some (out ++ (turnG (growsM pre) suf).map asR)
  | [], pre, out, m, i, _, _, _, _, _ => by simp [diptychref10_Turn_l0, turnG]
  | r :: suf, pre, out, m, i, hm, hi, hok, hl, ho => by
    have h1 := hok r (by simp [hm])
    unfold maps_Range.ok at h1
    have hpre : ∀ r ∈ pre, r.ok := fun x hx => hok x (by simp [hm, hx])
    have hlen : m.length = pre.length + suf.length + 1 := by simp [hm]; omega
    have hg := growsM_le pre hpre
    rw [List.map_cons, diptychref10_Turn_l0]
    subst hi
    have hs : sl (m.map asR) 0 (pre.length : Int) = some (pre.map asR) := by
      have := sl_pre (pre.map asR) ((r :: suf).map asR)
      rw [hm, List.map_append]
      simpa using this
    rw [hs]
    simp only [Option.bind_some]
    rw [refGrows_eq pre hpre (by omega)]
    simp only [Option.bind_some, app, List.length_cons, List.length_nil, asR]
    rw [if_pos (by omega)]
    simp only [Option.bind_some]
    rw [w64_eq (by omega)]
    have := refTurn_l0 suf (pre ++ [r]) (out ++ [{ Pos := r.Pos + growsM pre, Old := r.New, New := r.Old }]) m ((pre.length : Int) + 1) (by simp [hm]) (by simp) hok hl (by simp [ho])
    rw [this]
    simp [turnG, growsM_app, growsM, asR]

theorem refTurn_eq (m : List maps_Range) (hok : ∀ r ∈ m, r.ok) (hl : m.length ≤ 1000000) : diptychref10_Turn (m.map asR) = some ((turnG 0 m).map asR) := by
  unfold diptychref10_Turn chk
  rw [if_pos (by simp; omega), refTurn_l0 m [] [] m 0 rfl rfl hok hl rfl]
  simp [growsM]

theorem refRight_l0 (M : List diptychref10_Range) : ∀ (suf : List maps_Range) (i last : Int), 0 ≤ i → i + suf.length ≤ 1000000 → (∀ (j : Nat) r, suf[j]? = some r → rd M (i + j) = some (asR r)) →
    ((i = 0 ∧ last = -1) ∨ (0 < i ∧ ∃ p : maps_Range, p.ok ∧ last = p.Pos + p.Old ∧ rd M (i - 1) = some (asR p))) →
    diptychref10_Right_l0 M (suf.map asR) i = some (if rightG last suf = true then .inr () else .inl false)
  | [], i, last, _, _, _, _ => by simp [diptychref10_Right_l0, rightG]
  | r :: suf, i, last, hi0, hil, hM, hc => by
    rw [List.map_cons, diptychref10_Right_l0]
    simp only [asR]
    simp only [decide_eq_true_eq]
    simp only [List.length_cons] at hil
    by_cases hr : r.ok
    · have hr' := hr
      unfold maps_Range.ok at hr'
      have ih := refRight_l0 M suf (i + 1) (r.Pos + r.Old) (by omega) (by omega) (fun j x hx => by
        have := hM (j + 1) x (by simpa using hx)
        rw [show i + 1 + (j : Int) = i + ((j + 1 : Nat) : Int) by omega]
        exact this) (.inr ⟨by omega, r, hr, rfl, by
          have := hM 0 r rfl
          rw [show i + 1 - 1 = i + ((0 : Nat) : Int) by omega]
          exact this⟩)
      rw [if_neg (by omega), if_neg (by omega), if_neg (by omega), if_neg (by omega), if_neg (by omega), if_neg (by omega), w64_eq (x := r.Old + r.New) (by omega), if_neg (by simp only [beq_iff_eq]; omega), w64_eq (x := i - 1) (by omega)]
      rcases hc with ⟨h1, h2⟩ | ⟨h1, p, hp, h2, h3⟩
      · rw [if_neg (by omega), ih]
        have : last < r.Pos := by omega
        simp [rightG, hr, this]
      · rw [if_pos (by omega), h3]
        unfold maps_Range.ok at hp
        simp only [Option.bind_some, asR, decide_eq_true_eq]
        rw [w64_eq (by omega), ← h2]
        by_cases h4 : r.Pos ≤ last
        · rw [if_pos h4]
          simp [rightG, Int.not_lt.2 h4]
        · rw [if_neg h4, ih]
          simp [rightG, hr, Int.not_le.1 h4]
    · have hf : rightG last (r :: suf) = false := by simp [rightG, hr]
      rw [hf]
      unfold maps_Range.ok at hr
      by_cases a1 : r.Pos < 0
      · simp [a1]
      by_cases a2 : r.Old < 0
      · simp [a1, a2]
      by_cases a3 : r.New < 0
      · simp [a1, a2, a3]
      by_cases a4 : r.Pos > 1048576
      · simp [a1, a2, a3, a4]
      by_cases a5 : r.Old > 1048576
      · simp [a1, a2, a3, a4, a5]
      by_cases a6 : r.New > 1048576
      · simp [a1, a2, a3, a4, a5, a6]
      have a7 : r.Old + r.New = 0 := by omega
      rw [a7]
      simp [a1, a2, a3, a4, a5, a6, w64_eq]

theorem refRight_eq (m : List maps_Range) (hl : m.length ≤ 100) : diptychref10_Right (m.map asR) = some (rightG (-1) m) := by
  unfold diptychref10_Right chk
  rw [if_pos (by simp; omega), refRight_l0 (m.map asR) m 0 (-1) (by omega) (by omega) (fun j r hr => by
    unfold rd
    rw [if_pos (by omega)]
    simp [hr]) (.inl ⟨rfl, rfl⟩)]
  by_cases h : rightG (-1) m = true <;> simp [h]

theorem refAt_l0 (pos : Int) : ∀ (suf : List maps_Range) (i : Int), (∀ r ∈ suf, r.ok) →
    (∃ pre r s, suf = pre ++ r :: s ∧ (r.Pos ≤ pos ∧ pos ≤ r.Pos + r.Old) ∧ diptychref10_at_l0 pos (suf.map asR) i = some (.inl (i + pre.length))) ∨
    ((∀ r ∈ suf, ¬ (r.Pos ≤ pos ∧ pos ≤ r.Pos + r.Old)) ∧ diptychref10_at_l0 pos (suf.map asR) i = some (.inr ()))
  | [], i, _ => .inr ⟨by simp, by simp [diptychref10_at_l0]⟩
  | r :: suf, i, hok => by
    have h1 := hok r (by simp)
    unfold maps_Range.ok at h1
    rw [List.map_cons, diptychref10_at_l0]
    simp only [asR]
    simp only [decide_eq_true_eq]
    rw [w64_eq (by omega)]
    by_cases c : r.Pos ≤ pos ∧ pos ≤ r.Pos + r.Old
    · exact .inl ⟨[], r, suf, rfl, c, by simp [c.1, c.2]⟩
    · have h : ∀ (a b : Option (Int ⊕ Unit)), (if pos ≥ r.Pos then if pos ≤ r.Pos + r.Old then a else b else b) = b := by
        intro a b
        by_cases c1 : r.Pos ≤ pos
        · have c2 : ¬ pos ≤ r.Pos + r.Old := fun h => c ⟨c1, h⟩
          simp [c1, c2]
        · simp [c1]
      rw [h]
      rcases refAt_l0 pos suf (i + 1) (fun x hx => hok x (by simp [hx])) with ⟨pre, x, s, e1, e2, e3⟩ | ⟨h2, h3⟩
      · refine .inl ⟨r :: pre, x, s, by simp [e1], e2, ?_⟩
        rw [e3]
        simp only [List.length_cons, Option.some.injEq, Sum.inl.injEq]
        omega
      · refine .inr ⟨fun x hx => ?_, h3⟩
        rcases List.mem_cons.1 hx with rfl | hx
        · exact c
        · exact h2 x hx

theorem refTo_l0 (pos : Int) (suf : List maps_Range) (hsuf : ∀ x ∈ suf, pos < x.Pos) : ∀ (pre : List maps_Range) (i : Int), (∀ x ∈ pre, x.Pos < pos) → diptychref10_To_l0 pos ((pre ++ suf).map asR) i = some (i + pre.length)
  | [], i, _ => by
    cases suf with
    | nil => simp [diptychref10_To_l0]
    | cons r suf =>
      have h := hsuf r (by simp)
      have h' : ¬ r.Pos < pos := by omega
      simp [diptychref10_To_l0, asR, h']
  | r :: pre, i, h => by
    have h1 := h r (by simp)
    rw [List.cons_append, List.map_cons, diptychref10_To_l0]
    simp only [asR, h1, decide_true, if_true]
    have := refTo_l0 pos suf hsuf pre (i + 1) fun x hx => h x (by simp [hx])
    rw [this]
    simp only [List.length_cons, Option.some.injEq]
    omega

theorem rd_as (pre suf : List maps_Range) (r : maps_Range) : rd ((pre ++ r :: suf).map asR) (pre.length : Int) = some (asR r) := by
  have := rd_mid (pre.map asR) (suf.map asR) (asR r)
  simpa using this
theorem sl_as (pre suf : List maps_Range) : sl ((pre ++ suf).map asR) 0 (pre.length : Int) = some (pre.map asR) := by
  have := sl_pre (pre.map asR) (suf.map asR)
  simpa using this

theorem refTo_eq (m : List maps_Range) (hr : rightG (-1) m = true) (hl : m.length ≤ 100) (pos : Int) (hp : -1073741824 ≤ pos ∧ pos ≤ 1073741824) (right : Bool) : diptychref10_To (m.map asR) pos right = some (toM pos right 0 m) := by
  have hok := rightG_ok m _ hr
  unfold diptychref10_To diptychref10_at chk
  rw [if_pos (by simp; omega)]
  rcases refAt_l0 pos m 0 hok with ⟨pre, r, s, rfl, c, e⟩ | ⟨hn, e⟩
  · rw [e]
    have h0 : ¬ ((pre.length : Int) < 0) := by omega
    simp only [Option.bind_some, Int.zero_add, decide_eq_true_eq, h0, if_false]
    have hro := hok r (by simp)
    unfold maps_Range.ok at hro
    have hpok : ∀ r ∈ pre, r.ok := fun x hx => hok x (by simp [hx])
    have hg := growsM_le pre hpok
    have hlp : pre.length ≤ 100 := by simp at hl; omega
    have hpre := fun x hx => Int.lt_of_lt_of_le (rightG_ahead pre s r _ hr x hx) c.1
    rw [rd_as, sl_as, toM_at right pos pre s r hpre c.1 c.2]
    simp only [Option.bind_some, asR]
    rw [refGrows_eq pre hpok (by omega)]
    rw [w64_eq (x := r.Pos + r.Old) (by omega)]
    simp only [Option.bind_some]
    rw [w64_eq (x := r.Pos + growsM pre) (by omega), w64_eq (by omega)]
    by_cases d1 : r.Old = 0
    · have d2 : ¬ r.Old > 0 := by omega
      simp only [d2, if_false, Option.bind_some, side, d1, if_true]
      cases right <;> simp
    · have d2 : r.Old > 0 := by omega
      simp only [d2, if_true, side, d1, if_false]
      by_cases d3 : pos = r.Pos
      · have d4 : ¬ r.Pos = r.Pos + r.Old := by omega
        simp [d3, d4]
      · by_cases d4 : pos = r.Pos + r.Old
        · have d5 : ¬ r.Pos + r.Old = r.Pos := by omega
          simp [d4, d5]
        · cases right <;> simp [d3, d4]
  · rw [e]
    obtain ⟨pre, suf, rfl, g1, g2⟩ := split_gap pos m _ hr hn
    have hpok : ∀ r ∈ pre, r.ok := fun x hx => hok x (by simp [hx])
    have hg := growsM_le pre hpok
    have hlp : pre.length ≤ 100 := by simp at hl; omega
    simp only [Option.bind_some, decide_eq_true_eq]
    rw [if_pos (by omega), if_pos (by simp only [List.length_map]; omega), refTo_l0 pos suf g2 pre 0 (fun x hx => by have := g1 x hx; have := hpok x hx; unfold maps_Range.ok at this; omega)]
    simp only [Option.bind_some, Int.zero_add]
    rw [sl_as]
    simp only [Option.bind_some]
    rw [refGrows_eq pre hpok (by omega), toM_gap right pos pre suf _ hr g1 g2]
    simp only [Option.bind_some]
    rw [w64_eq (by omega)]

theorem refLost_eq (m : List maps_Range) (hr : rightG (-1) m = true) (hl : m.length ≤ 100) (pos : Int) : diptychref10_Lost (m.map asR) pos = some (lostM pos m) := by
  have hok := rightG_ok m _ hr
  unfold diptychref10_Lost diptychref10_at chk
  rw [if_pos (by simp; omega)]
  rcases refAt_l0 pos m 0 hok with ⟨pre, r, s, rfl, c, e⟩ | ⟨hn, e⟩
  · rw [e]
    have h0 : (pre.length : Int) ≥ 0 := by omega
    have hro := hok r (by simp)
    unfold maps_Range.ok at hro
    have hpre := fun x hx => Int.lt_of_lt_of_le (rightG_ahead pre s r _ hr x hx) c.1
    simp only [Option.bind_some, Int.zero_add, decide_eq_true_eq, h0, if_true]
    rw [rd_as, lostM_at pos pre s r _ hr hpre c.2]
    simp only [Option.bind_some, asR]
    rw [w64_eq (by omega)]
    by_cases d : r.Pos < pos <;> simp [d]
  · rw [e]
    obtain ⟨pre, suf, rfl, g1, g2⟩ := split_gap pos m _ hr hn
    rw [lostM_gap pos pre suf g1 g2]
    simp

theorem mapsTell_true (m : List maps_Range) (pos : Int) (right : Bool) (hm : m.length ≤ 9223372036854775807) : diptychlaw10_MapsTell m pos right = some true := by
  unfold diptychlaw10_MapsTell
  rw [shown10]
  simp only [Option.bind_some, Bool.not_true, Bool.false_eq_true, if_false, decide_eq_true_eq]
  by_cases h1 : (m.length : Int) > 100
  · simp [h1]
  rw [right_eq m hm, as_eq m (by omega)]
  simp only [h1, if_false, Option.bind_some]
  rw [refRight_eq m (by omega)]
  simp only [Option.bind_some]
  by_cases h2 : rightG (-1) m = true
  rotate_left
  · simp [h2]
  have hok := rightG_ok m _ h2
  simp only [h2, beq_self_eq_true, bne_self_eq_false, Bool.not_true, Bool.false_eq_true, if_false]
  by_cases h3 : pos > 1073741824
  · simp [h3]
  by_cases h4 : pos < -1073741824
  · simp [h4]
  have hl := turnG_len 0 m
  rw [grows_eq m hok (by omega), refGrows_eq m hok (by omega), turn_eq m hok (by omega), refTurn_eq m hok (by omega), to_eq m hok (by omega) pos (by omega), refTo_eq m h2 (by omega) pos (by omega), lost_eq m hok hm, refLost_eq m h2 (by omega)]
  simp only [h3, h4, if_false, Option.bind_some, beq_self_eq_true, if_true]
  rw [same_self _ (by omega)]
  simp

end Go.Proofs.Ytafcbjepmjcpgaa
