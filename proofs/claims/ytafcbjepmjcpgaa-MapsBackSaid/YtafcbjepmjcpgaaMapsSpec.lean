/- maps, plainly: what its functions answer, and laws of that. -/
import Derived.Test.YtafcbjepmjcpgaaAgF
namespace Go.Proofs.Ytafcbjepmjcpgaa
set_option linter.unusedSimpArgs false
set_option linter.unusedVariables false
open Go

def maps_Range.ok (r : maps_Range) : Prop := 0 ≤ r.Pos ∧ 0 ≤ r.Old ∧ 0 ≤ r.New ∧ r.Pos ≤ 1048576 ∧ r.Old ≤ 1048576 ∧ r.New ≤ 1048576 ∧ r.Old + r.New ≠ 0
instance (r : maps_Range) : Decidable r.ok := inferInstanceAs (Decidable (_ ∧ _))

def rightG (last : Int) : List maps_Range → Bool
  | [] => true
  | r :: m => decide r.ok && decide (last < r.Pos) && rightG (r.Pos + r.Old) m

def growsM : List maps_Range → Int
  | [] => 0
  | r :: m => r.New - r.Old + growsM m

def side (r : maps_Range) (pos : Int) (right : Bool) : Bool := if r.Old = 0 then right else if pos = r.Pos then false else right || (pos == r.Pos + r.Old)

def toM (pos : Int) (right : Bool) : Int → List maps_Range → Int
  | sh, [] => pos + sh
  | sh, r :: m => if r.Pos + r.Old < pos then toM pos right (sh + (r.New - r.Old)) m else if r.Pos > pos then pos + sh else if side r pos right then r.Pos + sh + r.New else r.Pos + sh

def lostM (pos : Int) (m : List maps_Range) : Bool := m.any fun r => decide (r.Pos < pos) && decide (pos < r.Pos + r.Old)

def turnG : Int → List maps_Range → List maps_Range
  | _, [] => []
  | g, r :: m => ⟨r.Pos + g, r.New, r.Old⟩ :: turnG (g + (r.New - r.Old)) m

def thruM (right : Bool) : Int → List (List maps_Range) → Int
  | pos, [] => pos
  | pos, m :: l => thruM right (toM pos right 0 m) l

theorem ok_at {pre suf : List maps_Range} {r : maps_Range} (h : ∀ r ∈ pre ++ r :: suf, r.ok) : r.ok := h r (by simp)

theorem growsM_app (a b : List maps_Range) : growsM (a ++ b) = growsM a + growsM b := by
  induction a with
  | nil => simp [growsM]
  | cons r a ih => simp [growsM, ih]; omega

theorem growsM_le (m : List maps_Range) (hok : ∀ r ∈ m, r.ok) : -(1048576 * (m.length : Int)) ≤ growsM m ∧ growsM m ≤ 1048576 * (m.length : Int) := by
  induction m with
  | nil => simp [growsM]
  | cons r m ih =>
    have h1 := hok r (by simp)
    have h2 := ih fun x hx => hok x (by simp [hx])
    unfold maps_Range.ok at h1
    simp [growsM]
    omega

theorem toM_in (m : List maps_Range) (hok : ∀ r ∈ m, r.ok) (B : Int) (hB : 0 ≤ B) (pos : Int) (hp : -B ≤ pos ∧ pos ≤ B) (right : Bool) : ∀ sh, -B + sh - 1048576 * (m.length : Int) ≤ toM pos right sh m ∧ toM pos right sh m ≤ B + sh + 1048576 * (m.length + 1 : Int) := by
  induction m with
  | nil => intro sh; simp [toM]; omega
  | cons r m ih =>
    intro sh
    have h1 := hok r (by simp)
    have h2 := ih (fun x hx => hok x (by simp [hx])) (sh + (r.New - r.Old))
    unfold maps_Range.ok at h1
    simp only [toM, List.length_cons]
    split
    · omega
    · split
      · omega
      · split <;> omega

theorem rightG_ok : ∀ (m : List maps_Range) (last : Int), rightG last m = true → ∀ r ∈ m, r.ok
  | [], _, _ => by simp
  | r :: m, last, h => by
    simp only [rightG, Bool.and_eq_true, decide_eq_true_eq] at h
    intro x hx
    rcases List.mem_cons.1 hx with rfl | hx
    · exact h.1.1
    · exact rightG_ok m _ h.2 x hx

theorem rightG_cons {last : Int} {r : maps_Range} {m : List maps_Range} (h : rightG last (r :: m) = true) : r.ok ∧ last < r.Pos ∧ rightG (r.Pos + r.Old) m = true := by
  simp only [rightG, Bool.and_eq_true, decide_eq_true_eq] at h
  exact ⟨h.1.1, h.1.2, h.2⟩

theorem toM_lo (right : Bool) (pos : Int) : ∀ (m : List maps_Range) (last sh : Int), rightG last m = true → last < pos → last + 1 + sh ≤ toM pos right sh m
  | [], last, sh, _, h => by simp only [toM]; omega
  | r :: m, last, sh, hr, h => by
    obtain ⟨h1, h2, h3⟩ := rightG_cons hr
    unfold maps_Range.ok at h1
    simp only [toM]
    split
    · have := toM_lo right pos m (r.Pos + r.Old) (sh + (r.New - r.Old)) h3 (by omega)
      omega
    · split
      · omega
      · split <;> omega

theorem toM_mono (right : Bool) (p q : Int) (hpq : p ≤ q) : ∀ (m : List maps_Range) (last sh : Int), rightG last m = true → toM p right sh m ≤ toM q right sh m
  | [], last, sh, _ => by simp only [toM]; omega
  | r :: m, last, sh, hr => by
    obtain ⟨h1, h2, h3⟩ := rightG_cons hr
    unfold maps_Range.ok at h1
    simp only [toM]
    by_cases c1 : r.Pos + r.Old < p
    · rw [if_pos c1, if_pos (show r.Pos + r.Old < q by omega)]
      exact toM_mono right p q hpq m _ _ h3
    · rw [if_neg c1]
      by_cases c2 : r.Pos + r.Old < q
      · rw [if_pos c2]
        have := toM_lo right q m (r.Pos + r.Old) (sh + (r.New - r.Old)) h3 c2
        split
        · omega
        · split <;> omega
      · rw [if_neg c2]
        by_cases c3 : r.Pos > p
        · rw [if_pos c3]
          split
          · omega
          · split <;> omega
        · rw [if_neg c3, if_neg (show ¬ r.Pos > q by omega)]
          by_cases c4 : side r p right = true
          · have c5 : side r q right = true := by
              simp only [side] at c4 ⊢
              split
              · rename_i hz; rw [if_pos hz] at c4; exact c4
              · rename_i hz
                rw [if_neg hz] at c4
                split at c4
                · cases c4
                · rw [if_neg (show ¬ q = r.Pos by omega)]
                  simp only [Bool.or_eq_true, beq_iff_eq] at c4 ⊢
                  rcases c4 with c4 | c4
                  · exact .inl c4
                  · exact .inr (by omega)
            rw [if_pos c4, if_pos c5]
            omega
          · rw [if_neg c4]
            split <;> omega

theorem toM_lr (p : Int) : ∀ (m : List maps_Range) (last sh : Int), rightG last m = true → toM p false sh m ≤ toM p true sh m
  | [], last, sh, _ => by simp only [toM]; omega
  | r :: m, last, sh, hr => by
    obtain ⟨h1, h2, h3⟩ := rightG_cons hr
    unfold maps_Range.ok at h1
    simp only [toM]
    split
    · exact toM_lr p m _ _ h3
    · split
      · omega
      · have : side r p false = true → side r p true = true := by
          simp only [side]
          split
          · intro h; cases h
          · split
            · intro h; cases h
            · simp
        by_cases c : side r p false = true
        · rw [if_pos c, if_pos (this c)]; omega
        · rw [if_neg c]; split <;> omega

theorem toM_end (right : Bool) (e : Int) : ∀ (m : List maps_Range) (sh : Int), (∀ r ∈ m, r.Pos + r.Old < e) → toM e right sh m = e + sh + growsM m
  | [], sh, _ => by simp [toM, growsM]
  | r :: m, sh, h => by
    simp only [toM, growsM, if_pos (h r (by simp))]
    rw [toM_end right e m _ fun x hx => h x (by simp [hx])]
    omega

theorem toM_skip (right : Bool) (pos : Int) : ∀ (pre suf : List maps_Range) (sh : Int), (∀ r ∈ pre, r.Pos + r.Old < pos) → toM pos right sh (pre ++ suf) = toM pos right (sh + growsM pre) suf
  | [], suf, sh, _ => by simp [growsM]
  | r :: pre, suf, sh, h => by
    simp only [List.cons_append, toM, if_pos (h r (by simp)), growsM]
    rw [toM_skip right pos pre suf _ fun x hx => h x (by simp [hx])]
    congr 1
    omega

/-- Behind a range all others lie behind it. -/
theorem rightG_after : ∀ (m : List maps_Range) (last : Int), rightG last m = true → ∀ r ∈ m, last < r.Pos
  | [], _, _ => by simp
  | r :: m, last, h => by
    obtain ⟨h1, h2, h3⟩ := rightG_cons h
    unfold maps_Range.ok at h1
    intro x hx
    rcases List.mem_cons.1 hx with rfl | hx
    · exact h2
    · have := rightG_after m _ h3 x hx
      omega

theorem rightG_suf : ∀ (pre suf : List maps_Range) (last : Int), rightG last (pre ++ suf) = true → ∃ last', rightG last' suf = true
  | [], suf, last, h => ⟨last, h⟩
  | r :: pre, suf, last, h => rightG_suf pre suf _ (rightG_cons h).2.2

theorem lostM_at (pos : Int) (pre suf : List maps_Range) (r : maps_Range) (last : Int) (h : rightG last (pre ++ r :: suf) = true) (hpre : ∀ x ∈ pre, x.Pos + x.Old < pos) (hr : pos ≤ r.Pos + r.Old) : lostM pos (pre ++ r :: suf) = (decide (r.Pos < pos) && decide (pos < r.Pos + r.Old)) := by
  obtain ⟨last', h'⟩ := rightG_suf pre _ _ h
  have h3 := rightG_after suf _ (rightG_cons h').2.2
  have e1 : pre.any (fun r => decide (r.Pos < pos) && decide (pos < r.Pos + r.Old)) = false := by
    rw [List.any_eq_false]
    intro x hx
    have := hpre x hx
    simp only [Bool.and_eq_true, decide_eq_true_eq]
    omega
  have e2 : suf.any (fun r => decide (r.Pos < pos) && decide (pos < r.Pos + r.Old)) = false := by
    rw [List.any_eq_false]
    intro x hx
    have := h3 x hx
    simp only [Bool.and_eq_true, decide_eq_true_eq]
    omega
  simp only [lostM, List.any_append, List.any_cons, e1, e2, Bool.false_or, Bool.or_false]

theorem toM_at (right : Bool) (pos : Int) (pre suf : List maps_Range) (r : maps_Range) (hpre : ∀ x ∈ pre, x.Pos + x.Old < pos) (h1 : r.Pos ≤ pos) (h2 : pos ≤ r.Pos + r.Old) : toM pos right 0 (pre ++ r :: suf) = if side r pos right = true then r.Pos + growsM pre + r.New else r.Pos + growsM pre := by
  rw [toM_skip right pos pre _ 0 hpre]
  simp only [toM, if_neg (show ¬ r.Pos + r.Old < pos by omega), if_neg (show ¬ r.Pos > pos by omega), Int.zero_add]

theorem toM_gap (right : Bool) (pos : Int) (pre suf : List maps_Range) (last : Int) (h : rightG last (pre ++ suf) = true) (hpre : ∀ x ∈ pre, x.Pos + x.Old < pos) (hsuf : ∀ x ∈ suf, pos < x.Pos) : toM pos right 0 (pre ++ suf) = pos + growsM pre := by
  rw [toM_skip right pos pre _ 0 hpre]
  cases suf with
  | nil => simp [toM]
  | cons r suf =>
    obtain ⟨last', h'⟩ := rightG_suf pre _ _ h
    have h1 := (rightG_cons h').1
    have h2 := hsuf r (by simp)
    unfold maps_Range.ok at h1
    simp only [toM, if_neg (show ¬ r.Pos + r.Old < pos by omega), if_pos (show r.Pos > pos by omega), Int.zero_add]

theorem turnG_app (g : Int) (a b : List maps_Range) : turnG g (a ++ b) = turnG g a ++ turnG (g + growsM a) b := by
  induction a generalizing g with
  | nil => simp [turnG, growsM]
  | cons r a ih =>
    simp only [List.cons_append, turnG, growsM, ih, List.cons.injEq, true_and]
    congr 2
    omega

theorem turnG_len (g : Int) (m : List maps_Range) : (turnG g m).length = m.length := by
  induction m generalizing g with
  | nil => rfl
  | cons r m ih => simp [turnG, ih]

theorem growsM_turn (g : Int) (m : List maps_Range) : growsM (turnG g m) = -growsM m := by
  induction m generalizing g with
  | nil => rfl
  | cons r m ih => simp only [turnG, growsM, ih]; omega

theorem turnG_turn (g : Int) (m : List maps_Range) : turnG (-g) (turnG g m) = m := by
  induction m generalizing g with
  | nil => rfl
  | cons r m ih =>
    simp only [turnG]
    have := ih (g + (r.New - r.Old))
    rw [show -g + (r.Old - r.New) = -(g + (r.New - r.Old)) by omega, this]
    congr 1
    cases r
    simp only [maps_Range.mk.injEq, and_true, true_and]
    omega

/-- Turned ranges that lay ahead of a position lie ahead of where it goes. -/
theorem turn_ahead (pos : Int) : ∀ (pre : List maps_Range) (g last : Int), rightG last (turnG g pre) = true → (∀ r ∈ pre, r.Pos + r.Old < pos) → ∀ x ∈ turnG g pre, x.Pos + x.Old < pos + g + growsM pre
  | [], g, last, _, _ => by simp [turnG]
  | r :: pre, g, last, hr, h => by
    simp only [turnG] at hr ⊢
    obtain ⟨h1, h2, h3⟩ := rightG_cons hr
    have ih := turn_ahead pos pre _ _ h3 fun x hx => h x (by simp [hx])
    have h0 := h r (by simp)
    intro x hx
    rcases List.mem_cons.1 hx with rfl | hx
    · cases pre with
      | nil => simp only [growsM]; omega
      | cons s pre =>
        simp only [turnG] at h3 ih
        obtain ⟨k1, k2, k3⟩ := rightG_cons h3
        have := ih _ (List.mem_cons_self ..)
        unfold maps_Range.ok at k1
        simp only [growsM] at this k2 k1 ⊢
        omega
    · have := ih x hx
      simp only [growsM]
      omega

/-- What comes ahead of a range in a right map ends ahead of it. -/
theorem rightG_ahead : ∀ (pre suf : List maps_Range) (r : maps_Range) (last : Int), rightG last (pre ++ r :: suf) = true → ∀ x ∈ pre, x.Pos + x.Old < r.Pos
  | [], _, _, _, _ => by simp
  | y :: pre, suf, r, last, h => by
    obtain ⟨h1, h2, h3⟩ := rightG_cons h
    intro x hx
    rcases List.mem_cons.1 hx with rfl | hx
    · exact rightG_after _ _ h3 r (by simp)
    · exact rightG_ahead pre suf r _ h3 x hx

theorem back_at (right rb : Bool) (pos : Int) (pre suf : List maps_Range) (r : maps_Range) (last lt : Int) (h : rightG last (pre ++ r :: suf) = true) (ht : rightG lt (turnG 0 (pre ++ r :: suf)) = true) (h1 : r.Pos ≤ pos) (h2 : pos ≤ r.Pos + r.Old) :
    toM (toM pos right 0 (pre ++ r :: suf)) rb 0 (turnG 0 (pre ++ r :: suf)) = if side ⟨r.Pos + growsM pre, r.New, r.Old⟩ (toM pos right 0 (pre ++ r :: suf)) rb = true then r.Pos + r.Old else r.Pos := by
  have hpre := fun x hx => Int.lt_of_lt_of_le (rightG_ahead pre suf r last h x hx) h1
  have e := toM_at right pos pre suf r hpre h1 h2
  obtain ⟨last', hr'⟩ := rightG_suf pre _ _ h
  have hok := (rightG_cons hr').1
  unfold maps_Range.ok at hok
  have hin : r.Pos + growsM pre ≤ toM pos right 0 (pre ++ r :: suf) ∧ toM pos right 0 (pre ++ r :: suf) ≤ r.Pos + growsM pre + r.New := by
    rw [e]; split <;> omega
  generalize toM pos right 0 (pre ++ r :: suf) = there at hin
  rw [turnG_app] at ht ⊢
  simp only [turnG, Int.zero_add] at ht ⊢
  have hpre' := fun x hx => Int.lt_of_lt_of_le (rightG_ahead _ _ _ _ ht x hx) hin.1
  rw [toM_at rb there _ _ _ hpre' hin.1 hin.2, growsM_turn]
  by_cases hs : side ⟨r.Pos + growsM pre, r.New, r.Old⟩ there rb = true
  · rw [if_pos hs, if_pos hs]; simp only; omega
  · rw [if_neg hs, if_neg hs]; simp only; omega

theorem back_gap (right rb : Bool) (pos : Int) (pre suf : List maps_Range) (last lt : Int) (h : rightG last (pre ++ suf) = true) (ht : rightG lt (turnG 0 (pre ++ suf)) = true) (hpre : ∀ x ∈ pre, x.Pos + x.Old < pos) (hsuf : ∀ x ∈ suf, pos < x.Pos) :
    (∀ x ∈ turnG 0 pre, x.Pos + x.Old < pos + growsM pre) ∧ (∀ x ∈ turnG (growsM pre) suf, pos + growsM pre < x.Pos) ∧ toM pos right 0 (pre ++ suf) = pos + growsM pre ∧ toM (pos + growsM pre) rb 0 (turnG 0 (pre ++ suf)) = pos := by
  have e := toM_gap right pos pre suf last h hpre hsuf
  have ht0 := ht
  rw [turnG_app, Int.zero_add] at ht
  have a1 : ∀ x ∈ turnG 0 pre, x.Pos + x.Old < pos + growsM pre := by
    have hl : ∃ l, rightG l (turnG 0 pre) = true := by
      have : ∀ (a b : List maps_Range) (l : Int), rightG l (a ++ b) = true → rightG l a = true := by
        intro a b
        induction a with
        | nil => intro l _; rfl
        | cons r a ih =>
          intro l hl
          obtain ⟨q1, q2, q3⟩ := rightG_cons hl
          simp only [rightG, q1, q2, decide_true, Bool.true_and]
          exact ih _ q3
      exact ⟨_, this _ _ _ ht⟩
    obtain ⟨l, hl⟩ := hl
    have := turn_ahead pos pre 0 l hl hpre
    simpa using this
  have a2 : ∀ x ∈ turnG (growsM pre) suf, pos + growsM pre < x.Pos := by
    cases suf with
    | nil => simp [turnG]
    | cons r suf =>
      obtain ⟨l, hl⟩ := rightG_suf _ _ _ ht
      simp only [turnG] at hl ⊢
      have q := rightG_cons hl
      have h0 := hsuf r (by simp)
      intro x hx
      rcases List.mem_cons.1 hx with rfl | hx
      · simp only; omega
      · have := rightG_after _ _ q.2.2 x hx
        have q1 := q.1
        unfold maps_Range.ok at q1
        simp only at this q1
        omega
  refine ⟨a1, a2, e, ?_⟩
  rw [turnG_app, Int.zero_add, toM_gap rb (pos + growsM pre) _ _ lt ht a1 a2, growsM_turn]
  omega

/-- A position in no range lies between ranges. -/
theorem split_gap (pos : Int) : ∀ (m : List maps_Range) (last : Int), rightG last m = true → (∀ r ∈ m, ¬ (r.Pos ≤ pos ∧ pos ≤ r.Pos + r.Old)) → ∃ pre suf, m = pre ++ suf ∧ (∀ x ∈ pre, x.Pos + x.Old < pos) ∧ ∀ x ∈ suf, pos < x.Pos
  | [], _, _, _ => ⟨[], [], rfl, by simp, by simp⟩
  | r :: m, last, h, hn => by
    obtain ⟨h1, h2, h3⟩ := rightG_cons h
    unfold maps_Range.ok at h1
    have h0 := hn r (by simp)
    by_cases c : pos < r.Pos
    · refine ⟨[], r :: m, rfl, by simp, fun x hx => ?_⟩
      rcases List.mem_cons.1 hx with rfl | hx
      · exact c
      · have := rightG_after _ _ h3 x hx
        omega
    · obtain ⟨pre, suf, rfl, g1, g2⟩ := split_gap pos m _ h3 fun x hx => hn x (by simp [hx])
      refine ⟨r :: pre, suf, rfl, fun x hx => ?_, g2⟩
      rcases List.mem_cons.1 hx with rfl | hx
      · omega
      · exact g1 x hx

theorem lostM_gap (pos : Int) (pre suf : List maps_Range) (hpre : ∀ x ∈ pre, x.Pos + x.Old < pos) (hsuf : ∀ x ∈ suf, pos < x.Pos) : lostM pos (pre ++ suf) = false := by
  simp only [lostM, List.any_eq_false, List.mem_append, Bool.and_eq_true, decide_eq_true_eq]
  intro x hx
  rcases hx with hx | hx
  · have := hpre x hx; omega
  · have := hsuf x hx; omega


/-! ### What the written functions answer -/
theorem w64_eq {x : Int} (h : -9223372036854775808 ≤ x ∧ x ≤ 9223372036854775807) : w64 x = x := wrapI h

theorem end_eq (r : maps_Range) (h : r.ok) : maps_Range_end r = some (r.Pos + r.Old) := by
  unfold maps_Range.ok at h
  rw [maps_Range_end, w64_eq (by omega)]

theorem side_eq (r : maps_Range) (h : r.ok) (pos : Int) (right : Bool) : maps_Range_side r pos right = some (side r pos right) := by
  unfold maps_Range_side side
  rw [end_eq r h]
  by_cases h1 : r.Old = 0
  · simp [h1]
  · by_cases h2 : pos = r.Pos
    · simp [h1, h2]
    · cases right <;> simp [h1, h2]

theorem grows_l0 : ∀ (m : List maps_Range) (i n : Int), (∀ r ∈ m, r.ok) → -4611686018427387904 ≤ n - 1048576 * m.length ∧ n + 1048576 * m.length ≤ 4611686018427387904 → maps_Grows_l0 m i n = some (n + growsM m)
  | [], i, n, _, _ => by simp [maps_Grows_l0, growsM]
  | r :: m, i, n, hok, hb => by
    have h1 := hok r (by simp)
    unfold maps_Range.ok at h1
    simp only [List.length_cons] at hb
    rw [maps_Grows_l0, w64_eq (x := r.New - r.Old) (by omega), w64_eq (by omega), grows_l0 m _ _ (fun x hx => hok x (by simp [hx])) (by omega)]
    simp only [growsM, Option.some.injEq]
    omega

theorem grows_eq (m : List maps_Range) (hok : ∀ r ∈ m, r.ok) (hl : m.length ≤ 1000000) : maps_Grows m = some (growsM m) := by
  unfold maps_Grows chk
  rw [if_pos (by omega), grows_l0 m _ _ hok (by omega)]
  simp

theorem right_l0 : ∀ (m : List maps_Range) (i last : Int), -9223372036854775808 ≤ last → maps_Right_l0 m i last = some (if rightG last m = true then .inr () else .inl false)
  | [], i, last, _ => by simp [maps_Right_l0, rightG]
  | r :: m, i, last, hl => by
    rw [maps_Right_l0]
    by_cases hmin : r.Pos < 0 ∨ r.Old < 0 ∨ r.New < 0
    · have h1 : ¬ r.ok := by unfold maps_Range.ok; omega
      rw [if_pos (by simp only [decide_eq_true_eq]; split <;> split <;> omega)]
      simp [rightG, h1]
    · rw [if_neg (by simp only [decide_eq_true_eq]; split <;> split <;> omega)]
      by_cases hmax : r.Pos > 1048576 ∨ r.Old > 1048576 ∨ r.New > 1048576
      · have h1 : ¬ r.ok := by unfold maps_Range.ok; omega
        rw [if_pos (by simp only [decide_eq_true_eq]; split <;> split <;> omega)]
        simp [rightG, h1]
      · rw [if_neg (by simp only [decide_eq_true_eq]; split <;> split <;> omega)]
        rw [w64_eq (x := r.Old + r.New) (by omega)]
        by_cases hz : r.Old + r.New = 0
        · have h1 : ¬ r.ok := by unfold maps_Range.ok; omega
          simp [hz, rightG, h1]
        · have h1 : r.ok := by unfold maps_Range.ok; omega
          by_cases hp : r.Pos ≤ last
          · simp [hz, hp, rightG, Int.not_lt.2 hp]
          · rw [end_eq r h1]
            simp only [hz, hp, beq_iff_eq, if_false, decide_false, Bool.false_eq_true, Option.bind_some]
            rw [right_l0 m _ _ (by omega)]
            simp [rightG, h1, Int.not_le.1 hp]

theorem right_eq (m : List maps_Range) (hl : m.length ≤ 9223372036854775807) : maps_Right m = some (rightG (-1) m) := by
  unfold maps_Right chk
  rw [if_pos hl, right_l0 m _ _ (by omega)]
  by_cases h : rightG (-1) m = true
  · simp [h]
  · simp [h]

theorem to_l0 (pos : Int) (right : Bool) : ∀ (m : List maps_Range) (i sh : Int), (∀ r ∈ m, r.ok) → -4611686018427387904 ≤ sh - 1048576 * m.length ∧ sh + 1048576 * m.length ≤ 4611686018427387904 →
    ∃ e, maps_To_l0 pos right m i sh = some e ∧ (match e with
      | .inl r => r = toM pos right sh m
      | .inr s => pos + s = toM pos right sh m ∧ -4611686018427387904 ≤ s ∧ s ≤ 4611686018427387904)
  | [], i, sh, _, hb => ⟨.inr sh, by simp [maps_To_l0], by simp at hb; simp [toM]; omega⟩
  | r :: m, i, sh, hok, hb => by
    have h1 := hok r (by simp)
    have h1' := h1
    unfold maps_Range.ok at h1'
    simp only [List.length_cons] at hb
    rw [maps_To_l0, end_eq r h1, side_eq r h1]
    simp only [Option.bind_some, decide_eq_true_eq]
    by_cases c1 : r.Pos + r.Old < pos
    · simp only [c1, if_true]
      rw [w64_eq (x := r.New - r.Old) (by omega), w64_eq (by omega)]
      obtain ⟨e, h2, h3⟩ := to_l0 pos right m (i + 1) (sh + (r.New - r.Old)) (fun x hx => hok x (by simp [hx])) (by omega)
      exact ⟨e, h2, by simpa only [toM, c1, if_true] using h3⟩
    · simp only [c1, if_false]
      by_cases c2 : r.Pos > pos
      · simp only [c2, if_true]
        refine ⟨_, rfl, ?_⟩
        simp only [toM, c1, c2, if_false, if_true, true_and]
        omega
      · simp only [c2, if_false]
        rw [w64_eq (x := r.Pos + sh) (by omega), w64_eq (by omega)]
        by_cases c3 : side r pos right = true
        · simp only [c3, if_true]
          exact ⟨_, rfl, by simp only [toM, c1, c2, c3, if_false, if_true]⟩
        · simp only [c3, if_false]
          exact ⟨_, rfl, by simp [toM, c1, c2, c3]⟩

theorem to_eq (m : List maps_Range) (hok : ∀ r ∈ m, r.ok) (hl : m.length ≤ 1000000) (pos : Int) (hp : -1125899906842624 ≤ pos ∧ pos ≤ 1125899906842624) (right : Bool) : maps_To m pos right = some (toM pos right 0 m) := by
  unfold maps_To chk
  rw [if_pos (by omega)]
  obtain ⟨e, h1, h2⟩ := to_l0 pos right m 0 0 hok (by omega)
  rw [h1]
  cases e with
  | inl r => simp only [Option.bind_some, Option.some.injEq]; exact h2
  | inr s =>
    simp only [Option.bind_some]
    rw [w64_eq (by omega), h2.1]

theorem lost_l0 (pos : Int) : ∀ (m : List maps_Range) (i : Int), (∀ r ∈ m, r.ok) → maps_Lost_l0 pos m i = some (if lostM pos m = true then .inl true else .inr ())
  | [], i, _ => by simp [maps_Lost_l0, lostM]
  | r :: m, i, hok => by
    have h1 := hok r (by simp)
    have ih := lost_l0 pos m (i + 1) fun x hx => hok x (by simp [hx])
    rw [maps_Lost_l0, end_eq r h1, ih]
    by_cases c1 : r.Pos < pos <;> by_cases c2 : pos < r.Pos + r.Old <;> simp [lostM, c1, c2]

theorem lost_eq (m : List maps_Range) (hok : ∀ r ∈ m, r.ok) (hl : m.length ≤ 9223372036854775807) (pos : Int) : maps_Lost m pos = some (lostM pos m) := by
  unfold maps_Lost chk
  rw [if_pos hl, lost_l0 pos m _ hok]
  by_cases h : lostM pos m = true <;> simp [h]

theorem sl_pre {α : Type} (pre suf : List α) : sl (pre ++ suf) 0 (pre.length : Int) = some pre := by
  unfold sl
  rw [if_pos (by simp; omega)]
  simp

theorem turn_l0 : ∀ (suf pre out : List maps_Range) (m : List maps_Range) (i : Int), m = pre ++ suf → i = (pre.length : Int) → (∀ r ∈ m, r.ok) → m.length ≤ 1000000 → out.length = pre.length →
    maps_Turn_l0 m suf i out = some (out ++ turnG (growsM pre) suf)
  | [], pre, out, m, i, _, _, _, _, _ => by simp [maps_Turn_l0, turnG]
  | r :: suf, pre, out, m, i, hm, hi, hok, hl, ho => by
    have h1 := hok r (by simp [hm])
    unfold maps_Range.ok at h1
    have hpre : ∀ r ∈ pre, r.ok := fun x hx => hok x (by simp [hm, hx])
    have hlen : m.length = pre.length + suf.length + 1 := by simp [hm]; omega
    have hg := growsM_le pre hpre
    rw [maps_Turn_l0]
    subst hi
    rw [hm, sl_pre, ← hm]
    simp only [Option.bind_some]
    rw [grows_eq pre hpre (by omega)]
    simp only [Option.bind_some, app, List.length_cons, List.length_nil]
    rw [if_pos (by omega)]
    simp only [Option.bind_some]
    rw [w64_eq (by omega), turn_l0 suf (pre ++ [r]) _ m _ (by simp [hm]) (by simp) hok hl (by simp [ho])]
    simp [turnG, growsM_app, growsM]

theorem turn_eq (m : List maps_Range) (hok : ∀ r ∈ m, r.ok) (hl : m.length ≤ 1000000) : maps_Turn m = some (turnG 0 m) := by
  unfold maps_Turn chk
  rw [if_pos (by omega), turn_l0 m [] [] m 0 rfl rfl hok hl rfl]
  simp [growsM]

theorem thru_eq2 (a b : List maps_Range) (ha : ∀ r ∈ a, r.ok) (hb : ∀ r ∈ b, r.ok) (hla : a.length ≤ 1000) (hlb : b.length ≤ 1000) (pos : Int) (hp : -1099511627776 ≤ pos ∧ pos ≤ 1099511627776) (right : Bool) :
    maps_Through [a, b] pos right = some (toM (toM pos right 0 a) right 0 b) := by
  have h1 := toM_in a ha 1099511627776 (by omega) pos hp right 0
  unfold maps_Through chk
  rw [if_pos (by simp)]
  simp only [maps_Through_l0]
  rw [to_eq a ha (by omega) pos (by omega) right]
  simp only [Option.bind_some]
  rw [to_eq b hb (by omega) _ (by omega) right]
  simp

theorem shown10 : diptychlaw10_shown = some true := by
  have h : ∀ r ∈ [({ Pos := 3, Old := 2, New := 5 } : maps_Range)], r.ok := by simp [maps_Range.ok]
  unfold diptychlaw10_shown
  rw [to_eq _ h (by simp) 3 (by omega), to_eq _ h (by simp) 4 (by omega), to_eq _ h (by simp) 4 (by omega), to_eq _ h (by simp) 5 (by omega), to_eq _ h (by simp) 6 (by omega)]
  simp [toM, side]

end Go.Proofs.Ytafcbjepmjcpgaa
