/- How the reference reads a text, plainly. -/
import Derived.Test.YtihndopckmdpbaaDoorRWrite
import Derived.Test.YtihndopckmdpbaaDoorReadAll
namespace Go.Proofs.YtihndopckmdpbaaDoor
set_option linter.unusedSimpArgs false
set_option linter.unusedVariables false
open Go

/-- A reader in front of an end of a text. -/
def rs (S suf : Str) (bad : Bool) : diptychref2_Reader := ⟨S, (S.length : Int) - (suf.length : Int), bad⟩
theorem rs_at {pre t : Str} {b : UInt8} : (((pre ++ b :: t).length : Int) - ((b :: t).length : Int)) = (pre.length : Int) := by simp only [List.length_append]; omega
theorem suf_tail {S t : Str} {b : UInt8} (h : (b :: t) <:+ S) : t <:+ S := by
  obtain ⟨pre, rfl⟩ := h
  exact ⟨pre ++ [b], by simp⟩
theorem suf_app {S a t : Str} (h : (a ++ t) <:+ S) : t <:+ S := by
  obtain ⟨pre, rfl⟩ := h
  exact ⟨pre ++ a, by simp⟩
theorem suf_le {S t : Str} (h : t <:+ S) : t.length ≤ S.length := h.length_le

theorem ris_eq {S suf : Str} {bad : Bool} (h : suf <:+ S) (d : UInt8) (c : Int) (hc : c = (d.toNat : Int)) : diptychref2_Reader_is_x c (rs S suf bad) = some (decide (suf.head? = some d), rs S suf bad) := by
  subst hc
  unfold diptychref2_Reader_is_x
  cases suf with
  | nil =>
    have g : decide ((rs S [] bad).At < ((rs S [] bad).S.length : Int)) = false := by simp [rs]
    rw [if_neg (by rw [g]; simp)]
    simp
  | cons b t =>
    obtain ⟨pre, rfl⟩ := h
    have hA : (rs (pre ++ b :: t) (b :: t) bad).At = (pre.length : Int) := rs_at
    have hS : (rs (pre ++ b :: t) (b :: t) bad).S = pre ++ b :: t := rfl
    rw [hA, hS]
    have g : decide ((pre.length : Int) < ((pre ++ b :: t).length : Int)) = true := by simp; omega
    rw [if_pos g, chk_eq ⟨by omega, of_decide_eq_true g⟩, getD_mid]
    by_cases hb : b = d
    · subst hb; simp
    · have g2 : ((b.toNat : Int) == (d.toNat : Int)) = false := by
        rw [beq_eq_false_iff_ne]
        intro e
        exact hb (UInt8.toNat_inj.1 (by omega))
      simp [g2, hb]
theorem reat_eq {S suf : Str} {bad : Bool} (h : suf <:+ S) (hl : S.length ≤ 1099511627776) (d : UInt8) (c : Int) (hc : c = (d.toNat : Int)) : diptychref2_Reader_eat_x c (rs S suf bad) = some (if suf.head? = some d then rs S suf.tail bad else rs S suf true) := by
  unfold diptychref2_Reader_eat_x
  rw [ris_eq h d c hc]
  simp only [Option.bind_some]
  by_cases hh : suf.head? = some d
  · cases suf with
    | nil => cases hh
    | cons b t =>
      have := suf_le h
      simp only [List.length_cons] at this
      simp only [hh, decide_true, if_true, List.tail_cons, Option.some.injEq]
      unfold rs
      simp only [List.length_cons]
      rw [w64_eq (by omega)]
      congr 1
      omega
  · simp only [hh, decide_false, Bool.false_eq_true, if_false]
    rfl

theorem letter_ge (b : UInt8) : letter b = (decide ((b.toNat : Int) ≥ 97) && decide ((b.toNat : Int) ≤ 122)) := by
  unfold letter
  congr 1
  · rw [decide_eq_decide]; omega
  · rw [decide_eq_decide]; omega
theorem rletters_l0 (S : Str) (r : diptychref2_Reader) (hS : r.S = S) (hl : S.length ≤ 1099511627776) : ∀ (t : Str) (k : Nat), t <:+ S → t.length < k → diptychref2_Reader_letters_x_l0 r k ((S.length : Int) - (t.length : Int)) = some ((S.length : Int) - ((t.dropWhile letter).length : Int))
  | [], k, h, hk => by
    obtain ⟨k, rfl⟩ : ∃ j, k = j + 1 := ⟨k - 1, by omega⟩
    rw [diptychref2_Reader_letters_x_l0, hS]
    have g : decide ((S.length : Int) - (([] : Str).length : Int) < (S.length : Int)) = false := by simp
    rw [g]
    rfl
  | b :: t, k, h, hk => by
    obtain ⟨k, rfl⟩ : ∃ j, k = j + 1 := ⟨k - 1, by omega⟩
    have ih := rletters_l0 S r hS hl t k (suf_tail h) (by simp at hk; omega)
    have hle := suf_le h
    simp only [List.length_cons] at hle
    have hget : S.getD (((S.length : Int) - ((b :: t).length : Int))).toNat 0 = b := by
      obtain ⟨pre, rfl⟩ := h
      rw [rs_at, getD_mid]
    rw [diptychref2_Reader_letters_x_l0, hS]
    have g : decide ((S.length : Int) - ((b :: t).length : Int) < (S.length : Int)) = true := by simp; omega
    simp only [g, if_true]
    rw [chk_eq (by simp only [List.length_cons]; omega), hget, chk_eq (by simp only [List.length_cons]; omega)]
    have hL := letter_ge b
    by_cases h1 : decide ((b.toNat : Int) ≥ 97) = true
    · by_cases h2 : decide ((b.toNat : Int) ≤ 122) = true
      · rw [h1, h2, Bool.and_self] at hL
        simp only [h1, h2, if_true, List.dropWhile_cons, hL]
        rw [w64_eq (by simp only [List.length_cons]; omega)]
        have e : (S.length : Int) - ((b :: t).length : Int) + 1 = (S.length : Int) - (t.length : Int) := by simp only [List.length_cons]; omega
        rw [e]
        exact ih
      · have h2' : decide ((b.toNat : Int) ≤ 122) = false := by simpa using h2
        rw [h1, h2', Bool.and_false] at hL
        simp only [h1, h2', if_true, Bool.false_eq_true, if_false, List.dropWhile_cons, hL]
    · have h1' : decide ((b.toNat : Int) ≥ 97) = false := by simpa using h1
      rw [h1', Bool.false_and] at hL
      simp only [h1', Bool.false_eq_true, if_false, List.dropWhile_cons, hL]
theorem rletters_eq {S suf : Str} {bad : Bool} (h : suf <:+ S) (hl : S.length ≤ 1099511627776) : diptychref2_Reader_letters_x (rs S suf bad) = some (suf.takeWhile letter, rs S (suf.dropWhile letter) bad) := by
  unfold diptychref2_Reader_letters_x
  have hle := suf_le h
  have hA : (rs S suf bad).At = (S.length : Int) - (suf.length : Int) := rfl
  have h0 : (lim fun k => diptychref2_Reader_letters_x_l0 (rs S suf bad) k (rs S suf bad).At) = some ((S.length : Int) - ((suf.dropWhile letter).length : Int)) :=
    lim_of (suf.length + 1) fun k hk => rletters_l0 S (rs S suf bad) rfl hl suf k h (by omega)
  rw [h0]
  simp only [Option.bind_some]
  have hs : sl S ((S.length : Int) - (suf.length : Int)) ((S.length : Int) - ((suf.dropWhile letter).length : Int)) = some (suf.takeWhile letter) := by
    obtain ⟨pre, rfl⟩ := h
    have hsplit : (suf.takeWhile letter).length + (suf.dropWhile letter).length = suf.length := by rw [← List.length_append, List.takeWhile_append_dropWhile]
    have h1 := sl_nat (l := pre ++ suf) (a := pre.length) (b := pre.length + (suf.takeWhile letter).length) (by omega) (by rw [List.length_append]; omega)
    have e1 : ((pre ++ suf).length : Int) - (suf.length : Int) = (pre.length : Int) := by rw [List.length_append]; omega
    have e2 : ((pre ++ suf).length : Int) - ((suf.dropWhile letter).length : Int) = ((pre.length + (suf.takeWhile letter).length : Nat) : Int) := by rw [List.length_append]; omega
    rw [e1, e2, h1]
    have e3 : (pre ++ suf).take (pre.length + (suf.takeWhile letter).length) = pre ++ suf.takeWhile letter := by
      rw [List.take_append, List.take_of_length_le (by omega)]
      congr 1
      rw [show pre.length + (suf.takeWhile letter).length - pre.length = (suf.takeWhile letter).length by omega]
      exact (List.prefix_iff_eq_take.1 (List.takeWhile_prefix _)).symm
    rw [e3]
    simp
  have hS' : (rs S suf bad).S = S := rfl
  rw [hS', hA, hs]
  rfl

/-! ### Quoted texts -/
def rqres (S : Str) : Option (Str × Str) → (Str × diptychref2_Reader) ⊕ (Str × diptychref2_Reader)
  | some (v, t) => .inr (v, rs S (34 :: t) false)
  | none => .inl ([], rs S [] true)
theorem rs_bad (S suf : Str) (b : Bool) : ({ rs S suf b with Bad := true } : diptychref2_Reader) = rs S suf true := rfl
theorem rs_next {S t : Str} {b : UInt8} {bad : Bool} (h : (b :: t) <:+ S) (hl : S.length ≤ 1099511627776) : ({ rs S (b :: t) bad with At := w64 ((rs S (b :: t) bad).At + 1) } : diptychref2_Reader) = rs S t bad := by
  have := suf_le h
  simp only [List.length_cons] at this
  unfold rs
  simp only [List.length_cons]
  rw [w64_eq (by omega)]
  congr 1
  omega
theorem rs_at1 {S t : Str} {b : UInt8} {bad : Bool} (h : (b :: t) <:+ S) (hl : S.length ≤ 1099511627776) : w64 ((rs S (b :: t) bad).At + 1) = (rs S t bad).At := congrArg diptychref2_Reader.At (rs_next (bad := bad) h hl)
theorem rs_S (S suf : Str) (bad : Bool) : (rs S suf bad).S = S := rfl
theorem rs_B (S suf : Str) (bad : Bool) : (rs S suf bad).Bad = bad := rfl
theorem rs_mk (S suf : Str) (b bad : Bool) : (⟨S, (rs S suf b).At, bad⟩ : diptychref2_Reader) = rs S suf bad := rfl
theorem rs_sl {S t : Str} {b : UInt8} {bad : Bool} (h : (b :: t) <:+ S) (hl : S.length ≤ 1099511627776) : sl S (rs S (b :: t) bad).At (rs S t bad).At = some [b] := by
  have hA : (rs S (b :: t) bad).At = (S.length : Int) - ((b :: t).length : Int) := rfl
  have hle := suf_le h
  rw [← rs_at1 (bad := bad) h hl, hA]
  obtain ⟨pre, rfl⟩ := h
  rw [rs_at, w64_eq (by simp only [List.length_append, List.length_cons] at hl; omega)]
  have h1 := sl_nat (l := pre ++ b :: t) (a := pre.length) (b := pre.length + 1) (by omega) (by simp)
  have e : (pre.length : Int) + 1 = ((pre.length + 1 : Nat) : Int) := by omega
  rw [e, h1]
  simp [List.take_append]
theorem rquoted_l0 (S : Str) (hl : S.length ≤ 1099511627776) : ∀ (f : Nat) (suf acc : Str) (k : Nat), suf.length ≤ f → f < k → suf <:+ S → acc.length + suf.length ≤ 1099511627776 → diptychref2_Reader_quoted_x_l0 k acc (rs S suf false) = some (rqres S (unq acc suf))
  | f, [], acc, k, _, hk, h, _ => by
    obtain ⟨k, rfl⟩ : ∃ j, k = j + 1 := ⟨k - 1, by omega⟩
    have hb : (rs S [] false).Bad = false := rfl
    rw [diptychref2_Reader_quoted_x_l0, hb]
    simp only [Bool.not_false, if_true]
    rw [ris_eq h 34 34 rfl]
    simp only [List.head?_nil, reduceCtorEq, decide_false, Option.bind_some, Bool.not_false, if_true]
    rw [ris_eq h 92 92 rfl]
    simp only [List.head?_nil, reduceCtorEq, decide_false, Option.bind_some, Bool.false_eq_true, if_false]
    have g : decide ((rs S [] false).At ≥ (S.length : Int)) = true := by simp [rs]
    simp only [rs_S, rs_B, rs_mk]
    refine (if_pos ?_).trans ?_
    · simp [rs]
    · rfl
  | 0, _ :: _, _, _, h, _, _, _ => by simp at h
  | f + 1, b :: t, acc, k, hf, hk, h, ha => by
    obtain ⟨k, rfl⟩ : ∃ j, k = j + 1 := ⟨k - 1, by omega⟩
    have hb : (rs S (b :: t) false).Bad = false := rfl
    have hle := suf_le h
    simp only [List.length_cons] at hle ha hf
    rw [diptychref2_Reader_quoted_x_l0, hb]
    simp only [Bool.not_false, if_true]
    rw [ris_eq h 34 34 rfl]
    simp only [List.head?_cons, Option.some.injEq, Option.bind_some]
    by_cases h34 : b = 34
    · subst h34
      simp only [decide_true, Bool.not_true, Bool.false_eq_true, if_false]
      simp [unq, rqres]
    · simp only [h34, decide_false, Bool.not_false, if_true]
      rw [ris_eq h 92 92 rfl]
      simp only [List.head?_cons, Option.some.injEq, Option.bind_some]
      by_cases h92 : b = 92
      · subst h92
        simp only [decide_true, if_true, Option.bind_some, rs_at1 h hl, rs_S, rs_B, rs_mk]
        cases t with
        | nil =>
          refine (if_pos ?_).trans ?_
          · simp [rs]
          · simp [unq, rqres]
        | cons c t =>
          have h' := suf_tail h
          refine (if_neg ?_).trans ?_
          · simp [rs]; omega
          simp only [rs_at1 h' hl, rs_sl h' hl, Option.bind_some, rs_mk]
          simp only [List.length_cons] at hf ha
          rw [chk_eq (by simp only [List.length_cons, List.length_nil]; omega), unq_two]
          exact rquoted_l0 S hl f t (acc ++ [c]) k (by omega) (by omega) (suf_tail h') (by simp only [List.length_append, List.length_cons, List.length_nil]; omega)
      · simp only [h92, decide_false, Bool.false_eq_true, if_false, Option.bind_some]
        simp only [rs_S, rs_B, rs_at1 h hl, rs_mk]
        refine (if_neg ?_).trans ?_
        · simp [rs]; omega
        simp only [rs_sl h hl, Option.bind_some]
        rw [chk_eq (by simp only [List.length_cons, List.length_nil]; omega), unq_other h34 h92]
        exact rquoted_l0 S hl f t (acc ++ [b]) k (by omega) (by omega) (suf_tail h) (by simp only [List.length_append, List.length_cons, List.length_nil]; omega)
theorem rquoted_bad (S suf acc : Str) (k : Nat) : diptychref2_Reader_quoted_x_l0 (k + 1) acc (rs S suf true) = some (.inr (acc, rs S suf true)) := by
  have hb : (rs S suf true).Bad = true := rfl
  rw [diptychref2_Reader_quoted_x_l0, hb]
  simp

theorem unq_suf : ∀ (n : Nat) (s acc v t : Str), s.length ≤ n → unq acc s = some (v, t) → (34 :: t) <:+ s
  | _, [], acc, v, t, _, h => by simp [unq] at h
  | 0, _ :: _, _, _, _, hl, _ => by simp at hl
  | n + 1, b :: s, acc, v, t, hl, h => by
    by_cases h34 : b = 34
    · subst h34
      simp only [unq, Option.some.injEq, Prod.mk.injEq] at h
      obtain ⟨rfl, rfl⟩ := h
      exact List.suffix_refl _
    · by_cases h92 : b = 92
      · subst h92
        cases s with
        | nil => simp [unq] at h
        | cons c s =>
          rw [unq_two] at h
          exact (unq_suf n s _ v t (by simp at hl; omega) h).trans ⟨[92, c], rfl⟩
      · rw [unq_other h34 h92] at h
        exact (unq_suf n s _ v t (by simp at hl; omega) h).trans ⟨[b], rfl⟩

/-- A quoted text that is well formed. -/
theorem rquoted_qt {S v t : Str} (h : (qt v ++ t) <:+ S) (hl : S.length ≤ 1073741824) : diptychref2_Reader_quoted_x (rs S (qt v ++ t) false) = some (v, rs S t false) := by
  have e : qt v ++ t = 34 :: (esc v ++ 34 :: t) := by simp [qt]
  rw [e] at h ⊢
  have h1 := suf_tail h
  have hle := suf_le h1
  unfold diptychref2_Reader_quoted_x
  rw [reat_eq h (by omega) 34 34 rfl]
  simp only [List.head?_cons, if_true, List.tail_cons, Option.bind_some]
  have h0 : (lim fun k => diptychref2_Reader_quoted_x_l0 k ([] : Str) (rs S (esc v ++ 34 :: t) false)) = some (rqres S (unq [] (esc v ++ 34 :: t))) :=
    lim_of ((esc v ++ 34 :: t).length + 1) fun k hk => rquoted_l0 S (by omega) _ _ [] k (Nat.le_refl _) (by omega) h1 (by simp only [List.length_nil]; omega)
  rw [h0, unq_esc]
  simp only [rqres, Option.bind_some, List.nil_append]
  rw [reat_eq (suf_app h1) (by omega) 34 34 rfl]
  simp
/-- A quoted text of any kind. -/
theorem rquoted_some {S suf : Str} (bad : Bool) (h : suf <:+ S) (hl : S.length ≤ 1048576) : ∃ v t b, diptychref2_Reader_quoted_x (rs S suf bad) = some (v, rs S t b) ∧ t <:+ suf ∧ v.length + t.length ≤ suf.length ∧ (b = false → v.length + t.length + 2 ≤ suf.length ∧ bad = false) := by
  unfold diptychref2_Reader_quoted_x
  rw [reat_eq h (by omega) 34 34 rfl]
  simp only [Option.bind_some]
  have badcase : ∀ s, s <:+ suf → ∃ v t b, (((lim fun k => diptychref2_Reader_quoted_x_l0 k ([] : Str) (rs S s true)).bind fun e => match e with
      | .inl res_17 => some res_17
      | .inr (s_18, r_20) => (diptychref2_Reader_eat_x (34 : Int) r_20).bind fun reader_21 => some (s_18, reader_21)) = some (v, rs S t b)) ∧ t <:+ suf ∧ v.length + t.length ≤ suf.length ∧ (b = false → v.length + t.length + 2 ≤ suf.length ∧ bad = false) := by
    intro s hs
    have h0 : (lim fun k => diptychref2_Reader_quoted_x_l0 k ([] : Str) (rs S s true)) = some (.inr ([], rs S s true)) := lim_of 1 fun k hk => by
      obtain ⟨k, rfl⟩ : ∃ j, k = j + 1 := ⟨k - 1, by omega⟩
      exact rquoted_bad S s [] k
    rw [h0]
    simp only [Option.bind_some]
    rw [reat_eq (hs.trans h) (by omega) 34 34 rfl]
    have hsl := hs.length_le
    by_cases hh : s.head? = some 34
    · cases s with
      | nil => cases hh
      | cons c s =>
        simp only [hh, if_true, List.tail_cons, Option.bind_some]
        exact ⟨[], s, true, rfl, suf_tail hs, by simp at hsl ⊢; omega, fun hb => by cases hb⟩
    · simp only [hh, if_false, Option.bind_some]
      exact ⟨[], s, true, rfl, hs, by simpa using hsl, fun hb => by cases hb⟩
  by_cases hh : suf.head? = some 34
  · cases suf with
    | nil => cases hh
    | cons c s =>
      simp only [hh, if_true, List.tail_cons]
      cases bad with
      | true => exact badcase s ⟨[c], rfl⟩
      | false =>
        have h1 := suf_tail h
        have hle := suf_le h1
        have h0 : (lim fun k => diptychref2_Reader_quoted_x_l0 k ([] : Str) (rs S s false)) = some (rqres S (unq [] s)) :=
          lim_of (s.length + 1) fun k hk => rquoted_l0 S (by omega) _ _ [] k (Nat.le_refl _) (by omega) h1 (by simp only [List.length_nil]; omega)
        rw [h0]
        cases hu : unq [] s with
        | none =>
          simp only [rqres, Option.bind_some]
          exact ⟨[], [], true, rfl, List.nil_suffix, by simp, fun hb => by cases hb⟩
        | some x =>
          obtain ⟨v, t⟩ := x
          have h2 := unq_suf s.length s [] v t (Nat.le_refl _) hu
          have h3 := unq_len s.length s [] v t (Nat.le_refl _) hu
          simp only [List.length_nil, Nat.zero_add] at h3
          simp only [rqres, Option.bind_some]
          rw [reat_eq (h2.trans h1) (by omega) 34 34 rfl]
          simp only [List.head?_cons, if_true, List.tail_cons, Option.bind_some]
          exact ⟨v, t, false, rfl, (suf_tail h2).trans ⟨[c], rfl⟩, by simp only [List.length_cons]; omega, fun _ => ⟨by simp only [List.length_cons]; omega, trivial⟩⟩
  · simp only [hh, if_false]
    exact badcase suf (List.suffix_refl _)

end Go.Proofs.YtihndopckmdpbaaDoor
