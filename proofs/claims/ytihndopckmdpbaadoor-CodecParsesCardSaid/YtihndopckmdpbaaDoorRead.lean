/- How a text is read, plainly: signs, names, quoted texts. -/
import Derived.Test.YtihndopckmdpbaaDoorWrite
import Derived.Test.YtihndopckmdpbaaDoorForm
namespace Go.Proofs.YtihndopckmdpbaaDoor
set_option linter.unusedSimpArgs false
set_option linter.unusedVariables false
open Go

/-! ### Signs -/
theorem hasPre_one (c : UInt8) (s : Str) (h : s.length ≤ 1099511627776) : internal_stringslite_HasPrefix s [c] = some (decide (s.head? = some c)) := by
  unfold internal_stringslite_HasPrefix
  cases s with
  | nil => rfl
  | cons b s =>
    have g : decide (((b :: s).length : Int) ≥ (([c] : Str).length : Int)) = true := by simp; omega
    have hs : sl (b :: s) 0 (([c] : Str).length : Int) = some [b] := by
      have := sl_nat (l := b :: s) (a := 0) (b := 1) (by omega) (by simp)
      simpa using this
    rw [if_pos g, hs]
    by_cases hb : b = c
    · subst hb; simp
    · simp [hb]
theorem takes_eq (c : UInt8) (s : Str) (bad : Bool) (h : s.length ≤ 1099511627776) : codec_reader_takes_x [c] ⟨s, bad⟩ = some (if s.head? = some c then (true, ⟨s.tail, bad⟩) else (false, ⟨s, bad⟩)) := by
  unfold codec_reader_takes_x strings_CutPrefix internal_stringslite_CutPrefix
  simp only
  rw [hasPre_one c s h]
  by_cases hc : s.head? = some c
  · cases s with
    | nil => cases hc
    | cons b s =>
      have hs : sl (b :: s) (([c] : Str).length : Int) ((b :: s).length : Int) = some s := by
        have := sl_nat (l := b :: s) (a := 1) (b := (b :: s).length) (by simp) (Nat.le_refl _)
        simpa using this
      simp only [hc, decide_true, Option.bind_some, Bool.not_true, Bool.false_eq_true, if_false, if_true]
      rw [hs]
      rfl
  · simp [hc]
theorem want_eq (c : UInt8) (s : Str) (bad : Bool) (h : s.length ≤ 1099511627776) : codec_reader_want_x [c] ⟨s, bad⟩ = some (if s.head? = some c then ⟨s.tail, bad⟩ else ⟨s, true⟩) := by
  unfold codec_reader_want_x
  rw [takes_eq c s bad h]
  by_cases hc : s.head? = some c <;> simp [hc]
theorem hasP_eq (c : UInt8) (s : Str) (h : s.length ≤ 1099511627776) : strings_HasPrefix s [c] = some (decide (s.head? = some c)) := by
  unfold strings_HasPrefix
  rw [hasPre_one c s h]
  rfl

/-! ### Names -/
theorem abc_fun : (fun b => ([97, 98, 99, 100, 101, 102, 103, 104, 105, 106, 107, 108, 109, 110, 111, 112, 113, 114, 115, 116, 117, 118, 119, 120, 121, 122] : Str).contains b) = letter := by
  funext b
  exact abc_contains b
theorem name_read (s : Str) (bad : Bool) (h : s.length ≤ 1099511627776) : codec_reader_name_x ⟨s, bad⟩ = some (s.takeWhile letter, ⟨s.dropWhile letter, bad⟩) := by
  unfold codec_reader_name_x strings_TrimLeft Lib.trimLeftS
  simp only
  rw [chk_eq ⟨by omega, by decide, by decide⟩, abc_fun]
  simp only [Option.bind_some]
  have hl : (s.takeWhile letter).length + (s.dropWhile letter).length = s.length := by rw [← List.length_append, List.takeWhile_append_dropWhile]
  have hs : sl s 0 ((s.length : Int) - ((s.dropWhile letter).length : Int)) = some (s.takeWhile letter) := by
    have h1 := sl_nat (l := s) (a := 0) (b := (s.takeWhile letter).length) (by omega) (by omega)
    have e : s.take (s.takeWhile letter).length = s.takeWhile letter := (List.prefix_iff_eq_take.1 (List.takeWhile_prefix _)).symm
    rw [e, List.drop_zero] at h1
    rw [← h1]
    congr 1
    omega
  rw [w64_eq (by omega), hs]
  rfl
theorem tw_name {w t : Str} (hw : w.all letter = true) (ht : ∀ c, t.head? = some c → letter c = false) : (w ++ t).takeWhile letter = w ∧ (w ++ t).dropWhile letter = t := by
  induction w with
  | nil =>
    cases t with
    | nil => exact ⟨rfl, rfl⟩
    | cons c t => simp [ht c rfl]
  | cons b w ih =>
    simp only [List.all_cons, Bool.and_eq_true] at hw
    obtain ⟨h1, h2⟩ := ih hw.2
    simp [hw.1, h1, h2]

/-! ### Quoted texts -/
/-- The bytes that are read, out of what stands behind the quote; what is left. None: it does not end. -/
def unq : Str → Str → Option (Str × Str)
  | acc, [] => none
  | acc, 34 :: t => some (acc, t)
  | acc, [92] => none
  | acc, 92 :: c :: t => unq (acc ++ [c]) t
  | acc, c :: t => unq (acc ++ [c]) t
theorem strB_nat (l : Str) : strB (l.map fun b => (b.toNat : Int)) = l := by
  unfold strB
  rw [List.map_map]
  conv => rhs; rw [← List.map_id l]
  exact List.map_congr_left fun b _ => by simp

theorem unq_esc (v t acc : Str) : unq acc (esc v ++ 34 :: t) = some (acc ++ v, t) := by
  induction v generalizing acc with
  | nil => simp [esc, unq]
  | cons b v ih =>
    rw [esc_cons, List.append_assoc]
    unfold esc1
    by_cases hb : b = 34 ∨ b = 92
    · rw [if_pos hb]
      simp only [List.cons_append, List.nil_append]
      rw [unq, ih]
      simp
    · rw [if_neg hb]
      simp only [List.cons_append, List.nil_append]
      have h1 : b ≠ 34 := fun e => hb (.inl e)
      have h2 : b ≠ 92 := fun e => hb (.inr e)
      have e : unq acc (b :: (esc v ++ 34 :: t)) = unq (acc ++ [b]) (esc v ++ 34 :: t) := by
        rw [unq]
        all_goals simp_all
      rw [e, ih]
      simp

theorem unq_other {b : UInt8} (h1 : b ≠ 34) (h2 : b ≠ 92) (acc t : Str) : unq acc (b :: t) = unq (acc ++ [b]) t := by
  rw [unq]
  all_goals simp_all
theorem unq_two (acc t : Str) (c : UInt8) : unq acc (92 :: c :: t) = unq (acc ++ [c]) t := by rw [unq]
theorem getD_mid (pre suf : Str) (b : UInt8) : (pre ++ b :: suf).getD ((pre.length : Int)).toNat 0 = b := by simp [List.getD]

def qres (left : Str) : Option (Str × Str) → (Str × codec_reader) ⊕ Unit
  | some (v, t) => .inl (v, ⟨t, false⟩)
  | none => .inr ()
theorem quoted_l0 (left : Str) (hl : left.length ≤ 1099511627776) : ∀ (f : Nat) (suf pre acc : Str) (k : Nat), suf.length ≤ f → f < k → left = pre ++ suf → acc.length ≤ pre.length →
    codec_reader_quoted_x_l0 ⟨left, false⟩ k (pre.length : Int) (acc.map fun b => (b.toNat : Int)) = some (qres left (unq acc suf))
  | _, _, _, _, 0, _, h, _, _ => by omega
  | f, [], pre, acc, k + 1, _, _, he, _ => by
    have g : decide ((pre.length : Int) < (left.length : Int)) = false := by rw [he]; simp
    rw [codec_reader_quoted_x_l0]
    simp only [g, Bool.false_eq_true, if_false]
    rfl
  | 0, _ :: _, _, _, _ + 1, h, _, _, _ => by simp at h
  | f + 1, b :: suf, pre, acc, k + 1, hf, hk, he, ha => by
    have hlen : left.length = pre.length + (suf.length + 1) := by rw [he]; simp
    have g : decide ((pre.length : Int) < (left.length : Int)) = true := by simp; omega
    have hg : left.getD ((pre.length : Int)).toNat 0 = b := by rw [he]; exact getD_mid pre suf b
    have hc : (0 : Int) ≤ (pre.length : Int) ∧ (pre.length : Int) < (left.length : Int) := by omega
    rw [codec_reader_quoted_x_l0]
    simp only [g, if_true, Bool.not_false]
    rw [chk_eq hc, hg]
    by_cases h34 : b = 34
    · subst h34
      have hs : sl left ((pre.length : Int) + 1) (left.length : Int) = some suf := by
        have := sl_nat (l := left) (a := pre.length + 1) (b := left.length) (by omega) (Nat.le_refl _)
        rw [List.take_length] at this
        have e : left.drop (pre.length + 1) = suf := by rw [he]; simp
        rw [e] at this
        rw [← this]
        congr 1
      have g2 : (((34 : UInt8).toNat : Int) == 34) = true := by decide
      rw [w64_eq (by omega)]
      simp only [g2, if_true]
      rw [hs]
      simp [strB_nat, unq, qres]
    · have g2 : ((b.toNat : Int) == 34) = false := by
        rw [beq_eq_false_iff_ne]
        intro e
        exact h34 (UInt8.toNat_inj.1 (by have h0 : (34 : UInt8).toNat = 34 := rfl; omega))
      simp only [g2, Bool.false_eq_true, if_false]
      by_cases h92 : b = 92
      · subst h92
        have g3 : (((92 : UInt8).toNat : Int) == 92) = true := by decide
        simp only [g3, if_true, Option.bind_some]
        rw [w64_eq (by omega)]
        cases suf with
        | nil =>
          have g4 : decide ((pre.length : Int) + 1 < (left.length : Int)) = false := by simp at hlen ⊢; omega
          simp only [g4, Bool.false_eq_true, if_false]
          rw [w64_eq (by omega)]
          obtain ⟨k', rfl⟩ : ∃ j, k = j + 1 := ⟨k - 1, by omega⟩
          have g5 : decide ((pre.length : Int) + 1 + 1 < (left.length : Int)) = false := by simp at hlen ⊢; omega
          rw [codec_reader_quoted_x_l0]
          simp only [g5, Bool.false_eq_true, if_false]
          rfl
        | cons c suf =>
          have g4 : decide ((pre.length : Int) + 1 < (left.length : Int)) = true := by simp at hlen ⊢; omega
          have e1 : (pre.length : Int) + 1 = ((pre ++ [92]).length : Int) := by simp
          have hg2 : left.getD ((pre.length : Int) + 1).toNat 0 = c := by
            rw [e1, he, show pre ++ 92 :: c :: suf = (pre ++ [92]) ++ c :: suf by simp]
            exact getD_mid _ suf c
          simp only [g4, if_true]
          rw [chk_eq (by simp at hlen; omega), hg2, app_eq (by simp; omega)]
          simp only [Option.bind_some]
          rw [w64_eq (by simp at hlen; omega)]
          have ih := quoted_l0 left hl f suf (pre ++ [92, c]) (acc ++ [c]) k (by simp at hf; omega) (by omega) (by rw [he]; simp) (by simp; omega)
          have e2 : (pre.length : Int) + 1 + 1 = ((pre ++ [92, c]).length : Int) := by simp; omega
          rw [e2, unq_two]
          simpa using ih
      · have g3 : ((b.toNat : Int) == 92) = false := by
          rw [beq_eq_false_iff_ne]
          intro e
          exact h92 (UInt8.toNat_inj.1 (by have h0 : (92 : UInt8).toNat = 92 := rfl; omega))
        simp only [g3, Bool.false_eq_true, if_false, Option.bind_some, g, if_true]
        rw [chk_eq hc, hg, app_eq (by simp; omega)]
        simp only [Option.bind_some]
        rw [w64_eq (by omega)]
        have ih := quoted_l0 left hl f suf (pre ++ [b]) (acc ++ [b]) k (by simp at hf; omega) (by omega) (by rw [he]; simp) (by simp; omega)
        have e2 : (pre.length : Int) + 1 = ((pre ++ [b]).length : Int) := by simp
        rw [e2, unq_other h34 h92]
        simpa using ih

theorem quoted_bad (left : Str) (k : Nat) (i : Int) (s : List Int) : codec_reader_quoted_x_l0 ⟨left, true⟩ (k + 1) i s = some (.inr ()) := by
  rw [codec_reader_quoted_x_l0]
  by_cases h : decide (i < (left.length : Int)) = true
  · simp [h]
  · simp [h]

/-- What 'quoted' answers. -/
def quotedR (s : Str) (bad : Bool) : Str × codec_reader :=
  if bad = false ∧ s.head? = some 34 then (match unq [] s.tail with | some (v, t) => (v, ⟨t, false⟩) | none => ([], ⟨s.tail, true⟩))
  else ([], ⟨if s.head? = some 34 then s.tail else s, true⟩)
theorem quoted_eq (s : Str) (bad : Bool) (h : s.length ≤ 1099511627776) : codec_reader_quoted_x ⟨s, bad⟩ = some (quotedR s bad) := by
  unfold codec_reader_quoted_x quotedR
  rw [want_eq 34 s bad h]
  simp only [Option.bind_some]
  have hbad : ∀ left, (lim fun k => codec_reader_quoted_x_l0 ⟨left, true⟩ k 0 []) = some (.inr ()) := fun left => lim_of 1 fun k hk => by
    obtain ⟨k, rfl⟩ : ∃ j, k = j + 1 := ⟨k - 1, by omega⟩
    exact quoted_bad left k 0 []
  by_cases hh : s.head? = some 34
  · simp only [hh, if_true, and_true]
    cases bad with
    | true => rw [hbad]; simp
    | false =>
      have htl : s.tail.length ≤ s.length := by simp
      have h0 : (lim fun k => codec_reader_quoted_x_l0 ⟨s.tail, false⟩ k 0 []) = some (qres s.tail (unq [] s.tail)) := lim_of (s.tail.length + 1) fun k hk => by
        have := quoted_l0 s.tail (by omega) s.tail.length s.tail [] [] k (Nat.le_refl _) (by omega) rfl (by simp)
        simpa using this
      rw [h0]
      cases hu : unq [] s.tail with
      | none => simp [qres]
      | some x => obtain ⟨v, t⟩ := x; simp [qres]
  · simp only [hh, if_false, and_false]
    rw [hbad]
    rfl
theorem quoted_qt (v t : Str) (h : (qt v ++ t).length ≤ 1099511627776) : codec_reader_quoted_x ⟨qt v ++ t, false⟩ = some (v, ⟨t, false⟩) := by
  rw [quoted_eq _ _ h]
  unfold quotedR qt
  have e : (34 :: (esc v ++ [34]) ++ t).tail = esc v ++ 34 :: t := by simp
  rw [e, unq_esc]
  simp

end Go.Proofs.YtihndopckmdpbaaDoor
