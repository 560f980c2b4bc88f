/- Texts and their code points: what is decoded and encoded again. -/
import Derived.Test.YtpjdafhmneiohaaDoorNodeBase
import Derived.Lib.MapLaws
import Derived.Lib.ValidLaws
namespace Go.Proofs.YtpjdafhmneiohaaDoor
set_option linter.unusedSimpArgs false
set_option linter.unusedVariables false
open Go

/-! ### Code points of a text, one behind the other -/
theorem runesL_gen (s : Str) (g : Value → Int) (hg : ∀ n, g (.int .i32 n) = n) : ∀ (f pos : Nat) (acc : Array Value), (Conv.runesFrom ⟨s.toArray⟩ f pos acc).toList.map g = acc.toList.map g ++ (Conv.runesFrom ⟨s.toArray⟩ f pos #[]).toList.map g
  | 0, pos, acc => by simp [Conv.runesFrom]
  | f + 1, pos, acc => by
    unfold Conv.runesFrom
    split
    · rw [runesL_gen s g hg f _ (acc.push _), runesL_gen s g hg f _ (#[].push _)]
      simp
    · simp
def rn : Nat → Str → List Int
  | 0, _ => []
  | f + 1, s => if s = [] then [] else ((Lib.decodeL s).1 : Int) :: rn f (s.drop (Lib.decodeL s).2)
theorem runes_rn (s : Str) (g : Value → Int) (hg : ∀ n, g (.int .i32 n) = n) : ∀ (f pos : Nat), (Conv.runesFrom ⟨s.toArray⟩ f pos #[]).toList.map g = rn f (s.drop pos)
  | 0, pos => by simp [Conv.runesFrom, rn]
  | f + 1, pos => by
    unfold Conv.runesFrom rn
    have hz : ByteArray.size ⟨s.toArray⟩ = s.length := by simp [ByteArray.size]
    by_cases h : pos < s.length
    · have hne : s.drop pos ≠ [] := by simp; omega
      have hd : Lib.decodeL (s.drop pos) = Utf8.decode ⟨s.toArray⟩ pos := by
        have := Lib.decodeL_drop ⟨s.toArray⟩ pos
        simpa using this
      rw [if_pos (by rw [hz]; exact h), if_neg hne, runesL_gen s g hg, runes_rn s g hg f, hd, List.drop_drop]
      simp [hg]
    · have hne : s.drop pos = [] := by simp; omega
      rw [if_neg (by rw [hz]; exact h), if_pos hne]
      simp
theorem runes_eq (s : Str) : runes s = rn s.length s := by
  unfold runes
  rw [runes_rn s _ (fun _ => rfl)]
  simp

/-- A code point's bytes: the model's, and the library's. -/
def encC (c : Nat) : List UInt8 :=
  if c < 0x80 then [UInt8.ofNat c]
  else if c < 0x800 then [UInt8.ofNat (0xC0 + c / 64), UInt8.ofNat (0x80 + c % 64)]
  else if c < 0x10000 then [UInt8.ofNat (0xE0 + c / 4096), UInt8.ofNat (0x80 + c / 64 % 64), UInt8.ofNat (0x80 + c % 64)]
  else [UInt8.ofNat (0xF0 + c / 262144), UInt8.ofNat (0x80 + c / 4096 % 64), UInt8.ofNat (0x80 + c / 64 % 64), UInt8.ofNat (0x80 + c % 64)]
theorem enc_c (r : Int) : rune1 r = encC (if Utf8.valid r then r.toNat else Utf8.runeError) := by
  unfold rune1 Utf8.encode encC
  generalize (if Utf8.valid r then r.toNat else Utf8.runeError) = c
  dsimp only
  by_cases h1 : c < 0x80
  · rw [if_pos h1, if_pos h1]
  · rw [if_neg h1, if_neg h1]
    by_cases h2 : c < 0x800
    · rw [if_pos h2, if_pos h2]
    · rw [if_neg h2, if_neg h2]
      by_cases h3 : c < 0x10000
      · rw [if_pos h3, if_pos h3]
      · rw [if_neg h3, if_neg h3]
theorem encC_len (c : Nat) : 1 ≤ (encC c).length ∧ (encC c).length ≤ 4 := by
  unfold encC
  split
  · simp
  · split
    · simp
    · split <;> simp
theorem rune1_len (c : Int) : 1 ≤ (rune1 c).length ∧ (rune1 c).length ≤ 4 := by rw [enc_c]; exact encC_len _
theorem rune1_ne (c : Int) : rune1 c ≠ [] := by
  intro h
  have := (rune1_len c).1
  rw [h] at this
  simp at this
theorem va (r : Nat) (h : r < 55296 ∨ 57343 < r) (h' : r ≤ 1114111) : Utf8.valid (r : Int) = true := by
  unfold Utf8.valid
  rw [Bool.or_eq_true]
  rcases h with h | h
  · left; rw [Bool.and_eq_true]
    exact ⟨decide_eq_true (by omega), decide_eq_true (by omega)⟩
  · right; rw [Bool.and_eq_true]
    exact ⟨decide_eq_true (by omega), decide_eq_true (by omega)⟩
theorem vc (r : Nat) (h : 55296 ≤ r) (h' : r ≤ 57343) : Utf8.valid (r : Int) = false := by
  unfold Utf8.valid
  rw [Bool.or_eq_false_iff, Bool.and_eq_false_iff, Bool.and_eq_false_iff]
  exact ⟨.inr (decide_eq_false (by omega)), .inl (decide_eq_false (by omega))⟩
theorem enc_ok (r : Nat) (h : r < 55296 ∨ 57343 < r) (h' : r ≤ 1114111) : rune1 (r : Int) = encC r := by
  rw [enc_c, va r h h']
  rfl
theorem enc_1 (r : Nat) (h : r < 128) : rune1 (r : Int) = [UInt8.ofNat r] := by
  rw [enc_ok r (by omega) (by omega), encC, if_pos h]
theorem enc_2 (r : Nat) (h : 128 ≤ r) (h' : r < 2048) : rune1 (r : Int) = [UInt8.ofNat (192 + r / 64), UInt8.ofNat (128 + r % 64)] := by
  rw [enc_ok r (by omega) (by omega), encC, if_neg (by omega), if_pos h']
theorem enc_3 (r : Nat) (h : 2048 ≤ r) (h' : r < 65536) (hv : r < 55296 ∨ 57343 < r) : rune1 (r : Int) = [UInt8.ofNat (224 + r / 4096), UInt8.ofNat (128 + r / 64 % 64), UInt8.ofNat (128 + r % 64)] := by
  rw [enc_ok r hv (by omega), encC, if_neg (by omega), if_neg (by omega), if_pos h']
theorem enc_4 (r : Nat) (h : 65536 ≤ r) (h' : r ≤ 1114111) : rune1 (r : Int) = [UInt8.ofNat (240 + r / 262144), UInt8.ofNat (128 + r / 4096 % 64), UInt8.ofNat (128 + r / 64 % 64), UInt8.ofNat (128 + r % 64)] := by
  rw [enc_ok r (by omega) h', encC, if_neg (by omega), if_neg (by omega), if_neg (by omega)]
theorem enc_5 (r : Nat) (h : 55296 ≤ r) (h' : r ≤ 57343) : rune1 (r : Int) = [239, 191, 189] := by
  rw [enc_c, vc r h h']
  simp only [Bool.false_eq_true, if_false, Utf8.runeError, encC]
  rfl
theorem enc_eq (r : Nat) (h : r ≤ 1114111) : rune1 (r : Int) = Lib.encodeRune (r : Int) := by
  unfold Lib.encodeRune Lib.encodeRuneZ
  by_cases h1 : r < 128
  · rw [if_pos (show (0 : Int) ≤ (r : Int) ∧ (r : Int) ≤ 127 by omega), enc_1 r h1]
    simp only [List.map_cons, List.map_nil, Int.toNat_natCast]
  · rw [if_neg (show ¬ ((0 : Int) ≤ (r : Int) ∧ (r : Int) ≤ 127) by omega)]
    by_cases h2 : r < 2048
    · rw [if_pos (show (128 : Int) ≤ (r : Int) ∧ (r : Int) ≤ 2047 by omega), enc_2 r (by omega) h2]
      have a1 : (192 + (r : Int) / 64).toNat = 192 + r / 64 := by omega
      have a2 : (128 + (r : Int) % 64).toNat = 128 + r % 64 := by omega
      simp only [List.map_cons, List.map_nil, a1, a2]
    · rw [if_neg (show ¬ ((128 : Int) ≤ (r : Int) ∧ (r : Int) ≤ 2047) by omega)]
      by_cases hv : r < 55296 ∨ 57343 < r
      · by_cases h3 : r < 65536
        · rw [if_pos (show ((2048 : Int) ≤ (r : Int) ∧ (r : Int) < 55296) ∨ ((57343 : Int) < (r : Int) ∧ (r : Int) ≤ 65535) by omega), enc_3 r (by omega) h3 hv]
          have a1 : (224 + (r : Int) / 4096).toNat = 224 + r / 4096 := by omega
          have a2 : (128 + (r : Int) / 64 % 64).toNat = 128 + r / 64 % 64 := by omega
          have a3 : (128 + (r : Int) % 64).toNat = 128 + r % 64 := by omega
          simp only [List.map_cons, List.map_nil, a1, a2, a3]
        · rw [if_neg (show ¬ (((2048 : Int) ≤ (r : Int) ∧ (r : Int) < 55296) ∨ ((57343 : Int) < (r : Int) ∧ (r : Int) ≤ 65535)) by omega), if_pos (show (65536 : Int) ≤ (r : Int) ∧ (r : Int) ≤ 1114111 by omega), enc_4 r (by omega) h]
          have a1 : (240 + (r : Int) / 262144).toNat = 240 + r / 262144 := by omega
          have a2 : (128 + (r : Int) / 4096 % 64).toNat = 128 + r / 4096 % 64 := by omega
          have a3 : (128 + (r : Int) / 64 % 64).toNat = 128 + r / 64 % 64 := by omega
          have a4 : (128 + (r : Int) % 64).toNat = 128 + r % 64 := by omega
          simp only [List.map_cons, List.map_nil, a1, a2, a3, a4]
      · rw [if_neg (show ¬ (((2048 : Int) ≤ (r : Int) ∧ (r : Int) < 55296) ∨ ((57343 : Int) < (r : Int) ∧ (r : Int) ≤ 65535)) by omega), if_neg (show ¬ ((65536 : Int) ≤ (r : Int) ∧ (r : Int) ≤ 1114111) by omega), enc_5 r (by omega) (by omega)]
        rfl

/-- What is valid is what its code points are encoded as. -/
theorem rn_valid : ∀ (f : Nat) (s : Str), s.length ≤ f → (Lib.validD s = true → runesStr (rn f s) = s) ∧ (Lib.validD s = false → s.length < (runesStr (rn f s)).length)
  | 0, s, h => by
    have : s = [] := List.eq_nil_of_length_eq_zero (by omega)
    subst this
    exact ⟨fun _ => rfl, fun h => by rw [Lib.validD_nil] at h; cases h⟩
  | f + 1, s, h => by
    unfold rn
    by_cases hne : s = []
    · subst hne
      exact ⟨fun _ => by simp [runesStr], fun h => by rw [Lib.validD_nil] at h; cases h⟩
    · have hw := Lib.decodeL_width s
      have hl := Lib.decodeL_le s hne
      obtain ⟨ih1, ih2⟩ := rn_valid f (s.drop (Lib.decodeL s).2) (by simp; omega)
      have e : runesStr (((Lib.decodeL s).1 : Int) :: rn f (s.drop (Lib.decodeL s).2)) = rune1 ((Lib.decodeL s).1 : Int) ++ runesStr (rn f (s.drop (Lib.decodeL s).2)) := by simp [runesStr]
      rw [if_neg hne, e, Lib.validD_step s hne]
      by_cases hb : (Lib.decodeL s).1 = 65533 ∧ (Lib.decodeL s).2 = 1
      · rw [if_pos hb]
        refine ⟨fun h => (by cases h), fun _ => ?_⟩
        have e3 : (rune1 ((Lib.decodeL s).1 : Int)).length = 3 := by rw [hb.1]; rfl
        have e4 : (s.drop (Lib.decodeL s).2).length ≤ (runesStr (rn f (s.drop (Lib.decodeL s).2))).length := by
          cases hv : Lib.validD (s.drop (Lib.decodeL s).2) with
          | true => rw [ih1 hv]; exact Nat.le_refl _
          | false => exact Nat.le_of_lt (ih2 hv)
        rw [List.length_append, e3]
        rw [List.length_drop, hb.2] at e4
        rw [hb.2]
        omega
      · rw [if_neg hb]
        have e5 : rune1 ((Lib.decodeL s).1 : Int) = s.take (Lib.decodeL s).2 := by rw [enc_eq _ (Lib.decodeL_rune s)]; exact Lib.encode_decode s hne hb
        refine ⟨fun hv => by rw [ih1 hv, e5, List.take_append_drop], fun hv => ?_⟩
        have := ih2 hv
        rw [List.length_append, e5, List.length_take]
        rw [List.length_drop] at this
        omega
theorem rn_le : ∀ (f : Nat) (s : Str), (rn f s).length ≤ s.length
  | 0, s => by simp [rn]
  | f + 1, s => by
    unfold rn
    by_cases h : s = []
    · simp [h]
    · have h1 := Lib.decodeL_width s
      have h2 := Lib.decodeL_le s h
      have h3 := rn_le f (s.drop (Lib.decodeL s).2)
      rw [List.length_drop] at h3
      rw [if_neg h, List.length_cons]
      omega
theorem runes_le (s : Str) : (runes s).length ≤ s.length := by rw [runes_eq]; exact rn_le _ s
theorem runes_valid {s : Str} (h : Lib.validD s = true) : runesStr (runes s) = s := by rw [runes_eq]; exact (rn_valid _ s (Nat.le_refl _)).1 h
/-- Is a text what its code points are encoded as? -/
theorem valid_eq (s : Str) : (runesStr (runes s) == s) = Lib.validD s := by
  rw [runes_eq]
  cases h : Lib.validD s with
  | true => simp [(rn_valid _ s (Nat.le_refl _)).1 h]
  | false =>
    have := (rn_valid _ s (Nat.le_refl _)).2 h
    rw [beq_eq_false_iff_ne]
    intro e
    rw [e] at this
    omega

/-! ### How many -/
theorem runesFrom_cnt (b : ByteArray) : ∀ (n i : Nat) (acc : Array Value), (Conv.runesFrom b n i acc).toList.length = acc.toList.length + Lib.runeCountFrom b n i
  | 0, i, acc => by simp [Conv.runesFrom, Lib.runeCountFrom]
  | n + 1, i, acc => by
    unfold Conv.runesFrom Lib.runeCountFrom
    split
    · rename_i h
      rw [runesFrom_cnt b n _ _]
      simp; omega
    · rfl
theorem runes_cnt (s : Str) : (runes s).length = rlen s := by
  unfold runes rlen Lib.runeCountL Lib.runeCount
  rw [List.length_map, runesFrom_cnt]
  simp [ByteArray.size]


end Go.Proofs.YtpjdafhmneiohaaDoor
