/- Texts of the proof of stepThroughCard -/
import Derived.Test.YtclohbgnaopjfaaDoorAgF
import Derived.Lib.RuneCount
import Derived.Lib.SlTrimSet
import Derived.Lib.ValidU
import Derived.Lib.MapLaws
import Derived.Lib.ValidLaws
import Derived.Test.YtclohbgnaopjfaaDoorAgWith
namespace Go.Proofs.YtclohbgnaopjfaaDoor
set_option linter.unusedSimpArgs false
set_option linter.unusedVariables false
open Go
theorem wh {x : Int} (h : -9223372036854775808 ≤ x ∧ x ≤ 9223372036854775807) : w64 x = x := as9 h
theorem wK {α : Type} {p : Prop} [Decidable p] (h : p) (x : Option α) : chk p x = x := if_pos h
theorem Ve {α : Type} {l : List α} {i : Nat} {x : α} (h : l[i]? = some x) : rd l (i : Int) = some x := by
  unfold rd; rw [if_pos (by omega)]; simpa using h
theorem J5 {α : Type} (pre suf : List α) (x : α) : rd (pre ++ x :: suf) (pre.length : Int) = some x := Ve (by simp)
theorem YJ {α : Type} {l : List α} {a b : Nat} (h1 : a ≤ b) (h2 : b ≤ l.length) : sl l (a : Int) (b : Int) = some ((l.take b).drop a) := by
  unfold sl; rw [if_pos (by omega)]; simp
theorem ap3 {α : Type} (pre suf : List α) : sl (pre ++ suf) 0 (pre.length : Int) = some pre := by
 have := YJ (l := pre ++ suf) (a := 0) (b := pre.length) (by omega) (by simp)
 simpa using this
theorem kU {α : Type} {z : Nat} {l ys : List α} (h : (l.length + ys.length) * z ≤ 140737488355328) : app z l ys = some (l ++ ys) := if_pos h
theorem wX {α : Type} (l : List α) : l = [] ∨ ∃ a x, l = a ++ [x] := by
 rcases List.eq_nil_or_concat l with h | ⟨a, x, h⟩
 ·exact .inl h
 ·exact .inr ⟨a, x, by simpa using h⟩
abbrev jb : Str := [116, 101, 120, 116]
def wN : List Str → Nat
 | [] => 0
 | s :: l => 1 + s.length + wN l
theorem ah6 {s : Str} : ∀ {l : List Str}, s ∈ l → s.length ≤ wN l
 | x :: l, h => by
  simp only [wN]
  rcases List.mem_cons.1 h with rfl | h
  ·omega
  ·have := ah6 h; omega
theorem afB (l : List Str) : l.length ≤ wN l := by
 induction l with
 | nil => simp
 | cons s l ih => simp only [List.length_cons, wN]; omega
end Go.Proofs.YtclohbgnaopjfaaDoor
namespace Go.Proofs.YtclohbgnaopjfaaDoor
set_option linter.unusedSimpArgs false
set_option linter.unusedVariables false
open Go
def isT (n : za) : Bool := n.Kind == jb
theorem YP (n : za) : (n.Kind == ([116, 101, 120, 116] : Str)) = isT n := rfl
theorem za.ind {p : za → Prop} (h : ∀ n : za, (∀ k ∈ n.Kids, p k) → p n) : ∀ n, p n
 | ⟨a, b, c, d, ks⟩ => h _ fun k hk => za.ind h k
 termination_by n => n
 decreasing_by
  have : SizeOf.sizeOf k < SizeOf.sizeOf ks := List.sizeOf_lt_of_mem hk
  simp only [za.mk.sizeOf_spec]
  omega
def agV (s : Str) : Nat := Lib.runeCountL s
theorem afz (s : Str) : agV s ≤ s.length := by
 have := Lib.runeCountFrom_le ⟨s.toArray⟩ (ByteArray.size ⟨s.toArray⟩) 0
 simpa [agV, Lib.runeCountL, Lib.runeCount, ByteArray.size] using this
theorem aj1 (s : Str) : ∀ (f k : Nat) (n : Int) (pos : Nat), s.length - pos ≤ f → f < k → 0 ≤ n → n + f ≤ 9223372036854775807 → zM s k n pos = some (n + Lib.runeCountFrom ⟨s.toArray⟩ f pos) := by
  intro f
  induction f with
  | zero =>
    intro k n pos h1 h2 h3 h4
    obtain ⟨k, rfl⟩ : ∃ j, k = j + 1 := ⟨k - 1, by omega⟩
    have : ¬ pos < s.length := by omega
    simp [zM, this, Lib.runeCountFrom]
  | succ f ih =>
    intro k n pos h1 h2 h3 h4
    obtain ⟨k, rfl⟩ : ∃ j, k = j + 1 := ⟨k - 1, by omega⟩
    rw [zM]
    by_cases hp : pos < s.length
    · have hw := Lib.decode_width_pos ⟨s.toArray⟩ pos (by simpa [ByteArray.size] using hp)
      simp only [hp, decide_true, if_true]
      rw [wh (by omega), ih k (n + 1) _ (by simp only [apT]; omega) (by omega) (by omega) (by omega)]
      have hs : pos < ByteArray.size ⟨s.toArray⟩ := by simpa [ByteArray.size] using hp
      simp only [Lib.runeCountFrom, hs, if_true, apT, Option.some.injEq]
      omega
    · have hs : ¬ pos < ByteArray.size ⟨s.toArray⟩ := by simpa [ByteArray.size] using hp
      simp [hp, Lib.runeCountFrom, hs]
theorem runeCount_eq (s : Str) (h : s.length ≤ 9223372036854775807) : qY s = some (agV s : Int) := by
  have key : (lim fun k => zM s k 0 0) = some (agV s : Int) := by
    refine VM (s.length + 1) fun k hk => ?_
    rw [aj1 s s.length k 0 0 (by omega) (by omega) (by omega) (by omega)]
    simp [agV, Lib.runeCountL, Lib.runeCount, ByteArray.size]
  unfold qY
  rw [key]
  rfl
mutual
def wF : za → Nat
 | ⟨k, t, _, _, ks⟩ => if (k == jb) = true then agV t else 2 + zF ks
def zF : List za → Nat
 | [] => 0
 | n :: l => wF n + zF l
end
mutual
def Qd : za → Nat
 | ⟨_, _, _, _, ks⟩ => 1 + kE ks
def kE : List za → Nat
 | [] => 0
 | n :: l => max (Qd n) (kE l)
end
def kz : List zh → Nat
 | [] => 0
 | a :: l => 1 + a.Name.length + a.Value.length + kz l
mutual
def nwt : za → Nat
 | ⟨k, t, m, a, ks⟩ => 2 + k.length + t.length + wN m + kz a + zN ks
def zN : List za → Nat
 | [] => 0
 | n :: l => nwt n + zN l
end
theorem jv (n : za) : wF n = if isT n = true then agV n.Text else 2 + zF n.Kids := by cases n; simp only [wF, isT]; rfl
theorem ZE {n : za} (h : isT n = false) : wF n = 2 + zF n.Kids := by rw [jv, h]; simp
theorem yJ (n : za) : Qd n = 1 + kE n.Kids := by cases n; simp only [Qd]
theorem wo (n : za) : nwt n = 2 + n.Kind.length + n.Text.length + wN n.Marks + kz n.zu + zN n.Kids := by cases n; simp only [nwt]
theorem kH (a b : List za) : zN (a ++ b) = zN a + zN b := by
 induction a with
 | nil => simp [zN]
 | cons n a ih => simp only [List.cons_append, zN, ih]; omega
theorem JO (a b : List za) : zF (a ++ b) = zF a + zF b := by
 induction a with
 | nil => simp [zF]
 | cons n a ih => simp only [List.cons_append, zF, ih]; omega
theorem wV (l : List za) : 2 * l.length ≤ zN l := by
 induction l with
 | nil => simp
 | cons n l ih => have := wo n; simp only [zN, List.length_cons]; omega
theorem yF {n : za} : ∀ {l : List za}, n ∈ l → nwt n ≤ zN l
 | x :: l, h => by
  simp only [zN]
  rcases List.mem_cons.1 h with rfl | h
  ·omega
  ·have := yF h; omega
theorem Za {n : za} : ∀ {l : List za}, n ∈ l → Qd n ≤ kE l
 | x :: l, h => by
  simp only [kE]
  rcases List.mem_cons.1 h with rfl | h
  ·omega
  ·have := Za h; omega
theorem xw (n : za) : zN n.Kids ≤ nwt n := by have := wo n; omega
theorem adx : ∀ (l : List za), (∀ n ∈ l, wF n ≤ nwt n) → zF l ≤ zN l
 | [], _ => by simp [zF, zN]
 | n :: l, h => by
  have h1 := h n (by simp)
  have h2 := adx l fun x hx => h x (by simp [hx])
  simp only [zF, zN]; omega
theorem ahh (n : za) : wF n ≤ nwt n := by
 induction n using za.ind with
 | h n ih =>
  have h1 := adx n.Kids ih
  have h2 := afz n.Text
  rw [jv, wo]
  split <;> omega
theorem kT (l : List za) : zF l ≤ zN l := adx l fun n _ => ahh n
theorem KF (n : za) : jd n = some (isT n) := by unfold jd isT; rfl
theorem ahb (sz : za → Option Int) : ∀ (l : List za) (i acc : Int), (∀ k ∈ l, sz k = some (wF k : Int)) → 0 ≤ acc → acc + zF l ≤ 9223372036854775807 → vZ sz l i acc = some (acc + zF l)
  | [], i, acc, _, _, _ => by simp [vZ, zF]
  | n :: l, i, acc, h, h0, hb => by
    simp only [zF] at hb
    rw [vZ, h n (by simp)]
    simp only [Option.bind_some]
    rw [wh (by omega), ahb sz l _ _ (fun k hk => h k (by simp [hk])) (by omega) (by omega)]
    simp only [zF, Option.some.injEq]
    omega
theorem aqd (n : za) : nwt n ≤ 1099511627776 → ∀ kr, 2 * Qd n ≤ kr → jh kr n = some (wF n : Int) := by
  induction n using za.ind with
  | h n ih =>
    intro hw kr hk
    have hd := yJ n
    obtain ⟨kr, rfl⟩ : ∃ j, kr = j + 1 + 1 := ⟨kr - 2, by omega⟩
    have hwt := wo n
    have hl := wV n.Kids
    have hs := kT n.Kids
    rw [jh, KF, jv]
    simp only [Option.bind_some]
    by_cases ht : isT n = true
    · simp only [ht, if_true]
      rw [runeCount_eq _ (by omega)]
      rfl
    · simp only [ht, Bool.false_eq_true, if_false]
      rw [xG, wK (by omega), ahb (jh kr) n.Kids 0 0 (fun k hkk => ih k hkk (by have := yF hkk; omega) kr (by have := Za hkk; omega)) (by omega) (by omega)]
      simp only [Option.bind_some]
      rw [wh (by omega)]
      simp only [Option.some.injEq]
      omega
theorem size_eq (n : za) (h : nwt n ≤ 1099511627776) : yI n = some (wF n : Int) := by
 unfold yI
 exact VM (2 * Qd n) fun k hk => aqd n h k hk
theorem JC (l : List za) (h : zN l ≤ 1099511627776) : jr l = some (zF l : Int) := by
  unfold jr
  refine VM (2 * kE l + 1) fun kr hk => ?_
  obtain ⟨kr, rfl⟩ : ∃ j, kr = j + 1 := ⟨kr - 1, by omega⟩
  have hl := wV l
  have hs := kT l
  rw [xG, wK (by omega), ahb (jh kr) l 0 0 (fun k hkk => aqd k (by have := yF hkk; omega) kr (by have := Za hkk; omega)) (by omega) (by omega)]
  simp
theorem acN (b : List Str) : ∀ (suf pre : List Str) (i : Int), i = (pre.length : Int) → b.length = pre.length + suf.length → b.take pre.length = pre → qw b suf i = some (if pre ++ suf = b then .inr () else .inl false)
  | [], pre, i, hi, hl, ht => by
    have : pre = b := by
      rw [← ht, List.take_of_length_le]
      simp at hl; omega
    simp [qw, this]
  | y :: suf, pre, i, hi, hl, ht => by
    simp only [List.length_cons] at hl
    obtain ⟨x, hx⟩ : ∃ x, b[pre.length]? = some x := ⟨b[pre.length], List.getElem?_eq_getElem (by omega)⟩
    rw [qw, hi, Ve hx]
    simp only [Option.bind_some]
    have htk : b.take (pre.length + 1) = pre ++ [x] := by
      rw [List.take_add_one, ht, hx]
      rfl
    by_cases hxy : y = x
    · subst hxy
      simp only [beq_self_eq_true, Bool.not_true, Bool.false_eq_true, if_false]
      rw [acN b suf (pre ++ [y]) _ (by simp) (by simp; omega) (by simpa using htk)]
      simp
    · have : ¬ pre ++ y :: suf = b := by
        intro h
        rw [← h] at hx
        simp at hx
        exact hxy hx
      simp [hxy, this]
theorem ajL (a b : List Str) (h : a.length ≤ 9223372036854775807) : kQ a b = some (decide (a = b)) := by
  unfold kQ
  by_cases hl : a.length = b.length
  · simp only [hl, bne_self_eq_false, Bool.false_eq_true, if_false]
    rw [wK (by omega), acN b a [] 0 rfl (by simp [hl]) (by simp)]
    by_cases e : a = b <;> simp [e]
  · have h1 : ((a.length : Int) != (b.length : Int)) = true := by simp; omega
    have h2 : ¬ a = b := fun e => hl (by rw [e])
    rw [if_pos h1]
    simp [h2]
def joinStep (out : List za) (n : za) : List za :=
 if (isT n && n.Text == []) = true then out
 else match out.getLast? with
  | some x => if (isT n && isT x && decide (x.Marks = n.Marks)) = true then out.dropLast ++ [{ n with Text := x.Text ++ n.Text }] else out ++ [n]
  | none => out ++ [n]
def yu (l : List za) : List za := l.foldl joinStep []
theorem ve (n : za) : joinStep [] n = if (isT n && n.Text == []) = true then [] else [n] := by
 unfold joinStep; rfl
theorem wH (o : List za) (x n : za) : joinStep (o ++ [x]) n = if (isT n && n.Text == []) = true then o ++ [x] else if (isT n && isT x && decide (x.Marks = n.Marks)) = true then o ++ [{ n with Text := x.Text ++ n.Text }] else o ++ [x, n] := by
 unfold joinStep
 simp
theorem Yi (o : List za) (n : za) : zN (joinStep o n) ≤ zN o + nwt n := by
 rcases wX o with rfl | ⟨o, x, rfl⟩
 ·rw [ve]
  split <;> simp [zN]
 ·rw [wH]
  split
  ·omega
  ·split
   ·simp only [kH, zN, wo, List.length_append]
    omega
   ·simp only [kH, zN]
    omega
theorem anS : ∀ (l o : List za), zN (l.foldl joinStep o) ≤ zN o + zN l
 | [], o => by simp [zN]
 | n :: l, o => by
  have h1 := Yi o n
  have h2 := anS l (joinStep o n)
  simp only [List.foldl_cons, zN]
  omega
theorem ab6 (l : List za) : zN (yu l) ≤ zN l := by
 have := anS l []
 simpa [yu, zN] using this
end Go.Proofs.YtclohbgnaopjfaaDoor
namespace Go.Proofs.YtclohbgnaopjfaaDoor
set_option linter.unusedSimpArgs false
set_option linter.unusedVariables false
open Go
def wu (a b : za) : Bool := isT a && isT b && decide (a.Marks = b.Marks)
def vo : List za → Prop
 | a :: b :: l => wu a b = false ∧ vo (b :: l)
 | _ => True
end Go.Proofs.YtclohbgnaopjfaaDoor
namespace Go.Proofs.YtclohbgnaopjfaaDoor
set_option linter.unusedSimpArgs false
set_option linter.unusedVariables false
open Go
def akZ (b : Bool) : Bool ⊕ Unit := match b with
 | true => .inr ()
 | false => .inl false
def letter (b : UInt8) : Bool := decide (97 ≤ b.toNat) && decide (b.toNat ≤ 122)
abbrev abc : Str := [97, 98, 99, 100, 101, 102, 103, 104, 105, 106, 107, 108, 109, 110, 111, 112, 113, 114, 115, 116, 117, 118, 119, 120, 121, 122]
def isName (s : Str) : Bool := s.all letter && decide (s ≠ []) && decide (s.length ≤ 8) && decide (s ≠ jb)
theorem ajv (b : UInt8) : abc.contains b = letter b := by
 have h : ∀ n, n < 256 → abc.contains (UInt8.ofNat n) = letter (UInt8.ofNat n) := by decide +kernel
 have := h b.toNat b.toNat_lt
 simpa using this
theorem agm (p : UInt8 → Bool) : ∀ l : Str, (∀ x ∈ l.dropWhile p, p x = true) → ∀ x ∈ l, p x = true
  | [], _ => by simp
  | a :: l, h => by
    by_cases ha : p a = true
    · rw [List.dropWhile_cons_of_pos ha] at h
      intro x hx
      rcases List.mem_cons.1 hx with rfl | hx
      · exact ha
      · exact agm p l h x hx
    · rw [List.dropWhile_cons_of_neg ha] at h
      exact (ha (h a (by simp))).elim
theorem alK (p : UInt8 → Bool) : ∀ l : Str, (∀ x ∈ l, p x = true) → l.dropWhile p = []
  | [], _ => rfl
  | a :: l, h => by
    rw [List.dropWhile_cons_of_pos (h a (by simp))]
    exact alK p l fun x hx => h x (by simp [hx])
theorem aqF (s : Str) : (Lib.trimS s abc == []) = s.all letter := by
  have hp : (fun b => abc.contains b) = letter := funext ajv
  unfold Lib.trimS Lib.trimLeftS Lib.trimRightS
  rw [hp]
  cases h : s.all letter with
  | true =>
    have h' := List.all_eq_true.1 h
    rw [alK letter s.reverse fun x hx => h' x (by simpa using hx)]
    rfl
  | false =>
    rw [beq_eq_false_iff_ne]
    intro e
    have h1 : ∀ x ∈ (s.reverse.dropWhile letter).reverse, letter x = true := agm letter _ (by rw [e]; simp)
    have h2 := agm letter s.reverse fun x hx => h1 x (by simpa using hx)
    have h3 : s.all letter = true := List.all_eq_true.2 fun x hx => h2 x (by simpa using hx)
    rw [h] at h3
    cases h3
theorem abU (s : Str) (h : s.length ≤ 9223372036854775807) : yG s = some (isName s) := by
 unfold yG Kv isName
 rw [wK ⟨h, by decide, by decide⟩]
 simp only [Option.bind_some, aqF]
 cases h1 : s.all letter with
 | false => simp
 | true =>
  by_cases h2 : s = []
  ·simp [h2]
  ·by_cases h3 : s.length ≤ 8
   ·have g3 : decide ((s.length : Int) ≤ 8) = true := by simp; omega
    have g2 : (s == []) = false := by simpa using h2
    simp only [if_true, g2, Bool.not_false, g3, h2, h3, ne_eq, not_false_eq_true, decide_true, Bool.true_and]
    by_cases h4 : s = jb <;> simp [h4]
   ·have g3 : decide ((s.length : Int) ≤ 8) = false := by simp; omega
    have g2 : (s == []) = false := by simpa using h2
    simp only [if_true, g2, Bool.not_false, g3, Bool.false_eq_true, if_false]
    simp [h3]
end Go.Proofs.YtclohbgnaopjfaaDoor
namespace Go.Proofs.YtclohbgnaopjfaaDoor
set_option linter.unusedSimpArgs false
set_option linter.unusedVariables false
open Go
def isValue (s : Str) : Bool := decide (s.length ≤ 40) && Lib.validD s
theorem alQ (s : Str) (h : s.length ≤ 9223372036854775807) : Q3 s = some (isValue s) := by
 unfold Q3 wI isValue
 rw [wK h]
 by_cases h3 : s.length ≤ 40
 ·have g3 : decide ((s.length : Int) ≤ 40) = true := by simp; omega
  simp [g3, h3]
 ·have g3 : decide ((s.length : Int) ≤ 40) = false := by simp; omega
  simp only [g3, Bool.false_eq_true, if_false]
  simp [h3]
def yM : Option Str → List Str → Bool
 | _, [] => true
 | last, y :: l => isName y && (match last with | none => true | some x => !(Op.bytesLess y x || y == x)) && yM (some y) l
theorem KS (last : Option Str) (y : Str) (l : List Str) : yM last (y :: l) = (isName y && (match last with | none => true | some x => !(Op.bytesLess y x || y == x)) && yM (some y) l) := by cases last <;> rfl
def xh (l : List Str) : Bool := yM none l
theorem anN : ∀ (suf pre : List Str), (∀ s ∈ suf, s.length ≤ 9223372036854775807) → (pre ++ suf).length ≤ 4611686018427387904 → kX (pre ++ suf) suf (pre.length : Int) = some (akZ (yM pre.getLast? suf))
  | [], pre, _, _ => by simp [kX, yM, akZ]
  | y :: suf, pre, h, hb => by
    have e : (pre.length : Int) + 1 = ((pre ++ [y]).length : Int) := by simp
    have ih := anN suf (pre ++ [y]) (fun s hs => h s (by simp [hs])) (by simpa using hb)
    rw [List.append_assoc, List.singleton_append, ← e, List.getLast?_append, List.getLast?_singleton] at ih
    simp only [Option.some_or] at ih
    rw [kX, abU y (h y (by simp))]
    simp only [Option.bind_some]
    rw [KS]
    rcases Bool.eq_false_or_eq_true (isName y) with hn | hn
    rotate_left
    · simp [hn, akZ]
    · rw [hn]
      simp only [Bool.not_true, Bool.false_eq_true, if_false, Bool.true_and]
      rcases wX pre with rfl | ⟨p, x, rfl⟩
      · have g : decide ((([] : List Str).length : Int) > 0) = false := by decide
        simp only [g, Bool.false_eq_true, if_false]
        rw [ih]
        simp
      · have g : decide (((p ++ [x]).length : Int) > 0) = true := decide_eq_true (by simp only [List.length_append, List.length_cons, List.length_nil]; omega)
        have hr : rd (p ++ [x] ++ y :: suf) (w64 (((p ++ [x]).length : Int) - 1)) = some x := by
          simp only [List.length_append, List.length_cons, List.length_nil] at hb
          rw [wh (by simp; omega)]
          have e2 : ((p ++ [x]).length : Int) - 1 = (p.length : Int) := by simp
          rw [e2, List.append_assoc]
          exact J5 p (y :: suf) x
        simp only [g, if_true, hr, Option.bind_some, List.getLast?_append, List.getLast?_singleton, Option.some_or]
        rcases Bool.eq_false_or_eq_true (Op.bytesLess y x || y == x) with hc | hc
        · simp only [hc, if_true, Bool.not_true, Bool.false_and, akZ]
        · simp only [hc, Bool.false_eq_true, if_false, Bool.not_false, Bool.true_and]
          exact ih
theorem anq (l : List Str) (h : ∀ s ∈ l, s.length ≤ 9223372036854775807) (hb : l.length ≤ 4611686018427387904) : KG l = some (xh l) := by
  have h0 := anN l [] h (by simpa using hb)
  have h0' : kX l l 0 = _ := h0
  unfold KG
  rw [wK (by omega), h0']
  simp only [Option.bind_some, List.getLast?_nil, xh]
  cases yM none l <;> rfl
theorem apR (b : List Str) : ∀ (suf pre : List Str) (i : Int), i = (pre.length : Int) → b.length = pre.length + suf.length → b.take pre.length = pre → qb b suf i = some (if pre ++ suf = b then .inr () else .inl false)
  | [], pre, i, hi, hl, ht => by
    have : pre = b := by
      rw [← ht, List.take_of_length_le]
      simp at hl; omega
    simp [qb, this]
  | y :: suf, pre, i, hi, hl, ht => by
    simp only [List.length_cons] at hl
    obtain ⟨x, hx⟩ : ∃ x, b[pre.length]? = some x := ⟨b[pre.length], List.getElem?_eq_getElem (by omega)⟩
    rw [qb, hi, Ve hx]
    simp only [Option.bind_some]
    have htk : b.take (pre.length + 1) = pre ++ [x] := by
      rw [List.take_add_one, ht, hx]
      rfl
    by_cases hxy : y = x
    · subst hxy
      simp only [beq_self_eq_true, Bool.not_true, Bool.false_eq_true, if_false]
      rw [apR b suf (pre ++ [y]) _ (by simp) (by simp; omega) (by simpa using htk)]
      simp
    · have : ¬ pre ++ y :: suf = b := by
        intro h
        rw [← h] at hx
        simp at hx
        exact hxy hx
      simp [hxy, this]
theorem aum (a b : List Str) (h : a.length ≤ 9223372036854775807) : slices_Equal_string a b = some (decide (a = b)) := by
  unfold slices_Equal_string
  by_cases hl : a.length = b.length
  · simp only [hl, bne_self_eq_false, Bool.false_eq_true, if_false]
    rw [wK (by omega), apR b a [] 0 rfl (by simp [hl]) (by simp)]
    by_cases e : a = b <;> simp [e]
  · have h1 : ((a.length : Int) != (b.length : Int)) = true := by simp; omega
    have h2 : ¬ a = b := fun e => hl (by rw [e])
    rw [if_pos h1]
    simp [h2]
theorem alu (a b : za) (h : a.Marks.length ≤ 9223372036854775807) : ZB a b = some (wu a b) := by
 unfold ZB wu
 rw [KF, KF]
 simp only [Option.bind_some]
 rw [aum _ _ h]
 cases isT a <;> cases isT b <;> simp
mutual
def zX : za → Bool
 | ⟨k, t, m, a, ks⟩ => if (k == jb) = true then (decide (t ≠ []) && Lib.validD t && xh m && decide (a.length + ks.length = 0)) else (a.all (fun x => isValue x.Value) && isName k && decide (t = []) && decide (m = []) && xh (a.map (·.Name)) && xQ none ks)
def xQ : Option za → List za → Bool
 | _, [] => true
 | last, n :: l => zX n && (match last with | none => true | some x => !wu x n) && xQ (some n) l
end
theorem WA (last : Option za) (n : za) (l : List za) : xQ last (n :: l) = (zX n && (match last with | none => true | some x => !wu x n) && xQ (some n) l) := by cases last <;> simp only [xQ]
theorem abF (last : Option za) : xQ last [] = true := by cases last <;> simp only [xQ]
theorem jC (n : za) : zX n = if isT n = true then (decide (n.Text ≠ []) && Lib.validD n.Text && xh n.Marks && decide (n.zu.length + n.Kids.length = 0)) else (n.zu.all (fun x => isValue x.Value) && isName n.Kind && decide (n.Text = []) && decide (n.Marks = []) && xh (n.zu.map (·.Name)) && xQ none n.Kids) := by
 cases n; simp only [zX, isT]; rfl
theorem ahF {a : zh} : ∀ {l : List zh}, a ∈ l → a.Name.length + a.Value.length ≤ kz l
 | x :: l, h => by
  simp only [kz]
  rcases List.mem_cons.1 h with rfl | h
  ·omega
  ·have := ahF h; omega
theorem arz (l : List zh) : l.length ≤ kz l := by
 induction l with
 | nil => simp
 | cons s l ih => simp only [List.length_cons, kz]; omega
theorem aiU : ∀ (l : List zh) (i : Int) (out : List Str), (out.length + l.length) * 16 ≤ 140737488355328 → kz l ≤ 1099511627776 → vz l i out = some (if l.all (fun x => isValue x.Value) = true then .inr (out ++ l.map (·.Name)) else .inl false)
  | [], i, out, _, _ => by simp [vz]
  | a :: l, i, out, hb, hw => by
    simp only [kz] at hw
    simp only [List.length_cons] at hb
    rw [vz, alQ _ (by omega)]
    simp only [Option.bind_some]
    rcases Bool.eq_false_or_eq_true (isValue a.Value) with hv | hv
    rotate_left
    · simp [hv]
    · simp only [hv, Bool.not_true, Bool.false_eq_true, if_false, List.all_cons, Bool.true_and]
      rw [kU (by simp; omega)]
      simp only [Option.bind_some]
      rw [aiU l _ _ (by simp; omega) (by omega)]
      simp
theorem ail (n : za) (f : za → Option Bool) : ∀ (suf pre : List za), n.Kids = pre ++ suf → (∀ k ∈ suf, f k = some (zX k)) → zN n.Kids ≤ 1099511627776 → kC n f suf (pre.length : Int) = some (akZ (xQ pre.getLast? suf))
  | [], pre, _, _, _ => by simp [kC, abF, akZ]
  | y :: suf, pre, hk, hf, hw => by
    have e : (pre.length : Int) + 1 = ((pre ++ [y]).length : Int) := by simp
    have ih := ail n f suf (pre ++ [y]) (by rw [hk]; simp) (fun s hs => hf s (by simp [hs])) hw
    rw [← e, List.getLast?_append, List.getLast?_singleton] at ih
    simp only [Option.some_or] at ih
    rw [kC, hf y (by simp)]
    simp only [Option.bind_some]
    rw [WA]
    rcases Bool.eq_false_or_eq_true (zX y) with hn | hn
    rotate_left
    · simp [hn, akZ]
    · rw [hn]
      simp only [Bool.not_true, Bool.false_eq_true, if_false, Bool.true_and]
      rcases wX pre with rfl | ⟨p, x, rfl⟩
      · have g : decide ((([] : List za).length : Int) > 0) = false := by decide
        simp only [g, Bool.false_eq_true, if_false]
        rw [ih]
        simp
      · have g : decide (((p ++ [x]).length : Int) > 0) = true := decide_eq_true (by simp only [List.length_append, List.length_cons, List.length_nil]; omega)
        have hl := wV n.Kids
        have hr : rd n.Kids (w64 (((p ++ [x]).length : Int) - 1)) = some x := by
          rw [hk] at hl ⊢
          simp only [List.length_append, List.length_cons, List.length_nil] at hl
          rw [wh (by simp; rw [hk] at hw; omega)]
          have e2 : ((p ++ [x]).length : Int) - 1 = (p.length : Int) := by simp
          rw [e2, List.append_assoc]
          exact J5 p (y :: suf) x
        have hx : nwt x ≤ zN n.Kids := yF (by rw [hk]; simp)
        have hxw := wo x
        have hxm := afB x.Marks
        simp only [g, if_true, hr, Option.bind_some, List.getLast?_append, List.getLast?_singleton, Option.some_or]
        rw [alu x y (by omega)]
        simp only [Option.bind_some]
        rcases Bool.eq_false_or_eq_true (wu x y) with hc | hc
        · simp only [hc, if_true, Bool.not_true, Bool.false_and, akZ]
        · simp only [hc, Bool.false_eq_true, if_false, Bool.not_false, Bool.true_and]
          exact ih
theorem aq4 (n : za) : nwt n ≤ 1099511627776 → ∀ kr, Qd n ≤ kr → kG kr n = some (zX n) := by
  induction n using za.ind with
  | h n ih =>
    intro hw kr hk
    have hd := yJ n
    obtain ⟨kr, rfl⟩ : ∃ j, kr = j + 1 := ⟨kr - 1, by omega⟩
    have hwt := wo n
    have hl := wV n.Kids
    have hm := afB n.Marks
    have ha := arz n.zu
    rw [kG, KF, jC]
    simp only [Option.bind_some]
    by_cases ht : isT n = true
    · simp only [ht, if_true]
      by_cases h1 : n.Text = []
      · simp [h1]
      · have g1 : (n.Text == []) = false := by simpa using h1
        simp only [g1, Bool.not_false, if_true]
        unfold wI
        rw [wK (by omega)]
        simp only [Option.bind_some]
        cases hv : Lib.validD n.Text with
        | false => simp
        | true =>
          simp only [if_true]
          rw [anq _ (fun s hs => by have := ah6 hs; omega) (by omega)]
          simp only [Option.bind_some]
          rw [wh (by omega)]
          cases hr : xh n.Marks with
          | false => simp
          | true =>
            simp only [if_true, ne_eq, h1, not_false_eq_true, decide_true, Bool.true_and, Option.some.injEq]
            rw [Bool.eq_iff_iff]
            simp only [beq_iff_eq, decide_eq_true_eq]
            omega
    · simp only [ht, Bool.false_eq_true, if_false]
      rw [wK (by omega), aiU _ _ _ (by simp; omega) (by omega)]
      simp only [Option.bind_some]
      cases hv : n.zu.all (fun x => isValue x.Value) with
      | false => simp
      | true =>
        simp only [if_true, List.nil_append, Bool.true_and]
        rw [abU _ (by omega)]
        simp only [Option.bind_some]
        cases h2 : isName n.Kind with
        | false => simp
        | true =>
          simp only [Bool.not_true, Bool.false_eq_true, if_false, Bool.true_and]
          by_cases h3 : n.Text = []
          · by_cases h4 : n.Marks = []
            · have g4 : decide ((n.Marks.length : Int) > 0) = false := by simp [h4]
              have g3 : (n.Text == []) = true := by simp [h3]
              simp only [g3, Bool.not_true, Bool.false_eq_true, if_false, g4]
              rw [anq _ (fun s hs => by
                obtain ⟨a, ha', rfl⟩ := List.mem_map.1 hs
                have := ahF ha'; omega) (by simp; omega)]
              simp only [Option.bind_some]
              cases hr : xh (n.zu.map (·.Name)) with
              | false => simp
              | true =>
                simp only [Bool.not_true, Bool.false_eq_true, if_false]
                have h0 := ail n (kG kr) n.Kids [] rfl (fun k hkk => ih k hkk (by have := yF hkk; omega) kr (by have := Za hkk; omega)) (by omega)
                have h0' : kC n (kG kr) n.Kids 0 = _ := h0
                rw [wK (by omega), h0']
                simp only [Option.bind_some, List.getLast?_nil, h3, h4, decide_true, Bool.true_and]
                cases xQ none n.Kids <;> rfl
            · have g4 : decide ((n.Marks.length : Int) > 0) = true := by
                have := List.length_pos_iff.2 h4
                simp; omega
              have g3 : (n.Text == []) = true := by simp [h3]
              simp only [g3, Bool.not_true, Bool.false_eq_true, if_false, g4, if_true]
              simp [h4]
          · have g3 : (n.Text == []) = false := by simpa using h3
            simp only [g3, Bool.not_false, if_true]
            simp [h3]
theorem aoS (n : za) (h : nwt n ≤ 1099511627776) : WG n = some (zX n) := by
 unfold WG
 exact VM (Qd n) fun kr hk => aq4 n h kr hk
mutual
def yf : za → Nat
 | ⟨k, _, _, _, ks⟩ => if (k == jb) = true then 0 else wm ks + 1
def wm : List za → Nat
 | [] => 0
 | n :: l => max (yf n) (wm l)
end
theorem Qo (n : za) : yf n = if isT n = true then 0 else wm n.Kids + 1 := by cases n; simp only [yf, isT]; rfl
theorem alT : ∀ (l : List za), (∀ n ∈ l, yf n ≤ Qd n) → wm l ≤ kE l
 | [], _ => by simp [wm, kE]
 | n :: l, h => by
  have h1 := h n (by simp)
  have h2 := alT l fun x hx => h x (by simp [hx])
  simp only [wm, kE]; omega
theorem anM (n : za) : yf n ≤ Qd n := by
 induction n using za.ind with
 | h n ih =>
  have h1 := alT n.Kids ih
  rw [Qo, yJ]
  split <;> omega
theorem ahJ (l : List za) (h : ∀ n ∈ l, Qd n ≤ nwt n) : kE l ≤ zN l := by
 induction l with
 | nil => simp [kE, zN]
 | cons k l ih =>
  have h1 := h k (by simp)
  have h2 := ih fun x hx => h x (by simp [hx])
  simp only [kE, zN]; omega
theorem anv (n : za) : Qd n ≤ nwt n := by
 induction n using za.ind with
 | h n ih =>
  have h1 := ahJ n.Kids ih
  have h2 := yJ n
  have h3 := wo n
  omega
theorem al2 (f : za → Option Int) : ∀ (l : List za) (i : Int) (d : Nat), (∀ k ∈ l, f k = some (yf k : Int)) → kY f l i (d : Int) = some ((max d (wm l) : Nat) : Int)
  | [], i, d, _ => by simp [kY, wm]
  | n :: l, i, d, h => by
    rw [kY, h n (by simp)]
    simp only [Option.bind_some]
    have e : (if (yf n : Int) > (d : Int) then (yf n : Int) else (d : Int)) = ((max d (yf n) : Nat) : Int) := by split <;> omega
    rw [e, al2 f l _ _ fun k hk => h k (by simp [hk])]
    simp only [wm, Option.some.injEq]
    omega
theorem as1 (n : za) : nwt n ≤ 1099511627776 → ∀ kr, Qd n ≤ kr → kZ kr n = some (yf n : Int) := by
  induction n using za.ind with
  | h n ih =>
    intro hw kr hk
    have hd := yJ n
    obtain ⟨kr, rfl⟩ : ∃ j, kr = j + 1 := ⟨kr - 1, by omega⟩
    have hwt := wo n
    have hl := wV n.Kids
    have hdl := anM n
    have hdw := anv n
    rw [kZ, KF]
    simp only [Option.bind_some]
    by_cases ht : isT n = true
    · simp [ht, Qo n]
    · have e := Qo n
      rw [if_neg ht] at e
      simp only [ht, Bool.false_eq_true, if_false]
      have h0 := al2 (kZ kr) n.Kids 0 0 (fun k hkk => ih k hkk (by have := yF hkk; omega) kr (by have := Za hkk; omega))
      have h0' : kY (kZ kr) n.Kids 0 0 = _ := h0
      rw [wK (by omega), h0']
      simp only [Option.bind_some, Nat.zero_max]
      rw [wh (by omega), e]
      rfl
theorem art (n : za) (h : nwt n ≤ 1099511627776) : KY n = some (yf n : Int) := by
 unfold KY
 exact VM (Qd n) fun kr hk => as1 n h kr hk
def checkN (n : za) : Int := if zX n = false then 2 else if 40 < yf n then 4 else if 4000 < wF n then 5 else 0
theorem aco (n : za) (h : nwt n ≤ 1099511627776) : yw n = some (checkN n) := by
 unfold yw checkN
 rw [aoS n h]
 simp only [Option.bind_some]
 cases hf : zX n with
 | false => simp
 | true =>
  simp only [Bool.not_true, Bool.false_eq_true, if_false]
  rw [art n h]
  simp only [Option.bind_some]
  by_cases hd : 40 < yf n
  ·have g : decide ((yf n : Int) > 40) = true := by simp; omega
   simp [g, hd]
  ·have g : decide ((yf n : Int) > 40) = false := by simp; omega
   simp only [g, Bool.false_eq_true, if_false]
   rw [size_eq n h]
   simp only [Option.bind_some, hd, if_false]
   by_cases hs : 4000 < wF n
   ·have g : decide ((wF n : Int) > 4000) = true := by simp; omega
    simp [g, hs]
   ·have g : decide ((wF n : Int) > 4000) = false := by simp; omega
    simp only [g, Bool.false_eq_true, if_false, hs]
    simp
end Go.Proofs.YtclohbgnaopjfaaDoor
namespace Go.Proofs.YtclohbgnaopjfaaDoor
set_option linter.unusedSimpArgs false
set_option linter.unusedVariables false
open Go
theorem akd (p : List za) (x n : za) (hx : isT x = true) (hn : isT n = true) (hm : x.Marks = n.Marks) (ha : x.zu = n.zu) (hk : x.Kids = n.Kids) : joinStep (joinStep p x) n = joinStep p { n with Text := x.Text ++ n.Text } := by
 have hkd : x.Kind = n.Kind := by
  have h1 : x.Kind = jb := by simpa [isT] using hx
  have h2 : n.Kind = jb := by simpa [isT] using hn
  rw [h1, h2]
 have hxn : ({ n with Text := x.Text ++ n.Text } : za).Marks = n.Marks := rfl
 have hnt : isT { n with Text := x.Text ++ n.Text } = true := hn
 by_cases hx0 : x.Text = []
 ·have e1 : joinStep p x = p := by unfold joinStep; simp [hx, hx0]
  have e2 : ({ n with Text := x.Text ++ n.Text } : za) = n := by cases n; simp [hx0]
  rw [e1, e2]
 ·by_cases hn0 : n.Text = []
  ·have e1 : ∀ o, joinStep o n = o := fun o => by unfold joinStep; simp [hn, hn0]
   have e2 : ({ n with Text := x.Text ++ n.Text } : za) = x := by cases x; cases n; simp_all
   rw [e1, e2]
  ·have hxn0 : (({ n with Text := x.Text ++ n.Text } : za).Text == []) = false := by simp [hx0]
   have hx0' : (x.Text == []) = false := by simpa using hx0
   have hn0' : (n.Text == []) = false := by simpa using hn0
   rcases wX p with rfl | ⟨p, y, rfl⟩
   ·rw [ve, ve]
    simp only [hx0', Bool.and_false, Bool.false_eq_true, if_false, hxn0]
    have := wH [] x n
    rw [List.nil_append] at this
    rw [this]
    simp [hn, hx, hn0', hm]
   ·rw [wH, wH]
    simp only [hx0', Bool.and_false, Bool.false_eq_true, if_false, hxn0, hx, hnt, Bool.true_and]
    by_cases hc : (isT y && decide (y.Marks = n.Marks)) = true
    ·have hc' : (isT y && decide (y.Marks = x.Marks)) = true := by rw [hm]; exact hc
     rw [if_pos hc', if_pos hc, wH]
     have hxt : ∀ m, isT { x with Text := y.Text ++ x.Text, Marks := m } = true := fun _ => hx
     simp [hn, hn0', hxt, hm, List.append_assoc]
    ·have hc' : ¬ (isT y && decide (y.Marks = x.Marks)) = true := by rw [hm]; exact hc
     rw [if_neg hc', if_neg hc]
     have := wH (p ++ [y]) x n
     rw [List.append_assoc] at this
     rw [List.singleton_append] at this
     rw [this]
     simp [hn, hx, hn0', hm]
def Plain (n : za) : Prop := isT n = true → n.zu = [] ∧ n.Kids = []
end Go.Proofs.YtclohbgnaopjfaaDoor
namespace Go.Proofs.YtclohbgnaopjfaaDoor
set_option linter.unusedSimpArgs false
set_option linter.unusedVariables false
open Go
theorem anD : ∀ (l : List za) (i : Int) (o : List za), zN o + zN l ≤ 1099511627776 → zW l i o = some (l.foldl joinStep o)
  | [], i, o, _ => by simp [zW]
  | n :: l, i, o, hw => by
    simp only [zN] at hw
    have hjw := Yi o n
    have ih := anD l (i + 1) (joinStep o n) (by omega)
    have hol := wV o
    rw [zW, List.foldl_cons]
    have eapp : app 104 o [n] = some (o ++ [n]) := kU (by simp; omega)
    rcases wX o with rfl | ⟨o, x, rfl⟩
    · rw [ve] at ih ⊢
      by_cases ht : isT n = true
      · have ht' : (n.Kind == jb) = true := ht
        by_cases he : n.Text = []
        · simp only [ht, he, Bool.true_and, beq_self_eq_true, if_true] at ih ⊢
          simp only [ht', if_true, Option.bind_some]
          exact ih
        · have he' : (n.Text == []) = false := by simp [he]
          simp only [ht, he', Bool.true_and, Bool.false_eq_true, if_false] at ih ⊢
          simp only [ht', he', Bool.false_eq_true, if_true, if_false, Option.bind_some, List.length_nil]
          have hneg : decide (w64 ((0 : Nat) - 1 : Int) ≥ 0) = false := by rw [wh (by omega)]; simp
          simp only [hneg, Bool.false_eq_true, if_false, eapp, Option.bind_some]
          exact ih
      · have ht' : (n.Kind == jb) = false := by simpa [isT] using ht
        have ht2 : isT n = false := by simpa using ht
        simp only [ht2, Bool.false_and, Bool.false_eq_true, if_false] at ih ⊢
        simp only [ht', Bool.false_eq_true, if_false, Option.bind_some, eapp]
        exact ih
    · rw [wH] at ih ⊢
      have hx : rd (o ++ [x]) (w64 (((o ++ [x]).length : Int) - 1)) = some x := by
        rw [wh (by simp at hol ⊢; omega)]
        have : ((o ++ [x]).length : Int) - 1 = (o.length : Int) := by simp
        rw [this]
        exact J5 o [] x
      have hsl : sl (o ++ [x]) 0 (w64 (((o ++ [x]).length : Int) - 1)) = some o := by
        rw [wh (by simp at hol ⊢; omega)]
        have : ((o ++ [x]).length : Int) - 1 = (o.length : Int) := by simp
        rw [this]
        exact ap3 o [x]
      have hpos : decide (w64 (((o ++ [x]).length : Int) - 1) ≥ 0) = true := by
        rw [wh (by simp at hol ⊢; omega)]
        simp
      have hwx : nwt x ≤ zN (o ++ [x]) := yF (by simp)
      have hx1 := wo x
      have hn1 := wo n
      by_cases ht : isT n = true
      · have ht' : (n.Kind == jb) = true := ht
        by_cases he : n.Text = []
        · simp only [ht, he, Bool.true_and, beq_self_eq_true, if_true] at ih ⊢
          simp only [ht', if_true, Option.bind_some]
          exact ih
        · have he' : (n.Text == []) = false := by simp [he]
          simp only [ht, he', Bool.true_and, Bool.false_eq_true, if_false] at ih ⊢
          simp only [ht', he', Bool.false_eq_true, if_true, if_false, Option.bind_some, hpos, hx]
          by_cases hxt : isT x = true
          · have hxt' : (x.Kind == jb) = true := hxt
            have hml : x.Marks.length ≤ 9223372036854775807 := by
              have : ∀ l : List Str, l.length ≤ wN l := by
                intro l; induction l with
                | nil => simp
                | cons s l ih => simp [wN]; omega
              have := this x.Marks
              omega
            simp only [hxt', if_true]
            rw [ajL _ _ hml]
            simp only [Option.bind_some, hxt, Bool.true_and] at ih ⊢
            by_cases hm : x.Marks = n.Marks
            · simp only [hm, decide_true, if_true] at ih ⊢
              rw [wK (by omega), hsl]
              simp only [Option.bind_some]
              have hol2 := wV (o ++ [x])
              simp only [List.length_append, List.length_cons, List.length_nil] at hol2
              rw [kU (by simp; omega)]
              simp only [Option.bind_some, List.nil_append]
              rw [kU (by simp; omega)]
              simp only [Option.bind_some]
              exact ih
            · simp only [hm, decide_false, Bool.false_eq_true, if_false] at ih ⊢
              rw [eapp]
              simp only [Option.bind_some, List.append_assoc, List.cons_append, List.nil_append]
              exact ih
          · have hxt' : (x.Kind == jb) = false := by simpa [isT] using hxt
            have hx2 : isT x = false := by simpa using hxt
            simp only [hx2, Bool.false_and, Bool.false_eq_true, if_false] at ih ⊢
            simp only [hxt', Bool.false_eq_true, if_false, eapp, Option.bind_some, List.append_assoc, List.cons_append, List.nil_append]
            exact ih
      · have ht' : (n.Kind == jb) = false := by simpa [isT] using ht
        have ht2 : isT n = false := by simpa using ht
        simp only [ht2, Bool.false_and, Bool.false_eq_true, if_false] at ih ⊢
        simp only [ht', Bool.false_eq_true, if_false, Option.bind_some, eapp, List.append_assoc, List.cons_append, List.nil_append]
        exact ih
theorem join_eq (l : List za) (h : zN l ≤ 1099511627776) : xn l = some (yu l) := by
  have hl := wV l
  unfold xn
  rw [wK (by omega), anD l 0 [] (by simpa [zN] using h)]
  rfl
end Go.Proofs.YtclohbgnaopjfaaDoor
namespace Go.Proofs.YtclohbgnaopjfaaDoor
set_option linter.unusedSimpArgs false
set_option linter.unusedVariables false
open Go
abbrev aqy : List Str := [[97], [98, 99], [195, 169], [120, 32, 121], [230, 151, 165, 230, 156, 172]]
abbrev auk : List Str := [[112, 97, 114, 97], [105, 116, 101, 109], [108, 105, 115, 116], [110, 111, 116, 101]]
abbrev atN : Str := [97, 108, 105, 103, 110]
def auu (t : Str) : Prop := t ≠ [] ∧ ∃ l : List Str, (∀ x ∈ l, x ∈ aqy) ∧ t = l.flatten
def atI (m : List Str) : Prop := m = [] ∨ m = [[98]] ∨ m = [[98], [105]]
def auo (a : List zh) : Prop := a = [] ∨ ∃ v ∈ aqy, a = [⟨atN, v⟩]
inductive MN : za → Prop
 | text (t : Str) (m : List Str) (ht : auu t) (hm : atI m) : MN ⟨jb, t, m, [], []⟩
 | node (k : Str) (a : List zh) (ks : List za) (hk : k ∈ auk) (ha : auo a) (hs : ∀ x ∈ ks, MN x) (hj : vo ks) : MN ⟨k, [], [], a, ks⟩
theorem an8 : ∀ (o : List za) (x n : za), vo (o ++ [x]) → wu x n = false → vo (o ++ [x, n])
 | [], x, n, _, h => ⟨h, trivial⟩
 | [a], x, n, h1, h => ⟨h1.1, h, trivial⟩
 | a :: b :: o, x, n, h1, h => ⟨h1.1, an8 (b :: o) x n h1.2 h⟩
theorem YS (a b : List za) : kE (a ++ b) = max (kE a) (kE b) := by
 induction a with
 | nil => simp [kE]
 | cons n a ih => simp only [List.cons_append, kE, ih]; omega
structure aub (i : Nat) (o : List za) : Prop where
 mn : ∀ x ∈ o, MN x
 wt : zN o ≤ 24 * i
 dep : kE o ≤ i
theorem aub.snoc {i : Nat} {o : List za} (h : aub i o) {n : za} (hn : MN n) (hw : nwt n ≤ 24) (hd : Qd n ≤ 1) : aub (i + 1) (o ++ [n]) := by
 refine ⟨fun x hx => ?_, ?_, ?_⟩
 ·rcases List.mem_append.1 hx with hx | hx
  ·exact h.mn x hx
  ·simp at hx; subst hx; exact hn
 ·have := h.wt; simp only [kH, zN]; omega
 ·have := h.dep; simp only [YS, kE]; omega
end Go.Proofs.YtclohbgnaopjfaaDoor
namespace Go.Proofs.YtclohbgnaopjfaaDoor
set_option linter.unusedSimpArgs false
set_option linter.unusedVariables false
open Go
theorem abz (s : Str) (g : Value → Int) (hg : ∀ n, g (.int .i32 n) = n) : ∀ (f pos : Nat) (acc : Array Value), (Conv.runesFrom ⟨s.toArray⟩ f pos acc).toList.map g = acc.toList.map g ++ (Conv.runesFrom ⟨s.toArray⟩ f pos #[]).toList.map g
 | 0, pos, acc => by simp [Conv.runesFrom]
 | f + 1, pos, acc => by
  unfold Conv.runesFrom
  split
  ·rw [abz s g hg f _ (acc.push _), abz s g hg f _ (#[].push _)]
   simp
  ·simp
def rn : Nat → Str → List Int
 | 0, _ => []
 | f + 1, s => if s = [] then [] else ((Lib.decodeL s).1 : Int) :: rn f (s.drop (Lib.decodeL s).2)
theorem alW (s : Str) (g : Value → Int) (hg : ∀ n, g (.int .i32 n) = n) : ∀ (f pos : Nat), (Conv.runesFrom ⟨s.toArray⟩ f pos #[]).toList.map g = rn f (s.drop pos)
  | 0, pos => by simp [Conv.runesFrom, rn]
  | f + 1, pos => by
    unfold Conv.runesFrom rn
    have hz : ByteArray.size ⟨s.toArray⟩ = s.length := by simp [ByteArray.size]
    by_cases h : pos < s.length
    · have hne : s.drop pos ≠ [] := by simp; omega
      have hd : Lib.decodeL (s.drop pos) = Utf8.decode ⟨s.toArray⟩ pos := by
        have := Lib.decodeL_drop ⟨s.toArray⟩ pos
        simpa using this
      rw [if_pos (by rw [hz]; exact h), if_neg hne, abz s g hg, alW s g hg f, hd, List.drop_drop]
      simp [hg]
    · have hne : s.drop pos = [] := by simp; omega
      rw [if_neg (by rw [hz]; exact h), if_pos hne]
      simp
theorem ac4 (s : Str) : runes s = rn s.length s := by
 unfold runes
 rw [alW s _ (fun _ => rfl)]
 simp
def agv (c : Nat) : List UInt8 :=
 if c < 0x80 then [UInt8.ofNat c]
 else if c < 0x800 then [UInt8.ofNat (0xC0 + c / 64), UInt8.ofNat (0x80 + c % 64)]
 else if c < 0x10000 then [UInt8.ofNat (0xE0 + c / 4096), UInt8.ofNat (0x80 + c / 64 % 64), UInt8.ofNat (0x80 + c % 64)]
 else [UInt8.ofNat (0xF0 + c / 262144), UInt8.ofNat (0x80 + c / 4096 % 64), UInt8.ofNat (0x80 + c / 64 % 64), UInt8.ofNat (0x80 + c % 64)]
theorem aqB (r : Int) : zo r = agv (if Utf8.valid r then r.toNat else Utf8.runeError) := by
 unfold zo Utf8.encode agv
 generalize (if Utf8.valid r then r.toNat else Utf8.runeError) = c
 dsimp only
 by_cases h1 : c < 0x80
 ·rw [if_pos h1, if_pos h1]
 ·rw [if_neg h1, if_neg h1]
  by_cases h2 : c < 0x800
  ·rw [if_pos h2, if_pos h2]
  ·rw [if_neg h2, if_neg h2]
   by_cases h3 : c < 0x10000
   ·rw [if_pos h3, if_pos h3]
   ·rw [if_neg h3, if_neg h3]
theorem ap2 (c : Nat) : 1 ≤ (agv c).length ∧ (agv c).length ≤ 4 := by
 unfold agv
 split
 ·simp
 ·split
  ·simp
  ·split <;> simp
theorem ao6 (c : Int) : 1 ≤ (zo c).length ∧ (zo c).length ≤ 4 := by rw [aqB]; exact ap2 _
theorem va (r : Nat) (h : r < 55296 ∨ 57343 < r) (h' : r ≤ 1114111) : Utf8.valid (r : Int) = true := by
  unfold Utf8.valid
  rw [Bool.or_eq_true]
  rcases h with h | h
  · left; rw [Bool.and_eq_true]
    exact ⟨decide_eq_true (by omega), decide_eq_true (by omega)⟩
  · right; rw [Bool.and_eq_true]
    exact ⟨decide_eq_true (by omega), decide_eq_true (by omega)⟩
theorem vc (r : Nat) (h : 55296 ≤ r) (h' : r ≤ 57343) : Utf8.valid (r : Int) = false := by
  unfold Utf8.valid
  rw [Bool.or_eq_false_iff, Bool.and_eq_false_iff, Bool.and_eq_false_iff]
  exact ⟨.inr (decide_eq_false (by omega)), .inl (decide_eq_false (by omega))⟩
theorem aj3 (r : Nat) (h : r < 55296 ∨ 57343 < r) (h' : r ≤ 1114111) : zo (r : Int) = agv r := by
 rw [aqB, va r h h']
 rfl
theorem avc (r : Nat) (h : r < 128) : zo (r : Int) = [UInt8.ofNat r] := by
  rw [aj3 r (by omega) (by omega), agv, if_pos h]
theorem auP (r : Nat) (h : 128 ≤ r) (h' : r < 2048) : zo (r : Int) = [UInt8.ofNat (192 + r / 64), UInt8.ofNat (128 + r % 64)] := by
  rw [aj3 r (by omega) (by omega), agv, if_neg (by omega), if_pos h']
theorem auv (r : Nat) (h : 2048 ≤ r) (h' : r < 65536) (hv : r < 55296 ∨ 57343 < r) : zo (r : Int) = [UInt8.ofNat (224 + r / 4096), UInt8.ofNat (128 + r / 64 % 64), UInt8.ofNat (128 + r % 64)] := by
  rw [aj3 r hv (by omega), agv, if_neg (by omega), if_neg (by omega), if_pos h']
theorem auL (r : Nat) (h : 65536 ≤ r) (h' : r ≤ 1114111) : zo (r : Int) = [UInt8.ofNat (240 + r / 262144), UInt8.ofNat (128 + r / 4096 % 64), UInt8.ofNat (128 + r / 64 % 64), UInt8.ofNat (128 + r % 64)] := by
  rw [aj3 r (by omega) h', agv, if_neg (by omega), if_neg (by omega), if_neg (by omega)]
theorem auZ (r : Nat) (h : 55296 ≤ r) (h' : r ≤ 57343) : zo (r : Int) = [239, 191, 189] := by
 rw [aqB, vc r h h']
 simp only [Bool.false_eq_true, if_false, Utf8.runeError, agv]
 rfl
theorem aq6 (r : Nat) (h : r ≤ 1114111) : zo (r : Int) = Lib.encodeRune (r : Int) := by
  unfold Lib.encodeRune Lib.encodeRuneZ
  by_cases h1 : r < 128
  · rw [if_pos (show (0 : Int) ≤ (r : Int) ∧ (r : Int) ≤ 127 by omega), avc r h1]
    simp only [List.map_cons, List.map_nil, Int.toNat_natCast]
  · rw [if_neg (show ¬ ((0 : Int) ≤ (r : Int) ∧ (r : Int) ≤ 127) by omega)]
    by_cases h2 : r < 2048
    · rw [if_pos (show (128 : Int) ≤ (r : Int) ∧ (r : Int) ≤ 2047 by omega), auP r (by omega) h2]
      have a1 : (192 + (r : Int) / 64).toNat = 192 + r / 64 := by omega
      have a2 : (128 + (r : Int) % 64).toNat = 128 + r % 64 := by omega
      simp only [List.map_cons, List.map_nil, a1, a2]
    · rw [if_neg (show ¬ ((128 : Int) ≤ (r : Int) ∧ (r : Int) ≤ 2047) by omega)]
      by_cases hv : r < 55296 ∨ 57343 < r
      · by_cases h3 : r < 65536
        · rw [if_pos (show ((2048 : Int) ≤ (r : Int) ∧ (r : Int) < 55296) ∨ ((57343 : Int) < (r : Int) ∧ (r : Int) ≤ 65535) by omega), auv r (by omega) h3 hv]
          have a1 : (224 + (r : Int) / 4096).toNat = 224 + r / 4096 := by omega
          have a2 : (128 + (r : Int) / 64 % 64).toNat = 128 + r / 64 % 64 := by omega
          have a3 : (128 + (r : Int) % 64).toNat = 128 + r % 64 := by omega
          simp only [List.map_cons, List.map_nil, a1, a2, a3]
        · rw [if_neg (show ¬ (((2048 : Int) ≤ (r : Int) ∧ (r : Int) < 55296) ∨ ((57343 : Int) < (r : Int) ∧ (r : Int) ≤ 65535)) by omega), if_pos (show (65536 : Int) ≤ (r : Int) ∧ (r : Int) ≤ 1114111 by omega), auL r (by omega) h]
          have a1 : (240 + (r : Int) / 262144).toNat = 240 + r / 262144 := by omega
          have a2 : (128 + (r : Int) / 4096 % 64).toNat = 128 + r / 4096 % 64 := by omega
          have a3 : (128 + (r : Int) / 64 % 64).toNat = 128 + r / 64 % 64 := by omega
          have a4 : (128 + (r : Int) % 64).toNat = 128 + r % 64 := by omega
          simp only [List.map_cons, List.map_nil, a1, a2, a3, a4]
      · rw [if_neg (show ¬ (((2048 : Int) ≤ (r : Int) ∧ (r : Int) < 55296) ∨ ((57343 : Int) < (r : Int) ∧ (r : Int) ≤ 65535)) by omega), if_neg (show ¬ ((65536 : Int) ≤ (r : Int) ∧ (r : Int) ≤ 1114111) by omega), auZ r (by omega) (by omega)]
        rfl
theorem amb : ∀ (f : Nat) (s : Str), s.length ≤ f → (Lib.validD s = true → zK (rn f s) = s) ∧ (Lib.validD s = false → s.length < (zK (rn f s)).length)
  | 0, s, h => by
    have : s = [] := List.eq_nil_of_length_eq_zero (by omega)
    subst this
    exact ⟨fun _ => rfl, fun h => by rw [Lib.validD_nil] at h; cases h⟩
  | f + 1, s, h => by
    unfold rn
    by_cases hne : s = []
    · subst hne
      exact ⟨fun _ => by simp [zK], fun h => by rw [Lib.validD_nil] at h; cases h⟩
    · have hw := Lib.decodeL_width s
      have hl := Lib.decodeL_le s hne
      obtain ⟨ih1, ih2⟩ := amb f (s.drop (Lib.decodeL s).2) (by simp; omega)
      have e : zK (((Lib.decodeL s).1 : Int) :: rn f (s.drop (Lib.decodeL s).2)) = zo ((Lib.decodeL s).1 : Int) ++ zK (rn f (s.drop (Lib.decodeL s).2)) := by simp [zK]
      rw [if_neg hne, e, Lib.validD_step s hne]
      by_cases hb : (Lib.decodeL s).1 = 65533 ∧ (Lib.decodeL s).2 = 1
      · rw [if_pos hb]
        refine ⟨fun h => (by cases h), fun _ => ?_⟩
        have e3 : (zo ((Lib.decodeL s).1 : Int)).length = 3 := by rw [hb.1]; rfl
        have e4 : (s.drop (Lib.decodeL s).2).length ≤ (zK (rn f (s.drop (Lib.decodeL s).2))).length := by
          cases hv : Lib.validD (s.drop (Lib.decodeL s).2) with
          | true => rw [ih1 hv]; exact Nat.le_refl _
          | false => exact Nat.le_of_lt (ih2 hv)
        rw [List.length_append, e3]
        rw [List.length_drop, hb.2] at e4
        rw [hb.2]
        omega
      · rw [if_neg hb]
        have e5 : zo ((Lib.decodeL s).1 : Int) = s.take (Lib.decodeL s).2 := by rw [aq6 _ (Lib.decodeL_rune s)]; exact Lib.encode_decode s hne hb
        refine ⟨fun hv => by rw [ih1 hv, e5, List.take_append_drop], fun hv => ?_⟩
        have := ih2 hv
        rw [List.length_append, e5, List.length_take]
        rw [List.length_drop] at this
        omega
theorem WE {s : Str} (h : Lib.validD s = true) : zK (runes s) = s := by rw [ac4]; exact (amb _ s (Nat.le_refl _)).1 h
theorem aa6 (b : ByteArray) : ∀ (n i : Nat) (acc : Array Value), (Conv.runesFrom b n i acc).toList.length = acc.toList.length + Lib.runeCountFrom b n i
 | 0, i, acc => by simp [Conv.runesFrom, Lib.runeCountFrom]
 | n + 1, i, acc => by
  unfold Conv.runesFrom Lib.runeCountFrom
  split
  ·rename_i h
   rw [aa6 b n _ _]
   simp; omega
  ·rfl
theorem xO (s : Str) : (runes s).length = agV s := by
 unfold runes agV Lib.runeCountL Lib.runeCount
 rw [List.length_map, aa6]
 simp [ByteArray.size]
end Go.Proofs.YtclohbgnaopjfaaDoor
namespace Go.Proofs.YtclohbgnaopjfaaDoor
set_option linter.unusedSimpArgs false
set_option linter.unusedVariables false
open Go
theorem arJ : ∀ (l : List za) (last : Option za), (∀ x ∈ l, zX x = true) → vo l → (∀ x y, last = some x → l.head? = some y → wu x y = false) → xQ last l = true
  | [], last, _, _, _ => abF last
  | y :: l, last, hf, hj, hl => by
    rw [WA, hf y (by simp)]
    have h2 : xQ (some y) l = true := by
      refine arJ l (some y) (fun x hx => hf x (by simp [hx])) ?_ ?_
      · cases l with
        | nil => trivial
        | cons z l => exact hj.2
      · intro x z hx hz
        cases hx
        cases l with
        | nil => cases hz
        | cons z' l => cases hz; exact hj.1
    rw [h2]
    cases last with
    | none => rfl
    | some x => simp [hl x y rfl rfl]
theorem am0 {n : za} (h : zX n = true) (ht : isT n = false) : ∀ k ∈ n.Kids, zX k = true := by
  have key : ∀ (l : List za) (last : Option za), xQ last l = true → ∀ k ∈ l, zX k = true := by
    intro l
    induction l with
    | nil => simp
    | cons y l ih =>
      intro last h k hk
      rw [WA, Bool.and_eq_true, Bool.and_eq_true] at h
      rcases List.mem_cons.1 hk with rfl | hk
      · exact h.1.1
      · exact ih _ h.2 k hk
  rw [jC, if_neg (by simp [ht])] at h
  simp only [Bool.and_eq_true] at h
  exact key _ _ h.2
end Go.Proofs.YtclohbgnaopjfaaDoor
namespace Go.Proofs.YtclohbgnaopjfaaDoor
set_option linter.unusedSimpArgs false
set_option linter.unusedVariables false
open Go
theorem aeS (s t : Str) (hne : s ≠ []) (hv : ¬ ((Lib.decodeL s).1 = 65533 ∧ (Lib.decodeL s).2 = 1)) : Lib.decodeL (s.take (Lib.decodeL s).2 ++ t) = Lib.decodeL s := by
  have hl : 0 < s.length := List.length_pos_iff.2 hne
  have hS := Lib.decodeL_N s
  rcases Lib.decodeN_shape s.length (s.getD 0 0).toNat (s.getD 1 0).toNat (s.getD 2 0).toNat (s.getD 3 0).toNat with ⟨h1, e⟩ | ⟨h1, h2, h3, h4, e⟩ | ⟨h1, h2, h3, h4, h5, h6, e⟩ | ⟨h1, h2, h3, h4, h5, h6, h7, e⟩ | e
  · rw [hS, e]
    simp only
    rw [Lib.takeA s hl, Lib.decodeL_N]
    simp only [List.cons_append, List.getD_cons_zero]
    unfold Lib.decodeN
    rw [if_pos h1]
  · rw [hS, e]
    simp only
    rw [Lib.takeB s h2, Lib.decodeL_N]
    simp only [List.cons_append, List.nil_append, List.getD_cons_zero, List.getD_cons_succ]
    unfold Lib.decodeN
    rw [if_neg (by omega), if_pos ⟨h1, by simp, h3⟩, if_pos (by omega)]
  · rw [hS, e]
    simp only
    rw [Lib.takeC s h2, Lib.decodeL_N]
    simp only [List.cons_append, List.nil_append, List.getD_cons_zero, List.getD_cons_succ]
    unfold Lib.decodeN
    rw [if_neg (by omega), if_neg (by omega), if_pos ⟨h1, ⟨by simp, h3⟩, by simp, h4⟩, if_pos ⟨by omega, by omega⟩]
  · rw [hS, e]
    simp only
    rw [Lib.takeD s h2, Lib.decodeL_N]
    simp only [List.cons_append, List.nil_append, List.getD_cons_zero, List.getD_cons_succ]
    unfold Lib.decodeN
    rw [if_neg (by omega), if_neg (by omega), if_neg (by omega), if_pos ⟨h1, ⟨by simp, h3⟩, ⟨by simp, h4⟩, by simp, h5⟩, if_pos ⟨by omega, by omega⟩]
  · rw [hS, e] at hv
    simp at hv
def VR (c : Int) : Prop := (∀ t : Str, runes (zo c ++ t) = c :: runes t) ∧ ∀ t : Str, Lib.validD (zo c ++ t) = Lib.validD t
theorem akL : ∀ (f g : Nat) (s : Str), s.length ≤ f → s.length ≤ g → rn f s = rn g s
  | 0, 0, s, _, _ => rfl
  | 0, g + 1, s, hf, _ => by
    have : s = [] := List.eq_nil_of_length_eq_zero (by omega)
    subst this
    simp [rn]
  | f + 1, 0, s, _, hg => by
    have : s = [] := List.eq_nil_of_length_eq_zero (by omega)
    subst this
    simp [rn]
  | f + 1, g + 1, s, hf, hg => by
    unfold rn
    by_cases h : s = []
    · simp [h]
    · have h1 := Lib.decodeL_width s
      have h2 := Lib.decodeL_le s h
      rw [if_neg h, if_neg h, akL f g _ (by simp; omega) (by simp; omega)]
theorem Q0 : runes [] = [] := by rw [ac4]; rfl
theorem abH (s : Str) (hne : s ≠ []) : runes s = ((Lib.decodeL s).1 : Int) :: runes (s.drop (Lib.decodeL s).2) := by
  rw [ac4, ac4]
  have h1 := Lib.decodeL_width s
  have h2 := Lib.decodeL_le s hne
  have hl : 0 < s.length := List.length_pos_iff.2 hne
  obtain ⟨n, hn⟩ : ∃ n, s.length = n + 1 := ⟨s.length - 1, by omega⟩
  rw [hn, rn, if_neg hne, akL n _ _ (by simp; omega) (Nat.le_refl _)]
theorem asE (s : Str) (hne : s ≠ []) (hv : ¬ ((Lib.decodeL s).1 = 65533 ∧ (Lib.decodeL s).2 = 1)) : VR ((Lib.decodeL s).1 : Int) ∧ zo ((Lib.decodeL s).1 : Int) = s.take (Lib.decodeL s).2 := by
  have e5 : zo ((Lib.decodeL s).1 : Int) = s.take (Lib.decodeL s).2 := by rw [aq6 _ (Lib.decodeL_rune s)]; exact Lib.encode_decode s hne hv
  have h1 := Lib.decodeL_width s
  have h2 := Lib.decodeL_le s hne
  have hlen : (s.take (Lib.decodeL s).2).length = (Lib.decodeL s).2 := by rw [List.length_take]; omega
  have hdr : ∀ t : Str, (s.take (Lib.decodeL s).2 ++ t).drop (Lib.decodeL s).2 = t := by
    intro t
    rw [List.drop_append_of_le_length (by omega), List.drop_of_length_le (by omega)]
    rfl
  refine ⟨⟨fun t => ?_, fun t => ?_⟩, e5⟩
  · have hne' : zo ((Lib.decodeL s).1 : Int) ++ t ≠ [] := by
      intro h
      have := congrArg List.length h
      rw [List.length_append, e5, hlen, List.length_nil] at this
      omega
    rw [abH _ hne', e5, aeS s t hne hv, hdr]
  · have hne' : zo ((Lib.decodeL s).1 : Int) ++ t ≠ [] := by
      intro h
      have := congrArg List.length h
      rw [List.length_append, e5, hlen, List.length_nil] at this
      omega
    rw [Lib.validD_step _ hne', e5, aeS s t hne hv, if_neg hv, hdr]
theorem ati : ∀ (f : Nat) (s : Str), s.length ≤ f → Lib.validD s = true → ∀ c ∈ runes s, VR c
  | 0, s, h, _, c, hc => by
    have : s = [] := List.eq_nil_of_length_eq_zero (by omega)
    subst this
    rw [Q0] at hc
    cases hc
  | f + 1, s, h, hv, c, hc => by
    by_cases hne : s = []
    · subst hne
      rw [Q0] at hc
      cases hc
    · rw [Lib.validD_step s hne] at hv
      by_cases hb : (Lib.decodeL s).1 = 65533 ∧ (Lib.decodeL s).2 = 1
      · rw [if_pos hb] at hv; cases hv
      · rw [if_neg hb] at hv
        have h1 := Lib.decodeL_width s
        rw [abH s hne] at hc
        rcases List.mem_cons.1 hc with rfl | hc
        · exact (asE s hne hb).1
        · exact ati f (s.drop (Lib.decodeL s).2) (by simp; omega) hv c hc
theorem afC {s : Str} (h : Lib.validD s = true) : ∀ c ∈ runes s, VR c := ati s.length s (Nat.le_refl _) h
theorem VP (c : Int) (l : List Int) : zK (c :: l) = zo c ++ zK l := by simp [zK]
theorem Xb (a b : List Int) : zK (a ++ b) = zK a ++ zK b := by simp [zK]
theorem aee : ∀ (l : List Int) (t : Str), (∀ c ∈ l, VR c) → runes (zK l ++ t) = l ++ runes t ∧ Lib.validD (zK l ++ t) = Lib.validD t
 | [], t, _ => by simp [zK]
 | c :: l, t, h => by
  obtain ⟨h1, h2⟩ := aee l t fun x hx => h x (by simp [hx])
  obtain ⟨h3, h4⟩ := h c (by simp)
  rw [VP, List.append_assoc, h3, h1, h4, h2]
  simp
theorem JG {l : List Int} (h : ∀ c ∈ l, VR c) : runes (zK l) = l ∧ Lib.validD (zK l) = true := by
 have := aee l [] h
 simpa [Q0, Lib.validD_nil] using this
theorem ad2 {s : Str} (t : Str) (h : Lib.validD s = true) : runes (s ++ t) = runes s ++ runes t ∧ Lib.validD (s ++ t) = Lib.validD t := by
 have := aee (runes s) t (afC h)
 rwa [WE h] at this
end Go.Proofs.YtclohbgnaopjfaaDoor
namespace Go.Proofs.YtclohbgnaopjfaaDoor
set_option linter.unusedSimpArgs false
set_option linter.unusedVariables false
open Go
inductive It where
 | sgn (c : Int) (m : List Str)
 | nod (n : za)
def itN (n : za) : List It := if isT n = true then (runes n.Text).map (fun c => It.sgn c n.Marks) else [.nod n]
def items : List za → List It
 | [] => []
 | n :: l => itN n ++ items l
theorem ZN (a b : List za) : items (a ++ b) = items a ++ items b := by
 induction a with
 | nil => rfl
 | cons n a ih => simp only [List.cons_append, items, ih, List.append_assoc]
def ahL : It → Nat
 | .sgn _ _ => 1
 | .nod n => wF n
def szI : List It → Nat
 | [] => 0
 | i :: l => ahL i + szI l
theorem Wp (a b : List It) : szI (a ++ b) = szI a + szI b := by
 induction a with
 | nil => simp [szI]
 | cons n a ih => simp only [List.cons_append, szI, ih]; omega
theorem anZ (cs : List Int) (m : List Str) : szI (cs.map fun c => It.sgn c m) = cs.length := by
 induction cs with
 | nil => rfl
 | cons c cs ih => simp only [List.map_cons, szI, ahL, ih, List.length_cons]; omega
theorem ajh (n : za) : szI (itN n) = wF n := by
 unfold itN
 rw [jv]
 cases h : isT n with
 | true => simp only [if_true]; rw [anZ, xO]
 | false => simp only [Bool.false_eq_true, if_false, szI, ahL]; rw [jv, h]; simp
theorem yH (l : List za) : szI (items l) = zF l := by
 induction l with
 | nil => rfl
 | cons n l ih => simp only [items, zF, Wp, ajh, ih]
theorem XH : ∀ i : It, (∀ n, i = .nod n → isT n = false) → 1 ≤ ahL i
 | .sgn _ _, _ => Nat.le_refl _
 | .nod n, h => by
  have := h n rfl
  simp only [ahL]
  rw [jv, this]
  simp
  omega
def ame (i : It) : Prop := ∀ n, i = .nod n → isT n = false
theorem arT (n : za) : ∀ i ∈ itN n, ame i := by
 intro i hi m hm
 unfold itN at hi
 cases h : isT n with
 | true =>
  rw [h] at hi
  simp only [if_true, List.mem_map] at hi
  obtain ⟨c, _, rfl⟩ := hi
  cases hm
 | false =>
  rw [h] at hi
  simp only [Bool.false_eq_true, if_false, List.mem_singleton] at hi
  rw [hi] at hm
  cases hm
  exact h
theorem YQ (l : List za) : ∀ i ∈ items l, ame i := by
 induction l with
 | nil => intro i hi; cases hi
 | cons n l ih =>
  intro i hi
  rcases List.mem_append.1 hi with hi | hi
  ·exact arT n i hi
  ·exact ih i hi
theorem aiY : ∀ (a a' b b' : List It), (∀ i ∈ a ++ b, ame i) → a ++ b = a' ++ b' → szI a = szI a' → a = a' ∧ b = b'
 | [], [], b, b', _, h, _ => ⟨rfl, h⟩
 | [], i :: a', b, b', hn, h, hs => by
  exfalso
  have := XH i (hn i (by rw [h]; simp))
  simp only [szI] at hs
  omega
 | i :: a, [], b, b', hn, h, hs => by
  exfalso
  have := XH i (hn i (by simp))
  simp only [szI] at hs
  omega
 | i :: a, j :: a', b, b', hn, h, hs => by
  simp only [List.cons_append, List.cons.injEq] at h
  obtain ⟨rfl, h⟩ := h
  simp only [szI] at hs
  obtain ⟨h1, h2⟩ := aiY a a' b b' (fun x hx => hn x (by simp at hx ⊢; exact .inr hx)) h (by omega)
  exact ⟨by rw [h1], h2⟩
def Gd (n : za) : Prop := isT n = true → Lib.validD n.Text = true ∧ n.zu = [] ∧ n.Kids = []
theorem Gd.plain {n : za} (h : Gd n) : Plain n := fun ht => (h ht).2
theorem Jp {n : za} (h : isT n = true) : n.Kind = jb := by simpa [isT] using h
abbrev tN (t : Str) (m : List Str) : za := ⟨jb, t, m, [], []⟩
theorem aru {n : za} (h : Gd n) (ht : isT n = true) : n = tN n.Text n.Marks := by
 have h1 := Jp ht
 obtain ⟨_, h2, h3⟩ := h ht
 cases n
 simp_all
def asb : It → za
 | .sgn c m => tN (zo c) m
 | .nod n => n
def canon (l : List It) : List za := yu (l.map asb)
theorem ais (m : List Str) : ∀ (cs : List Int) (o : List za), ((cs.map fun c => It.sgn c m).map asb).foldl joinStep o = joinStep o (tN (zK cs) m)
 | [], o => by
  have : joinStep o (tN (zK []) m) = o := by unfold joinStep; rfl
  rw [this]
  rfl
 | c :: cs, o => by
  rw [List.map_cons, List.map_cons, List.foldl_cons, ais m cs, VP]
  exact akd o (tN (zo c) m) (tN (zK cs) m) rfl rfl rfl rfl rfl
theorem aqf {n : za} (h : Gd n) (o : List za) : ((itN n).map asb).foldl joinStep o = joinStep o n := by
 unfold itN
 cases ht : isT n with
 | true =>
  simp only [if_true]
  rw [ais, WE (h ht).1, ← aru h ht]
 | false => rfl
theorem afN : ∀ (l o : List za), (∀ x ∈ l, Gd x) → ((items l).map asb).foldl joinStep o = l.foldl joinStep o
  | [], o, _ => rfl
  | n :: l, o, h => by
    rw [items, List.map_append, List.foldl_append, aqf (h n (by simp)), afN l _ fun x hx => h x (by simp [hx])]
    rfl
theorem amQ {l : List za} (h : ∀ x ∈ l, Gd x) : yu l = canon (items l) := (afN l [] h).symm
theorem YD (o : List za) (n : za) (ho : ∀ x ∈ o, Gd x) (hn : Gd n) : items (joinStep o n) = items o ++ itN n ∧ ∀ x ∈ joinStep o n, Gd x := by
  have e1 : ∀ x, items [x] = itN x := fun x => by simp [items]
  have plain : items (o ++ [n]) = items o ++ itN n ∧ ∀ x ∈ o ++ [n], Gd x := by
    refine ⟨by rw [ZN, e1], fun x hx => ?_⟩
    rcases List.mem_append.1 hx with hx | hx
    · exact ho x hx
    · simp at hx; rw [hx]; exact hn
  by_cases hc : (isT n && n.Text == []) = true
  · have e : joinStep o n = o := by unfold joinStep; rw [if_pos hc]
    rw [e]
    simp only [Bool.and_eq_true, beq_iff_eq] at hc
    refine ⟨?_, ho⟩
    unfold itN
    rw [if_pos hc.1, hc.2, Q0]
    simp
  · rcases wX o with rfl | ⟨o, x, rfl⟩
    · rw [ve, if_neg hc]
      simpa using plain
    · rw [wH, if_neg hc]
      by_cases hd : (isT n && isT x && decide (x.Marks = n.Marks)) = true
      · rw [if_pos hd]
        simp only [Bool.and_eq_true, decide_eq_true_eq] at hd
        obtain ⟨⟨h1, h2⟩, h3⟩ := hd
        have hx := ho x (by simp) h2
        have hn' := hn h1
        have ht : isT ({ n with Text := x.Text ++ n.Text } : za) = true := h1
        obtain ⟨r1, r2⟩ := ad2 n.Text hx.1
        refine ⟨?_, fun y hy => ?_⟩
        · rw [ZN, ZN, e1, e1, List.append_assoc]
          congr 1
          unfold itN
          rw [if_pos ht, if_pos h1, if_pos h2]
          simp only [r1, List.map_append, h3]
        · rcases List.mem_append.1 hy with hy | hy
          · exact ho y (by simp [hy])
          · simp only [List.mem_singleton] at hy
            rw [hy]
            exact fun _ => ⟨by simp only [r2]; exact hn'.1, hn'.2⟩
      · rw [if_neg hd]
        simpa [List.append_assoc] using plain
theorem agc : ∀ (l o : List za), (∀ x ∈ o, Gd x) → (∀ x ∈ l, Gd x) → items (l.foldl joinStep o) = items o ++ items l ∧ ∀ x ∈ l.foldl joinStep o, Gd x
 | [], o, ho, _ => ⟨by simp [items], ho⟩
 | n :: l, o, ho, hl => by
  obtain ⟨h1, h2⟩ := YD o n ho (hl n (by simp))
  obtain ⟨h3, h4⟩ := agc l _ h2 fun x hx => hl x (by simp [hx])
  refine ⟨?_, h4⟩
  rw [List.foldl_cons, h3, h1, List.append_assoc]
  rfl
theorem aml {l : List za} (h : ∀ x ∈ l, Gd x) : items (yu l) = items l ∧ ∀ x ∈ yu l, Gd x := by
  have := agc l [] (by simp) h
  exact ⟨this.1.trans (by simp [items]), this.2⟩
def Jnd (l : List za) : Prop := vo l ∧ ∀ x ∈ l, isT x = true → x.Text ≠ []
theorem ali {a : za} {l : List za} (h : vo (a :: l)) : vo l := by
 cases l with
 | nil => trivial
 | cons b l => exact h.2
theorem aob : ∀ (o : List za) (x n : za) (l : List za), vo (o ++ x :: n :: l) → wu x n = false
 | [], x, n, l, h => h.1
 | y :: o, x, n, l, h => aob o x n l (ali (a := y) (l := o ++ x :: n :: l) h)
theorem aiC : ∀ (l o : List za), vo (o ++ l) → (∀ x ∈ l, isT x = true → x.Text ≠ []) → l.foldl joinStep o = o ++ l
  | [], o, _, _ => by simp
  | n :: l, o, h, hl => by
    have hn := hl n (by simp)
    have hc : ¬ (isT n && n.Text == []) = true := by
      simp only [Bool.and_eq_true, beq_iff_eq]
      rintro ⟨h1, h2⟩
      exact hn h1 h2
    have e : joinStep o n = o ++ [n] := by
      rcases wX o with rfl | ⟨o, x, rfl⟩
      · rw [ve, if_neg hc]; rfl
      · rw [wH, if_neg hc]
        have ha := aob o x n l (by simpa using h)
        unfold wu at ha
        have : (isT n && isT x && decide (x.Marks = n.Marks)) = false := by rw [Bool.and_comm (isT n)]; exact ha
        rw [this]
        simp
    rw [List.foldl_cons, e, aiC l _ (by simpa using h) fun x hx => hl x (by simp [hx])]
    simp
theorem Jnd.join {l : List za} (h : Jnd l) : yu l = l := by
 have := aiC l [] h.1 h.2
 simpa [yu] using this
theorem Jnd.canon {l : List za} (h : Jnd l) (hg : ∀ x ∈ l, Gd x) : l = canon (items l) := by
 rw [← amQ hg, h.join]
theorem ar6 {a b : List za} (ha : Jnd a) (hb : Jnd b) (ga : ∀ x ∈ a, Gd x) (gb : ∀ x ∈ b, Gd x) (h : items a = items b) : a = b := by
 rw [ha.canon ga, hb.canon gb, h]
theorem adX : ∀ (a b : List za), vo (a ++ b) → vo a
 | [], _, _ => trivial
 | [x], _, _ => trivial
 | x :: y :: a, b, h => ⟨h.1, adX (y :: a) b h.2⟩
theorem aja : ∀ (a b : List za), vo (a ++ b) → vo b
 | [], _, h => h
 | x :: a, b, h => aja a b (ali (a := x) (l := a ++ b) h)
theorem afX : ∀ (a : List za) (x y : za), vo (a ++ [x]) → (∀ z, wu z y = wu z x) → vo (a ++ [y])
 | [], _, _, _, _ => trivial
 | [z], x, y, h, e => ⟨by rw [e]; exact h.1, trivial⟩
 | z :: w :: a, x, y, h, e => ⟨h.1, afX (w :: a) x y h.2 e⟩
theorem ag1 (x y : za) (l : List za) (h : vo (x :: l)) (e : ∀ z, wu y z = wu x z) : vo (y :: l) := by
 cases l with
 | nil => trivial
 | cons z l => exact ⟨by rw [e]; exact h.1, h.2⟩
end Go.Proofs.YtclohbgnaopjfaaDoor
namespace Go.Proofs.YtclohbgnaopjfaaDoor
set_option linter.unusedSimpArgs false
set_option linter.unusedVariables false
open Go
theorem aon {α : Type} (o : List α) (x y : α) : wr (o ++ [x]) (o.length : Int) y = some (o ++ [y]) := by
  unfold wr
  rw [if_pos (by simp; omega)]
  simp
theorem akQ : ∀ (l : List za) (i : Int) (o : List za), zN o + zN l ≤ 1099511627776 → wO l i o = some (l.foldl joinStep o)
  | [], i, o, _ => by simp [wO]
  | n :: l, i, o, hw => by
    simp only [zN] at hw
    have hjw := Yi o n
    have ih := akQ l (i + 1) (joinStep o n) (by omega)
    have hol := wV o
    have eapp : app 104 o [n] = some (o ++ [n]) := kU (by simp; omega)
    rw [wO, List.foldl_cons, KF]
    simp only [Option.bind_some]
    rcases wX o with rfl | ⟨o, x, rfl⟩
    · rw [ve] at ih ⊢
      have hneg : decide (w64 ((([] : List za).length : Int) - 1) ≥ 0) = false := by rw [wh (by simp)]; simp
      by_cases ht : isT n = true
      · by_cases he : n.Text = []
        · simp only [ht, he, Bool.true_and, beq_self_eq_true, if_true] at ih ⊢
          exact ih
        · have he' : (n.Text == []) = false := by simp [he]
          simp only [ht, he', Bool.true_and, Bool.false_eq_true, if_false] at ih ⊢
          simp only [if_true, hneg, Bool.false_eq_true, if_false, eapp, Option.bind_some]
          exact ih
      · have ht2 : isT n = false := by simpa using ht
        simp only [ht2, Bool.false_and, Bool.false_eq_true, if_false] at ih ⊢
        simp only [hneg, Bool.false_eq_true, if_false, eapp, Option.bind_some]
        exact ih
    · rw [wH] at ih ⊢
      have hw1 : w64 (((o ++ [x]).length : Int) - 1) = (o.length : Int) := by
        rw [wh (by simp at hol ⊢; omega)]
        simp
      have hx : rd (o ++ [x]) (o.length : Int) = some x := J5 o [] x
      have hpos : decide ((o.length : Int) ≥ 0) = true := by simp
      have hwx : nwt x ≤ zN (o ++ [x]) := yF (by simp)
      have hx1 := wo x
      have hn1 := wo n
      have hxm := afB x.Marks
      have hal : wu x n = (isT n && isT x && decide (x.Marks = n.Marks)) := by unfold wu; rw [Bool.and_comm (isT x)]
      rw [hw1, hx]
      simp only [hpos, if_true, Option.bind_some]
      rw [alu x n (by omega), aon]
      simp only [Option.bind_some, hal]
      by_cases ht : isT n = true
      · by_cases he : n.Text = []
        · simp only [ht, he, Bool.true_and, beq_self_eq_true, if_true] at ih ⊢
          exact ih
        · have he' : (n.Text == []) = false := by simp [he]
          simp only [ht, he', Bool.true_and, Bool.false_eq_true, if_false, if_true] at ih ⊢
          cases hc : (isT x && decide (x.Marks = n.Marks)) with
          | true =>
            simp only [hc, if_true] at ih ⊢
            rw [wK (by omega)]
            exact ih
          | false =>
            simp only [hc, Bool.false_eq_true, if_false] at ih ⊢
            rw [eapp]
            simp only [Option.bind_some, List.append_assoc, List.cons_append, List.nil_append]
            exact ih
      · have ht2 : isT n = false := by simpa using ht
        simp only [ht2, Bool.false_and, Bool.false_eq_true, if_false] at ih ⊢
        rw [eapp]
        simp only [Option.bind_some, List.append_assoc, List.cons_append, List.nil_append]
        exact ih
theorem agX (l : List za) (h : zN l ≤ 1099511627776) : Q6 l = some (yu l) := by
  have hl := wV l
  unfold Q6
  rw [wK (by omega), akQ l 0 [] (by simpa [zN] using h)]
  rfl
end Go.Proofs.YtclohbgnaopjfaaDoor
namespace Go.Proofs.YtclohbgnaopjfaaDoor
set_option linter.unusedSimpArgs false
set_option linter.unusedVariables false
open Go
def up (q : List Nat) : List Int := q.map fun (i : Nat) => (i : Int)
theorem atB : up [] = [] := rfl
theorem akf (i : Nat) (q : List Nat) : up (i :: q) = (i : Int) :: up q := rfl
theorem atG (p q : List Nat) : up (p ++ q) = up p ++ up q := by simp [up]
theorem ag9 (q : List Nat) : (up q).length = q.length := by simp [up]
theorem atX {p q : List Nat} (h : up p = up q) : p = q := by
 induction p generalizing q with
 | nil => cases q with
  | nil => rfl
  | cons b q => simp [up] at h
 | cons a p ih => cases q with
  | nil => simp [up] at h
  | cons b q =>
   simp only [akf, List.cons.injEq] at h
   rw [ih h.2, Int.ofNat_inj.1 h.1]
abbrev auf : za := { Kind := ([] : Str), Text := ([] : Str), Marks := [], zu := [], Kids := [] }
theorem asD {α : Type} {l : List α} {b : Nat} (h : b ≤ l.length) : sl l 0 (b : Int) = some (l.take b) := by
  have := YJ (l := l) (a := 0) (b := b) (by omega) h
  simpa using this
inductive At : za → List Nat → za → Nat → Prop
 | nil (n : za) : At n [] n 0
 | cons (n : za) (i : Nat) (k : za) (q : List Nat) (m : za) (a : Nat) (hi : n.Kids[i]? = some k) (hn : isT n = false) (hk : isT k = false) (h : At k q m a) : At n (i :: q) m (zF (n.Kids.take i) + 1 + a)
theorem Jr {l : List za} {i : Nat} {k : za} (h : l[i]? = some k) : l = l.take i ++ k :: l.drop (i + 1) := by
 obtain ⟨hi, rfl⟩ := List.getElem?_eq_some_iff.1 h
 simp
theorem ad6 {l : List za} {i : Nat} {k : za} (h : l[i]? = some k) : zF l = zF (l.take i) + wF k + zF (l.drop (i + 1)) := by
 conv => lhs; rw [Jr h]
 rw [JO, zF]; omega
theorem afv {l : List za} {i : Nat} {k : za} (h : l[i]? = some k) : zN l = zN (l.take i) + nwt k + zN (l.drop (i + 1)) := by
 conv => lhs; rw [Jr h]
 rw [kH, zN]; omega
theorem agR (l : List za) (i : Nat) : zF (l.take i) ≤ zF l := by
 have := JO (l.take i) (l.drop i)
 rw [List.take_append_drop] at this
 omega
theorem At.avB {n : za} {q m a} (h : At n q m a) (hn : isT n = false) : isT m = false := by
 induction h with
 | nil => exact hn
 | cons n i k q m a hi hn' hk h ih => exact ih hk
theorem At.sizes {n : za} {q m a} (h : At n q m a) : a + zF m.Kids ≤ zF n.Kids := by
 induction h with
 | nil => omega
 | cons n i k q m a hi hn hk h ih =>
  have h1 := ad6 hi
  have h2 := ZE hk
  omega
theorem At.len {n : za} {q m a} (h : At n q m a) : q.length ≤ a := by
 induction h with
 | nil => simp
 | cons n i k q m a hi hn hk h ih => simp only [List.length_cons]; omega
theorem At.wt {n : za} {q m a} (h : At n q m a) : nwt m ≤ nwt n := by
 induction h with
 | nil => omega
 | cons n i k q m a hi hn hk h ih =>
  have h1 := afv hi
  have h2 := xw n
  omega
theorem At.dep {n : za} {q m a} (h : At n q m a) : Qd m ≤ Qd n := by
 induction h with
 | nil => omega
 | cons n i k q m a hi hn hk h ih =>
  have h1 := Za (List.mem_of_getElem? hi)
  have h2 := yJ n
  omega
theorem At.snoc {n : za} {q m a} (h : At n q m a) {i k} (hi : m.Kids[i]? = some k) (hm : isT m = false) (hk : isT k = false) : At n (q ++ [i]) k (a + zF (m.Kids.take i) + 1) := by
 induction h with
 | nil n =>
  have := At.cons n i k [] k 0 hi hm hk (.nil k)
  simpa using this
 | cons n j x q m a hj hn hx h ih =>
  have := At.cons n j x _ _ _ hj hn hx (ih hi hm)
  have e : zF (n.Kids.take j) + 1 + a + zF (m.Kids.take i) + 1 = zF (n.Kids.take j) + 1 + (a + zF (m.Kids.take i) + 1) := by omega
  rw [e]
  exact this
end Go.Proofs.YtclohbgnaopjfaaDoor
namespace Go.Proofs.YtclohbgnaopjfaaDoor
set_option linter.unusedSimpArgs false
set_option linter.unusedVariables false
open Go
theorem arE {n : za} {q m a} (h : At n q m a) : ∀ v, jm (up q) v n = some (.inr m) := by
 induction h with
 | nil n => intro v; rfl
 | cons n i k q m a hi hn hk h ih =>
  intro v
  have hl := (List.getElem?_eq_some_iff.1 hi).1
  have h1 : decide ((i : Int) < 0) = false := by simp
  have h2 : decide ((i : Int) ≥ (n.Kids.length : Int)) = false := by simp; omega
  rw [akf, jm]
  simp only [YP, h1, h2, hn, Bool.false_eq_true, if_false, Ve hi, Option.bind_some, ih]
theorem ab5 {n : za} {q m a} (h : At n q m a) (hm : isT m = false) (hq : q.length ≤ 9223372036854775807) : jP n (up q) = some (m, 0) := by
 unfold jP
 rw [ag9, wK hq, arE h]
 simp only [Option.bind_some, YP, hm, Bool.false_eq_true, if_false]
theorem aqt {n : za} {q m a} (h : At n q m a) : ∀ v (t : Nat), nwt n ≤ 1099511627776 → t + a ≤ 4611686018427387904 → jq (up q) v (t : Int) n = some ((t + a : Nat) : Int) := by
  induction h with
  | nil n => intro v t _ _; rfl
  | cons n i k q m a hi hn hk h ih =>
    intro v t hw ht
    have hl := (List.getElem?_eq_some_iff.1 hi).1
    have h1 := afv hi
    have h2 := xw n
    have h3 := kT (n.Kids.take i)
    rw [akf, jq, asD (by omega)]
    simp only [Option.bind_some]
    rw [JC _ (by omega), Ve hi]
    simp only [Option.bind_some]
    have e : w64 ((t : Int) + w64 ((zF (n.Kids.take i) : Int) + 1)) = ((t + (zF (n.Kids.take i) + 1) : Nat) : Int) := by
      rw [wh (x := (zF (n.Kids.take i) : Int) + 1) (by omega), wh (by omega)]
      omega
    rw [e, ih _ _ (by omega) (by omega)]
    simp only [Option.some.injEq]
    omega
theorem start_eq {n : za} {q m a} (h : At n q m a) (hm : isT m = false) (hw : nwt n ≤ 1099511627776) : WJ n (up q) = some ((a : Int), 0) := by
  have h1 := h.len
  have h2 := h.sizes
  have h3 := kT n.Kids
  have h4 := xw n
  unfold WJ
  rw [ab5 h hm (by omega)]
  have := aqt h 0 0 hw (by omega)
  simp only [Option.bind_some, bne_self_eq_false, Bool.false_eq_true, if_false]
  rw [ag9, wK (by omega)]
  have e : ((0 : Nat) : Int) = 0 := rfl
  rw [e] at this
  rw [this]
  simp
def JR (n : za) (s : qU) (pos : Nat) : Prop :=
 ∃ q m a idx off, s = ⟨up q, ((idx : Nat) : Int), ((off : Nat) : Int)⟩ ∧ At n q m a ∧ isT m = false ∧ idx ≤ m.Kids.length ∧ a + zF (m.Kids.take idx) + off = pos ∧ (∀ k, m.Kids[idx]? = some k → off < wF k ∧ (0 < off → isT k = true)) ∧ (idx = m.Kids.length → off = 0)
theorem afS (path : List Int) (hp : path.length ≤ 1099511627776) : ∀ (suf : List za) (i pos : Nat), zN suf ≤ 1099511627776 → pos ≤ 1099511627776 → i + suf.length ≤ 9223372036854775807 →
    (zF suf ≤ pos ∧ zY path suf (i : Int) (pos : Int) = some (.inr (.inr ()))) ∨
    ∃ a k b r, suf = a ++ k :: b ∧ pos = zF a + r ∧ r < wF k ∧
      (((isT k = true ∨ r = 0) ∧ zY path suf (i : Int) (pos : Int) = some (.inl (⟨path, ((i + a.length : Nat) : Int), ((r : Nat) : Int)⟩, 0))) ∨
       (isT k = false ∧ 0 < r ∧ zY path suf (i : Int) (pos : Int) = some (.inr (.inl (((r - 1 : Nat) : Int), k, path ++ [((i + a.length : Nat) : Int)])))))
  | [], i, pos, _, _, _ => .inl ⟨by simp [zF], rfl⟩
  | y :: suf, i, pos, hw, hpos, hi => by
    simp only [zN] at hw
    have hy := ahh y
    by_cases h : wF y ≤ pos
    · have step : zY path (y :: suf) (i : Int) (pos : Int) = zY path suf ((i + 1 : Nat) : Int) ((pos - wF y : Nat) : Int) := by
        rw [zY, size_eq y (by omega)]
        have : decide ((pos : Int) ≥ (wF y : Int)) = true := by simp; omega
        simp only [Option.bind_some, this, if_true]
        rw [wh (by omega)]
        congr 1
        omega
      simp only [List.length_cons] at hi
      rcases afS path hp suf (i + 1) (pos - wF y) (by omega) (by omega) (by omega) with ⟨h1, h2⟩ | ⟨a, k, b, r, h1, h2, h3, h4⟩
      · left
        exact ⟨by simp only [zF]; omega, by rw [step, h2]⟩
      · right
        have e : i + 1 + a.length = i + (y :: a).length := by simp; omega
        rw [e] at h4
        exact ⟨y :: a, k, b, r, by rw [h1]; rfl, by simp only [zF]; omega, h3, by rw [step]; exact h4⟩
    · right
      have hd : decide ((pos : Int) ≥ (wF y : Int)) = false := by simp; omega
      refine ⟨[], y, suf, pos, rfl, by simp [zF], by omega, ?_⟩
      rw [zY, size_eq y (by omega)]
      simp only [Option.bind_some, hd, Bool.false_eq_true, if_false, List.length_nil, Nat.add_zero]
      by_cases ht : isT y = true
      · left
        exact ⟨.inl ht, by simp only [YP, ht, if_true]⟩
      · have ht' : isT y = false := by simpa using ht
        simp only [YP, ht', Bool.false_eq_true, if_false]
        by_cases h0 : pos = 0
        · left
          subst h0
          exact ⟨.inr rfl, by simp⟩
        · right
          have : ((pos : Int) == 0) = false := by simp; omega
          refine ⟨trivial, by omega, ?_⟩
          simp only [this, Bool.false_eq_true, if_false]
          rw [kU (by simp; omega), wh (by omega)]
          simp only [Option.bind_some, Option.some.injEq, Sum.inr.injEq, Sum.inl.injEq, Prod.mk.injEq, and_true]
          omega
theorem agO (n0 : za) (hw0 : nwt n0 ≤ 1099511627776) : ∀ (d : Nat) (n : za) (q : List Nat) (a pos : Nat), Qd n ≤ d → At n0 q n a → isT n = false → pos ≤ zF n.Kids → ∃ s, JR n0 s (a + pos) ∧ ∀ k, d ≤ k → wU k (pos : Int) n (up q) = some (s, 0)
  | 0, n, q, a, pos, hd, _, _, _ => by have := yJ n; omega
  | d + 1, n, q, a, pos, hd, hat, hn, hpos => by
    have h1 := hat.len
    have h2 := hat.sizes
    have h3 := kT n0.Kids
    have h4 := xw n0
    have h5 := hat.wt
    have h6 := xw n
    have h7 := wV n.Kids
    have h8 := kT n.Kids
    rcases afS (up q) (by rw [ag9]; omega) n.Kids 0 pos (by omega) (by omega) (by omega) with ⟨e1, e2⟩ | ⟨x, k, y, r, e1, e2, e3, e4⟩
    · refine ⟨⟨up q, (n.Kids.length : Int), 0⟩, ⟨q, n, a, n.Kids.length, 0, rfl, hat, hn, by omega, by simp; omega, fun k hk => by simp at hk, fun _ => rfl⟩, fun k hk => ?_⟩
      obtain ⟨k, rfl⟩ : ∃ j, k = j + 1 := ⟨k - 1, by omega⟩
      rw [wU, wK (by omega)]
      have e2' : zY (up q) n.Kids 0 (pos : Int) = _ := e2
      rw [e2']
      rfl
    · have hx : n.Kids[x.length]? = some k := by rw [e1]; simp
      have htk : n.Kids.take x.length = x := by rw [e1]; simp
      have hle : x.length < n.Kids.length := by rw [e1]; simp
      rw [Nat.zero_add] at e4
      rcases e4 with ⟨e4, e5⟩ | ⟨e4, e5, e6⟩
      · refine ⟨⟨up q, (x.length : Int), (r : Int)⟩, ⟨q, n, a, x.length, r, rfl, hat, hn, by omega, by rw [htk]; omega, fun k' hk' => ?_, fun h => by omega⟩, fun k' hk => ?_⟩
        · rw [hx] at hk'
          cases hk'
          exact ⟨e3, fun h => e4.resolve_right (by omega)⟩
        · obtain ⟨k', rfl⟩ : ∃ j, k' = j + 1 := ⟨k' - 1, by omega⟩
          rw [wU, wK (by omega)]
          have e2' : zY (up q) n.Kids 0 (pos : Int) = _ := e5
          rw [e2']
          rfl
      · have hs := ZE e4
        have hdk := Za (List.mem_of_getElem? hx)
        have hdn := yJ n
        obtain ⟨s, s1, s2⟩ := agO n0 hw0 d k (q ++ [x.length]) _ (r - 1) (by omega) (hat.snoc hx hn e4) e4 (by omega)
        refine ⟨s, ?_, fun k' hk => ?_⟩
        · rw [htk] at s1
          have e : a + zF x + 1 + (r - 1) = a + pos := by omega
          rw [e] at s1
          exact s1
        · obtain ⟨k', rfl⟩ : ∃ j, k' = j + 1 := ⟨k' - 1, by omega⟩
          rw [wU, wK (by omega)]
          have e2' : zY (up q) n.Kids 0 (pos : Int) = _ := e6
          rw [e2']
          simp only [Option.bind_some]
          have := s2 k' (by omega)
          rw [atG] at this
          exact this
theorem abg {n : za} (hn : isT n = false) (hw : nwt n ≤ 1099511627776) (pos : Nat) (hp : pos ≤ zF n.Kids) : ∃ s, j4 n (pos : Int) = some (s, 0) ∧ JR n s pos := by
  have h4 := xw n
  obtain ⟨s, h1, h2⟩ := agO n hw (Qd n) n [] 0 pos (Nat.le_refl _) (.nil n) hn hp
  refine ⟨s, ?_, by simpa using h1⟩
  have hneg : decide ((pos : Int) < 0) = false := by simp
  have hgt : decide ((pos : Int) > (zF n.Kids : Int)) = false := by simp; omega
  unfold j4
  simp only [YP, hn, Bool.false_eq_true, if_false, hneg]
  rw [JC _ (by omega)]
  simp only [Option.bind_some, hgt, Bool.false_eq_true, if_false]
  rw [atB] at h2
  rw [VM (Qd n) h2]
  rfl
theorem JR.le {n : za} {s pos} (h : JR n s pos) : pos ≤ zF n.Kids := by
 obtain ⟨q, m, a, idx, off, _, h1, _, h2, h3, h4, h5⟩ := h
 have hs := h1.sizes
 rcases Nat.lt_or_ge idx m.Kids.length with hl | hl
 ·obtain ⟨k, hk⟩ : ∃ k, m.Kids[idx]? = some k := ⟨_, List.getElem?_eq_getElem hl⟩
  have := ad6 hk
  have := (h4 k hk).1
  omega
 ·have := h5 (by omega)
  have := agR m.Kids idx
  omega
end Go.Proofs.YtclohbgnaopjfaaDoor
namespace Go.Proofs.YtclohbgnaopjfaaDoor
set_option linter.unusedSimpArgs false
set_option linter.unusedVariables false
open Go
def VS : List Nat → za → za → za
 | [], _, x => x
 | i :: q, n, x => { n with Kids := match n.Kids[i]? with | some k => n.Kids.set i (VS q k x) | none => n.Kids }
theorem KH {n : za} {i : Nat} {k : za} (hi : n.Kids[i]? = some k) (q : List Nat) (x : za) : VS (i :: q) n x = { n with Kids := n.Kids.set i (VS q k x) } := by
 rw [VS, hi]
theorem agS : ∀ (q : List Nat) (n x : za), isT n = false → isT x = false → isT (VS q n x) = false
 | [], n, x, _, h => h
 | i :: q, n, x, h, _ => h
theorem atu {x : za} {n : za} {q m a} (h : At n q m a) : nwt (VS q n x) + nwt m = nwt n + nwt x := by
 induction h with
 | nil n => rw [VS]; omega
 | cons n i k q m a hi hn hk h ih =>
  have hl := (List.getElem?_eq_some_iff.1 hi).1
  have h1 := afv hi
  rw [KH hi, wo, wo n]
  simp only
  rw [List.set_eq_take_append_cons_drop, if_pos hl, kH, zN]
  omega
theorem apK {α : Type} {l : List α} {i : Nat} (h : i < l.length) (x : α) : wr l (i : Int) x = some (l.set i x) := by
  unfold wr; rw [if_pos (by omega)]; simp
theorem atm {α : Type} (x : α) (l : List α) : sl (x :: l) 1 ((x :: l).length : Int) = some l := by
 have := YJ (l := x :: l) (a := 1) (b := (x :: l).length) (by simp) (by simp)
 simpa using this
theorem atw {x : za} {n : za} {q m a} (h : At n q m a) : isT n = false → nwt n ≤ 1099511627776 → ∀ kr, q.length < kr → jR kr n (up q) x = some (VS q n x, 0) := by
  induction h with
  | nil n =>
    intro hn hw kr hk
    obtain ⟨kr, rfl⟩ : ∃ j, kr = j + 1 := ⟨kr - 1, by omega⟩
    have := ab5 (At.nil n) hn (by simp)
    rw [jR, this]
    rfl
  | cons n i k q m a hi hn hk h ih =>
    intro _ hw kr hkr
    simp only [List.length_cons] at hkr
    obtain ⟨kr, rfl⟩ : ∃ j, kr = j + 1 := ⟨kr - 1, by omega⟩
    have hat := At.cons n i k q m a hi hn hk h
    have g1 := hat.len
    have g2 := hat.sizes
    have g3 := kT n.Kids
    have g4 := xw n
    have g5 := afv hi
    have g6 := wV n.Kids
    have hl := (List.getElem?_eq_some_iff.1 hi).1
    have hnz : (((i :: q).length : Int) == 0) = false := by simp; omega
    have hin := ab5 hat (hat.avB hn) (by omega)
    have e1 : rd (up (i :: q)) 0 = some (i : Int) := Ve (l := up (i :: q)) (i := 0) rfl
    have e2 : sl (up (i :: q)) 1 ((up (i :: q)).length : Int) = some (up q) := atm _ _
    have e3 : app 104 [] n.Kids = some n.Kids := kU (by simp; omega)
    rw [jR, hin, e1, e2]
    simp only [Option.bind_some, bne_self_eq_false, Bool.false_eq_true, if_false, ag9, hnz, qN, e3, Ve hi]
    rw [ih hk (by omega) kr (by omega)]
    simp only [Option.bind_some]
    rw [apK hl, KH hi]
    rfl
theorem asu {x : za} {n : za} {q m a} (h : At n q m a) (hn : isT n = false) (hw : nwt n ≤ 1099511627776) : Q7 n (up q) x = some (VS q n x, 0) := by
 unfold Q7
 exact VM (q.length + 1) fun k hk => atw h hn hw k (by omega)
end Go.Proofs.YtclohbgnaopjfaaDoor
namespace Go.Proofs.YtclohbgnaopjfaaDoor
set_option linter.unusedSimpArgs false
set_option linter.unusedVariables false
open Go
structure jk (l : List za) : Prop where
 form : ∀ x ∈ l, zX x = true
 adj : vo l
theorem yL {n : za} (h : zX n = true) (ht : isT n = true) : n.Text ≠ [] ∧ Lib.validD n.Text = true ∧ xh n.Marks = true ∧ n.zu = [] ∧ n.Kids = [] := by
  rw [jC, if_pos ht] at h
  simp only [Bool.and_eq_true, decide_eq_true_eq] at h
  obtain ⟨⟨⟨h1, h2⟩, h3⟩, h4⟩ := h
  exact ⟨h1, h2, h3, List.eq_nil_of_length_eq_zero (by omega), List.eq_nil_of_length_eq_zero (by omega)⟩
theorem afw {t : Str} {m : List Str} (h1 : t ≠ []) (h2 : Lib.validD t = true) (h3 : xh m = true) : zX (tN t m) = true := by
 have ht : isT (tN t m) = true := rfl
 rw [jC, if_pos ht]
 simp [h1, h2, h3]
theorem afu {n : za} (h : zX n = true) : Gd n := fun ht => by
 obtain ⟨_, h2, _, h4, h5⟩ := yL h ht
 exact ⟨h2, h4, h5⟩
theorem akM {s : Str} (h : s ≠ []) : 1 ≤ agV s := by
 rw [← xO, abH s h]
 simp
theorem size_pos {n : za} (h : zX n = true) : 1 ≤ wF n := by
 rw [jv]
 cases ht : isT n with
 | true => simpa using akM (yL h ht).1
 | false => simp; omega
theorem jk.gd {l : List za} (h : jk l) : ∀ x ∈ l, Gd x := fun x hx => afu (h.form x hx)
theorem jk.jnd {l : List za} (h : jk l) : Jnd l := ⟨h.adj, fun x hx ht => (yL (h.form x hx) ht).1⟩
theorem afW {a b : List za} (ha : jk a) (hb : jk b) (h : items a = items b) : a = b := ar6 ha.jnd hb.jnd ha.gd hb.gd h
theorem jk.nil : jk [] := ⟨by simp, trivial⟩
theorem jk.left {a b : List za} (h : jk (a ++ b)) : jk a := ⟨fun x hx => h.form x (by simp [hx]), adX a b h.adj⟩
theorem jk.right {a b : List za} (h : jk (a ++ b)) : jk b := ⟨fun x hx => h.form x (by simp [hx]), aja a b h.adj⟩
theorem aaA (o : List za) (n : za) (h : jk o) (hn : zX n = true) : jk (joinStep o n) := by
  have hc : ¬ (isT n && n.Text == []) = true := by
    simp only [Bool.and_eq_true, beq_iff_eq]
    rintro ⟨h1, h2⟩
    exact (yL hn h1).1 h2
  rcases wX o with rfl | ⟨o, x, rfl⟩
  · rw [ve, if_neg hc]
    exact ⟨fun y hy => by simp at hy; rw [hy]; exact hn, trivial⟩
  · rw [wH, if_neg hc]
    have hx := h.form x (by simp)
    split
    · rename_i hd
      simp only [Bool.and_eq_true, decide_eq_true_eq] at hd
      obtain ⟨⟨h1, h2⟩, h3⟩ := hd
      obtain ⟨a1, a2, a3, a4, a5⟩ := yL hx h2
      obtain ⟨b1, b2, b3, b4, b5⟩ := yL hn h1
      have e : ({ n with Text := x.Text ++ n.Text } : za) = tN (x.Text ++ n.Text) n.Marks := by
        have := Jp h1
        cases n
        simp_all
      have ef : zX ({ n with Text := x.Text ++ n.Text } : za) = true := by
        rw [e]
        refine afw (by simp [a1]) ?_ b3
        rw [(ad2 n.Text a2).2]
        exact b2
      refine ⟨fun y hy => ?_, ?_⟩
      · rcases List.mem_append.1 hy with hy | hy
        · exact h.form y (by simp [hy])
        · simp only [List.mem_singleton] at hy; rw [hy]; exact ef
      · refine afX o x _ h.adj fun z => ?_
        unfold wu
        have e1 : isT ({ n with Text := x.Text ++ n.Text } : za) = true := h1
        rw [e1, h2]
        simp only [h3]
    · rename_i hd
      refine ⟨fun y hy => ?_, ?_⟩
      · have hy' : y ∈ o ++ [x] ∨ y = n := by simpa [or_assoc] using hy
        rcases hy' with hy | rfl
        · exact h.form y hy
        · exact hn
      · have ha : wu x n = false := by
          unfold wu
          rw [Bool.and_comm (isT x)]
          simpa using hd
        have := an8 o x n h.adj ha
        simpa using this
theorem ai1 : ∀ (l o : List za), jk o → (∀ x ∈ l, zX x = true) → jk (l.foldl joinStep o)
 | [], _, h, _ => h
 | n :: l, o, h, hl => ai1 l _ (aaA o n h (hl n (by simp))) fun x hx => hl x (by simp [hx])
theorem aiL {l : List za} (h : ∀ x ∈ l, zX x = true) : jk (yu l) ∧ items (yu l) = items l :=
 ⟨ai1 l [] .nil h, (aml fun x hx => afu (h x hx)).1⟩
theorem jk.join {l : List za} (h : jk l) : yu l = l := h.jnd.join
theorem arA : ∀ (l : List za) (last : Option za), xQ last l = true → jk l ∧ ∀ x y, last = some x → l.head? = some y → wu x y = false
 | [], last, _ => ⟨.nil, by simp⟩
 | y :: l, last, h => by
  rw [WA, Bool.and_eq_true, Bool.and_eq_true] at h
  obtain ⟨⟨h1, h2⟩, h3⟩ := h
  obtain ⟨h4, h5⟩ := arA l (some y) h3
  refine ⟨⟨fun x hx => ?_, ?_⟩, ?_⟩
  ·rcases List.mem_cons.1 hx with rfl | hx
   ·exact h1
   ·exact h4.form x hx
  ·cases l with
   | nil => trivial
   | cons z l => exact ⟨h5 y z rfl rfl, h4.adj⟩
  ·rintro x y' rfl hy
   cases hy
   simpa using h2
theorem amy {l : List za} (h : jk l) : xQ none l = true := arJ l none h.form h.adj fun _ _ hx => by cases hx
theorem xJ {n : za} (h : zX n = true) (ht : isT n = false) : jk n.Kids := by
  rw [jC, if_neg (by simp [ht])] at h
  simp only [Bool.and_eq_true] at h
  exact (arA _ _ h.2).1
theorem YZ {n : za} (h : zX n = true) (ht : isT n = false) {l : List za} (hl : jk l) : zX ({ n with Kids := l } : za) = true := by
  have ht' : isT ({ n with Kids := l } : za) = false := ht
  rw [jC, if_neg (by simp [ht])] at h
  rw [jC, if_neg (by simp [ht'])]
  simp only [Bool.and_eq_true] at h ⊢
  exact ⟨h.1, amy hl⟩
theorem al5 : ∀ (l : List za) (i : Int) (at' : Nat), zN l ≤ 1099511627776 → at' ≤ 1099511627776 → ∃ (k r : Nat), vF l i (at' : Int) = some ((r : Int), i + (k : Int)) ∧ k ≤ l.length ∧ zF (l.take k) + r = at' ∧ ∀ y, l[k]? = some y → r < wF y
  | [], i, at', _, _ => ⟨0, at', by simp [vF], by simp, by simp [zF], by simp⟩
  | y :: l, i, at', hw, ha => by
    simp only [zN] at hw
    rw [vF, size_eq y (by omega)]
    simp only [Option.bind_some]
    by_cases hc : wF y ≤ at'
    · have g : decide ((at' : Int) ≥ (wF y : Int)) = true := by simp; omega
      have e : w64 ((at' : Int) - (wF y : Int)) = ((at' - wF y : Nat) : Int) := by rw [wh (by omega)]; omega
      simp only [g, if_true, e]
      obtain ⟨k, r, h1, h2, h3, h4⟩ := al5 l (i + 1) (at' - wF y) (by omega) (by omega)
      refine ⟨k + 1, r, ?_, by simpa using h2, ?_, ?_⟩
      · rw [h1]; congr 2; omega
      · simp only [List.take_succ_cons, zF]; omega
      · intro z hz; exact h4 z (by simpa using hz)
    · have g : decide ((at' : Int) ≥ (wF y : Int)) = false := by simp; omega
      simp only [g, Bool.false_eq_true, if_false]
      refine ⟨0, at', by simp, by simp, by simp [zF], ?_⟩
      intro z hz
      simp at hz
      rw [← hz]
      omega
theorem anR : ∀ (P : List It) (i : It) (Q X Y : List It), P ++ i :: Q = X ++ Y → szI P < szI X → szI P + ahL i ≤ szI X
 | [], i, Q, [], Y, _, hs => by simp [szI] at hs
 | [], i, Q, j :: X, Y, h, _ => by
  simp only [List.nil_append, List.cons_append, List.cons.injEq] at h
  simp only [szI, h.1]; omega
 | p :: P, i, Q, [], Y, _, hs => by simp [szI] at hs
 | p :: P, i, Q, j :: X, Y, h, hs => by
  simp only [List.cons_append, List.cons.injEq] at h
  obtain ⟨rfl, h⟩ := h
  simp only [szI] at hs ⊢
  have := anR P i Q X Y h (by omega)
  omega
theorem alr (l : List za) (h : zN l ≤ 1099511627776) : qN l = some l := by
  have := wV l
  unfold qN
  rw [kU (by simp; omega)]
  simp
theorem ar1 (l : List za) (k : Nat) : zN (l.take k) + zN (l.drop k) = zN l := by
 have := kH (l.take k) (l.drop k)
 rw [List.take_append_drop] at this
 exact this.symm
theorem size_take (l : List za) (k : Nat) : zF (l.take k) + zF (l.drop k) = zF l := by
 have := JO (l.take k) (l.drop k)
 rw [List.take_append_drop] at this
 exact this.symm
theorem aq3 {l : List za} (h : jk l) (hw : zN l ≤ 549755813888) (at' : Nat) (ha : at' ≤ zF l) :
    (∃ a b, xB l (at' : Int) = some (a, b, 0) ∧ jk a ∧ jk b ∧ items l = items a ++ items b ∧ szI (items a) = at' ∧ zN a ≤ zN l ∧ zN b ≤ zN l ∧ kE a ≤ kE l ∧ kE b ≤ kE l) ∨
    (xB l (at' : Int) = some ([], [], 10) ∧ ∀ X Y, items l = X ++ Y → szI X ≠ at') := by
  have hsz := kT l
  have hl := wV l
  obtain ⟨k, r, h1, h2, h3, h4⟩ := al5 l 0 at' (by omega) (by omega)
  have g1 : decide ((at' : Int) < 0) = false := by simp
  have g2 : decide ((at' : Int) > (zF l : Int)) = false := by simp; omega
  have s1 : sl l 0 (k : Int) = some (l.take k) := by
    have := YJ (l := l) (a := 0) (b := k) (by omega) h2
    simpa using this
  have s2 : sl l (k : Int) (l.length : Int) = some (l.drop k) := by
    have := YJ (l := l) (a := k) (b := l.length) h2 (Nat.le_refl _)
    simpa using this
  have wtd := ar1 l k
  have std := size_take l k
  have rowt : jk (l.take k ++ l.drop k) := by rw [List.take_append_drop]; exact h
  have itd : items l = items (l.take k) ++ items (l.drop k) := by rw [← ZN, List.take_append_drop]
  have dtd : kE l = max (kE (l.take k)) (kE (l.drop k)) := by rw [← YS, List.take_append_drop]
  unfold xB
  rw [g1]
  simp only [Bool.false_eq_true, if_false]
  rw [JC l (by omega)]
  simp only [Option.bind_some, g2, Bool.false_eq_true, if_false]
  rw [wK (by omega), h1]
  simp only [Option.bind_some, Int.zero_add]
  rw [s1, s2]
  simp only [Option.bind_some]
  rw [alr _ (by omega), alr _ (by omega)]
  simp only [Option.bind_some]
  by_cases hr : r = 0
  · subst hr
    refine .inl ⟨l.take k, l.drop k, by simp, rowt.left, rowt.right, itd, ?_, by omega, by omega, by omega, by omega⟩
    rw [yH]; omega
  · have g3 : ((r : Int) == 0) = false := by simp; omega
    simp only [g3, Bool.false_eq_true, if_false]
    rcases Nat.lt_or_ge k l.length with hk | hk
    · have hy : l[k]? = some l[k] := List.getElem?_eq_getElem hk
      generalize l[k] = y at hy
      have hym : y ∈ l := List.mem_of_getElem? hy
      have hyf := h.form y hym
      have hry := h4 y hy
      have hdrop : l.drop k = y :: l.drop (k + 1) := by
        have := List.drop_eq_getElem_cons hk
        rw [this]
        rw [List.getElem?_eq_getElem hk] at hy
        cases hy
        rfl
      rw [Ve hy]
      simp only [Option.bind_some]
      cases ht : isT y with
      | false =>
        have g4 : (!(y.Kind == ([116, 101, 120, 116] : Str))) = true := by
          have : (y.Kind == ([116, 101, 120, 116] : Str)) = isT y := rfl
          rw [this, ht]; rfl
        refine .inr ⟨by simp only [g4, if_true], fun X Y hXY hX => ?_⟩
        have e : items l = items (l.take k) ++ It.nod y :: items (l.drop (k + 1)) := by
          rw [itd, hdrop, items, itN, ht]
          rfl
        have := anR (items (l.take k)) (It.nod y) (items (l.drop (k + 1))) X Y (by rw [← e, hXY]) (by rw [yH]; omega)
        rw [yH] at this
        simp only [ahL] at this
        omega
      | true =>
        have g4 : (!(y.Kind == ([116, 101, 120, 116] : Str))) = false := by
          have : (y.Kind == ([116, 101, 120, 116] : Str)) = isT y := rfl
          rw [this, ht]; rfl
        simp only [g4, Bool.false_eq_true, if_false]
        obtain ⟨t1, t2, t3, t4, t5⟩ := yL hyf ht
        have ek := Jp ht
        have hrl : r < (runes y.Text).length := by
          rw [xO]
          rw [jv, if_pos ht] at hry
          exact hry
        have q1 : sl (runes y.Text) 0 (r : Int) = some ((runes y.Text).take r) := by
          have := YJ (l := runes y.Text) (a := 0) (b := r) (by omega) (by omega)
          simpa using this
        have q2 : sl (runes y.Text) (r : Int) ((runes y.Text).length : Int) = some ((runes y.Text).drop r) := by
          have := YJ (l := runes y.Text) (a := r) (b := (runes y.Text).length) (by omega) (Nat.le_refl _)
          simpa using this
        have q3 : rd (l.drop k) 0 = some y := by
          rw [hdrop]; exact Ve (i := 0) rfl
        have q4 : wr (l.drop k) 0 ({ y with Text := zK ((runes y.Text).drop r) } : za) = some (({ y with Text := zK ((runes y.Text).drop r) } : za) :: l.drop (k + 1)) := by
          rw [hdrop]
          exact apK (l := y :: l.drop (k + 1)) (i := 0) (by simp) _
        rw [q1, q2, q3]
        simp only [Option.bind_some]
        rw [q4]
        simp only [Option.bind_some]
        have hvr := afC t2
        obtain ⟨a1, a2⟩ := JG (l := (runes y.Text).take r) fun c hc => hvr c (List.mem_of_mem_take hc)
        obtain ⟨b1, b2⟩ := JG (l := (runes y.Text).drop r) fun c hc => hvr c (List.mem_of_mem_drop hc)
        have hcat : zK ((runes y.Text).take r) ++ zK ((runes y.Text).drop r) = y.Text := by
          rw [← Xb, List.take_append_drop, WE t2]
        have hne1 : zK ((runes y.Text).take r) ≠ [] := by
          intro hh
          rw [hh, Q0] at a1
          have := congrArg List.length a1
          simp at this
          omega
        have hne2 : zK ((runes y.Text).drop r) ≠ [] := by
          intro hh
          rw [hh, Q0] at b1
          have := congrArg List.length b1
          simp at this
          omega
        have e1 : ({ y with Text := zK ((runes y.Text).take r) } : za) = tN (zK ((runes y.Text).take r)) y.Marks := by cases y; simp_all
        have e2 : ({ y with Text := zK ((runes y.Text).drop r) } : za) = tN (zK ((runes y.Text).drop r)) y.Marks := by cases y; simp_all
        have ey : y = tN y.Text y.Marks := aru (afu hyf) ht
        rw [e1, e2]
        rw [kU (by simp; omega)]
        simp only [Option.bind_some]
        have hlen := congrArg List.length hcat
        rw [List.length_append] at hlen
        have wy : nwt y = 2 + 4 + y.Text.length + wN y.Marks := by
          rw [wo, ek, t4, t5]; simp [kz, zN]
        have w1 : nwt (tN (zK ((runes y.Text).take r)) y.Marks) = 2 + 4 + (zK ((runes y.Text).take r)).length + wN y.Marks := by
          rw [wo]; simp [kz, zN]
        have w2 : nwt (tN (zK ((runes y.Text).drop r)) y.Marks) = 2 + 4 + (zK ((runes y.Text).drop r)).length + wN y.Marks := by
          rw [wo]; simp [kz, zN]
        have d1 : ∀ t m, Qd (tN t m) = 1 := fun t m => by rw [yJ]; simp [kE]
        have dy : Qd y = 1 := by rw [ey]; exact d1 _ _
        have f1 := afw hne1 a2 t3
        have f2 := afw hne2 b2 t3
        have alk : ∀ t z, wu z (tN t y.Marks) = wu z y := fun t z => by
          unfold wu
          have : isT (tN t y.Marks) = true := rfl
          rw [this, ht]
        have alk' : ∀ t z, wu (tN t y.Marks) z = wu y z := fun t z => by
          unfold wu
          have : isT (tN t y.Marks) = true := rfl
          rw [this, ht]
        rw [hdrop] at wtd itd dtd rowt
        simp only [zN, kE, items] at wtd itd dtd
        refine .inl ⟨_, _, rfl, ⟨?_, ?_⟩, ⟨?_, ?_⟩, ?_, ?_, ?_, ?_, ?_, ?_⟩
        · intro x hx
          rcases List.mem_append.1 hx with hx | hx
          · exact rowt.left.form x hx
          · simp only [List.mem_singleton] at hx; rw [hx]; exact f1
        · have : vo (l.take k ++ [y]) := adX _ (l.drop (k + 1)) (by simpa using rowt.adj)
          exact afX _ _ _ this fun z => alk _ z
        · intro x hx
          rcases List.mem_cons.1 hx with rfl | hx
          · exact f2
          · exact rowt.right.form x (by simp [hx])
        · exact ag1 y _ _ rowt.right.adj fun z => alk' _ z
        · rw [itd, ZN, items, items, items]
          have i1 : itN y = (runes y.Text).map fun c => It.sgn c y.Marks := by rw [itN, if_pos ht]
          have i2 : itN (tN (zK ((runes y.Text).take r)) y.Marks) = ((runes y.Text).take r).map fun c => It.sgn c y.Marks := by
            have : isT (tN (zK ((runes y.Text).take r)) y.Marks) = true := rfl
            rw [itN, if_pos this]
            simp only [a1]
          have i3 : itN (tN (zK ((runes y.Text).drop r)) y.Marks) = ((runes y.Text).drop r).map fun c => It.sgn c y.Marks := by
            have : isT (tN (zK ((runes y.Text).drop r)) y.Marks) = true := rfl
            rw [itN, if_pos this]
            simp only [b1]
          rw [i1, i2, i3]
          simp only [List.append_nil, List.append_assoc]
          rw [← List.append_assoc (List.map _ (List.take r _)), ← List.map_append, List.take_append_drop]
        · rw [yH, JO]
          simp only [zF]
          have : isT (tN (zK ((runes y.Text).take r)) y.Marks) = true := rfl
          rw [jv, if_pos this, ← xO]
          simp only [a1, List.length_take]
          omega
        · rw [kH]; simp only [zN]; omega
        · simp only [zN]; omega
        · rw [YS]; simp only [kE, d1]; omega
        · simp only [kE, d1]; omega
    · exfalso
      have : l.take k = l := List.take_of_length_le hk
      rw [this] at h3
      omega
theorem alY {l : List za} (h : jk l) (hw : zN l ≤ 549755813888) {X Y : List It} (e : items l = X ++ Y) :
    ∃ a b, xB l (szI X : Int) = some (a, b, 0) ∧ jk a ∧ jk b ∧ items a = X ∧ items b = Y ∧ zN a ≤ zN l ∧ zN b ≤ zN l ∧ kE a ≤ kE l ∧ kE b ≤ kE l := by
  have hs : szI X ≤ zF l := by
    rw [← yH, e, Wp]; omega
  rcases aq3 h hw (szI X) hs with ⟨a, b, h1, h2, h3, h4, h5, h6⟩ | ⟨_, h2⟩
  · have hn : ∀ i ∈ X ++ Y, ame i := by rw [← e]; exact YQ l
    obtain ⟨e1, e2⟩ := aiY X (items a) Y (items b) hn (by rw [← e, h4]) h5.symm
    exact ⟨a, b, h1, h2, h3, e1.symm, e2.symm, h6⟩
  · exact (h2 X Y e rfl).elim
end Go.Proofs.YtclohbgnaopjfaaDoor
namespace Go.Proofs.YtclohbgnaopjfaaDoor
set_option linter.unusedSimpArgs false
set_option linter.unusedVariables false
open Go
inductive Tk where
 | sgn (c : Int) (m : List Str)
 | opn (k : Str) (a : List zh)
 | cls
mutual
def tkN : za → List Tk
 | ⟨k, t, m, a, ks⟩ => if (k == jb) = true then (runes t).map (fun c => Tk.sgn c m) else Tk.opn k a :: (tkL ks ++ [Tk.cls])
def tkL : List za → List Tk
 | [] => []
 | n :: l => tkN n ++ tkL l
end
theorem kP (n : za) : tkN n = if isT n = true then (runes n.Text).map (fun c => Tk.sgn c n.Marks) else Tk.opn n.Kind n.zu :: (tkL n.Kids ++ [Tk.cls]) := by cases n; simp only [tkN, isT]; rfl
def Xz : It → List Tk
 | .sgn c m => [.sgn c m]
 | .nod n => tkN n
def tkI (l : List It) : List Tk := l.flatMap Xz
theorem Qf (i : It) (l : List It) : tkI (i :: l) = Xz i ++ tkI l := rfl
theorem JW (a b : List It) : tkI (a ++ b) = tkI a ++ tkI b := by simp [tkI]
theorem ajo (a b : List za) : tkL (a ++ b) = tkL a ++ tkL b := by
 induction a with
 | nil => simp [tkL]
 | cons n a ih => simp only [List.cons_append, tkL, ih, List.append_assoc]
theorem ark (m : List Str) (cs : List Int) : tkI (cs.map fun c => It.sgn c m) = cs.map fun c => Tk.sgn c m := by
 induction cs with
 | nil => rfl
 | cons c cs ih => rw [List.map_cons, Qf, ih]; rfl
theorem anP (n : za) : tkI (itN n) = tkN n := by
 rw [kP]
 unfold itN
 cases h : isT n with
 | true => simp only [if_true]; exact ark _ _
 | false =>
  simp only [Bool.false_eq_true, if_false]
  have : tkI [It.nod n] = tkN n := by simp [tkI, Xz]
  rw [this, kP, h]
  simp
theorem jK (l : List za) : tkI (items l) = tkL l := by
 induction l with
 | nil => rfl
 | cons n l ih => rw [items, JW, anP, ih, tkL]
mutual
theorem aju : ∀ n : za, (tkN n).length = wF n
 | ⟨k, t, m, a, ks⟩ => by
  rw [kP, jv]
  cases h : isT (⟨k, t, m, a, ks⟩ : za) with
  | true => simp [xO]
  | false =>
   have := Wo ks
   simp; omega
theorem Wo : ∀ l : List za, (tkL l).length = zF l
 | [] => rfl
 | n :: l => by
  have h1 := aju n
  have h2 := Wo l
  simp only [tkL, zF, List.length_append]; omega
end
theorem aqs (i : It) : (Xz i).length = ahL i := by
 cases i with
 | sgn c m => rfl
 | nod n => exact aju n
theorem afy (l : List It) : (tkI l).length = szI l := by
 induction l with
 | nil => rfl
 | cons i l ih => rw [Qf, List.length_append, ih, aqs, szI]
def FI (l : List It) : Prop := ∀ n, It.nod n ∈ l → isT n = false ∧ zX n = true
theorem KV {l : List za} (h : ∀ x ∈ l, zX x = true) : FI (items l) := by
  induction l with
  | nil => intro n hn; cases hn
  | cons y l ih =>
    intro n hn
    rcases List.mem_append.1 hn with hn | hn
    · unfold itN at hn
      cases ht : isT y with
      | true => rw [ht] at hn; simp at hn
      | false =>
        rw [ht] at hn
        simp at hn
        subst hn
        exact ⟨ht, h n (by simp)⟩
    · exact ih (fun x hx => h x (by simp [hx])) n hn
def apt : List Tk → Prop
 | [] => True
 | .cls :: _ => True
 | _ => False
theorem VO {a b : za} (ha : zX a = true) (hb : zX b = true) (ta : isT a = false) (tb : isT b = false) (hk : a.Kind = b.Kind) (hat : a.zu = b.zu) (hks : a.Kids = b.Kids) : a = b := by
  rw [jC, if_neg (by simp [ta])] at ha
  rw [jC, if_neg (by simp [tb])] at hb
  simp only [Bool.and_eq_true, decide_eq_true_eq] at ha hb
  cases a; cases b
  simp_all
theorem af4 : ∀ (f : Nat) (X Y : List It) (R S : List Tk), szI X ≤ f → FI X → FI Y → apt R → apt S → tkI X ++ R = tkI Y ++ S → X = Y ∧ R = S
  | f, [], [], R, S, _, _, _, _, _, h => ⟨rfl, h⟩
  | f, [], j :: Y, R, S, _, _, fy, hR, _, h => by
    exfalso
    rw [Qf] at h
    cases j with
    | sgn c m =>
      simp only [Xz, tkI, List.flatMap_nil, List.nil_append, List.cons_append] at h
      rw [h] at hR
      exact hR
    | nod n =>
      have := (fy n (by simp)).1
      simp only [Xz, tkI, List.flatMap_nil, List.nil_append] at h
      rw [kP, this] at h
      simp only [Bool.false_eq_true, if_false, List.cons_append] at h
      rw [h] at hR
      exact hR
  | f, i :: X, [], R, S, _, fx, _, _, hS, h => by
    exfalso
    rw [Qf] at h
    cases i with
    | sgn c m =>
      simp only [Xz, tkI, List.flatMap_nil, List.nil_append, List.cons_append] at h
      rw [← h] at hS
      exact hS
    | nod n =>
      have := (fx n (by simp)).1
      simp only [Xz, tkI, List.flatMap_nil, List.nil_append] at h
      rw [kP, this] at h
      simp only [Bool.false_eq_true, if_false, List.cons_append] at h
      rw [← h] at hS
      exact hS
  | 0, i :: X, j :: Y, R, S, hf, fx, _, _, _, h => by
    exfalso
    have := XH i (by
      intro n hn
      subst hn
      exact (fx n (by simp)).1)
    simp only [szI] at hf
    omega
  | f + 1, i :: X, j :: Y, R, S, hf, fx, fy, hR, hS, h => by
    have hp := XH i (by
      intro n hn
      subst hn
      exact (fx n (by simp)).1)
    simp only [szI] at hf
    have fx' : FI X := fun n hn => fx n (by simp [hn])
    have fy' : FI Y := fun n hn => fy n (by simp [hn])
    rw [Qf, Qf] at h
    cases i with
    | sgn c m =>
      cases j with
      | sgn c' m' =>
        simp only [Xz, List.cons_append, List.nil_append, List.cons.injEq, Tk.sgn.injEq] at h
        obtain ⟨⟨rfl, rfl⟩, h⟩ := h
        obtain ⟨rfl, h2⟩ := af4 f X Y R S (by omega) fx' fy' hR hS h
        exact ⟨rfl, h2⟩
      | nod n =>
        exfalso
        have := (fy n (by simp)).1
        simp only [Xz] at h
        rw [kP, this] at h
        simp at h
    | nod n =>
      obtain ⟨tn, fn⟩ := fx n (by simp)
      cases j with
      | sgn c m =>
        exfalso
        simp only [Xz] at h
        rw [kP, tn] at h
        simp at h
      | nod n' =>
        obtain ⟨tn', fn'⟩ := fy n' (by simp)
        simp only [Xz] at h
        rw [kP, kP, tn, tn'] at h
        simp only [Bool.false_eq_true, if_false, List.cons_append, List.append_assoc, List.nil_append, List.cons.injEq, Tk.opn.injEq] at h
        obtain ⟨⟨hk, hat⟩, h⟩ := h
        have r1 := xJ fn tn
        have r2 := xJ fn' tn'
        have hsz : szI (items n.Kids) ≤ f := by
          rw [yH]
          simp only [ahL] at hf
          rw [jv, tn] at hf
          simp at hf
          omega
        rw [← jK, ← jK] at h
        obtain ⟨e1, e2⟩ := af4 f (items n.Kids) (items n'.Kids) (Tk.cls :: (tkI X ++ R)) (Tk.cls :: (tkI Y ++ S)) hsz (KV r1.form) (KV r2.form) trivial trivial h
        have e3 := afW r1 r2 e1
        have e4 := VO fn fn' tn tn' hk hat e3
        subst e4
        simp only [List.cons.injEq, true_and] at e2
        obtain ⟨rfl, h2⟩ := af4 f X Y R S (by omega) fx' fy' hR hS e2
        exact ⟨rfl, h2⟩
theorem an2 {a b : List za} (ha : jk a) (hb : jk b) (h : tkL a = tkL b) : a = b := by
  rw [← jK, ← jK] at h
  exact afW ha hb (af4 (szI (items a)) (items a) (items b) [] [] (Nat.le_refl _) (KV ha.form) (KV hb.form) trivial trivial (by simpa using h)).1
end Go.Proofs.YtclohbgnaopjfaaDoor
namespace Go.Proofs.YtclohbgnaopjfaaDoor
set_option linter.unusedSimpArgs false
set_option linter.unusedVariables false
open Go
theorem right_eq (n : za) (h : nwt n ≤ 1099511627776) : QY n = some (checkN n == 0) := by
 unfold QY
 rw [aco n h]
 rfl
end Go.Proofs.YtclohbgnaopjfaaDoor
namespace Go.Proofs.YtclohbgnaopjfaaDoor
set_option linter.unusedSimpArgs false
set_option linter.unusedVariables false
open Go
def afT (l : List za) (i r : Nat) : Prop := i ≤ l.length ∧ (∀ k, l[i]? = some k → r < wF k) ∧ (i = l.length → r = 0)
theorem XR : ∀ (l : List za) (i r j s : Nat), afT l i r → afT l j s → zF (l.take i) + r = zF (l.take j) + s → i = j ∧ r = s
  | [], i, r, j, s, h1, h2, h => by
    obtain ⟨a1, _, a3⟩ := h1
    obtain ⟨b1, _, b3⟩ := h2
    simp only [List.length_nil, Nat.le_zero] at a1 b1
    subst a1; subst b1
    simp only [List.length_nil, forall_const] at a3 b3
    omega
  | k :: l, 0, r, 0, s, h1, h2, h => by
    simp only [List.take_zero, zF] at h
    omega
  | k :: l, 0, r, j + 1, s, h1, h2, h => by
    have := h1.2.1 k rfl
    simp only [List.take_zero, List.take_succ_cons, zF] at h
    omega
  | k :: l, i + 1, r, 0, s, h1, h2, h => by
    have := h2.2.1 k rfl
    simp only [List.take_zero, List.take_succ_cons, zF] at h
    omega
  | k :: l, i + 1, r, j + 1, s, h1, h2, h => by
    have g : ∀ i r, afT (k :: l) (i + 1) r → afT l i r := fun i r h => ⟨by simpa using h.1, fun y hy => h.2.1 y (by simpa using hy), fun e => h.2.2 (by simp [e])⟩
    simp only [List.take_succ_cons, zF] at h
    obtain ⟨e1, e2⟩ := XR l i r j s (g _ _ h1) (g _ _ h2) (by omega)
    exact ⟨by omega, e2⟩
theorem At.fn {n : za} {q m a} (h : At n q m a) : ∀ {m' a'}, At n q m' a' → m = m' ∧ a = a' := by
 induction h with
 | nil n => intro m' a' h'; cases h'; exact ⟨rfl, rfl⟩
 | cons n i k q m a hi hn hk h ih =>
  intro m' a' h'
  cases h' with
  | cons _ _ k' _ _ a2 hi' _ _ h2 =>
   rw [hi] at hi'
   cases hi'
   obtain ⟨rfl, rfl⟩ := ih h2
   exact ⟨rfl, rfl⟩
def abq (m : za) (idx off : Nat) : Prop := idx ≤ m.Kids.length ∧ (∀ k, m.Kids[idx]? = some k → off < wF k ∧ (0 < off → isT k = true)) ∧ (idx = m.Kids.length → off = 0)
theorem abq.idx {m : za} {i r} (h : abq m i r) : afT m.Kids i r := ⟨h.1, fun k hk => (h.2.1 k hk).1, h.2.2⟩
theorem abq.le {m : za} {i r} (h : abq m i r) : zF (m.Kids.take i) + r ≤ zF m.Kids := by
 rcases Nat.lt_or_ge i m.Kids.length with hi | hi
 ·have hk : m.Kids[i]? = some m.Kids[i] := List.getElem?_eq_getElem hi
  have h1 := (h.2.1 _ hk).1
  have h2 := ad6 hk
  omega
 ·have := h.2.2 (by have := h.1; omega)
  have := agR m.Kids i
  omega
theorem aop {n : za} {q m a} (h : At n q m a) : ∀ {q' m' a' i r i' r'}, At n q' m' a' → isT m = false → isT m' = false → abq m i r → abq m' i' r' → a + zF (m.Kids.take i) + r = a' + zF (m'.Kids.take i') + r' → q = q' ∧ i = i' ∧ r = r' := by
 induction h with
 | nil n =>
  intro q' m' a' i r i' r' h' hm hm' hs hs' e
  cases h' with
  | nil =>
   obtain ⟨e1, e2⟩ := XR n.Kids i r i' r' hs.idx hs'.idx (by omega)
   exact ⟨rfl, e1, e2⟩
  | cons _ j k' q2 _ a2 hi' hn' hk' h2 =>
   exfalso
   have hle := hs'.le
   have hsz := h2.sizes
   have hk2 := ZE hk'
   have hlt : j < n.Kids.length := (List.getElem?_eq_some_iff.1 hi').1
   obtain ⟨e1, e2⟩ := XR n.Kids i r j (1 + (a2 + zF (m'.Kids.take i') + r')) hs.idx ⟨by omega, fun k hk => by rw [hi'] at hk; cases hk; omega, fun e => by omega⟩ (by omega)
   subst e1
   have := (hs.2.1 k' hi').2 (by omega)
   rw [hk'] at this
   cases this
 | cons n j k q m a hi hn hk h ih =>
  intro q' m' a' i r i' r' h' hm hm' hs hs' e
  have hle := hs.le
  have hsz := h.sizes
  have hk2 := ZE hk
  have hlt : j < n.Kids.length := (List.getElem?_eq_some_iff.1 hi).1
  have I1 : afT n.Kids j (1 + (a + zF (m.Kids.take i) + r)) := ⟨by omega, fun k2 hk2' => by rw [hi] at hk2'; cases hk2'; omega, fun e => by omega⟩
  cases h' with
  | nil =>
   exfalso
   obtain ⟨e1, e2⟩ := XR n.Kids _ _ _ _ I1 hs'.idx (by omega)
   subst e1
   have := (hs'.2.1 k hi).2 (by omega)
   rw [hk] at this
   cases this
  | cons _ j' k' q2 _ a2 hi' hn' hk' h2 =>
   have hle' := hs'.le
   have hsz' := h2.sizes
   have hk2' := ZE hk'
   have hlt' : j' < n.Kids.length := (List.getElem?_eq_some_iff.1 hi').1
   have I2 : afT n.Kids j' (1 + (a2 + zF (m'.Kids.take i') + r')) := ⟨by omega, fun k2 hk3 => by rw [hi'] at hk3; cases hk3; omega, fun e => by omega⟩
   obtain ⟨e1, e2⟩ := XR n.Kids _ _ _ _ I1 I2 (by omega)
   subst e1
   rw [hi] at hi'
   cases hi'
   obtain ⟨e3, e4, e5⟩ := ih h2 hm hm' hs hs' (by omega)
   exact ⟨by rw [e3], e4, e5⟩
theorem apC {l : List It} (h : ∀ i ∈ l, ame i) (hs : szI l = 0) : l = [] := by
 cases l with
 | nil => rfl
 | cons i l =>
  have := XH i (h i (by simp))
  simp only [szI] at hs
  omega
theorem aqv {A B C D : List It} (hn : ∀ i ∈ A ++ B, ame i) (h : A ++ B = C ++ D) (hs : szI A ≤ szI C) : ∃ M, C = A ++ M ∧ B = M ++ D := by
  rcases List.append_eq_append_iff.1 h with ⟨M, h1, h2⟩ | ⟨M, h1, h2⟩
  · exact ⟨M, h1, h2⟩
  · have : M = [] := by
      refine apC (fun i hi => hn i (by rw [h1]; simp [hi])) ?_
      rw [h1, Wp] at hs
      omega
    subst this
    simp only [List.append_nil, List.nil_append] at h1 h2
    exact ⟨[], by simp [h1], by simpa using h2.symm⟩
theorem ab0 : ∀ (K : List za) (X R : List It), (∀ x ∈ K, zX x = true) → items K = X ++ R → ∃ idx off, zF (K.take idx) + off = szI X ∧ idx ≤ K.length ∧ (∀ k, K[idx]? = some k → off < wF k ∧ (0 < off → isT k = true)) ∧ (idx = K.length → off = 0)
  | [], X, R, _, h => by
    have : X = [] := by
      cases X with
      | nil => rfl
      | cons => cases h
    subst this
    exact ⟨0, 0, rfl, Nat.le_refl _, by simp, fun _ => rfl⟩
  | k :: K, X, R, hf, h => by
    have hn : ∀ i ∈ itN k ++ items K, ame i := YQ (k :: K)
    rw [items] at h
    rcases Nat.lt_or_ge (szI X) (wF k) with hc | hc
    · refine ⟨0, szI X, by simp [zF], by simp, ?_, by simp⟩
      intro k' hk'
      simp only [List.getElem?_cons_zero, Option.some.injEq] at hk'
      subst hk'
      refine ⟨hc, fun hp => ?_⟩
      cases ht : isT k with
      | true => rfl
      | false =>
        exfalso
        cases X with
        | nil => simp [szI] at hp
        | cons i X =>
          have : itN k = [It.nod k] := by unfold itN; rw [ht]; rfl
          rw [this] at h
          simp only [List.cons_append, List.nil_append, List.cons.injEq] at h
          rw [← h.1] at hc
          simp only [szI, ahL] at hc
          omega
    · obtain ⟨M, h1, h2⟩ := aqv hn h (by rw [ajh]; exact hc)
      obtain ⟨idx, off, e1, e2, e3, e4⟩ := ab0 K M R (fun x hx => hf x (by simp [hx])) h2
      refine ⟨idx + 1, off, ?_, by simpa using e2, fun k' hk' => e3 k' (by simpa using hk'), fun e => e4 (by simpa using e)⟩
      rw [h1, Wp, ajh]
      simp only [List.take_succ_cons, zF]
      omega
theorem acE {m : za} {idx off : Nat} (h : abq m idx off) : ∃ X R, items m.Kids = X ++ R ∧ szI X = zF (m.Kids.take idx) + off := by
  have e : items m.Kids = items (m.Kids.take idx) ++ items (m.Kids.drop idx) := by rw [← ZN, List.take_append_drop]
  by_cases h0 : off = 0
  · exact ⟨_, _, e, by rw [yH, h0]; rfl⟩
  · have hlt : idx < m.Kids.length := by
      rcases Nat.lt_or_ge idx m.Kids.length with h1 | h1
      · exact h1
      · exact (h0 (h.2.2 (by have := h.1; omega))).elim
    have hk : m.Kids[idx]? = some m.Kids[idx] := List.getElem?_eq_getElem hlt
    obtain ⟨h1, h2⟩ := h.2.1 _ hk
    have ht := h2 (by omega)
    rw [List.drop_eq_getElem_cons hlt, items] at e
    generalize m.Kids[idx] = k at *
    have ei : itN k = (runes k.Text).map fun c => It.sgn c k.Marks := by unfold itN; rw [if_pos ht]
    have ec : itN k = ((runes k.Text).take off).map (fun c => It.sgn c k.Marks) ++ ((runes k.Text).drop off).map fun c => It.sgn c k.Marks := by
      rw [← List.map_append, List.take_append_drop, ei]
    rw [ec, List.append_assoc, ← List.append_assoc] at e
    refine ⟨_, _, e, ?_⟩
    rw [Wp, yH, anZ, List.length_take]
    rw [jv, if_pos ht, ← xO] at h1
    omega
structure Flat (n : za) (f t : Nat) (q : List Nat) (m : za) (a : Nat) (X Y Z : List It) : Prop where
 at_ : At n q m a
 nt : isT m = false
 it : items m.Kids = X ++ (Y ++ Z)
 sx : a + szI X = f
 sy : f + szI Y = t
theorem At.form {n : za} {q m a} (h : At n q m a) : zX n = true → zX m = true := by
 induction h with
 | nil n => exact id
 | cons n i k q m a hi hn hk h ih => exact fun hf => ih (am0 hf hn k (List.mem_of_getElem? hi))
theorem anF {n : za} {q m a X R} (hf : zX n = true) (h : At n q m a) (hm : isT m = false) (e : items m.Kids = X ++ R) {s p} (hs : JR n s p) (hp : a + szI X = p) : s.Path = up q := by
 obtain ⟨q', m', a', idx', off', rfl, h', hm', b1, b2, b3, b4⟩ := hs
 obtain ⟨idx, off, c1, c2, c3, c4⟩ := ab0 m.Kids X R (xJ (h.form hf) hm).form e
 obtain ⟨rfl, _, _⟩ := aop h h' hm hm' ⟨c2, c3, c4⟩ ⟨b1, b3, b4⟩ (by omega)
 rfl
theorem arh (b : List Int) : ∀ (suf pre : List Int) (i : Int), i = (pre.length : Int) → b.length = pre.length + suf.length → b.take pre.length = pre → wJ b suf i = some (if pre ++ suf = b then .inr () else .inl false)
  | [], pre, i, hi, hl, ht => by
    have : pre = b := by
      rw [← ht, List.take_of_length_le]
      simp at hl; omega
    simp [wJ, this]
  | y :: suf, pre, i, hi, hl, ht => by
    simp only [List.length_cons] at hl
    obtain ⟨x, hx⟩ : ∃ x, b[pre.length]? = some x := ⟨b[pre.length], List.getElem?_eq_getElem (by omega)⟩
    rw [wJ, hi, Ve hx]
    simp only [Option.bind_some]
    have htk : b.take (pre.length + 1) = pre ++ [x] := by
      rw [List.take_add_one, ht, hx]
      rfl
    by_cases hxy : y = x
    · subst hxy
      simp only [bne_self_eq_false, Bool.false_eq_true, if_false]
      rw [arh b suf (pre ++ [y]) _ (by simp) (by simp; omega) (by simpa using htk)]
      simp
    · have hn : ¬ pre ++ y :: suf = b := by
        intro h
        rw [← h] at hx
        simp at hx
        exact hxy hx
      have g : (y != x) = true := by simpa using hxy
      rw [if_pos g, if_neg hn]
theorem aun (a b : List Int) (h : a.length ≤ 9223372036854775807) : slices_Equal_int a b = some (decide (a = b)) := by
  unfold slices_Equal_int
  by_cases hl : a.length = b.length
  · simp only [hl, bne_self_eq_false, Bool.false_eq_true, if_false]
    rw [wK (by omega), arh b a [] 0 rfl (by simp [hl]) (by simp)]
    by_cases e : a = b <;> simp [e]
  · have h1 : ((a.length : Int) != (b.length : Int)) = true := by simp; omega
    have h2 : ¬ a = b := fun e => hl (by rw [e])
    rw [if_pos h1]
    simp [h2]
theorem JR.len {n : za} {s p} (h : JR n s p) : s.Path.length ≤ p := by
 obtain ⟨q, m, a, idx, off, rfl, h1, _, _, h2, _⟩ := h
 rw [ag9]
 have := h1.len
 omega
structure RN (n : za) : Prop where
 ok : checkN n = 0
 nt : isT n = false
 wt : nwt n ≤ 549755813888
theorem abk {n : za} (h : checkN n = 0) : zX n = true ∧ yf n ≤ 40 ∧ wF n ≤ 4000 := by
 unfold checkN at h
 cases hf : zX n with
 | false => rw [hf] at h; simp at h
 | true =>
  rw [hf] at h
  simp only [Bool.true_eq_false, if_false] at h
  refine ⟨rfl, ?_, ?_⟩
  ·by_cases hd : 40 < yf n
   ·rw [if_pos hd] at h; cases h
   ·omega
  ·by_cases hd : 40 < yf n
   ·rw [if_pos hd] at h; cases h
   ·rw [if_neg hd] at h
    by_cases hs : 4000 < wF n
    ·rw [if_pos hs] at h; cases h
    ·omega
theorem RN.form {n : za} (h : RN n) : zX n = true := (abk h.ok).1
theorem amK {n : za} (hn : RN n) {f t q m a X Y Z} (h : Flat n f t q m a X Y Z) : WK n (f : Int) (t : Int) = some (⟨up q, m, (szI X : Int), ((szI X + szI Y : Nat) : Int)⟩, 0) := by
  obtain ⟨h1, h2, h3, h4, h5⟩ := h
  have hw := hn.wt
  have z1 := h1.sizes
  have z2 : szI X + (szI Y + szI Z) = zF m.Kids := by rw [← yH, h3, Wp, Wp]
  have z3 := kT n.Kids
  have z4 := xw n
  have z5 := h1.len
  obtain ⟨s1, e1, o1⟩ := abg hn.nt (by omega) f (by omega)
  obtain ⟨s2, e2, o2⟩ := abg hn.nt (by omega) t (by omega)
  have p1 := anF hn.form h1 h2 (R := Y ++ Z) h3 o1 h4
  have p2 := anF hn.form h1 h2 (X := X ++ Y) (R := Z) (by rw [h3, List.append_assoc]) o2 (by rw [Wp]; omega)
  have l1 := o1.len
  have g0 : (n.Kind == ([116, 101, 120, 116] : Str)) = false := hn.nt
  have g1 : decide ((t : Int) < (f : Int)) = false := by simp; omega
  unfold WK
  rw [g0]
  simp only [Bool.false_eq_true, if_false]
  rw [right_eq n (by omega), hn.ok]
  simp only [Option.bind_some, beq_self_eq_true, Bool.not_true, Bool.false_eq_true, if_false]
  rw [e1]
  simp only [Option.bind_some, bne_self_eq_false, Bool.false_eq_true, if_false]
  rw [e2]
  simp only [Option.bind_some, bne_self_eq_false, Bool.false_eq_true, if_false, g1]
  rw [aun _ _ (by omega), p1, p2]
  simp only [Option.bind_some, decide_true, Bool.not_true, Bool.false_eq_true, if_false]
  rw [start_eq h1 h2 (by omega), ab5 h1 h2 (by omega)]
  simp only [Option.bind_some]
  unfold wR
  simp only [bne_self_eq_false, Bool.false_eq_true, if_false, Option.bind_some]
  rw [wh (by omega), wh (by omega)]
  congr 2
  have e3 : (f : Int) - (a : Int) = (szI X : Int) := by omega
  have e4 : (t : Int) - (a : Int) = ((szI X + szI Y : Nat) : Int) := by omega
  rw [e3, e4]
theorem asV {n : za} (hn : RN n) {f t : Nat} (hft : f ≤ t) {s1 s2} (o1 : JR n s1 f) (o2 : JR n s2 t) (he : s1.Path = s2.Path) : ∃ q m a X Y Z, Flat n f t q m a X Y Z ∧ s1.Path = up q := by
 obtain ⟨q, m, a, idx, off, rfl, h1, hm, b1, b2, b3, b4⟩ := o1
 obtain ⟨q', m', a', idx', off', rfl, h1', hm', c1, c2, c3, c4⟩ := o2
 have : q = q' := atX he
 subst this
 obtain ⟨rfl, rfl⟩ := h1.fn h1'
 obtain ⟨X, R, x1, x2⟩ := acE (m := m) ⟨b1, b3, b4⟩
 obtain ⟨X', R', y1, y2⟩ := acE (m := m) ⟨c1, c3, c4⟩
 obtain ⟨M, m1, m2⟩ := aqv (by rw [← x1]; exact YQ _) (x1.symm.trans y1) (by omega)
 refine ⟨q, m, a, X, M, R', ⟨h1, hm, ?_, by omega, ?_⟩, rfl⟩
 ·rw [x1, m2]
 ·rw [m1, Wp] at y2
  omega
theorem arc {n : za} (hn : RN n) {f : Nat} (hf : f ≤ zF n.Kids) : ∃ q m a X Z, Flat n f f q m a X [] Z := by
  obtain ⟨s, _, o⟩ := abg hn.nt (by have := hn.wt; omega) f hf
  obtain ⟨q, m, a, X, Y, Z, h, _⟩ := asV hn (Nat.le_refl f) o o rfl
  have hz : szI Y = 0 := by have := h.sy; omega
  have : Y = [] := apC (fun i hi => YQ m.Kids i (by rw [h.it]; simp [hi])) hz
  subst this
  exact ⟨q, m, a, X, Z, h⟩
end Go.Proofs.YtclohbgnaopjfaaDoor
namespace Go.Proofs.YtclohbgnaopjfaaDoor
set_option linter.unusedSimpArgs false
set_option linter.unusedVariables false
open Go
theorem akI : ∀ (a : List za) (k k' : za) (b : List za), vo (a ++ k :: b) → (∀ z, wu z k' = wu z k) → (∀ z, wu k' z = wu k z) → vo (a ++ k' :: b)
 | [], k, k', b, h, _, h2 => ag1 k k' b h h2
 | [x], k, k', b, h, h1, h2 => ⟨by rw [h1]; exact h.1, ag1 k k' b h.2 h2⟩
 | x :: y :: a, k, k', b, h, h1, h2 => ⟨h.1, akI (y :: a) k k' b h.2 h1 h2⟩
theorem acS {x : za} (h : isT x = false) (z : za) : wu z x = false ∧ wu x z = false := by
 unfold wu
 rw [h]
 simp
theorem ard {x : za} (hx : isT x = false) (fx : zX x = true) {n : za} {q m a} (h : At n q m a) : zX n = true → zX (VS q n x) = true := by
 induction h with
 | nil n => exact fun _ => fx
 | cons n i k q m a hi hn hk h ih =>
  intro hf
  have hl := (List.getElem?_eq_some_iff.1 hi).1
  have hr := xJ hf hn
  have hkf := hr.form k (List.mem_of_getElem? hi)
  have e := Jr hi
  rw [KH hi]
  refine YZ hf hn ⟨fun y hy => ?_, ?_⟩
  ·rcases List.mem_or_eq_of_mem_set hy with hy | rfl
   ·exact hr.form y hy
   ·exact ih hkf
  ·rw [List.set_eq_take_append_cons_drop, if_pos hl]
   have ha := hr.adj
   rw [e] at ha
   have h1 := agS q k x hk hx
   exact akI _ k _ _ ha (fun z => by rw [(acS h1 z).1, (acS hk z).1]) (fun z => by rw [(acS h1 z).2, (acS hk z).2])
theorem alz {l : List za} {i : Nat} {k : za} (h : l[i]? = some k) : kE l = max (kE (l.take i)) (max (Qd k) (kE (l.drop (i + 1)))) := by
 conv => lhs; rw [Jr h]
 rw [YS, kE]
theorem At.depth {n : za} {q m a} (h : At n q m a) : q.length + Qd m ≤ Qd n := by
 induction h with
 | nil n => simp
 | cons n i k q m a hi hn hk h ih =>
  have := alz hi
  rw [yJ n]
  simp only [List.length_cons]
  omega
theorem arp {x : za} {n : za} {q m a} (h : At n q m a) (h1 : x.Kind = m.Kind) (h2 : x.zu = m.zu) (h3 : x.Text = m.Text) (h4 : x.Marks = m.Marks) : (VS q n x).Kind = n.Kind ∧ (VS q n x).zu = n.zu ∧ (VS q n x).Text = n.Text ∧ (VS q n x).Marks = n.Marks := by
 cases h with
 | nil n => exact ⟨h1, h2, h3, h4⟩
 | cons n i k q m a hi hn hk h => rw [KH hi]; exact ⟨rfl, rfl, rfl, rfl⟩
theorem agP {l : List za} {i : Nat} {k : za} (h : l[i]? = some k) : tkL l = tkL (l.take i) ++ (tkN k ++ tkL (l.drop (i + 1))) := by
 conv => lhs; rw [Jr h]
 rw [ajo, tkL]
theorem auJ {n : za} {q m a} (h : At n q m a) : ∃ P S, P.length = a ∧ tkL n.Kids = P ++ (tkL m.Kids ++ S) ∧ ∀ x : za, isT x = false → x.Kind = m.Kind → x.zu = m.zu → tkL (VS q n x).Kids = P ++ (tkL x.Kids ++ S) := by
  induction h with
  | nil n => exact ⟨[], [], rfl, by simp, fun x _ _ _ => by simp [VS]⟩
  | cons n i k q m a hi hn hk h ih =>
    obtain ⟨P, S, h1, h2, h3⟩ := ih
    have hl := (List.getElem?_eq_some_iff.1 hi).1
    refine ⟨tkL (n.Kids.take i) ++ (Tk.opn k.Kind k.zu :: P), S ++ (Tk.cls :: tkL (n.Kids.drop (i + 1))), ?_, ?_, fun x hx hk1 hk2 => ?_⟩
    · simp only [List.length_append, List.length_cons, Wo]; omega
    · rw [agP hi, kP, if_neg (by simp [hk]), h2]
      simp only [List.append_assoc, List.cons_append, List.nil_append]
    · have hkk : (VS q k x).Kind = k.Kind ∧ (VS q k x).zu = k.zu := by
        cases h with
        | nil k => exact ⟨hk1, hk2⟩
        | cons k i' k' q m a hi' hn' hk' h => rw [KH hi']; exact ⟨rfl, rfl⟩
      have hnt := agS q k x hk hx
      rw [KH hi]
      simp only
      rw [List.set_eq_take_append_cons_drop, if_pos hl, ajo, tkL, kP, if_neg (by simp [hnt]), h3 x hx hk1 hk2, hkk.1, hkk.2]
      simp only [List.append_assoc, List.cons_append, List.nil_append]
theorem ai2 : ∀ (ls : List (List za)) (i : Int) (s : Nat), s + ls.flatten.length ≤ 1099511627776 → qi ls i (s : Int) = some ((s + ls.flatten.length : Nat) : Int)
  | [], i, s, _ => by simp [qi]
  | y :: ls, i, s, h => by
    simp only [List.flatten_cons, List.length_append] at h
    have e : w64 ((s : Int) + (y.length : Int)) = ((s + y.length : Nat) : Int) := by rw [wh (by omega)]; omega
    have g : decide (((s + y.length : Nat) : Int) < 0) = false := by simp; omega
    rw [qi, e, g]
    simp only [Bool.false_eq_true, if_false]
    rw [ai2 ls _ _ (by omega)]
    simp only [List.flatten_cons, List.length_append, Nat.add_assoc]
theorem aiO : ∀ (ls : List (List za)) (i : Int) (o : List za), o.length + ls.flatten.length ≤ 1099511627776 → qh ls i o = some (o ++ ls.flatten)
  | [], i, o, _ => by simp [qh]
  | y :: ls, i, o, h => by
    simp only [List.flatten_cons, List.length_append] at h
    rw [qh, kU (by omega)]
    simp only [Option.bind_some]
    rw [aiO ls _ _ (by rw [List.length_append]; omega)]
    simp
theorem ao2 (ls : List (List za)) (hl : ls.length ≤ 9223372036854775807) (h : ls.flatten.length ≤ 1099511627776) : kL ls = some ls.flatten := by
  unfold kL
  have h0 := ai2 ls 0 0 (by omega)
  have h1 := aiO ls 0 [] (by rw [List.length_nil]; omega)
  have e : ((0 : Nat) : Int) = 0 := rfl
  rw [e] at h0
  rw [wK hl, h0]
  simp only [Option.bind_some]
  unfold vW
  rw [wK (by omega)]
  simp only [Option.bind_some]
  rw [wK hl, h1]
  simp
theorem atW {l : List za} (h : jk l) : checkN (⟨[120], [], [], [], l⟩ : za) ≠ 2 := by
  have hf : zX (⟨[120], [], [], [], l⟩ : za) = true := by
    have ht : isT (⟨[120], [], [], [], l⟩ : za) = false := rfl
    have h1 : isName [120] = true := by decide +kernel
    have h3 : xh [] = true := rfl
    rw [jC, if_neg (by simp [ht])]
    simp [h1, h3, amy h]
  unfold checkN
  rw [hf]
  simp only [Bool.true_eq_false, if_false]
  split
  · simp
  · split <;> simp
theorem atL {n : za} {f t q m a X Y Z} (h : Flat n f t q m a X Y Z) {l : List za} {K : List za} (hK : items K = X ++ (items l ++ Z)) : ∃ P S, P.length = f ∧ (P ++ tkI Y).length = t ∧ tkL n.Kids = P ++ (tkI Y ++ S) ∧ tkL (VS q n ({ m with Kids := K } : za)).Kids = P ++ (tkL l ++ S) := by
 obtain ⟨P, S, h1, h2, h3⟩ := auJ h.at_
 have e := h3 ({ m with Kids := K } : za) h.nt rfl rfl
 have x1 := afy X
 have x2 := afy Y
 have x3 := h.sx
 have x4 := h.sy
 refine ⟨P ++ tkI X, tkI Z ++ S, by simp; omega, by simp; omega, ?_, ?_⟩
 ·rw [h2, ← jK, h.it, JW, JW]
  simp only [List.append_assoc]
 ·rw [e]
  simp only
  rw [← jK K, hK, JW, JW, jK]
  simp only [List.append_assoc]
end Go.Proofs.YtclohbgnaopjfaaDoor
namespace Go.Proofs.YtclohbgnaopjfaaDoor
set_option linter.unusedSimpArgs false
set_option linter.unusedVariables false
open Go
end Go.Proofs.YtclohbgnaopjfaaDoor
namespace Go.Proofs.YtclohbgnaopjfaaDoor
set_option linter.unusedSimpArgs false
set_option linter.unusedVariables false
open Go
def aqN : Tk → Nat
 | .sgn _ m => 10 + wN m
 | .opn k a => 2 + k.length + kz a
 | .cls => 0
def tw : List Tk → Nat
 | [] => 0
 | t :: l => aqN t + tw l
theorem abh : ∀ a b : List Tk, tw (a ++ b) = tw a + tw b
 | [], b => by simp [tw]
 | x :: a, b => by simp only [List.cons_append, tw, abh a b]; omega
theorem afA (m : List Str) : ∀ l : List Int, tw (l.map fun c => Tk.sgn c m) = l.length * (10 + wN m)
 | [] => by simp [tw]
 | c :: l => by simp only [List.map_cons, tw, aqN, afA m l, List.length_cons, Nat.add_mul]; omega
theorem abY : ∀ l : List Int, (zK l).length ≤ 4 * l.length
 | [] => by simp [zK]
 | c :: l => by
  rw [VP, List.length_append, List.length_cons]
  have := (ao6 c).2
  have := abY l
  omega
theorem ajS : ∀ l : List za, (∀ n ∈ l, nwt n ≤ tw (tkN n)) → zN l ≤ tw (tkL l)
 | [], _ => by simp [zN]
 | n :: l, h => by
  have h1 := h n (by simp)
  have h2 := ajS l fun x hx => h x (by simp [hx])
  simp only [zN, tkL, abh]; omega
theorem at7 (n : za) : zX n = true → nwt n ≤ tw (tkN n) := by
  induction n using za.ind with
  | h n ih =>
    intro hf
    rw [wo, kP]
    cases ht : isT n with
    | true =>
      obtain ⟨h1, h2, h3, h4, h5⟩ := yL hf ht
      have hk := Jp ht
      have hr := abY (runes n.Text)
      rw [WE h2] at hr
      have hl := akM h1
      rw [← xO] at hl
      simp only [if_true]
      rw [afA, h4, h5, hk, Nat.mul_add]
      have : wN n.Marks ≤ (runes n.Text).length * wN n.Marks := Nat.le_mul_of_pos_left _ (by omega)
      simp only [kz, zN, jb, List.length_cons, List.length_nil]
      omega
    | false =>
      have hr := xJ hf ht
      have h1 := ajS n.Kids fun x hx => ih x hx (hr.form x hx)
      rw [jC, if_neg (by simp [ht])] at hf
      simp only [Bool.and_eq_true, decide_eq_true_eq] at hf
      simp only [Bool.false_eq_true, if_false, tw, aqN, abh]
      rw [hf.1.1.1.2, hf.1.1.2]
      simp only [wN, List.length_nil]
      omega
theorem arM {l : List za} (h : jk l) : zN l ≤ tw (tkL l) := ajS l fun n hn => at7 n (h.form n hn)
theorem adk (W : Nat) : ∀ l : List za, (∀ n ∈ l, tw (tkN n) ≤ nwt n * (W + 10)) → tw (tkL l) ≤ zN l * (W + 10)
 | [], _ => by simp [tkL, tw]
 | n :: l, h => by
  have h1 := h n (by simp)
  have h2 := adk W l fun x hx => h x (by simp [hx])
  simp only [zN, tkL, abh, Nat.add_mul]; omega
theorem amk (W : Nat) (n : za) : nwt n ≤ W → tw (tkN n) ≤ nwt n * (W + 10) := by
 induction n using za.ind with
 | h n ih =>
  intro hw
  have e := wo n
  rw [kP]
  cases ht : isT n with
  | true =>
   simp only [if_true]
   rw [afA, xO]
   have := afz n.Text
   exact Nat.mul_le_mul (by omega) (by omega)
  | false =>
   have h1 := adk W n.Kids fun x hx => ih x hx (by have := yF hx; omega)
   simp only [Bool.false_eq_true, if_false, tw, aqN, abh]
   have h2 : (2 + n.Kind.length + kz n.zu) ≤ (2 + n.Kind.length + kz n.zu) * (W + 10) := Nat.le_mul_of_pos_right _ (by omega)
   have h3 : (2 + n.Kind.length + kz n.zu + zN n.Kids) * (W + 10) ≤ nwt n * (W + 10) := Nat.mul_le_mul_right _ (by omega)
   rw [Nat.add_mul] at h3
   omega
theorem aiJ {W : Nat} {l : List za} (h : zN l ≤ W) : tw (tkL l) ≤ W * (W + 10) := by
 have h1 := adk W l fun n hn => amk W n (by have := yF hn; omega)
 have := Nat.mul_le_mul_right (W + 10) h
 omega
def dpT : Nat → List Tk → Nat
 | _, [] => 0
 | d, .opn _ _ :: l => max (d + 1) (dpT (d + 1) l)
 | d, .cls :: l => dpT (d - 1) l
 | d, .sgn _ _ :: l => dpT d l
theorem ale (m : List Str) (d : Nat) (R : List Tk) : ∀ l : List Int, dpT d ((l.map fun c => Tk.sgn c m) ++ R) = dpT d R
 | [] => rfl
 | c :: l => by rw [List.map_cons, List.cons_append, dpT, ale m d R l]
def dOf (d x : Nat) : Nat := if x = 0 then 0 else d + x
theorem aka (d : Nat) : ∀ (l : List za) (R : List Tk), (∀ n ∈ l, ∀ R, dpT d (tkN n ++ R) = max (dOf d (yf n)) (dpT d R)) → dpT d (tkL l ++ R) = max (dOf d (wm l)) (dpT d R)
  | [], R, _ => by simp [tkL, wm, dOf]
  | n :: l, R, h => by
    rw [tkL, List.append_assoc, h n (by simp), aka d l R fun x hx => h x (by simp [hx]), wm]
    unfold dOf
    split <;> split <;> split <;> omega
theorem aqb (n : za) : ∀ (d : Nat) (R : List Tk), dpT d (tkN n ++ R) = max (dOf d (yf n)) (dpT d R) := by
 induction n using za.ind with
 | h n ih =>
  intro d R
  rw [kP, Qo]
  cases ht : isT n with
  | true =>
   simp only [if_true]
   rw [ale]
   simp [dOf]
  | false =>
   simp only [Bool.false_eq_true, if_false, List.cons_append, List.append_assoc, List.nil_append]
   rw [dpT, aka (d + 1) n.Kids _ fun x hx => ih x hx (d + 1), dpT, Nat.add_sub_cancel]
   unfold dOf
   rw [if_neg (show ¬ (wm n.Kids + 1 = 0) by omega)]
   split <;> omega
theorem atD (l : List za) : dpT 0 (tkL l) = wm l := by
 have := aka 0 l [] fun x _ => aqb x 0
 rw [List.append_nil, dpT] at this
 unfold dOf at this
 split at this
 ·rename_i h0; rw [h0]; omega
 ·omega
structure TD (n : za) (T : List Tk) : Prop where
 ok : checkN n = 0
 nt : isT n = false
 tk : tkL n.Kids = T
def wD (n : za) (T : List Tk) : Nat := n.Kind.length + kz n.zu + tw T
theorem api {n : za} (h : zX n = true) (ht : isT n = false) : n.Text = [] ∧ n.Marks = [] := by
  rw [jC, if_neg (by simp [ht])] at h
  simp only [Bool.and_eq_true, decide_eq_true_eq] at h
  exact ⟨h.1.1.1.2, h.1.1.2⟩
theorem TD.form {n T} (h : TD n T) : zX n = true := (abk h.ok).1
theorem TD.row {n T} (h : TD n T) : jk n.Kids := xJ h.form h.nt
theorem atQ {n : za} {T : List Tk} (hf : zX n = true) (ht : isT n = false) (hT : tkL n.Kids = T) : nwt n ≤ 2 + wD n T := by
 obtain ⟨h1, h2⟩ := api hf ht
 have := arM (xJ hf ht)
 rw [hT] at this
 rw [wo, h1, h2]
 unfold wD
 simp only [wN, List.length_nil]
 omega
theorem TD.wt {n T} (h : TD n T) : nwt n ≤ 2 + wD n T := atQ h.form h.nt h.tk
theorem TD.rn {n T} (h : TD n T) (hw : wD n T ≤ 100000000) : RN n := ⟨h.ok, h.nt, by have := h.wt; omega⟩
theorem TD.len {n T} (h : TD n T) : T.length = zF n.Kids := by rw [← h.tk, Wo]
theorem TD.size {n T} (h : TD n T) : wF n = 2 + T.length := by rw [ZE h.nt, h.len]
theorem TD.small {n T} (h : TD n T) : T.length ≤ 3998 := by
 have := (abk h.ok).2.2
 rw [h.size] at this
 omega
theorem TD.ext {a b T} (ha : TD a T) (hb : TD b T) (hk : a.Kind = b.Kind) (hat : a.zu = b.zu) : a = b :=
 VO ha.form hb.form ha.nt hb.nt hk hat (an2 ha.row hb.row (by rw [ha.tk, hb.tk]))
theorem alR {n : za} (hf : zX n = true) (ht : isT n = false) {T : List Tk} (hT : tkL n.Kids = T) : checkN n = if 40 < dpT 0 T + 1 then 4 else if 4000 < 2 + T.length then 5 else 0 := by
  have h1 : yf n = dpT 0 T + 1 := by rw [Qo, if_neg (by simp [ht]), ← atD, hT]
  have h2 : wF n = 2 + T.length := by rw [ZE ht, ← Wo, hT]
  unfold checkN
  rw [hf, if_neg (show ¬ (true = false) by simp), h1, h2]
theorem TD.of {n : za} {T : List Tk} (hf : zX n = true) (ht : isT n = false) (hT : tkL n.Kids = T) (hd : dpT 0 T ≤ 39) (hl : T.length ≤ 3998) : TD n T :=
  ⟨by rw [alR hf ht hT, if_neg (by omega), if_neg (by omega)], ht, hT⟩
theorem TD.deep {n T} (h : TD n T) : dpT 0 T ≤ 39 := by
 have := h.ok
 rw [alR h.form h.nt h.tk] at this
 split at this
 ·cases this
 ·omega
theorem arO {S : List Tk} (h : apt S) (R : List Tk) : apt (S ++ Tk.cls :: R) := by
 cases S with
 | nil => trivial
 | cons t S => cases t <;> first | trivial | exact h.elim
theorem at_end {n : za} {q m a} (h : At n q m a) : ∃ P S, P.length = a ∧ tkL n.Kids = P ++ (tkL m.Kids ++ S) ∧ apt S := by
  induction h with
  | nil n => exact ⟨[], [], rfl, by simp, trivial⟩
  | cons n i k q m a hi hn hk h ih =>
    obtain ⟨P, S, h1, h2, h3⟩ := ih
    refine ⟨tkL (n.Kids.take i) ++ (Tk.opn k.Kind k.zu :: P), S ++ (Tk.cls :: tkL (n.Kids.drop (i + 1))), ?_, ?_, arO h3 _⟩
    · simp only [List.length_append, List.length_cons, Wo]; omega
    · rw [agP hi, kP, if_neg (by simp [hk]), h2]
      simp only [List.append_assoc, List.cons_append, List.nil_append]
theorem ads : ∀ (Y Z : List It) (R S : List Tk), FI Y → FI Z → apt S → tkI Y ++ R = tkI Z ++ S → ∃ Z', Z = Y ++ Z' ∧ R = tkI Z' ++ S
  | [], Z, R, S, _, _, _, h => ⟨Z, rfl, by simpa [tkI] using h⟩
  | i :: Y, [], R, S, fy, _, hS, h => by
    exfalso
    rw [Qf] at h
    cases i with
    | sgn c m =>
      simp only [Xz, tkI, List.flatMap_nil, List.nil_append, List.cons_append] at h
      rw [← h] at hS
      exact hS
    | nod n =>
      have := (fy n (by simp)).1
      simp only [Xz, tkI, List.flatMap_nil, List.nil_append] at h
      rw [kP, this] at h
      simp only [Bool.false_eq_true, if_false, List.cons_append] at h
      rw [← h] at hS
      exact hS
  | i :: Y, j :: Z, R, S, fy, fz, hS, h => by
    have fy' : FI Y := fun n hn => fy n (by simp [hn])
    have fz' : FI Z := fun n hn => fz n (by simp [hn])
    rw [Qf, Qf] at h
    cases i with
    | sgn c m =>
      cases j with
      | sgn c' m' =>
        simp only [Xz, List.cons_append, List.nil_append, List.cons.injEq, Tk.sgn.injEq] at h
        obtain ⟨⟨rfl, rfl⟩, h⟩ := h
        obtain ⟨Z', rfl, h2⟩ := ads Y Z R S fy' fz' hS h
        exact ⟨Z', rfl, h2⟩
      | nod n =>
        exfalso
        have := (fz n (by simp)).1
        simp only [Xz] at h
        rw [kP, this] at h
        simp at h
    | nod n =>
      obtain ⟨tn, fn⟩ := fy n (by simp)
      cases j with
      | sgn c m =>
        exfalso
        simp only [Xz] at h
        rw [kP, tn] at h
        simp at h
      | nod n' =>
        obtain ⟨tn', fn'⟩ := fz n' (by simp)
        simp only [Xz] at h
        rw [kP, kP, tn, tn'] at h
        simp only [Bool.false_eq_true, if_false, List.cons_append, List.append_assoc, List.nil_append, List.cons.injEq, Tk.opn.injEq] at h
        obtain ⟨⟨hk, hat⟩, h⟩ := h
        have r1 := xJ fn tn
        have r2 := xJ fn' tn'
        rw [← jK, ← jK] at h
        obtain ⟨e1, e2⟩ := af4 _ (items n.Kids) (items n'.Kids) (Tk.cls :: (tkI Y ++ R)) (Tk.cls :: (tkI Z ++ S)) (Nat.le_refl _) (KV r1.form) (KV r2.form) trivial trivial h
        have e4 := VO fn fn' tn tn' hk hat (afW r1 r2 e1)
        subst e4
        simp only [List.cons.injEq, true_and] at e2
        obtain ⟨Z', rfl, h2⟩ := ads Y Z R S fy' fz' hS e2
        exact ⟨Z', rfl, h2⟩
theorem YK {α : Type} {a b c d : List α} (h : a ++ b = c ++ d) (hl : a.length = c.length) : a = c ∧ b = d := List.append_inj h hl
theorem arQ {n : za} {T P S : List Tk} {Y : List It} (h : TD n T) (hw : wD n T ≤ 100000000) (hT : T = P ++ (tkI Y ++ S)) (fy : FI Y) :
    ∃ q m a X Z, Flat n P.length (P.length + szI Y) q m a X Y Z ∧ ∃ P1 S1, P = P1 ++ tkI X ∧ S = tkI Z ++ S1 := by
  have hn := h.rn hw
  have hl := h.len
  have hp : P.length ≤ zF n.Kids := by rw [← hl, hT]; simp
  obtain ⟨q, m, a, X, Z0, hF⟩ := arc hn hp
  obtain ⟨P1, S1, e1, e2, e3⟩ := at_end hF.at_
  have hit := hF.it
  rw [List.nil_append] at hit
  rw [← jK m.Kids, hit, JW, h.tk, hT, ← List.append_assoc, ← List.append_assoc, ← List.append_assoc, List.append_assoc (P1 ++ tkI X), List.append_assoc P] at e2
  have hsx := hF.sx
  obtain ⟨g1, g2⟩ := YK e2 (by rw [List.length_append, afy]; omega)
  have fm := xJ (hF.at_.form hn.form) hF.nt
  have fi := KV fm.form
  rw [hit] at fi
  obtain ⟨Z', rfl, g3⟩ := ads Y Z0 S S1 fy (fun x hx => fi x (by simp [hx])) e3 g2
  exact ⟨q, m, a, X, Z', ⟨hF.at_, hF.nt, hit, hF.sx, rfl⟩, P1, S1, g1, g3⟩
theorem ar7 {n : za} (hn : RN n) (hw : nwt n ≤ 1000000000) {f t q m a X Y Z} (h : Flat n f t q m a X Y Z) {l : List za} (hl : ∀ x ∈ l, zX x = true) (hlw : zN l ≤ 1000000000) :
    ∃ K N, N = VS q n ({ m with Kids := K } : za) ∧ jk K ∧ items K = X ++ (items l ++ Z) ∧ zX N = true ∧ isT N = false ∧ QX n (f : Int) (t : Int) l = some (if checkN N = 0 then (N, 0) else (auf, checkN N)) := by
  have hwh := amK hn h
  obtain ⟨h1, h2, h3, h4, h5⟩ := h
  have hr := xJ (h1.form hn.form) h2
  have w1 := h1.wt
  have w2 := xw m
  obtain ⟨A, A', s1, a1, a2, a3, a4, a5, a6, a7, a8⟩ := alY hr (by omega) (X := X) (Y := Y ++ Z) h3
  obtain ⟨B', B, s2, b1, b2, b3, b4, b5, b6, b7, b8⟩ := alY hr (by omega) (X := X ++ Y) (Y := Z) (by rw [h3, List.append_assoc])
  have hall : ∀ x ∈ A ++ (l ++ B), zX x = true := by
    intro x hx
    rcases List.mem_append.1 hx with hx | hx
    · exact a1.form x hx
    · rcases List.mem_append.1 hx with hx | hx
      · exact hl x hx
      · exact b2.form x hx
  obtain ⟨kr, ki⟩ := aiL hall
  obtain ⟨lr, li⟩ := aiL hl
  have kw := ab6 (A ++ (l ++ B))
  rw [kH, kH] at kw
  rw [ZN, ZN, a3, b4] at ki
  have hlw2 := wV (A ++ (l ++ B))
  rw [kH, kH] at hlw2
  generalize hK : yu (A ++ (l ++ B)) = K at *
  have hx : isT ({ m with Kids := K } : za) = false := h2
  have fx := YZ (h1.form hn.form) h2 kr
  have wx : nwt ({ m with Kids := K } : za) + zN m.Kids = nwt m + zN K := by
    rw [wo, wo m]; simp only; omega
  have hrw := atu (x := ({ m with Kids := K } : za)) h1
  have hfN := ard hx fx h1 hn.form
  have htN := agS q n _ hn.nt hx
  refine ⟨K, _, rfl, kr, ki, hfN, htN, ?_⟩
  have g2 := atW lr
  have hjw := ab6 l
  have hxw : nwt (⟨[120], [], [], [], yu l⟩ : za) ≤ 1099511627776 := by
    rw [wo]; simp only [wN, kz, List.length_cons, List.length_nil]; omega
  unfold QX
  rw [hwh]
  simp only [Option.bind_some]
  have z2 : ((0 : Int) == 2) = false := rfl
  simp only [z2, Bool.false_eq_true, if_false]
  rw [agX l (by omega)]
  simp only [Option.bind_some]
  rw [aco _ hxw]
  have g2' : (checkN (⟨[120], [], [], [], yu l⟩ : za) == 2) = false := by simpa using g2
  simp only [Option.bind_some, g2', Bool.false_eq_true, if_false, bne_self_eq_false]
  rw [s1]
  simp only [Option.bind_some]
  rw [Wp] at s2
  rw [s2]
  simp only [Option.bind_some]
  have hflat : ([A, l, B] : List (List za)).flatten = A ++ (l ++ B) := by simp
  rw [ao2 _ (by simp) (by rw [hflat]; omega), hflat]
  simp only [Option.bind_some]
  rw [agX _ (by rw [kH, kH]; omega), hK]
  simp only [Option.bind_some]
  rw [asu h1 hn.nt (by omega)]
  simp only [Option.bind_some]
  rw [aco _ (by omega)]
  simp only [Option.bind_some]
  by_cases hc : checkN (VS q n ({ m with Kids := K } : za)) = 0
  · rw [hc]; simp
  · simp [hc]
theorem asg {n : za} {T P S : List Tk} {Y : List It} (h : TD n T) (hw : wD n T ≤ 100000000) (hT : T = P ++ (tkI Y ++ S)) (fy : FI Y) {l : List za} (hl : ∀ x ∈ l, zX x = true) (hlw : zN l ≤ 1000000000) :
    ∃ N, zX N = true ∧ isT N = false ∧ N.Kind = n.Kind ∧ N.zu = n.zu ∧ tkL N.Kids = P ++ (tkL l ++ S) ∧ QX n (P.length : Int) ((P.length + szI Y : Nat) : Int) l = some (if checkN N = 0 then (N, 0) else (auf, checkN N)) := by
  obtain ⟨q, m, a, X, Z, hF, _⟩ := arQ h hw hT fy
  have hn := h.rn hw
  have hwt := h.wt
  obtain ⟨K, N, rfl, hK, hi, hf, ht, hp⟩ := ar7 hn (by omega) hF hl hlw
  obtain ⟨P', S', p1, p2, p3, p4⟩ := atL hF hi
  obtain ⟨k1, k2, _, _⟩ := arp (x := ({ m with Kids := K } : za)) hF.at_ rfl rfl rfl rfl
  refine ⟨_, hf, ht, k1, k2, ?_, hp⟩
  rw [h.tk, hT] at p3
  obtain ⟨g1, g2⟩ := YK p3 p1.symm
  obtain ⟨_, g3⟩ := YK g2 rfl
  rw [p4, ← g1, ← g3]
end Go.Proofs.YtclohbgnaopjfaaDoor
namespace Go.Proofs.YtclohbgnaopjfaaDoor
set_option linter.unusedSimpArgs false
set_option linter.unusedVariables false
open Go Classical
theorem ZH : ∀ x : Str, Op.bytesLess x x = false
 | [] => rfl
 | a :: x => by
  have h : ¬ a < a := by rw [UInt8.lt_iff_toNat_lt]; omega
  simp [Op.bytesLess, ZH x]
theorem Yd : ∀ x y z : Str, Op.bytesLess x y = true → Op.bytesLess y z = true → Op.bytesLess x z = true
 | _, [], _, h, _ => by simp [Op.bytesLess] at h
 | _, _ :: _, [], _, h => by simp [Op.bytesLess] at h
 | [], _ :: _, _ :: _, _, _ => rfl
 | a :: x, b :: y, c :: z, h1, h2 => by
  simp only [Op.bytesLess, Bool.or_eq_true, Bool.and_eq_true, decide_eq_true_eq, beq_iff_eq, UInt8.lt_iff_toNat_lt] at h1 h2 ⊢
  rcases h1 with h1 | ⟨rfl, h1⟩
  ·rcases h2 with h2 | ⟨rfl, h2⟩
   ·exact .inl (by omega)
   ·exact .inl h1
  ·rcases h2 with h2 | ⟨rfl, h2⟩
   ·exact .inl h2
   ·exact .inr ⟨rfl, Yd x y z h1 h2⟩
theorem anm : ∀ x y : Str, Op.bytesLess x y = true ∨ x = y ∨ Op.bytesLess y x = true
 | [], [] => .inr (.inl rfl)
 | [], _ :: _ => .inl rfl
 | _ :: _, [] => .inr (.inr rfl)
 | a :: x, b :: y => by
  simp only [Op.bytesLess, Bool.or_eq_true, Bool.and_eq_true, decide_eq_true_eq, beq_iff_eq, UInt8.lt_iff_toNat_lt, List.cons.injEq]
  by_cases h : a = b
  ·subst h
   rcases anm x y with h1 | h1 | h1
   ·exact .inl (.inr ⟨rfl, h1⟩)
   ·exact .inr (.inl ⟨rfl, h1⟩)
   ·exact .inr (.inr (.inr ⟨rfl, h1⟩))
  ·have : a.toNat ≠ b.toNat := fun e => h (UInt8.toNat_inj.1 e)
   rcases Nat.lt_or_gt_of_ne this with h1 | h1
   ·exact .inl (.inl h1)
   ·exact .inr (.inr (.inl h1))
theorem aqI {x y : Str} (h : Op.bytesLess x y = true) : Op.bytesLess y x = false := by
 cases h2 : Op.bytesLess y x with
 | false => rfl
 | true => have := Yd x y x h h2; rw [ZH] at this; cases this
abbrev BL (a b : Str) : Prop := Op.bytesLess a b = true
theorem abC : ∀ (l : List Str) (last : Option Str), yM last l = true ↔ (∀ x ∈ l, isName x = true) ∧ l.Pairwise BL ∧ ∀ x, last = some x → ∀ y ∈ l, BL x y
 | [], last => by simp [yM]
 | y :: l, none => by
  rw [KS, Bool.and_eq_true, Bool.and_eq_true, abC l (some y)]
  simp only [List.mem_cons, forall_eq_or_imp, List.pairwise_cons, Option.some.injEq, forall_eq', and_true, reduceCtorEq, false_implies, implies_true]
  constructor
  ·rintro ⟨h1, h3, h4, h5⟩
   exact ⟨⟨h1, h3⟩, h5, h4⟩
  ·rintro ⟨⟨h1, h3⟩, h5, h4⟩
   exact ⟨h1, h3, h4, h5⟩
 | y :: l, some x => by
  rw [KS, Bool.and_eq_true, Bool.and_eq_true, abC l (some y)]
  have key : (!(Op.bytesLess y x || y == x)) = true ↔ BL x y := by
   simp only [Bool.not_eq_true', Bool.or_eq_false_iff, beq_eq_false_iff_ne]
   constructor
   ·rintro ⟨h1, h2⟩
    rcases anm x y with h | h | h
    ·exact h
    ·exact absurd h.symm h2
    ·rw [h1] at h; cases h
   ·intro h
    exact ⟨aqI h, fun e => by subst e; rw [BL, ZH] at h; cases h⟩
  simp only [key, List.mem_cons, forall_eq_or_imp, List.pairwise_cons, Option.some.injEq, forall_eq']
  constructor
  ·rintro ⟨⟨h1, h2⟩, h3, h4, h5⟩
   exact ⟨⟨h1, h3⟩, ⟨h5, h4⟩, h2, fun z hz => Yd _ _ _ h2 (h5 z hz)⟩
  ·rintro ⟨⟨h1, h3⟩, ⟨h5, h4⟩, h6, _⟩
   exact ⟨⟨h1, h6⟩, h3, h4, h5⟩
theorem Jv (l : List Str) : xh l = true ↔ (∀ x ∈ l, isName x = true) ∧ l.Pairwise BL := by
 unfold xh
 rw [abC]
 simp
theorem agh : ∀ (a b : List Str), a.Pairwise BL → b.Pairwise BL → (∀ y, y ∈ a ↔ y ∈ b) → a = b
  | [], [], _, _, _ => rfl
  | [], y :: b, _, _, h => by have := (h y).2 (by simp); cases this
  | x :: a, [], _, _, h => by have := (h x).1 (by simp); cases this
  | x :: a, y :: b, ha, hb, h => by
    rw [List.pairwise_cons] at ha hb
    have e : x = y := by
      rcases (List.mem_cons.1 ((h x).1 (by simp))) with h1 | h1
      · exact h1
      · rcases (List.mem_cons.1 ((h y).2 (by simp))) with h2 | h2
        · exact h2.symm
        · have := Yd _ _ _ (hb.1 x h1) (ha.1 y h2)
          rw [ZH] at this
          cases this
    subst e
    have nx : ∀ z, BL x z → z ≠ x := fun z hz e => by subst e; rw [BL, ZH] at hz; cases hz
    rw [agh a b ha.2 hb.2 fun z => ?_]
    constructor
    · intro hz
      rcases List.mem_cons.1 ((h z).1 (by simp [hz])) with h1 | h1
      · exact absurd h1 (nx z (ha.1 z hz))
      · exact h1
    · intro hz
      rcases List.mem_cons.1 ((h z).2 (by simp [hz])) with h1 | h1
      · exact absurd h1 (nx z (hb.1 z hz))
      · exact h1
theorem alp {a b : List Str} (ha : xh a = true) (hb : xh b = true) (h : ∀ y, y ∈ a ↔ y ∈ b) : a = b := agh a b ((Jv a).1 ha).2 ((Jv b).1 hb).2 h
theorem Xf (x : Str) : ∀ m : List Str, m.Pairwise BL → ∃ A B, m = A ++ B ∧ (∀ y ∈ A, BL y x) ∧ ∀ y ∈ B, Op.bytesLess y x = false
 | [], _ => ⟨[], [], rfl, by simp, by simp⟩
 | z :: m, h => by
  rw [List.pairwise_cons] at h
  cases hz : Op.bytesLess z x with
  | true =>
   obtain ⟨A, B, e, h1, h2⟩ := Xf x m h.2
   exact ⟨z :: A, B, by rw [e]; rfl, by simp only [List.mem_cons, forall_eq_or_imp]; exact ⟨hz, h1⟩, h2⟩
  | false =>
   refine ⟨[], z :: m, rfl, by simp, ?_⟩
   simp only [List.mem_cons, forall_eq_or_imp]
   refine ⟨hz, fun y hy => ?_⟩
   cases hy' : Op.bytesLess y x with
   | false => rfl
   | true => have := Yd _ _ _ (h.1 y hy) hy'; rw [hz] at this; cases this
theorem aeg (less : Nat → Bool) (k n : Nat) (h1 : ∀ t, t < k → less t = true) (h2 : ∀ t, k ≤ t → t < n → less t = false) : ∀ (f lo hi : Nat), hi - lo ≤ f → lo ≤ k → k ≤ hi → hi ≤ n → Lib.bsGo less f lo hi = k
  | 0, lo, hi, hf, a, b, _ => by simp [Lib.bsGo]; omega
  | f + 1, lo, hi, hf, a, b, c => by
    unfold Lib.bsGo
    by_cases h : lo < hi
    · rw [if_pos h]
      by_cases hm : (lo + hi) / 2 < k
      · rw [h1 _ hm, if_pos rfl]; exact aeg less k n h1 h2 f _ _ (by omega) (by omega) b c
      · rw [h2 _ (by omega) (by omega), if_neg (by simp)]; exact aeg less k n h1 h2 f _ _ (by omega) a (by omega) (by omega)
    · rw [if_neg h]; omega
theorem apo {x : Str} {A B : List Str} (hA : ∀ y ∈ A, BL y x) (hB : ∀ y ∈ B, Op.bytesLess y x = false) : bsI (A ++ B) x = A.length := by
 unfold bsI
 refine aeg _ A.length (A ++ B).length (fun t ht => ?_) (fun t ht ht' => ?_) _ _ _ (by omega) (by omega) (by simp) (by simp)
 ·rw [List.getD_eq_getElem?_getD, List.getElem?_append_left ht, List.getElem?_eq_getElem ht]
  exact hA _ (List.getElem_mem ht)
 ·rw [List.getD_eq_getElem?_getD, List.getElem?_eq_getElem ht', List.getElem_append_right ht]
  exact hB _ (List.getElem_mem _)
def mkS (k : Int) (x : Str) (m : List Str) : List Str := (QD k x m).1
theorem ak3 {x : Str} {A B : List Str} (hs : (A ++ B).Pairwise BL) (hA : ∀ y ∈ A, BL y x) (hB : ∀ y ∈ B, Op.bytesLess y x = false) (k : Int) :
  (x ∈ A ++ B ∧ ∃ B', B = x :: B' ∧ (∀ y ∈ B', y ≠ x) ∧ QD k x (A ++ B) = (if k = 109 then (A ++ B, false) else (A ++ B', true))) ∨
  (x ∉ A ++ B ∧ QD k x (A ++ B) = (if k = 109 then (A ++ x :: B, true) else (A ++ B, false))) := by
 have hnA : x ∉ A := fun h => by have := hA x h; rw [BL, ZH] at this; cases this
 have hi := apo hA hB
 have hd : acY (A ++ B) A.length = A ++ B.drop 1 := by simp [acY]
 have hn : KP (A ++ B) A.length x = A ++ x :: B := by simp [KP]
 unfold QD
 rw [hi, hd, hn]
 cases B with
 | nil =>
  right
  rw [List.append_nil] at hs ⊢
  refine ⟨hnA, ?_⟩
  have : decide (A.length < A.length ∧ A.getD A.length [] = x) = false := by simp
  rw [this]
  by_cases h : k = 109 <;> simp [h]
 | cons y B =>
  have hg : (A ++ y :: B).getD A.length [] = y := by simp
  rw [hg]
  have hlt : A.length < (A ++ y :: B).length := by simp
  rw [List.pairwise_append, List.pairwise_cons] at hs
  by_cases e : y = x
  ·subst e
   left
   refine ⟨by simp, B, rfl, fun z hz e => ?_, ?_⟩
   ·subst e
    have := hs.2.1.1 z hz
    rw [BL, ZH] at this
    cases this
   have : decide (A.length < (A ++ y :: B).length ∧ y = y) = true := by simp
   rw [this]
   by_cases h : k = 109 <;> simp [h]
  ·right
   refine ⟨fun hx => ?_, ?_⟩
   ·rcases List.mem_append.1 hx with h | h
    ·exact hnA h
    ·rcases List.mem_cons.1 h with h | h
     ·exact e h.symm
     ·have h1 := hs.2.1.1 x h
      have h9 := hB y (by simp)
      rw [show Op.bytesLess y x = true from h1] at h9
      cases h9
   ·have : decide (A.length < (A ++ y :: B).length ∧ y = x) = false := by simp [e]
    rw [this]
    by_cases h : k = 109 <;> simp [h]
theorem atl {x : Str} {m : List Str} (hm : xh m = true) (hx : isName x = true) : xh (mkS 109 x m) = true ∧ (∀ y, y ∈ mkS 109 x m ↔ y = x ∨ y ∈ m) ∧ (QD 109 x m).2 = decide (x ∉ m) := by
 obtain ⟨h1, h2⟩ := (Jv m).1 hm
 obtain ⟨A, B, rfl, hA, hB⟩ := Xf x m h2
 unfold mkS
 rcases ak3 h2 hA hB 109 with ⟨hin, B', rfl, _, e⟩ | ⟨hin, e⟩
 ·rw [e, if_pos rfl]
  refine ⟨hm, fun y => ?_, by simp⟩
  constructor
  ·exact .inr
  ·rintro (rfl | h)
   ·exact hin
   ·exact h
 ·rw [e, if_pos rfl]
  have hx' : ∀ y ∈ B, BL x y := fun y hy => by
   rcases anm x y with h | h | h
   ·exact h
   ·subst h; exact absurd (List.mem_append.2 (.inr hy)) hin
   ·have h9 := hB y hy; rw [show Op.bytesLess y x = true from h] at h9; cases h9
  rw [List.pairwise_append] at h2
  refine ⟨(Jv _).2 ⟨?_, ?_⟩, fun y => ?_, by simp [hin]⟩
  ·intro y hy
   rcases List.mem_append.1 hy with h | h
   ·exact h1 y (by simp [h])
   ·rcases List.mem_cons.1 h with rfl | h
    ·exact hx
    ·exact h1 y (by simp [h])
  ·rw [List.pairwise_append, List.pairwise_cons]
   refine ⟨h2.1, ⟨hx', h2.2.1⟩, fun a ha b hb => ?_⟩
   rcases List.mem_cons.1 hb with rfl | hb
   ·exact hA a ha
   ·exact h2.2.2 a ha b hb
  ·simp only [List.mem_append, List.mem_cons]
   constructor
   ·rintro (h | h | h)
    ·exact .inr (.inl h)
    ·exact .inl h
    ·exact .inr (.inr h)
   ·rintro (h | h | h)
    ·exact .inr (.inl h)
    ·exact .inl h
    ·exact .inr (.inr h)
theorem aqe {k : Int} (hk : k ≠ 109) {x : Str} {m : List Str} (hm : xh m = true) : xh (mkS k x m) = true ∧ (∀ y, y ∈ mkS k x m ↔ y ≠ x ∧ y ∈ m) ∧ (QD k x m).2 = decide (x ∈ m) := by
  obtain ⟨h1, h2⟩ := (Jv m).1 hm
  obtain ⟨A, B, rfl, hA, hB⟩ := Xf x m h2
  unfold mkS
  rcases ak3 h2 hA hB k with ⟨hin, B', rfl, hB', e⟩ | ⟨hin, e⟩
  · rw [e, if_neg hk]
    have hnA : x ∉ A := fun h => by have := hA x h; rw [BL, ZH] at this; cases this
    rw [List.pairwise_append, List.pairwise_cons] at h2
    refine ⟨(Jv _).2 ⟨fun y hy => ?_, ?_⟩, fun y => ?_, by simp⟩
    · rcases List.mem_append.1 hy with h | h
      · exact h1 y (by simp [h])
      · exact h1 y (by simp [h])
    · rw [List.pairwise_append]
      exact ⟨h2.1, h2.2.1.2, fun a ha b hb => h2.2.2 a ha b (by simp [hb])⟩
    · simp only [List.mem_append, List.mem_cons]
      constructor
      · rintro (h | h)
        · exact ⟨fun e => hnA (e ▸ h), .inl h⟩
        · exact ⟨hB' y h, .inr (.inr h)⟩
      · rintro ⟨h, h3 | h3 | h3⟩
        · exact .inl h3
        · exact absurd h3 h
        · exact .inr h3
  · rw [e, if_neg hk]
    refine ⟨hm, fun y => ?_, by simp [hin]⟩
    constructor
    · intro h
      exact ⟨fun e => hin (e ▸ h), h⟩
    · exact fun h => h.2
theorem ash (k : Int) {x : Str} {m : List Str} (hm : xh m = true) (hx : isName x = true) : xh (mkS k x m) = true := by
 by_cases h : k = 109
 ·subst h; exact (atl hm hx).1
 ·exact (aqe h hm).1
theorem asZ (k : Int) {x : Str} {m : List Str} (hm : xh m = true) (hx : isName x = true) : (QD k x m).2 = decide (mkS k x m ≠ m) := by
 by_cases h : k = 109
 ·subst h
  obtain ⟨h1, h2, h3⟩ := atl hm hx
  rw [h3]
  congr 1
  apply propext
  constructor
  ·intro h4 e
   have := (h2 x).2 (.inl rfl)
   rw [e] at this
   exact h4 this
  ·intro h4 h5
   refine h4 (alp h1 hm fun y => ?_)
   rw [h2]
   constructor
   ·rintro (rfl | h)
    ·exact h5
    ·exact h
   ·exact .inr
 ·obtain ⟨h1, h2, h3⟩ := aqe h hm (x := x)
  rw [h3]
  congr 1
  apply propext
  constructor
  ·intro h4 e
   rw [← e, h2] at h4
   exact h4.1 rfl
  ·intro h4
   by_cases h5 : x ∈ m
   ·exact h5
   ·refine absurd (alp h1 hm fun y => ?_) h4
    rw [h2]
    exact ⟨fun h => h.2, fun h => ⟨fun e => h5 (e ▸ h), h⟩⟩
end Go.Proofs.YtclohbgnaopjfaaDoor
namespace Go.Proofs.YtclohbgnaopjfaaDoor
set_option linter.unusedSimpArgs false
set_option linter.unusedVariables false
open Go Classical
section
variable (k : Int) (x : Str) (a b : Nat)
def mkT (i : Nat) : Tk → Tk
 | .sgn c m => .sgn c (if a ≤ i ∧ i < b then mkS k x m else m)
 | t => t
theorem ajl (i : Nat) (c : Int) (m : List Str) : mkT k x a b i (.sgn c m) = .sgn c (if a ≤ i ∧ i < b then mkS k x m else m) := rfl
theorem aog (i : Nat) (c : Str) (m : List zh) : mkT k x a b i (.opn c m) = .opn c m := rfl
theorem ar2 (i : Nat) : mkT k x a b i .cls = .cls := rfl
def jE : Nat → List Tk → List Tk
 | _, [] => []
 | i, t :: l => mkT k x a b i t :: jE (i + 1) l
theorem ad4 : ∀ (l r : List Tk) (i : Nat), jE k x a b i (l ++ r) = jE k x a b i l ++ jE k x a b (i + l.length) r
 | [], r, i => by simp [jE]
 | t :: l, r, i => by
  rw [List.cons_append, jE, jE, ad4 l r (i + 1), List.cons_append, List.length_cons]
  congr 3
  omega
theorem ah8 : ∀ (l : List Tk) (i : Nat), (jE k x a b i l).length = l.length
 | [], i => rfl
 | t :: l, i => by rw [jE, List.length_cons, List.length_cons, ah8 l]
theorem JN : ∀ (l : List Tk) (i d : Nat), dpT d (jE k x a b i l) = dpT d l
 | [], i, d => rfl
 | .sgn c m :: l, i, d => by rw [jE, ajl, dpT, dpT, JN l]
 | .opn c m :: l, i, d => by rw [jE, aog, dpT, dpT, JN l]
 | .cls :: l, i, d => by rw [jE, ar2, dpT, dpT, JN l]
theorem avq (m : List Str) : wN (mkS k x m) ≤ wN m + 1 + x.length := by
 have ins : ∀ (m : List Str) (i : Nat), wN (KP m i x) = wN m + (1 + x.length) := by
  intro m i
  have app : ∀ p q : List Str, wN (p ++ q) = wN p + wN q := by
   intro p q
   induction p with
   | nil => simp [wN]
   | cons y p ih => simp only [List.cons_append, wN, ih]; omega
  have h := app (m.take i) (m.drop i)
  rw [List.take_append_drop] at h
  unfold KP
  rw [app, wN]
  omega
 have del : ∀ (m : List Str) (i : Nat), wN (acY m i) ≤ wN m := by
  intro m i
  have app : ∀ p q : List Str, wN (p ++ q) = wN p + wN q := by
   intro p q
   induction p with
   | nil => simp [wN]
   | cons y p ih => simp only [List.cons_append, wN, ih]; omega
  have h := app (m.take i) (m.drop i)
  rw [List.take_append_drop] at h
  have h2 := app ((m.drop i).take 1) ((m.drop i).drop 1)
  rw [List.take_append_drop, List.drop_drop] at h2
  unfold acY
  rw [app]
  omega
 unfold mkS QD
 split
 ·show wN m ≤ _; omega
 ·split
  ·have := del m (bsI m x); show wN (acY m (bsI m x)) ≤ _; omega
  ·have := ins m (bsI m x); show wN (KP m (bsI m x) x) ≤ _; omega
def adi (o : List zg) (i : Nat) : List zg :=
 match o.getLast? with
 | some r => if r.Pos + r.Old = i then o.dropLast ++ [{ r with Old := r.Old + 1 }] else o ++ [⟨i, 1, 0⟩]
 | none => [⟨i, 1, 0⟩]
def auj (i : Nat) (o : List zg) : Tk → List zg
 | .sgn _ m => if a ≤ i ∧ i < b ∧ mkS k x m ≠ m then adi o i else o
 | _ => o
theorem akV (i : Nat) (o : List zg) (c : Int) (m : List Str) : auj k x a b i o (.sgn c m) = if a ≤ i ∧ i < b ∧ mkS k x m ≠ m then adi o i else o := rfl
def Kw : Nat → List Tk → List zg → List zg
 | _, [], o => o
 | i, t :: l, o => Kw (i + 1) l (auj k x a b i o t)
theorem ag0 : ∀ (l r : List Tk) (i : Nat) (o : List zg), Kw k x a b i (l ++ r) o = Kw k x a b (i + l.length) r (Kw k x a b i l o)
 | [], r, i, o => by simp [Kw]
 | t :: l, r, i, o => by
  rw [List.cons_append, Kw, Kw, ag0 l r (i + 1), List.length_cons]
  congr 1
  omega
end
theorem abt (o : List zg) (r : zg) (i : Nat) : adi (o ++ [r]) i = if r.Pos + r.Old = i then o ++ [{ r with Old := r.Old + 1 }] else o ++ [r, ⟨i, 1, 0⟩] := by
 unfold adi
 rw [List.getLast?_append]
 simp
def Jo : List zg → Nat → Nat → List zg
 | o, _, 0 => o
 | o, i, n + 1 => Jo (adi o i) (i + 1) n
theorem abr (o : List zg) (r : zg) : ∀ (n i : Nat), r.Pos + r.Old = i → Jo (o ++ [r]) i n = o ++ [{ r with Old := r.Old + n }]
  | 0, i, h => by
    rw [Jo]
    cases r
    simp
  | n + 1, i, h => by
    rw [Jo, abt, if_pos h, abr o _ n (i + 1) (by simp only; omega)]
    simp only [List.append_cancel_left_eq, List.cons.injEq, zg.mk.injEq, and_true, true_and]
    omega
theorem aqx (o : List zg) (i n : Nat) (hn : 0 < n) : Jo o i n = match o.getLast? with
    | some r => if r.Pos + r.Old = i then o.dropLast ++ [{ r with Old := r.Old + n }] else o ++ [⟨i, n, 0⟩]
    | none => [⟨i, n, 0⟩] := by
  obtain ⟨n, rfl⟩ : ∃ m, n = m + 1 := ⟨n - 1, by omega⟩
  rw [Jo]
  have key : ∀ o : List zg, Jo (o ++ [⟨i, 1, 0⟩]) (i + 1) n = o ++ [⟨i, (n + 1 : Nat), 0⟩] := by
    intro o
    rw [abr o _ n (i + 1) (by simp)]
    simp only [List.append_cancel_left_eq, List.cons.injEq, zg.mk.injEq, and_true, true_and]
    omega
  rcases wX o with rfl | ⟨o, r, rfl⟩
  · have := key []
    simpa [adi] using this
  · rw [abt, List.getLast?_append]
    simp only [List.getLast?_singleton, Option.some_or, List.dropLast_concat]
    by_cases h : r.Pos + r.Old = i
    · rw [if_pos h, if_pos h, abr o _ n (i + 1) (by simp only; omega)]
      simp only [List.append_cancel_left_eq, List.cons.injEq, zg.mk.injEq, and_true, true_and]
      omega
    · rw [if_neg h, if_neg h]
      have := key (o ++ [r])
      simpa using this
theorem agq (k : Int) (x : Str) (a b : Nat) (m : List Str) : ∀ (cs : List Int) (i : Nat) (o : List zg), Kw k x a b i (cs.map fun c => Tk.sgn c m) o = if mkS k x m ≠ m then Jo o (i + min (a - i) cs.length) (min (b - i) cs.length - min (a - i) cs.length) else o
 | [], i, o => by simp [Kw, Jo]
 | c :: cs, i, o => by
  rw [List.map_cons, Kw, agq k x a b m cs (i + 1)]
  rw [akV]
  by_cases hm : mkS k x m ≠ m
  ·rw [if_pos hm, if_pos hm, List.length_cons]
   by_cases h1 : a ≤ i
   ·have e1 : a - i = 0 := by omega
    have e2 : a - (i + 1) = 0 := by omega
    rw [e1, e2, Nat.zero_min, Nat.zero_min]
    by_cases h2 : i < b
    ·rw [if_pos ⟨h1, h2, hm⟩]
     have e3 : min (b - i) (cs.length + 1) - 0 = min (b - (i + 1)) cs.length + 1 := by omega
     rw [e3, Jo]
     rfl
    ·rw [if_neg (fun h => h2 h.2.1)]
     have e3 : b - i = 0 := by omega
     have e4 : b - (i + 1) = 0 := by omega
     rw [e3, e4]
     simp [Jo]
   ·rw [if_neg (fun h => h1 h.1)]
    congr 1 <;> omega
  ·rw [if_neg hm, if_neg hm, if_neg (fun h => hm h.2.2)]
theorem aip (k : Int) (x : Str) (a b : Nat) (m : List Str) : ∀ (cs : List Int) (i : Nat), jE k x a b i (cs.map fun c => Tk.sgn c m) = ((cs.take (min (a - i) cs.length)).map fun c => Tk.sgn c m) ++ ((((cs.take (max (min (b - i) cs.length) (min (a - i) cs.length))).drop (min (a - i) cs.length)).map fun c => Tk.sgn c (mkS k x m)) ++ ((cs.drop (max (min (b - i) cs.length) (min (a - i) cs.length))).map fun c => Tk.sgn c m))
 | [], i => by simp [jE]
 | c :: cs, i => by
  rw [List.map_cons, jE, aip k x a b m cs (i + 1), ajl]
  simp only [List.length_cons]
  by_cases h1 : a ≤ i
  ·have e1 : a - i = 0 := by omega
   have e2 : a - (i + 1) = 0 := by omega
   rw [e1, e2, Nat.zero_min, Nat.zero_min]
   by_cases h2 : i < b
   ·rw [if_pos ⟨h1, h2⟩]
    have e3 : max (min (b - i) (cs.length + 1)) 0 = max (min (b - (i + 1)) cs.length) 0 + 1 := by omega
    rw [e3]
    simp
   ·rw [if_neg (fun h => h2 h.2)]
    have e3 : b - i = 0 := by omega
    have e4 : b - (i + 1) = 0 := by omega
    rw [e3, e4]
    simp
  ·rw [if_neg (fun h => h1 h.1)]
   have e1 : min (a - i) (cs.length + 1) = min (a - (i + 1)) cs.length + 1 := by omega
   have e2 : max (min (b - i) (cs.length + 1)) (min (a - (i + 1)) cs.length + 1) = max (min (b - (i + 1)) cs.length) (min (a - (i + 1)) cs.length) + 1 := by omega
   rw [e1, e2]
   simp
end Go.Proofs.YtclohbgnaopjfaaDoor
namespace Go.Proofs.YtclohbgnaopjfaaDoor
set_option linter.unusedSimpArgs false
set_option linter.unusedVariables false
open Go Classical
def RgOk (i : Nat) (o : List zg) : Prop := o.length ≤ i ∧ ∀ r ∈ o, 0 ≤ r.Pos ∧ 1 ≤ r.Old ∧ r.Pos + r.Old ≤ (i : Int)
theorem RgOk.mono {i j : Nat} {o : List zg} (h : RgOk i o) (hij : i ≤ j) : RgOk j o := ⟨by have := h.1; omega, fun r hr => by have := h.2 r hr; omega⟩
theorem aq5 {i : Nat} {o : List zg} (h : RgOk i o) : RgOk (i + 1) (adi o i) := by
  rcases wX o with rfl | ⟨o, r, rfl⟩
  · refine ⟨by simp [adi], fun r hr => ?_⟩
    simp only [adi, List.getLast?_nil, List.mem_singleton] at hr
    subst hr
    simp
  · obtain ⟨h1, h2⟩ := h
    have hr := h2 r (by simp)
    rw [List.length_append, List.length_singleton] at h1
    rw [abt]
    split
    · refine ⟨by rw [List.length_append, List.length_singleton]; omega, fun y hy => ?_⟩
      rcases List.mem_append.1 hy with hy | hy
      · have := h2 y (by simp [hy]); omega
      · rw [List.mem_singleton] at hy
        subst hy
        simp only
        omega
    · refine ⟨by simp; omega, fun y hy => ?_⟩
      rcases List.mem_append.1 hy with hy | hy
      · have := h2 y (by simp [hy]); omega
      · rcases List.mem_cons.1 hy with rfl | hy
        · omega
        · rw [List.mem_singleton] at hy
          subst hy
          simp
theorem arH (k : Int) (x : Str) (a b : Nat) : ∀ (l : List Tk) (i : Nat) (o : List zg), RgOk i o → RgOk (i + l.length) (Kw k x a b i l o)
 | [], i, o, h => h
 | t :: l, i, o, h => by
  rw [Kw, List.length_cons]
  have h1 : RgOk (i + 1) (auj k x a b i o t) := by
   cases t with
   | sgn c m =>
    rw [akV]
    split
    ·exact aq5 h
    ·exact h.mono (by omega)
   | opn k' a' => exact h.mono (by omega)
   | cls => exact h.mono (by omega)
  have := arH k x a b l (i + 1) _ h1
  exact this.mono (by omega)
theorem asO (K F T : Int) (N : List za) (nm v : Str) (l : List zg) (j i n : Nat) (hn : 0 < n) (hi : i + n ≤ 1000000) (hl : RgOk j l) (hj : j ≤ i) :
    vT (i : Int) ((i + n : Nat) : Int) K F T N nm v l = some (K, F, T, N, nm, v, Jo l i n) := by
  obtain ⟨h1, h2⟩ := hl
  have hw : w64 (((i + n : Nat) : Int) - (i : Int)) = (n : Int) := by rw [wh (by omega)]; omega
  unfold vT
  rw [aqx l i n hn, hw]
  rcases wX l with rfl | ⟨o, r, rfl⟩
  · have e : w64 ((([] : List zg).length : Int) - 1) = -1 := rfl
    rw [e, if_neg (by decide), kU (by simp)]
    rfl
  · have e : w64 (((o ++ [r]).length : Int) - 1) = (o.length : Int) := by
      rw [List.length_append, List.length_singleton] at h1 ⊢
      rw [wh (by omega)]
      omega
    have hr := h2 r (by simp)
    rw [e, if_pos (by simp), J5 o [] r]
    simp only [Option.bind_some]
    rw [wh (x := r.Pos + r.Old) (by omega), List.getLast?_append]
    simp only [List.getLast?_singleton, Option.some_or, List.dropLast_concat]
    by_cases hc : r.Pos + r.Old = (i : Int)
    · rw [if_pos (by simp [hc]), if_pos hc, wh (by omega), aon]
      rfl
    · rw [if_neg (by simpa using hc), if_neg hc, kU (by simp at h1 ⊢; omega)]
      rfl
theorem akl (n : za) (m : List Str) (cs : List Int) (a b : Nat) (h1 : a ≤ b) (h2 : b ≤ cs.length) : wL (a : Int) (b : Int) m n cs = some ⟨n.Kind, zK ((cs.take b).drop a), m, [], []⟩ := by
 unfold wL
 rw [YJ h1 h2]
 rfl
theorem asv (a i L : Nat) (ha : a ≤ 2000000) (hi : i ≤ 2000000) : (if (L : Int) < (if (0 : Int) > (w64 ((a : Int) - (i : Int))) then (0 : Int) else w64 ((a : Int) - (i : Int))) then (L : Int) else (if (0 : Int) > (w64 ((a : Int) - (i : Int))) then (0 : Int) else w64 ((a : Int) - (i : Int)))) = ((min (a - i) L : Nat) : Int) := by
  rw [wh (by omega)]
  split <;> split <;> omega
theorem to_eq (b i L f : Nat) (hb : b ≤ 2000000) (hi : i ≤ 2000000) (hf : f ≤ L) : (if (L : Int) < (if (f : Int) > (w64 ((b : Int) - (i : Int))) then (f : Int) else w64 ((b : Int) - (i : Int))) then (L : Int) else (if (f : Int) > (w64 ((b : Int) - (i : Int))) then (f : Int) else w64 ((b : Int) - (i : Int)))) = ((max (min (b - i) L) f : Nat) : Int) := by
  rw [wh (by omega)]
  split <;> split <;> omega
theorem ai6 {k : Int} {x : Str} {m : List Str} (hm : mkS k x m = m) (a b : Nat) : ∀ (cs : List Int) (i : Nat), jE k x a b i (cs.map fun c => Tk.sgn c m) = cs.map fun c => Tk.sgn c m
 | [], i => rfl
 | c :: cs, i => by rw [List.map_cons, jE, ajl, ai6 hm a b cs, hm]; simp
def Parts (l : List za) : Prop := ∀ p ∈ l, isT p = true ∧ (zX p = true ∨ (p.Text = [] ∧ p.zu = [] ∧ p.Kids = []))
theorem ajs (m : List Str) {cs : List Int} (h : ∀ c ∈ cs, VR c) (hm : xh m = true) : tkN ⟨jb, zK cs, m, [], []⟩ = (cs.map fun c => Tk.sgn c m) ∧ (zX ⟨jb, zK cs, m, [], []⟩ = true ∨ zK cs = []) ∧ nwt ⟨jb, zK cs, m, [], []⟩ = 6 + (zK cs).length + wN m := by
 obtain ⟨h1, h2⟩ := JG h
 refine ⟨?_, ?_, by rw [wo]; simp [kz, zN]⟩
 ·rw [kP]
  have : isT (⟨jb, zK cs, m, [], []⟩ : za) = true := by simp [isT]
  rw [this, if_pos rfl, h1]
 ·by_cases e : zK cs = []
  ·exact .inr e
  ·exact .inl (afw e h2 hm)
theorem asf {n : za} (hf : zX n = true) (ht : isT n = true) (k : Int) {x : Str} (hx : isName x = true) (a b i : Nat) (ha : a ≤ 2000000) (hb : b ≤ 2000000) (hi : i + wF n ≤ 1000000) (N : List za) (v : Str) (o : List zg) (ho : RgOk i o) (hw : nwt n ≤ 1000000000) :
    ∃ out, vR n (i : Int) k (a : Int) (b : Int) N x v o = some (out, k, (a : Int), (b : Int), N, x, v, Kw k x a b i (tkN n) o) ∧ Parts out ∧ tkL out = jE k x a b i (tkN n) ∧ zN out ≤ 3 * nwt n + 1 + x.length ∧ out.length ≤ 3 := by
  obtain ⟨t1, t2, t3, t4, t5⟩ := yL hf ht
  have hk := Jp ht
  have hcs := afC t2
  have hsz : wF n = (runes n.Text).length := by rw [jv, ht, xO]; rfl
  have hone : Parts [n] ∧ zN [n] ≤ 3 * nwt n + 1 + x.length := by
    refine ⟨fun p hp => ?_, by simp only [zN]; omega⟩
    rw [List.mem_singleton] at hp
    subst hp
    exact ⟨ht, .inl hf⟩
  have htl : tkL [n] = tkN n := by simp [tkL]
  have htk : tkN n = (runes n.Text).map fun c => Tk.sgn c n.Marks := by rw [kP, if_pos ht]
  have hmw := avq k x n.Marks
  have hmr := ash k t3 hx
  have hml : n.Marks.length ≤ 1099511627776 := by have := afB n.Marks; rw [wo] at hw; omega
  have hwn : nwt n = 6 + n.Text.length + wN n.Marks := by rw [wo, hk, t4, t5]; simp [kz, zN]
  have hval := WE t2
  unfold vR Qa
  rw [wK hml]
  simp only [Option.bind_some]
  rw [asZ k t3 hx, asv a i _ ha (by omega), to_eq b i _ _ hb (by omega) (by omega)]
  have e1 : (QD k x n.Marks).1 = mkS k x n.Marks := rfl
  rw [e1, htk]
  generalize hcsd : runes n.Text = cs at *
  by_cases hm : mkS k x n.Marks = n.Marks
  · refine ⟨[n], ?_, hone.1, by rw [ai6 hm, htl, htk], hone.2, by simp⟩
    rw [if_pos (by simp [hm]), agq, if_neg (by simpa using hm)]
  · rw [if_neg (by simp [hm]), agq, if_pos hm, aip]
    have hfL : min (a - i) cs.length ≤ cs.length := by omega
    have htL : max (min (b - i) cs.length) (min (a - i) cs.length) ≤ cs.length := by omega
    have hft : min (a - i) cs.length ≤ max (min (b - i) cs.length) (min (a - i) cs.length) := by omega
    have hd : min (b - i) cs.length - min (a - i) cs.length = max (min (b - i) cs.length) (min (a - i) cs.length) - min (a - i) cs.length := by omega
    rw [hd]
    generalize min (a - i) cs.length = f at *
    generalize max (min (b - i) cs.length) f = t at *
    by_cases hft' : (f : Int) = (t : Int)
    · obtain rfl : f = t := by omega
      rw [if_pos (by simp)]
      refine ⟨[n], ?_, hone.1, ?_, hone.2, by simp⟩
      · rw [Nat.sub_self, Jo]
      · rw [htl, htk, List.drop_take_self, List.map_nil, List.nil_append, ← List.map_append, List.take_append_drop]
    · rw [if_neg (by simpa using hft'), wh (by omega), wh (by omega)]
      have n1 : ((i : Int) + (f : Int)) = ((i + f : Nat) : Int) := by omega
      have n2 : ((i : Int) + (t : Int)) = ((i + f + (t - f) : Nat) : Int) := by omega
      rw [n1, n2, asO _ _ _ _ _ _ o i (i + f) (t - f) (by omega) (by omega) ho (by omega)]
      simp only [Option.bind_some]
      have z0 : (0 : Int) = ((0 : Nat) : Int) := rfl
      rw [z0, akl n _ cs 0 f (by omega) hfL, akl n _ cs f t hft htL, akl n _ cs t cs.length htL (Nat.le_refl _), hk]
      simp only [Option.bind_some, List.drop_zero, List.take_length]
      have v1 : ∀ c ∈ cs.take f, VR c := fun c hc => hcs c (List.mem_of_mem_take hc)
      have v2 : ∀ c ∈ (cs.take t).drop f, VR c := fun c hc => hcs c (List.mem_of_mem_take (List.mem_of_mem_drop hc))
      have v3 : ∀ c ∈ cs.drop t, VR c := fun c hc => hcs c (List.mem_of_mem_drop hc)
      obtain ⟨p1, q1, w1⟩ := ajs n.Marks v1 t3
      obtain ⟨p2, q2, w2⟩ := ajs (mkS k x n.Marks) v2 hmr
      obtain ⟨p3, q3, w3⟩ := ajs n.Marks v3 t3
      refine ⟨_, rfl, ?_, ?_, ?_, by simp⟩
      · intro p hp
        simp only [List.mem_cons, List.not_mem_nil, or_false] at hp
        rcases hp with rfl | rfl | rfl
        · exact ⟨by simp [isT], q1.imp id fun h => ⟨h, rfl, rfl⟩⟩
        · exact ⟨by simp [isT], q2.imp id fun h => ⟨h, rfl, rfl⟩⟩
        · exact ⟨by simp [isT], q3.imp id fun h => ⟨h, rfl, rfl⟩⟩
      · simp only [tkL, p1, p2, p3, List.append_nil]
      · have hl : zK cs = zK (cs.take f) ++ (zK ((cs.take t).drop f) ++ zK (cs.drop t)) := by
          rw [← Xb, ← Xb]
          congr 1
          have h1 : cs.take f = (cs.take t).take f := by rw [List.take_take]; congr 1; omega
          rw [← List.append_assoc, h1, List.take_append_drop, List.take_append_drop]
        have hlen := congrArg List.length hl
        rw [hval] at hlen
        simp only [List.length_append] at hlen
        simp only [zN, w1, w2, w3]
        omega
theorem abf : ∀ (l o : List za), jk o → (∀ p ∈ l, zX p = true ∨ (isT p = true ∧ p.Text = [] ∧ p.zu = [] ∧ p.Kids = [])) → jk (l.foldl joinStep o) ∧ tkL (l.foldl joinStep o) = tkL o ++ tkL l
  | [], o, ho, _ => ⟨ho, by simp [tkL]⟩
  | p :: l, o, ho, h => by
    rw [List.foldl_cons]
    rcases h p (by simp) with hp | ⟨h1, h2, h3, h4⟩
    · obtain ⟨g1, g2⟩ := abf l _ (aaA o p ho hp) fun y hy => h y (by simp [hy])
      refine ⟨g1, ?_⟩
      have hi := (YD o p ho.gd (afu hp)).1
      have : tkL (joinStep o p) = tkL o ++ tkN p := by rw [← jK, hi, JW, jK, anP]
      rw [g2, this, tkL, List.append_assoc]
    · have e : joinStep o p = o := by unfold joinStep; rw [if_pos (by simp [h1, h2])]
      have e2 : tkN p = [] := by rw [kP, if_pos h1, h2, Q0]; rfl
      rw [e]
      obtain ⟨g1, g2⟩ := abf l o ho fun y hy => h y (by simp [hy])
      exact ⟨g1, by rw [g2, tkL, e2, List.nil_append]⟩
theorem anx (k : Int) {x : Str} (hx : isName x = true) (a b : Nat) (ha : a ≤ 2000000) (hb : b ≤ 2000000) (N : List za) (v : Str) (r : List za → Int → Int → Int → Int → List za → Str → Str → List zg → Option (List za × Int × Int × Int × List za × Str × Str × List zg)) :
    ∀ (l : List za) (j : Int) (i : Nat) (out : List za) (o : List zg), (∀ y ∈ l, zX y = true) →
      (∀ y ∈ l, isT y = false → ∀ (i : Nat) (o : List zg), RgOk i o → i + zF y.Kids ≤ 1000000 → ∃ out, r y.Kids (i : Int) k (a : Int) (b : Int) N x v o = some (out, k, (a : Int), (b : Int), N, x, v, Kw k x a b i (tkL y.Kids) o) ∧ jk out ∧ tkL out = jE k x a b i (tkL y.Kids) ∧ zN out + 21 * zF y.Kids ≤ 24 * zN y.Kids) →
      RgOk i o → i + zF l ≤ 1000000 → zN l ≤ 10000000 → x.length ≤ 20 → (∀ p ∈ out, zX p = true ∨ (isT p = true ∧ p.Text = [] ∧ p.zu = [] ∧ p.Kids = [])) → (out.length + 3 * l.length) ≤ 1000000000 →
      ∃ out', qd r l j (i : Int) out k (a : Int) (b : Int) N x v o = some (out ++ out', k, (a : Int), (b : Int), N, x, v, Kw k x a b i (tkL l) o) ∧ (∀ p ∈ out', zX p = true ∨ (isT p = true ∧ p.Text = [] ∧ p.zu = [] ∧ p.Kids = [])) ∧ tkL out' = jE k x a b i (tkL l) ∧ zN out' + 21 * zF l ≤ 24 * zN l
  | [], j, i, out, o, _, _, _, _, _, _, _, _ => ⟨[], by simp [qd, Kw, tkL], by simp, by simp [tkL, jE], by simp [zN, zF]⟩
  | y :: l, j, i, out, o, hf, hr, ho, hs, hw, hxl, hp, hln => by
    have hy := hf y (by simp)
    have hsz := size_pos hy
    simp only [zF] at hs
    simp only [zN] at hw
    have hyw := ahh y
    rw [qd, size_eq y (by omega)]
    simp only [Option.bind_some]
    rw [YP, wh (x := (i : Int) + (wF y : Int)) (by omega)]
    have e1 : ((i : Int) + (wF y : Int)) = ((i + wF y : Nat) : Int) := by omega
    have hlen := aju y
    rw [e1]
    have go : ∀ (P : List za) (o' : List zg), (∀ p ∈ P, zX p = true ∨ (isT p = true ∧ p.Text = [] ∧ p.zu = [] ∧ p.Kids = [])) → o' = Kw k x a b i (tkN y) o → tkL P = jE k x a b i (tkN y) → zN P + 21 * wF y ≤ 24 * nwt y → P.length ≤ 3 → ∃ out', qd r l (j + 1) ((i + wF y : Nat) : Int) (out ++ P) k (a : Int) (b : Int) N x v o' = some (out ++ out', k, (a : Int), (b : Int), N, x, v, Kw k x a b i (tkL (y :: l)) o) ∧ (∀ p ∈ out', zX p = true ∨ (isT p = true ∧ p.Text = [] ∧ p.zu = [] ∧ p.Kids = [])) ∧ tkL out' = jE k x a b i (tkL (y :: l)) ∧ zN out' + 21 * zF (y :: l) ≤ 24 * zN (y :: l) := by
      intro P o' h1 h2 h3 h4 h5
      subst h2
      obtain ⟨Q, q1, q2, q3, q4⟩ := anx k hx a b ha hb N v r l (j + 1) (i + wF y) (out ++ P) (Kw k x a b i (tkN y) o) (fun z hz => hf z (by simp [hz])) (fun z hz => hr z (by simp [hz])) (by have := arH k x a b (tkN y) i o ho; rw [hlen] at this; exact this) (by omega) (by omega) hxl (fun p hp' => by
        rcases List.mem_append.1 hp' with h | h
        · exact hp p h
        · exact h1 p h) (by simp only [List.length_append, List.length_cons] at hln ⊢; omega)
      refine ⟨P ++ Q, ?_, fun p hp' => ?_, ?_, ?_⟩
      · rw [q1, tkL, ag0, hlen, List.append_assoc]
      · rcases List.mem_append.1 hp' with h | h
        · exact h1 p h
        · exact q2 p h
      · rw [ajo, h3, q3, tkL, ad4, hlen]
      · rw [kH]; simp only [zF, zN]; omega
    by_cases ht : isT y = true
    · rw [if_pos ht]
      obtain ⟨P, g1, g2, g3, g4, g5⟩ := asf hy ht k hx a b i ha hb (by omega) N v o ho (by omega)
      rw [g1]
      simp only [Option.bind_some]
      rw [kU (by simp only [List.length_cons] at hln; omega)]
      simp only [Option.bind_some]
      have hyw6 : 6 + wF y ≤ nwt y := by
        have := wo y
        have hk := Jp ht
        have h2 := afz y.Text
        have h3 : wF y = agV y.Text := by rw [jv, if_pos ht]
        rw [hk] at this
        simp only [jb, List.length_cons, List.length_nil] at this
        omega
      have hb2 : zN P + 21 * wF y ≤ 24 * nwt y := by omega
      exact go P _ (fun p hp' => (g2 p hp').2.imp id fun h => ⟨(g2 p hp').1, h⟩) rfl g3 hb2 g5
    · have ht' : isT y = false := by simpa using ht
      rw [if_neg ht]
      have hsy := ZE ht'
      obtain ⟨Q, g1, g2, g3, g4⟩ := hr y (by simp) ht' (i + 1) o (ho.mono (by omega)) (by omega)
      have e2 : w64 ((i : Int) + 1) = ((i + 1 : Nat) : Int) := by rw [wh (by omega)]; omega
      rw [e2, g1]
      simp only [Option.bind_some]
      rw [kU (by simp only [List.length_cons, List.length_nil] at hln ⊢; omega)]
      simp only [Option.bind_some]
      have hfy := YZ hy ht' g2
      have hty : isT ({ y with Kids := Q } : za) = false := ht'
      have htk : tkN y = Tk.opn y.Kind y.zu :: (tkL y.Kids ++ [Tk.cls]) := by rw [kP, if_neg (by simp [ht'])]
      refine go [{ y with Kids := Q }] _ (fun p hp' => ?_) ?_ ?_ ?_ (by simp)
      · rw [List.mem_singleton] at hp'
        subst hp'
        exact .inl hfy
      · rw [htk, Kw, ag0]
        rfl
      · simp only [tkL, List.append_nil]
        rw [kP, if_neg (by simp [hty]), htk, jE, ad4, aog, g3]
        rfl
      · have w1 := wo y
        have w2 := wo ({ y with Kids := Q } : za)
        simp only at w2
        simp only [zN]
        omega
theorem amu (k : Int) {x : Str} (hx : isName x = true) (hxl : x.length ≤ 20) (a b : Nat) (ha : a ≤ 2000000) (hb : b ≤ 2000000) (N : List za) (v : Str) : ∀ (kr : Nat) (l : List za), jk l → kE l < kr → ∀ (i : Nat) (o : List zg), RgOk i o → i + zF l ≤ 1000000 → zN l ≤ 10000000 → ∃ out, qB kr l (i : Int) k (a : Int) (b : Int) N x v o = some (out, k, (a : Int), (b : Int), N, x, v, Kw k x a b i (tkL l) o) ∧ jk out ∧ tkL out = jE k x a b i (tkL l) ∧ zN out + 21 * zF l ≤ 24 * zN l
  | 0, l, _, h, _, _, _, _, _ => by omega
  | kr + 1, l, hl, hd, i, o, ho, hs, hw => by
    have hlen := wV l
    obtain ⟨P, h1, h2, h3, h4⟩ := anx k hx a b ha hb N v (qB kr) l 0 i [] o hl.form (fun y hy ht i o ho hs => by
      have hm := Za hy
      have hw2 := yF hy
      have hk := xw y
      rw [yJ] at hm
      exact amu k hx hxl a b ha hb N v kr y.Kids (xJ (hl.form y hy) ht) (by omega) i o ho hs (by omega)) ho hs hw hxl (by simp) (by simp; omega)
    rw [qB, wK (by omega), h1]
    simp only [Option.bind_some, List.nil_append]
    rw [agX P (by omega)]
    obtain ⟨g1, g2⟩ := abf P [] .nil h2
    have hj := ab6 P
    refine ⟨yu P, rfl, g1, ?_, by omega⟩
    show tkL (P.foldl joinStep []) = _
    rw [g2, h3]
    rfl
theorem ao3 {n : za} {T : List Tk} (h : TD n T) (k : Int) {x : Str} (hx : isName x = true) (hxl : x.length ≤ 20) (a b : Nat) (hab : a ≤ 2000000) (hb : b ≤ T.length) (hw : wD n T ≤ 5000000) :
    ∃ N, Zz n ⟨k, (a : Int), (b : Int), [], x, []⟩ = some (N, Kw k x a b 0 T [], 0) ∧ TD N (jE k x a b 0 T) ∧ N.Kind = n.Kind ∧ N.zu = n.zu := by
  have hs := h.small
  have hl := h.len
  have hwt := h.wt
  have hwk := xw n
  obtain ⟨out, h1, h2, h3, h4⟩ : ∃ out, vS n.Kids 0 k (a : Int) (b : Int) [] x [] [] = some (out, k, (a : Int), (b : Int), [], x, [], Kw k x a b 0 (tkL n.Kids) []) ∧ jk out ∧ tkL out = jE k x a b 0 (tkL n.Kids) ∧ zN out + 21 * zF n.Kids ≤ 24 * zN n.Kids := by
    obtain ⟨out, h1, h2⟩ := amu k hx hxl a b hab (by omega) [] [] (kE n.Kids + 1) n.Kids h.row (by omega) 0 [] ⟨by simp, by simp⟩ (by omega) (by omega)
    refine ⟨out, ?_, h2⟩
    unfold vS
    refine VM (kE n.Kids + 1) fun kr hk => ?_
    obtain ⟨out', g1, g2, g3, _⟩ := amu k hx hxl a b hab (by omega) [] [] kr n.Kids h.row (by omega) 0 [] ⟨by simp, by simp⟩ (by omega) (by omega)
    have e : out' = out := an2 g2 h2.1 (by rw [g3, h2.2.1])
    subst e
    exact g1
  rw [h.tk] at h1 h3
  refine ⟨{ n with Kids := out }, ?_, TD.of (YZ h.form h.nt h2) h.nt h3 (by rw [JN]; exact h.deep) (by rw [ah8]; exact hs), rfl, rfl⟩
  unfold Zz
  rw [JC n.Kids (by omega)]
  simp only [Option.bind_some]
  rw [if_neg (by simp; omega), h1]
  rfl
end Go.Proofs.YtclohbgnaopjfaaDoor
namespace Go.Proofs.YtclohbgnaopjfaaDoor
set_option linter.unusedSimpArgs false
set_option linter.unusedVariables false
open Go
abbrev xN (l : List za) : za := ⟨[120], [], [], [], l⟩
theorem au9 (l : List za) : nwt (xN l) = zN l + 3 := by
 rw [wo]; simp [wN, kz]; omega
end Go.Proofs.YtclohbgnaopjfaaDoor
namespace Go.Proofs.YtclohbgnaopjfaaDoor
set_option linter.unusedSimpArgs false
set_option linter.unusedVariables false
open Go
def adl (f t : Int) : Bool := decide (0 ≤ f) && (decide (f ≤ t) && decide (t ≤ 1048576))
def srB (s : zz) : Bool :=
 if s.Kind = 114 then adl s.From s.To && (zX (xN s.qK) && (s.Name == [] && s.Value == []))
 else if s.Kind = 97 then decide (-1 ≤ s.From) && (decide (s.From ≤ 1048576) && (decide (s.To = 0) && (isName s.Name && (isValue s.Value && s.qK.isEmpty))))
 else if s.Kind = 109 ∨ s.Kind = 117 then adl s.From s.To && (isName s.Name && (s.qK.isEmpty && s.Value == []))
 else false
theorem asT (f t : Int) : ((if (decide (f ≥ (0 : Int))) = true then if (decide (f ≤ t)) = true then some (decide (t ≤ (1048576 : Int))) else some false else some false) : Option Bool) = some (adl f t) := by
 unfold adl
 by_cases a : f ≥ 0
 ·by_cases b : f ≤ t
  ·have : (0 : Int) ≤ f := a
   simp [b, this]
  ·have : (0 : Int) ≤ f := a
   simp [b, this]
 ·have : ¬ (0 : Int) ≤ f := a
  simp [this]
theorem ao9 (n : za) : (checkN n != (2 : Int)) = zX n := by
 unfold checkN
 cases zX n with
 | false => rfl
 | true =>
  simp only [Bool.true_eq_false, if_false]
  split
  ·rfl
  ·split <;> rfl
theorem adZ {α : Type} (l : List α) : ((l.length : Int) == (0 : Int)) = l.isEmpty := by
 cases l with
 | nil => rfl
 | cons x l =>
  simp only [List.length_cons, List.isEmpty_cons, beq_eq_false_iff_ne, ne_eq]
  omega
theorem aow (a b : Str) : ((a ++ b) == ([] : Str)) = (a == [] && b == []) := by
 cases a <;> cases b <;> rfl
theorem aax (s : zz) (hw : zN s.qK ≤ 268435400) (h1 : s.Name.length ≤ 1048576) (h2 : s.Value.length ≤ 1048576) : ym s = some (srB s) := by
  obtain ⟨k, f, t, l, n, v⟩ := s
  simp only at hw h1 h2
  have hxw := au9 l
  unfold ym srB
  simp only
  rw [asT]
  simp only [Option.bind_some]
  by_cases hk : k = 114
  · subst hk
    rw [if_pos (by decide), aco (xN l) (by omega), if_pos rfl]
    simp only [Option.bind_some]
    rw [ao9, wK (by omega), aow]
    cases adl f t <;> cases zX (xN l) <;> rfl
  · rw [if_neg (by simpa using hk), if_neg hk]
    by_cases hk2 : k = 97
    · subst hk2
      rw [if_pos (by decide), if_pos rfl, abU n (by omega), alQ v (by omega), adZ]
      simp only [Option.bind_some]
      have e1 : decide (f ≥ -1) = decide (-1 ≤ f) := rfl
      have e2 : (t == 0) = decide (t = 0) := by by_cases h : t = 0 <;> simp [h]
      rw [e1, e2]
      cases decide (-1 ≤ f) <;> cases decide (f ≤ 1048576) <;> cases decide (t = 0) <;> cases isName n <;> cases isValue v <;> rfl
    · rw [if_neg (by simpa using hk2), if_neg hk2]
      by_cases hk3 : k = 109
      · subst hk3
        rw [if_pos (by decide), if_pos (show (109 : Int) = 109 ∨ (109 : Int) = 117 from .inl rfl), abU n (by omega), adZ]
        simp only [Option.bind_some]
        cases adl f t <;> cases isName n <;> cases l.isEmpty <;> rfl
      · rw [if_neg (by simpa using hk3)]
        by_cases hk4 : k = 117
        · subst hk4
          rw [if_pos (by decide), if_pos (show (117 : Int) = 109 ∨ (117 : Int) = 117 from .inr rfl), abU n (by omega), adZ]
          simp only [Option.bind_some]
          cases adl f t <;> cases isName n <;> cases l.isEmpty <;> rfl
        · rw [if_neg (by simpa using hk4), if_neg (by omega)]
end Go.Proofs.YtclohbgnaopjfaaDoor
namespace Go.Proofs.YtclohbgnaopjfaaDoor
set_option linter.unusedSimpArgs false
set_option linter.unusedVariables false
open Go
end Go.Proofs.YtclohbgnaopjfaaDoor
namespace Go.Proofs.YtclohbgnaopjfaaDoor
set_option linter.unusedSimpArgs false
set_option linter.unusedVariables false
open Go Classical
theorem apn {n : za} (ht : isT n = false) (h : n.zu.all (fun x => isValue x.Value) = true ∧ isName n.Kind = true ∧ n.Text = [] ∧ n.Marks = [] ∧ xh (n.zu.map (·.Name)) = true ∧ xQ none n.Kids = true) : zX n = true := by
  rw [jC, if_neg (by simp [ht])]
  obtain ⟨h1, h2, h3, h4, h5, h6⟩ := h
  simp [h1, h2, h3, h4, h5, h6]
theorem as3 {n : za} (h : isT n = false) : (n.Kind == ([116, 101, 120, 116] : Str)) = false := h
theorem agB {n : za} {T : List Tk} (h : TD n T) (hw : wD n T ≤ 100000000) (s : zz) (hs : ym s = some true) : vN n s = if (s.Kind == (114 : Int)) = true then (QX n s.From s.To s.qK).bind fun (r_5, r_6) => some (r_5, r_6) else if (s.Kind == (97 : Int)) = true then (ac6 n s).bind fun (r_7, r_8, r_9) => some (r_7, r_9) else (Zz n s).bind fun (XT, adp, aeh) => some (XT, aeh) := by
  have hwt := h.wt
  unfold vN
  rw [hs]
  simp only [Option.bind_some, Bool.not_true, Bool.false_eq_true, if_false]
  rw [as3 h.nt]
  simp only [Bool.false_eq_true, if_false]
  rw [right_eq n (by omega), h.ok]
  simp only [Option.bind_some, beq_self_eq_true, Bool.not_true, Bool.false_eq_true, if_false]
theorem apv {l : List za} (hl : jk l) (hw : zN l ≤ 268435400) {f t : Nat} (hft : f ≤ t) (ht : t ≤ 1048576) : ym ⟨114, (f : Int), (t : Int), l, [], []⟩ = some true := by
  rw [aax _ hw (by simp) (by simp)]
  have hf : zX (xN l) = true := by
    have hT : isT (xN l) = false := rfl
    exact apn hT ⟨rfl, show isName [120] = true by decide +kernel, rfl, rfl, rfl, amy hl⟩
  unfold srB adl
  simp only [if_true]
  rw [hf]
  simp
  omega
theorem ani {k : Int} (hk : k = 109 ∨ k = 117) {x : Str} (hx : isName x = true) (hl : x.length ≤ 20) {f t : Nat} (hft : f ≤ t) (ht : t ≤ 1048576) : ym ⟨k, (f : Int), (t : Int), [], x, []⟩ = some true := by
  rw [aax _ (by simp [zN]) (by simp only; omega) (by simp)]
  unfold srB adl
  simp only
  rw [if_neg (by omega), if_neg (by omega), if_pos hk, hx]
  simp
  omega
theorem ang {n : za} {T : List Tk} (h : TD n T) (hw : wD n T ≤ 5000000) {k : Int} (hk : k = 109 ∨ k = 117) {x : Str} (hx : isName x = true) (hxl : x.length ≤ 20) {a b : Nat} (hab : a ≤ b) (hb : b ≤ T.length) :
    ∃ N, vN n ⟨k, (a : Int), (b : Int), [], x, []⟩ = some (N, 0) ∧ Zz n ⟨k, (a : Int), (b : Int), [], x, []⟩ = some (N, Kw k x a b 0 T [], 0) ∧ TD N (jE k x a b 0 T) ∧ N.Kind = n.Kind ∧ N.zu = n.zu := by
  have hsm := h.small
  obtain ⟨N, h1, h2, h3, h4⟩ := ao3 h k hx hxl a b (by omega) hb hw
  refine ⟨N, ?_, h1, h2, h3, h4⟩
  rw [agB h (by omega) _ (ani hk hx hxl hab (by omega))]
  simp only
  rw [if_neg (by simp; omega), if_neg (by simp; omega), h1]
  rfl
end Go.Proofs.YtclohbgnaopjfaaDoor
namespace Go.Proofs.YtclohbgnaopjfaaDoor
set_option linter.unusedSimpArgs false
set_option linter.unusedVariables false
open Go
end Go.Proofs.YtclohbgnaopjfaaDoor
namespace Go.Proofs.YtclohbgnaopjfaaDoor
set_option linter.unusedSimpArgs false
set_option linter.unusedVariables false
open Go
theorem ai0 : ∀ l : List Str, l.length ≤ wN l
 | [] => by simp
 | s :: l => by have := ai0 l; simp only [wN, List.length_cons]; omega
theorem agf : ∀ l : List zh, l.length ≤ kz l
 | [] => by simp
 | s :: l => by have := agf l; simp only [kz, List.length_cons]; omega
theorem akJ : ∀ (suf pre : List Str) (i : Int), i = (pre.length : Int) → qb (pre ++ suf) suf i = some (.inr ())
 | [], pre, i, hi => rfl
 | y :: suf, pre, i, hi => by
  rw [qb, hi, J5]
  have := akJ suf (pre ++ [y]) (pre.length + 1) (by simp)
  simp only [List.append_assoc, List.cons_append, List.nil_append] at this
  simp [this]
theorem eqStr (l : List Str) (h : l.length ≤ 9223372036854775807) : slices_Equal_string l l = some true := by
 unfold slices_Equal_string
 have := akJ l [] 0 rfl
 simp only [List.nil_append] at this
 rw [wK h, this]
 simp
theorem aid : ∀ (suf pre : List zh) (i : Int), i = (pre.length : Int) → qL (pre ++ suf) suf i = some (.inr ())
 | [], pre, i, hi => rfl
 | y :: suf, pre, i, hi => by
  rw [qL, hi, J5]
  have := aid suf (pre ++ [y]) (pre.length + 1) (by simp)
  simp only [List.append_assoc, List.cons_append, List.nil_append] at this
  simp [this]
theorem atT (l : List zh) (h : l.length ≤ 9223372036854775807) : kR l l = some true := by
 unfold kR
 have := aid l [] 0 rfl
 simp only [List.nil_append] at this
 rw [wK h, this]
 simp
theorem aim (f : za → za → Option Bool) : ∀ (suf pre : List za) (i : Int), i = (pre.length : Int) → (∀ k ∈ suf, f k k = some true) → zQ (pre ++ suf) f suf i = some (.inr ())
  | [], pre, i, hi, _ => rfl
  | y :: suf, pre, i, hi, h => by
    rw [zQ, hi, J5]
    have := aim f suf (pre ++ [y]) (pre.length + 1) (by simp) fun k hk => h k (by simp [hk])
    simp only [List.append_assoc, List.cons_append, List.nil_append] at this
    simp [this, h y (by simp)]
theorem at1 (n : za) : nwt n ≤ 1099511627776 → ∀ kr, 2 * Qd n ≤ kr → jQ kr n n = some true := by
  induction n using za.ind with
  | h n ih =>
    intro hw kr hk
    have hd := yJ n
    obtain ⟨kr, rfl⟩ : ∃ j, kr = j + 1 + 1 := ⟨kr - 2, by omega⟩
    have hwt := wo n
    have hl := wV n.Kids
    have hs := ai0 n.Marks
    have ha := agf n.zu
    have hf := aim (jQ kr) n.Kids [] 0 rfl fun k hkk => ih k hkk (by have := yF hkk; omega) kr (by have := Za hkk; omega)
    simp only [List.nil_append] at hf
    rw [jQ]
    simp only [beq_self_eq_true, if_true]
    rw [eqStr _ (by omega), atT _ (by omega)]
    simp only [Option.bind_some, if_true]
    rw [qg]
    simp only [bne_self_eq_false, Bool.false_eq_true, if_false]
    rw [wK (by omega), hf]
    rfl
theorem apM (n : za) (h : nwt n ≤ 1099511627776) : ZG n n = some true := by
 unfold ZG
 exact VM (2 * Qd n) fun k hk => at1 n h k hk
end Go.Proofs.YtclohbgnaopjfaaDoor
namespace Go.Proofs.YtclohbgnaopjfaaDoor
set_option linter.unusedSimpArgs false
set_option linter.unusedVariables false
open Go Classical
inductive Does : za → List zz → za → Prop
 | nil (n : za) : Does n [] n
 | cons (n a b : za) (s : zz) (l : List zz) (h1 : vN n s = some (a, 0)) (h2 : Does a l b) : Does n (s :: l) b
theorem aui {n b : za} {l : List zz} (h : Does n l b) : ∀ v, yB l v n = some (.inr b) := by
  induction h with
  | nil n => intro v; rfl
  | cons n a b s l h1 h2 ih =>
    intro v
    rw [yB, h1]
    simp only [Option.bind_some]
    rw [if_neg (by decide), ih]
theorem aq2 {n b : za} {l : List zz} (h : Does n l b) (hl : l.length ≤ 9223372036854775807) : QC n l = some (b, 0) := by
 unfold QC
 rw [wK hl, aui h]
 rfl
theorem anW {n a b : za} {x y : zz} (h1 : vN n x = some (a, 0)) (h2 : vN a y = some (b, 0)) : QC n [x, y] = some (b, 0) :=
 aq2 (.cons _ _ _ _ _ h1 (.cons _ _ _ _ _ h2 (.nil _))) (by simp)
theorem Does.app {n a b : za} {l r : List zz} (h : Does n l a) (h2 : Does a r b) : Does n (l ++ r) b := by
 induction h with
 | nil n => exact h2
 | cons n a' b' s l h1 _ ih => exact .cons _ _ _ _ _ h1 (ih h2)
theorem TD.same {a b T} (ha : TD a T) (hb : TD b T) (hk : a.Kind = b.Kind) (hat : a.zu = b.zu) (hw : wD a T ≤ 100000000) : ZG a b = some true := by
 have := ha.ext hb hk hat
 subst this
 have hwt := ha.wt
 exact apM a (by omega)
theorem aua (W : Nat) : ∀ l : List za, (∀ n ∈ l, tw (tkN n) ≤ nwt n * (W + 10)) → tw (tkL l) ≤ zN l * (W + 10) := adk W
theorem atn (W : Nat) (n : za) : (∀ c m, Tk.sgn c m ∈ tkN n → wN m ≤ W) → tw (tkN n) ≤ nwt n * (W + 10) := by
 induction n using za.ind with
 | h n ih =>
  intro hm
  have e := wo n
  rw [kP] at hm ⊢
  cases ht : isT n with
  | true =>
   simp only [ht, if_true] at hm ⊢
   rw [afA]
   have hr := afz n.Text
   rw [← xO] at hr
   by_cases h0 : runes n.Text = []
   ·rw [h0]; simp
   ·obtain ⟨c, l, hcl⟩ := List.exists_cons_of_ne_nil h0
    have hmm := hm c n.Marks (by rw [hcl]; simp)
    exact Nat.mul_le_mul (by omega) (by omega)
  | false =>
   simp only [ht, Bool.false_eq_true, if_false] at hm ⊢
   have h1 := adk W n.Kids fun x hx => ih x hx fun c m hc => hm c m (by
    have : Tk.sgn c m ∈ tkL n.Kids := by
     obtain ⟨i, hi⟩ := List.mem_iff_getElem?.1 hx
     rw [agP hi]
     simp [hc]
    simp [this])
   simp only [tw, aqN, abh]
   have h2 : (2 + n.Kind.length + kz n.zu) ≤ (2 + n.Kind.length + kz n.zu) * (W + 10) := Nat.le_mul_of_pos_right _ (by omega)
   have h3 : (2 + n.Kind.length + kz n.zu + zN n.Kids) * (W + 10) ≤ nwt n * (W + 10) := Nat.mul_le_mul_right _ (by omega)
   rw [Nat.add_mul] at h3
   omega
end Go.Proofs.YtclohbgnaopjfaaDoor
namespace Go.Proofs.YtclohbgnaopjfaaDoor
set_option linter.unusedSimpArgs false
set_option linter.unusedVariables false
open Go Classical
theorem aoL {n : za} {T P S : List Tk} {Y : List It} (h : TD n T) (hw : wD n T ≤ 100000000) (hT : T = P ++ (tkI Y ++ S)) (fy : FI Y) {l : List za} (hl : jk l) (hlw : zN l ≤ 268435400) :
    ∃ N, zX N = true ∧ isT N = false ∧ N.Kind = n.Kind ∧ N.zu = n.zu ∧ tkL N.Kids = P ++ (tkL l ++ S) ∧ vN n ⟨114, (P.length : Int), ((P.length + szI Y : Nat) : Int), l, [], []⟩ = some (if checkN N = 0 then (N, 0) else (auf, checkN N)) := by
  obtain ⟨N, h1, h2, h3, h4, h5, h6⟩ := asg h hw hT fy hl.form (by omega)
  have hsm := h.small
  have hln : P.length + szI Y ≤ T.length := by rw [hT]; simp only [List.length_append, afy]; omega
  refine ⟨N, h1, h2, h3, h4, h5, ?_⟩
  rw [agB h hw _ (apv hl hlw (by omega) (by omega))]
  simp only
  rw [if_pos (by decide), h6]
  by_cases hc : checkN N = 0
  · rw [if_pos hc]; rfl
  · rw [if_neg hc]; rfl
theorem apP (l : List Tk) (hl : ∀ t ∈ l, ∃ c m, t = Tk.sgn c m) (S : List Tk) : ∀ d, dpT d (l ++ S) = dpT d S := by
  induction l with
  | nil => intro d; rfl
  | cons t l ih =>
    intro d
    obtain ⟨c, m, rfl⟩ := hl t (by simp)
    rw [List.cons_append, dpT, ih (fun t ht => hl t (by simp [ht]))]
theorem afl {A B : List Tk} (h : ∀ d, dpT d A = dpT d B) : ∀ (P : List Tk) (d : Nat), dpT d (P ++ A) = dpT d (P ++ B)
 | [], d => h d
 | .sgn c m :: P, d => by rw [List.cons_append, List.cons_append, dpT, dpT, afl h P]
 | .opn c m :: P, d => by rw [List.cons_append, List.cons_append, dpT, dpT, afl h P]
 | .cls :: P, d => by rw [List.cons_append, List.cons_append, dpT, dpT, afl h P]
theorem att : FI [] := fun n hn => by cases hn
theorem YY {n : za} {T P S : List Tk} (h : TD n T) (hw : wD n T ≤ 50000000) (hT : T = P ++ S) {l : List za} (hl : jk l) (hlw : tw (tkL l) ≤ 1000000) (hs : ∀ t ∈ tkL l, ∃ c m, t = Tk.sgn c m) (hlen : T.length + (tkL l).length ≤ 3998) :
  ∃ N, vN n ⟨114, (P.length : Int), (P.length : Int), l, [], []⟩ = some (N, 0) ∧ TD N (P ++ (tkL l ++ S)) ∧ N.Kind = n.Kind ∧ N.zu = n.zu ∧ wD N (P ++ (tkL l ++ S)) = wD n T + tw (tkL l) := by
 have hlt := arM hl
 obtain ⟨N, h1, h2, h3, h4, h5, h6⟩ := aoL (Y := []) h (by omega) (by rw [hT]; rfl) att hl (by omega)
 have htd : TD N (P ++ (tkL l ++ S)) := by
  refine TD.of h1 h2 h5 ?_ ?_
  ·rw [afl (apP (tkL l) hs S) P 0, ← hT]
   exact h.deep
  ·rw [hT] at hlen
   simp only [List.length_append] at hlen ⊢
   omega
 rw [if_pos htd.ok] at h6
 simp only [szI, Nat.add_zero] at h6
 refine ⟨N, h6, htd, h3, h4, ?_⟩
 unfold wD
 rw [h3, h4, hT]
 simp only [abh]
 omega
end Go.Proofs.YtclohbgnaopjfaaDoor
namespace Go.Proofs.YtclohbgnaopjfaaDoor
set_option linter.unusedSimpArgs false
set_option linter.unusedVariables false
open Go Classical
abbrev avx : za := ⟨[100, 111, 99], [], [], [], [⟨[112], [], [], [], [⟨jb, [104, 105], [], [], []⟩]⟩]⟩
abbrev atf : za := ⟨[100, 111, 99], [], [], [], [⟨[112], [], [], [], [⟨jb, [104], [], [], []⟩, ⟨jb, [105], [[98]], [], []⟩]⟩]⟩
theorem ano : jA = some true := by
 have r1 : runes [104, 105] = [104, 105] := by decide +kernel
 have r2 : runes [104] = [104] := by decide +kernel
 have r3 : runes [105] = [105] := by decide +kernel
 have hT : tkL avx.Kids = [.opn [112] [], .sgn 104 [], .sgn 105 [], .cls, ] := by
  simp [tkL, tkN, r1]
 have h : TD avx [.opn [112] [], .sgn 104 [], .sgn 105 [], .cls] := ⟨by decide +kernel, rfl, hT⟩
 have hB : tkL atf.Kids = [.opn [112] [], .sgn 104 [], .sgn 105 [[98]], .cls] := by
  simp [tkL, tkN, r2, r3]
 have hb : TD atf [.opn [112] [], .sgn 104 [], .sgn 105 [[98]], .cls] := ⟨by decide +kernel, rfl, hB⟩
 obtain ⟨N, h1, _, h2, h3, h4⟩ := ang h (by decide +kernel) (k := 109) (.inl rfl) (x := [98]) (by decide +kernel) (by decide) (a := 2) (b := 3) (by decide) (by decide)
 have e : jE 109 [98] 2 3 0 [.opn [112] [], .sgn 104 [], .sgn 105 [], .cls] = [.opn [112] [], .sgn 104 [], .sgn 105 [[98]], .cls] := by
  have : mkS 109 [98] [] = [[98]] := by decide +kernel
  simp [jE, mkT, this]
 rw [e] at h2
 obtain rfl := h2.ext hb h3 h4
 have e2 : ((2 : Nat) : Int) = 2 := rfl
 have e3 : ((3 : Nat) : Int) = 3 := rfl
 rw [e2, e3] at h1
 unfold jA
 rw [h1]
 rfl
end Go.Proofs.YtclohbgnaopjfaaDoor
namespace Go.Proofs.YtclohbgnaopjfaaDoor
set_option linter.unusedSimpArgs false
set_option linter.unusedVariables false
open Go
def aby (m : List Str) : Prop := m = [] ∨ m = [[98]] ∨ m = [[105]] ∨ m = [[98], [105]]
inductive BN : za → Prop
 | text (t : Str) (m : List Str) (h1 : t ≠ []) (h2 : Lib.validD t = true) (hm : aby m) : BN ⟨jb, t, m, [], []⟩
 | node (k : Str) (a : List zh) (ks : List za) (hk : isName k = true) (h1 : a.all (fun x => isValue x.Value) = true) (h2 : xh (a.map (·.Name)) = true) (hs : ∀ x ∈ ks, BN x) (hj : vo ks) : BN ⟨k, [], [], a, ks⟩
theorem acV {k : Str} (h : isName k = true) : (k == jb) = false := by
 unfold isName at h
 simp only [Bool.and_eq_true, decide_eq_true_eq] at h
 simpa using h.2
theorem akN {m : List Str} (h : aby m) : xh m = true := by
 rcases h with rfl | rfl | rfl | rfl <;> decide +kernel
theorem aks {m : List Str} (h : aby m) : wN m ≤ 4 := by
 rcases h with rfl | rfl | rfl | rfl <;> simp [wN]
theorem aoh : ∀ (l : List za) (last : Option za), (∀ x ∈ l, zX x = true) → vo l → (∀ x y, last = some x → l.head? = some y → wu x y = false) → xQ last l = true
  | [], last, _, _, _ => abF last
  | y :: l, last, hf, hj, hl => by
    rw [WA, hf y (by simp)]
    have h2 : xQ (some y) l = true := by
      refine aoh l (some y) (fun x hx => hf x (by simp [hx])) ?_ ?_
      · cases l with
        | nil => trivial
        | cons z l => exact hj.2
      · intro x z hx hz
        cases hx
        cases l with
        | nil => cases hz
        | cons z' l => cases hz; exact hj.1
    rw [h2]
    cases last with
    | none => rfl
    | some x => simp [hl x y rfl rfl]
theorem asA {n : za} (h : BN n) : zX n = true := by
 induction h with
 | text t m h1 h2 hm =>
  rw [jC]
  have h3 := akN hm
  simp [isT, h1, h2, h3]
 | node k a ks hk h1 h2 hs hj ih =>
  rw [jC]
  have hkk : isT (⟨k, [], [], a, ks⟩ : za) = false := acV hk
  have h3 := aoh ks none ih hj (fun x y hx => by cases hx)
  simp only [hkk, Bool.false_eq_true, if_false, h1, hk, h2, h3]
  decide
theorem ar9 {n : za} (h : BN n) (ht : isT n = true) : n.Text ≠ [] ∧ Lib.validD n.Text = true ∧ aby n.Marks ∧ n.zu = [] ∧ n.Kids = [] := by
 cases h with
 | text t m h1 h2 hm => exact ⟨h1, h2, hm, rfl, rfl⟩
 | node k a ks hk h1 h2 hs hj => rw [show isT (⟨k, [], [], a, ks⟩ : za) = false from acV hk] at ht; cases ht
theorem anC {n : za} (h : BN n) : (∀ x ∈ n.Kids, BN x) ∧ vo n.Kids := by
 cases h with
 | text t m h1 h2 hm => exact ⟨by simp, trivial⟩
 | node k a ks hk h1 h2 hs hj => exact ⟨hs, hj⟩
theorem ahz : ∀ (o : List za) (x n : za), vo (o ++ [x]) → wu x n = false → vo (o ++ [x, n])
 | [], x, n, _, h => ⟨h, trivial⟩
 | [a], x, n, h1, h => ⟨h1.1, h, trivial⟩
 | a :: b :: o, x, n, h1, h => ⟨h1.1, ahz (b :: o) x n h1.2 h⟩
theorem aiV : ∀ (o : List za) (x n : za), vo (o ++ [x]) → (∀ a, wu a x = wu a n) → vo (o ++ [n])
 | [], x, n, _, _ => trivial
 | [a], x, n, h1, h => ⟨by rw [← h]; exact h1.1, trivial⟩
 | a :: b :: o, x, n, h1, h => ⟨h1.1, aiV (b :: o) x n h1.2 h⟩
theorem anb : ∀ (l : List za), (∀ x ∈ l, isT x = false) → vo l
  | [], _ => trivial
  | [a], _ => trivial
  | a :: b :: l, h => ⟨by unfold wu; rw [h a (by simp)]; rfl, anb (b :: l) fun x hx => h x (by simp [hx])⟩
theorem aoY (o : List za) (n : za) (h : ∀ x ∈ o, BN x) (hj : vo o) (hn : BN n) : (∀ x ∈ joinStep o n, BN x) ∧ vo (joinStep o n) := by
  rcases wX o with rfl | ⟨o, x, rfl⟩
  · rw [ve]
    split
    · exact ⟨by simp, trivial⟩
    · exact ⟨by simpa using hn, trivial⟩
  · rw [wH]
    split
    · exact ⟨h, hj⟩
    · split
      · rename_i hc
        simp only [Bool.and_eq_true, decide_eq_true_eq] at hc
        obtain ⟨⟨h1, h2⟩, h3⟩ := hc
        have hx := h x (by simp)
        cases hn with
        | text t m ht hv hm =>
          cases hx with
          | text t' m' ht' hv' hm' =>
            simp only at h3
            subst h3
            refine ⟨fun y hy => ?_, aiV o _ _ hj fun a => rfl⟩
            rcases List.mem_append.1 hy with hy | hy
            · exact h y (by simp [hy])
            · simp at hy
              subst hy
              exact .text _ _ (by simp [ht']) (by rw [(ad2 t hv').2]; exact hv) hm
          | node k a ks hk ha hb hs hj' => rw [show isT (⟨k, [], [], a, ks⟩ : za) = false from acV hk] at h2; cases h2
        | node k a ks hk ha hb hs hj' => rw [show isT (⟨k, [], [], a, ks⟩ : za) = false from acV hk] at h1; cases h1
      · rename_i hc
        refine ⟨fun y hy => ?_, ahz o x n hj ?_⟩
        · rcases List.mem_append.1 hy with hy | hy
          · exact h y (by simp [hy])
          · simp at hy
            rcases hy with rfl | rfl
            · exact h y (by simp)
            · exact hn
        · have hc' : (isT n && isT x && decide (x.Marks = n.Marks)) = false := by simpa using hc
          unfold wu
          rw [Bool.and_comm (isT x)]
          exact hc'
theorem ate : ∀ (l o : List za), (∀ x ∈ o, BN x) → vo o → (∀ x ∈ l, BN x) → (∀ x ∈ l.foldl joinStep o, BN x) ∧ vo (l.foldl joinStep o)
 | [], o, h, hj, _ => ⟨h, hj⟩
 | n :: l, o, h, hj, hl => by
  obtain ⟨h1, h2⟩ := aoY o n h hj (hl n (by simp))
  exact ate l _ h1 h2 fun x hx => hl x (by simp [hx])
theorem auW (l : List za) (h : ∀ x ∈ l, BN x) : (∀ x ∈ yu l, BN x) ∧ vo (yu l) := ate l [] (by simp) trivial h
theorem Jy (a b : List za) : wm (a ++ b) = max (wm a) (wm b) := by
 induction a with
 | nil => simp [wm]
 | cons n a ih => simp only [List.cons_append, wm, ih]; omega
theorem ahM (o : List za) (n : za) : wm (joinStep o n) ≤ max (wm o) (yf n) := by
 rcases wX o with rfl | ⟨o, x, rfl⟩
 ·rw [ve]
  split <;> simp [wm]
 ·rw [wH]
  split
  ·omega
  ·split
   ·rename_i hc
    simp only [Bool.and_eq_true] at hc
    have h1 : yf ({ n with Text := x.Text ++ n.Text } : za) = 0 := by rw [Qo, if_pos (show isT ({ n with Text := x.Text ++ n.Text } : za) = true from hc.1.1)]
    simp only [Jy, wm, h1]
    omega
   ·simp only [Jy, wm]
    omega
theorem aiK : ∀ (l o : List za), wm (l.foldl joinStep o) ≤ max (wm o) (wm l)
 | [], o => by simp [wm]
 | n :: l, o => by
  have h1 := ahM o n
  have h2 := aiK l (joinStep o n)
  simp only [List.foldl_cons, wm]
  omega
theorem amg (l : List za) : wm (yu l) ≤ wm l := by
 have := aiK l []
 simpa [yu, wm] using this
structure Book (ks : List za) : Prop where
 bn : ∀ x ∈ ks, BN x
 nt : ∀ x ∈ ks, isT x = false
 wt : zN ks ≤ 2400
 dep : wm ks ≤ 31
abbrev ao7 : Str := [100, 111, 99]
theorem asC {ks : List za} (h : Book ks) : BN ⟨ao7, [], [], [], ks⟩ := .node _ _ _ (by decide +kernel) rfl (by decide +kernel) h.bn (anb ks h.nt)
theorem am6 {ks : List za} (h : Book ks) : checkN ⟨ao7, [], [], [], ks⟩ = 0 := by
  have hf := asA (asC h)
  have hs := kT ks
  have hw := h.wt
  have hdp := h.dep
  have e1 : yf ⟨ao7, [], [], [], ks⟩ = wm ks + 1 := by rw [Qo]; rfl
  have e2 : wF ⟨ao7, [], [], [], ks⟩ = 2 + zF ks := by rw [jv]; rfl
  unfold checkN
  rw [hf, e1, e2, if_neg (by simp), if_neg (by omega), if_neg (by omega)]
end Go.Proofs.YtclohbgnaopjfaaDoor
namespace Go.Proofs.YtclohbgnaopjfaaDoor
set_option linter.unusedSimpArgs false
set_option linter.unusedVariables false
open Go Classical
theorem arK (n : za) : BN n → ∀ c m, Tk.sgn c m ∈ tkN n → aby m := by
  induction n using za.ind with
  | h n ih =>
    intro hb c m hc
    rw [kP] at hc
    cases ht : isT n with
    | true =>
      rw [if_pos ht, List.mem_map] at hc
      obtain ⟨x, _, hx⟩ := hc
      cases hx
      exact (ar9 hb ht).2.2.1
    | false =>
      simp only [ht, Bool.false_eq_true, if_false, List.mem_cons, reduceCtorEq, false_or, List.mem_append, List.not_mem_nil, or_false] at hc
      have key : ∀ l : List za, (∀ x ∈ l, x ∈ n.Kids) → Tk.sgn c m ∈ tkL l → aby m := by
        intro l
        induction l with
        | nil => intro _ h; simp [tkL] at h
        | cons y l ihl =>
          intro hl h
          rw [tkL, List.mem_append] at h
          rcases h with h | h
          · exact ih y (hl y (by simp)) ((anC hb).1 y (hl y (by simp))) c m h
          · exact ihl (fun x hx => hl x (by simp [hx])) h
      exact key n.Kids (fun _ h => h) hc
abbrev aoe (ks : List za) : za := ⟨ao7, [], [], [], ks⟩
theorem asj {ks : List za} (h : Book ks) : TD (aoe ks) (tkL ks) ∧ wD (aoe ks) (tkL ks) ≤ 40000 := by
 refine ⟨⟨am6 h, rfl, rfl⟩, ?_⟩
 have h1 := aua 4 ks fun n hn => atn 4 n fun c m hc => aks (arK n (h.bn n hn) c m hc)
 have := h.wt
 unfold wD
 simp only [kz, List.length_cons, List.length_nil]
 omega
end Go.Proofs.YtclohbgnaopjfaaDoor
namespace Go.Proofs.YtclohbgnaopjfaaDoor
set_option linter.unusedSimpArgs false
set_option linter.unusedVariables false
open Go
theorem ai9 (f : za → Option Int) : ∀ (l : List za) (i : Int) (d : Nat), (∀ k ∈ l, f k = some (yf k : Int)) → qI f l i (d : Int) = some ((max d (wm l) : Nat) : Int)
  | [], i, d, _ => by simp [qI, wm]
  | n :: l, i, d, h => by
    rw [qI, h n (by simp)]
    simp only [Option.bind_some]
    have e : (if (yf n : Int) > (d : Int) then (yf n : Int) else (d : Int)) = ((max d (yf n) : Nat) : Int) := by split <;> omega
    rw [e, ai9 f l _ _ fun k hk => h k (by simp [hk])]
    simp only [wm, Option.some.injEq]
    omega
theorem aqJ (n : za) : nwt n ≤ 1099511627776 → ∀ kr, Qd n ≤ kr → qF kr n = some (yf n : Int) := by
  induction n using za.ind with
  | h n ih =>
    intro hw kr hk
    have hd := yJ n
    obtain ⟨kr, rfl⟩ : ∃ j, kr = j + 1 := ⟨kr - 1, by omega⟩
    have hwt := wo n
    have hl := wV n.Kids
    have hdl := anM n
    have hdw := anv n
    have en : (n.Kind == ([116, 101, 120, 116] : Str)) = isT n := rfl
    rw [qF, en]
    by_cases ht : isT n = true
    · simp [ht, Qo n]
    · have e := Qo n
      rw [if_neg ht] at e
      simp only [ht, Bool.false_eq_true, if_false]
      have h0 := ai9 (qF kr) n.Kids 0 0 (fun k hkk => ih k hkk (by have := yF hkk; omega) kr (by have := Za hkk; omega))
      have h0' : qI (qF kr) n.Kids 0 0 = _ := h0
      rw [wK (by omega), h0']
      simp only [Option.bind_some, Nat.zero_max]
      rw [wh (by omega), e]
      rfl
theorem aif (n : za) (h : nwt n ≤ 1099511627776) : vK n = some (yf n : Int) := by
 unfold vK
 exact VM (Qd n) fun kr hk => aqJ n h kr hk
end Go.Proofs.YtclohbgnaopjfaaDoor
