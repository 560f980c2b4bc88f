/- Texts of the proof of stepAttrsCard -/
import Derived.Test.YtclohbgnaopjfaaDoorAgF
import Derived.Lib.RuneCount
import Derived.Lib.SlTrimSet
import Derived.Lib.ValidU
import Derived.Lib.MapLaws
import Derived.Lib.ValidLaws
import Derived.Test.YtclohbgnaopjfaaDoorAgWith
namespace Go.Proofs.YtclohbgnaopjfaaDoor
set_option linter.unusedSimpArgs false
set_option linter.unusedVariables false
open Go
theorem kG {x : Int} (h : -9223372036854775808 ≤ x ∧ x ≤ 9223372036854775807) : w64 x = x := asM h
theorem wI {α : Type} {p : Prop} [Decidable p] (h : p) (x : Option α) : chk p x = x := if_pos h
theorem VJ {α : Type} {l : List α} {i : Nat} {x : α} (h : l[i]? = some x) : rd l (i : Int) = some x := by
  unfold rd; rw [if_pos (by omega)]; simpa using h
theorem JQ {α : Type} (pre suf : List α) (x : α) : rd (pre ++ x :: suf) (pre.length : Int) = some x := VJ (by simp)
theorem amN {α : Type} {l : List α} {a b : Nat} (h1 : a ≤ b) (h2 : b ≤ l.length) : sl l (a : Int) (b : Int) = some ((l.take b).drop a) := by
  unfold sl; rw [if_pos (by omega)]; simp
theorem apY {α : Type} (pre suf : List α) : sl (pre ++ suf) 0 (pre.length : Int) = some pre := by
 have := amN (l := pre ++ suf) (a := 0) (b := pre.length) (by omega) (by simp)
 simpa using this
theorem kQ {α : Type} {z : Nat} {l ys : List α} (h : (l.length + ys.length) * z ≤ 140737488355328) : app z l ys = some (l ++ ys) := if_pos h
theorem wX {α : Type} (l : List α) : l = [] ∨ ∃ a x, l = a ++ [x] := by
 rcases List.eq_nil_or_concat l with h | ⟨a, x, h⟩
 ·exact .inl h
 ·exact .inr ⟨a, x, by simpa using h⟩
abbrev jq : Str := [116, 101, 120, 116]
def wU : List Str → Nat
 | [] => 0
 | s :: l => 1 + s.length + wU l
theorem ais {s : Str} : ∀ {l : List Str}, s ∈ l → s.length ≤ wU l
 | x :: l, h => by
  simp only [wU]
  rcases List.mem_cons.1 h with rfl | h
  ·omega
  ·have := ais h; omega
theorem ae6 (l : List Str) : l.length ≤ wU l := by
 induction l with
 | nil => simp
 | cons s l ih => simp only [List.length_cons, wU]; omega
end Go.Proofs.YtclohbgnaopjfaaDoor
namespace Go.Proofs.YtclohbgnaopjfaaDoor
set_option linter.unusedSimpArgs false
set_option linter.unusedVariables false
open Go
def isT (n : za) : Bool := n.Kind == jq
theorem Wd (n : za) : (n.Kind == ([116, 101, 120, 116] : Str)) = isT n := rfl
theorem za.ind {p : za → Prop} (h : ∀ n : za, (∀ k ∈ n.Kids, p k) → p n) : ∀ n, p n
 | ⟨a, b, c, d, ks⟩ => h _ fun k hk => za.ind h k
 termination_by n => n
 decreasing_by
  have : SizeOf.sizeOf k < SizeOf.sizeOf ks := List.sizeOf_lt_of_mem hk
  simp only [za.mk.sizeOf_spec]
  omega
def afu (s : Str) : Nat := Lib.runeCountL s
theorem ajb (s : Str) : afu s ≤ s.length := by
 have := Lib.runeCountFrom_le ⟨s.toArray⟩ (ByteArray.size ⟨s.toArray⟩) 0
 simpa [afu, Lib.runeCountL, Lib.runeCount, ByteArray.size] using this
theorem ajr (s : Str) : ∀ (f k : Nat) (n : Int) (pos : Nat), s.length - pos ≤ f → f < k → 0 ≤ n → n + f ≤ 9223372036854775807 → zJ s k n pos = some (n + Lib.runeCountFrom ⟨s.toArray⟩ f pos) := by
  intro f
  induction f with
  | zero =>
    intro k n pos h1 h2 h3 h4
    obtain ⟨k, rfl⟩ : ∃ j, k = j + 1 := ⟨k - 1, by omega⟩
    have : ¬ pos < s.length := by omega
    simp [zJ, this, Lib.runeCountFrom]
  | succ f ih =>
    intro k n pos h1 h2 h3 h4
    obtain ⟨k, rfl⟩ : ∃ j, k = j + 1 := ⟨k - 1, by omega⟩
    rw [zJ]
    by_cases hp : pos < s.length
    · have hw := Lib.decode_width_pos ⟨s.toArray⟩ pos (by simpa [ByteArray.size] using hp)
      simp only [hp, decide_true, if_true]
      rw [kG (by omega), ih k (n + 1) _ (by simp only [aqz]; omega) (by omega) (by omega) (by omega)]
      have hs : pos < ByteArray.size ⟨s.toArray⟩ := by simpa [ByteArray.size] using hp
      simp only [Lib.runeCountFrom, hs, if_true, aqz, Option.some.injEq]
      omega
    · have hs : ¬ pos < ByteArray.size ⟨s.toArray⟩ := by simpa [ByteArray.size] using hp
      simp [hp, Lib.runeCountFrom, hs]
theorem runeCount_eq (s : Str) (h : s.length ≤ 9223372036854775807) : qW s = some (afu s : Int) := by
  have key : (lim fun k => zJ s k 0 0) = some (afu s : Int) := by
    refine KU (s.length + 1) fun k hk => ?_
    rw [ajr s s.length k 0 0 (by omega) (by omega) (by omega) (by omega)]
    simp [afu, Lib.runeCountL, Lib.runeCount, ByteArray.size]
  unfold qW
  rw [key]
  rfl
mutual
def kz : za → Nat
 | ⟨k, t, _, _, ks⟩ => if (k == jq) = true then afu t else 2 + zO ks
def zO : List za → Nat
 | [] => 0
 | n :: l => kz n + zO l
end
mutual
def Qk : za → Nat
 | ⟨_, _, _, _, ks⟩ => 1 + xh ks
def xh : List za → Nat
 | [] => 0
 | n :: l => max (Qk n) (xh l)
end
def ky : List zf → Nat
 | [] => 0
 | a :: l => 1 + a.Name.length + a.Value.length + ky l
mutual
def nwt : za → Nat
 | ⟨k, t, m, a, ks⟩ => 2 + k.length + t.length + wU m + ky a + zS ks
def zS : List za → Nat
 | [] => 0
 | n :: l => nwt n + zS l
end
theorem xz (n : za) : kz n = if isT n = true then afu n.Text else 2 + zO n.Kids := by cases n; simp only [kz, isT]; rfl
theorem Jd {n : za} (h : isT n = false) : kz n = 2 + zO n.Kids := by rw [xz, h]; simp
theorem yw (n : za) : Qk n = 1 + xh n.Kids := by cases n; simp only [Qk]
theorem wH (n : za) : nwt n = 2 + n.Kind.length + n.Text.length + wU n.Marks + ky n.zt + zS n.Kids := by cases n; simp only [nwt]
theorem Zd (a b : List za) : zS (a ++ b) = zS a + zS b := by
 induction a with
 | nil => simp [zS]
 | cons n a ih => simp only [List.cons_append, zS, ih]; omega
theorem al5 (a b : List za) : zO (a ++ b) = zO a + zO b := by
 induction a with
 | nil => simp [zO]
 | cons n a ih => simp only [List.cons_append, zO, ih]; omega
theorem kH (l : List za) : 2 * l.length ≤ zS l := by
 induction l with
 | nil => simp
 | cons n l ih => have := wH n; simp only [zS, List.length_cons]; omega
theorem Qb {n : za} : ∀ {l : List za}, n ∈ l → nwt n ≤ zS l
 | x :: l, h => by
  simp only [zS]
  rcases List.mem_cons.1 h with rfl | h
  ·omega
  ·have := Qb h; omega
theorem yc {n : za} : ∀ {l : List za}, n ∈ l → Qk n ≤ xh l
 | x :: l, h => by
  simp only [xh]
  rcases List.mem_cons.1 h with rfl | h
  ·omega
  ·have := yc h; omega
theorem ZQ (n : za) : zS n.Kids ≤ nwt n := by have := wH n; omega
theorem adJ : ∀ (l : List za), (∀ n ∈ l, kz n ≤ nwt n) → zO l ≤ zS l
 | [], _ => by simp [zO, zS]
 | n :: l, h => by
  have h1 := h n (by simp)
  have h2 := adJ l fun x hx => h x (by simp [hx])
  simp only [zO, zS]; omega
theorem aha (n : za) : kz n ≤ nwt n := by
 induction n using za.ind with
 | h n ih =>
  have h1 := adJ n.Kids ih
  have h2 := ajb n.Text
  rw [xz, wH]
  split <;> omega
theorem xW (l : List za) : zO l ≤ zS l := adJ l fun n _ => aha n
theorem Q5 (n : za) : vL n = some (isT n) := by unfold vL isT; rfl
theorem aff (sz : za → Option Int) : ∀ (l : List za) (i acc : Int), (∀ k ∈ l, sz k = some (kz k : Int)) → 0 ≤ acc → acc + zO l ≤ 9223372036854775807 → je sz l i acc = some (acc + zO l)
  | [], i, acc, _, _, _ => by simp [je, zO]
  | n :: l, i, acc, h, h0, hb => by
    simp only [zO] at hb
    rw [je, h n (by simp)]
    simp only [Option.bind_some]
    rw [kG (by omega), aff sz l _ _ (fun k hk => h k (by simp [hk])) (by omega) (by omega)]
    simp only [zO, Option.some.injEq]
    omega
theorem apB (n : za) : nwt n ≤ 1099511627776 → ∀ kr, 2 * Qk n ≤ kr → jc kr n = some (kz n : Int) := by
  induction n using za.ind with
  | h n ih =>
    intro hw kr hk
    have hd := yw n
    obtain ⟨kr, rfl⟩ : ∃ j, kr = j + 1 + 1 := ⟨kr - 2, by omega⟩
    have hwt := wH n
    have hl := kH n.Kids
    have hs := xW n.Kids
    rw [jc, Q5, xz]
    simp only [Option.bind_some]
    by_cases ht : isT n = true
    · simp only [ht, if_true]
      rw [runeCount_eq _ (by omega)]
      rfl
    · simp only [ht, Bool.false_eq_true, if_false]
      rw [xw, wI (by omega), aff (jc kr) n.Kids 0 0 (fun k hkk => ih k hkk (by have := Qb hkk; omega) kr (by have := yc hkk; omega)) (by omega) (by omega)]
      simp only [Option.bind_some]
      rw [kG (by omega)]
      simp only [Option.some.injEq]
      omega
theorem size_eq (n : za) (h : nwt n ≤ 1099511627776) : yz n = some (kz n : Int) := by
 unfold yz
 exact KU (2 * Qk n) fun k hk => apB n h k hk
theorem acP (l : List za) (h : zS l ≤ 1099511627776) : jk l = some (zO l : Int) := by
  unfold jk
  refine KU (2 * xh l + 1) fun kr hk => ?_
  obtain ⟨kr, rfl⟩ : ∃ j, kr = j + 1 := ⟨kr - 1, by omega⟩
  have hl := kH l
  have hs := xW l
  rw [xw, wI (by omega), aff (jc kr) l 0 0 (fun k hkk => apB k (by have := Qb hkk; omega) kr (by have := yc hkk; omega)) (by omega) (by omega)]
  simp
theorem abw (b : List Str) : ∀ (suf pre : List Str) (i : Int), i = (pre.length : Int) → b.length = pre.length + suf.length → b.take pre.length = pre → qh b suf i = some (if pre ++ suf = b then .inr () else .inl false)
  | [], pre, i, hi, hl, ht => by
    have : pre = b := by
      rw [← ht, List.take_of_length_le]
      simp at hl; omega
    simp [qh, this]
  | y :: suf, pre, i, hi, hl, ht => by
    simp only [List.length_cons] at hl
    obtain ⟨x, hx⟩ : ∃ x, b[pre.length]? = some x := ⟨b[pre.length], List.getElem?_eq_getElem (by omega)⟩
    rw [qh, hi, VJ hx]
    simp only [Option.bind_some]
    have htk : b.take (pre.length + 1) = pre ++ [x] := by
      rw [List.take_add_one, ht, hx]
      rfl
    by_cases hxy : y = x
    · subst hxy
      simp only [beq_self_eq_true, Bool.not_true, Bool.false_eq_true, if_false]
      rw [abw b suf (pre ++ [y]) _ (by simp) (by simp; omega) (by simpa using htk)]
      simp
    · have : ¬ pre ++ y :: suf = b := by
        intro h
        rw [← h] at hx
        simp at hx
        exact hxy hx
      simp [hxy, this]
theorem ajv (a b : List Str) (h : a.length ≤ 9223372036854775807) : kV a b = some (decide (a = b)) := by
  unfold kV
  by_cases hl : a.length = b.length
  · simp only [hl, bne_self_eq_false, Bool.false_eq_true, if_false]
    rw [wI (by omega), abw b a [] 0 rfl (by simp [hl]) (by simp)]
    by_cases e : a = b <;> simp [e]
  · have h1 : ((a.length : Int) != (b.length : Int)) = true := by simp; omega
    have h2 : ¬ a = b := fun e => hl (by rw [e])
    rw [if_pos h1]
    simp [h2]
def joinStep (out : List za) (n : za) : List za :=
 if (isT n && n.Text == []) = true then out
 else match out.getLast? with
  | some x => if (isT n && isT x && decide (x.Marks = n.Marks)) = true then out.dropLast ++ [{ n with Text := x.Text ++ n.Text }] else out ++ [n]
  | none => out ++ [n]
def WW (l : List za) : List za := l.foldl joinStep []
theorem vv (n : za) : joinStep [] n = if (isT n && n.Text == []) = true then [] else [n] := by
 unfold joinStep; rfl
theorem wB (o : List za) (x n : za) : joinStep (o ++ [x]) n = if (isT n && n.Text == []) = true then o ++ [x] else if (isT n && isT x && decide (x.Marks = n.Marks)) = true then o ++ [{ n with Text := x.Text ++ n.Text }] else o ++ [x, n] := by
 unfold joinStep
 simp
theorem XY (o : List za) (n : za) : zS (joinStep o n) ≤ zS o + nwt n := by
 rcases wX o with rfl | ⟨o, x, rfl⟩
 ·rw [vv]
  split <;> simp [zS]
 ·rw [wB]
  split
  ·omega
  ·split
   ·simp only [Zd, zS, wH, List.length_append]
    omega
   ·simp only [Zd, zS]
    omega
theorem anl : ∀ (l o : List za), zS (l.foldl joinStep o) ≤ zS o + zS l
 | [], o => by simp [zS]
 | n :: l, o => by
  have h1 := XY o n
  have h2 := anl l (joinStep o n)
  simp only [List.foldl_cons, zS]
  omega
theorem alI (l : List za) : zS (WW l) ≤ zS l := by
 have := anl l []
 simpa [WW, zS] using this
end Go.Proofs.YtclohbgnaopjfaaDoor
namespace Go.Proofs.YtclohbgnaopjfaaDoor
set_option linter.unusedSimpArgs false
set_option linter.unusedVariables false
open Go
def wQ (a b : za) : Bool := isT a && isT b && decide (a.Marks = b.Marks)
def vP : List za → Prop
 | a :: b :: l => wQ a b = false ∧ vP (b :: l)
 | _ => True
end Go.Proofs.YtclohbgnaopjfaaDoor
namespace Go.Proofs.YtclohbgnaopjfaaDoor
set_option linter.unusedSimpArgs false
set_option linter.unusedVariables false
open Go
def alo (b : Bool) : Bool ⊕ Unit := match b with
 | true => .inr ()
 | false => .inl false
def letter (b : UInt8) : Bool := decide (97 ≤ b.toNat) && decide (b.toNat ≤ 122)
abbrev abc : Str := [97, 98, 99, 100, 101, 102, 103, 104, 105, 106, 107, 108, 109, 110, 111, 112, 113, 114, 115, 116, 117, 118, 119, 120, 121, 122]
def isName (s : Str) : Bool := s.all letter && decide (s ≠ []) && decide (s.length ≤ 8) && decide (s ≠ jq)
theorem aji (b : UInt8) : abc.contains b = letter b := by
 have h : ∀ n, n < 256 → abc.contains (UInt8.ofNat n) = letter (UInt8.ofNat n) := by decide +kernel
 have := h b.toNat b.toNat_lt
 simpa using this
theorem agW (p : UInt8 → Bool) : ∀ l : Str, (∀ x ∈ l.dropWhile p, p x = true) → ∀ x ∈ l, p x = true
  | [], _ => by simp
  | a :: l, h => by
    by_cases ha : p a = true
    · rw [List.dropWhile_cons_of_pos ha] at h
      intro x hx
      rcases List.mem_cons.1 hx with rfl | hx
      · exact ha
      · exact agW p l h x hx
    · rw [List.dropWhile_cons_of_neg ha] at h
      exact (ha (h a (by simp))).elim
theorem aky (p : UInt8 → Bool) : ∀ l : Str, (∀ x ∈ l, p x = true) → l.dropWhile p = []
  | [], _ => rfl
  | a :: l, h => by
    rw [List.dropWhile_cons_of_pos (h a (by simp))]
    exact aky p l fun x hx => h x (by simp [hx])
theorem aqP (s : Str) : (Lib.trimS s abc == []) = s.all letter := by
  have hp : (fun b => abc.contains b) = letter := funext aji
  unfold Lib.trimS Lib.trimLeftS Lib.trimRightS
  rw [hp]
  cases h : s.all letter with
  | true =>
    have h' := List.all_eq_true.1 h
    rw [aky letter s.reverse fun x hx => h' x (by simpa using hx)]
    rfl
  | false =>
    rw [beq_eq_false_iff_ne]
    intro e
    have h1 : ∀ x ∈ (s.reverse.dropWhile letter).reverse, letter x = true := agW letter _ (by rw [e]; simp)
    have h2 := agW letter s.reverse fun x hx => h1 x (by simpa using hx)
    have h3 : s.all letter = true := List.all_eq_true.2 fun x hx => h2 x (by simpa using hx)
    rw [h] at h3
    cases h3
theorem abz (s : Str) (h : s.length ≤ 9223372036854775807) : yC s = some (isName s) := by
 unfold yC Kn isName
 rw [wI ⟨h, by decide, by decide⟩]
 simp only [Option.bind_some, aqP]
 cases h1 : s.all letter with
 | false => simp
 | true =>
  by_cases h2 : s = []
  ·simp [h2]
  ·by_cases h3 : s.length ≤ 8
   ·have g3 : decide ((s.length : Int) ≤ 8) = true := by simp; omega
    have g2 : (s == []) = false := by simpa using h2
    simp only [if_true, g2, Bool.not_false, g3, h2, h3, ne_eq, not_false_eq_true, decide_true, Bool.true_and]
    by_cases h4 : s = jq <;> simp [h4]
   ·have g3 : decide ((s.length : Int) ≤ 8) = false := by simp; omega
    have g2 : (s == []) = false := by simpa using h2
    simp only [if_true, g2, Bool.not_false, g3, Bool.false_eq_true, if_false]
    simp [h3]
end Go.Proofs.YtclohbgnaopjfaaDoor
namespace Go.Proofs.YtclohbgnaopjfaaDoor
set_option linter.unusedSimpArgs false
set_option linter.unusedVariables false
open Go
def isValue (s : Str) : Bool := decide (s.length ≤ 40) && Lib.validD s
theorem akQ (s : Str) (h : s.length ≤ 9223372036854775807) : Q0 s = some (isValue s) := by
 unfold Q0 wz isValue
 rw [wI h]
 by_cases h3 : s.length ≤ 40
 ·have g3 : decide ((s.length : Int) ≤ 40) = true := by simp; omega
  simp [g3, h3]
 ·have g3 : decide ((s.length : Int) ≤ 40) = false := by simp; omega
  simp only [g3, Bool.false_eq_true, if_false]
  simp [h3]
def yB : Option Str → List Str → Bool
 | _, [] => true
 | last, y :: l => isName y && (match last with | none => true | some x => !(Op.bytesLess y x || y == x)) && yB (some y) l
theorem Vd (last : Option Str) (y : Str) (l : List Str) : yB last (y :: l) = (isName y && (match last with | none => true | some x => !(Op.bytesLess y x || y == x)) && yB (some y) l) := by cases last <;> rfl
def jw (l : List Str) : Bool := yB none l
theorem am8 : ∀ (suf pre : List Str), (∀ s ∈ suf, s.length ≤ 9223372036854775807) → (pre ++ suf).length ≤ 4611686018427387904 → vo (pre ++ suf) suf (pre.length : Int) = some (alo (yB pre.getLast? suf))
  | [], pre, _, _ => by simp [vo, yB, alo]
  | y :: suf, pre, h, hb => by
    have e : (pre.length : Int) + 1 = ((pre ++ [y]).length : Int) := by simp
    have ih := am8 suf (pre ++ [y]) (fun s hs => h s (by simp [hs])) (by simpa using hb)
    rw [List.append_assoc, List.singleton_append, ← e, List.getLast?_append, List.getLast?_singleton] at ih
    simp only [Option.some_or] at ih
    rw [vo, abz y (h y (by simp))]
    simp only [Option.bind_some]
    rw [Vd]
    rcases Bool.eq_false_or_eq_true (isName y) with hn | hn
    rotate_left
    · simp [hn, alo]
    · rw [hn]
      simp only [Bool.not_true, Bool.false_eq_true, if_false, Bool.true_and]
      rcases wX pre with rfl | ⟨p, x, rfl⟩
      · have g : decide ((([] : List Str).length : Int) > 0) = false := by decide
        simp only [g, Bool.false_eq_true, if_false]
        rw [ih]
        simp
      · have g : decide (((p ++ [x]).length : Int) > 0) = true := decide_eq_true (by simp only [List.length_append, List.length_cons, List.length_nil]; omega)
        have hr : rd (p ++ [x] ++ y :: suf) (w64 (((p ++ [x]).length : Int) - 1)) = some x := by
          simp only [List.length_append, List.length_cons, List.length_nil] at hb
          rw [kG (by simp; omega)]
          have e2 : ((p ++ [x]).length : Int) - 1 = (p.length : Int) := by simp
          rw [e2, List.append_assoc]
          exact JQ p (y :: suf) x
        simp only [g, if_true, hr, Option.bind_some, List.getLast?_append, List.getLast?_singleton, Option.some_or]
        rcases Bool.eq_false_or_eq_true (Op.bytesLess y x || y == x) with hc | hc
        · simp only [hc, if_true, Bool.not_true, Bool.false_and, alo]
        · simp only [hc, Bool.false_eq_true, if_false, Bool.not_false, Bool.true_and]
          exact ih
theorem anN (l : List Str) (h : ∀ s ∈ l, s.length ≤ 9223372036854775807) (hb : l.length ≤ 4611686018427387904) : KD l = some (jw l) := by
  have h0 := am8 l [] h (by simpa using hb)
  have h0' : vo l l 0 = _ := h0
  unfold KD
  rw [wI (by omega), h0']
  simp only [Option.bind_some, List.getLast?_nil, jw]
  cases yB none l <;> rfl
theorem aq6 (b : List Str) : ∀ (suf pre : List Str) (i : Int), i = (pre.length : Int) → b.length = pre.length + suf.length → b.take pre.length = pre → z8 b suf i = some (if pre ++ suf = b then .inr () else .inl false)
  | [], pre, i, hi, hl, ht => by
    have : pre = b := by
      rw [← ht, List.take_of_length_le]
      simp at hl; omega
    simp [z8, this]
  | y :: suf, pre, i, hi, hl, ht => by
    simp only [List.length_cons] at hl
    obtain ⟨x, hx⟩ : ∃ x, b[pre.length]? = some x := ⟨b[pre.length], List.getElem?_eq_getElem (by omega)⟩
    rw [z8, hi, VJ hx]
    simp only [Option.bind_some]
    have htk : b.take (pre.length + 1) = pre ++ [x] := by
      rw [List.take_add_one, ht, hx]
      rfl
    by_cases hxy : y = x
    · subst hxy
      simp only [beq_self_eq_true, Bool.not_true, Bool.false_eq_true, if_false]
      rw [aq6 b suf (pre ++ [y]) _ (by simp) (by simp; omega) (by simpa using htk)]
      simp
    · have : ¬ pre ++ y :: suf = b := by
        intro h
        rw [← h] at hx
        simp at hx
        exact hxy hx
      simp [hxy, this]
theorem atY (a b : List Str) (h : a.length ≤ 9223372036854775807) : slices_Equal_string a b = some (decide (a = b)) := by
  unfold slices_Equal_string
  by_cases hl : a.length = b.length
  · simp only [hl, bne_self_eq_false, Bool.false_eq_true, if_false]
    rw [wI (by omega), aq6 b a [] 0 rfl (by simp [hl]) (by simp)]
    by_cases e : a = b <;> simp [e]
  · have h1 : ((a.length : Int) != (b.length : Int)) = true := by simp; omega
    have h2 : ¬ a = b := fun e => hl (by rw [e])
    rw [if_pos h1]
    simp [h2]
theorem akK (a b : za) (h : a.Marks.length ≤ 9223372036854775807) : Zr a b = some (wQ a b) := by
 unfold Zr wQ
 rw [Q5, Q5]
 simp only [Option.bind_some]
 rw [atY _ _ h]
 cases isT a <;> cases isT b <;> simp
mutual
def qA : za → Bool
 | ⟨k, t, m, a, ks⟩ => if (k == jq) = true then (decide (t ≠ []) && Lib.validD t && jw m && decide (a.length + ks.length = 0)) else (a.all (fun x => isValue x.Value) && isName k && decide (t = []) && decide (m = []) && jw (a.map (·.Name)) && xu none ks)
def xu : Option za → List za → Bool
 | _, [] => true
 | last, n :: l => qA n && (match last with | none => true | some x => !wQ x n) && xu (some n) l
end
theorem Wx (last : Option za) (n : za) (l : List za) : xu last (n :: l) = (qA n && (match last with | none => true | some x => !wQ x n) && xu (some n) l) := by cases last <;> simp only [xu]
theorem abb (last : Option za) : xu last [] = true := by cases last <;> simp only [xu]
theorem jl (n : za) : qA n = if isT n = true then (decide (n.Text ≠ []) && Lib.validD n.Text && jw n.Marks && decide (n.zt.length + n.Kids.length = 0)) else (n.zt.all (fun x => isValue x.Value) && isName n.Kind && decide (n.Text = []) && decide (n.Marks = []) && jw (n.zt.map (·.Name)) && xu none n.Kids) := by
 cases n; simp only [qA, isT]; rfl
theorem age {a : zf} : ∀ {l : List zf}, a ∈ l → a.Name.length + a.Value.length ≤ ky l
 | x :: l, h => by
  simp only [ky]
  rcases List.mem_cons.1 h with rfl | h
  ·omega
  ·have := age h; omega
theorem abn (l : List zf) : l.length ≤ ky l := by
 induction l with
 | nil => simp
 | cons s l ih => simp only [List.length_cons, ky]; omega
theorem ahN : ∀ (l : List zf) (i : Int) (out : List Str), (out.length + l.length) * 16 ≤ 140737488355328 → ky l ≤ 1099511627776 → vJ l i out = some (if l.all (fun x => isValue x.Value) = true then .inr (out ++ l.map (·.Name)) else .inl false)
  | [], i, out, _, _ => by simp [vJ]
  | a :: l, i, out, hb, hw => by
    simp only [ky] at hw
    simp only [List.length_cons] at hb
    rw [vJ, akQ _ (by omega)]
    simp only [Option.bind_some]
    rcases Bool.eq_false_or_eq_true (isValue a.Value) with hv | hv
    rotate_left
    · simp [hv]
    · simp only [hv, Bool.not_true, Bool.false_eq_true, if_false, List.all_cons, Bool.true_and]
      rw [kQ (by simp; omega)]
      simp only [Option.bind_some]
      rw [ahN l _ _ (by simp; omega) (by omega)]
      simp
theorem aiv (n : za) (f : za → Option Bool) : ∀ (suf pre : List za), n.Kids = pre ++ suf → (∀ k ∈ suf, f k = some (qA k)) → zS n.Kids ≤ 1099511627776 → kD n f suf (pre.length : Int) = some (alo (xu pre.getLast? suf))
  | [], pre, _, _, _ => by simp [kD, abb, alo]
  | y :: suf, pre, hk, hf, hw => by
    have e : (pre.length : Int) + 1 = ((pre ++ [y]).length : Int) := by simp
    have ih := aiv n f suf (pre ++ [y]) (by rw [hk]; simp) (fun s hs => hf s (by simp [hs])) hw
    rw [← e, List.getLast?_append, List.getLast?_singleton] at ih
    simp only [Option.some_or] at ih
    rw [kD, hf y (by simp)]
    simp only [Option.bind_some]
    rw [Wx]
    rcases Bool.eq_false_or_eq_true (qA y) with hn | hn
    rotate_left
    · simp [hn, alo]
    · rw [hn]
      simp only [Bool.not_true, Bool.false_eq_true, if_false, Bool.true_and]
      rcases wX pre with rfl | ⟨p, x, rfl⟩
      · have g : decide ((([] : List za).length : Int) > 0) = false := by decide
        simp only [g, Bool.false_eq_true, if_false]
        rw [ih]
        simp
      · have g : decide (((p ++ [x]).length : Int) > 0) = true := decide_eq_true (by simp only [List.length_append, List.length_cons, List.length_nil]; omega)
        have hl := kH n.Kids
        have hr : rd n.Kids (w64 (((p ++ [x]).length : Int) - 1)) = some x := by
          rw [hk] at hl ⊢
          simp only [List.length_append, List.length_cons, List.length_nil] at hl
          rw [kG (by simp; rw [hk] at hw; omega)]
          have e2 : ((p ++ [x]).length : Int) - 1 = (p.length : Int) := by simp
          rw [e2, List.append_assoc]
          exact JQ p (y :: suf) x
        have hx : nwt x ≤ zS n.Kids := Qb (by rw [hk]; simp)
        have hxw := wH x
        have hxm := ae6 x.Marks
        simp only [g, if_true, hr, Option.bind_some, List.getLast?_append, List.getLast?_singleton, Option.some_or]
        rw [akK x y (by omega)]
        simp only [Option.bind_some]
        rcases Bool.eq_false_or_eq_true (wQ x y) with hc | hc
        · simp only [hc, if_true, Bool.not_true, Bool.false_and, alo]
        · simp only [hc, Bool.false_eq_true, if_false, Bool.not_false, Bool.true_and]
          exact ih
theorem apr (n : za) : nwt n ≤ 1099511627776 → ∀ kr, Qk n ≤ kr → kP kr n = some (qA n) := by
  induction n using za.ind with
  | h n ih =>
    intro hw kr hk
    have hd := yw n
    obtain ⟨kr, rfl⟩ : ∃ j, kr = j + 1 := ⟨kr - 1, by omega⟩
    have hwt := wH n
    have hl := kH n.Kids
    have hm := ae6 n.Marks
    have ha := abn n.zt
    rw [kP, Q5, jl]
    simp only [Option.bind_some]
    by_cases ht : isT n = true
    · simp only [ht, if_true]
      by_cases h1 : n.Text = []
      · simp [h1]
      · have g1 : (n.Text == []) = false := by simpa using h1
        simp only [g1, Bool.not_false, if_true]
        unfold wz
        rw [wI (by omega)]
        simp only [Option.bind_some]
        cases hv : Lib.validD n.Text with
        | false => simp
        | true =>
          simp only [if_true]
          rw [anN _ (fun s hs => by have := ais hs; omega) (by omega)]
          simp only [Option.bind_some]
          rw [kG (by omega)]
          cases hr : jw n.Marks with
          | false => simp
          | true =>
            simp only [if_true, ne_eq, h1, not_false_eq_true, decide_true, Bool.true_and, Option.some.injEq]
            rw [Bool.eq_iff_iff]
            simp only [beq_iff_eq, decide_eq_true_eq]
            omega
    · simp only [ht, Bool.false_eq_true, if_false]
      rw [wI (by omega), ahN _ _ _ (by simp; omega) (by omega)]
      simp only [Option.bind_some]
      cases hv : n.zt.all (fun x => isValue x.Value) with
      | false => simp
      | true =>
        simp only [if_true, List.nil_append, Bool.true_and]
        rw [abz _ (by omega)]
        simp only [Option.bind_some]
        cases h2 : isName n.Kind with
        | false => simp
        | true =>
          simp only [Bool.not_true, Bool.false_eq_true, if_false, Bool.true_and]
          by_cases h3 : n.Text = []
          · by_cases h4 : n.Marks = []
            · have g4 : decide ((n.Marks.length : Int) > 0) = false := by simp [h4]
              have g3 : (n.Text == []) = true := by simp [h3]
              simp only [g3, Bool.not_true, Bool.false_eq_true, if_false, g4]
              rw [anN _ (fun s hs => by
                obtain ⟨a, ha', rfl⟩ := List.mem_map.1 hs
                have := age ha'; omega) (by simp; omega)]
              simp only [Option.bind_some]
              cases hr : jw (n.zt.map (·.Name)) with
              | false => simp
              | true =>
                simp only [Bool.not_true, Bool.false_eq_true, if_false]
                have h0 := aiv n (kP kr) n.Kids [] rfl (fun k hkk => ih k hkk (by have := Qb hkk; omega) kr (by have := yc hkk; omega)) (by omega)
                have h0' : kD n (kP kr) n.Kids 0 = _ := h0
                rw [wI (by omega), h0']
                simp only [Option.bind_some, List.getLast?_nil, h3, h4, decide_true, Bool.true_and]
                cases xu none n.Kids <;> rfl
            · have g4 : decide ((n.Marks.length : Int) > 0) = true := by
                have := List.length_pos_iff.2 h4
                simp; omega
              have g3 : (n.Text == []) = true := by simp [h3]
              simp only [g3, Bool.not_true, Bool.false_eq_true, if_false, g4, if_true]
              simp [h4]
          · have g3 : (n.Text == []) = false := by simpa using h3
            simp only [g3, Bool.not_false, if_true]
            simp [h3]
theorem aoz (n : za) (h : nwt n ≤ 1099511627776) : Wu n = some (qA n) := by
 unfold Wu
 exact KU (Qk n) fun kr hk => apr n h kr hk
mutual
def xO : za → Nat
 | ⟨k, _, _, _, ks⟩ => if (k == jq) = true then 0 else qX ks + 1
def qX : List za → Nat
 | [] => 0
 | n :: l => max (xO n) (qX l)
end
theorem Qa (n : za) : xO n = if isT n = true then 0 else qX n.Kids + 1 := by cases n; simp only [xO, isT]; rfl
theorem akW : ∀ (l : List za), (∀ n ∈ l, xO n ≤ Qk n) → qX l ≤ xh l
 | [], _ => by simp [qX, xh]
 | n :: l, h => by
  have h1 := h n (by simp)
  have h2 := akW l fun x hx => h x (by simp [hx])
  simp only [qX, xh]; omega
theorem ang (n : za) : xO n ≤ Qk n := by
 induction n using za.ind with
 | h n ih =>
  have h1 := akW n.Kids ih
  rw [Qa, yw]
  split <;> omega
theorem ahc (l : List za) (h : ∀ n ∈ l, Qk n ≤ nwt n) : xh l ≤ zS l := by
 induction l with
 | nil => simp [xh, zS]
 | cons k l ih =>
  have h1 := h k (by simp)
  have h2 := ih fun x hx => h x (by simp [hx])
  simp only [xh, zS]; omega
theorem am5 (n : za) : Qk n ≤ nwt n := by
 induction n using za.ind with
 | h n ih =>
  have h1 := ahc n.Kids ih
  have h2 := yw n
  have h3 := wH n
  omega
theorem ak5 (f : za → Option Int) : ∀ (l : List za) (i : Int) (d : Nat), (∀ k ∈ l, f k = some (xO k : Int)) → vB f l i (d : Int) = some ((max d (qX l) : Nat) : Int)
  | [], i, d, _ => by simp [vB, qX]
  | n :: l, i, d, h => by
    rw [vB, h n (by simp)]
    simp only [Option.bind_some]
    have e : (if (xO n : Int) > (d : Int) then (xO n : Int) else (d : Int)) = ((max d (xO n) : Nat) : Int) := by split <;> omega
    rw [e, ak5 f l _ _ fun k hk => h k (by simp [hk])]
    simp only [qX, Option.some.injEq]
    omega
theorem ash (n : za) : nwt n ≤ 1099511627776 → ∀ kr, Qk n ≤ kr → vk kr n = some (xO n : Int) := by
  induction n using za.ind with
  | h n ih =>
    intro hw kr hk
    have hd := yw n
    obtain ⟨kr, rfl⟩ : ∃ j, kr = j + 1 := ⟨kr - 1, by omega⟩
    have hwt := wH n
    have hl := kH n.Kids
    have hdl := ang n
    have hdw := am5 n
    rw [vk, Q5]
    simp only [Option.bind_some]
    by_cases ht : isT n = true
    · simp [ht, Qa n]
    · have e := Qa n
      rw [if_neg ht] at e
      simp only [ht, Bool.false_eq_true, if_false]
      have h0 := ak5 (vk kr) n.Kids 0 0 (fun k hkk => ih k hkk (by have := Qb hkk; omega) kr (by have := yc hkk; omega))
      have h0' : vB (vk kr) n.Kids 0 0 = _ := h0
      rw [wI (by omega), h0']
      simp only [Option.bind_some, Nat.zero_max]
      rw [kG (by omega), e]
      rfl
theorem ap6 (n : za) (h : nwt n ≤ 1099511627776) : KO n = some (xO n : Int) := by
 unfold KO
 exact KU (Qk n) fun kr hk => ash n h kr hk
def checkN (n : za) : Int := if qA n = false then 2 else if 40 < xO n then 4 else if 4000 < kz n then 5 else 0
theorem akX (n : za) (h : nwt n ≤ 1099511627776) : xU n = some (checkN n) := by
 unfold xU checkN
 rw [aoz n h]
 simp only [Option.bind_some]
 cases hf : qA n with
 | false => simp
 | true =>
  simp only [Bool.not_true, Bool.false_eq_true, if_false]
  rw [ap6 n h]
  simp only [Option.bind_some]
  by_cases hd : 40 < xO n
  ·have g : decide ((xO n : Int) > 40) = true := by simp; omega
   simp [g, hd]
  ·have g : decide ((xO n : Int) > 40) = false := by simp; omega
   simp only [g, Bool.false_eq_true, if_false]
   rw [size_eq n h]
   simp only [Option.bind_some, hd, if_false]
   by_cases hs : 4000 < kz n
   ·have g : decide ((kz n : Int) > 4000) = true := by simp; omega
    simp [g, hs]
   ·have g : decide ((kz n : Int) > 4000) = false := by simp; omega
    simp only [g, Bool.false_eq_true, if_false, hs]
    simp
end Go.Proofs.YtclohbgnaopjfaaDoor
namespace Go.Proofs.YtclohbgnaopjfaaDoor
set_option linter.unusedSimpArgs false
set_option linter.unusedVariables false
open Go
theorem ajE (p : List za) (x n : za) (hx : isT x = true) (hn : isT n = true) (hm : x.Marks = n.Marks) (ha : x.zt = n.zt) (hk : x.Kids = n.Kids) : joinStep (joinStep p x) n = joinStep p { n with Text := x.Text ++ n.Text } := by
 have hkd : x.Kind = n.Kind := by
  have h1 : x.Kind = jq := by simpa [isT] using hx
  have h2 : n.Kind = jq := by simpa [isT] using hn
  rw [h1, h2]
 have hxn : ({ n with Text := x.Text ++ n.Text } : za).Marks = n.Marks := rfl
 have hnt : isT { n with Text := x.Text ++ n.Text } = true := hn
 by_cases hx0 : x.Text = []
 ·have e1 : joinStep p x = p := by unfold joinStep; simp [hx, hx0]
  have e2 : ({ n with Text := x.Text ++ n.Text } : za) = n := by cases n; simp [hx0]
  rw [e1, e2]
 ·by_cases hn0 : n.Text = []
  ·have e1 : ∀ o, joinStep o n = o := fun o => by unfold joinStep; simp [hn, hn0]
   have e2 : ({ n with Text := x.Text ++ n.Text } : za) = x := by cases x; cases n; simp_all
   rw [e1, e2]
  ·have hxn0 : (({ n with Text := x.Text ++ n.Text } : za).Text == []) = false := by simp [hx0]
   have hx0' : (x.Text == []) = false := by simpa using hx0
   have hn0' : (n.Text == []) = false := by simpa using hn0
   rcases wX p with rfl | ⟨p, y, rfl⟩
   ·rw [vv, vv]
    simp only [hx0', Bool.and_false, Bool.false_eq_true, if_false, hxn0]
    have := wB [] x n
    rw [List.nil_append] at this
    rw [this]
    simp [hn, hx, hn0', hm]
   ·rw [wB, wB]
    simp only [hx0', Bool.and_false, Bool.false_eq_true, if_false, hxn0, hx, hnt, Bool.true_and]
    by_cases hc : (isT y && decide (y.Marks = n.Marks)) = true
    ·have hc' : (isT y && decide (y.Marks = x.Marks)) = true := by rw [hm]; exact hc
     rw [if_pos hc', if_pos hc, wB]
     have hxt : ∀ m, isT { x with Text := y.Text ++ x.Text, Marks := m } = true := fun _ => hx
     simp [hn, hn0', hxt, hm, List.append_assoc]
    ·have hc' : ¬ (isT y && decide (y.Marks = x.Marks)) = true := by rw [hm]; exact hc
     rw [if_neg hc', if_neg hc]
     have := wB (p ++ [y]) x n
     rw [List.append_assoc] at this
     rw [List.singleton_append] at this
     rw [this]
     simp [hn, hx, hn0', hm]
def Plain (n : za) : Prop := isT n = true → n.zt = [] ∧ n.Kids = []
end Go.Proofs.YtclohbgnaopjfaaDoor
namespace Go.Proofs.YtclohbgnaopjfaaDoor
set_option linter.unusedSimpArgs false
set_option linter.unusedVariables false
open Go
theorem anE : ∀ (l : List za) (i : Int) (o : List za), zS o + zS l ≤ 1099511627776 → zW l i o = some (l.foldl joinStep o)
  | [], i, o, _ => by simp [zW]
  | n :: l, i, o, hw => by
    simp only [zS] at hw
    have hjw := XY o n
    have ih := anE l (i + 1) (joinStep o n) (by omega)
    have hol := kH o
    rw [zW, List.foldl_cons]
    have eapp : app 104 o [n] = some (o ++ [n]) := kQ (by simp; omega)
    rcases wX o with rfl | ⟨o, x, rfl⟩
    · rw [vv] at ih ⊢
      by_cases ht : isT n = true
      · have ht' : (n.Kind == jq) = true := ht
        by_cases he : n.Text = []
        · simp only [ht, he, Bool.true_and, beq_self_eq_true, if_true] at ih ⊢
          simp only [ht', if_true, Option.bind_some]
          exact ih
        · have he' : (n.Text == []) = false := by simp [he]
          simp only [ht, he', Bool.true_and, Bool.false_eq_true, if_false] at ih ⊢
          simp only [ht', he', Bool.false_eq_true, if_true, if_false, Option.bind_some, List.length_nil]
          have hneg : decide (w64 ((0 : Nat) - 1 : Int) ≥ 0) = false := by rw [kG (by omega)]; simp
          simp only [hneg, Bool.false_eq_true, if_false, eapp, Option.bind_some]
          exact ih
      · have ht' : (n.Kind == jq) = false := by simpa [isT] using ht
        have ht2 : isT n = false := by simpa using ht
        simp only [ht2, Bool.false_and, Bool.false_eq_true, if_false] at ih ⊢
        simp only [ht', Bool.false_eq_true, if_false, Option.bind_some, eapp]
        exact ih
    · rw [wB] at ih ⊢
      have hx : rd (o ++ [x]) (w64 (((o ++ [x]).length : Int) - 1)) = some x := by
        rw [kG (by simp at hol ⊢; omega)]
        have : ((o ++ [x]).length : Int) - 1 = (o.length : Int) := by simp
        rw [this]
        exact JQ o [] x
      have hsl : sl (o ++ [x]) 0 (w64 (((o ++ [x]).length : Int) - 1)) = some o := by
        rw [kG (by simp at hol ⊢; omega)]
        have : ((o ++ [x]).length : Int) - 1 = (o.length : Int) := by simp
        rw [this]
        exact apY o [x]
      have hpos : decide (w64 (((o ++ [x]).length : Int) - 1) ≥ 0) = true := by
        rw [kG (by simp at hol ⊢; omega)]
        simp
      have hwx : nwt x ≤ zS (o ++ [x]) := Qb (by simp)
      have hx1 := wH x
      have hn1 := wH n
      by_cases ht : isT n = true
      · have ht' : (n.Kind == jq) = true := ht
        by_cases he : n.Text = []
        · simp only [ht, he, Bool.true_and, beq_self_eq_true, if_true] at ih ⊢
          simp only [ht', if_true, Option.bind_some]
          exact ih
        · have he' : (n.Text == []) = false := by simp [he]
          simp only [ht, he', Bool.true_and, Bool.false_eq_true, if_false] at ih ⊢
          simp only [ht', he', Bool.false_eq_true, if_true, if_false, Option.bind_some, hpos, hx]
          by_cases hxt : isT x = true
          · have hxt' : (x.Kind == jq) = true := hxt
            have hml : x.Marks.length ≤ 9223372036854775807 := by
              have : ∀ l : List Str, l.length ≤ wU l := by
                intro l; induction l with
                | nil => simp
                | cons s l ih => simp [wU]; omega
              have := this x.Marks
              omega
            simp only [hxt', if_true]
            rw [ajv _ _ hml]
            simp only [Option.bind_some, hxt, Bool.true_and] at ih ⊢
            by_cases hm : x.Marks = n.Marks
            · simp only [hm, decide_true, if_true] at ih ⊢
              rw [wI (by omega), hsl]
              simp only [Option.bind_some]
              have hol2 := kH (o ++ [x])
              simp only [List.length_append, List.length_cons, List.length_nil] at hol2
              rw [kQ (by simp; omega)]
              simp only [Option.bind_some, List.nil_append]
              rw [kQ (by simp; omega)]
              simp only [Option.bind_some]
              exact ih
            · simp only [hm, decide_false, Bool.false_eq_true, if_false] at ih ⊢
              rw [eapp]
              simp only [Option.bind_some, List.append_assoc, List.cons_append, List.nil_append]
              exact ih
          · have hxt' : (x.Kind == jq) = false := by simpa [isT] using hxt
            have hx2 : isT x = false := by simpa using hxt
            simp only [hx2, Bool.false_and, Bool.false_eq_true, if_false] at ih ⊢
            simp only [hxt', Bool.false_eq_true, if_false, eapp, Option.bind_some, List.append_assoc, List.cons_append, List.nil_append]
            exact ih
      · have ht' : (n.Kind == jq) = false := by simpa [isT] using ht
        have ht2 : isT n = false := by simpa using ht
        simp only [ht2, Bool.false_and, Bool.false_eq_true, if_false] at ih ⊢
        simp only [ht', Bool.false_eq_true, if_false, Option.bind_some, eapp, List.append_assoc, List.cons_append, List.nil_append]
        exact ih
theorem join_eq (l : List za) (h : zS l ≤ 1099511627776) : j5 l = some (WW l) := by
  have hl := kH l
  unfold j5
  rw [wI (by omega), anE l 0 [] (by simpa [zS] using h)]
  rfl
end Go.Proofs.YtclohbgnaopjfaaDoor
namespace Go.Proofs.YtclohbgnaopjfaaDoor
set_option linter.unusedSimpArgs false
set_option linter.unusedVariables false
open Go
abbrev aqj : List Str := [[97], [98, 99], [195, 169], [120, 32, 121], [230, 151, 165, 230, 156, 172]]
abbrev atp : List Str := [[112, 97, 114, 97], [105, 116, 101, 109], [108, 105, 115, 116], [110, 111, 116, 101]]
abbrev atW : Str := [97, 108, 105, 103, 110]
def aub (t : Str) : Prop := t ≠ [] ∧ ∃ l : List Str, (∀ x ∈ l, x ∈ aqj) ∧ t = l.flatten
def atg (m : List Str) : Prop := m = [] ∨ m = [[98]] ∨ m = [[98], [105]]
def atc (a : List zf) : Prop := a = [] ∨ ∃ v ∈ aqj, a = [⟨atW, v⟩]
inductive MN : za → Prop
 | text (t : Str) (m : List Str) (ht : aub t) (hm : atg m) : MN ⟨jq, t, m, [], []⟩
 | node (k : Str) (a : List zf) (ks : List za) (hk : k ∈ atp) (ha : atc a) (hs : ∀ x ∈ ks, MN x) (hj : vP ks) : MN ⟨k, [], [], a, ks⟩
theorem anI : ∀ (o : List za) (x n : za), vP (o ++ [x]) → wQ x n = false → vP (o ++ [x, n])
 | [], x, n, _, h => ⟨h, trivial⟩
 | [a], x, n, h1, h => ⟨h1.1, h, trivial⟩
 | a :: b :: o, x, n, h1, h => ⟨h1.1, anI (b :: o) x n h1.2 h⟩
theorem ahT (a b : List za) : xh (a ++ b) = max (xh a) (xh b) := by
 induction a with
 | nil => simp [xh]
 | cons n a ih => simp only [List.cons_append, xh, ih]; omega
structure att (i : Nat) (o : List za) : Prop where
 mn : ∀ x ∈ o, MN x
 wt : zS o ≤ 24 * i
 dep : xh o ≤ i
theorem att.snoc {i : Nat} {o : List za} (h : att i o) {n : za} (hn : MN n) (hw : nwt n ≤ 24) (hd : Qk n ≤ 1) : att (i + 1) (o ++ [n]) := by
 refine ⟨fun x hx => ?_, ?_, ?_⟩
 ·rcases List.mem_append.1 hx with hx | hx
  ·exact h.mn x hx
  ·simp at hx; subst hx; exact hn
 ·have := h.wt; simp only [Zd, zS]; omega
 ·have := h.dep; simp only [ahT, xh]; omega
end Go.Proofs.YtclohbgnaopjfaaDoor
namespace Go.Proofs.YtclohbgnaopjfaaDoor
set_option linter.unusedSimpArgs false
set_option linter.unusedVariables false
open Go
theorem aa0 (s : Str) (g : Value → Int) (hg : ∀ n, g (.int .i32 n) = n) : ∀ (f pos : Nat) (acc : Array Value), (Conv.runesFrom ⟨s.toArray⟩ f pos acc).toList.map g = acc.toList.map g ++ (Conv.runesFrom ⟨s.toArray⟩ f pos #[]).toList.map g
 | 0, pos, acc => by simp [Conv.runesFrom]
 | f + 1, pos, acc => by
  unfold Conv.runesFrom
  split
  ·rw [aa0 s g hg f _ (acc.push _), aa0 s g hg f _ (#[].push _)]
   simp
  ·simp
def rn : Nat → Str → List Int
 | 0, _ => []
 | f + 1, s => if s = [] then [] else ((Lib.decodeL s).1 : Int) :: rn f (s.drop (Lib.decodeL s).2)
theorem alx (s : Str) (g : Value → Int) (hg : ∀ n, g (.int .i32 n) = n) : ∀ (f pos : Nat), (Conv.runesFrom ⟨s.toArray⟩ f pos #[]).toList.map g = rn f (s.drop pos)
  | 0, pos => by simp [Conv.runesFrom, rn]
  | f + 1, pos => by
    unfold Conv.runesFrom rn
    have hz : ByteArray.size ⟨s.toArray⟩ = s.length := by simp [ByteArray.size]
    by_cases h : pos < s.length
    · have hne : s.drop pos ≠ [] := by simp; omega
      have hd : Lib.decodeL (s.drop pos) = Utf8.decode ⟨s.toArray⟩ pos := by
        have := Lib.decodeL_drop ⟨s.toArray⟩ pos
        simpa using this
      rw [if_pos (by rw [hz]; exact h), if_neg hne, aa0 s g hg, alx s g hg f, hd, List.drop_drop]
      simp [hg]
    · have hne : s.drop pos = [] := by simp; omega
      rw [if_neg (by rw [hz]; exact h), if_pos hne]
      simp
theorem Xu (s : Str) : runes s = rn s.length s := by
 unfold runes
 rw [alx s _ (fun _ => rfl)]
 simp
def agH (c : Nat) : List UInt8 :=
 if c < 0x80 then [UInt8.ofNat c]
 else if c < 0x800 then [UInt8.ofNat (0xC0 + c / 64), UInt8.ofNat (0x80 + c % 64)]
 else if c < 0x10000 then [UInt8.ofNat (0xE0 + c / 4096), UInt8.ofNat (0x80 + c / 64 % 64), UInt8.ofNat (0x80 + c % 64)]
 else [UInt8.ofNat (0xF0 + c / 262144), UInt8.ofNat (0x80 + c / 4096 % 64), UInt8.ofNat (0x80 + c / 64 % 64), UInt8.ofNat (0x80 + c % 64)]
theorem aqb (r : Int) : zo r = agH (if Utf8.valid r then r.toNat else Utf8.runeError) := by
 unfold zo Utf8.encode agH
 generalize (if Utf8.valid r then r.toNat else Utf8.runeError) = c
 dsimp only
 by_cases h1 : c < 0x80
 ·rw [if_pos h1, if_pos h1]
 ·rw [if_neg h1, if_neg h1]
  by_cases h2 : c < 0x800
  ·rw [if_pos h2, if_pos h2]
  ·rw [if_neg h2, if_neg h2]
   by_cases h3 : c < 0x10000
   ·rw [if_pos h3, if_pos h3]
   ·rw [if_neg h3, if_neg h3]
theorem aqU (c : Nat) : 1 ≤ (agH c).length ∧ (agH c).length ≤ 4 := by
 unfold agH
 split
 ·simp
 ·split
  ·simp
  ·split <;> simp
theorem aoT (c : Int) : 1 ≤ (zo c).length ∧ (zo c).length ≤ 4 := by rw [aqb]; exact aqU _
theorem va (r : Nat) (h : r < 55296 ∨ 57343 < r) (h' : r ≤ 1114111) : Utf8.valid (r : Int) = true := by
  unfold Utf8.valid
  rw [Bool.or_eq_true]
  rcases h with h | h
  · left; rw [Bool.and_eq_true]
    exact ⟨decide_eq_true (by omega), decide_eq_true (by omega)⟩
  · right; rw [Bool.and_eq_true]
    exact ⟨decide_eq_true (by omega), decide_eq_true (by omega)⟩
theorem vc (r : Nat) (h : 55296 ≤ r) (h' : r ≤ 57343) : Utf8.valid (r : Int) = false := by
  unfold Utf8.valid
  rw [Bool.or_eq_false_iff, Bool.and_eq_false_iff, Bool.and_eq_false_iff]
  exact ⟨.inr (decide_eq_false (by omega)), .inl (decide_eq_false (by omega))⟩
theorem ajc (r : Nat) (h : r < 55296 ∨ 57343 < r) (h' : r ≤ 1114111) : zo (r : Int) = agH r := by
 rw [aqb, va r h h']
 rfl
theorem auU (r : Nat) (h : r < 128) : zo (r : Int) = [UInt8.ofNat r] := by
  rw [ajc r (by omega) (by omega), agH, if_pos h]
theorem auV (r : Nat) (h : 128 ≤ r) (h' : r < 2048) : zo (r : Int) = [UInt8.ofNat (192 + r / 64), UInt8.ofNat (128 + r % 64)] := by
  rw [ajc r (by omega) (by omega), agH, if_neg (by omega), if_pos h']
theorem auP (r : Nat) (h : 2048 ≤ r) (h' : r < 65536) (hv : r < 55296 ∨ 57343 < r) : zo (r : Int) = [UInt8.ofNat (224 + r / 4096), UInt8.ofNat (128 + r / 64 % 64), UInt8.ofNat (128 + r % 64)] := by
  rw [ajc r hv (by omega), agH, if_neg (by omega), if_neg (by omega), if_pos h']
theorem aup (r : Nat) (h : 65536 ≤ r) (h' : r ≤ 1114111) : zo (r : Int) = [UInt8.ofNat (240 + r / 262144), UInt8.ofNat (128 + r / 4096 % 64), UInt8.ofNat (128 + r / 64 % 64), UInt8.ofNat (128 + r % 64)] := by
  rw [ajc r (by omega) h', agH, if_neg (by omega), if_neg (by omega), if_neg (by omega)]
theorem au8 (r : Nat) (h : 55296 ≤ r) (h' : r ≤ 57343) : zo (r : Int) = [239, 191, 189] := by
 rw [aqb, vc r h h']
 simp only [Bool.false_eq_true, if_false, Utf8.runeError, agH]
 rfl
theorem ard (r : Nat) (h : r ≤ 1114111) : zo (r : Int) = Lib.encodeRune (r : Int) := by
  unfold Lib.encodeRune Lib.encodeRuneZ
  by_cases h1 : r < 128
  · rw [if_pos (show (0 : Int) ≤ (r : Int) ∧ (r : Int) ≤ 127 by omega), auU r h1]
    simp only [List.map_cons, List.map_nil, Int.toNat_natCast]
  · rw [if_neg (show ¬ ((0 : Int) ≤ (r : Int) ∧ (r : Int) ≤ 127) by omega)]
    by_cases h2 : r < 2048
    · rw [if_pos (show (128 : Int) ≤ (r : Int) ∧ (r : Int) ≤ 2047 by omega), auV r (by omega) h2]
      have a1 : (192 + (r : Int) / 64).toNat = 192 + r / 64 := by omega
      have a2 : (128 + (r : Int) % 64).toNat = 128 + r % 64 := by omega
      simp only [List.map_cons, List.map_nil, a1, a2]
    · rw [if_neg (show ¬ ((128 : Int) ≤ (r : Int) ∧ (r : Int) ≤ 2047) by omega)]
      by_cases hv : r < 55296 ∨ 57343 < r
      · by_cases h3 : r < 65536
        · rw [if_pos (show ((2048 : Int) ≤ (r : Int) ∧ (r : Int) < 55296) ∨ ((57343 : Int) < (r : Int) ∧ (r : Int) ≤ 65535) by omega), auP r (by omega) h3 hv]
          have a1 : (224 + (r : Int) / 4096).toNat = 224 + r / 4096 := by omega
          have a2 : (128 + (r : Int) / 64 % 64).toNat = 128 + r / 64 % 64 := by omega
          have a3 : (128 + (r : Int) % 64).toNat = 128 + r % 64 := by omega
          simp only [List.map_cons, List.map_nil, a1, a2, a3]
        · rw [if_neg (show ¬ (((2048 : Int) ≤ (r : Int) ∧ (r : Int) < 55296) ∨ ((57343 : Int) < (r : Int) ∧ (r : Int) ≤ 65535)) by omega), if_pos (show (65536 : Int) ≤ (r : Int) ∧ (r : Int) ≤ 1114111 by omega), aup r (by omega) h]
          have a1 : (240 + (r : Int) / 262144).toNat = 240 + r / 262144 := by omega
          have a2 : (128 + (r : Int) / 4096 % 64).toNat = 128 + r / 4096 % 64 := by omega
          have a3 : (128 + (r : Int) / 64 % 64).toNat = 128 + r / 64 % 64 := by omega
          have a4 : (128 + (r : Int) % 64).toNat = 128 + r % 64 := by omega
          simp only [List.map_cons, List.map_nil, a1, a2, a3, a4]
      · rw [if_neg (show ¬ (((2048 : Int) ≤ (r : Int) ∧ (r : Int) < 55296) ∨ ((57343 : Int) < (r : Int) ∧ (r : Int) ≤ 65535)) by omega), if_neg (show ¬ ((65536 : Int) ≤ (r : Int) ∧ (r : Int) ≤ 1114111) by omega), au8 r (by omega) (by omega)]
        rfl
theorem acU : ∀ (f : Nat) (s : Str), s.length ≤ f → (Lib.validD s = true → zN (rn f s) = s) ∧ (Lib.validD s = false → s.length < (zN (rn f s)).length)
  | 0, s, h => by
    have : s = [] := List.eq_nil_of_length_eq_zero (by omega)
    subst this
    exact ⟨fun _ => rfl, fun h => by rw [Lib.validD_nil] at h; cases h⟩
  | f + 1, s, h => by
    unfold rn
    by_cases hne : s = []
    · subst hne
      exact ⟨fun _ => by simp [zN], fun h => by rw [Lib.validD_nil] at h; cases h⟩
    · have hw := Lib.decodeL_width s
      have hl := Lib.decodeL_le s hne
      obtain ⟨ih1, ih2⟩ := acU f (s.drop (Lib.decodeL s).2) (by simp; omega)
      have e : zN (((Lib.decodeL s).1 : Int) :: rn f (s.drop (Lib.decodeL s).2)) = zo ((Lib.decodeL s).1 : Int) ++ zN (rn f (s.drop (Lib.decodeL s).2)) := by simp [zN]
      rw [if_neg hne, e, Lib.validD_step s hne]
      by_cases hb : (Lib.decodeL s).1 = 65533 ∧ (Lib.decodeL s).2 = 1
      · rw [if_pos hb]
        refine ⟨fun h => (by cases h), fun _ => ?_⟩
        have e3 : (zo ((Lib.decodeL s).1 : Int)).length = 3 := by rw [hb.1]; rfl
        have e4 : (s.drop (Lib.decodeL s).2).length ≤ (zN (rn f (s.drop (Lib.decodeL s).2))).length := by
          cases hv : Lib.validD (s.drop (Lib.decodeL s).2) with
          | true => rw [ih1 hv]; exact Nat.le_refl _
          | false => exact Nat.le_of_lt (ih2 hv)
        rw [List.length_append, e3]
        rw [List.length_drop, hb.2] at e4
        rw [hb.2]
        omega
      · rw [if_neg hb]
        have e5 : zo ((Lib.decodeL s).1 : Int) = s.take (Lib.decodeL s).2 := by rw [ard _ (Lib.decodeL_rune s)]; exact Lib.encode_decode s hne hb
        refine ⟨fun hv => by rw [ih1 hv, e5, List.take_append_drop], fun hv => ?_⟩
        have := ih2 hv
        rw [List.length_append, e5, List.length_take]
        rw [List.length_drop] at this
        omega
theorem Wj {s : Str} (h : Lib.validD s = true) : zN (runes s) = s := by rw [Xu]; exact (acU _ s (Nat.le_refl _)).1 h
theorem valid_eq (s : Str) : (zN (runes s) == s) = Lib.validD s := by
 rw [Xu]
 cases h : Lib.validD s with
 | true => simp [(acU _ s (Nat.le_refl _)).1 h]
 | false =>
  have := (acU _ s (Nat.le_refl _)).2 h
  rw [beq_eq_false_iff_ne]
  intro e
  rw [e] at this
  omega
theorem aae (b : ByteArray) : ∀ (n i : Nat) (acc : Array Value), (Conv.runesFrom b n i acc).toList.length = acc.toList.length + Lib.runeCountFrom b n i
 | 0, i, acc => by simp [Conv.runesFrom, Lib.runeCountFrom]
 | n + 1, i, acc => by
  unfold Conv.runesFrom Lib.runeCountFrom
  split
  ·rename_i h
   rw [aae b n _ _]
   simp; omega
  ·rfl
theorem KC (s : Str) : (runes s).length = afu s := by
 unfold runes afu Lib.runeCountL Lib.runeCount
 rw [List.length_map, aae]
 simp [ByteArray.size]
end Go.Proofs.YtclohbgnaopjfaaDoor
namespace Go.Proofs.YtclohbgnaopjfaaDoor
set_option linter.unusedSimpArgs false
set_option linter.unusedVariables false
open Go
theorem aps : ∀ (l : List za) (last : Option za), (∀ x ∈ l, qA x = true) → vP l → (∀ x y, last = some x → l.head? = some y → wQ x y = false) → xu last l = true
  | [], last, _, _, _ => abb last
  | y :: l, last, hf, hj, hl => by
    rw [Wx, hf y (by simp)]
    have h2 : xu (some y) l = true := by
      refine aps l (some y) (fun x hx => hf x (by simp [hx])) ?_ ?_
      · cases l with
        | nil => trivial
        | cons z l => exact hj.2
      · intro x z hx hz
        cases hx
        cases l with
        | nil => cases hz
        | cons z' l => cases hz; exact hj.1
    rw [h2]
    cases last with
    | none => rfl
    | some x => simp [hl x y rfl rfl]
theorem alN {n : za} (h : qA n = true) (ht : isT n = false) : ∀ k ∈ n.Kids, qA k = true := by
  have key : ∀ (l : List za) (last : Option za), xu last l = true → ∀ k ∈ l, qA k = true := by
    intro l
    induction l with
    | nil => simp
    | cons y l ih =>
      intro last h k hk
      rw [Wx, Bool.and_eq_true, Bool.and_eq_true] at h
      rcases List.mem_cons.1 hk with rfl | hk
      · exact h.1.1
      · exact ih _ h.2 k hk
  rw [jl, if_neg (by simp [ht])] at h
  simp only [Bool.and_eq_true] at h
  exact key _ _ h.2
end Go.Proofs.YtclohbgnaopjfaaDoor
namespace Go.Proofs.YtclohbgnaopjfaaDoor
set_option linter.unusedSimpArgs false
set_option linter.unusedVariables false
open Go
theorem aeu (s t : Str) (hne : s ≠ []) (hv : ¬ ((Lib.decodeL s).1 = 65533 ∧ (Lib.decodeL s).2 = 1)) : Lib.decodeL (s.take (Lib.decodeL s).2 ++ t) = Lib.decodeL s := by
  have hl : 0 < s.length := List.length_pos_iff.2 hne
  have hS := Lib.decodeL_N s
  rcases Lib.decodeN_shape s.length (s.getD 0 0).toNat (s.getD 1 0).toNat (s.getD 2 0).toNat (s.getD 3 0).toNat with ⟨h1, e⟩ | ⟨h1, h2, h3, h4, e⟩ | ⟨h1, h2, h3, h4, h5, h6, e⟩ | ⟨h1, h2, h3, h4, h5, h6, h7, e⟩ | e
  · rw [hS, e]
    simp only
    rw [Lib.takeA s hl, Lib.decodeL_N]
    simp only [List.cons_append, List.getD_cons_zero]
    unfold Lib.decodeN
    rw [if_pos h1]
  · rw [hS, e]
    simp only
    rw [Lib.takeB s h2, Lib.decodeL_N]
    simp only [List.cons_append, List.nil_append, List.getD_cons_zero, List.getD_cons_succ]
    unfold Lib.decodeN
    rw [if_neg (by omega), if_pos ⟨h1, by simp, h3⟩, if_pos (by omega)]
  · rw [hS, e]
    simp only
    rw [Lib.takeC s h2, Lib.decodeL_N]
    simp only [List.cons_append, List.nil_append, List.getD_cons_zero, List.getD_cons_succ]
    unfold Lib.decodeN
    rw [if_neg (by omega), if_neg (by omega), if_pos ⟨h1, ⟨by simp, h3⟩, by simp, h4⟩, if_pos ⟨by omega, by omega⟩]
  · rw [hS, e]
    simp only
    rw [Lib.takeD s h2, Lib.decodeL_N]
    simp only [List.cons_append, List.nil_append, List.getD_cons_zero, List.getD_cons_succ]
    unfold Lib.decodeN
    rw [if_neg (by omega), if_neg (by omega), if_neg (by omega), if_pos ⟨h1, ⟨by simp, h3⟩, ⟨by simp, h4⟩, by simp, h5⟩, if_pos ⟨by omega, by omega⟩]
  · rw [hS, e] at hv
    simp at hv
def VR (c : Int) : Prop := (∀ t : Str, runes (zo c ++ t) = c :: runes t) ∧ ∀ t : Str, Lib.validD (zo c ++ t) = Lib.validD t
theorem alj : ∀ (f g : Nat) (s : Str), s.length ≤ f → s.length ≤ g → rn f s = rn g s
  | 0, 0, s, _, _ => rfl
  | 0, g + 1, s, hf, _ => by
    have : s = [] := List.eq_nil_of_length_eq_zero (by omega)
    subst this
    simp [rn]
  | f + 1, 0, s, _, hg => by
    have : s = [] := List.eq_nil_of_length_eq_zero (by omega)
    subst this
    simp [rn]
  | f + 1, g + 1, s, hf, hg => by
    unfold rn
    by_cases h : s = []
    · simp [h]
    · have h1 := Lib.decodeL_width s
      have h2 := Lib.decodeL_le s h
      rw [if_neg h, if_neg h, alj f g _ (by simp; omega) (by simp; omega)]
theorem V4 : runes [] = [] := by rw [Xu]; rfl
theorem aaW (s : Str) (hne : s ≠ []) : runes s = ((Lib.decodeL s).1 : Int) :: runes (s.drop (Lib.decodeL s).2) := by
  rw [Xu, Xu]
  have h1 := Lib.decodeL_width s
  have h2 := Lib.decodeL_le s hne
  have hl : 0 < s.length := List.length_pos_iff.2 hne
  obtain ⟨n, hn⟩ : ∃ n, s.length = n + 1 := ⟨s.length - 1, by omega⟩
  rw [hn, rn, if_neg hne, alj n _ _ (by simp; omega) (Nat.le_refl _)]
theorem arZ (s : Str) (hne : s ≠ []) (hv : ¬ ((Lib.decodeL s).1 = 65533 ∧ (Lib.decodeL s).2 = 1)) : VR ((Lib.decodeL s).1 : Int) ∧ zo ((Lib.decodeL s).1 : Int) = s.take (Lib.decodeL s).2 := by
  have e5 : zo ((Lib.decodeL s).1 : Int) = s.take (Lib.decodeL s).2 := by rw [ard _ (Lib.decodeL_rune s)]; exact Lib.encode_decode s hne hv
  have h1 := Lib.decodeL_width s
  have h2 := Lib.decodeL_le s hne
  have hlen : (s.take (Lib.decodeL s).2).length = (Lib.decodeL s).2 := by rw [List.length_take]; omega
  have hdr : ∀ t : Str, (s.take (Lib.decodeL s).2 ++ t).drop (Lib.decodeL s).2 = t := by
    intro t
    rw [List.drop_append_of_le_length (by omega), List.drop_of_length_le (by omega)]
    rfl
  refine ⟨⟨fun t => ?_, fun t => ?_⟩, e5⟩
  · have hne' : zo ((Lib.decodeL s).1 : Int) ++ t ≠ [] := by
      intro h
      have := congrArg List.length h
      rw [List.length_append, e5, hlen, List.length_nil] at this
      omega
    rw [aaW _ hne', e5, aeu s t hne hv, hdr]
  · have hne' : zo ((Lib.decodeL s).1 : Int) ++ t ≠ [] := by
      intro h
      have := congrArg List.length h
      rw [List.length_append, e5, hlen, List.length_nil] at this
      omega
    rw [Lib.validD_step _ hne', e5, aeu s t hne hv, if_neg hv, hdr]
theorem asY : ∀ (f : Nat) (s : Str), s.length ≤ f → Lib.validD s = true → ∀ c ∈ runes s, VR c
  | 0, s, h, _, c, hc => by
    have : s = [] := List.eq_nil_of_length_eq_zero (by omega)
    subst this
    rw [V4] at hc
    cases hc
  | f + 1, s, h, hv, c, hc => by
    by_cases hne : s = []
    · subst hne
      rw [V4] at hc
      cases hc
    · rw [Lib.validD_step s hne] at hv
      by_cases hb : (Lib.decodeL s).1 = 65533 ∧ (Lib.decodeL s).2 = 1
      · rw [if_pos hb] at hv; cases hv
      · rw [if_neg hb] at hv
        have h1 := Lib.decodeL_width s
        rw [aaW s hne] at hc
        rcases List.mem_cons.1 hc with rfl | hc
        · exact (arZ s hne hb).1
        · exact asY f (s.drop (Lib.decodeL s).2) (by simp; omega) hv c hc
theorem akh {s : Str} (h : Lib.validD s = true) : ∀ c ∈ runes s, VR c := asY s.length s (Nat.le_refl _) h
theorem Q9 (c : Int) (l : List Int) : zN (c :: l) = zo c ++ zN l := by simp [zN]
theorem abU (a b : List Int) : zN (a ++ b) = zN a ++ zN b := by simp [zN]
theorem adh : ∀ (l : List Int) (t : Str), (∀ c ∈ l, VR c) → runes (zN l ++ t) = l ++ runes t ∧ Lib.validD (zN l ++ t) = Lib.validD t
 | [], t, _ => by simp [zN]
 | c :: l, t, h => by
  obtain ⟨h1, h2⟩ := adh l t fun x hx => h x (by simp [hx])
  obtain ⟨h3, h4⟩ := h c (by simp)
  rw [Q9, List.append_assoc, h3, h1, h4, h2]
  simp
theorem aiL {l : List Int} (h : ∀ c ∈ l, VR c) : runes (zN l) = l ∧ Lib.validD (zN l) = true := by
 have := adh l [] h
 simpa [V4, Lib.validD_nil] using this
theorem ado {s : Str} (t : Str) (h : Lib.validD s = true) : runes (s ++ t) = runes s ++ runes t ∧ Lib.validD (s ++ t) = Lib.validD t := by
 have := adh (runes s) t (akh h)
 rwa [Wj h] at this
end Go.Proofs.YtclohbgnaopjfaaDoor
namespace Go.Proofs.YtclohbgnaopjfaaDoor
set_option linter.unusedSimpArgs false
set_option linter.unusedVariables false
open Go
inductive It where
 | sgn (c : Int) (m : List Str)
 | nod (n : za)
def itN (n : za) : List It := if isT n = true then (runes n.Text).map (fun c => It.sgn c n.Marks) else [.nod n]
def items : List za → List It
 | [] => []
 | n :: l => itN n ++ items l
theorem acY (a b : List za) : items (a ++ b) = items a ++ items b := by
 induction a with
 | nil => rfl
 | cons n a ih => simp only [List.cons_append, items, ih, List.append_assoc]
def aog : It → Nat
 | .sgn _ _ => 1
 | .nod n => kz n
def szI : List It → Nat
 | [] => 0
 | i :: l => aog i + szI l
theorem asE (a b : List It) : szI (a ++ b) = szI a + szI b := by
 induction a with
 | nil => simp [szI]
 | cons n a ih => simp only [List.cons_append, szI, ih]; omega
theorem arO (cs : List Int) (m : List Str) : szI (cs.map fun c => It.sgn c m) = cs.length := by
 induction cs with
 | nil => rfl
 | cons c cs ih => simp only [List.map_cons, szI, aog, ih, List.length_cons]; omega
theorem ary (n : za) : szI (itN n) = kz n := by
 unfold itN
 rw [xz]
 cases h : isT n with
 | true => simp only [if_true]; rw [arO, KC]
 | false => simp only [Bool.false_eq_true, if_false, szI, aog]; rw [xz, h]; simp
theorem aoQ (l : List za) : szI (items l) = zO l := by
 induction l with
 | nil => rfl
 | cons n l ih => simp only [items, zO, asE, ary, ih]
theorem akI : ∀ i : It, (∀ n, i = .nod n → isT n = false) → 1 ≤ aog i
 | .sgn _ _, _ => Nat.le_refl _
 | .nod n, h => by
  have := h n rfl
  simp only [aog]
  rw [xz, this]
  simp
  omega
def Gd (n : za) : Prop := isT n = true → Lib.validD n.Text = true ∧ n.zt = [] ∧ n.Kids = []
theorem Gd.plain {n : za} (h : Gd n) : Plain n := fun ht => (h ht).2
theorem Yr {n : za} (h : isT n = true) : n.Kind = jq := by simpa [isT] using h
abbrev tN (t : Str) (m : List Str) : za := ⟨jq, t, m, [], []⟩
theorem atr {n : za} (h : Gd n) (ht : isT n = true) : n = tN n.Text n.Marks := by
 have h1 := Yr ht
 obtain ⟨_, h2, h3⟩ := h ht
 cases n
 simp_all
def asz : It → za
 | .sgn c m => tN (zo c) m
 | .nod n => n
def canon (l : List It) : List za := WW (l.map asz)
theorem ahG (m : List Str) : ∀ (cs : List Int) (o : List za), ((cs.map fun c => It.sgn c m).map asz).foldl joinStep o = joinStep o (tN (zN cs) m)
 | [], o => by
  have : joinStep o (tN (zN []) m) = o := by unfold joinStep; rfl
  rw [this]
  rfl
 | c :: cs, o => by
  rw [List.map_cons, List.map_cons, List.foldl_cons, ahG m cs, Q9]
  exact ajE o (tN (zo c) m) (tN (zN cs) m) rfl rfl rfl rfl rfl
theorem apv {n : za} (h : Gd n) (o : List za) : ((itN n).map asz).foldl joinStep o = joinStep o n := by
 unfold itN
 cases ht : isT n with
 | true =>
  simp only [if_true]
  rw [ahG, Wj (h ht).1, ← atr h ht]
 | false => rfl
theorem agm : ∀ (l o : List za), (∀ x ∈ l, Gd x) → ((items l).map asz).foldl joinStep o = l.foldl joinStep o
  | [], o, _ => rfl
  | n :: l, o, h => by
    rw [items, List.map_append, List.foldl_append, apv (h n (by simp)), agm l _ fun x hx => h x (by simp [hx])]
    rfl
theorem al9 {l : List za} (h : ∀ x ∈ l, Gd x) : WW l = canon (items l) := (agm l [] h).symm
theorem aga (o : List za) (n : za) (ho : ∀ x ∈ o, Gd x) (hn : Gd n) : items (joinStep o n) = items o ++ itN n ∧ ∀ x ∈ joinStep o n, Gd x := by
  have e1 : ∀ x, items [x] = itN x := fun x => by simp [items]
  have plain : items (o ++ [n]) = items o ++ itN n ∧ ∀ x ∈ o ++ [n], Gd x := by
    refine ⟨by rw [acY, e1], fun x hx => ?_⟩
    rcases List.mem_append.1 hx with hx | hx
    · exact ho x hx
    · simp at hx; rw [hx]; exact hn
  by_cases hc : (isT n && n.Text == []) = true
  · have e : joinStep o n = o := by unfold joinStep; rw [if_pos hc]
    rw [e]
    simp only [Bool.and_eq_true, beq_iff_eq] at hc
    refine ⟨?_, ho⟩
    unfold itN
    rw [if_pos hc.1, hc.2, V4]
    simp
  · rcases wX o with rfl | ⟨o, x, rfl⟩
    · rw [vv, if_neg hc]
      simpa using plain
    · rw [wB, if_neg hc]
      by_cases hd : (isT n && isT x && decide (x.Marks = n.Marks)) = true
      · rw [if_pos hd]
        simp only [Bool.and_eq_true, decide_eq_true_eq] at hd
        obtain ⟨⟨h1, h2⟩, h3⟩ := hd
        have hx := ho x (by simp) h2
        have hn' := hn h1
        have ht : isT ({ n with Text := x.Text ++ n.Text } : za) = true := h1
        obtain ⟨r1, r2⟩ := ado n.Text hx.1
        refine ⟨?_, fun y hy => ?_⟩
        · rw [acY, acY, e1, e1, List.append_assoc]
          congr 1
          unfold itN
          rw [if_pos ht, if_pos h1, if_pos h2]
          simp only [r1, List.map_append, h3]
        · rcases List.mem_append.1 hy with hy | hy
          · exact ho y (by simp [hy])
          · simp only [List.mem_singleton] at hy
            rw [hy]
            exact fun _ => ⟨by simp only [r2]; exact hn'.1, hn'.2⟩
      · rw [if_neg hd]
        simpa [List.append_assoc] using plain
def Jnd (l : List za) : Prop := vP l ∧ ∀ x ∈ l, isT x = true → x.Text ≠ []
theorem aj5 {a : za} {l : List za} (h : vP (a :: l)) : vP l := by
 cases l with
 | nil => trivial
 | cons b l => exact h.2
theorem ano : ∀ (o : List za) (x n : za) (l : List za), vP (o ++ x :: n :: l) → wQ x n = false
 | [], x, n, l, h => h.1
 | y :: o, x, n, l, h => ano o x n l (aj5 (a := y) (l := o ++ x :: n :: l) h)
theorem ahP : ∀ (l o : List za), vP (o ++ l) → (∀ x ∈ l, isT x = true → x.Text ≠ []) → l.foldl joinStep o = o ++ l
  | [], o, _, _ => by simp
  | n :: l, o, h, hl => by
    have hn := hl n (by simp)
    have hc : ¬ (isT n && n.Text == []) = true := by
      simp only [Bool.and_eq_true, beq_iff_eq]
      rintro ⟨h1, h2⟩
      exact hn h1 h2
    have e : joinStep o n = o ++ [n] := by
      rcases wX o with rfl | ⟨o, x, rfl⟩
      · rw [vv, if_neg hc]; rfl
      · rw [wB, if_neg hc]
        have ha := ano o x n l (by simpa using h)
        unfold wQ at ha
        have : (isT n && isT x && decide (x.Marks = n.Marks)) = false := by rw [Bool.and_comm (isT n)]; exact ha
        rw [this]
        simp
    rw [List.foldl_cons, e, ahP l _ (by simpa using h) fun x hx => hl x (by simp [hx])]
    simp
theorem Jnd.join {l : List za} (h : Jnd l) : WW l = l := by
 have := ahP l [] h.1 h.2
 simpa [WW] using this
theorem Jnd.canon {l : List za} (h : Jnd l) (hg : ∀ x ∈ l, Gd x) : l = canon (items l) := by
 rw [← al9 hg, h.join]
theorem asn {a b : List za} (ha : Jnd a) (hb : Jnd b) (ga : ∀ x ∈ a, Gd x) (gb : ∀ x ∈ b, Gd x) (h : items a = items b) : a = b := by
 rw [ha.canon ga, hb.canon gb, h]
theorem aio : ∀ (a b : List za), vP (a ++ b) → vP a
 | [], _, _ => trivial
 | [x], _, _ => trivial
 | x :: y :: a, b, h => ⟨h.1, aio (y :: a) b h.2⟩
theorem ail : ∀ (a b : List za), vP (a ++ b) → vP b
 | [], _, h => h
 | x :: a, b, h => ail a b (aj5 (a := x) (l := a ++ b) h)
theorem ak8 : ∀ (a : List za) (x y : za), vP (a ++ [x]) → (∀ z, wQ z y = wQ z x) → vP (a ++ [y])
 | [], _, _, _, _ => trivial
 | [z], x, y, h, e => ⟨by rw [e]; exact h.1, trivial⟩
 | z :: w :: a, x, y, h, e => ⟨h.1, ak8 (w :: a) x y h.2 e⟩
theorem akM (x y : za) (l : List za) (h : vP (x :: l)) (e : ∀ z, wQ y z = wQ x z) : vP (y :: l) := by
 cases l with
 | nil => trivial
 | cons z l => exact ⟨by rw [e]; exact h.1, h.2⟩
end Go.Proofs.YtclohbgnaopjfaaDoor
namespace Go.Proofs.YtclohbgnaopjfaaDoor
set_option linter.unusedSimpArgs false
set_option linter.unusedVariables false
open Go
theorem anT {α : Type} (o : List α) (x y : α) : wr (o ++ [x]) (o.length : Int) y = some (o ++ [y]) := by
  unfold wr
  rw [if_pos (by simp; omega)]
  simp
theorem alb : ∀ (l : List za) (i : Int) (o : List za), zS o + zS l ≤ 1099511627776 → wF l i o = some (l.foldl joinStep o)
  | [], i, o, _ => by simp [wF]
  | n :: l, i, o, hw => by
    simp only [zS] at hw
    have hjw := XY o n
    have ih := alb l (i + 1) (joinStep o n) (by omega)
    have hol := kH o
    have eapp : app 104 o [n] = some (o ++ [n]) := kQ (by simp; omega)
    rw [wF, List.foldl_cons, Q5]
    simp only [Option.bind_some]
    rcases wX o with rfl | ⟨o, x, rfl⟩
    · rw [vv] at ih ⊢
      have hneg : decide (w64 ((([] : List za).length : Int) - 1) ≥ 0) = false := by rw [kG (by simp)]; simp
      by_cases ht : isT n = true
      · by_cases he : n.Text = []
        · simp only [ht, he, Bool.true_and, beq_self_eq_true, if_true] at ih ⊢
          exact ih
        · have he' : (n.Text == []) = false := by simp [he]
          simp only [ht, he', Bool.true_and, Bool.false_eq_true, if_false] at ih ⊢
          simp only [if_true, hneg, Bool.false_eq_true, if_false, eapp, Option.bind_some]
          exact ih
      · have ht2 : isT n = false := by simpa using ht
        simp only [ht2, Bool.false_and, Bool.false_eq_true, if_false] at ih ⊢
        simp only [hneg, Bool.false_eq_true, if_false, eapp, Option.bind_some]
        exact ih
    · rw [wB] at ih ⊢
      have hw1 : w64 (((o ++ [x]).length : Int) - 1) = (o.length : Int) := by
        rw [kG (by simp at hol ⊢; omega)]
        simp
      have hx : rd (o ++ [x]) (o.length : Int) = some x := JQ o [] x
      have hpos : decide ((o.length : Int) ≥ 0) = true := by simp
      have hwx : nwt x ≤ zS (o ++ [x]) := Qb (by simp)
      have hx1 := wH x
      have hn1 := wH n
      have hxm := ae6 x.Marks
      have hal : wQ x n = (isT n && isT x && decide (x.Marks = n.Marks)) := by unfold wQ; rw [Bool.and_comm (isT x)]
      rw [hw1, hx]
      simp only [hpos, if_true, Option.bind_some]
      rw [akK x n (by omega), anT]
      simp only [Option.bind_some, hal]
      by_cases ht : isT n = true
      · by_cases he : n.Text = []
        · simp only [ht, he, Bool.true_and, beq_self_eq_true, if_true] at ih ⊢
          exact ih
        · have he' : (n.Text == []) = false := by simp [he]
          simp only [ht, he', Bool.true_and, Bool.false_eq_true, if_false, if_true] at ih ⊢
          cases hc : (isT x && decide (x.Marks = n.Marks)) with
          | true =>
            simp only [hc, if_true] at ih ⊢
            rw [wI (by omega)]
            exact ih
          | false =>
            simp only [hc, Bool.false_eq_true, if_false] at ih ⊢
            rw [eapp]
            simp only [Option.bind_some, List.append_assoc, List.cons_append, List.nil_append]
            exact ih
      · have ht2 : isT n = false := by simpa using ht
        simp only [ht2, Bool.false_and, Bool.false_eq_true, if_false] at ih ⊢
        rw [eapp]
        simp only [Option.bind_some, List.append_assoc, List.cons_append, List.nil_append]
        exact ih
theorem aq3 (l : List za) (h : zS l ≤ 1099511627776) : QS l = some (WW l) := by
  have hl := kH l
  unfold QS
  rw [wI (by omega), alb l 0 [] (by simpa [zS] using h)]
  rfl
end Go.Proofs.YtclohbgnaopjfaaDoor
namespace Go.Proofs.YtclohbgnaopjfaaDoor
set_option linter.unusedSimpArgs false
set_option linter.unusedVariables false
open Go
def up (q : List Nat) : List Int := q.map fun (i : Nat) => (i : Int)
theorem atD : up [] = [] := rfl
theorem anF (i : Nat) (q : List Nat) : up (i :: q) = (i : Int) :: up q := rfl
theorem amc (p q : List Nat) : up (p ++ q) = up p ++ up q := by simp [up]
theorem J2 (q : List Nat) : (up q).length = q.length := by simp [up]
theorem atf {p q : List Nat} (h : up p = up q) : p = q := by
 induction p generalizing q with
 | nil => cases q with
  | nil => rfl
  | cons b q => simp [up] at h
 | cons a p ih => cases q with
  | nil => simp [up] at h
  | cons b q =>
   simp only [anF, List.cons.injEq] at h
   rw [ih h.2, Int.ofNat_inj.1 h.1]
abbrev arz : za := { Kind := ([] : Str), Text := ([] : Str), Marks := [], zt := [], Kids := [] }
inductive At : za → List Nat → za → Nat → Prop
 | nil (n : za) : At n [] n 0
 | cons (n : za) (i : Nat) (k : za) (q : List Nat) (m : za) (a : Nat) (hi : n.Kids[i]? = some k) (hn : isT n = false) (hk : isT k = false) (h : At k q m a) : At n (i :: q) m (zO (n.Kids.take i) + 1 + a)
theorem V6 {l : List za} {i : Nat} {k : za} (h : l[i]? = some k) : l = l.take i ++ k :: l.drop (i + 1) := by
 obtain ⟨hi, rfl⟩ := List.getElem?_eq_some_iff.1 h
 simp
theorem aor {l : List za} {i : Nat} {k : za} (h : l[i]? = some k) : zO l = zO (l.take i) + kz k + zO (l.drop (i + 1)) := by
 conv => lhs; rw [V6 h]
 rw [al5, zO]; omega
theorem anG {l : List za} {i : Nat} {k : za} (h : l[i]? = some k) : zS l = zS (l.take i) + nwt k + zS (l.drop (i + 1)) := by
 conv => lhs; rw [V6 h]
 rw [Zd, zS]; omega
theorem At.avB {n : za} {q m a} (h : At n q m a) (hn : isT n = false) : isT m = false := by
 induction h with
 | nil => exact hn
 | cons n i k q m a hi hn' hk h ih => exact ih hk
theorem At.sizes {n : za} {q m a} (h : At n q m a) : a + zO m.Kids ≤ zO n.Kids := by
 induction h with
 | nil => omega
 | cons n i k q m a hi hn hk h ih =>
  have h1 := aor hi
  have h2 := Jd hk
  omega
theorem At.len {n : za} {q m a} (h : At n q m a) : q.length ≤ a := by
 induction h with
 | nil => simp
 | cons n i k q m a hi hn hk h ih => simp only [List.length_cons]; omega
theorem At.wt {n : za} {q m a} (h : At n q m a) : nwt m ≤ nwt n := by
 induction h with
 | nil => omega
 | cons n i k q m a hi hn hk h ih =>
  have h1 := anG hi
  have h2 := ZQ n
  omega
theorem At.dep {n : za} {q m a} (h : At n q m a) : Qk m ≤ Qk n := by
 induction h with
 | nil => omega
 | cons n i k q m a hi hn hk h ih =>
  have h1 := yc (List.mem_of_getElem? hi)
  have h2 := yw n
  omega
theorem At.snoc {n : za} {q m a} (h : At n q m a) {i k} (hi : m.Kids[i]? = some k) (hm : isT m = false) (hk : isT k = false) : At n (q ++ [i]) k (a + zO (m.Kids.take i) + 1) := by
 induction h with
 | nil n =>
  have := At.cons n i k [] k 0 hi hm hk (.nil k)
  simpa using this
 | cons n j x q m a hj hn hx h ih =>
  have := At.cons n j x _ _ _ hj hn hx (ih hi hm)
  have e : zO (n.Kids.take j) + 1 + a + zO (m.Kids.take i) + 1 = zO (n.Kids.take j) + 1 + (a + zO (m.Kids.take i) + 1) := by omega
  rw [e]
  exact this
theorem At.atb {n : za} : ∀ {q : List Nat} {i k a}, At n (q ++ [i]) k a → ∃ m b, At n q m b ∧ m.Kids[i]? = some k ∧ isT m = false ∧ isT k = false ∧ a = b + zO (m.Kids.take i) + 1 := by
 intro q
 induction q generalizing n with
 | nil =>
  intro i k a h
  cases h with
  | cons _ _ x _ _ a hi hn hk h =>
   cases h
   exact ⟨n, 0, .nil n, hi, hn, hk, by omega⟩
 | cons j q ih =>
  intro i k a h
  cases h with
  | cons _ _ x _ _ a hi hn hk h =>
   obtain ⟨m, b, h1, h2, h3, h4, h5⟩ := ih h
   exact ⟨m, _, .cons n j x q m b hi hn hk h1, h2, h3, h4, by omega⟩
end Go.Proofs.YtclohbgnaopjfaaDoor
namespace Go.Proofs.YtclohbgnaopjfaaDoor
set_option linter.unusedSimpArgs false
set_option linter.unusedVariables false
open Go
theorem ap3 {n : za} {q m a} (h : At n q m a) : ∀ v, qw (up q) v n = some (.inr m) := by
 induction h with
 | nil n => intro v; rfl
 | cons n i k q m a hi hn hk h ih =>
  intro v
  have hl := (List.getElem?_eq_some_iff.1 hi).1
  have h1 : decide ((i : Int) < 0) = false := by simp
  have h2 : decide ((i : Int) ≥ (n.Kids.length : Int)) = false := by simp; omega
  rw [anF, qw]
  simp only [Wd, h1, h2, hn, Bool.false_eq_true, if_false, VJ hi, Option.bind_some, ih]
theorem Yi {n : za} {q m a} (h : At n q m a) (hm : isT m = false) (hq : q.length ≤ 9223372036854775807) : kS n (up q) = some (m, 0) := by
 unfold kS
 rw [J2, wI hq, ap3 h]
 simp only [Option.bind_some, Wd, hm, Bool.false_eq_true, if_false]
def ajh (n : za) (s : qU) (pos : Nat) : Prop :=
 ∃ q m a idx off, s = ⟨up q, ((idx : Nat) : Int), ((off : Nat) : Int)⟩ ∧ At n q m a ∧ isT m = false ∧ idx ≤ m.Kids.length ∧ a + zO (m.Kids.take idx) + off = pos ∧ (∀ k, m.Kids[idx]? = some k → off < kz k ∧ (0 < off → isT k = true)) ∧ (idx = m.Kids.length → off = 0)
theorem agO (path : List Int) (hp : path.length ≤ 1099511627776) : ∀ (suf : List za) (i pos : Nat), zS suf ≤ 1099511627776 → pos ≤ 1099511627776 → i + suf.length ≤ 9223372036854775807 →
    (zO suf ≤ pos ∧ zY path suf (i : Int) (pos : Int) = some (.inr (.inr ()))) ∨
    ∃ a k b r, suf = a ++ k :: b ∧ pos = zO a + r ∧ r < kz k ∧
      (((isT k = true ∨ r = 0) ∧ zY path suf (i : Int) (pos : Int) = some (.inl (⟨path, ((i + a.length : Nat) : Int), ((r : Nat) : Int)⟩, 0))) ∨
       (isT k = false ∧ 0 < r ∧ zY path suf (i : Int) (pos : Int) = some (.inr (.inl (((r - 1 : Nat) : Int), k, path ++ [((i + a.length : Nat) : Int)])))))
  | [], i, pos, _, _, _ => .inl ⟨by simp [zO], rfl⟩
  | y :: suf, i, pos, hw, hpos, hi => by
    simp only [zS] at hw
    have hy := aha y
    by_cases h : kz y ≤ pos
    · have step : zY path (y :: suf) (i : Int) (pos : Int) = zY path suf ((i + 1 : Nat) : Int) ((pos - kz y : Nat) : Int) := by
        rw [zY, size_eq y (by omega)]
        have : decide ((pos : Int) ≥ (kz y : Int)) = true := by simp; omega
        simp only [Option.bind_some, this, if_true]
        rw [kG (by omega)]
        congr 1
        omega
      simp only [List.length_cons] at hi
      rcases agO path hp suf (i + 1) (pos - kz y) (by omega) (by omega) (by omega) with ⟨h1, h2⟩ | ⟨a, k, b, r, h1, h2, h3, h4⟩
      · left
        exact ⟨by simp only [zO]; omega, by rw [step, h2]⟩
      · right
        have e : i + 1 + a.length = i + (y :: a).length := by simp; omega
        rw [e] at h4
        exact ⟨y :: a, k, b, r, by rw [h1]; rfl, by simp only [zO]; omega, h3, by rw [step]; exact h4⟩
    · right
      have hd : decide ((pos : Int) ≥ (kz y : Int)) = false := by simp; omega
      refine ⟨[], y, suf, pos, rfl, by simp [zO], by omega, ?_⟩
      rw [zY, size_eq y (by omega)]
      simp only [Option.bind_some, hd, Bool.false_eq_true, if_false, List.length_nil, Nat.add_zero]
      by_cases ht : isT y = true
      · left
        exact ⟨.inl ht, by simp only [Wd, ht, if_true]⟩
      · have ht' : isT y = false := by simpa using ht
        simp only [Wd, ht', Bool.false_eq_true, if_false]
        by_cases h0 : pos = 0
        · left
          subst h0
          exact ⟨.inr rfl, by simp⟩
        · right
          have : ((pos : Int) == 0) = false := by simp; omega
          refine ⟨trivial, by omega, ?_⟩
          simp only [this, Bool.false_eq_true, if_false]
          rw [kQ (by simp; omega), kG (by omega)]
          simp only [Option.bind_some, Option.some.injEq, Sum.inr.injEq, Sum.inl.injEq, Prod.mk.injEq, and_true]
          omega
theorem agP (n0 : za) (hw0 : nwt n0 ≤ 1099511627776) : ∀ (d : Nat) (n : za) (q : List Nat) (a pos : Nat), Qk n ≤ d → At n0 q n a → isT n = false → pos ≤ zO n.Kids → ∃ s, ajh n0 s (a + pos) ∧ ∀ k, d ≤ k → wP k (pos : Int) n (up q) = some (s, 0)
  | 0, n, q, a, pos, hd, _, _, _ => by have := yw n; omega
  | d + 1, n, q, a, pos, hd, hat, hn, hpos => by
    have h1 := hat.len
    have h2 := hat.sizes
    have h3 := xW n0.Kids
    have h4 := ZQ n0
    have h5 := hat.wt
    have h6 := ZQ n
    have h7 := kH n.Kids
    have h8 := xW n.Kids
    rcases agO (up q) (by rw [J2]; omega) n.Kids 0 pos (by omega) (by omega) (by omega) with ⟨e1, e2⟩ | ⟨x, k, y, r, e1, e2, e3, e4⟩
    · refine ⟨⟨up q, (n.Kids.length : Int), 0⟩, ⟨q, n, a, n.Kids.length, 0, rfl, hat, hn, by omega, by simp; omega, fun k hk => by simp at hk, fun _ => rfl⟩, fun k hk => ?_⟩
      obtain ⟨k, rfl⟩ : ∃ j, k = j + 1 := ⟨k - 1, by omega⟩
      rw [wP, wI (by omega)]
      have e2' : zY (up q) n.Kids 0 (pos : Int) = _ := e2
      rw [e2']
      rfl
    · have hx : n.Kids[x.length]? = some k := by rw [e1]; simp
      have htk : n.Kids.take x.length = x := by rw [e1]; simp
      have hle : x.length < n.Kids.length := by rw [e1]; simp
      rw [Nat.zero_add] at e4
      rcases e4 with ⟨e4, e5⟩ | ⟨e4, e5, e6⟩
      · refine ⟨⟨up q, (x.length : Int), (r : Int)⟩, ⟨q, n, a, x.length, r, rfl, hat, hn, by omega, by rw [htk]; omega, fun k' hk' => ?_, fun h => by omega⟩, fun k' hk => ?_⟩
        · rw [hx] at hk'
          cases hk'
          exact ⟨e3, fun h => e4.resolve_right (by omega)⟩
        · obtain ⟨k', rfl⟩ : ∃ j, k' = j + 1 := ⟨k' - 1, by omega⟩
          rw [wP, wI (by omega)]
          have e2' : zY (up q) n.Kids 0 (pos : Int) = _ := e5
          rw [e2']
          rfl
      · have hs := Jd e4
        have hdk := yc (List.mem_of_getElem? hx)
        have hdn := yw n
        obtain ⟨s, s1, s2⟩ := agP n0 hw0 d k (q ++ [x.length]) _ (r - 1) (by omega) (hat.snoc hx hn e4) e4 (by omega)
        refine ⟨s, ?_, fun k' hk => ?_⟩
        · rw [htk] at s1
          have e : a + zO x + 1 + (r - 1) = a + pos := by omega
          rw [e] at s1
          exact s1
        · obtain ⟨k', rfl⟩ : ∃ j, k' = j + 1 := ⟨k' - 1, by omega⟩
          rw [wP, wI (by omega)]
          have e2' : zY (up q) n.Kids 0 (pos : Int) = _ := e6
          rw [e2']
          simp only [Option.bind_some]
          have := s2 k' (by omega)
          rw [amc] at this
          exact this
theorem af6 {n : za} (hn : isT n = false) (hw : nwt n ≤ 1099511627776) (pos : Nat) (hp : pos ≤ zO n.Kids) : ∃ s, kN n (pos : Int) = some (s, 0) ∧ ajh n s pos := by
  have h4 := ZQ n
  obtain ⟨s, h1, h2⟩ := agP n hw (Qk n) n [] 0 pos (Nat.le_refl _) (.nil n) hn hp
  refine ⟨s, ?_, by simpa using h1⟩
  have hneg : decide ((pos : Int) < 0) = false := by simp
  have hgt : decide ((pos : Int) > (zO n.Kids : Int)) = false := by simp; omega
  unfold kN
  simp only [Wd, hn, Bool.false_eq_true, if_false, hneg]
  rw [acP _ (by omega)]
  simp only [Option.bind_some, hgt, Bool.false_eq_true, if_false]
  rw [atD] at h2
  rw [KU (Qk n) h2]
  rfl
theorem ald {n : za} (hn : isT n = false) (hw : nwt n ≤ 1099511627776) (pos : Int) (hp : pos < 0 ∨ zO n.Kids < pos) : kN n pos = some (⟨[], 0, 0⟩, 3) := by
  have h4 := ZQ n
  unfold kN
  simp only [Wd, hn, Bool.false_eq_true, if_false]
  by_cases h : pos < 0
  · simp [h]
  · have hgt : decide (pos > (zO n.Kids : Int)) = true := by simp; omega
    have hneg : decide (pos < 0) = false := by simpa using h
    simp only [hneg, Bool.false_eq_true, if_false]
    rw [acP _ (by omega)]
    simp only [Option.bind_some, hgt, if_true]
end Go.Proofs.YtclohbgnaopjfaaDoor
namespace Go.Proofs.YtclohbgnaopjfaaDoor
set_option linter.unusedSimpArgs false
set_option linter.unusedVariables false
open Go
def adp : List Nat → za → za → za
 | [], _, x => x
 | i :: q, n, x => { n with Kids := match n.Kids[i]? with | some k => n.Kids.set i (adp q k x) | none => n.Kids }
theorem KA {n : za} {i : Nat} {k : za} (hi : n.Kids[i]? = some k) (q : List Nat) (x : za) : adp (i :: q) n x = { n with Kids := n.Kids.set i (adp q k x) } := by
 rw [adp, hi]
theorem agu : ∀ (q : List Nat) (n x : za), isT n = false → isT x = false → isT (adp q n x) = false
 | [], n, x, _, h => h
 | i :: q, n, x, h, _ => h
theorem aq9 {α : Type} {l : List α} {i : Nat} (h : i < l.length) (x : α) : wr l (i : Int) x = some (l.set i x) := by
  unfold wr; rw [if_pos (by omega)]; simp
theorem as1 {α : Type} (x : α) (l : List α) : sl (x :: l) 1 ((x :: l).length : Int) = some l := by
 have := amN (l := x :: l) (a := 1) (b := (x :: l).length) (by simp) (by simp)
 simpa using this
theorem ata {x : za} {n : za} {q m a} (h : At n q m a) : isT n = false → nwt n ≤ 1099511627776 → ∀ kr, q.length < kr → jN kr n (up q) x = some (adp q n x, 0) := by
  induction h with
  | nil n =>
    intro hn hw kr hk
    obtain ⟨kr, rfl⟩ : ∃ j, kr = j + 1 := ⟨kr - 1, by omega⟩
    have := Yi (At.nil n) hn (by simp)
    rw [jN, this]
    rfl
  | cons n i k q m a hi hn hk h ih =>
    intro _ hw kr hkr
    simp only [List.length_cons] at hkr
    obtain ⟨kr, rfl⟩ : ∃ j, kr = j + 1 := ⟨kr - 1, by omega⟩
    have hat := At.cons n i k q m a hi hn hk h
    have g1 := hat.len
    have g2 := hat.sizes
    have g3 := xW n.Kids
    have g4 := ZQ n
    have g5 := anG hi
    have g6 := kH n.Kids
    have hl := (List.getElem?_eq_some_iff.1 hi).1
    have hnz : (((i :: q).length : Int) == 0) = false := by simp; omega
    have hin := Yi hat (hat.avB hn) (by omega)
    have e1 : rd (up (i :: q)) 0 = some (i : Int) := VJ (l := up (i :: q)) (i := 0) rfl
    have e2 : sl (up (i :: q)) 1 ((up (i :: q)).length : Int) = some (up q) := as1 _ _
    have e3 : app 104 [] n.Kids = some n.Kids := kQ (by simp; omega)
    rw [jN, hin, e1, e2]
    simp only [Option.bind_some, bne_self_eq_false, Bool.false_eq_true, if_false, J2, hnz, kv, e3, VJ hi]
    rw [ih hk (by omega) kr (by omega)]
    simp only [Option.bind_some]
    rw [aq9 hl, KA hi]
    rfl
theorem asi {x : za} {n : za} {q m a} (h : At n q m a) (hn : isT n = false) (hw : nwt n ≤ 1099511627776) : QQ n (up q) x = some (adp q n x, 0) := by
 unfold QQ
 exact KU (q.length + 1) fun k hk => ata h hn hw k (by omega)
end Go.Proofs.YtclohbgnaopjfaaDoor
namespace Go.Proofs.YtclohbgnaopjfaaDoor
set_option linter.unusedSimpArgs false
set_option linter.unusedVariables false
open Go
structure yU (l : List za) : Prop where
 form : ∀ x ∈ l, qA x = true
 adj : vP l
theorem yD {n : za} (h : qA n = true) (ht : isT n = true) : n.Text ≠ [] ∧ Lib.validD n.Text = true ∧ jw n.Marks = true ∧ n.zt = [] ∧ n.Kids = [] := by
  rw [jl, if_pos ht] at h
  simp only [Bool.and_eq_true, decide_eq_true_eq] at h
  obtain ⟨⟨⟨h1, h2⟩, h3⟩, h4⟩ := h
  exact ⟨h1, h2, h3, List.eq_nil_of_length_eq_zero (by omega), List.eq_nil_of_length_eq_zero (by omega)⟩
theorem am1 {t : Str} {m : List Str} (h1 : t ≠ []) (h2 : Lib.validD t = true) (h3 : jw m = true) : qA (tN t m) = true := by
 have ht : isT (tN t m) = true := rfl
 rw [jl, if_pos ht]
 simp [h1, h2, h3]
theorem anU {n : za} (h : qA n = true) : Gd n := fun ht => by
 obtain ⟨_, h2, _, h4, h5⟩ := yD h ht
 exact ⟨h2, h4, h5⟩
theorem alF {s : Str} (h : s ≠ []) : 1 ≤ afu s := by
 rw [← KC, aaW s h]
 simp
theorem size_pos {n : za} (h : qA n = true) : 1 ≤ kz n := by
 rw [xz]
 cases ht : isT n with
 | true => simpa using alF (yD h ht).1
 | false => simp; omega
theorem yU.gd {l : List za} (h : yU l) : ∀ x ∈ l, Gd x := fun x hx => anU (h.form x hx)
theorem yU.jnd {l : List za} (h : yU l) : Jnd l := ⟨h.adj, fun x hx ht => (yD (h.form x hx) ht).1⟩
theorem akO {a b : List za} (ha : yU a) (hb : yU b) (h : items a = items b) : a = b := asn ha.jnd hb.jnd ha.gd hb.gd h
theorem yU.nil : yU [] := ⟨by simp, trivial⟩
theorem yU.left {a b : List za} (h : yU (a ++ b)) : yU a := ⟨fun x hx => h.form x (by simp [hx]), aio a b h.adj⟩
theorem yU.right {a b : List za} (h : yU (a ++ b)) : yU b := ⟨fun x hx => h.form x (by simp [hx]), ail a b h.adj⟩
theorem ahn (o : List za) (n : za) (h : yU o) (hn : qA n = true) : yU (joinStep o n) := by
  have hc : ¬ (isT n && n.Text == []) = true := by
    simp only [Bool.and_eq_true, beq_iff_eq]
    rintro ⟨h1, h2⟩
    exact (yD hn h1).1 h2
  rcases wX o with rfl | ⟨o, x, rfl⟩
  · rw [vv, if_neg hc]
    exact ⟨fun y hy => by simp at hy; rw [hy]; exact hn, trivial⟩
  · rw [wB, if_neg hc]
    have hx := h.form x (by simp)
    split
    · rename_i hd
      simp only [Bool.and_eq_true, decide_eq_true_eq] at hd
      obtain ⟨⟨h1, h2⟩, h3⟩ := hd
      obtain ⟨a1, a2, a3, a4, a5⟩ := yD hx h2
      obtain ⟨b1, b2, b3, b4, b5⟩ := yD hn h1
      have e : ({ n with Text := x.Text ++ n.Text } : za) = tN (x.Text ++ n.Text) n.Marks := by
        have := Yr h1
        cases n
        simp_all
      have ef : qA ({ n with Text := x.Text ++ n.Text } : za) = true := by
        rw [e]
        refine am1 (by simp [a1]) ?_ b3
        rw [(ado n.Text a2).2]
        exact b2
      refine ⟨fun y hy => ?_, ?_⟩
      · rcases List.mem_append.1 hy with hy | hy
        · exact h.form y (by simp [hy])
        · simp only [List.mem_singleton] at hy; rw [hy]; exact ef
      · refine ak8 o x _ h.adj fun z => ?_
        unfold wQ
        have e1 : isT ({ n with Text := x.Text ++ n.Text } : za) = true := h1
        rw [e1, h2]
        simp only [h3]
    · rename_i hd
      refine ⟨fun y hy => ?_, ?_⟩
      · have hy' : y ∈ o ++ [x] ∨ y = n := by simpa [or_assoc] using hy
        rcases hy' with hy | rfl
        · exact h.form y hy
        · exact hn
      · have ha : wQ x n = false := by
          unfold wQ
          rw [Bool.and_comm (isT x)]
          simpa using hd
        have := anI o x n h.adj ha
        simpa using this
theorem yU.join {l : List za} (h : yU l) : WW l = l := h.jnd.join
theorem apL : ∀ (l : List za) (last : Option za), xu last l = true → yU l ∧ ∀ x y, last = some x → l.head? = some y → wQ x y = false
 | [], last, _ => ⟨.nil, by simp⟩
 | y :: l, last, h => by
  rw [Wx, Bool.and_eq_true, Bool.and_eq_true] at h
  obtain ⟨⟨h1, h2⟩, h3⟩ := h
  obtain ⟨h4, h5⟩ := apL l (some y) h3
  refine ⟨⟨fun x hx => ?_, ?_⟩, ?_⟩
  ·rcases List.mem_cons.1 hx with rfl | hx
   ·exact h1
   ·exact h4.form x hx
  ·cases l with
   | nil => trivial
   | cons z l => exact ⟨h5 y z rfl rfl, h4.adj⟩
  ·rintro x y' rfl hy
   cases hy
   simpa using h2
theorem atH {l : List za} (h : yU l) : xu none l = true := aps l none h.form h.adj fun _ _ hx => by cases hx
theorem Qg {n : za} (h : qA n = true) (ht : isT n = false) : yU n.Kids := by
  rw [jl, if_neg (by simp [ht])] at h
  simp only [Bool.and_eq_true] at h
  exact (apL _ _ h.2).1
theorem adl {n : za} (h : qA n = true) (ht : isT n = false) {l : List za} (hl : yU l) : qA ({ n with Kids := l } : za) = true := by
  have ht' : isT ({ n with Kids := l } : za) = false := ht
  rw [jl, if_neg (by simp [ht])] at h
  rw [jl, if_neg (by simp [ht'])]
  simp only [Bool.and_eq_true] at h ⊢
  exact ⟨h.1, atH hl⟩
end Go.Proofs.YtclohbgnaopjfaaDoor
namespace Go.Proofs.YtclohbgnaopjfaaDoor
set_option linter.unusedSimpArgs false
set_option linter.unusedVariables false
open Go
inductive Tk where
 | sgn (c : Int) (m : List Str)
 | opn (k : Str) (a : List zf)
 | cls
mutual
def tkN : za → List Tk
 | ⟨k, t, m, a, ks⟩ => if (k == jq) = true then (runes t).map (fun c => Tk.sgn c m) else Tk.opn k a :: (tkL ks ++ [Tk.cls])
def tkL : List za → List Tk
 | [] => []
 | n :: l => tkN n ++ tkL l
end
theorem kT (n : za) : tkN n = if isT n = true then (runes n.Text).map (fun c => Tk.sgn c n.Marks) else Tk.opn n.Kind n.zt :: (tkL n.Kids ++ [Tk.cls]) := by cases n; simp only [tkN, isT]; rfl
def afN : It → List Tk
 | .sgn c m => [.sgn c m]
 | .nod n => tkN n
def tkI (l : List It) : List Tk := l.flatMap afN
theorem X6 (i : It) (l : List It) : tkI (i :: l) = afN i ++ tkI l := rfl
theorem anC (a b : List It) : tkI (a ++ b) = tkI a ++ tkI b := by simp [tkI]
theorem ae7 (a b : List za) : tkL (a ++ b) = tkL a ++ tkL b := by
 induction a with
 | nil => simp [tkL]
 | cons n a ih => simp only [List.cons_append, tkL, ih, List.append_assoc]
theorem aqw (m : List Str) (cs : List Int) : tkI (cs.map fun c => It.sgn c m) = cs.map fun c => Tk.sgn c m := by
 induction cs with
 | nil => rfl
 | cons c cs ih => rw [List.map_cons, X6, ih]; rfl
theorem am3 (n : za) : tkI (itN n) = tkN n := by
 rw [kT]
 unfold itN
 cases h : isT n with
 | true => simp only [if_true]; exact aqw _ _
 | false =>
  simp only [Bool.false_eq_true, if_false]
  have : tkI [It.nod n] = tkN n := by simp [tkI, afN]
  rw [this, kT, h]
  simp
theorem Ky (l : List za) : tkI (items l) = tkL l := by
 induction l with
 | nil => rfl
 | cons n l ih => rw [items, anC, am3, ih, tkL]
mutual
theorem ajt : ∀ n : za, (tkN n).length = kz n
 | ⟨k, t, m, a, ks⟩ => by
  rw [kT, xz]
  cases h : isT (⟨k, t, m, a, ks⟩ : za) with
  | true => simp [KC]
  | false =>
   have := Kg ks
   simp; omega
theorem Kg : ∀ l : List za, (tkL l).length = zO l
 | [] => rfl
 | n :: l => by
  have h1 := ajt n
  have h2 := Kg l
  simp only [tkL, zO, List.length_append]; omega
end
def FI (l : List It) : Prop := ∀ n, It.nod n ∈ l → isT n = false ∧ qA n = true
theorem abq {l : List za} (h : ∀ x ∈ l, qA x = true) : FI (items l) := by
  induction l with
  | nil => intro n hn; cases hn
  | cons y l ih =>
    intro n hn
    rcases List.mem_append.1 hn with hn | hn
    · unfold itN at hn
      cases ht : isT y with
      | true => rw [ht] at hn; simp at hn
      | false =>
        rw [ht] at hn
        simp at hn
        subst hn
        exact ⟨ht, h n (by simp)⟩
    · exact ih (fun x hx => h x (by simp [hx])) n hn
def aq0 : List Tk → Prop
 | [] => True
 | .cls :: _ => True
 | _ => False
theorem YT {a b : za} (ha : qA a = true) (hb : qA b = true) (ta : isT a = false) (tb : isT b = false) (hk : a.Kind = b.Kind) (hat : a.zt = b.zt) (hks : a.Kids = b.Kids) : a = b := by
  rw [jl, if_neg (by simp [ta])] at ha
  rw [jl, if_neg (by simp [tb])] at hb
  simp only [Bool.and_eq_true, decide_eq_true_eq] at ha hb
  cases a; cases b
  simp_all
theorem aiR : ∀ (f : Nat) (X Y : List It) (R S : List Tk), szI X ≤ f → FI X → FI Y → aq0 R → aq0 S → tkI X ++ R = tkI Y ++ S → X = Y ∧ R = S
  | f, [], [], R, S, _, _, _, _, _, h => ⟨rfl, h⟩
  | f, [], j :: Y, R, S, _, _, fy, hR, _, h => by
    exfalso
    rw [X6] at h
    cases j with
    | sgn c m =>
      simp only [afN, tkI, List.flatMap_nil, List.nil_append, List.cons_append] at h
      rw [h] at hR
      exact hR
    | nod n =>
      have := (fy n (by simp)).1
      simp only [afN, tkI, List.flatMap_nil, List.nil_append] at h
      rw [kT, this] at h
      simp only [Bool.false_eq_true, if_false, List.cons_append] at h
      rw [h] at hR
      exact hR
  | f, i :: X, [], R, S, _, fx, _, _, hS, h => by
    exfalso
    rw [X6] at h
    cases i with
    | sgn c m =>
      simp only [afN, tkI, List.flatMap_nil, List.nil_append, List.cons_append] at h
      rw [← h] at hS
      exact hS
    | nod n =>
      have := (fx n (by simp)).1
      simp only [afN, tkI, List.flatMap_nil, List.nil_append] at h
      rw [kT, this] at h
      simp only [Bool.false_eq_true, if_false, List.cons_append] at h
      rw [← h] at hS
      exact hS
  | 0, i :: X, j :: Y, R, S, hf, fx, _, _, _, h => by
    exfalso
    have := akI i (by
      intro n hn
      subst hn
      exact (fx n (by simp)).1)
    simp only [szI] at hf
    omega
  | f + 1, i :: X, j :: Y, R, S, hf, fx, fy, hR, hS, h => by
    have hp := akI i (by
      intro n hn
      subst hn
      exact (fx n (by simp)).1)
    simp only [szI] at hf
    have fx' : FI X := fun n hn => fx n (by simp [hn])
    have fy' : FI Y := fun n hn => fy n (by simp [hn])
    rw [X6, X6] at h
    cases i with
    | sgn c m =>
      cases j with
      | sgn c' m' =>
        simp only [afN, List.cons_append, List.nil_append, List.cons.injEq, Tk.sgn.injEq] at h
        obtain ⟨⟨rfl, rfl⟩, h⟩ := h
        obtain ⟨rfl, h2⟩ := aiR f X Y R S (by omega) fx' fy' hR hS h
        exact ⟨rfl, h2⟩
      | nod n =>
        exfalso
        have := (fy n (by simp)).1
        simp only [afN] at h
        rw [kT, this] at h
        simp at h
    | nod n =>
      obtain ⟨tn, fn⟩ := fx n (by simp)
      cases j with
      | sgn c m =>
        exfalso
        simp only [afN] at h
        rw [kT, tn] at h
        simp at h
      | nod n' =>
        obtain ⟨tn', fn'⟩ := fy n' (by simp)
        simp only [afN] at h
        rw [kT, kT, tn, tn'] at h
        simp only [Bool.false_eq_true, if_false, List.cons_append, List.append_assoc, List.nil_append, List.cons.injEq, Tk.opn.injEq] at h
        obtain ⟨⟨hk, hat⟩, h⟩ := h
        have r1 := Qg fn tn
        have r2 := Qg fn' tn'
        have hsz : szI (items n.Kids) ≤ f := by
          rw [aoQ]
          simp only [aog] at hf
          rw [xz, tn] at hf
          simp at hf
          omega
        rw [← Ky, ← Ky] at h
        obtain ⟨e1, e2⟩ := aiR f (items n.Kids) (items n'.Kids) (Tk.cls :: (tkI X ++ R)) (Tk.cls :: (tkI Y ++ S)) hsz (abq r1.form) (abq r2.form) trivial trivial h
        have e3 := akO r1 r2 e1
        have e4 := YT fn fn' tn tn' hk hat e3
        subst e4
        simp only [List.cons.injEq, true_and] at e2
        obtain ⟨rfl, h2⟩ := aiR f X Y R S (by omega) fx' fy' hR hS e2
        exact ⟨rfl, h2⟩
theorem anQ {a b : List za} (ha : yU a) (hb : yU b) (h : tkL a = tkL b) : a = b := by
  rw [← Ky, ← Ky] at h
  exact akO ha hb (aiR (szI (items a)) (items a) (items b) [] [] (Nat.le_refl _) (abq ha.form) (abq hb.form) trivial trivial (by simpa using h)).1
end Go.Proofs.YtclohbgnaopjfaaDoor
namespace Go.Proofs.YtclohbgnaopjfaaDoor
set_option linter.unusedSimpArgs false
set_option linter.unusedVariables false
open Go
theorem right_eq (n : za) (h : nwt n ≤ 1099511627776) : QT n = some (checkN n == 0) := by
 unfold QT
 rw [akX n h]
 rfl
end Go.Proofs.YtclohbgnaopjfaaDoor
namespace Go.Proofs.YtclohbgnaopjfaaDoor
set_option linter.unusedSimpArgs false
set_option linter.unusedVariables false
open Go
def auB (l : List za) (i r : Nat) : Prop := i ≤ l.length ∧ (∀ k, l[i]? = some k → r < kz k) ∧ (i = l.length → r = 0)
theorem At.fn {n : za} {q m a} (h : At n q m a) : ∀ {m' a'}, At n q m' a' → m = m' ∧ a = a' := by
 induction h with
 | nil n => intro m' a' h'; cases h'; exact ⟨rfl, rfl⟩
 | cons n i k q m a hi hn hk h ih =>
  intro m' a' h'
  cases h' with
  | cons _ _ k' _ _ a2 hi' _ _ h2 =>
   rw [hi] at hi'
   cases hi'
   obtain ⟨rfl, rfl⟩ := ih h2
   exact ⟨rfl, rfl⟩
def aqe (m : za) (idx off : Nat) : Prop := idx ≤ m.Kids.length ∧ (∀ k, m.Kids[idx]? = some k → off < kz k ∧ (0 < off → isT k = true)) ∧ (idx = m.Kids.length → off = 0)
theorem aqe.idx {m : za} {i r} (h : aqe m i r) : auB m.Kids i r := ⟨h.1, fun k hk => (h.2.1 k hk).1, h.2.2⟩
structure Flat (n : za) (f t : Nat) (q : List Nat) (m : za) (a : Nat) (X Y Z : List It) : Prop where
 at_ : At n q m a
 nt : isT m = false
 it : items m.Kids = X ++ (Y ++ Z)
 sx : a + szI X = f
 sy : f + szI Y = t
theorem At.form {n : za} {q m a} (h : At n q m a) : qA n = true → qA m = true := by
 induction h with
 | nil n => exact id
 | cons n i k q m a hi hn hk h ih => exact fun hf => ih (alN hf hn k (List.mem_of_getElem? hi))
theorem ajh.len {n : za} {s p} (h : ajh n s p) : s.Path.length ≤ p := by
 obtain ⟨q, m, a, idx, off, rfl, h1, _, _, h2, _⟩ := h
 rw [J2]
 have := h1.len
 omega
structure RN (n : za) : Prop where
 ok : checkN n = 0
 nt : isT n = false
 wt : nwt n ≤ 549755813888
theorem aaZ {n : za} (h : checkN n = 0) : qA n = true ∧ xO n ≤ 40 ∧ kz n ≤ 4000 := by
 unfold checkN at h
 cases hf : qA n with
 | false => rw [hf] at h; simp at h
 | true =>
  rw [hf] at h
  simp only [Bool.true_eq_false, if_false] at h
  refine ⟨rfl, ?_, ?_⟩
  ·by_cases hd : 40 < xO n
   ·rw [if_pos hd] at h; cases h
   ·omega
  ·by_cases hd : 40 < xO n
   ·rw [if_pos hd] at h; cases h
   ·rw [if_neg hd] at h
    by_cases hs : 4000 < kz n
    ·rw [if_pos hs] at h; cases h
    ·omega
theorem RN.form {n : za} (h : RN n) : qA n = true := (aaZ h.ok).1
end Go.Proofs.YtclohbgnaopjfaaDoor
namespace Go.Proofs.YtclohbgnaopjfaaDoor
set_option linter.unusedSimpArgs false
set_option linter.unusedVariables false
open Go
theorem alc : ∀ (a : List za) (k k' : za) (b : List za), vP (a ++ k :: b) → (∀ z, wQ z k' = wQ z k) → (∀ z, wQ k' z = wQ k z) → vP (a ++ k' :: b)
 | [], k, k', b, h, _, h2 => akM k k' b h h2
 | [x], k, k', b, h, h1, h2 => ⟨by rw [h1]; exact h.1, akM k k' b h.2 h2⟩
 | x :: y :: a, k, k', b, h, h1, h2 => ⟨h.1, alc (y :: a) k k' b h.2 h1 h2⟩
theorem acE {x : za} (h : isT x = false) (z : za) : wQ z x = false ∧ wQ x z = false := by
 unfold wQ
 rw [h]
 simp
theorem aqt {x : za} (hx : isT x = false) (fx : qA x = true) {n : za} {q m a} (h : At n q m a) : qA n = true → qA (adp q n x) = true := by
 induction h with
 | nil n => exact fun _ => fx
 | cons n i k q m a hi hn hk h ih =>
  intro hf
  have hl := (List.getElem?_eq_some_iff.1 hi).1
  have hr := Qg hf hn
  have hkf := hr.form k (List.mem_of_getElem? hi)
  have e := V6 hi
  rw [KA hi]
  refine adl hf hn ⟨fun y hy => ?_, ?_⟩
  ·rcases List.mem_or_eq_of_mem_set hy with hy | rfl
   ·exact hr.form y hy
   ·exact ih hkf
  ·rw [List.set_eq_take_append_cons_drop, if_pos hl]
   have ha := hr.adj
   rw [e] at ha
   have h1 := agu q k x hk hx
   exact alc _ k _ _ ha (fun z => by rw [(acE h1 z).1, (acE hk z).1]) (fun z => by rw [(acE h1 z).2, (acE hk z).2])
theorem akk {l : List za} {i : Nat} {k : za} (h : l[i]? = some k) : xh l = max (xh (l.take i)) (max (Qk k) (xh (l.drop (i + 1)))) := by
 conv => lhs; rw [V6 h]
 rw [ahT, xh]
theorem At.depth {n : za} {q m a} (h : At n q m a) : q.length + Qk m ≤ Qk n := by
 induction h with
 | nil n => simp
 | cons n i k q m a hi hn hk h ih =>
  have := akk hi
  rw [yw n]
  simp only [List.length_cons]
  omega
theorem Jk {l : List za} {i : Nat} {k : za} (h : l[i]? = some k) : tkL l = tkL (l.take i) ++ (tkN k ++ tkL (l.drop (i + 1))) := by
 conv => lhs; rw [V6 h]
 rw [ae7, tkL]
end Go.Proofs.YtclohbgnaopjfaaDoor
namespace Go.Proofs.YtclohbgnaopjfaaDoor
set_option linter.unusedSimpArgs false
set_option linter.unusedVariables false
open Go
end Go.Proofs.YtclohbgnaopjfaaDoor
namespace Go.Proofs.YtclohbgnaopjfaaDoor
set_option linter.unusedSimpArgs false
set_option linter.unusedVariables false
open Go
def apg : Tk → Nat
 | .sgn _ m => 10 + wU m
 | .opn k a => 2 + k.length + ky a
 | .cls => 0
def tw : List Tk → Nat
 | [] => 0
 | t :: l => apg t + tw l
theorem aaS : ∀ a b : List Tk, tw (a ++ b) = tw a + tw b
 | [], b => by simp [tw]
 | x :: a, b => by simp only [List.cons_append, tw, aaS a b]; omega
theorem aiJ (m : List Str) : ∀ l : List Int, tw (l.map fun c => Tk.sgn c m) = l.length * (10 + wU m)
 | [] => by simp [tw]
 | c :: l => by simp only [List.map_cons, tw, apg, aiJ m l, List.length_cons, Nat.add_mul]; omega
theorem acB : ∀ l : List Int, (zN l).length ≤ 4 * l.length
 | [] => by simp [zN]
 | c :: l => by
  rw [Q9, List.length_append, List.length_cons]
  have := (aoT c).2
  have := acB l
  omega
theorem aiF : ∀ l : List za, (∀ n ∈ l, nwt n ≤ tw (tkN n)) → zS l ≤ tw (tkL l)
 | [], _ => by simp [zS]
 | n :: l, h => by
  have h1 := h n (by simp)
  have h2 := aiF l fun x hx => h x (by simp [hx])
  simp only [zS, tkL, aaS]; omega
theorem atK (n : za) : qA n = true → nwt n ≤ tw (tkN n) := by
  induction n using za.ind with
  | h n ih =>
    intro hf
    rw [wH, kT]
    cases ht : isT n with
    | true =>
      obtain ⟨h1, h2, h3, h4, h5⟩ := yD hf ht
      have hk := Yr ht
      have hr := acB (runes n.Text)
      rw [Wj h2] at hr
      have hl := alF h1
      rw [← KC] at hl
      simp only [if_true]
      rw [aiJ, h4, h5, hk, Nat.mul_add]
      have : wU n.Marks ≤ (runes n.Text).length * wU n.Marks := Nat.le_mul_of_pos_left _ (by omega)
      simp only [ky, zS, jq, List.length_cons, List.length_nil]
      omega
    | false =>
      have hr := Qg hf ht
      have h1 := aiF n.Kids fun x hx => ih x hx (hr.form x hx)
      rw [jl, if_neg (by simp [ht])] at hf
      simp only [Bool.and_eq_true, decide_eq_true_eq] at hf
      simp only [Bool.false_eq_true, if_false, tw, apg, aaS]
      rw [hf.1.1.1.2, hf.1.1.2]
      simp only [wU, List.length_nil]
      omega
theorem atz {l : List za} (h : yU l) : zS l ≤ tw (tkL l) := aiF l fun n hn => atK n (h.form n hn)
theorem ajK (W : Nat) : ∀ l : List za, (∀ n ∈ l, tw (tkN n) ≤ nwt n * (W + 10)) → tw (tkL l) ≤ zS l * (W + 10)
 | [], _ => by simp [tkL, tw]
 | n :: l, h => by
  have h1 := h n (by simp)
  have h2 := ajK W l fun x hx => h x (by simp [hx])
  simp only [zS, tkL, aaS, Nat.add_mul]; omega
def dpT : Nat → List Tk → Nat
 | _, [] => 0
 | d, .opn _ _ :: l => max (d + 1) (dpT (d + 1) l)
 | d, .cls :: l => dpT (d - 1) l
 | d, .sgn _ _ :: l => dpT d l
theorem alq (m : List Str) (d : Nat) (R : List Tk) : ∀ l : List Int, dpT d ((l.map fun c => Tk.sgn c m) ++ R) = dpT d R
 | [] => rfl
 | c :: l => by rw [List.map_cons, List.cons_append, dpT, alq m d R l]
def dOf (d x : Nat) : Nat := if x = 0 then 0 else d + x
theorem ajx (d : Nat) : ∀ (l : List za) (R : List Tk), (∀ n ∈ l, ∀ R, dpT d (tkN n ++ R) = max (dOf d (xO n)) (dpT d R)) → dpT d (tkL l ++ R) = max (dOf d (qX l)) (dpT d R)
  | [], R, _ => by simp [tkL, qX, dOf]
  | n :: l, R, h => by
    rw [tkL, List.append_assoc, h n (by simp), ajx d l R fun x hx => h x (by simp [hx]), qX]
    unfold dOf
    split <;> split <;> split <;> omega
theorem apu (n : za) : ∀ (d : Nat) (R : List Tk), dpT d (tkN n ++ R) = max (dOf d (xO n)) (dpT d R) := by
 induction n using za.ind with
 | h n ih =>
  intro d R
  rw [kT, Qa]
  cases ht : isT n with
  | true =>
   simp only [if_true]
   rw [alq]
   simp [dOf]
  | false =>
   simp only [Bool.false_eq_true, if_false, List.cons_append, List.append_assoc, List.nil_append]
   rw [dpT, ajx (d + 1) n.Kids _ fun x hx => ih x hx (d + 1), dpT, Nat.add_sub_cancel]
   unfold dOf
   rw [if_neg (show ¬ (qX n.Kids + 1 = 0) by omega)]
   split <;> omega
theorem atI (l : List za) : dpT 0 (tkL l) = qX l := by
 have := ajx 0 l [] fun x _ => apu x 0
 rw [List.append_nil, dpT] at this
 unfold dOf at this
 split at this
 ·rename_i h0; rw [h0]; omega
 ·omega
structure TD (n : za) (T : List Tk) : Prop where
 ok : checkN n = 0
 nt : isT n = false
 tk : tkL n.Kids = T
def wD (n : za) (T : List Tk) : Nat := n.Kind.length + ky n.zt + tw T
theorem ao1 {n : za} (h : qA n = true) (ht : isT n = false) : n.Text = [] ∧ n.Marks = [] := by
  rw [jl, if_neg (by simp [ht])] at h
  simp only [Bool.and_eq_true, decide_eq_true_eq] at h
  exact ⟨h.1.1.1.2, h.1.1.2⟩
theorem TD.form {n T} (h : TD n T) : qA n = true := (aaZ h.ok).1
theorem TD.row {n T} (h : TD n T) : yU n.Kids := Qg h.form h.nt
theorem as5 {n : za} {T : List Tk} (hf : qA n = true) (ht : isT n = false) (hT : tkL n.Kids = T) : nwt n ≤ 2 + wD n T := by
 obtain ⟨h1, h2⟩ := ao1 hf ht
 have := atz (Qg hf ht)
 rw [hT] at this
 rw [wH, h1, h2]
 unfold wD
 simp only [wU, List.length_nil]
 omega
theorem TD.wt {n T} (h : TD n T) : nwt n ≤ 2 + wD n T := as5 h.form h.nt h.tk
theorem TD.rn {n T} (h : TD n T) (hw : wD n T ≤ 100000000) : RN n := ⟨h.ok, h.nt, by have := h.wt; omega⟩
theorem TD.len {n T} (h : TD n T) : T.length = zO n.Kids := by rw [← h.tk, Kg]
theorem TD.size {n T} (h : TD n T) : kz n = 2 + T.length := by rw [Jd h.nt, h.len]
theorem TD.small {n T} (h : TD n T) : T.length ≤ 3998 := by
 have := (aaZ h.ok).2.2
 rw [h.size] at this
 omega
theorem TD.ext {a b T} (ha : TD a T) (hb : TD b T) (hk : a.Kind = b.Kind) (hat : a.zt = b.zt) : a = b :=
 YT ha.form hb.form ha.nt hb.nt hk hat (anQ ha.row hb.row (by rw [ha.tk, hb.tk]))
theorem akq {n : za} (hf : qA n = true) (ht : isT n = false) {T : List Tk} (hT : tkL n.Kids = T) : checkN n = if 40 < dpT 0 T + 1 then 4 else if 4000 < 2 + T.length then 5 else 0 := by
  have h1 : xO n = dpT 0 T + 1 := by rw [Qa, if_neg (by simp [ht]), ← atI, hT]
  have h2 : kz n = 2 + T.length := by rw [Jd ht, ← Kg, hT]
  unfold checkN
  rw [hf, if_neg (show ¬ (true = false) by simp), h1, h2]
theorem TD.of {n : za} {T : List Tk} (hf : qA n = true) (ht : isT n = false) (hT : tkL n.Kids = T) (hd : dpT 0 T ≤ 39) (hl : T.length ≤ 3998) : TD n T :=
  ⟨by rw [akq hf ht hT, if_neg (by omega), if_neg (by omega)], ht, hT⟩
theorem TD.deep {n T} (h : TD n T) : dpT 0 T ≤ 39 := by
 have := h.ok
 rw [akq h.form h.nt h.tk] at this
 split at this
 ·cases this
 ·omega
theorem aqG {S : List Tk} (h : aq0 S) (R : List Tk) : aq0 (S ++ Tk.cls :: R) := by
 cases S with
 | nil => trivial
 | cons t S => cases t <;> first | trivial | exact h.elim
theorem at_end {n : za} {q m a} (h : At n q m a) : ∃ P S, P.length = a ∧ tkL n.Kids = P ++ (tkL m.Kids ++ S) ∧ aq0 S := by
  induction h with
  | nil n => exact ⟨[], [], rfl, by simp, trivial⟩
  | cons n i k q m a hi hn hk h ih =>
    obtain ⟨P, S, h1, h2, h3⟩ := ih
    refine ⟨tkL (n.Kids.take i) ++ (Tk.opn k.Kind k.zt :: P), S ++ (Tk.cls :: tkL (n.Kids.drop (i + 1))), ?_, ?_, aqG h3 _⟩
    · simp only [List.length_append, List.length_cons, Kg]; omega
    · rw [Jk hi, kT, if_neg (by simp [hk]), h2]
      simp only [List.append_assoc, List.cons_append, List.nil_append]
end Go.Proofs.YtclohbgnaopjfaaDoor
namespace Go.Proofs.YtclohbgnaopjfaaDoor
set_option linter.unusedSimpArgs false
set_option linter.unusedVariables false
open Go Classical
theorem xE : ∀ x : Str, Op.bytesLess x x = false
 | [] => rfl
 | a :: x => by
  have h : ¬ a < a := by rw [UInt8.lt_iff_toNat_lt]; omega
  simp [Op.bytesLess, xE x]
theorem XL : ∀ x y z : Str, Op.bytesLess x y = true → Op.bytesLess y z = true → Op.bytesLess x z = true
 | _, [], _, h, _ => by simp [Op.bytesLess] at h
 | _, _ :: _, [], _, h => by simp [Op.bytesLess] at h
 | [], _ :: _, _ :: _, _, _ => rfl
 | a :: x, b :: y, c :: z, h1, h2 => by
  simp only [Op.bytesLess, Bool.or_eq_true, Bool.and_eq_true, decide_eq_true_eq, beq_iff_eq, UInt8.lt_iff_toNat_lt] at h1 h2 ⊢
  rcases h1 with h1 | ⟨rfl, h1⟩
  ·rcases h2 with h2 | ⟨rfl, h2⟩
   ·exact .inl (by omega)
   ·exact .inl h1
  ·rcases h2 with h2 | ⟨rfl, h2⟩
   ·exact .inl h2
   ·exact .inr ⟨rfl, XL x y z h1 h2⟩
theorem amE : ∀ x y : Str, Op.bytesLess x y = true ∨ x = y ∨ Op.bytesLess y x = true
 | [], [] => .inr (.inl rfl)
 | [], _ :: _ => .inl rfl
 | _ :: _, [] => .inr (.inr rfl)
 | a :: x, b :: y => by
  simp only [Op.bytesLess, Bool.or_eq_true, Bool.and_eq_true, decide_eq_true_eq, beq_iff_eq, UInt8.lt_iff_toNat_lt, List.cons.injEq]
  by_cases h : a = b
  ·subst h
   rcases amE x y with h1 | h1 | h1
   ·exact .inl (.inr ⟨rfl, h1⟩)
   ·exact .inr (.inl ⟨rfl, h1⟩)
   ·exact .inr (.inr (.inr ⟨rfl, h1⟩))
  ·have : a.toNat ≠ b.toNat := fun e => h (UInt8.toNat_inj.1 e)
   rcases Nat.lt_or_gt_of_ne this with h1 | h1
   ·exact .inl (.inl h1)
   ·exact .inr (.inr (.inl h1))
theorem apq {x y : Str} (h : Op.bytesLess x y = true) : Op.bytesLess y x = false := by
 cases h2 : Op.bytesLess y x with
 | false => rfl
 | true => have := XL x y x h h2; rw [xE] at this; cases this
theorem akZ {x : Str} (h : isName x = true) : x.length ≤ 20 := by
 unfold isName at h
 simp only [Bool.and_eq_true, decide_eq_true_eq] at h
 have := h.1.2
 omega
abbrev BL (a b : Str) : Prop := Op.bytesLess a b = true
theorem abf : ∀ (l : List Str) (last : Option Str), yB last l = true ↔ (∀ x ∈ l, isName x = true) ∧ l.Pairwise BL ∧ ∀ x, last = some x → ∀ y ∈ l, BL x y
 | [], last => by simp [yB]
 | y :: l, none => by
  rw [Vd, Bool.and_eq_true, Bool.and_eq_true, abf l (some y)]
  simp only [List.mem_cons, forall_eq_or_imp, List.pairwise_cons, Option.some.injEq, forall_eq', and_true, reduceCtorEq, false_implies, implies_true]
  constructor
  ·rintro ⟨h1, h3, h4, h5⟩
   exact ⟨⟨h1, h3⟩, h5, h4⟩
  ·rintro ⟨⟨h1, h3⟩, h5, h4⟩
   exact ⟨h1, h3, h4, h5⟩
 | y :: l, some x => by
  rw [Vd, Bool.and_eq_true, Bool.and_eq_true, abf l (some y)]
  have key : (!(Op.bytesLess y x || y == x)) = true ↔ BL x y := by
   simp only [Bool.not_eq_true', Bool.or_eq_false_iff, beq_eq_false_iff_ne]
   constructor
   ·rintro ⟨h1, h2⟩
    rcases amE x y with h | h | h
    ·exact h
    ·exact absurd h.symm h2
    ·rw [h1] at h; cases h
   ·intro h
    exact ⟨apq h, fun e => by subst e; rw [BL, xE] at h; cases h⟩
  simp only [key, List.mem_cons, forall_eq_or_imp, List.pairwise_cons, Option.some.injEq, forall_eq']
  constructor
  ·rintro ⟨⟨h1, h2⟩, h3, h4, h5⟩
   exact ⟨⟨h1, h3⟩, ⟨h5, h4⟩, h2, fun z hz => XL _ _ _ h2 (h5 z hz)⟩
  ·rintro ⟨⟨h1, h3⟩, ⟨h5, h4⟩, h6, _⟩
   exact ⟨⟨h1, h6⟩, h3, h4, h5⟩
theorem Wq (l : List Str) : jw l = true ↔ (∀ x ∈ l, isName x = true) ∧ l.Pairwise BL := by
 unfold jw
 rw [abf]
 simp
theorem afy : ∀ (a b : List Str), a.Pairwise BL → b.Pairwise BL → (∀ y, y ∈ a ↔ y ∈ b) → a = b
  | [], [], _, _, _ => rfl
  | [], y :: b, _, _, h => by have := (h y).2 (by simp); cases this
  | x :: a, [], _, _, h => by have := (h x).1 (by simp); cases this
  | x :: a, y :: b, ha, hb, h => by
    rw [List.pairwise_cons] at ha hb
    have e : x = y := by
      rcases (List.mem_cons.1 ((h x).1 (by simp))) with h1 | h1
      · exact h1
      · rcases (List.mem_cons.1 ((h y).2 (by simp))) with h2 | h2
        · exact h2.symm
        · have := XL _ _ _ (hb.1 x h1) (ha.1 y h2)
          rw [xE] at this
          cases this
    subst e
    have nx : ∀ z, BL x z → z ≠ x := fun z hz e => by subst e; rw [BL, xE] at hz; cases hz
    rw [afy a b ha.2 hb.2 fun z => ?_]
    constructor
    · intro hz
      rcases List.mem_cons.1 ((h z).1 (by simp [hz])) with h1 | h1
      · exact absurd h1 (nx z (ha.1 z hz))
      · exact h1
    · intro hz
      rcases List.mem_cons.1 ((h z).2 (by simp [hz])) with h1 | h1
      · exact absurd h1 (nx z (hb.1 z hz))
      · exact h1
theorem ak7 {a b : List Str} (ha : jw a = true) (hb : jw b = true) (h : ∀ y, y ∈ a ↔ y ∈ b) : a = b := afy a b ((Wq a).1 ha).2 ((Wq b).1 hb).2 h
theorem JM (x : Str) : ∀ m : List Str, m.Pairwise BL → ∃ A B, m = A ++ B ∧ (∀ y ∈ A, BL y x) ∧ ∀ y ∈ B, Op.bytesLess y x = false
 | [], _ => ⟨[], [], rfl, by simp, by simp⟩
 | z :: m, h => by
  rw [List.pairwise_cons] at h
  cases hz : Op.bytesLess z x with
  | true =>
   obtain ⟨A, B, e, h1, h2⟩ := JM x m h.2
   exact ⟨z :: A, B, by rw [e]; rfl, by simp only [List.mem_cons, forall_eq_or_imp]; exact ⟨hz, h1⟩, h2⟩
  | false =>
   refine ⟨[], z :: m, rfl, by simp, ?_⟩
   simp only [List.mem_cons, forall_eq_or_imp]
   refine ⟨hz, fun y hy => ?_⟩
   cases hy' : Op.bytesLess y x with
   | false => rfl
   | true => have := XL _ _ _ (h.1 y hy) hy'; rw [hz] at this; cases this
theorem ade (less : Nat → Bool) (k n : Nat) (h1 : ∀ t, t < k → less t = true) (h2 : ∀ t, k ≤ t → t < n → less t = false) : ∀ (f lo hi : Nat), hi - lo ≤ f → lo ≤ k → k ≤ hi → hi ≤ n → Lib.bsGo less f lo hi = k
  | 0, lo, hi, hf, a, b, _ => by simp [Lib.bsGo]; omega
  | f + 1, lo, hi, hf, a, b, c => by
    unfold Lib.bsGo
    by_cases h : lo < hi
    · rw [if_pos h]
      by_cases hm : (lo + hi) / 2 < k
      · rw [h1 _ hm, if_pos rfl]; exact ade less k n h1 h2 f _ _ (by omega) (by omega) b c
      · rw [h2 _ (by omega) (by omega), if_neg (by simp)]; exact ade less k n h1 h2 f _ _ (by omega) a (by omega) (by omega)
    · rw [if_neg h]; omega
theorem aop {x : Str} {A B : List Str} (hA : ∀ y ∈ A, BL y x) (hB : ∀ y ∈ B, Op.bytesLess y x = false) : bsI (A ++ B) x = A.length := by
 unfold bsI
 refine ade _ A.length (A ++ B).length (fun t ht => ?_) (fun t ht ht' => ?_) _ _ _ (by omega) (by omega) (by simp) (by simp)
 ·rw [List.getD_eq_getElem?_getD, List.getElem?_append_left ht, List.getElem?_eq_getElem ht]
  exact hA _ (List.getElem_mem ht)
 ·rw [List.getD_eq_getElem?_getD, List.getElem?_eq_getElem ht', List.getElem_append_right ht]
  exact hB _ (List.getElem_mem _)
def mkS (k : Int) (x : Str) (m : List Str) : List Str := (Qh k x m).1
theorem akU {x : Str} {A B : List Str} (hs : (A ++ B).Pairwise BL) (hA : ∀ y ∈ A, BL y x) (hB : ∀ y ∈ B, Op.bytesLess y x = false) (k : Int) :
  (x ∈ A ++ B ∧ ∃ B', B = x :: B' ∧ (∀ y ∈ B', y ≠ x) ∧ Qh k x (A ++ B) = (if k = 109 then (A ++ B, false) else (A ++ B', true))) ∨
  (x ∉ A ++ B ∧ Qh k x (A ++ B) = (if k = 109 then (A ++ x :: B, true) else (A ++ B, false))) := by
 have hnA : x ∉ A := fun h => by have := hA x h; rw [BL, xE] at this; cases this
 have hi := aop hA hB
 have hd : abh (A ++ B) A.length = A ++ B.drop 1 := by simp [abh]
 have hn : KT (A ++ B) A.length x = A ++ x :: B := by simp [KT]
 unfold Qh
 rw [hi, hd, hn]
 cases B with
 | nil =>
  right
  rw [List.append_nil] at hs ⊢
  refine ⟨hnA, ?_⟩
  have : decide (A.length < A.length ∧ A.getD A.length [] = x) = false := by simp
  rw [this]
  by_cases h : k = 109 <;> simp [h]
 | cons y B =>
  have hg : (A ++ y :: B).getD A.length [] = y := by simp
  rw [hg]
  have hlt : A.length < (A ++ y :: B).length := by simp
  rw [List.pairwise_append, List.pairwise_cons] at hs
  by_cases e : y = x
  ·subst e
   left
   refine ⟨by simp, B, rfl, fun z hz e => ?_, ?_⟩
   ·subst e
    have := hs.2.1.1 z hz
    rw [BL, xE] at this
    cases this
   have : decide (A.length < (A ++ y :: B).length ∧ y = y) = true := by simp
   rw [this]
   by_cases h : k = 109 <;> simp [h]
  ·right
   refine ⟨fun hx => ?_, ?_⟩
   ·rcases List.mem_append.1 hx with h | h
    ·exact hnA h
    ·rcases List.mem_cons.1 h with h | h
     ·exact e h.symm
     ·have h1 := hs.2.1.1 x h
      have h9 := hB y (by simp)
      rw [show Op.bytesLess y x = true from h1] at h9
      cases h9
   ·have : decide (A.length < (A ++ y :: B).length ∧ y = x) = false := by simp [e]
    rw [this]
    by_cases h : k = 109 <;> simp [h]
theorem asS {x : Str} {m : List Str} (hm : jw m = true) (hx : isName x = true) : jw (mkS 109 x m) = true ∧ (∀ y, y ∈ mkS 109 x m ↔ y = x ∨ y ∈ m) ∧ (Qh 109 x m).2 = decide (x ∉ m) := by
 obtain ⟨h1, h2⟩ := (Wq m).1 hm
 obtain ⟨A, B, rfl, hA, hB⟩ := JM x m h2
 unfold mkS
 rcases akU h2 hA hB 109 with ⟨hin, B', rfl, _, e⟩ | ⟨hin, e⟩
 ·rw [e, if_pos rfl]
  refine ⟨hm, fun y => ?_, by simp⟩
  constructor
  ·exact .inr
  ·rintro (rfl | h)
   ·exact hin
   ·exact h
 ·rw [e, if_pos rfl]
  have hx' : ∀ y ∈ B, BL x y := fun y hy => by
   rcases amE x y with h | h | h
   ·exact h
   ·subst h; exact absurd (List.mem_append.2 (.inr hy)) hin
   ·have h9 := hB y hy; rw [show Op.bytesLess y x = true from h] at h9; cases h9
  rw [List.pairwise_append] at h2
  refine ⟨(Wq _).2 ⟨?_, ?_⟩, fun y => ?_, by simp [hin]⟩
  ·intro y hy
   rcases List.mem_append.1 hy with h | h
   ·exact h1 y (by simp [h])
   ·rcases List.mem_cons.1 h with rfl | h
    ·exact hx
    ·exact h1 y (by simp [h])
  ·rw [List.pairwise_append, List.pairwise_cons]
   refine ⟨h2.1, ⟨hx', h2.2.1⟩, fun a ha b hb => ?_⟩
   rcases List.mem_cons.1 hb with rfl | hb
   ·exact hA a ha
   ·exact h2.2.2 a ha b hb
  ·simp only [List.mem_append, List.mem_cons]
   constructor
   ·rintro (h | h | h)
    ·exact .inr (.inl h)
    ·exact .inl h
    ·exact .inr (.inr h)
   ·rintro (h | h | h)
    ·exact .inr (.inl h)
    ·exact .inl h
    ·exact .inr (.inr h)
theorem arh {k : Int} (hk : k ≠ 109) {x : Str} {m : List Str} (hm : jw m = true) : jw (mkS k x m) = true ∧ (∀ y, y ∈ mkS k x m ↔ y ≠ x ∧ y ∈ m) ∧ (Qh k x m).2 = decide (x ∈ m) := by
  obtain ⟨h1, h2⟩ := (Wq m).1 hm
  obtain ⟨A, B, rfl, hA, hB⟩ := JM x m h2
  unfold mkS
  rcases akU h2 hA hB k with ⟨hin, B', rfl, hB', e⟩ | ⟨hin, e⟩
  · rw [e, if_neg hk]
    have hnA : x ∉ A := fun h => by have := hA x h; rw [BL, xE] at this; cases this
    rw [List.pairwise_append, List.pairwise_cons] at h2
    refine ⟨(Wq _).2 ⟨fun y hy => ?_, ?_⟩, fun y => ?_, by simp⟩
    · rcases List.mem_append.1 hy with h | h
      · exact h1 y (by simp [h])
      · exact h1 y (by simp [h])
    · rw [List.pairwise_append]
      exact ⟨h2.1, h2.2.1.2, fun a ha b hb => h2.2.2 a ha b (by simp [hb])⟩
    · simp only [List.mem_append, List.mem_cons]
      constructor
      · rintro (h | h)
        · exact ⟨fun e => hnA (e ▸ h), .inl h⟩
        · exact ⟨hB' y h, .inr (.inr h)⟩
      · rintro ⟨h, h3 | h3 | h3⟩
        · exact .inl h3
        · exact absurd h3 h
        · exact .inr h3
  · rw [e, if_neg hk]
    refine ⟨hm, fun y => ?_, by simp [hin]⟩
    constructor
    · intro h
      exact ⟨fun e => hin (e ▸ h), h⟩
    · exact fun h => h.2
theorem asF (k : Int) {x : Str} {m : List Str} (hm : jw m = true) (hx : isName x = true) : jw (mkS k x m) = true := by
 by_cases h : k = 109
 ·subst h; exact (asS hm hx).1
 ·exact (arh h hm).1
theorem asf (k : Int) {x : Str} {m : List Str} (hm : jw m = true) (hx : isName x = true) : (Qh k x m).2 = decide (mkS k x m ≠ m) := by
 by_cases h : k = 109
 ·subst h
  obtain ⟨h1, h2, h3⟩ := asS hm hx
  rw [h3]
  congr 1
  apply propext
  constructor
  ·intro h4 e
   have := (h2 x).2 (.inl rfl)
   rw [e] at this
   exact h4 this
  ·intro h4 h5
   refine h4 (ak7 h1 hm fun y => ?_)
   rw [h2]
   constructor
   ·rintro (rfl | h)
    ·exact h5
    ·exact h
   ·exact .inr
 ·obtain ⟨h1, h2, h3⟩ := arh h hm (x := x)
  rw [h3]
  congr 1
  apply propext
  constructor
  ·intro h4 e
   rw [← e, h2] at h4
   exact h4.1 rfl
  ·intro h4
   by_cases h5 : x ∈ m
   ·exact h5
   ·refine absurd (ak7 h1 hm fun y => ?_) h4
    rw [h2]
    exact ⟨fun h => h.2, fun h => ⟨fun e => h5 (e ▸ h), h⟩⟩
end Go.Proofs.YtclohbgnaopjfaaDoor
namespace Go.Proofs.YtclohbgnaopjfaaDoor
set_option linter.unusedSimpArgs false
set_option linter.unusedVariables false
open Go Classical
section
variable (k : Int) (x : Str) (a b : Nat)
def mkT (i : Nat) : Tk → Tk
 | .sgn c m => .sgn c (if a ≤ i ∧ i < b then mkS k x m else m)
 | t => t
theorem ajV (i : Nat) (c : Int) (m : List Str) : mkT k x a b i (.sgn c m) = .sgn c (if a ≤ i ∧ i < b then mkS k x m else m) := rfl
theorem anA (i : Nat) (c : Str) (m : List zf) : mkT k x a b i (.opn c m) = .opn c m := rfl
theorem asD (i : Nat) : mkT k x a b i .cls = .cls := rfl
def ji : Nat → List Tk → List Tk
 | _, [] => []
 | i, t :: l => mkT k x a b i t :: ji (i + 1) l
theorem adr : ∀ (l r : List Tk) (i : Nat), ji k x a b i (l ++ r) = ji k x a b i l ++ ji k x a b (i + l.length) r
 | [], r, i => by simp [ji]
 | t :: l, r, i => by
  rw [List.cons_append, ji, ji, adr l r (i + 1), List.cons_append, List.length_cons]
  congr 3
  omega
theorem ahL : ∀ (l : List Tk) (i : Nat), (ji k x a b i l).length = l.length
 | [], i => rfl
 | t :: l, i => by rw [ji, List.length_cons, List.length_cons, ahL l]
theorem JY : ∀ (l : List Tk) (i d : Nat), dpT d (ji k x a b i l) = dpT d l
 | [], i, d => rfl
 | .sgn c m :: l, i, d => by rw [ji, ajV, dpT, dpT, JY l]
 | .opn c m :: l, i, d => by rw [ji, anA, dpT, dpT, JY l]
 | .cls :: l, i, d => by rw [ji, asD, dpT, dpT, JY l]
theorem auS (m : List Str) : wU (mkS k x m) ≤ wU m + 1 + x.length := by
 have ins : ∀ (m : List Str) (i : Nat), wU (KT m i x) = wU m + (1 + x.length) := by
  intro m i
  have app : ∀ p q : List Str, wU (p ++ q) = wU p + wU q := by
   intro p q
   induction p with
   | nil => simp [wU]
   | cons y p ih => simp only [List.cons_append, wU, ih]; omega
  have h := app (m.take i) (m.drop i)
  rw [List.take_append_drop] at h
  unfold KT
  rw [app, wU]
  omega
 have del : ∀ (m : List Str) (i : Nat), wU (abh m i) ≤ wU m := by
  intro m i
  have app : ∀ p q : List Str, wU (p ++ q) = wU p + wU q := by
   intro p q
   induction p with
   | nil => simp [wU]
   | cons y p ih => simp only [List.cons_append, wU, ih]; omega
  have h := app (m.take i) (m.drop i)
  rw [List.take_append_drop] at h
  have h2 := app ((m.drop i).take 1) ((m.drop i).drop 1)
  rw [List.take_append_drop, List.drop_drop] at h2
  unfold abh
  rw [app]
  omega
 unfold mkS Qh
 split
 ·show wU m ≤ _; omega
 ·split
  ·have := del m (bsI m x); show wU (abh m (bsI m x)) ≤ _; omega
  ·have := ins m (bsI m x); show wU (KT m (bsI m x) x) ≤ _; omega
def abk (o : List zn) (i : Nat) : List zn :=
 match o.getLast? with
 | some r => if r.Pos + r.Old = i then o.dropLast ++ [{ r with Old := r.Old + 1 }] else o ++ [⟨i, 1, 0⟩]
 | none => [⟨i, 1, 0⟩]
def atd (i : Nat) (o : List zn) : Tk → List zn
 | .sgn _ m => if a ≤ i ∧ i < b ∧ mkS k x m ≠ m then abk o i else o
 | _ => o
theorem akA (i : Nat) (o : List zn) (c : Int) (m : List Str) : atd k x a b i o (.sgn c m) = if a ≤ i ∧ i < b ∧ mkS k x m ≠ m then abk o i else o := rfl
def Ki : Nat → List Tk → List zn → List zn
 | _, [], o => o
 | i, t :: l, o => Ki (i + 1) l (atd k x a b i o t)
theorem agf : ∀ (l r : List Tk) (i : Nat) (o : List zn), Ki k x a b i (l ++ r) o = Ki k x a b (i + l.length) r (Ki k x a b i l o)
 | [], r, i, o => by simp [Ki]
 | t :: l, r, i, o => by
  rw [List.cons_append, Ki, Ki, agf l r (i + 1), List.length_cons]
  congr 1
  omega
end
theorem aaV (o : List zn) (r : zn) (i : Nat) : abk (o ++ [r]) i = if r.Pos + r.Old = i then o ++ [{ r with Old := r.Old + 1 }] else o ++ [r, ⟨i, 1, 0⟩] := by
 unfold abk
 rw [List.getLast?_append]
 simp
def Ju : List zn → Nat → Nat → List zn
 | o, _, 0 => o
 | o, i, n + 1 => Ju (abk o i) (i + 1) n
theorem aa1 (o : List zn) (r : zn) : ∀ (n i : Nat), r.Pos + r.Old = i → Ju (o ++ [r]) i n = o ++ [{ r with Old := r.Old + n }]
  | 0, i, h => by
    rw [Ju]
    cases r
    simp
  | n + 1, i, h => by
    rw [Ju, aaV, if_pos h, aa1 o _ n (i + 1) (by simp only; omega)]
    simp only [List.append_cancel_left_eq, List.cons.injEq, zn.mk.injEq, and_true, true_and]
    omega
theorem aqC (o : List zn) (i n : Nat) (hn : 0 < n) : Ju o i n = match o.getLast? with
    | some r => if r.Pos + r.Old = i then o.dropLast ++ [{ r with Old := r.Old + n }] else o ++ [⟨i, n, 0⟩]
    | none => [⟨i, n, 0⟩] := by
  obtain ⟨n, rfl⟩ : ∃ m, n = m + 1 := ⟨n - 1, by omega⟩
  rw [Ju]
  have key : ∀ o : List zn, Ju (o ++ [⟨i, 1, 0⟩]) (i + 1) n = o ++ [⟨i, (n + 1 : Nat), 0⟩] := by
    intro o
    rw [aa1 o _ n (i + 1) (by simp)]
    simp only [List.append_cancel_left_eq, List.cons.injEq, zn.mk.injEq, and_true, true_and]
    omega
  rcases wX o with rfl | ⟨o, r, rfl⟩
  · have := key []
    simpa [abk] using this
  · rw [aaV, List.getLast?_append]
    simp only [List.getLast?_singleton, Option.some_or, List.dropLast_concat]
    by_cases h : r.Pos + r.Old = i
    · rw [if_pos h, if_pos h, aa1 o _ n (i + 1) (by simp only; omega)]
      simp only [List.append_cancel_left_eq, List.cons.injEq, zn.mk.injEq, and_true, true_and]
      omega
    · rw [if_neg h, if_neg h]
      have := key (o ++ [r])
      simpa using this
theorem agB (k : Int) (x : Str) (a b : Nat) (m : List Str) : ∀ (cs : List Int) (i : Nat) (o : List zn), Ki k x a b i (cs.map fun c => Tk.sgn c m) o = if mkS k x m ≠ m then Ju o (i + min (a - i) cs.length) (min (b - i) cs.length - min (a - i) cs.length) else o
 | [], i, o => by simp [Ki, Ju]
 | c :: cs, i, o => by
  rw [List.map_cons, Ki, agB k x a b m cs (i + 1)]
  rw [akA]
  by_cases hm : mkS k x m ≠ m
  ·rw [if_pos hm, if_pos hm, List.length_cons]
   by_cases h1 : a ≤ i
   ·have e1 : a - i = 0 := by omega
    have e2 : a - (i + 1) = 0 := by omega
    rw [e1, e2, Nat.zero_min, Nat.zero_min]
    by_cases h2 : i < b
    ·rw [if_pos ⟨h1, h2, hm⟩]
     have e3 : min (b - i) (cs.length + 1) - 0 = min (b - (i + 1)) cs.length + 1 := by omega
     rw [e3, Ju]
     rfl
    ·rw [if_neg (fun h => h2 h.2.1)]
     have e3 : b - i = 0 := by omega
     have e4 : b - (i + 1) = 0 := by omega
     rw [e3, e4]
     simp [Ju]
   ·rw [if_neg (fun h => h1 h.1)]
    congr 1 <;> omega
  ·rw [if_neg hm, if_neg hm, if_neg (fun h => hm h.2.2)]
theorem ah6 (k : Int) (x : Str) (a b : Nat) (m : List Str) : ∀ (cs : List Int) (i : Nat), ji k x a b i (cs.map fun c => Tk.sgn c m) = ((cs.take (min (a - i) cs.length)).map fun c => Tk.sgn c m) ++ ((((cs.take (max (min (b - i) cs.length) (min (a - i) cs.length))).drop (min (a - i) cs.length)).map fun c => Tk.sgn c (mkS k x m)) ++ ((cs.drop (max (min (b - i) cs.length) (min (a - i) cs.length))).map fun c => Tk.sgn c m))
 | [], i => by simp [ji]
 | c :: cs, i => by
  rw [List.map_cons, ji, ah6 k x a b m cs (i + 1), ajV]
  simp only [List.length_cons]
  by_cases h1 : a ≤ i
  ·have e1 : a - i = 0 := by omega
   have e2 : a - (i + 1) = 0 := by omega
   rw [e1, e2, Nat.zero_min, Nat.zero_min]
   by_cases h2 : i < b
   ·rw [if_pos ⟨h1, h2⟩]
    have e3 : max (min (b - i) (cs.length + 1)) 0 = max (min (b - (i + 1)) cs.length) 0 + 1 := by omega
    rw [e3]
    simp
   ·rw [if_neg (fun h => h2 h.2)]
    have e3 : b - i = 0 := by omega
    have e4 : b - (i + 1) = 0 := by omega
    rw [e3, e4]
    simp
  ·rw [if_neg (fun h => h1 h.1)]
   have e1 : min (a - i) (cs.length + 1) = min (a - (i + 1)) cs.length + 1 := by omega
   have e2 : max (min (b - i) (cs.length + 1)) (min (a - (i + 1)) cs.length + 1) = max (min (b - (i + 1)) cs.length) (min (a - (i + 1)) cs.length) + 1 := by omega
   rw [e1, e2]
   simp
end Go.Proofs.YtclohbgnaopjfaaDoor
namespace Go.Proofs.YtclohbgnaopjfaaDoor
set_option linter.unusedSimpArgs false
set_option linter.unusedVariables false
open Go Classical
def RgOk (i : Nat) (o : List zn) : Prop := o.length ≤ i ∧ ∀ r ∈ o, 0 ≤ r.Pos ∧ 1 ≤ r.Old ∧ r.Pos + r.Old ≤ (i : Int)
theorem RgOk.mono {i j : Nat} {o : List zn} (h : RgOk i o) (hij : i ≤ j) : RgOk j o := ⟨by have := h.1; omega, fun r hr => by have := h.2 r hr; omega⟩
theorem ap0 {i : Nat} {o : List zn} (h : RgOk i o) : RgOk (i + 1) (abk o i) := by
  rcases wX o with rfl | ⟨o, r, rfl⟩
  · refine ⟨by simp [abk], fun r hr => ?_⟩
    simp only [abk, List.getLast?_nil, List.mem_singleton] at hr
    subst hr
    simp
  · obtain ⟨h1, h2⟩ := h
    have hr := h2 r (by simp)
    rw [List.length_append, List.length_singleton] at h1
    rw [aaV]
    split
    · refine ⟨by rw [List.length_append, List.length_singleton]; omega, fun y hy => ?_⟩
      rcases List.mem_append.1 hy with hy | hy
      · have := h2 y (by simp [hy]); omega
      · rw [List.mem_singleton] at hy
        subst hy
        simp only
        omega
    · refine ⟨by simp; omega, fun y hy => ?_⟩
      rcases List.mem_append.1 hy with hy | hy
      · have := h2 y (by simp [hy]); omega
      · rcases List.mem_cons.1 hy with rfl | hy
        · omega
        · rw [List.mem_singleton] at hy
          subst hy
          simp
theorem ara (k : Int) (x : Str) (a b : Nat) : ∀ (l : List Tk) (i : Nat) (o : List zn), RgOk i o → RgOk (i + l.length) (Ki k x a b i l o)
 | [], i, o, h => h
 | t :: l, i, o, h => by
  rw [Ki, List.length_cons]
  have h1 : RgOk (i + 1) (atd k x a b i o t) := by
   cases t with
   | sgn c m =>
    rw [akA]
    split
    ·exact ap0 h
    ·exact h.mono (by omega)
   | opn k' a' => exact h.mono (by omega)
   | cls => exact h.mono (by omega)
  have := ara k x a b l (i + 1) _ h1
  exact this.mono (by omega)
theorem arX (K F T : Int) (N : List za) (nm v : Str) (l : List zn) (j i n : Nat) (hn : 0 < n) (hi : i + n ≤ 1000000) (hl : RgOk j l) (hj : j ≤ i) :
    vX (i : Int) ((i + n : Nat) : Int) K F T N nm v l = some (K, F, T, N, nm, v, Ju l i n) := by
  obtain ⟨h1, h2⟩ := hl
  have hw : w64 (((i + n : Nat) : Int) - (i : Int)) = (n : Int) := by rw [kG (by omega)]; omega
  unfold vX
  rw [aqC l i n hn, hw]
  rcases wX l with rfl | ⟨o, r, rfl⟩
  · have e : w64 ((([] : List zn).length : Int) - 1) = -1 := rfl
    rw [e, if_neg (by decide), kQ (by simp)]
    rfl
  · have e : w64 (((o ++ [r]).length : Int) - 1) = (o.length : Int) := by
      rw [List.length_append, List.length_singleton] at h1 ⊢
      rw [kG (by omega)]
      omega
    have hr := h2 r (by simp)
    rw [e, if_pos (by simp), JQ o [] r]
    simp only [Option.bind_some]
    rw [kG (x := r.Pos + r.Old) (by omega), List.getLast?_append]
    simp only [List.getLast?_singleton, Option.some_or, List.dropLast_concat]
    by_cases hc : r.Pos + r.Old = (i : Int)
    · rw [if_pos (by simp [hc]), if_pos hc, kG (by omega), anT]
      rfl
    · rw [if_neg (by simpa using hc), if_neg hc, kQ (by simp at h1 ⊢; omega)]
      rfl
theorem ai1 (n : za) (m : List Str) (cs : List Int) (a b : Nat) (h1 : a ≤ b) (h2 : b ≤ cs.length) : wE (a : Int) (b : Int) m n cs = some ⟨n.Kind, zN ((cs.take b).drop a), m, [], []⟩ := by
 unfold wE
 rw [amN h1 h2]
 rfl
theorem asj (a i L : Nat) (ha : a ≤ 2000000) (hi : i ≤ 2000000) : (if (L : Int) < (if (0 : Int) > (w64 ((a : Int) - (i : Int))) then (0 : Int) else w64 ((a : Int) - (i : Int))) then (L : Int) else (if (0 : Int) > (w64 ((a : Int) - (i : Int))) then (0 : Int) else w64 ((a : Int) - (i : Int)))) = ((min (a - i) L : Nat) : Int) := by
  rw [kG (by omega)]
  split <;> split <;> omega
theorem to_eq (b i L f : Nat) (hb : b ≤ 2000000) (hi : i ≤ 2000000) (hf : f ≤ L) : (if (L : Int) < (if (f : Int) > (w64 ((b : Int) - (i : Int))) then (f : Int) else w64 ((b : Int) - (i : Int))) then (L : Int) else (if (f : Int) > (w64 ((b : Int) - (i : Int))) then (f : Int) else w64 ((b : Int) - (i : Int)))) = ((max (min (b - i) L) f : Nat) : Int) := by
  rw [kG (by omega)]
  split <;> split <;> omega
theorem ahD {k : Int} {x : Str} {m : List Str} (hm : mkS k x m = m) (a b : Nat) : ∀ (cs : List Int) (i : Nat), ji k x a b i (cs.map fun c => Tk.sgn c m) = cs.map fun c => Tk.sgn c m
 | [], i => rfl
 | c :: cs, i => by rw [List.map_cons, ji, ajV, ahD hm a b cs, hm]; simp
def Parts (l : List za) : Prop := ∀ p ∈ l, isT p = true ∧ (qA p = true ∨ (p.Text = [] ∧ p.zt = [] ∧ p.Kids = []))
theorem aje (m : List Str) {cs : List Int} (h : ∀ c ∈ cs, VR c) (hm : jw m = true) : tkN ⟨jq, zN cs, m, [], []⟩ = (cs.map fun c => Tk.sgn c m) ∧ (qA ⟨jq, zN cs, m, [], []⟩ = true ∨ zN cs = []) ∧ nwt ⟨jq, zN cs, m, [], []⟩ = 6 + (zN cs).length + wU m := by
 obtain ⟨h1, h2⟩ := aiL h
 refine ⟨?_, ?_, by rw [wH]; simp [ky, zS]⟩
 ·rw [kT]
  have : isT (⟨jq, zN cs, m, [], []⟩ : za) = true := by simp [isT]
  rw [this, if_pos rfl, h1]
 ·by_cases e : zN cs = []
  ·exact .inr e
  ·exact .inl (am1 e h2 hm)
theorem arJ {n : za} (hf : qA n = true) (ht : isT n = true) (k : Int) {x : Str} (hx : isName x = true) (a b i : Nat) (ha : a ≤ 2000000) (hb : b ≤ 2000000) (hi : i + kz n ≤ 1000000) (N : List za) (v : Str) (o : List zn) (ho : RgOk i o) (hw : nwt n ≤ 1000000000) :
    ∃ out, vV n (i : Int) k (a : Int) (b : Int) N x v o = some (out, k, (a : Int), (b : Int), N, x, v, Ki k x a b i (tkN n) o) ∧ Parts out ∧ tkL out = ji k x a b i (tkN n) ∧ zS out ≤ 3 * nwt n + 1 + x.length ∧ out.length ≤ 3 := by
  obtain ⟨t1, t2, t3, t4, t5⟩ := yD hf ht
  have hk := Yr ht
  have hcs := akh t2
  have hsz : kz n = (runes n.Text).length := by rw [xz, ht, KC]; rfl
  have hone : Parts [n] ∧ zS [n] ≤ 3 * nwt n + 1 + x.length := by
    refine ⟨fun p hp => ?_, by simp only [zS]; omega⟩
    rw [List.mem_singleton] at hp
    subst hp
    exact ⟨ht, .inl hf⟩
  have htl : tkL [n] = tkN n := by simp [tkL]
  have htk : tkN n = (runes n.Text).map fun c => Tk.sgn c n.Marks := by rw [kT, if_pos ht]
  have hmw := auS k x n.Marks
  have hmr := asF k t3 hx
  have hml : n.Marks.length ≤ 1099511627776 := by have := ae6 n.Marks; rw [wH] at hw; omega
  have hwn : nwt n = 6 + n.Text.length + wU n.Marks := by rw [wH, hk, t4, t5]; simp [ky, zS]
  have hval := Wj t2
  unfold vV Ql
  rw [wI hml]
  simp only [Option.bind_some]
  rw [asf k t3 hx, asj a i _ ha (by omega), to_eq b i _ _ hb (by omega) (by omega)]
  have e1 : (Qh k x n.Marks).1 = mkS k x n.Marks := rfl
  rw [e1, htk]
  generalize hcsd : runes n.Text = cs at *
  by_cases hm : mkS k x n.Marks = n.Marks
  · refine ⟨[n], ?_, hone.1, by rw [ahD hm, htl, htk], hone.2, by simp⟩
    rw [if_pos (by simp [hm]), agB, if_neg (by simpa using hm)]
  · rw [if_neg (by simp [hm]), agB, if_pos hm, ah6]
    have hfL : min (a - i) cs.length ≤ cs.length := by omega
    have htL : max (min (b - i) cs.length) (min (a - i) cs.length) ≤ cs.length := by omega
    have hft : min (a - i) cs.length ≤ max (min (b - i) cs.length) (min (a - i) cs.length) := by omega
    have hd : min (b - i) cs.length - min (a - i) cs.length = max (min (b - i) cs.length) (min (a - i) cs.length) - min (a - i) cs.length := by omega
    rw [hd]
    generalize min (a - i) cs.length = f at *
    generalize max (min (b - i) cs.length) f = t at *
    by_cases hft' : (f : Int) = (t : Int)
    · obtain rfl : f = t := by omega
      rw [if_pos (by simp)]
      refine ⟨[n], ?_, hone.1, ?_, hone.2, by simp⟩
      · rw [Nat.sub_self, Ju]
      · rw [htl, htk, List.drop_take_self, List.map_nil, List.nil_append, ← List.map_append, List.take_append_drop]
    · rw [if_neg (by simpa using hft'), kG (by omega), kG (by omega)]
      have n1 : ((i : Int) + (f : Int)) = ((i + f : Nat) : Int) := by omega
      have n2 : ((i : Int) + (t : Int)) = ((i + f + (t - f) : Nat) : Int) := by omega
      rw [n1, n2, arX _ _ _ _ _ _ o i (i + f) (t - f) (by omega) (by omega) ho (by omega)]
      simp only [Option.bind_some]
      have z0 : (0 : Int) = ((0 : Nat) : Int) := rfl
      rw [z0, ai1 n _ cs 0 f (by omega) hfL, ai1 n _ cs f t hft htL, ai1 n _ cs t cs.length htL (Nat.le_refl _), hk]
      simp only [Option.bind_some, List.drop_zero, List.take_length]
      have v1 : ∀ c ∈ cs.take f, VR c := fun c hc => hcs c (List.mem_of_mem_take hc)
      have v2 : ∀ c ∈ (cs.take t).drop f, VR c := fun c hc => hcs c (List.mem_of_mem_take (List.mem_of_mem_drop hc))
      have v3 : ∀ c ∈ cs.drop t, VR c := fun c hc => hcs c (List.mem_of_mem_drop hc)
      obtain ⟨p1, q1, w1⟩ := aje n.Marks v1 t3
      obtain ⟨p2, q2, w2⟩ := aje (mkS k x n.Marks) v2 hmr
      obtain ⟨p3, q3, w3⟩ := aje n.Marks v3 t3
      refine ⟨_, rfl, ?_, ?_, ?_, by simp⟩
      · intro p hp
        simp only [List.mem_cons, List.not_mem_nil, or_false] at hp
        rcases hp with rfl | rfl | rfl
        · exact ⟨by simp [isT], q1.imp id fun h => ⟨h, rfl, rfl⟩⟩
        · exact ⟨by simp [isT], q2.imp id fun h => ⟨h, rfl, rfl⟩⟩
        · exact ⟨by simp [isT], q3.imp id fun h => ⟨h, rfl, rfl⟩⟩
      · simp only [tkL, p1, p2, p3, List.append_nil]
      · have hl : zN cs = zN (cs.take f) ++ (zN ((cs.take t).drop f) ++ zN (cs.drop t)) := by
          rw [← abU, ← abU]
          congr 1
          have h1 : cs.take f = (cs.take t).take f := by rw [List.take_take]; congr 1; omega
          rw [← List.append_assoc, h1, List.take_append_drop, List.take_append_drop]
        have hlen := congrArg List.length hl
        rw [hval] at hlen
        simp only [List.length_append] at hlen
        simp only [zS, w1, w2, w3]
        omega
theorem abd : ∀ (l o : List za), yU o → (∀ p ∈ l, qA p = true ∨ (isT p = true ∧ p.Text = [] ∧ p.zt = [] ∧ p.Kids = [])) → yU (l.foldl joinStep o) ∧ tkL (l.foldl joinStep o) = tkL o ++ tkL l
  | [], o, ho, _ => ⟨ho, by simp [tkL]⟩
  | p :: l, o, ho, h => by
    rw [List.foldl_cons]
    rcases h p (by simp) with hp | ⟨h1, h2, h3, h4⟩
    · obtain ⟨g1, g2⟩ := abd l _ (ahn o p ho hp) fun y hy => h y (by simp [hy])
      refine ⟨g1, ?_⟩
      have hi := (aga o p ho.gd (anU hp)).1
      have : tkL (joinStep o p) = tkL o ++ tkN p := by rw [← Ky, hi, anC, Ky, am3]
      rw [g2, this, tkL, List.append_assoc]
    · have e : joinStep o p = o := by unfold joinStep; rw [if_pos (by simp [h1, h2])]
      have e2 : tkN p = [] := by rw [kT, if_pos h1, h2, V4]; rfl
      rw [e]
      obtain ⟨g1, g2⟩ := abd l o ho fun y hy => h y (by simp [hy])
      exact ⟨g1, by rw [g2, tkL, e2, List.nil_append]⟩
theorem anS (k : Int) {x : Str} (hx : isName x = true) (a b : Nat) (ha : a ≤ 2000000) (hb : b ≤ 2000000) (N : List za) (v : Str) (r : List za → Int → Int → Int → Int → List za → Str → Str → List zn → Option (List za × Int × Int × Int × List za × Str × Str × List zn)) :
    ∀ (l : List za) (j : Int) (i : Nat) (out : List za) (o : List zn), (∀ y ∈ l, qA y = true) →
      (∀ y ∈ l, isT y = false → ∀ (i : Nat) (o : List zn), RgOk i o → i + zO y.Kids ≤ 1000000 → ∃ out, r y.Kids (i : Int) k (a : Int) (b : Int) N x v o = some (out, k, (a : Int), (b : Int), N, x, v, Ki k x a b i (tkL y.Kids) o) ∧ yU out ∧ tkL out = ji k x a b i (tkL y.Kids) ∧ zS out + 21 * zO y.Kids ≤ 24 * zS y.Kids) →
      RgOk i o → i + zO l ≤ 1000000 → zS l ≤ 10000000 → x.length ≤ 20 → (∀ p ∈ out, qA p = true ∨ (isT p = true ∧ p.Text = [] ∧ p.zt = [] ∧ p.Kids = [])) → (out.length + 3 * l.length) ≤ 1000000000 →
      ∃ out', qa r l j (i : Int) out k (a : Int) (b : Int) N x v o = some (out ++ out', k, (a : Int), (b : Int), N, x, v, Ki k x a b i (tkL l) o) ∧ (∀ p ∈ out', qA p = true ∨ (isT p = true ∧ p.Text = [] ∧ p.zt = [] ∧ p.Kids = [])) ∧ tkL out' = ji k x a b i (tkL l) ∧ zS out' + 21 * zO l ≤ 24 * zS l
  | [], j, i, out, o, _, _, _, _, _, _, _, _ => ⟨[], by simp [qa, Ki, tkL], by simp, by simp [tkL, ji], by simp [zS, zO]⟩
  | y :: l, j, i, out, o, hf, hr, ho, hs, hw, hxl, hp, hln => by
    have hy := hf y (by simp)
    have hsz := size_pos hy
    simp only [zO] at hs
    simp only [zS] at hw
    have hyw := aha y
    rw [qa, size_eq y (by omega)]
    simp only [Option.bind_some]
    rw [Wd, kG (x := (i : Int) + (kz y : Int)) (by omega)]
    have e1 : ((i : Int) + (kz y : Int)) = ((i + kz y : Nat) : Int) := by omega
    have hlen := ajt y
    rw [e1]
    have go : ∀ (P : List za) (o' : List zn), (∀ p ∈ P, qA p = true ∨ (isT p = true ∧ p.Text = [] ∧ p.zt = [] ∧ p.Kids = [])) → o' = Ki k x a b i (tkN y) o → tkL P = ji k x a b i (tkN y) → zS P + 21 * kz y ≤ 24 * nwt y → P.length ≤ 3 → ∃ out', qa r l (j + 1) ((i + kz y : Nat) : Int) (out ++ P) k (a : Int) (b : Int) N x v o' = some (out ++ out', k, (a : Int), (b : Int), N, x, v, Ki k x a b i (tkL (y :: l)) o) ∧ (∀ p ∈ out', qA p = true ∨ (isT p = true ∧ p.Text = [] ∧ p.zt = [] ∧ p.Kids = [])) ∧ tkL out' = ji k x a b i (tkL (y :: l)) ∧ zS out' + 21 * zO (y :: l) ≤ 24 * zS (y :: l) := by
      intro P o' h1 h2 h3 h4 h5
      subst h2
      obtain ⟨Q, q1, q2, q3, q4⟩ := anS k hx a b ha hb N v r l (j + 1) (i + kz y) (out ++ P) (Ki k x a b i (tkN y) o) (fun z hz => hf z (by simp [hz])) (fun z hz => hr z (by simp [hz])) (by have := ara k x a b (tkN y) i o ho; rw [hlen] at this; exact this) (by omega) (by omega) hxl (fun p hp' => by
        rcases List.mem_append.1 hp' with h | h
        · exact hp p h
        · exact h1 p h) (by simp only [List.length_append, List.length_cons] at hln ⊢; omega)
      refine ⟨P ++ Q, ?_, fun p hp' => ?_, ?_, ?_⟩
      · rw [q1, tkL, agf, hlen, List.append_assoc]
      · rcases List.mem_append.1 hp' with h | h
        · exact h1 p h
        · exact q2 p h
      · rw [ae7, h3, q3, tkL, adr, hlen]
      · rw [Zd]; simp only [zO, zS]; omega
    by_cases ht : isT y = true
    · rw [if_pos ht]
      obtain ⟨P, g1, g2, g3, g4, g5⟩ := arJ hy ht k hx a b i ha hb (by omega) N v o ho (by omega)
      rw [g1]
      simp only [Option.bind_some]
      rw [kQ (by simp only [List.length_cons] at hln; omega)]
      simp only [Option.bind_some]
      have hyw6 : 6 + kz y ≤ nwt y := by
        have := wH y
        have hk := Yr ht
        have h2 := ajb y.Text
        have h3 : kz y = afu y.Text := by rw [xz, if_pos ht]
        rw [hk] at this
        simp only [jq, List.length_cons, List.length_nil] at this
        omega
      have hb2 : zS P + 21 * kz y ≤ 24 * nwt y := by omega
      exact go P _ (fun p hp' => (g2 p hp').2.imp id fun h => ⟨(g2 p hp').1, h⟩) rfl g3 hb2 g5
    · have ht' : isT y = false := by simpa using ht
      rw [if_neg ht]
      have hsy := Jd ht'
      obtain ⟨Q, g1, g2, g3, g4⟩ := hr y (by simp) ht' (i + 1) o (ho.mono (by omega)) (by omega)
      have e2 : w64 ((i : Int) + 1) = ((i + 1 : Nat) : Int) := by rw [kG (by omega)]; omega
      rw [e2, g1]
      simp only [Option.bind_some]
      rw [kQ (by simp only [List.length_cons, List.length_nil] at hln ⊢; omega)]
      simp only [Option.bind_some]
      have hfy := adl hy ht' g2
      have hty : isT ({ y with Kids := Q } : za) = false := ht'
      have htk : tkN y = Tk.opn y.Kind y.zt :: (tkL y.Kids ++ [Tk.cls]) := by rw [kT, if_neg (by simp [ht'])]
      refine go [{ y with Kids := Q }] _ (fun p hp' => ?_) ?_ ?_ ?_ (by simp)
      · rw [List.mem_singleton] at hp'
        subst hp'
        exact .inl hfy
      · rw [htk, Ki, agf]
        rfl
      · simp only [tkL, List.append_nil]
        rw [kT, if_neg (by simp [hty]), htk, ji, adr, anA, g3]
        rfl
      · have w1 := wH y
        have w2 := wH ({ y with Kids := Q } : za)
        simp only at w2
        simp only [zS]
        omega
theorem al0 (k : Int) {x : Str} (hx : isName x = true) (hxl : x.length ≤ 20) (a b : Nat) (ha : a ≤ 2000000) (hb : b ≤ 2000000) (N : List za) (v : Str) : ∀ (kr : Nat) (l : List za), yU l → xh l < kr → ∀ (i : Nat) (o : List zn), RgOk i o → i + zO l ≤ 1000000 → zS l ≤ 10000000 → ∃ out, qx kr l (i : Int) k (a : Int) (b : Int) N x v o = some (out, k, (a : Int), (b : Int), N, x, v, Ki k x a b i (tkL l) o) ∧ yU out ∧ tkL out = ji k x a b i (tkL l) ∧ zS out + 21 * zO l ≤ 24 * zS l
  | 0, l, _, h, _, _, _, _, _ => by omega
  | kr + 1, l, hl, hd, i, o, ho, hs, hw => by
    have hlen := kH l
    obtain ⟨P, h1, h2, h3, h4⟩ := anS k hx a b ha hb N v (qx kr) l 0 i [] o hl.form (fun y hy ht i o ho hs => by
      have hm := yc hy
      have hw2 := Qb hy
      have hk := ZQ y
      rw [yw] at hm
      exact al0 k hx hxl a b ha hb N v kr y.Kids (Qg (hl.form y hy) ht) (by omega) i o ho hs (by omega)) ho hs hw hxl (by simp) (by simp; omega)
    rw [qx, wI (by omega), h1]
    simp only [Option.bind_some, List.nil_append]
    rw [aq3 P (by omega)]
    obtain ⟨g1, g2⟩ := abd P [] .nil h2
    have hj := alI P
    refine ⟨WW P, rfl, g1, ?_, by omega⟩
    show tkL (P.foldl joinStep []) = _
    rw [g2, h3]
    rfl
theorem an1 {n : za} {T : List Tk} (h : TD n T) (k : Int) {x : Str} (hx : isName x = true) (hxl : x.length ≤ 20) (a b : Nat) (hab : a ≤ 2000000) (hb : b ≤ T.length) (hw : wD n T ≤ 5000000) :
    ∃ N, yf n ⟨k, (a : Int), (b : Int), [], x, []⟩ = some (N, Ki k x a b 0 T [], 0) ∧ TD N (ji k x a b 0 T) ∧ N.Kind = n.Kind ∧ N.zt = n.zt := by
  have hs := h.small
  have hl := h.len
  have hwt := h.wt
  have hwk := ZQ n
  obtain ⟨out, h1, h2, h3, h4⟩ : ∃ out, vW n.Kids 0 k (a : Int) (b : Int) [] x [] [] = some (out, k, (a : Int), (b : Int), [], x, [], Ki k x a b 0 (tkL n.Kids) []) ∧ yU out ∧ tkL out = ji k x a b 0 (tkL n.Kids) ∧ zS out + 21 * zO n.Kids ≤ 24 * zS n.Kids := by
    obtain ⟨out, h1, h2⟩ := al0 k hx hxl a b hab (by omega) [] [] (xh n.Kids + 1) n.Kids h.row (by omega) 0 [] ⟨by simp, by simp⟩ (by omega) (by omega)
    refine ⟨out, ?_, h2⟩
    unfold vW
    refine KU (xh n.Kids + 1) fun kr hk => ?_
    obtain ⟨out', g1, g2, g3, _⟩ := al0 k hx hxl a b hab (by omega) [] [] kr n.Kids h.row (by omega) 0 [] ⟨by simp, by simp⟩ (by omega) (by omega)
    have e : out' = out := anQ g2 h2.1 (by rw [g3, h2.2.1])
    subst e
    exact g1
  rw [h.tk] at h1 h3
  refine ⟨{ n with Kids := out }, ?_, TD.of (adl h.form h.nt h2) h.nt h3 (by rw [JY]; exact h.deep) (by rw [ahL]; exact hs), rfl, rfl⟩
  unfold yf
  rw [acP n.Kids (by omega)]
  simp only [Option.bind_some]
  rw [if_neg (by simp; omega), h1]
  rfl
end Go.Proofs.YtclohbgnaopjfaaDoor
namespace Go.Proofs.YtclohbgnaopjfaaDoor
set_option linter.unusedSimpArgs false
set_option linter.unusedVariables false
open Go
abbrev xN (l : List za) : za := ⟨[120], [], [], [], l⟩
theorem auz (l : List za) : nwt (xN l) = zS l + 3 := by
 rw [wH]; simp [wU, ky]; omega
end Go.Proofs.YtclohbgnaopjfaaDoor
namespace Go.Proofs.YtclohbgnaopjfaaDoor
set_option linter.unusedSimpArgs false
set_option linter.unusedVariables false
open Go
def aei (f t : Int) : Bool := decide (0 ≤ f) && (decide (f ≤ t) && decide (t ≤ 1048576))
def srB (s : zz) : Bool :=
 if s.Kind = 114 then aei s.From s.To && (qA (xN s.wC) && (s.Name == [] && s.Value == []))
 else if s.Kind = 97 then decide (-1 ≤ s.From) && (decide (s.From ≤ 1048576) && (decide (s.To = 0) && (isName s.Name && (isValue s.Value && s.wC.isEmpty))))
 else if s.Kind = 109 ∨ s.Kind = 117 then aei s.From s.To && (isName s.Name && (s.wC.isEmpty && s.Value == []))
 else false
theorem arD (f t : Int) : ((if (decide (f ≥ (0 : Int))) = true then if (decide (f ≤ t)) = true then some (decide (t ≤ (1048576 : Int))) else some false else some false) : Option Bool) = some (aei f t) := by
 unfold aei
 by_cases a : f ≥ 0
 ·by_cases b : f ≤ t
  ·have : (0 : Int) ≤ f := a
   simp [b, this]
  ·have : (0 : Int) ≤ f := a
   simp [b, this]
 ·have : ¬ (0 : Int) ≤ f := a
  simp [this]
theorem aok (n : za) : (checkN n != (2 : Int)) = qA n := by
 unfold checkN
 cases qA n with
 | false => rfl
 | true =>
  simp only [Bool.true_eq_false, if_false]
  split
  ·rfl
  ·split <;> rfl
theorem ac1 {α : Type} (l : List α) : ((l.length : Int) == (0 : Int)) = l.isEmpty := by
 cases l with
 | nil => rfl
 | cons x l =>
  simp only [List.length_cons, List.isEmpty_cons, beq_eq_false_iff_ne, ne_eq]
  omega
theorem aou (a b : Str) : ((a ++ b) == ([] : Str)) = (a == [] && b == []) := by
 cases a <;> cases b <;> rfl
theorem aaH (s : zz) (hw : zS s.wC ≤ 268435400) (h1 : s.Name.length ≤ 1048576) (h2 : s.Value.length ≤ 1048576) : x8 s = some (srB s) := by
  obtain ⟨k, f, t, l, n, v⟩ := s
  simp only at hw h1 h2
  have hxw := auz l
  unfold x8 srB
  simp only
  rw [arD]
  simp only [Option.bind_some]
  by_cases hk : k = 114
  · subst hk
    rw [if_pos (by decide), akX (xN l) (by omega), if_pos rfl]
    simp only [Option.bind_some]
    rw [aok, wI (by omega), aou]
    cases aei f t <;> cases qA (xN l) <;> rfl
  · rw [if_neg (by simpa using hk), if_neg hk]
    by_cases hk2 : k = 97
    · subst hk2
      rw [if_pos (by decide), if_pos rfl, abz n (by omega), akQ v (by omega), ac1]
      simp only [Option.bind_some]
      have e1 : decide (f ≥ -1) = decide (-1 ≤ f) := rfl
      have e2 : (t == 0) = decide (t = 0) := by by_cases h : t = 0 <;> simp [h]
      rw [e1, e2]
      cases decide (-1 ≤ f) <;> cases decide (f ≤ 1048576) <;> cases decide (t = 0) <;> cases isName n <;> cases isValue v <;> rfl
    · rw [if_neg (by simpa using hk2), if_neg hk2]
      by_cases hk3 : k = 109
      · subst hk3
        rw [if_pos (by decide), if_pos (show (109 : Int) = 109 ∨ (109 : Int) = 117 from .inl rfl), abz n (by omega), ac1]
        simp only [Option.bind_some]
        cases aei f t <;> cases isName n <;> cases l.isEmpty <;> rfl
      · rw [if_neg (by simpa using hk3)]
        by_cases hk4 : k = 117
        · subst hk4
          rw [if_pos (by decide), if_pos (show (117 : Int) = 109 ∨ (117 : Int) = 117 from .inr rfl), abz n (by omega), ac1]
          simp only [Option.bind_some]
          cases aei f t <;> cases isName n <;> cases l.isEmpty <;> rfl
        · rw [if_neg (by simpa using hk4), if_neg (by omega)]
end Go.Proofs.YtclohbgnaopjfaaDoor
namespace Go.Proofs.YtclohbgnaopjfaaDoor
set_option linter.unusedSimpArgs false
set_option linter.unusedVariables false
open Go
theorem aiC : ∀ (path : List Int) (v : Int) (n : za), isT n = false → (∃ q m a, path = up q ∧ At n q m a) ∨ qw path v n = some (.inl (arz, 9)) ∨ ∃ m, qw path v n = some (.inr m) ∧ isT m = true
  | [], v, n, hn => .inl ⟨[], n, 0, rfl, .nil n⟩
  | y :: suf, v, n, hn => by
    by_cases h1 : y < 0
    · right; left
      rw [qw]; simp [h1]
    · by_cases h2 : y ≥ (n.Kids.length : Int)
      · right; left
        rw [qw]; simp [h2]
      · obtain ⟨i, rfl⟩ := Int.eq_ofNat_of_zero_le (show 0 ≤ y by omega)
        have hl : i < n.Kids.length := by omega
        obtain ⟨k, hk⟩ : ∃ k, n.Kids[i]? = some k := ⟨_, List.getElem?_eq_getElem hl⟩
        have g1 : decide ((i : Int) < 0) = false := by simp
        have g2 : decide ((i : Int) ≥ (n.Kids.length : Int)) = false := by simp; omega
        have step : qw ((i : Int) :: suf) v n = qw suf (v + 1) k := by
          rw [qw]
          simp only [g1, g2, Wd, hn, Bool.false_eq_true, if_false, VJ hk, Option.bind_some]
        rw [step]
        by_cases ht : isT k = true
        · cases suf with
          | nil => exact .inr (.inr ⟨k, rfl, ht⟩)
          | cons z suf =>
            right; left
            rw [qw]
            simp only [Wd, ht, if_true]
            split
            · rfl
            · split <;> rfl
        · rcases aiC suf (v + 1) k (by simpa using ht) with ⟨q, m, a, rfl, h⟩ | h | h
          · exact .inl ⟨i :: q, m, _, rfl, .cons n i k q m a hk hn (by simpa using ht) h⟩
          · exact .inr (.inl h)
          · exact .inr (.inr h)
theorem akE (n : za) (path : List Int) (hn : isT n = false) (hp : path.length ≤ 9223372036854775807) : (∃ q m a, path = up q ∧ At n q m a) ∨ kS n path = some (arz, 9) := by
 rcases aiC path 0 n hn with h | h | ⟨m, h, hm⟩
 ·exact .inl h
 ·right
  unfold kS
  rw [wI hp, h]
  rfl
 ·right
  unfold kS
  rw [wI hp, h]
  simp only [Option.bind_some, Wd, hm, if_true]
end Go.Proofs.YtclohbgnaopjfaaDoor
namespace Go.Proofs.YtclohbgnaopjfaaDoor
set_option linter.unusedSimpArgs false
set_option linter.unusedVariables false
open Go Classical
theorem atA {n : za} {T : List Tk} (h : TD n T) (hw : wD n T ≤ 100000000) {p : Nat} {k : Str} {aa : List zf} (hp : T[p]? = some (.opn k aa)) :
    ∃ q i x, kN n (p : Int) = some (⟨up q, ((i : Nat) : Int), 0⟩, 0) ∧ At n (q ++ [i]) x (p + 1) ∧ isT x = false ∧ x.Kind = k ∧ x.zt = aa := by
  have hl := h.len
  have hwt := h.wt
  have hpl := (List.getElem?_eq_some_iff.1 hp).1
  obtain ⟨s, hs, hok⟩ := af6 h.nt (by omega) p (by omega)
  obtain ⟨q, m, a, idx, off, rfl, hat, hm, hidx, hpos, hk, hend⟩ := hok
  obtain ⟨P1, S1, e1, e2, e3⟩ := at_end hat
  rw [h.tk] at e2
  have fm := Qg (hat.form h.form) hm
  have hts := Kg (m.Kids.take idx)
  rcases Nat.lt_or_ge idx m.Kids.length with hi | hi
  · obtain ⟨x, hx⟩ : ∃ x, m.Kids[idx]? = some x := ⟨_, List.getElem?_eq_getElem hi⟩
    obtain ⟨g1, g2⟩ := hk x hx
    have fx := fm.form x (List.mem_of_getElem? hx)
    have hsp := Jk hx
    have hg : T[p]? = (tkN x)[off]? := by
      rw [e2, hsp, List.getElem?_append_right (by omega), List.append_assoc, List.getElem?_append_right (by omega), List.append_assoc, List.getElem?_append_left (by rw [ajt]; omega)]
      congr 1
      omega
    rw [hp] at hg
    cases ht : isT x with
    | true =>
      exfalso
      rw [kT, if_pos ht, List.getElem?_map] at hg
      cases hr : (runes x.Text)[off]? with
      | none => rw [hr] at hg; cases hg
      | some c => rw [hr] at hg; cases hg
    | false =>
      have h0 : off = 0 := by
        by_cases h0 : 0 < off
        · rw [g2 h0] at ht; cases ht
        · omega
      subst h0
      rw [kT, if_neg (by simp [ht])] at hg
      simp only [List.getElem?_cons_zero, Option.some.injEq, Tk.opn.injEq] at hg
      refine ⟨q, idx, x, hs, ?_, ht, hg.1.symm, hg.2.symm⟩
      have := hat.snoc hx hm ht
      rwa [show a + zO (m.Kids.take idx) + 1 = p + 1 from by omega] at this
  · exfalso
    have h0 := hend (by omega)
    have ha : m.Kids.take idx = m.Kids := List.take_of_length_le hi
    rw [ha] at hpos hts
    have hg : T[p]? = S1[0]? := by
      rw [e2, List.getElem?_append_right (by omega), List.getElem?_append_right (by omega)]
      congr 1
      omega
    rw [hp] at hg
    cases S1 with
    | nil => cases hg
    | cons t S1 =>
      simp only [List.getElem?_cons_zero, Option.some.injEq] at hg
      subst hg
      exact e3
theorem ah8 (l : List Int) (h : l.length ≤ 10000000) : slices_Clone_int l = some l := by
  unfold slices_Clone_int
  rw [kQ (by simp; omega)]
  rfl
theorem an8 (l : List zf) (h : l.length ≤ 1000000000) : kY l = some l := by
  unfold kY
  rw [kQ (by simp; omega)]
  rfl
theorem JL {n : za} {T : List Tk} (h : TD n T) (hw : wD n T ≤ 100000000) {p : Nat} {k : Str} {aa : List zf} (hp : T[p]? = some (.opn k aa)) :
    ∃ q x, yl n (p : Int) = some (up q, true) ∧ At n q x (p + 1) ∧ isT x = false ∧ x.Kind = k ∧ x.zt = aa := by
  obtain ⟨q, i, x, h1, h2, h3, h4, h5⟩ := atA h hw hp
  refine ⟨q ++ [i], x, ?_, h2, h3, h4, h5⟩
  have hq := h2.len
  rw [List.length_append, List.length_singleton] at hq
  have hsm := h.small
  have hpl := (List.getElem?_eq_some_iff.1 hp).1
  have hne : ((p : Int) == -1) = false := by simp
  have e : up q ++ [(i : Int)] = up (q ++ [i]) := by rw [amc]; rfl
  unfold yl
  rw [hne, h1]
  simp only [Bool.false_eq_true, if_false, Option.bind_some, bne_self_eq_false, gt_iff_lt, Int.lt_irrefl, decide_false]
  rw [ah8 _ (by rw [J2]; omega)]
  simp only [Option.bind_some]
  rw [kQ (by rw [J2]; simp; omega)]
  simp only [Option.bind_some]
  rw [e, Yi h2 h3 (by simp; omega)]
  rfl
theorem alV {n : za} {T : List Tk} (h : TD n T) (hw : wD n T ≤ 100000000) {p : Int} (hp : 0 ≤ p) (hno : ∀ k aa, T[p.toNat]? ≠ some (.opn k aa)) : ∃ q, yl n p = some (q, false) := by
  obtain ⟨p, rfl⟩ := Int.eq_ofNat_of_zero_le hp
  rw [Int.toNat_natCast] at hno
  have hl := h.len
  have hwt := h.wt
  have hsm := h.small
  have hne : ((p : Int) == -1) = false := by simp
  unfold yl
  rw [hne]
  simp only [Bool.false_eq_true, if_false]
  by_cases hpl : p ≤ zO n.Kids
  · obtain ⟨s, hs, hok⟩ := af6 h.nt (by omega) p hpl
    rw [hs]
    simp only [Option.bind_some, bne_self_eq_false, Bool.false_eq_true, if_false]
    by_cases ho : s.Offset > 0
    · rw [if_pos (by simpa using ho)]
      exact ⟨_, rfl⟩
    · rw [if_neg (by simpa using ho)]
      obtain ⟨q, m, a, idx, off, rfl, hat, hm, hidx, hpos, hk, hend⟩ := hok
      simp only at ho ⊢
      have h0 : off = 0 := by omega
      have hq := hat.len
      rw [ah8 _ (by rw [J2]; omega)]
      simp only [Option.bind_some]
      rw [kQ (by rw [J2]; simp; omega)]
      simp only [Option.bind_some]
      rcases akE n (up q ++ [(idx : Int)]) h.nt (by simp [J2]; omega) with ⟨q', x, b, he, hx⟩ | he
      · exfalso
        have e : up q ++ [(idx : Int)] = up (q ++ [idx]) := by rw [amc]; rfl
        rw [e] at he
        rw [← atf he] at hx
        obtain ⟨m', b', k1, k2, k3, k4, k5⟩ := hx.atb
        obtain ⟨rfl, rfl⟩ := k1.fn hat
        obtain ⟨P1, S1, e1, e2, e3⟩ := at_end hat
        rw [h.tk] at e2
        have hts := Kg (m'.Kids.take idx)
        have hg : T[p]? = (tkN x)[0]? := by
          have hn : tkN x ≠ [] := by rw [kT, if_neg (by simp [k4])]; simp
          have hpos' : 0 < (tkN x).length := List.length_pos_iff.2 hn
          rw [e2, Jk k2, List.getElem?_append_right (by omega), List.append_assoc, List.getElem?_append_right (by omega), List.append_assoc, List.getElem?_append_left (by omega)]
          congr 1
          omega
        rw [kT, if_neg (by simp [k4])] at hg
        exact hno _ _ hg
      · rw [he]
        exact ⟨_, rfl⟩
  · rw [ald h.nt (by omega) p (by omega)]
    exact ⟨_, rfl⟩
theorem amI (s : zz) : ∀ (l : List zf) (j : Int), (∃ i a, l[i]? = some a ∧ a.Name = s.Name ∧ zQ s l j = some (.inl (j + (i : Nat), s))) ∨ ((∀ a ∈ l, a.Name ≠ s.Name) ∧ zQ s l j = some (.inr ()))
  | [], j => .inr ⟨by simp, rfl⟩
  | a :: l, j => by
    rw [zQ]
    have e : Kt a s = some (a.Name == s.Name) := rfl
    rw [e]
    simp only [Option.bind_some]
    by_cases h : a.Name = s.Name
    · left
      refine ⟨0, a, rfl, h, ?_⟩
      rw [if_pos (by simp [h])]
      simp
    · rw [if_neg (by simpa using h)]
      rcases amI s l (j + 1) with ⟨i, b, h1, h2, h3⟩ | ⟨h1, h2⟩
      · left
        refine ⟨i + 1, b, h1, h2, ?_⟩
        rw [h3]
        simp only [Option.some.injEq, Sum.inl.injEq, Prod.mk.injEq, and_true]
        omega
      · right
        refine ⟨fun b hb => ?_, h2⟩
        rcases List.mem_cons.1 hb with rfl | hb
        · exact h
        · exact h1 b hb
theorem apf {aa : List zf} (h : jw (aa.map (·.Name)) = true) {i j : Nat} {a b : zf} (hi : aa[i]? = some a) (hj : aa[j]? = some b) (e : a.Name = b.Name) : i = j := by
 have hp := ((Wq _).1 h).2
 have hi' : (aa.map (·.Name))[i]? = some a.Name := by rw [List.getElem?_map, hi]; rfl
 have hj' : (aa.map (·.Name))[j]? = some b.Name := by rw [List.getElem?_map, hj]; rfl
 obtain ⟨l1, e1⟩ := List.getElem?_eq_some_iff.1 hi'
 obtain ⟨l2, e2⟩ := List.getElem?_eq_some_iff.1 hj'
 rw [List.pairwise_iff_getElem] at hp
 rcases Nat.lt_trichotomy i j with h1 | h1 | h1
 ·have := hp i j l1 l2 h1
  rw [e1, e2, e, BL, xE] at this
  cases this
 ·exact h1
 ·have := hp j i l2 l1 h1
  rw [e1, e2, e, BL, xE] at this
  cases this
def jO (aa : List zf) (i : Nat) (v : Str) : List zf :=
 match aa[i]? with
 | some a => aa.set i { a with Value := v }
 | none => aa
theorem aoe {aa : List zf} {i : Nat} {a : zf} (h : aa[i]? = some a) (v : Str) : jO aa i v = aa.set i { a with Value := v } := by
 unfold jO
 rw [h]
theorem Zm (aa : List zf) (i j : Nat) (v : Str) : (jO aa i v)[j]? = if j = i then (aa[i]?).map (fun a => { a with Value := v }) else aa[j]? := by
 unfold jO
 cases h : aa[i]? with
 | none =>
  by_cases e : j = i
  ·subst e; simp [h]
  ·simp [e]
 | some a =>
  have hl := (List.getElem?_eq_some_iff.1 h).1
  simp only
  rw [List.getElem?_set]
  by_cases e : j = i
  ·subst e; simp [hl]
  ·rw [if_neg (fun h => e h.symm), if_neg e]
theorem alM (aa : List zf) (i : Nat) (v : Str) : (jO aa i v).map (·.Name) = aa.map (·.Name) := by
 refine List.ext_getElem? fun j => ?_
 rw [List.getElem?_map, List.getElem?_map, Zm]
 by_cases e : j = i
 ·subst e
  rw [if_pos rfl]
  cases aa[j]? <;> rfl
 ·rw [if_neg e]
theorem aom {aa : List zf} (h : aa.all (fun x => isValue x.Value) = true) (i : Nat) {v : Str} (hv : isValue v = true) : (jO aa i v).all (fun x => isValue x.Value) = true := by
 rw [List.all_eq_true] at h ⊢
 intro x hx
 obtain ⟨j, hj⟩ := List.mem_iff_getElem?.1 hx
 rw [Zm] at hj
 by_cases e : j = i
 ·rw [if_pos e] at hj
  cases ha : aa[i]? with
  | none => rw [ha] at hj; cases hj
  | some a => rw [ha] at hj; cases hj; exact hv
 ·rw [if_neg e] at hj
  exact h x (List.mem_of_getElem? hj)
theorem aek : ∀ (aa : List zf) (i : Nat) (a : zf) (v : Str), aa[i]? = some a → ky (aa.set i { a with Value := v }) + a.Value.length = ky aa + v.length
 | [], i, a, v, h => by simp at h
 | b :: aa, 0, a, v, h => by
  simp only [List.getElem?_cons_zero, Option.some.injEq] at h
  subst h
  simp only [List.set_cons_zero, ky]; omega
 | b :: aa, i + 1, a, v, h => by
  have := aek aa i a v (by simpa using h)
  simp only [List.set_cons_succ, ky]; omega
theorem ac7 {v : Str} (h : isValue v = true) : v.length ≤ 40 := by
 unfold isValue at h
 simp only [Bool.and_eq_true, decide_eq_true_eq] at h
 exact h.1
theorem ady {n : za} (h : qA n = true) (ht : isT n = false) : n.zt.all (fun x => isValue x.Value) = true ∧ isName n.Kind = true ∧ n.Text = [] ∧ n.Marks = [] ∧ jw (n.zt.map (·.Name)) = true ∧ xu none n.Kids = true := by
  rw [jl, if_neg (by simp [ht])] at h
  simp only [Bool.and_eq_true, decide_eq_true_eq] at h
  exact ⟨h.1.1.1.1.1, h.1.1.1.1.2, h.1.1.1.2, h.1.1.2, h.1.2, h.2⟩
theorem aol {n : za} (ht : isT n = false) (h : n.zt.all (fun x => isValue x.Value) = true ∧ isName n.Kind = true ∧ n.Text = [] ∧ n.Marks = [] ∧ jw (n.zt.map (·.Name)) = true ∧ xu none n.Kids = true) : qA n = true := by
  rw [jl, if_neg (by simp [ht])]
  obtain ⟨h1, h2, h3, h4, h5, h6⟩ := h
  simp [h1, h2, h3, h4, h5, h6]
theorem aqu {n : za} {q m a} (h : At n q m a) : q ≠ [] → ∃ P S, P.length + 1 = a ∧ tkL n.Kids = P ++ (Tk.opn m.Kind m.zt :: S) ∧ ∀ x : za, isT x = false → x.Kind = m.Kind → x.Kids = m.Kids → tkL (adp q n x).Kids = P ++ (Tk.opn x.Kind x.zt :: S) ∧ (adp q n x).Kind = n.Kind ∧ (adp q n x).zt = n.zt := by
  induction h with
  | nil n => intro h; exact absurd rfl h
  | cons n i k q m a hi hn hk h ih =>
    intro _
    have hl := (List.getElem?_eq_some_iff.1 hi).1
    by_cases hq : q = []
    · subst hq
      cases h with
      | nil =>
        refine ⟨tkL (n.Kids.take i), tkL k.Kids ++ (Tk.cls :: tkL (n.Kids.drop (i + 1))), by rw [Kg], ?_, fun x hx h1 h2 => ⟨?_, ?_⟩⟩
        · rw [Jk hi, kT, if_neg (by simp [hk])]
          simp only [List.append_assoc, List.cons_append, List.nil_append]
        · rw [KA hi]
          simp only [adp]
          rw [List.set_eq_take_append_cons_drop, if_pos hl, ae7, tkL, kT, if_neg (by simp [hx]), h2]
          simp only [List.append_assoc, List.cons_append, List.nil_append]
        · rw [KA hi]; exact ⟨rfl, rfl⟩
    · obtain ⟨P, S, h1, h2, h3⟩ := ih hq
      refine ⟨tkL (n.Kids.take i) ++ (Tk.opn k.Kind k.zt :: P), S ++ (Tk.cls :: tkL (n.Kids.drop (i + 1))), ?_, ?_, fun x hx e1 e2 => ⟨?_, ?_⟩⟩
      · simp only [List.length_append, List.length_cons, Kg]; omega
      · rw [Jk hi, kT, if_neg (by simp [hk]), h2]
        simp only [List.append_assoc, List.cons_append, List.nil_append]
      · obtain ⟨g1, g2, g3⟩ := h3 x hx e1 e2
        have hnt := agu q k x hk hx
        rw [KA hi]
        simp only
        rw [List.set_eq_take_append_cons_drop, if_pos hl, ae7, tkL, kT, if_neg (by simp [hnt]), g1, g2, g3]
        simp only [List.append_assoc, List.cons_append, List.nil_append]
      · rw [KA hi]; exact ⟨rfl, rfl⟩
theorem set_mid {α : Type} (P : List α) (x y : α) (S : List α) : (P ++ x :: S).set P.length y = P ++ y :: S := by
 rw [List.set_append_right _ _ (Nat.le_refl _)]
 simp
theorem afa (k : Str) (a b : List zf) : ∀ (P S : List Tk) (d : Nat), dpT d (P ++ Tk.opn k a :: S) = dpT d (P ++ Tk.opn k b :: S)
 | [], S, d => by simp [dpT]
 | .sgn c m :: P, S, d => by rw [List.cons_append, List.cons_append, dpT, dpT, afa k a b P S]
 | .opn c m :: P, S, d => by rw [List.cons_append, List.cons_append, dpT, dpT, afa k a b P S]
 | .cls :: P, S, d => by rw [List.cons_append, List.cons_append, dpT, dpT, afa k a b P S]
theorem atF (k : Str) (a b : List zf) (P S : List Tk) : tw (P ++ Tk.opn k b :: S) + ky a = tw (P ++ Tk.opn k a :: S) + ky b := by
 rw [aaS, aaS, tw, tw, apg, apg]; omega
theorem ar7 {n : za} {T : List Tk} (h : TD n T) (hw : wD n T ≤ 100000000) {p : Nat} {k : Str} {aa : List zf} (hp : T[p]? = some (.opn k aa)) {i : Nat} {a : zf} (hi : aa[i]? = some a) {v : Str} (hv : isValue v = true) (t : Int) (l : List za) (K : Int) :
    ∃ N, jZ n ⟨K, (p : Int), t, l, a.Name, v⟩ = some (N, a.Value, 0) ∧ TD N (T.set p (.opn k (jO aa i v))) ∧ N.Kind = n.Kind ∧ N.zt = n.zt ∧ wD N (T.set p (.opn k (jO aa i v))) + a.Value.length = wD n T + v.length := by
  obtain ⟨q, x, h1, h2, h3, rfl, rfl⟩ := JL h hw hp
  have hwt := h.wt
  have hx := h2.form h.form
  have hvl := ac7 hv
  have hql : q.length ≤ p + 1 := h2.len
  have hsm := h.small
  have hpl := (List.getElem?_eq_some_iff.1 hp).1
  obtain ⟨f1, f2, f3, f4, f5, f6⟩ := ady hx h3
  have hal : x.zt.length ≤ 10000000000 := by have := h2.wt; have := wH x; have := abn x.zt; omega
  have hil := (List.getElem?_eq_some_iff.1 hi).1
  have hq0 : q ≠ [] := by
    rintro rfl
    cases h2
  have hxw : nwt x ≤ 2 + wD n T := by have := h2.wt; omega
  have haw : ky x.zt ≤ 2 + wD n T := by have := wH x; omega
  have hset := aoe hi v
  obtain ⟨P, S, e1, e2, e3⟩ := aqu h2 hq0
  have hx' : isT ({ x with zt := jO x.zt i v } : za) = false := h3
  have fx' : qA ({ x with zt := jO x.zt i v } : za) = true := aol hx' ⟨aom f1 i hv, f2, f3, f4, by rw [alM]; exact f5, f6⟩
  obtain ⟨g1, g2, g3⟩ := e3 _ hx' rfl rfl
  rw [h.tk] at e2
  have hPl : P.length = p := by omega
  have hTs : T.set p (.opn x.Kind (jO x.zt i v)) = P ++ Tk.opn x.Kind (jO x.zt i v) :: S := by rw [e2, ← hPl, set_mid]
  refine ⟨adp q n { x with zt := jO x.zt i v }, ?_, ?_, g2, g3, ?_⟩
  · have hidx : qM x.zt ⟨K, (p : Int), t, l, a.Name, v⟩ = some ((i : Int), ⟨K, (p : Int), t, l, a.Name, v⟩) := by
      unfold qM
      rw [wI (by omega)]
      rcases amI ⟨K, (p : Int), t, l, a.Name, v⟩ x.zt 0 with ⟨j, b, k1, k2, k3⟩ | ⟨k1, _⟩
      · rw [k3]
        have : j = i := apf f5 k1 hi k2
        subst this
        simp
      · exact absurd rfl (k1 a (List.mem_of_getElem? hi))
    unfold jZ
    simp only
    rw [h1]
    simp only [Option.bind_some, Bool.not_true, Bool.false_eq_true, if_false]
    rw [Yi h2 h3 (by omega)]
    simp only [Option.bind_some]
    rw [hidx]
    simp only [Option.bind_some]
    rw [if_neg (by simp), VJ hi, an8 _ (by have := abn x.zt; omega)]
    simp only [Option.bind_some]
    rw [VJ hi]
    simp only [Option.bind_some]
    rw [aq9 hil, ← hset]
    simp only [Option.bind_some]
    rw [asi h2 h.nt (by omega)]
    rfl
  · rw [hTs]
    refine TD.of (aqt hx' fx' h2 h.form) (agu q n _ h.nt hx') g1 ?_ ?_
    · rw [afa x.Kind _ x.zt, ← e2]
      exact h.deep
    · rw [e2] at hsm
      simpa using hsm
  · have := atF x.Kind x.zt (jO x.zt i v) P S
    have h5 := aek _ _ _ v hi
    rw [← hset] at h5
    rw [hTs]
    unfold wD
    rw [g2, g3]
    rw [← e2] at this
    omega
theorem atL {n : za} {T : List Tk} (h : TD n T) (hw : wD n T ≤ 100000000) (s : zz) (hs : 0 ≤ s.From) (hno : ∀ k aa, T[s.From.toNat]? = some (.opn k aa) → ∀ a ∈ aa, a.Name ≠ s.Name) : ∃ e, e ≠ 0 ∧ jZ n s = some (arz, [], e) := by
  by_cases ho : ∃ k aa, T[s.From.toNat]? = some (.opn k aa)
  · obtain ⟨k, aa, ho⟩ := ho
    have e : s.From = ((s.From.toNat : Nat) : Int) := by omega
    obtain ⟨q, x, h1, h2, h3, rfl, rfl⟩ := JL h hw ho
    have hno := hno _ _ ho
    have hwt := h.wt
    have hql : q.length ≤ s.From.toNat + 1 := h2.len
    have hsm := h.small
    have hpl := (List.getElem?_eq_some_iff.1 ho).1
    have hal : x.zt.length ≤ 10000000000 := by have := h2.wt; have := wH x; have := abn x.zt; omega
    refine ⟨9, by decide, ?_⟩
    unfold jZ
    rw [e, h1]
    simp only [Option.bind_some, Bool.not_true, Bool.false_eq_true, if_false]
    rw [Yi h2 h3 (by omega)]
    simp only [Option.bind_some]
    unfold qM
    rw [wI (by omega)]
    rcases amI s x.zt 0 with ⟨j, b, k1, k2, k3⟩ | ⟨_, k1⟩
    · exact absurd k2 (hno b (List.mem_of_getElem? k1))
    · rw [k1]
      rfl
  · obtain ⟨q, hq⟩ := alV h hw hs fun k aa hh => ho ⟨k, aa, hh⟩
    refine ⟨3, by decide, ?_⟩
    unfold jZ
    rw [hq]
    rfl
theorem asy {n : za} (h : isT n = false) : (n.Kind == ([116, 101, 120, 116] : Str)) = false := h
theorem aa3 {n : za} {T : List Tk} (h : TD n T) (hw : wD n T ≤ 100000000) (s : zz) (hs : x8 s = some true) : qP n s = if (s.Kind == (114 : Int)) = true then (YD n s.From s.To s.wC).bind fun (r_5, r_6) => some (r_5, r_6) else if (s.Kind == (97 : Int)) = true then (jZ n s).bind fun (r_7, r_8, r_9) => some (r_7, r_9) else (yf n s).bind fun (KR, VI, Ke) => some (KR, Ke) := by
  have hwt := h.wt
  unfold qP
  rw [hs]
  simp only [Option.bind_some, Bool.not_true, Bool.false_eq_true, if_false]
  rw [asy h.nt]
  simp only [Bool.false_eq_true, if_false]
  rw [right_eq n (by omega), h.ok]
  simp only [Option.bind_some, beq_self_eq_true, Bool.not_true, Bool.false_eq_true, if_false]
theorem afg {nm v : Str} (hn : isName nm = true) (hv : isValue v = true) {p : Int} (h1 : -1 ≤ p) (h2 : p ≤ 1048576) (hl : nm.length ≤ 1048576) : x8 ⟨97, p, 0, [], nm, v⟩ = some true := by
  have := ac7 hv
  rw [aaH _ (by simp [zS]) hl (by simp only; omega)]
  unfold srB
  simp only
  rw [if_neg (by decide)]
  simp [hn, hv]
  omega
theorem al8 {k : Int} (hk : k = 109 ∨ k = 117) {x : Str} (hx : isName x = true) (hl : x.length ≤ 20) {f t : Nat} (hft : f ≤ t) (ht : t ≤ 1048576) : x8 ⟨k, (f : Int), (t : Int), [], x, []⟩ = some true := by
  rw [aaH _ (by simp [zS]) (by simp only; omega) (by simp)]
  unfold srB aei
  simp only
  rw [if_neg (by omega), if_neg (by omega), if_pos hk, hx]
  simp
  omega
theorem al7 {n : za} {T : List Tk} (h : TD n T) (hw : wD n T ≤ 5000000) {k : Int} (hk : k = 109 ∨ k = 117) {x : Str} (hx : isName x = true) (hxl : x.length ≤ 20) {a b : Nat} (hab : a ≤ b) (hb : b ≤ T.length) :
    ∃ N, qP n ⟨k, (a : Int), (b : Int), [], x, []⟩ = some (N, 0) ∧ yf n ⟨k, (a : Int), (b : Int), [], x, []⟩ = some (N, Ki k x a b 0 T [], 0) ∧ TD N (ji k x a b 0 T) ∧ N.Kind = n.Kind ∧ N.zt = n.zt := by
  have hsm := h.small
  obtain ⟨N, h1, h2, h3, h4⟩ := an1 h k hx hxl a b (by omega) hb hw
  refine ⟨N, ?_, h1, h2, h3, h4⟩
  rw [aa3 h (by omega) _ (al8 hk hx hxl hab (by omega))]
  simp only
  rw [if_neg (by simp; omega), if_neg (by simp; omega), h1]
  rfl
theorem alU {n : za} {T : List Tk} (h : TD n T) (hw : wD n T ≤ 100000000) {p : Nat} {k : Str} {aa : List zf} (hp : T[p]? = some (.opn k aa)) {i : Nat} {a : zf} (hi : aa[i]? = some a) {v : Str} (hv : isValue v = true) :
    ∃ N, qP n ⟨97, (p : Int), 0, [], a.Name, v⟩ = some (N, 0) ∧ jZ n ⟨97, (p : Int), 0, [], a.Name, v⟩ = some (N, a.Value, 0) ∧ TD N (T.set p (.opn k (jO aa i v))) ∧ N.Kind = n.Kind ∧ N.zt = n.zt ∧ wD N (T.set p (.opn k (jO aa i v))) + a.Value.length = wD n T + v.length := by
  obtain ⟨N, h1, h2, h3, h4, h5⟩ := ar7 h hw hp hi hv 0 [] 97
  refine ⟨N, ?_, h1, h2, h3, h4, h5⟩
  have hsm := h.small
  have hpl := (List.getElem?_eq_some_iff.1 hp).1
  obtain ⟨q, x, _, hx, ht, hk', rfl⟩ := JL h hw hp
  obtain ⟨f1, f2, f3, f4, f5, f6⟩ := ady (hx.form h.form) ht
  have hnm : isName a.Name = true := ((Wq _).1 f5).1 a.Name (by
    have := List.mem_of_getElem? hi
    exact List.mem_map.2 ⟨a, this, rfl⟩)
  have hxw : nwt x ≤ 2 + wD n T := by have := hx.wt; have := h.wt; omega
  have hal : a.Name.length ≤ 20 := akZ hnm
  rw [aa3 h hw _ (afg hnm hv (by omega) (by omega) (by omega))]
  simp only
  rw [if_neg (by decide), if_pos (by decide), h1]
  rfl
end Go.Proofs.YtclohbgnaopjfaaDoor
namespace Go.Proofs.YtclohbgnaopjfaaDoor
set_option linter.unusedSimpArgs false
set_option linter.unusedVariables false
open Go
mutual
def KG : za → Str
 | ⟨k, t, _, _, ks⟩ => if (k == jq) = true then t else ZZ ks
def ZZ : List za → Str
 | [] => []
 | n :: l => KG n ++ ZZ l
end
theorem Jc (n : za) : KG n = if isT n = true then n.Text else ZZ n.Kids := by cases n; simp only [KG, isT]; rfl
theorem afZ : ∀ (l : List za), (∀ n ∈ l, (KG n).length ≤ nwt n) → (ZZ l).length ≤ zS l
 | [], _ => by simp [ZZ, zS]
 | n :: l, h => by
  have h1 := h n (by simp)
  have h2 := afZ l fun x hx => h x (by simp [hx])
  simp only [ZZ, zS, List.length_append]; omega
theorem ahH (n : za) : (KG n).length ≤ nwt n := by
 induction n using za.ind with
 | h n ih =>
  have h1 := afZ n.Kids ih
  have h2 := wH n
  rw [Jc]
  split <;> omega
theorem ake (f : za → Str → Option Str) : ∀ (l : List za) (i : Int) (acc : Str), (∀ k ∈ l, ∀ a : Str, a.length + nwt k ≤ 1099511627776 → f k a = some (a ++ KG k)) → acc.length + zS l ≤ 1099511627776 →
    w9 f l i acc = some (acc ++ ZZ l)
  | [], i, acc, _, _ => by simp [w9, ZZ]
  | n :: l, i, acc, h, hb => by
    simp only [zS] at hb
    have hle := ahH n
    rw [w9, h n (by simp) acc (by omega)]
    simp only [Option.bind_some]
    rw [ake f l _ _ (fun k hk => h k (by simp [hk])) (by simp; omega)]
    simp [ZZ]
theorem ar3 (n : za) : ∀ kr, Qk n ≤ kr → ∀ acc : Str, acc.length + nwt n ≤ 1099511627776 → wM kr n acc = some (acc ++ KG n) := by
  induction n using za.ind with
  | h n ih =>
    intro kr hk acc hw
    have hd := yw n
    obtain ⟨kr, rfl⟩ : ∃ j, kr = j + 1 := ⟨kr - 1, by omega⟩
    have hwt := wH n
    have hl := kH n.Kids
    rw [wM, Q5]
    simp only [Option.bind_some]
    by_cases ht : isT n = true
    · simp only [ht, if_true]
      have h1 : wm n.Text acc = some ((n.Text.length : Int), acc ++ n.Text) := by
        unfold wm kI
        simp only [Option.bind_some]
        rw [kQ (by omega)]
        rfl
      rw [h1, Jc, if_pos ht]
      rfl
    · simp only [ht, Bool.false_eq_true, if_false]
      rw [wI (by omega), ake (wM kr) n.Kids 0 acc (fun k hkk a ha => ih k hkk kr (by have := yc hkk; omega) a ha) (by omega), Jc, if_neg ht]
      rfl
theorem apW (n : za) (h : nwt n ≤ 1099511627776) : Zt n = some (KG n) := by
  have h1 : x9 n [] = some ([] ++ KG n) := by
    unfold x9
    exact KU (Qk n) fun kr hk => ar3 n kr hk [] (by simpa using h)
  have h2 := ahH n
  unfold Zt vz
  rw [h1]
  simp only [Option.bind_some, List.nil_append]
  rw [wI (by omega)]
  rfl
end Go.Proofs.YtclohbgnaopjfaaDoor
namespace Go.Proofs.YtclohbgnaopjfaaDoor
set_option linter.unusedSimpArgs false
set_option linter.unusedVariables false
open Go
theorem air : ∀ l : List Str, l.length ≤ wU l
 | [] => by simp
 | s :: l => by have := air l; simp only [wU, List.length_cons]; omega
theorem agw : ∀ l : List zf, l.length ≤ ky l
 | [] => by simp
 | s :: l => by have := agw l; simp only [ky, List.length_cons]; omega
theorem aj6 : ∀ (suf pre : List Str) (i : Int), i = (pre.length : Int) → z8 (pre ++ suf) suf i = some (.inr ())
 | [], pre, i, hi => rfl
 | y :: suf, pre, i, hi => by
  rw [z8, hi, JQ]
  have := aj6 suf (pre ++ [y]) (pre.length + 1) (by simp)
  simp only [List.append_assoc, List.cons_append, List.nil_append] at this
  simp [this]
theorem eqStr (l : List Str) (h : l.length ≤ 9223372036854775807) : slices_Equal_string l l = some true := by
 unfold slices_Equal_string
 have := aj6 l [] 0 rfl
 simp only [List.nil_append] at this
 rw [wI h, this]
 simp
theorem ahW : ∀ (suf pre : List zf) (i : Int), i = (pre.length : Int) → qK (pre ++ suf) suf i = some (.inr ())
 | [], pre, i, hi => rfl
 | y :: suf, pre, i, hi => by
  rw [qK, hi, JQ]
  have := ahW suf (pre ++ [y]) (pre.length + 1) (by simp)
  simp only [List.append_assoc, List.cons_append, List.nil_append] at this
  simp [this]
theorem atT (l : List zf) (h : l.length ≤ 9223372036854775807) : kX l l = some true := by
 unfold kX
 have := ahW l [] 0 rfl
 simp only [List.nil_append] at this
 rw [wI h, this]
 simp
theorem aiB (f : za → za → Option Bool) : ∀ (suf pre : List za) (i : Int), i = (pre.length : Int) → (∀ k ∈ suf, f k k = some true) → zM (pre ++ suf) f suf i = some (.inr ())
  | [], pre, i, hi, _ => rfl
  | y :: suf, pre, i, hi, h => by
    rw [zM, hi, JQ]
    have := aiB f suf (pre ++ [y]) (pre.length + 1) (by simp) fun k hk => h k (by simp [hk])
    simp only [List.append_assoc, List.cons_append, List.nil_append] at this
    simp [this, h y (by simp)]
theorem ato (n : za) : nwt n ≤ 1099511627776 → ∀ kr, 2 * Qk n ≤ kr → jH kr n n = some true := by
  induction n using za.ind with
  | h n ih =>
    intro hw kr hk
    have hd := yw n
    obtain ⟨kr, rfl⟩ : ∃ j, kr = j + 1 + 1 := ⟨kr - 2, by omega⟩
    have hwt := wH n
    have hl := kH n.Kids
    have hs := air n.Marks
    have ha := agw n.zt
    have hf := aiB (jH kr) n.Kids [] 0 rfl fun k hkk => ih k hkk (by have := Qb hkk; omega) kr (by have := yc hkk; omega)
    simp only [List.nil_append] at hf
    rw [jH]
    simp only [beq_self_eq_true, if_true]
    rw [eqStr _ (by omega), atT _ (by omega)]
    simp only [Option.bind_some, if_true]
    rw [qb]
    simp only [bne_self_eq_false, Bool.false_eq_true, if_false]
    rw [wI (by omega), hf]
    rfl
theorem aqr (n : za) (h : nwt n ≤ 1099511627776) : ZJ n n = some true := by
 unfold ZJ
 exact KU (2 * Qk n) fun k hk => ato n h k hk
end Go.Proofs.YtclohbgnaopjfaaDoor
namespace Go.Proofs.YtclohbgnaopjfaaDoor
set_option linter.unusedSimpArgs false
set_option linter.unusedVariables false
open Go Classical
inductive Does : za → List zz → za → Prop
 | nil (n : za) : Does n [] n
 | cons (n a b : za) (s : zz) (l : List zz) (h1 : qP n s = some (a, 0)) (h2 : Does a l b) : Does n (s :: l) b
theorem atn {n b : za} {l : List zz} (h : Does n l b) : ∀ v, xQ l v n = some (.inr b) := by
  induction h with
  | nil n => intro v; rfl
  | cons n a b s l h1 h2 ih =>
    intro v
    rw [xQ, h1]
    simp only [Option.bind_some]
    rw [if_neg (by decide), ih]
theorem alB {n b : za} {l : List zz} (h : Does n l b) (hl : l.length ≤ 9223372036854775807) : Qv n l = some (b, 0) := by
 unfold Qv
 rw [wI hl, atn h]
 rfl
theorem ae5 {n a b : za} {x y : zz} (h1 : qP n x = some (a, 0)) (h2 : qP a y = some (b, 0)) : Qv n [x, y] = some (b, 0) :=
 alB (.cons _ _ _ _ _ h1 (.cons _ _ _ _ _ h2 (.nil _))) (by simp)
theorem arH {n a : za} {x : zz} (h1 : qP n x = some (a, 0)) : Qv n [x] = some (a, 0) :=
 alB (.cons _ _ _ _ _ h1 (.nil _)) (by simp)
theorem Does.app {n a b : za} {l r : List zz} (h : Does n l a) (h2 : Does a r b) : Does n (l ++ r) b := by
 induction h with
 | nil n => exact h2
 | cons n a' b' s l h1 _ ih => exact .cons _ _ _ _ _ h1 (ih h2)
def wT : List Tk → Str
 | [] => []
 | .sgn c _ :: l => zo c ++ wT l
 | _ :: l => wT l
theorem afr : ∀ a b : List Tk, wT (a ++ b) = wT a ++ wT b
 | [], b => rfl
 | .sgn c m :: a, b => by rw [List.cons_append, wT, wT, afr a b, List.append_assoc]
 | .opn k m :: a, b => by rw [List.cons_append, wT, wT, afr a b] <;> simp
 | .cls :: a, b => by rw [List.cons_append, wT, wT, afr a b] <;> simp
theorem anH (m : List Str) : ∀ l : List Int, wT (l.map fun c => Tk.sgn c m) = zN l
 | [] => rfl
 | c :: l => by rw [List.map_cons, wT, anH m l, Q9]
theorem amA : ∀ (l : List za), (∀ n ∈ l, KG n = wT (tkN n)) → ZZ l = wT (tkL l)
  | [], _ => rfl
  | n :: l, h => by rw [ZZ, tkL, afr, h n (by simp), amA l fun x hx => h x (by simp [hx])]
theorem ar8 (n : za) : qA n = true → KG n = wT (tkN n) := by
 induction n using za.ind with
 | h n ih =>
  intro hf
  rw [Jc, kT]
  cases ht : isT n with
  | true =>
   simp only [if_true]
   rw [anH, Wj (yD hf ht).2.1]
  | false =>
   have hr := Qg hf ht
   simp only [Bool.false_eq_true, if_false]
   rw [amA n.Kids fun x hx => ih x hx (hr.form x hx), show ∀ l, wT (Tk.opn n.Kind n.zt :: l) = wT l from fun _ => rfl, afr]
   simp [wT]
theorem TD.words {n T} (h : TD n T) (hw : wD n T ≤ 100000000) : Zt n = some (wT T) := by
  have hwt := h.wt
  rw [apW n (by omega), Jc, if_neg (by simp [h.nt]), amA _ fun x hx => ar8 x (h.row.form x hx), h.tk]
theorem ap5 (k k' : Str) (aa bs : List zf) : ∀ (T : List Tk) (p : Nat), T[p]? = some (.opn k aa) → wT (T.set p (.opn k' bs)) = wT T
 | [], p, h => by simp at h
 | t :: T, 0, h => by
  simp only [List.getElem?_cons_zero, Option.some.injEq] at h
  subst h
  rfl
 | t :: T, p + 1, h => by
  have ih := ap5 k k' aa bs T p (by simpa using h)
  rw [List.set_cons_succ]
  cases t with
  | sgn c m => rw [wT, wT, ih]
  | opn c m => exact ih
  | cls => exact ih
theorem TD.same {a b T} (ha : TD a T) (hb : TD b T) (hk : a.Kind = b.Kind) (hat : a.zt = b.zt) (hw : wD a T ≤ 100000000) : ZJ a b = some true := by
 have := ha.ext hb hk hat
 subst this
 have hwt := ha.wt
 exact aqr a (by omega)
theorem as4 (W : Nat) : ∀ l : List za, (∀ n ∈ l, tw (tkN n) ≤ nwt n * (W + 10)) → tw (tkL l) ≤ zS l * (W + 10) := ajK W
theorem atV (W : Nat) (n : za) : (∀ c m, Tk.sgn c m ∈ tkN n → wU m ≤ W) → tw (tkN n) ≤ nwt n * (W + 10) := by
 induction n using za.ind with
 | h n ih =>
  intro hm
  have e := wH n
  rw [kT] at hm ⊢
  cases ht : isT n with
  | true =>
   simp only [ht, if_true] at hm ⊢
   rw [aiJ]
   have hr := ajb n.Text
   rw [← KC] at hr
   by_cases h0 : runes n.Text = []
   ·rw [h0]; simp
   ·obtain ⟨c, l, hcl⟩ := List.exists_cons_of_ne_nil h0
    have hmm := hm c n.Marks (by rw [hcl]; simp)
    exact Nat.mul_le_mul (by omega) (by omega)
  | false =>
   simp only [ht, Bool.false_eq_true, if_false] at hm ⊢
   have h1 := ajK W n.Kids fun x hx => ih x hx fun c m hc => hm c m (by
    have : Tk.sgn c m ∈ tkL n.Kids := by
     obtain ⟨i, hi⟩ := List.mem_iff_getElem?.1 hx
     rw [Jk hi]
     simp [hc]
    simp [this])
   simp only [tw, apg, aaS]
   have h2 : (2 + n.Kind.length + ky n.zt) ≤ (2 + n.Kind.length + ky n.zt) * (W + 10) := Nat.le_mul_of_pos_right _ (by omega)
   have h3 : (2 + n.Kind.length + ky n.zt + zS n.Kids) * (W + 10) ≤ nwt n * (W + 10) := Nat.mul_le_mul_right _ (by omega)
   rw [Nat.add_mul] at h3
   omega
end Go.Proofs.YtclohbgnaopjfaaDoor
namespace Go.Proofs.YtclohbgnaopjfaaDoor
set_option linter.unusedSimpArgs false
set_option linter.unusedVariables false
open Go
def aaT (m : List Str) : Prop := m = [] ∨ m = [[98]] ∨ m = [[105]] ∨ m = [[98], [105]]
inductive BN : za → Prop
 | text (t : Str) (m : List Str) (h1 : t ≠ []) (h2 : Lib.validD t = true) (hm : aaT m) : BN ⟨jq, t, m, [], []⟩
 | node (k : Str) (a : List zf) (ks : List za) (hk : isName k = true) (h1 : a.all (fun x => isValue x.Value) = true) (h2 : jw (a.map (·.Name)) = true) (hs : ∀ x ∈ ks, BN x) (hj : vP ks) : BN ⟨k, [], [], a, ks⟩
theorem acu {k : Str} (h : isName k = true) : (k == jq) = false := by
 unfold isName at h
 simp only [Bool.and_eq_true, decide_eq_true_eq] at h
 simpa using h.2
theorem aks {m : List Str} (h : aaT m) : jw m = true := by
 rcases h with rfl | rfl | rfl | rfl <;> decide +kernel
theorem akz {m : List Str} (h : aaT m) : wU m ≤ 4 := by
 rcases h with rfl | rfl | rfl | rfl <;> simp [wU]
theorem am6 : ∀ (l : List za) (last : Option za), (∀ x ∈ l, qA x = true) → vP l → (∀ x y, last = some x → l.head? = some y → wQ x y = false) → xu last l = true
  | [], last, _, _, _ => abb last
  | y :: l, last, hf, hj, hl => by
    rw [Wx, hf y (by simp)]
    have h2 : xu (some y) l = true := by
      refine am6 l (some y) (fun x hx => hf x (by simp [hx])) ?_ ?_
      · cases l with
        | nil => trivial
        | cons z l => exact hj.2
      · intro x z hx hz
        cases hx
        cases l with
        | nil => cases hz
        | cons z' l => cases hz; exact hj.1
    rw [h2]
    cases last with
    | none => rfl
    | some x => simp [hl x y rfl rfl]
theorem asq {n : za} (h : BN n) : qA n = true := by
 induction h with
 | text t m h1 h2 hm =>
  rw [jl]
  have h3 := aks hm
  simp [isT, h1, h2, h3]
 | node k a ks hk h1 h2 hs hj ih =>
  rw [jl]
  have hkk : isT (⟨k, [], [], a, ks⟩ : za) = false := acu hk
  have h3 := am6 ks none ih hj (fun x y hx => by cases hx)
  simp only [hkk, Bool.false_eq_true, if_false, h1, hk, h2, h3]
  decide
theorem arN {n : za} (h : BN n) (ht : isT n = true) : n.Text ≠ [] ∧ Lib.validD n.Text = true ∧ aaT n.Marks ∧ n.zt = [] ∧ n.Kids = [] := by
 cases h with
 | text t m h1 h2 hm => exact ⟨h1, h2, hm, rfl, rfl⟩
 | node k a ks hk h1 h2 hs hj => rw [show isT (⟨k, [], [], a, ks⟩ : za) = false from acu hk] at ht; cases ht
theorem anc {n : za} (h : BN n) : (∀ x ∈ n.Kids, BN x) ∧ vP n.Kids := by
 cases h with
 | text t m h1 h2 hm => exact ⟨by simp, trivial⟩
 | node k a ks hk h1 h2 hs hj => exact ⟨hs, hj⟩
theorem agn : ∀ (o : List za) (x n : za), vP (o ++ [x]) → wQ x n = false → vP (o ++ [x, n])
 | [], x, n, _, h => ⟨h, trivial⟩
 | [a], x, n, h1, h => ⟨h1.1, h, trivial⟩
 | a :: b :: o, x, n, h1, h => ⟨h1.1, agn (b :: o) x n h1.2 h⟩
theorem ah4 : ∀ (o : List za) (x n : za), vP (o ++ [x]) → (∀ a, wQ a x = wQ a n) → vP (o ++ [n])
 | [], x, n, _, _ => trivial
 | [a], x, n, h1, h => ⟨by rw [← h]; exact h1.1, trivial⟩
 | a :: b :: o, x, n, h1, h => ⟨h1.1, ah4 (b :: o) x n h1.2 h⟩
theorem amd : ∀ (l : List za), (∀ x ∈ l, isT x = false) → vP l
  | [], _ => trivial
  | [a], _ => trivial
  | a :: b :: l, h => ⟨by unfold wQ; rw [h a (by simp)]; rfl, amd (b :: l) fun x hx => h x (by simp [hx])⟩
theorem aoG (o : List za) (n : za) (h : ∀ x ∈ o, BN x) (hj : vP o) (hn : BN n) : (∀ x ∈ joinStep o n, BN x) ∧ vP (joinStep o n) := by
  rcases wX o with rfl | ⟨o, x, rfl⟩
  · rw [vv]
    split
    · exact ⟨by simp, trivial⟩
    · exact ⟨by simpa using hn, trivial⟩
  · rw [wB]
    split
    · exact ⟨h, hj⟩
    · split
      · rename_i hc
        simp only [Bool.and_eq_true, decide_eq_true_eq] at hc
        obtain ⟨⟨h1, h2⟩, h3⟩ := hc
        have hx := h x (by simp)
        cases hn with
        | text t m ht hv hm =>
          cases hx with
          | text t' m' ht' hv' hm' =>
            simp only at h3
            subst h3
            refine ⟨fun y hy => ?_, ah4 o _ _ hj fun a => rfl⟩
            rcases List.mem_append.1 hy with hy | hy
            · exact h y (by simp [hy])
            · simp at hy
              subst hy
              exact .text _ _ (by simp [ht']) (by rw [(ado t hv').2]; exact hv) hm
          | node k a ks hk ha hb hs hj' => rw [show isT (⟨k, [], [], a, ks⟩ : za) = false from acu hk] at h2; cases h2
        | node k a ks hk ha hb hs hj' => rw [show isT (⟨k, [], [], a, ks⟩ : za) = false from acu hk] at h1; cases h1
      · rename_i hc
        refine ⟨fun y hy => ?_, agn o x n hj ?_⟩
        · rcases List.mem_append.1 hy with hy | hy
          · exact h y (by simp [hy])
          · simp at hy
            rcases hy with rfl | rfl
            · exact h y (by simp)
            · exact hn
        · have hc' : (isT n && isT x && decide (x.Marks = n.Marks)) = false := by simpa using hc
          unfold wQ
          rw [Bool.and_comm (isT x)]
          exact hc'
theorem asI : ∀ (l o : List za), (∀ x ∈ o, BN x) → vP o → (∀ x ∈ l, BN x) → (∀ x ∈ l.foldl joinStep o, BN x) ∧ vP (l.foldl joinStep o)
 | [], o, h, hj, _ => ⟨h, hj⟩
 | n :: l, o, h, hj, hl => by
  obtain ⟨h1, h2⟩ := aoG o n h hj (hl n (by simp))
  exact asI l _ h1 h2 fun x hx => hl x (by simp [hx])
theorem at6 (l : List za) (h : ∀ x ∈ l, BN x) : (∀ x ∈ WW l, BN x) ∧ vP (WW l) := asI l [] (by simp) trivial h
theorem Jw (a b : List za) : qX (a ++ b) = max (qX a) (qX b) := by
 induction a with
 | nil => simp [qX]
 | cons n a ih => simp only [List.cons_append, qX, ih]; omega
theorem ahk (o : List za) (n : za) : qX (joinStep o n) ≤ max (qX o) (xO n) := by
 rcases wX o with rfl | ⟨o, x, rfl⟩
 ·rw [vv]
  split <;> simp [qX]
 ·rw [wB]
  split
  ·omega
  ·split
   ·rename_i hc
    simp only [Bool.and_eq_true] at hc
    have h1 : xO ({ n with Text := x.Text ++ n.Text } : za) = 0 := by rw [Qa, if_pos (show isT ({ n with Text := x.Text ++ n.Text } : za) = true from hc.1.1)]
    simp only [Jw, qX, h1]
    omega
   ·simp only [Jw, qX]
    omega
theorem aiz : ∀ (l o : List za), qX (l.foldl joinStep o) ≤ max (qX o) (qX l)
 | [], o => by simp [qX]
 | n :: l, o => by
  have h1 := ahk o n
  have h2 := aiz l (joinStep o n)
  simp only [List.foldl_cons, qX]
  omega
theorem amo (l : List za) : qX (WW l) ≤ qX l := by
 have := aiz l []
 simpa [WW, qX] using this
structure Book (ks : List za) : Prop where
 bn : ∀ x ∈ ks, BN x
 nt : ∀ x ∈ ks, isT x = false
 wt : zS ks ≤ 2400
 dep : qX ks ≤ 31
abbrev aoh : Str := [100, 111, 99]
theorem arC {ks : List za} (h : Book ks) : BN ⟨aoh, [], [], [], ks⟩ := .node _ _ _ (by decide +kernel) rfl (by decide +kernel) h.bn (amd ks h.nt)
theorem al3 {ks : List za} (h : Book ks) : checkN ⟨aoh, [], [], [], ks⟩ = 0 := by
  have hf := asq (arC h)
  have hs := xW ks
  have hw := h.wt
  have hdp := h.dep
  have e1 : xO ⟨aoh, [], [], [], ks⟩ = qX ks + 1 := by rw [Qa]; rfl
  have e2 : kz ⟨aoh, [], [], [], ks⟩ = 2 + zO ks := by rw [xz]; rfl
  unfold checkN
  rw [hf, e1, e2, if_neg (by simp), if_neg (by omega), if_neg (by omega)]
end Go.Proofs.YtclohbgnaopjfaaDoor
namespace Go.Proofs.YtclohbgnaopjfaaDoor
set_option linter.unusedSimpArgs false
set_option linter.unusedVariables false
open Go Classical
theorem aqi (n : za) : BN n → ∀ c m, Tk.sgn c m ∈ tkN n → aaT m := by
  induction n using za.ind with
  | h n ih =>
    intro hb c m hc
    rw [kT] at hc
    cases ht : isT n with
    | true =>
      rw [if_pos ht, List.mem_map] at hc
      obtain ⟨x, _, hx⟩ := hc
      cases hx
      exact (arN hb ht).2.2.1
    | false =>
      simp only [ht, Bool.false_eq_true, if_false, List.mem_cons, reduceCtorEq, false_or, List.mem_append, List.not_mem_nil, or_false] at hc
      have key : ∀ l : List za, (∀ x ∈ l, x ∈ n.Kids) → Tk.sgn c m ∈ tkL l → aaT m := by
        intro l
        induction l with
        | nil => intro _ h; simp [tkL] at h
        | cons y l ihl =>
          intro hl h
          rw [tkL, List.mem_append] at h
          rcases h with h | h
          · exact ih y (hl y (by simp)) ((anc hb).1 y (hl y (by simp))) c m h
          · exact ihl (fun x hx => hl x (by simp [hx])) h
      exact key n.Kids (fun _ h => h) hc
abbrev asJ (ks : List za) : za := ⟨aoh, [], [], [], ks⟩
theorem arR {ks : List za} (h : Book ks) : TD (asJ ks) (tkL ks) ∧ wD (asJ ks) (tkL ks) ≤ 40000 := by
 refine ⟨⟨al3 h, rfl, rfl⟩, ?_⟩
 have h1 := as4 4 ks fun n hn => atV 4 n fun c m hc => akz (aqi n (h.bn n hn) c m hc)
 have := h.wt
 unfold wD
 simp only [ky, List.length_cons, List.length_nil]
 omega
end Go.Proofs.YtclohbgnaopjfaaDoor
namespace Go.Proofs.YtclohbgnaopjfaaDoor
set_option linter.unusedSimpArgs false
set_option linter.unusedVariables false
open Go
theorem aii (f : za → Option Int) : ∀ (l : List za) (i : Int) (d : Nat), (∀ k ∈ l, f k = some (xO k : Int)) → qI f l i (d : Int) = some ((max d (qX l) : Nat) : Int)
  | [], i, d, _ => by simp [qI, qX]
  | n :: l, i, d, h => by
    rw [qI, h n (by simp)]
    simp only [Option.bind_some]
    have e : (if (xO n : Int) > (d : Int) then (xO n : Int) else (d : Int)) = ((max d (xO n) : Nat) : Int) := by split <;> omega
    rw [e, aii f l _ _ fun k hk => h k (by simp [hk])]
    simp only [qX, Option.some.injEq]
    omega
theorem aql (n : za) : nwt n ≤ 1099511627776 → ∀ kr, Qk n ≤ kr → qz kr n = some (xO n : Int) := by
  induction n using za.ind with
  | h n ih =>
    intro hw kr hk
    have hd := yw n
    obtain ⟨kr, rfl⟩ : ∃ j, kr = j + 1 := ⟨kr - 1, by omega⟩
    have hwt := wH n
    have hl := kH n.Kids
    have hdl := ang n
    have hdw := am5 n
    have en : (n.Kind == ([116, 101, 120, 116] : Str)) = isT n := rfl
    rw [qz, en]
    by_cases ht : isT n = true
    · simp [ht, Qa n]
    · have e := Qa n
      rw [if_neg ht] at e
      simp only [ht, Bool.false_eq_true, if_false]
      have h0 := aii (qz kr) n.Kids 0 0 (fun k hkk => ih k hkk (by have := Qb hkk; omega) kr (by have := yc hkk; omega))
      have h0' : qI (qz kr) n.Kids 0 0 = _ := h0
      rw [wI (by omega), h0']
      simp only [Option.bind_some, Nat.zero_max]
      rw [kG (by omega), e]
      rfl
theorem ahU (n : za) (h : nwt n ≤ 1099511627776) : vM n = some (xO n : Int) := by
 unfold vM
 exact KU (Qk n) fun kr hk => aql n h kr hk
end Go.Proofs.YtclohbgnaopjfaaDoor
namespace Go.Proofs.YtclohbgnaopjfaaDoor
set_option linter.unusedSimpArgs false
set_option linter.unusedVariables false
open Go
theorem al1 (x : Int) : -9223372036854775808 ≤ w64 x ∧ w64 x ≤ 9223372036854775807 := by
 show -9223372036854775808 ≤ IntKind.wrap .i64 x ∧ IntKind.wrap .i64 x ≤ 9223372036854775807
 rw [IntKind.wrap_i64]; omega
theorem ajS {α : Type} (l : List α) (p : Nat) (h : p < l.length) : ∃ x, rd l (p : Int) = some x ∧ x ∈ l := ⟨l[p], VJ (List.getElem?_eq_getElem h), List.getElem_mem h⟩
abbrev alQ : List Str := [[97], [98, 99], [195, 169], [120, 32, 121], [230, 151, 165, 230, 156, 172]]
abbrev ae2 : List Str := [[108, 101, 102, 116], [114, 105, 103, 104, 116]]
abbrev ai2 : List Str := [[], [195, 169], [34, 113, 92], [110, 111, 116, 101]]
abbrev YG : Str := [97, 108, 105, 103, 110]
abbrev ac6 : Str := [110, 111, 116, 101]
abbrev asO : Str := [112, 97, 114, 97]
abbrev aez : Str := [105, 116, 101, 109]
abbrev aie : Str := [108, 105, 115, 116]
theorem aqH {t : Str} (h : t ∈ alQ) : t ≠ [] ∧ Lib.validD t = true ∧ t.length ≤ 6 := by
 simp only [alQ, List.mem_cons, List.not_mem_nil, or_false] at h
 rcases h with rfl | rfl | rfl | rfl | rfl <;> refine ⟨by simp, by decide +kernel, by simp⟩
theorem aph {v w : Str} (hv : v ∈ ae2) (hw : w ∈ ai2) : ([⟨YG, v⟩, ⟨ac6, w⟩] : List zf).all (fun x => isValue x.Value) = true ∧ jw (([⟨YG, v⟩, ⟨ac6, w⟩] : List zf).map (·.Name)) = true ∧ ky [⟨YG, v⟩, ⟨ac6, w⟩] ≤ 20 := by
 refine ⟨?_, ?_, ?_⟩
 ·have h1 : isValue v = true := by
   simp only [ae2, List.mem_cons, List.not_mem_nil, or_false] at hv
   rcases hv with rfl | rfl <;> decide +kernel
  have h2 : isValue w = true := by
   simp only [ai2, List.mem_cons, List.not_mem_nil, or_false] at hw
   rcases hw with rfl | rfl | rfl | rfl <;> decide +kernel
  simp [h1, h2]
 ·show jw [YG, ac6] = true
  decide +kernel
 ·simp only [ae2, ai2, List.mem_cons, List.not_mem_nil, or_false] at hv hw
  rcases hv with rfl | rfl <;> rcases hw with rfl | rfl | rfl | rfl <;> simp [ky]
theorem Jr (c n : Int) (hc : -9223372036854775808 ≤ c ∧ c ≤ 9223372036854775807) (hn : 0 < n) : ∃ p : Nat, zV c n = some (p : Int) ∧ (p : Int) < n := by
  have key : ∀ x : Int, 0 ≤ x → ∃ p : Nat, x.tmod n = (p : Int) ∧ (p : Int) < n := by
    intro x hx
    obtain ⟨p, hp⟩ := Int.eq_ofNat_of_zero_le (Int.tmod_nonneg n hx)
    exact ⟨p, hp, hp ▸ Int.tmod_lt_of_pos x hn⟩
  unfold zV
  by_cases h : c < 0
  · obtain ⟨p, h1, h2⟩ := key (0 - (c + 1)) (by omega)
    refine ⟨p, ?_, h2⟩
    simp only [h, decide_true, if_true]
    rw [wI (by omega), kG (x := c + 1) (by omega), kG (by omega), h1]
  · obtain ⟨p, h1, h2⟩ := key c (by omega)
    refine ⟨p, ?_, h2⟩
    simp only [h, decide_false, Bool.false_eq_true, if_false]
    rw [wI (by omega), h1]
def abj (y : zu) : Prop := (-9223372036854775808 ≤ y.Text ∧ y.Text ≤ 9223372036854775807) ∧ (-9223372036854775808 ≤ y.Marks ∧ y.Marks ≤ 9223372036854775807) ∧ (-9223372036854775808 ≤ y.zt ∧ y.zt ≤ 9223372036854775807) ∧ (-9223372036854775808 ≤ y.In ∧ y.In ≤ 9223372036854775807)
structure BkS (i : Nat) (ts o : List za) : Prop where
 tb : ∀ x ∈ ts, BN x
 tt : ∀ x ∈ ts, isT x = true
 ob : ∀ x ∈ o, BN x
 ont : ∀ x ∈ o, isT x = false
 wt : zS ts + zS o ≤ 60 * i
 dep : qX o ≤ 31
theorem aee : ∀ (l : List za), (∀ x ∈ l, isT x = true) → qX l = 0
  | [], _ => by simp [qX]
  | n :: l, h => by
    rw [qX, Qa, if_pos (h n (by simp)), aee l fun x hx => h x (by simp [hx])]
    rfl
theorem YF {n : za} (h : isT n = false) : xO n = qX n.Kids + 1 := by rw [Qa, h]; rfl
theorem asu (y : zu) (hy : abj y) (i : Nat) (hi : i ≤ 41) (ts o : List za) (h : BkS i ts o) : ∃ p, vN y ts = some p ∧ BN p ∧ isT p = false ∧ nwt p ≤ 26 + zS ts ∧ xO p ≤ 1 := by
  obtain ⟨hT, hM, hA, hI⟩ := hy
  have hwt := h.wt
  have hjw := alI ts
  have hjd := amo ts
  rw [aee ts h.tt] at hjd
  obtain ⟨hjb, hja⟩ := at6 ts h.tb
  obtain ⟨p1, e1, b1⟩ := Jr y.zt 2 hA (by omega)
  obtain ⟨v, ev, mv⟩ := ajS ae2 p1 (by simp; omega)
  obtain ⟨p2, e2, b2⟩ := Jr (w64 (y.zt.tdiv 2)) 4 (al1 _) (by omega)
  obtain ⟨w, ew, mw⟩ := ajS ai2 p2 (by simp; omega)
  obtain ⟨a1, a2, a3⟩ := aph mv mw
  have ht : isT (⟨asO, [], [], [⟨YG, v⟩, ⟨ac6, w⟩], WW ts⟩ : za) = false := rfl
  refine ⟨⟨asO, [], [], [⟨YG, v⟩, ⟨ac6, w⟩], WW ts⟩, ?_, .node _ _ _ (by decide +kernel) a1 a2 hjb hja, ht, ?_, ?_⟩
  · unfold vN
    rw [e1]
    simp only [Option.bind_some, ev]
    rw [e2]
    simp only [Option.bind_some, ew]
    rw [join_eq ts (by omega)]
    rfl
  · rw [wH]
    simp only [wU, List.length_cons, List.length_nil]
    omega
  · rw [YF ht]
    simp only
    omega
theorem afd {k : Str} {ks : List za} (hk : isName k = true) (hl : k.length = 4) (h : ∀ x ∈ ks, BN x) (hn : ∀ x ∈ ks, isT x = false) : BN ⟨k, [], [], [], ks⟩ ∧ isT ⟨k, [], [], [], ks⟩ = false ∧ nwt ⟨k, [], [], [], ks⟩ = 6 + zS ks ∧ xO ⟨k, [], [], [], ks⟩ = qX ks + 1 := by
  have ht : isT (⟨k, [], [], [], ks⟩ : za) = false := acu hk
  refine ⟨.node _ _ _ hk rfl (by decide +kernel) h (amd ks hn), ht, ?_, YF ht⟩
  rw [wH]
  simp only [wU, ky, List.length_nil]
  omega
theorem ait : isName aez = true := by decide +kernel
theorem ahX : isName aie = true := by decide +kernel
theorem BkS.put {i : Nat} {ts o ts' o' : List za} (h : BkS i ts o) {p : za} (hp : BN p) (ht : isT p = false) (hb : ∀ x ∈ ts', BN x) (htt : ∀ x ∈ ts', isT x = true) (ho : ∀ x ∈ o', x ∈ o) (hw : zS ts' + zS o' + nwt p ≤ 60 * (i + 1)) (hd : xO p ≤ 31) : BkS (i + 1) ts' (o' ++ [p]) := by
 have hdo : ∀ l : List za, (∀ x ∈ l, x ∈ o) → qX l ≤ 31 := by
  intro l
  induction l with
  | nil => simp [qX]
  | cons x l ih =>
   intro hx
   have h1 := ih fun y hy => hx y (by simp [hy])
   have h2 : ∀ r : List za, x ∈ r → xO x ≤ qX r := by
    intro r
    induction r with
    | nil => simp
    | cons z r ih =>
     intro hr
     rw [qX]
     rcases List.mem_cons.1 hr with rfl | hr
     ·omega
     ·have := ih hr; omega
   have h3 := h2 o (hx x (by simp))
   have := h.dep
   rw [qX]
   omega
 refine ⟨hb, htt, fun x hx => ?_, fun x hx => ?_, ?_, ?_⟩
 ·rcases List.mem_append.1 hx with hx | hx
  ·exact h.ob x (ho x hx)
  ·simp at hx; rw [hx]; exact hp
 ·rcases List.mem_append.1 hx with hx | hx
  ·exact h.ont x (ho x hx)
  ·simp at hx; rw [hx]; exact ht
 ·simp only [Zd, zS]; omega
 ·have := hdo o' ho
  simp only [Jw, qX]
  omega
theorem apn (y : zu) (hy : abj y) (i : Nat) (hi : i < 40) (ts o : List za) (h : BkS i ts o) : ∃ ts' o', BkS (i + 1) ts' o' ∧ ∀ suf, zC (y :: suf) (i : Int) ts o = zC suf ((i : Int) + 1) ts' o' := by
  have hy' := hy
  obtain ⟨hT, hM, hA, hI⟩ := hy
  have hwt := h.wt
  have hlo := kH o
  have hlt := kH ts
  obtain ⟨pT, eT, bT⟩ := Jr y.Text 5 hT (by omega)
  obtain ⟨tx, et, mt⟩ := ajS alQ pT (by simp; omega)
  obtain ⟨pM, eM, bM⟩ := Jr y.Marks 4 hM (by omega)
  obtain ⟨pI, eI, bI⟩ := Jr y.In 5 hI (by omega)
  obtain ⟨t1, t2, t3⟩ := aqH mt
  have hi' : decide ((i : Int) < 40) = true := by simp; omega
  obtain ⟨m1, em1, hm1⟩ : ∃ m, ((zV y.Marks (4 : Int)).bind fun acm => if ((ahO acm (1 : Int)) == (1 : Int)) = true then (app 16 ([] : List Str) [([98] : Str)]).bind fun amv => some amv else some ([] : List Str)) = some m ∧ (m = [] ∨ m = [[98]]) := by
    rw [eM]
    simp only [Option.bind_some]
    split
    · exact ⟨[[98]], by rw [kQ (by simp)]; rfl, .inr rfl⟩
    · exact ⟨[], rfl, .inl rfl⟩
  obtain ⟨m2, em2, hm2⟩ : ∃ m, ((zV y.Marks (4 : Int)).bind fun ab4 => if ((ahO ab4 (2 : Int)) == (2 : Int)) = true then (app 16 m1 [([105] : Str)]).bind fun arv => some arv else some m1) = some m ∧ aaT m := by
    rw [eM]
    simp only [Option.bind_some]
    rcases hm1 with rfl | rfl
    · split
      · exact ⟨[[105]], by rw [kQ (by simp)]; rfl, .inr (.inr (.inl rfl))⟩
      · exact ⟨[], rfl, .inl rfl⟩
    · split
      · exact ⟨[[98], [105]], by rw [kQ (by simp)]; rfl, .inr (.inr (.inr rfl))⟩
      · exact ⟨[[98]], rfl, .inr (.inl rfl)⟩
  have hmw := akz hm2
  obtain ⟨n, hn⟩ : ∃ n : za, n = ⟨jq, tx, m2, [], []⟩ := ⟨_, rfl⟩
  have hnB : BN n := by rw [hn]; exact .text _ _ t1 t2 hm2
  have hnT : isT n = true := by rw [hn]; rfl
  have hnW : nwt n ≤ 16 := by rw [hn, wH]; simp only [ky, zS, List.length_cons, List.length_nil]; omega
  have hts : BkS i (ts ++ [n]) o → True := fun _ => trivial
  have start : ∀ suf, zC (y :: suf) (i : Int) ts o = (
      if ((pI : Int) == (0 : Int)) = true then
        zC suf ((i : Int) + 1) (ts ++ [n]) o
      else
        (vN y (ts ++ [n])).bind fun jW =>
        if (decide ((pI : Int) < (3 : Int))) = true then
          (app 104 o [jW]).bind fun ar1 =>
          zC suf ((i : Int) + 1) ([] : List za) ar1
        else
          ((
              if (decide ((w64 ((o.length : Int) - (1 : Int))) ≥ (0 : Int))) = true then
                (rd o (w64 ((o.length : Int) - (1 : Int)))).bind fun ajl =>
                if (ajl.Kind == ([108, 105, 115, 116] : Str)) = true then
                  if ((pI : Int) == (3 : Int)) = true then
                    (app 104 ([] : List za) ajl.Kids).bind fun amK =>
                    (app 104 amK [({ Kind := ([105, 116, 101, 109] : Str), Text := ([] : Str), Marks := [], zt := [], Kids := [jW] } : za)]).bind fun aru =>
                    (sl o (0 : Int) (w64 ((o.length : Int) - (1 : Int)))).bind fun arL =>
                    (app 104 ([] : List za) arL).bind fun arT =>
                    (app 104 arT [{ ajl with Kids := aru }]).bind fun ar2 =>
                    some (.inl ar2)
                  else
                    some (.inr ())
                else
                  some (.inr ())
              else
                some (.inr ())) : Option ((List za) ⊕ Unit)).bind fun e => match e with
          | .inl akS =>
            zC suf ((i : Int) + 1) ([] : List za) akS
          | .inr _ =>
            if (decide ((w64 ((o.length : Int) - (1 : Int))) ≥ (0 : Int))) = true then
              (rd o (w64 ((o.length : Int) - (1 : Int)))).bind fun aiY =>
              if (aiY.Kind == ([108, 105, 115, 116] : Str)) = true then
                (vM aiY).bind fun XB =>
                if (decide (XB < (30 : Int))) = true then
                  (app 104 [jW] [aiY]).bind fun art =>
                  (sl o (0 : Int) (w64 ((o.length : Int) - (1 : Int)))).bind fun arW =>
                  (app 104 ([] : List za) arW).bind fun ar4 =>
                  (app 104 ar4 [({ Kind := ([108, 105, 115, 116] : Str), Text := ([] : Str), Marks := [], zt := [], Kids := [({ Kind := ([105, 116, 101, 109] : Str), Text := ([] : Str), Marks := [], zt := [], Kids := art } : za)] } : za)]).bind fun asx =>
                  zC suf ((i : Int) + 1) ([] : List za) asx
                else
                  (app 104 o [({ Kind := ([108, 105, 115, 116] : Str), Text := ([] : Str), Marks := [], zt := [], Kids := [({ Kind := ([105, 116, 101, 109] : Str), Text := ([] : Str), Marks := [], zt := [], Kids := [jW] } : za)] } : za)]).bind fun arV =>
                  zC suf ((i : Int) + 1) ([] : List za) arV
              else
                (app 104 o [({ Kind := ([108, 105, 115, 116] : Str), Text := ([] : Str), Marks := [], zt := [], Kids := [({ Kind := ([105, 116, 101, 109] : Str), Text := ([] : Str), Marks := [], zt := [], Kids := [jW] } : za)] } : za)]).bind fun ast =>
                zC suf ((i : Int) + 1) ([] : List za) ast
            else
              (app 104 o [({ Kind := ([108, 105, 115, 116] : Str), Text := ([] : Str), Marks := [], zt := [], Kids := [({ Kind := ([105, 116, 101, 109] : Str), Text := ([] : Str), Marks := [], zt := [], Kids := [jW] } : za)] } : za)]).bind fun arB =>
              zC suf ((i : Int) + 1) ([] : List za) arB) := fun suf => by
    rw [zC, if_pos hi', eT]
    simp only [Option.bind_some]
    rw [et]
    simp only [Option.bind_some]
    rw [em1]
    simp only [Option.bind_some]
    rw [em2]
    simp only [Option.bind_some]
    rw [← hn, kQ (by simp only [List.length_cons, List.length_nil]; omega)]
    simp only [Option.bind_some]
    rw [eI]
    rfl
  have htb : ∀ x ∈ ts ++ [n], BN x := fun x hx => by
    rcases List.mem_append.1 hx with hx | hx
    · exact h.tb x hx
    · simp at hx; rw [hx]; exact hnB
  have htt : ∀ x ∈ ts ++ [n], isT x = true := fun x hx => by
    rcases List.mem_append.1 hx with hx | hx
    · exact h.tt x hx
    · simp at hx; rw [hx]; exact hnT
  have hwn : zS (ts ++ [n]) = zS ts + nwt n := by simp [Zd, zS]
  by_cases k0 : (pI : Int) = 0
  · refine ⟨ts ++ [n], o, ⟨htb, htt, h.ob, h.ont, by omega, h.dep⟩, fun suf => ?_⟩
    rw [start, if_pos (by simp [k0])]
  · obtain ⟨p, ep, hpB, hpT, hpW, hpD⟩ := @asu y hy' (i + 1) (by omega) (ts ++ [n]) o ⟨htb, htt, h.ob, h.ont, by omega, h.dep⟩
    have nob : ∀ x ∈ ([] : List za), BN x := by simp
    have nott : ∀ x ∈ ([] : List za), isT x = true := by simp
    by_cases k3 : (pI : Int) < 3
    · refine ⟨[], o ++ [p], h.put hpB hpT nob nott (fun x hx => hx) (by simp only [zS]; omega) (by omega), fun suf => ?_⟩
      rw [start, if_neg (by simp; omega), ep]
      simp only [Option.bind_some]
      rw [if_pos (by simp; omega), kQ (by simp only [List.length_cons, List.length_nil]; omega)]
      rfl
    · obtain ⟨q1, q2, q3, q4⟩ := afd (k := aez) (ks := [p]) ait rfl (by simpa using hpB) (by simpa using hpT)
      obtain ⟨r1, r2, r3, r4⟩ := afd (k := aie) (ks := [⟨aez, [], [], [], [p]⟩]) ahX rfl (by simpa using q1) (by simpa using q2)
      simp only [zS, qX] at q3 q4 r3 r4
      have one : BkS (i + 1) [] (o ++ [⟨aie, [], [], [], [⟨aez, [], [], [], [p]⟩]⟩]) := h.put r1 r2 nob nott (fun x hx => hx) (by simp only [zS]; omega) (by omega)
      have happ : ∀ z : za, app 104 o [z] = some (o ++ [z]) := fun z => kQ (by simp only [List.length_cons, List.length_nil]; omega)
      rcases wX o with rfl | ⟨o, x, rfl⟩
      · refine ⟨[], _, one, fun suf => ?_⟩
        have hl : decide (w64 ((([] : List za).length : Int) - 1) ≥ 0) = false := by rw [kG (by simp)]; simp
        rw [start, if_neg (by simp; omega), ep]
        simp only [Option.bind_some]
        rw [if_neg (by simp; omega), hl]
        simp only [Bool.false_eq_true, if_false, Option.bind_some]
        rw [happ]
        rfl
      · have hlen : ((o ++ [x]).length : Int) - 1 = (o.length : Int) := by simp
        have hlw : w64 (((o ++ [x]).length : Int) - 1) = (o.length : Int) := by
          rw [hlen]
          simp only [List.length_append, List.length_cons, List.length_nil] at hlo
          exact kG (by omega)
        have hl : decide ((o.length : Int) ≥ 0) = true := by simp
        have hrd : rd (o ++ [x]) (o.length : Int) = some x := JQ o [] x
        have hsl : sl (o ++ [x]) 0 (o.length : Int) = some o := apY o [x]
        have hxB := h.ob x (by simp)
        have hxT := h.ont x (by simp)
        have hd := h.dep
        simp only [Zd, zS, Jw, qX] at hwt hd
        have hwo : 2 * o.length ≤ zS o := kH o
        by_cases kl : x.Kind = aie
        · by_cases kk : (pI : Int) = 3
          · obtain ⟨kB, kJ⟩ := anc hxB
            have hlk := kH x.Kids
            have hxw := wH x
            obtain ⟨z, hz⟩ : ∃ z : za, z = { x with Kids := x.Kids ++ [⟨aez, [], [], [], [p]⟩] } := ⟨_, rfl⟩
            have zw := wH z
            have zT : isT z = false := by rw [hz]; exact hxT
            have zd := YF zT
            have xd := YF hxT
            have zB : BN z := by
              rw [hz]
              cases hxB with
              | text t m h1 h2 hm => cases kl
              | node k a ks hk ha hb hs hj =>
                simp only at kl
                subst kl
                refine .node _ _ _ hk ha hb (fun y hy => ?_) ?_
                · rcases List.mem_append.1 hy with hy | hy
                  · exact hs y hy
                  · simp at hy; rw [hy]; exact q1
                · rcases wX ks with rfl | ⟨ks, u, rfl⟩
                  · trivial
                  · rw [List.append_assoc]
                    exact agn ks u _ hj (by unfold wQ; rw [q2]; simp)
            rw [hz] at zw zd
            simp only [Zd, zS, Jw, qX] at zw zd
            refine ⟨[], o ++ [z], h.put zB zT nob nott (fun y hy => by simp [hy]) (by simp only [zS]; rw [hz, wH]; simp only [Zd, zS]; omega) (by rw [hz, zd]; omega), fun suf => ?_⟩
            rw [start, if_neg (by simp; omega), ep]
            simp only [Option.bind_some]
            rw [if_neg (by simp; omega), hlw, hl]
            simp only [if_true]
            rw [hrd]
            simp only [Option.bind_some]
            rw [if_pos (by rw [kl]; rfl), if_pos (by simp [kk]), kQ (by simp only [List.length_nil]; omega)]
            simp only [Option.bind_some, List.nil_append]
            rw [kQ (by simp only [List.length_cons, List.length_nil]; omega)]
            simp only [Option.bind_some]
            rw [hsl]
            simp only [Option.bind_some]
            rw [kQ (by simp only [List.length_nil]; omega)]
            simp only [Option.bind_some, List.nil_append]
            rw [kQ (by simp only [List.length_cons, List.length_nil]; omega)]
            simp only [Option.bind_some]
            rw [hz]
          · by_cases kd : xO x < 30
            · obtain ⟨u1, u2, u3, u4⟩ := afd (k := aez) (ks := [p, x]) ait rfl (by simpa using ⟨hpB, hxB⟩) (by simpa using ⟨hpT, hxT⟩)
              obtain ⟨v1, v2, v3, v4⟩ := afd (k := aie) (ks := [⟨aez, [], [], [], [p, x]⟩]) ahX rfl (by simpa using u1) (by simpa using u2)
              simp only [zS, qX] at u3 u4 v3 v4
              refine ⟨[], o ++ [⟨aie, [], [], [], [⟨aez, [], [], [], [p, x]⟩]⟩], h.put v1 v2 nob nott (fun y hy => by simp [hy]) (by simp only [zS]; omega) (by omega), fun suf => ?_⟩
              rw [start, if_neg (by simp; omega), ep]
              simp only [Option.bind_some]
              rw [if_neg (by simp; omega), hlw, hl]
              simp only [if_true]
              rw [hrd]
              simp only [Option.bind_some]
              rw [if_pos (by rw [kl]; rfl), if_neg (by simp [kk])]
              simp only [Option.bind_some]
              rw [if_pos (by rw [kl]; rfl), ahU x (by omega)]
              simp only [Option.bind_some]
              rw [if_pos (by simp; omega), kQ (by simp)]
              simp only [Option.bind_some]
              rw [hsl]
              simp only [Option.bind_some]
              rw [kQ (by simp only [List.length_nil]; omega)]
              simp only [Option.bind_some, List.nil_append]
              rw [kQ (by simp only [List.length_cons, List.length_nil]; omega)]
              rfl
            · refine ⟨[], _, one, fun suf => ?_⟩
              rw [start, if_neg (by simp; omega), ep]
              simp only [Option.bind_some]
              rw [if_neg (by simp; omega), hlw, hl]
              simp only [if_true]
              rw [hrd]
              simp only [Option.bind_some]
              rw [if_pos (by rw [kl]; rfl), if_neg (by simp [kk])]
              simp only [Option.bind_some]
              rw [if_pos (by rw [kl]; rfl), ahU x (by omega)]
              simp only [Option.bind_some]
              rw [if_neg (by simp; omega), happ]
              rfl
        · refine ⟨[], _, one, fun suf => ?_⟩
          rw [start, if_neg (by simp; omega), ep]
          simp only [Option.bind_some]
          rw [if_neg (by simp; omega), hlw, hl]
          simp only [if_true]
          rw [hrd]
          simp only [Option.bind_some]
          rw [if_neg (by simpa using kl)]
          simp only [Option.bind_some]
          rw [if_neg (by simpa using kl), happ]
          rfl
theorem apU : ∀ (l : List zu) (i : Nat) (ts o : List za), (∀ y ∈ l, abj y) → i ≤ 40 → BkS i ts o → ∃ ts' o', zC l (i : Int) ts o = some o' ∧ BkS 40 ts' o'
  | [], i, ts, o, _, hi, h => ⟨ts, o, by simp [zC], h.tb, h.tt, h.ob, h.ont, by have := h.wt; omega, h.dep⟩
  | y :: l, i, ts, o, hy, hi, h => by
    by_cases hlt : i < 40
    · obtain ⟨t1, o1, h1, h2⟩ := apn y (hy y (by simp)) i hlt ts o h
      obtain ⟨ts', o', h3, h4⟩ := apU l (i + 1) t1 o1 (fun x hx => hy x (by simp [hx])) (by omega) h1
      refine ⟨ts', o', ?_, h4⟩
      rw [h2, ← h3]
      rfl
    · have : decide ((i : Int) < 40) = false := by simp; omega
      exact ⟨ts, o, by rw [zC]; simp [this], h.tb, h.tt, h.ob, h.ont, by have := h.wt; omega, h.dep⟩
theorem arI (l : List zu) (hl : l.length ≤ 9223372036854775807) (h : ∀ y ∈ l, abj y) : ∃ ks, j4 l = some ⟨aoh, [], [], [], ks⟩ ∧ Book ks := by
  obtain ⟨ts, o, h1, h2⟩ := apU l 0 [] [] h (by omega) ⟨by simp, by simp, by simp, by simp, by simp [zS], by simp [qX]⟩
  have hw := h2.wt
  refine ⟨o, ?_, h2.ob, h2.ont, by omega, h2.dep⟩
  unfold j4
  rw [wI hl]
  have : zC l 0 [] [] = some o := h1
  rw [this]
  rfl
end Go.Proofs.YtclohbgnaopjfaaDoor
namespace Go.Proofs.YtclohbgnaopjfaaDoor
set_option linter.unusedSimpArgs false
set_option linter.unusedVariables false
open Go Classical
abbrev auc : za := ⟨[100, 111, 99], [], [], [], [⟨[112], [], [], [], [⟨jq, [104, 105], [], [], []⟩]⟩]⟩
abbrev asW : za := ⟨[100, 111, 99], [], [], [], [⟨[112], [], [], [], [⟨jq, [104], [], [], []⟩, ⟨jq, [105], [[98]], [], []⟩]⟩]⟩
theorem amk : jo = some true := by
 have r1 : runes [104, 105] = [104, 105] := by decide +kernel
 have r2 : runes [104] = [104] := by decide +kernel
 have r3 : runes [105] = [105] := by decide +kernel
 have hT : tkL auc.Kids = [.opn [112] [], .sgn 104 [], .sgn 105 [], .cls, ] := by
  simp [tkL, tkN, r1]
 have h : TD auc [.opn [112] [], .sgn 104 [], .sgn 105 [], .cls] := ⟨by decide +kernel, rfl, hT⟩
 have hB : tkL asW.Kids = [.opn [112] [], .sgn 104 [], .sgn 105 [[98]], .cls] := by
  simp [tkL, tkN, r2, r3]
 have hb : TD asW [.opn [112] [], .sgn 104 [], .sgn 105 [[98]], .cls] := ⟨by decide +kernel, rfl, hB⟩
 obtain ⟨N, h1, _, h2, h3, h4⟩ := al7 h (by decide +kernel) (k := 109) (.inl rfl) (x := [98]) (by decide +kernel) (by decide) (a := 2) (b := 3) (by decide) (by decide)
 have e : ji 109 [98] 2 3 0 [.opn [112] [], .sgn 104 [], .sgn 105 [], .cls] = [.opn [112] [], .sgn 104 [], .sgn 105 [[98]], .cls] := by
  have : mkS 109 [98] [] = [[98]] := by decide +kernel
  simp [ji, mkT, this]
 rw [e] at h2
 obtain rfl := h2.ext hb h3 h4
 have e2 : ((2 : Nat) : Int) = 2 := rfl
 have e3 : ((3 : Nat) : Int) = 3 := rfl
 rw [e2, e3] at h1
 unfold jo
 rw [h1]
 rfl
end Go.Proofs.YtclohbgnaopjfaaDoor
namespace Go.Proofs.YtclohbgnaopjfaaDoor
set_option linter.unusedSimpArgs false
set_option linter.unusedVariables false
open Go Classical
theorem akD {ks : List za} (h : Book ks) (c : Int) (hc : -9223372036854775808 ≤ c ∧ c ≤ 9223372036854775807) : ∃ p : Nat, zV c (w64 ((zO ks : Int) + 1)) = some (p : Int) ∧ p ≤ zO ks := by
  have hw := h.wt
  have hs := xW ks
  rw [kG (by omega)]
  obtain ⟨p, h1, h2⟩ := Jr c ((zO ks : Int) + 1) hc (by omega)
  exact ⟨p, h1, by omega⟩
end Go.Proofs.YtclohbgnaopjfaaDoor
namespace Go.Proofs.YtclohbgnaopjfaaDoor
set_option linter.unusedSimpArgs false
set_option linter.unusedVariables false
open Go Classical
def af9 (T : List Tk) (p : Nat) (nm : Str) (k : Str) (aa : List zf) (i : Nat) (a : zf) : Prop := T[p]? = some (.opn k aa) ∧ aa[i]? = some a ∧ a.Name = nm
theorem afw {n : za} {T : List Tk} (h : TD n T) (hw : wD n T ≤ 100000000) (p : Nat) (hp : p ≤ 1048576) {nm v : Str} (hn : isName nm = true) (hv : isValue v = true) :
    (∃ k aa i a, af9 T p nm k aa i a) ∨ ∃ e, e ≠ 0 ∧ qP n ⟨97, (p : Int), 0, [], nm, v⟩ = some (arz, e) := by
  by_cases ho : ∃ k aa i a, af9 T p nm k aa i a
  · exact .inl ho
  · right
    obtain ⟨e, he, hs⟩ := atL h hw ⟨97, (p : Int), 0, [], nm, v⟩ (by simp) fun k aa hk a ha hnm => by
      obtain ⟨i, hi⟩ := List.mem_iff_getElem?.1 ha
      exact ho ⟨k, aa, i, a, by simpa using hk, hi, hnm⟩
    refine ⟨e, he, ?_⟩
    rw [aa3 h hw _ (afg hn hv (by omega) (by omega) (by have := akZ hn; omega))]
    simp only
    rw [if_neg (by decide), if_pos (by decide), hs]
    rfl
theorem Vr {n : za} {T : List Tk} (h : TD n T) (hw : wD n T ≤ 100000000) {p : Nat} {nm : Str} {k : Str} {aa : List zf} {i : Nat} {a : zf} (ha : af9 T p nm k aa i a) {v : Str} (hv : isValue v = true) :
  ∃ N, qP n ⟨97, (p : Int), 0, [], nm, v⟩ = some (N, 0) ∧ jZ n ⟨97, (p : Int), 0, [], nm, v⟩ = some (N, a.Value, 0) ∧ TD N (T.set p (.opn k (jO aa i v))) ∧ N.Kind = n.Kind ∧ N.zt = n.zt ∧ wD N (T.set p (.opn k (jO aa i v))) ≤ wD n T + 40 := by
 obtain ⟨h1, h2, rfl⟩ := ha
 obtain ⟨N, g1, g2, g3, g4, g5, g6⟩ := alU h hw h1 h2 hv
 have := ac7 hv
 exact ⟨N, g1, g2, g3, g4, g5, by omega⟩
theorem aoq {n : za} {T : List Tk} (h : TD n T) (hw : wD n T ≤ 100000000) {p : Nat} {k : Str} {aa : List zf} (hp : T[p]? = some (.opn k aa)) : aa.all (fun x => isValue x.Value) = true ∧ jw (aa.map (·.Name)) = true := by
 obtain ⟨q, x, _, hx, ht, _, rfl⟩ := JL h hw hp
 obtain ⟨f1, _, _, _, f5, _⟩ := ady (hx.form h.form) ht
 exact ⟨f1, f5⟩
theorem aof {aa : List zf} {i : Nat} {a : zf} (h : aa[i]? = some a) (v : Str) : jO (jO aa i v) i a.Value = aa := by
 refine List.ext_getElem? fun j => ?_
 rw [Zm, Zm]
 by_cases e : j = i
 ·subst e
  rw [if_pos rfl, if_pos rfl, h]
  rfl
 ·rw [if_neg e, Zm, if_neg e]
theorem amt (aa : List zf) (i : Nat) (v w : Str) : jO (jO aa i v) i w = jO aa i w := by
 refine List.ext_getElem? fun j => ?_
 simp only [Zm]
 by_cases e : j = i
 ·subst e
  simp only [if_true]
  cases aa[j]? <;> rfl
 ·simp only [if_neg e]
theorem an7 (aa : List zf) {i j : Nat} (hij : i ≠ j) (v w : Str) : jO (jO aa i v) j w = jO (jO aa j w) i v := by
 refine List.ext_getElem? fun m => ?_
 simp only [Zm]
 have hji : ¬ j = i := fun h => hij h.symm
 by_cases e : m = j
 ·subst e
  simp only [if_true, if_neg hji]
 ·simp only [if_neg e]
  by_cases e2 : m = i
  ·subst e2
   simp only [if_true, if_neg e]
  ·simp only [if_neg e2]
theorem ate {T : List Tk} {p : Nat} {nm k : Str} {aa : List zf} {i : Nat} {a : zf} (h : af9 T p nm k aa i a) (v : Str) : (T.set p (.opn k (jO aa i v)))[p]? = some (.opn k (jO aa i v)) := by
 have hl := (List.getElem?_eq_some_iff.1 h.1).1
 rw [List.getElem?_set_self hl]
theorem af9.set {T : List Tk} {p : Nat} {nm k : Str} {aa : List zf} {i : Nat} {a : zf} (h : af9 T p nm k aa i a) (v : Str) : af9 (T.set p (.opn k (jO aa i v))) p nm k (jO aa i v) i { a with Value := v } := by
 refine ⟨ate h v, ?_, h.2.2⟩
 rw [Zm, if_pos rfl, h.2.1]
 rfl
theorem aod {n N : za} {s : zz} {w : Str} (hk : s.Kind = 97) (h1 : qP n s = some (N, 0)) (h2 : jZ n s = some (N, w, 0)) : QX n s = some ([⟨97, s.From, 0, [], s.Name, w⟩], 0) := by
  unfold QX
  rw [h1]
  simp only [Option.bind_some, bne_self_eq_false, Bool.false_eq_true, if_false]
  rw [hk, if_neg (by decide), if_pos (by decide), h2]
  rfl
theorem aqZ {n N : za} {s : zz} {e : Int} (he : e ≠ 0) (h1 : qP n s = some (N, e)) : QX n s = some ([], e) := by
  unfold QX
  rw [h1]
  simp only [Option.bind_some]
  rw [if_pos (by simpa using he)]
end Go.Proofs.YtclohbgnaopjfaaDoor
