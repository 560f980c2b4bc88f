/- Texts of the proof of diffLeastCard -/
import Derived.Test.YtclohbgnaopjfaaDoorAgF
import Derived.Lib.RuneCount
import Derived.Lib.SlTrimSet
import Derived.Lib.ValidU
import Derived.Lib.MapLaws
import Derived.Lib.ValidLaws
import Derived.Test.YtclohbgnaopjfaaDoorAgWith
namespace Go.Proofs.YtclohbgnaopjfaaDoor
set_option linter.unusedSimpArgs false
set_option linter.unusedVariables false
open Go
theorem qd {x : Int} (h : -9223372036854775808 ≤ x ∧ x ≤ 9223372036854775807) : w64 x = x := auq h
theorem wz {α : Type} {p : Prop} [Decidable p] (h : p) (x : Option α) : chk p x = x := if_pos h
theorem xg {α : Type} {l : List α} {i : Nat} {x : α} (h : l[i]? = some x) : rd l (i : Int) = some x := by
 unfold rd; rw [if_pos (by omega)]; simpa using h
theorem Vf {α : Type} (pre suf : List α) (x : α) : rd (pre ++ x :: suf) (pre.length : Int) = some x := xg (by simp)
theorem Xc {α : Type} {l : List α} {a b : Nat} (h1 : a ≤ b) (h2 : b ≤ l.length) : sl l (a : Int) (b : Int) = some ((l.take b).drop a) := by
 unfold sl; rw [if_pos (by omega)]; simp
theorem ash {α : Type} (pre suf : List α) : sl (pre ++ suf) 0 (pre.length : Int) = some pre := by
 have := Xc (l := pre ++ suf) (a := 0) (b := pre.length) (by omega) (by simp)
 simpa using this
theorem ko {α : Type} {z : Nat} {l ys : List α} (h : (l.length + ys.length) * z ≤ 140737488355328) : app z l ys = some (l ++ ys) := if_pos h
theorem vC {α : Type} (l : List α) : l = [] ∨ ∃ a x, l = a ++ [x] := by
 rcases List.eq_nil_or_concat l with h | ⟨a, x, h⟩
 ·exact .inl h
 ·exact .inr ⟨a, x, by simpa using h⟩
abbrev jK : Str := [116, 101, 120, 116]
def xK : List Str → Nat
 | [] => 0
 | s :: l => 1 + s.length + xK l
theorem aji {s : Str} : ∀ {l : List Str}, s ∈ l → s.length ≤ xK l
 | x :: l, h => by
  simp only [xK]
  rcases List.mem_cons.1 h with rfl | h
  ·omega
  ·have := aji h; omega
theorem adh (l : List Str) : l.length ≤ xK l := by
 induction l with
 | nil => simp
 | cons s l ih => simp only [List.length_cons, xK]; omega
end Go.Proofs.YtclohbgnaopjfaaDoor
namespace Go.Proofs.YtclohbgnaopjfaaDoor
set_option linter.unusedSimpArgs false
set_option linter.unusedVariables false
open Go
def isT (n : za) : Bool := n.Kind == jK
theorem Qt (n : za) : (n.Kind == ([116, 101, 120, 116] : Str)) = isT n := rfl
theorem za.ind {p : za → Prop} (h : ∀ n : za, (∀ k ∈ n.Kids, p k) → p n) : ∀ n, p n
 | ⟨a, b, c, d, ks⟩ => h _ fun k hk => za.ind h k
 termination_by n => n
 decreasing_by
  have : SizeOf.sizeOf k < SizeOf.sizeOf ks := List.sizeOf_lt_of_mem hk
  simp only [za.mk.sizeOf_spec]
  omega
def ah4 (s : Str) : Nat := Lib.runeCountL s
theorem ajI (s : Str) : ah4 s ≤ s.length := by
 have := Lib.runeCountFrom_le ⟨s.toArray⟩ (ByteArray.size ⟨s.toArray⟩) 0
 simpa [ah4, Lib.runeCountL, Lib.runeCount, ByteArray.size] using this
theorem ajW (s : Str) : ∀ (f k : Nat) (n : Int) (pos : Nat), s.length - pos ≤ f → f < k → 0 ≤ n → n + f ≤ 9223372036854775807 → zL s k n pos = some (n + Lib.runeCountFrom ⟨s.toArray⟩ f pos) := by
 intro f
 induction f with
 | zero =>
  intro k n pos h1 h2 h3 h4
  obtain ⟨k, rfl⟩ : ∃ j, k = j + 1 := ⟨k - 1, by omega⟩
  have : ¬ pos < s.length := by omega
  simp [zL, this, Lib.runeCountFrom]
 | succ f ih =>
  intro k n pos h1 h2 h3 h4
  obtain ⟨k, rfl⟩ : ∃ j, k = j + 1 := ⟨k - 1, by omega⟩
  rw [zL]
  by_cases hp : pos < s.length
  ·have hw := Lib.decode_width_pos ⟨s.toArray⟩ pos (by simpa [ByteArray.size] using hp)
   simp only [hp, decide_true, if_true]
   rw [qd (by omega), ih k (n + 1) _ (by simp only [asR]; omega) (by omega) (by omega) (by omega)]
   have hs : pos < ByteArray.size ⟨s.toArray⟩ := by simpa [ByteArray.size] using hp
   simp only [Lib.runeCountFrom, hs, if_true, asR, Option.some.injEq]
   omega
  ·have hs : ¬ pos < ByteArray.size ⟨s.toArray⟩ := by simpa [ByteArray.size] using hp
   simp [hp, Lib.runeCountFrom, hs]
theorem runeCount_eq (s : Str) (h : s.length ≤ 9223372036854775807) : wB s = some (ah4 s : Int) := by
 have key : (lim fun k => zL s k 0 0) = some (ah4 s : Int) := by
  refine ZR (s.length + 1) fun k hk => ?_
  rw [ajW s s.length k 0 0 (by omega) (by omega) (by omega) (by omega)]
  simp [ah4, Lib.runeCountL, Lib.runeCount, ByteArray.size]
 unfold wB
 rw [key]
 rfl
mutual
def kR : za → Nat
 | ⟨k, t, _, _, ks⟩ => if (k == jK) = true then ah4 t else 2 + zC ks
def zC : List za → Nat
 | [] => 0
 | n :: l => kR n + zC l
end
mutual
def yV : za → Nat
 | ⟨_, _, _, _, ks⟩ => 1 + vg ks
def vg : List za → Nat
 | [] => 0
 | n :: l => max (yV n) (vg l)
end
def wR : List ze → Nat
 | [] => 0
 | a :: l => 1 + a.Name.length + a.Value.length + wR l
mutual
def nwt : za → Nat
 | ⟨k, t, m, a, ks⟩ => 2 + k.length + t.length + xK m + wR a + zR ks
def zR : List za → Nat
 | [] => 0
 | n :: l => nwt n + zR l
end
theorem yE (n : za) : kR n = if isT n = true then ah4 n.Text else 2 + zC n.Kids := by cases n; simp only [kR, isT]; rfl
theorem Wm {n : za} (h : isT n = false) : kR n = 2 + zC n.Kids := by rw [yE, h]; simp
theorem xY (n : za) : yV n = 1 + vg n.Kids := by cases n; simp only [yV]
theorem qI (n : za) : nwt n = 2 + n.Kind.length + n.Text.length + xK n.Marks + wR n.zh + zR n.Kids := by cases n; simp only [nwt]
theorem kN (a b : List za) : zR (a ++ b) = zR a + zR b := by
 induction a with
 | nil => simp [zR]
 | cons n a ih => simp only [List.cons_append, zR, ih]; omega
theorem Xk (a b : List za) : zC (a ++ b) = zC a + zC b := by
 induction a with
 | nil => simp [zC]
 | cons n a ih => simp only [List.cons_append, zC, ih]; omega
theorem qy (l : List za) : 2 * l.length ≤ zR l := by
 induction l with
 | nil => simp
 | cons n l ih => have := qI n; simp only [zR, List.length_cons]; omega
theorem jI {n : za} : ∀ {l : List za}, n ∈ l → nwt n ≤ zR l
 | x :: l, h => by
  simp only [zR]
  rcases List.mem_cons.1 h with rfl | h
  ·omega
  ·have := jI h; omega
theorem yB {n : za} : ∀ {l : List za}, n ∈ l → yV n ≤ vg l
 | x :: l, h => by
  simp only [vg]
  rcases List.mem_cons.1 h with rfl | h
  ·omega
  ·have := yB h; omega
theorem kM (n : za) : zR n.Kids ≤ nwt n := by have := qI n; omega
theorem aek : ∀ (l : List za), (∀ n ∈ l, kR n ≤ nwt n) → zC l ≤ zR l
 | [], _ => by simp [zC, zR]
 | n :: l, h => by
  have h1 := h n (by simp)
  have h2 := aek l fun x hx => h x (by simp [hx])
  simp only [zC, zR]; omega
theorem alx (n : za) : kR n ≤ nwt n := by
 induction n using za.ind with
 | h n ih =>
  have h1 := aek n.Kids ih
  have h2 := ajI n.Text
  rw [yE, qI]
  split <;> omega
theorem kK (l : List za) : zC l ≤ zR l := aek l fun n _ => alx n
theorem K6 (n : za) : jw n = some (isT n) := by unfold jw isT; rfl
theorem agj (sz : za → Option Int) : ∀ (l : List za) (i acc : Int), (∀ k ∈ l, sz k = some (kR k : Int)) → 0 ≤ acc → acc + zC l ≤ 9223372036854775807 → jy sz l i acc = some (acc + zC l)
 | [], i, acc, _, _, _ => by simp [jy, zC]
 | n :: l, i, acc, h, h0, hb => by
  simp only [zC] at hb
  rw [jy, h n (by simp)]
  simp only [Option.bind_some]
  rw [qd (by omega), agj sz l _ _ (fun k hk => h k (by simp [hk])) (by omega) (by omega)]
  simp only [zC, Option.some.injEq]
  omega
theorem ase (n : za) : nwt n ≤ 1099511627776 → ∀ kr, 2 * yV n ≤ kr → jq kr n = some (kR n : Int) := by
 induction n using za.ind with
 | h n ih =>
  intro hw kr hk
  have hd := xY n
  obtain ⟨kr, rfl⟩ : ∃ j, kr = j + 1 + 1 := ⟨kr - 2, by omega⟩
  have hwt := qI n
  have hl := qy n.Kids
  have hs := kK n.Kids
  rw [jq, K6, yE]
  simp only [Option.bind_some]
  by_cases ht : isT n = true
  ·simp only [ht, if_true]
   rw [runeCount_eq _ (by omega)]
   rfl
  ·simp only [ht, Bool.false_eq_true, if_false]
   rw [xX, wz (by omega), agj (jq kr) n.Kids 0 0 (fun k hkk => ih k hkk (by have := jI hkk; omega) kr (by have := yB hkk; omega)) (by omega) (by omega)]
   simp only [Option.bind_some]
   rw [qd (by omega)]
   simp only [Option.some.injEq]
   omega
theorem size_eq (n : za) (h : nwt n ≤ 1099511627776) : yL n = some (kR n : Int) := by
 unfold yL
 exact ZR (2 * yV n) fun k hk => ase n h k hk
theorem WH (l : List za) (h : zR l ≤ 1099511627776) : je l = some (zC l : Int) := by
 unfold je
 refine ZR (2 * vg l + 1) fun kr hk => ?_
 obtain ⟨kr, rfl⟩ : ∃ j, kr = j + 1 := ⟨kr - 1, by omega⟩
 have hl := qy l
 have hs := kK l
 rw [xX, wz (by omega), agj (jq kr) l 0 0 (fun k hkk => ase k (by have := jI hkk; omega) kr (by have := yB hkk; omega)) (by omega) (by omega)]
 simp
theorem adN (b : List Str) : ∀ (suf pre : List Str) (i : Int), i = (pre.length : Int) → b.length = pre.length + suf.length → b.take pre.length = pre → qz b suf i = some (if pre ++ suf = b then .inr () else .inl false)
 | [], pre, i, hi, hl, ht => by
  have : pre = b := by
   rw [← ht, List.take_of_length_le]
   simp at hl; omega
  simp [qz, this]
 | y :: suf, pre, i, hi, hl, ht => by
  simp only [List.length_cons] at hl
  obtain ⟨x, hx⟩ : ∃ x, b[pre.length]? = some x := ⟨b[pre.length], List.getElem?_eq_getElem (by omega)⟩
  rw [qz, hi, xg hx]
  simp only [Option.bind_some]
  have htk : b.take (pre.length + 1) = pre ++ [x] := by
   rw [List.take_add_one, ht, hx]
   rfl
  by_cases hxy : y = x
  ·subst hxy
   simp only [beq_self_eq_true, Bool.not_true, Bool.false_eq_true, if_false]
   rw [adN b suf (pre ++ [y]) _ (by simp) (by simp; omega) (by simpa using htk)]
   simp
  ·have : ¬ pre ++ y :: suf = b := by
    intro h
    rw [← h] at hx
    simp at hx
    exact hxy hx
   simp [hxy, this]
theorem ajL (a b : List Str) (h : a.length ≤ 9223372036854775807) : vz a b = some (decide (a = b)) := by
 unfold vz
 by_cases hl : a.length = b.length
 ·simp only [hl, bne_self_eq_false, Bool.false_eq_true, if_false]
  rw [wz (by omega), adN b a [] 0 rfl (by simp [hl]) (by simp)]
  by_cases e : a = b <;> simp [e]
 ·have h1 : ((a.length : Int) != (b.length : Int)) = true := by simp; omega
  have h2 : ¬ a = b := fun e => hl (by rw [e])
  rw [if_pos h1]
  simp [h2]
def joinStep (out : List za) (n : za) : List za :=
 if (isT n && n.Text == []) = true then out
 else match out.getLast? with
  | some x => if (isT n && isT x && decide (x.Marks = n.Marks)) = true then out.dropLast ++ [{ n with Text := x.Text ++ n.Text }] else out ++ [n]
  | none => out ++ [n]
def yY (l : List za) : List za := l.foldl joinStep []
theorem vK (n : za) : joinStep [] n = if (isT n && n.Text == []) = true then [] else [n] := by
 unfold joinStep; rfl
theorem wK (o : List za) (x n : za) : joinStep (o ++ [x]) n = if (isT n && n.Text == []) = true then o ++ [x] else if (isT n && isT x && decide (x.Marks = n.Marks)) = true then o ++ [{ n with Text := x.Text ++ n.Text }] else o ++ [x, n] := by
 unfold joinStep
 simp
theorem Yp (o : List za) (n : za) : zR (joinStep o n) ≤ zR o + nwt n := by
 rcases vC o with rfl | ⟨o, x, rfl⟩
 ·rw [vK]
  split <;> simp [zR]
 ·rw [wK]
  split
  ·omega
  ·split
   ·simp only [kN, zR, qI, List.length_append]
    omega
   ·simp only [kN, zR]
    omega
theorem aov : ∀ (l o : List za), zR (l.foldl joinStep o) ≤ zR o + zR l
 | [], o => by simp [zR]
 | n :: l, o => by
  have h1 := Yp o n
  have h2 := aov l (joinStep o n)
  simp only [List.foldl_cons, zR]
  omega
theorem ahO (l : List za) : zR (yY l) ≤ zR l := by
 have := aov l []
 simpa [yY, zR] using this
end Go.Proofs.YtclohbgnaopjfaaDoor
namespace Go.Proofs.YtclohbgnaopjfaaDoor
set_option linter.unusedSimpArgs false
set_option linter.unusedVariables false
open Go
def wC (a b : za) : Bool := isT a && isT b && decide (a.Marks = b.Marks)
def vE : List za → Prop
 | a :: b :: l => wC a b = false ∧ vE (b :: l)
 | _ => True
end Go.Proofs.YtclohbgnaopjfaaDoor
namespace Go.Proofs.YtclohbgnaopjfaaDoor
set_option linter.unusedSimpArgs false
set_option linter.unusedVariables false
open Go
def alH (b : Bool) : Bool ⊕ Unit := match b with
 | true => .inr ()
 | false => .inl false
def letter (b : UInt8) : Bool := decide (97 ≤ b.toNat) && decide (b.toNat ≤ 122)
abbrev abc : Str := [97, 98, 99, 100, 101, 102, 103, 104, 105, 106, 107, 108, 109, 110, 111, 112, 113, 114, 115, 116, 117, 118, 119, 120, 121, 122]
def isName (s : Str) : Bool := s.all letter && decide (s ≠ []) && decide (s.length ≤ 8) && decide (s ≠ jK)
theorem akk (b : UInt8) : abc.contains b = letter b := by
 have h : ∀ n, n < 256 → abc.contains (UInt8.ofNat n) = letter (UInt8.ofNat n) := by decide +kernel
 have := h b.toNat b.toNat_lt
 simpa using this
theorem ahm (p : UInt8 → Bool) : ∀ l : Str, (∀ x ∈ l.dropWhile p, p x = true) → ∀ x ∈ l, p x = true
 | [], _ => by simp
 | a :: l, h => by
  by_cases ha : p a = true
  ·rw [List.dropWhile_cons_of_pos ha] at h
   intro x hx
   rcases List.mem_cons.1 hx with rfl | hx
   ·exact ha
   ·exact ahm p l h x hx
  ·rw [List.dropWhile_cons_of_neg ha] at h
   exact (ha (h a (by simp))).elim
theorem amE (p : UInt8 → Bool) : ∀ l : Str, (∀ x ∈ l, p x = true) → l.dropWhile p = []
 | [], _ => rfl
 | a :: l, h => by
  rw [List.dropWhile_cons_of_pos (h a (by simp))]
  exact amE p l fun x hx => h x (by simp [hx])
theorem as1 (s : Str) : (Lib.trimS s abc == []) = s.all letter := by
 have hp : (fun b => abc.contains b) = letter := funext akk
 unfold Lib.trimS Lib.trimLeftS Lib.trimRightS
 rw [hp]
 cases h : s.all letter with
 | true =>
  have h' := List.all_eq_true.1 h
  rw [amE letter s.reverse fun x hx => h' x (by simpa using hx)]
  rfl
 | false =>
  rw [beq_eq_false_iff_ne]
  intro e
  have h1 : ∀ x ∈ (s.reverse.dropWhile letter).reverse, letter x = true := ahm letter _ (by rw [e]; simp)
  have h2 := ahm letter s.reverse fun x hx => h1 x (by simpa using hx)
  have h3 : s.all letter = true := List.all_eq_true.2 fun x hx => h2 x (by simpa using hx)
  rw [h] at h3
  cases h3
theorem adr (s : Str) (h : s.length ≤ 9223372036854775807) : yN s = some (isName s) := by
 unfold yN KV isName
 rw [wz ⟨h, by decide, by decide⟩]
 simp only [Option.bind_some, as1]
 cases h1 : s.all letter with
 | false => simp
 | true =>
  by_cases h2 : s = []
  ·simp [h2]
  ·by_cases h3 : s.length ≤ 8
   ·have g3 : decide ((s.length : Int) ≤ 8) = true := by simp; omega
    have g2 : (s == []) = false := by simpa using h2
    simp only [if_true, g2, Bool.not_false, g3, h2, h3, ne_eq, not_false_eq_true, decide_true, Bool.true_and]
    by_cases h4 : s = jK <;> simp [h4]
   ·have g3 : decide ((s.length : Int) ≤ 8) = false := by simp; omega
    have g2 : (s == []) = false := by simpa using h2
    simp only [if_true, g2, Bool.not_false, g3, Bool.false_eq_true, if_false]
    simp [h3]
end Go.Proofs.YtclohbgnaopjfaaDoor
namespace Go.Proofs.YtclohbgnaopjfaaDoor
set_option linter.unusedSimpArgs false
set_option linter.unusedVariables false
open Go
def isValue (s : Str) : Bool := decide (s.length ≤ 40) && Lib.validD s
theorem alo (s : Str) (h : s.length ≤ 9223372036854775807) : Wz s = some (isValue s) := by
 unfold Wz wJ isValue
 rw [wz h]
 by_cases h3 : s.length ≤ 40
 ·have g3 : decide ((s.length : Int) ≤ 40) = true := by simp; omega
  simp [g3, h3]
 ·have g3 : decide ((s.length : Int) ≤ 40) = false := by simp; omega
  simp only [g3, Bool.false_eq_true, if_false]
  simp [h3]
def yO : Option Str → List Str → Bool
 | _, [] => true
 | last, y :: l => isName y && (match last with | none => true | some x => !(Op.bytesLess y x || y == x)) && yO (some y) l
theorem K9 (last : Option Str) (y : Str) (l : List Str) : yO last (y :: l) = (isName y && (match last with | none => true | some x => !(Op.bytesLess y x || y == x)) && yO (some y) l) := by cases last <;> rfl
def Z6 (l : List Str) : Bool := yO none l
theorem apc : ∀ (suf pre : List Str), (∀ s ∈ suf, s.length ≤ 9223372036854775807) → (pre ++ suf).length ≤ 4611686018427387904 → vH (pre ++ suf) suf (pre.length : Int) = some (alH (yO pre.getLast? suf))
 | [], pre, _, _ => by simp [vH, yO, alH]
 | y :: suf, pre, h, hb => by
  have e : (pre.length : Int) + 1 = ((pre ++ [y]).length : Int) := by simp
  have ih := apc suf (pre ++ [y]) (fun s hs => h s (by simp [hs])) (by simpa using hb)
  rw [List.append_assoc, List.singleton_append, ← e, List.getLast?_append, List.getLast?_singleton] at ih
  simp only [Option.some_or] at ih
  rw [vH, adr y (h y (by simp))]
  simp only [Option.bind_some]
  rw [K9]
  rcases Bool.eq_false_or_eq_true (isName y) with hn | hn
  rotate_left
  ·simp [hn, alH]
  ·rw [hn]
   simp only [Bool.not_true, Bool.false_eq_true, if_false, Bool.true_and]
   rcases vC pre with rfl | ⟨p, x, rfl⟩
   ·have g : decide ((([] : List Str).length : Int) > 0) = false := by decide
    simp only [g, Bool.false_eq_true, if_false]
    rw [ih]
    simp
   ·have g : decide (((p ++ [x]).length : Int) > 0) = true := decide_eq_true (by simp only [List.length_append, List.length_cons, List.length_nil]; omega)
    have hr : rd (p ++ [x] ++ y :: suf) (w64 (((p ++ [x]).length : Int) - 1)) = some x := by
     simp only [List.length_append, List.length_cons, List.length_nil] at hb
     rw [qd (by simp; omega)]
     have e2 : ((p ++ [x]).length : Int) - 1 = (p.length : Int) := by simp
     rw [e2, List.append_assoc]
     exact Vf p (y :: suf) x
    simp only [g, if_true, hr, Option.bind_some, List.getLast?_append, List.getLast?_singleton, Option.some_or]
    rcases Bool.eq_false_or_eq_true (Op.bytesLess y x || y == x) with hc | hc
    ·simp only [hc, if_true, Bool.not_true, Bool.false_and, alH]
    ·simp only [hc, Bool.false_eq_true, if_false, Bool.not_false, Bool.true_and]
     exact ih
theorem aop (l : List Str) (h : ∀ s ∈ l, s.length ≤ 9223372036854775807) (hb : l.length ≤ 4611686018427387904) : K7 l = some (Z6 l) := by
 have h0 := apc l [] h (by simpa using hb)
 have h0' : vH l l 0 = _ := h0
 unfold K7
 rw [wz (by omega), h0']
 simp only [Option.bind_some, List.getLast?_nil, Z6]
 cases yO none l <;> rfl
theorem aqS (b : List Str) : ∀ (suf pre : List Str) (i : Int), i = (pre.length : Int) → b.length = pre.length + suf.length → b.take pre.length = pre → qU b suf i = some (if pre ++ suf = b then .inr () else .inl false)
 | [], pre, i, hi, hl, ht => by
  have : pre = b := by
   rw [← ht, List.take_of_length_le]
   simp at hl; omega
  simp [qU, this]
 | y :: suf, pre, i, hi, hl, ht => by
  simp only [List.length_cons] at hl
  obtain ⟨x, hx⟩ : ∃ x, b[pre.length]? = some x := ⟨b[pre.length], List.getElem?_eq_getElem (by omega)⟩
  rw [qU, hi, xg hx]
  simp only [Option.bind_some]
  have htk : b.take (pre.length + 1) = pre ++ [x] := by
   rw [List.take_add_one, ht, hx]
   rfl
  by_cases hxy : y = x
  ·subst hxy
   simp only [beq_self_eq_true, Bool.not_true, Bool.false_eq_true, if_false]
   rw [aqS b suf (pre ++ [y]) _ (by simp) (by simp; omega) (by simpa using htk)]
   simp
  ·have : ¬ pre ++ y :: suf = b := by
    intro h
    rw [← h] at hx
    simp at hx
    exact hxy hx
   simp [hxy, this]
theorem arn (a b : List Str) (h : a.length ≤ 9223372036854775807) : slices_Equal_string a b = some (decide (a = b)) := by
 unfold slices_Equal_string
 by_cases hl : a.length = b.length
 ·simp only [hl, bne_self_eq_false, Bool.false_eq_true, if_false]
  rw [wz (by omega), aqS b a [] 0 rfl (by simp [hl]) (by simp)]
  by_cases e : a = b <;> simp [e]
 ·have h1 : ((a.length : Int) != (b.length : Int)) = true := by simp; omega
  have h2 : ¬ a = b := fun e => hl (by rw [e])
  rw [if_pos h1]
  simp [h2]
theorem alO (a b : za) (h : a.Marks.length ≤ 9223372036854775807) : ZN a b = some (wC a b) := by
 unfold ZN wC
 rw [K6, K6]
 simp only [Option.bind_some]
 rw [arn _ _ h]
 cases isT a <;> cases isT b <;> simp
mutual
def qK : za → Bool
 | ⟨k, t, m, a, ks⟩ => if (k == jK) = true then (decide (t ≠ []) && Lib.validD t && Z6 m && decide (a.length + ks.length = 0)) else (a.all (fun x => isValue x.Value) && isName k && decide (t = []) && decide (m = []) && Z6 (a.map (·.Name)) && xS none ks)
def xS : Option za → List za → Bool
 | _, [] => true
 | last, n :: l => qK n && (match last with | none => true | some x => !wC x n) && xS (some n) l
end
theorem Kh (last : Option za) (n : za) (l : List za) : xS last (n :: l) = (qK n && (match last with | none => true | some x => !wC x n) && xS (some n) l) := by cases last <;> simp only [xS]
theorem abP (last : Option za) : xS last [] = true := by cases last <;> simp only [xS]
theorem jg (n : za) : qK n = if isT n = true then (decide (n.Text ≠ []) && Lib.validD n.Text && Z6 n.Marks && decide (n.zh.length + n.Kids.length = 0)) else (n.zh.all (fun x => isValue x.Value) && isName n.Kind && decide (n.Text = []) && decide (n.Marks = []) && Z6 (n.zh.map (·.Name)) && xS none n.Kids) := by
 cases n; simp only [qK, isT]; rfl
theorem ahu {a : ze} : ∀ {l : List ze}, a ∈ l → a.Name.length + a.Value.length ≤ wR l
 | x :: l, h => by
  simp only [wR]
  rcases List.mem_cons.1 h with rfl | h
  ·omega
  ·have := ahu h; omega
theorem xB (l : List ze) : l.length ≤ wR l := by
 induction l with
 | nil => simp
 | cons s l ih => simp only [List.length_cons, wR]; omega
theorem ai2 : ∀ (l : List ze) (i : Int) (out : List Str), (out.length + l.length) * 16 ≤ 140737488355328 → wR l ≤ 1099511627776 → vN l i out = some (if l.all (fun x => isValue x.Value) = true then .inr (out ++ l.map (·.Name)) else .inl false)
 | [], i, out, _, _ => by simp [vN]
 | a :: l, i, out, hb, hw => by
  simp only [wR] at hw
  simp only [List.length_cons] at hb
  rw [vN, alo _ (by omega)]
  simp only [Option.bind_some]
  rcases Bool.eq_false_or_eq_true (isValue a.Value) with hv | hv
  rotate_left
  ·simp [hv]
  ·simp only [hv, Bool.not_true, Bool.false_eq_true, if_false, List.all_cons, Bool.true_and]
   rw [ko (by simp; omega)]
   simp only [Option.bind_some]
   rw [ai2 l _ _ (by simp; omega) (by omega)]
   simp
theorem ai0 (n : za) (f : za → Option Bool) : ∀ (suf pre : List za), n.Kids = pre ++ suf → (∀ k ∈ suf, f k = some (qK k)) → zR n.Kids ≤ 1099511627776 → kF n f suf (pre.length : Int) = some (alH (xS pre.getLast? suf))
 | [], pre, _, _, _ => by simp [kF, abP, alH]
 | y :: suf, pre, hk, hf, hw => by
  have e : (pre.length : Int) + 1 = ((pre ++ [y]).length : Int) := by simp
  have ih := ai0 n f suf (pre ++ [y]) (by rw [hk]; simp) (fun s hs => hf s (by simp [hs])) hw
  rw [← e, List.getLast?_append, List.getLast?_singleton] at ih
  simp only [Option.some_or] at ih
  rw [kF, hf y (by simp)]
  simp only [Option.bind_some]
  rw [Kh]
  rcases Bool.eq_false_or_eq_true (qK y) with hn | hn
  rotate_left
  ·simp [hn, alH]
  ·rw [hn]
   simp only [Bool.not_true, Bool.false_eq_true, if_false, Bool.true_and]
   rcases vC pre with rfl | ⟨p, x, rfl⟩
   ·have g : decide ((([] : List za).length : Int) > 0) = false := by decide
    simp only [g, Bool.false_eq_true, if_false]
    rw [ih]
    simp
   ·have g : decide (((p ++ [x]).length : Int) > 0) = true := decide_eq_true (by simp only [List.length_append, List.length_cons, List.length_nil]; omega)
    have hl := qy n.Kids
    have hr : rd n.Kids (w64 (((p ++ [x]).length : Int) - 1)) = some x := by
     rw [hk] at hl ⊢
     simp only [List.length_append, List.length_cons, List.length_nil] at hl
     rw [qd (by simp; rw [hk] at hw; omega)]
     have e2 : ((p ++ [x]).length : Int) - 1 = (p.length : Int) := by simp
     rw [e2, List.append_assoc]
     exact Vf p (y :: suf) x
    have hx : nwt x ≤ zR n.Kids := jI (by rw [hk]; simp)
    have hxw := qI x
    have hxm := adh x.Marks
    simp only [g, if_true, hr, Option.bind_some, List.getLast?_append, List.getLast?_singleton, Option.some_or]
    rw [alO x y (by omega)]
    simp only [Option.bind_some]
    rcases Bool.eq_false_or_eq_true (wC x y) with hc | hc
    ·simp only [hc, if_true, Bool.not_true, Bool.false_and, alH]
    ·simp only [hc, Bool.false_eq_true, if_false, Bool.not_false, Bool.true_and]
     exact ih
theorem asF (n : za) : nwt n ≤ 1099511627776 → ∀ kr, yV n ≤ kr → kS kr n = some (qK n) := by
 induction n using za.ind with
 | h n ih =>
  intro hw kr hk
  have hd := xY n
  obtain ⟨kr, rfl⟩ : ∃ j, kr = j + 1 := ⟨kr - 1, by omega⟩
  have hwt := qI n
  have hl := qy n.Kids
  have hm := adh n.Marks
  have ha := xB n.zh
  rw [kS, K6, jg]
  simp only [Option.bind_some]
  by_cases ht : isT n = true
  ·simp only [ht, if_true]
   by_cases h1 : n.Text = []
   ·simp [h1]
   ·have g1 : (n.Text == []) = false := by simpa using h1
    simp only [g1, Bool.not_false, if_true]
    unfold wJ
    rw [wz (by omega)]
    simp only [Option.bind_some]
    cases hv : Lib.validD n.Text with
    | false => simp
    | true =>
     simp only [if_true]
     rw [aop _ (fun s hs => by have := aji hs; omega) (by omega)]
     simp only [Option.bind_some]
     rw [qd (by omega)]
     cases hr : Z6 n.Marks with
     | false => simp
     | true =>
      simp only [if_true, ne_eq, h1, not_false_eq_true, decide_true, Bool.true_and, Option.some.injEq]
      rw [Bool.eq_iff_iff]
      simp only [beq_iff_eq, decide_eq_true_eq]
      omega
  ·simp only [ht, Bool.false_eq_true, if_false]
   rw [wz (by omega), ai2 _ _ _ (by simp; omega) (by omega)]
   simp only [Option.bind_some]
   cases hv : n.zh.all (fun x => isValue x.Value) with
   | false => simp
   | true =>
    simp only [if_true, List.nil_append, Bool.true_and]
    rw [adr _ (by omega)]
    simp only [Option.bind_some]
    cases h2 : isName n.Kind with
    | false => simp
    | true =>
     simp only [Bool.not_true, Bool.false_eq_true, if_false, Bool.true_and]
     by_cases h3 : n.Text = []
     ·by_cases h4 : n.Marks = []
      ·have g4 : decide ((n.Marks.length : Int) > 0) = false := by simp [h4]
       have g3 : (n.Text == []) = true := by simp [h3]
       simp only [g3, Bool.not_true, Bool.false_eq_true, if_false, g4]
       rw [aop _ (fun s hs => by
        obtain ⟨a, ha', rfl⟩ := List.mem_map.1 hs
        have := ahu ha'; omega) (by simp; omega)]
       simp only [Option.bind_some]
       cases hr : Z6 (n.zh.map (·.Name)) with
       | false => simp
       | true =>
        simp only [Bool.not_true, Bool.false_eq_true, if_false]
        have h0 := ai0 n (kS kr) n.Kids [] rfl (fun k hkk => ih k hkk (by have := jI hkk; omega) kr (by have := yB hkk; omega)) (by omega)
        have h0' : kF n (kS kr) n.Kids 0 = _ := h0
        rw [wz (by omega), h0']
        simp only [Option.bind_some, List.getLast?_nil, h3, h4, decide_true, Bool.true_and]
        cases xS none n.Kids <;> rfl
      ·have g4 : decide ((n.Marks.length : Int) > 0) = true := by
        have := List.length_pos_iff.2 h4
        simp; omega
       have g3 : (n.Text == []) = true := by simp [h3]
       simp only [g3, Bool.not_true, Bool.false_eq_true, if_false, g4, if_true]
       simp [h4]
     ·have g3 : (n.Text == []) = false := by simpa using h3
      simp only [g3, Bool.not_false, if_true]
      simp [h3]
theorem apo (n : za) (h : nwt n ≤ 1099511627776) : WS n = some (qK n) := by
 unfold WS
 exact ZR (yV n) fun kr hk => asF n h kr hk
mutual
def yx : za → Nat
 | ⟨k, _, _, _, ks⟩ => if (k == jK) = true then 0 else wE ks + 1
def wE : List za → Nat
 | [] => 0
 | n :: l => max (yx n) (wE l)
end
theorem QJ (n : za) : yx n = if isT n = true then 0 else wE n.Kids + 1 := by cases n; simp only [yx, isT]; rfl
theorem amu : ∀ (l : List za), (∀ n ∈ l, yx n ≤ yV n) → wE l ≤ vg l
 | [], _ => by simp [wE, vg]
 | n :: l, h => by
  have h1 := h n (by simp)
  have h2 := amu l fun x hx => h x (by simp [hx])
  simp only [wE, vg]; omega
theorem aoQ (n : za) : yx n ≤ yV n := by
 induction n using za.ind with
 | h n ih =>
  have h1 := amu n.Kids ih
  rw [QJ, xY]
  split <;> omega
theorem ahU (l : List za) (h : ∀ n ∈ l, yV n ≤ nwt n) : vg l ≤ zR l := by
 induction l with
 | nil => simp [vg, zR]
 | cons k l ih =>
  have h1 := h k (by simp)
  have h2 := ih fun x hx => h x (by simp [hx])
  simp only [vg, zR]; omega
theorem ao5 (n : za) : yV n ≤ nwt n := by
 induction n using za.ind with
 | h n ih =>
  have h1 := ahU n.Kids ih
  have h2 := xY n
  have h3 := qI n
  omega
theorem ak1 (f : za → Option Int) : ∀ (l : List za) (i : Int) (d : Nat), (∀ k ∈ l, f k = some (yx k : Int)) → vL f l i (d : Int) = some ((max d (wE l) : Nat) : Int)
 | [], i, d, _ => by simp [vL, wE]
 | n :: l, i, d, h => by
  rw [vL, h n (by simp)]
  simp only [Option.bind_some]
  have e : (if (yx n : Int) > (d : Int) then (yx n : Int) else (d : Int)) = ((max d (yx n) : Nat) : Int) := by split <;> omega
  rw [e, ak1 f l _ _ fun k hk => h k (by simp [hk])]
  simp only [wE, Option.some.injEq]
  omega
theorem atc (n : za) : nwt n ≤ 1099511627776 → ∀ kr, yV n ≤ kr → vG kr n = some (yx n : Int) := by
 induction n using za.ind with
 | h n ih =>
  intro hw kr hk
  have hd := xY n
  obtain ⟨kr, rfl⟩ : ∃ j, kr = j + 1 := ⟨kr - 1, by omega⟩
  have hwt := qI n
  have hl := qy n.Kids
  have hdl := aoQ n
  have hdw := ao5 n
  rw [vG, K6]
  simp only [Option.bind_some]
  by_cases ht : isT n = true
  ·simp [ht, QJ n]
  ·have e := QJ n
   rw [if_neg ht] at e
   simp only [ht, Bool.false_eq_true, if_false]
   have h0 := ak1 (vG kr) n.Kids 0 0 (fun k hkk => ih k hkk (by have := jI hkk; omega) kr (by have := yB hkk; omega))
   have h0' : vL (vG kr) n.Kids 0 0 = _ := h0
   rw [wz (by omega), h0']
   simp only [Option.bind_some, Nat.zero_max]
   rw [qd (by omega), e]
   rfl
theorem aq3 (n : za) (h : nwt n ≤ 1099511627776) : Vq n = some (yx n : Int) := by
 unfold Vq
 exact ZR (yV n) fun kr hk => atc n h kr hk
def checkN (n : za) : Int := if qK n = false then 2 else if 40 < yx n then 4 else if 4000 < kR n then 5 else 0
theorem ady (n : za) (h : nwt n ≤ 1099511627776) : yz n = some (checkN n) := by
 unfold yz checkN
 rw [apo n h]
 simp only [Option.bind_some]
 cases hf : qK n with
 | false => simp
 | true =>
  simp only [Bool.not_true, Bool.false_eq_true, if_false]
  rw [aq3 n h]
  simp only [Option.bind_some]
  by_cases hd : 40 < yx n
  ·have g : decide ((yx n : Int) > 40) = true := by simp; omega
   simp [g, hd]
  ·have g : decide ((yx n : Int) > 40) = false := by simp; omega
   simp only [g, Bool.false_eq_true, if_false]
   rw [size_eq n h]
   simp only [Option.bind_some, hd, if_false]
   by_cases hs : 4000 < kR n
   ·have g : decide ((kR n : Int) > 4000) = true := by simp; omega
    simp [g, hs]
   ·have g : decide ((kR n : Int) > 4000) = false := by simp; omega
    simp only [g, Bool.false_eq_true, if_false, hs]
    simp
end Go.Proofs.YtclohbgnaopjfaaDoor
namespace Go.Proofs.YtclohbgnaopjfaaDoor
set_option linter.unusedSimpArgs false
set_option linter.unusedVariables false
open Go
theorem akp (p : List za) (x n : za) (hx : isT x = true) (hn : isT n = true) (hm : x.Marks = n.Marks) (ha : x.zh = n.zh) (hk : x.Kids = n.Kids) : joinStep (joinStep p x) n = joinStep p { n with Text := x.Text ++ n.Text } := by
 have hkd : x.Kind = n.Kind := by
  have h1 : x.Kind = jK := by simpa [isT] using hx
  have h2 : n.Kind = jK := by simpa [isT] using hn
  rw [h1, h2]
 have hxn : ({ n with Text := x.Text ++ n.Text } : za).Marks = n.Marks := rfl
 have hnt : isT { n with Text := x.Text ++ n.Text } = true := hn
 by_cases hx0 : x.Text = []
 ·have e1 : joinStep p x = p := by unfold joinStep; simp [hx, hx0]
  have e2 : ({ n with Text := x.Text ++ n.Text } : za) = n := by cases n; simp [hx0]
  rw [e1, e2]
 ·by_cases hn0 : n.Text = []
  ·have e1 : ∀ o, joinStep o n = o := fun o => by unfold joinStep; simp [hn, hn0]
   have e2 : ({ n with Text := x.Text ++ n.Text } : za) = x := by cases x; cases n; simp_all
   rw [e1, e2]
  ·have hxn0 : (({ n with Text := x.Text ++ n.Text } : za).Text == []) = false := by simp [hx0]
   have hx0' : (x.Text == []) = false := by simpa using hx0
   have hn0' : (n.Text == []) = false := by simpa using hn0
   rcases vC p with rfl | ⟨p, y, rfl⟩
   ·rw [vK, vK]
    simp only [hx0', Bool.and_false, Bool.false_eq_true, if_false, hxn0]
    have := wK [] x n
    rw [List.nil_append] at this
    rw [this]
    simp [hn, hx, hn0', hm]
   ·rw [wK, wK]
    simp only [hx0', Bool.and_false, Bool.false_eq_true, if_false, hxn0, hx, hnt, Bool.true_and]
    by_cases hc : (isT y && decide (y.Marks = n.Marks)) = true
    ·have hc' : (isT y && decide (y.Marks = x.Marks)) = true := by rw [hm]; exact hc
     rw [if_pos hc', if_pos hc, wK]
     have hxt : ∀ m, isT { x with Text := y.Text ++ x.Text, Marks := m } = true := fun _ => hx
     simp [hn, hn0', hxt, hm, List.append_assoc]
    ·have hc' : ¬ (isT y && decide (y.Marks = x.Marks)) = true := by rw [hm]; exact hc
     rw [if_neg hc', if_neg hc]
     have := wK (p ++ [y]) x n
     rw [List.append_assoc] at this
     rw [List.singleton_append] at this
     rw [this]
     simp [hn, hx, hn0', hm]
def Plain (n : za) : Prop := isT n = true → n.zh = [] ∧ n.Kids = []
end Go.Proofs.YtclohbgnaopjfaaDoor
namespace Go.Proofs.YtclohbgnaopjfaaDoor
set_option linter.unusedSimpArgs false
set_option linter.unusedVariables false
open Go
theorem aoF : ∀ (l : List za) (i : Int) (o : List za), zR o + zR l ≤ 1099511627776 → zY l i o = some (l.foldl joinStep o)
 | [], i, o, _ => by simp [zY]
 | n :: l, i, o, hw => by
  simp only [zR] at hw
  have hjw := Yp o n
  have ih := aoF l (i + 1) (joinStep o n) (by omega)
  have hol := qy o
  rw [zY, List.foldl_cons]
  have eapp : app 104 o [n] = some (o ++ [n]) := ko (by simp; omega)
  rcases vC o with rfl | ⟨o, x, rfl⟩
  ·rw [vK] at ih ⊢
   by_cases ht : isT n = true
   ·have ht' : (n.Kind == jK) = true := ht
    by_cases he : n.Text = []
    ·simp only [ht, he, Bool.true_and, beq_self_eq_true, if_true] at ih ⊢
     simp only [ht', if_true, Option.bind_some]
     exact ih
    ·have he' : (n.Text == []) = false := by simp [he]
     simp only [ht, he', Bool.true_and, Bool.false_eq_true, if_false] at ih ⊢
     simp only [ht', he', Bool.false_eq_true, if_true, if_false, Option.bind_some, List.length_nil]
     have hneg : decide (w64 ((0 : Nat) - 1 : Int) ≥ 0) = false := by rw [qd (by omega)]; simp
     simp only [hneg, Bool.false_eq_true, if_false, eapp, Option.bind_some]
     exact ih
   ·have ht' : (n.Kind == jK) = false := by simpa [isT] using ht
    have ht2 : isT n = false := by simpa using ht
    simp only [ht2, Bool.false_and, Bool.false_eq_true, if_false] at ih ⊢
    simp only [ht', Bool.false_eq_true, if_false, Option.bind_some, eapp]
    exact ih
  ·rw [wK] at ih ⊢
   have hx : rd (o ++ [x]) (w64 (((o ++ [x]).length : Int) - 1)) = some x := by
    rw [qd (by simp at hol ⊢; omega)]
    have : ((o ++ [x]).length : Int) - 1 = (o.length : Int) := by simp
    rw [this]
    exact Vf o [] x
   have hsl : sl (o ++ [x]) 0 (w64 (((o ++ [x]).length : Int) - 1)) = some o := by
    rw [qd (by simp at hol ⊢; omega)]
    have : ((o ++ [x]).length : Int) - 1 = (o.length : Int) := by simp
    rw [this]
    exact ash o [x]
   have hpos : decide (w64 (((o ++ [x]).length : Int) - 1) ≥ 0) = true := by
    rw [qd (by simp at hol ⊢; omega)]
    simp
   have hwx : nwt x ≤ zR (o ++ [x]) := jI (by simp)
   have hx1 := qI x
   have hn1 := qI n
   by_cases ht : isT n = true
   ·have ht' : (n.Kind == jK) = true := ht
    by_cases he : n.Text = []
    ·simp only [ht, he, Bool.true_and, beq_self_eq_true, if_true] at ih ⊢
     simp only [ht', if_true, Option.bind_some]
     exact ih
    ·have he' : (n.Text == []) = false := by simp [he]
     simp only [ht, he', Bool.true_and, Bool.false_eq_true, if_false] at ih ⊢
     simp only [ht', he', Bool.false_eq_true, if_true, if_false, Option.bind_some, hpos, hx]
     by_cases hxt : isT x = true
     ·have hxt' : (x.Kind == jK) = true := hxt
      have hml : x.Marks.length ≤ 9223372036854775807 := by
       have : ∀ l : List Str, l.length ≤ xK l := by
        intro l; induction l with
        | nil => simp
        | cons s l ih => simp [xK]; omega
       have := this x.Marks
       omega
      simp only [hxt', if_true]
      rw [ajL _ _ hml]
      simp only [Option.bind_some, hxt, Bool.true_and] at ih ⊢
      by_cases hm : x.Marks = n.Marks
      ·simp only [hm, decide_true, if_true] at ih ⊢
       rw [wz (by omega), hsl]
       simp only [Option.bind_some]
       have hol2 := qy (o ++ [x])
       simp only [List.length_append, List.length_cons, List.length_nil] at hol2
       rw [ko (by simp; omega)]
       simp only [Option.bind_some, List.nil_append]
       rw [ko (by simp; omega)]
       simp only [Option.bind_some]
       exact ih
      ·simp only [hm, decide_false, Bool.false_eq_true, if_false] at ih ⊢
       rw [eapp]
       simp only [Option.bind_some, List.append_assoc, List.cons_append, List.nil_append]
       exact ih
     ·have hxt' : (x.Kind == jK) = false := by simpa [isT] using hxt
      have hx2 : isT x = false := by simpa using hxt
      simp only [hx2, Bool.false_and, Bool.false_eq_true, if_false] at ih ⊢
      simp only [hxt', Bool.false_eq_true, if_false, eapp, Option.bind_some, List.append_assoc, List.cons_append, List.nil_append]
      exact ih
   ·have ht' : (n.Kind == jK) = false := by simpa [isT] using ht
    have ht2 : isT n = false := by simpa using ht
    simp only [ht2, Bool.false_and, Bool.false_eq_true, if_false] at ih ⊢
    simp only [ht', Bool.false_eq_true, if_false, Option.bind_some, eapp, List.append_assoc, List.cons_append, List.nil_append]
    exact ih
theorem join_eq (l : List za) (h : zR l ≤ 1099511627776) : xA l = some (yY l) := by
 have hl := qy l
 unfold xA
 rw [wz (by omega), aoF l 0 [] (by simpa [zR] using h)]
 rfl
end Go.Proofs.YtclohbgnaopjfaaDoor
namespace Go.Proofs.YtclohbgnaopjfaaDoor
set_option linter.unusedSimpArgs false
set_option linter.unusedVariables false
open Go
abbrev asE : List Str := [[97], [98, 99], [195, 169], [120, 32, 121], [230, 151, 165, 230, 156, 172]]
abbrev auT : List Str := [[112, 97, 114, 97], [105, 116, 101, 109], [108, 105, 115, 116], [110, 111, 116, 101]]
abbrev auP : Str := [97, 108, 105, 103, 110]
def awJ (t : Str) : Prop := t ≠ [] ∧ ∃ l : List Str, (∀ x ∈ l, x ∈ asE) ∧ t = l.flatten
def auK (m : List Str) : Prop := m = [] ∨ m = [[98]] ∨ m = [[98], [105]]
def au8 (a : List ze) : Prop := a = [] ∨ ∃ v ∈ asE, a = [⟨auP, v⟩]
inductive MN : za → Prop
 | text (t : Str) (m : List Str) (ht : awJ t) (hm : auK m) : MN ⟨jK, t, m, [], []⟩
 | node (k : Str) (a : List ze) (ks : List za) (hk : k ∈ auT) (ha : au8 a) (hs : ∀ x ∈ ks, MN x) (hj : vE ks) : MN ⟨k, [], [], a, ks⟩
theorem aoK : ∀ (o : List za) (x n : za), vE (o ++ [x]) → wC x n = false → vE (o ++ [x, n])
 | [], x, n, _, h => ⟨h, trivial⟩
 | [a], x, n, h1, h => ⟨h1.1, h, trivial⟩
 | a :: b :: o, x, n, h1, h => ⟨h1.1, aoK (b :: o) x n h1.2 h⟩
theorem aac (a b : List za) : vg (a ++ b) = max (vg a) (vg b) := by
 induction a with
 | nil => simp [vg]
 | cons n a ih => simp only [List.cons_append, vg, ih]; omega
structure auH (i : Nat) (o : List za) : Prop where
 mn : ∀ x ∈ o, MN x
 wt : zR o ≤ 24 * i
 dep : vg o ≤ i
theorem auH.snoc {i : Nat} {o : List za} (h : auH i o) {n : za} (hn : MN n) (hw : nwt n ≤ 24) (hd : yV n ≤ 1) : auH (i + 1) (o ++ [n]) := by
 refine ⟨fun x hx => ?_, ?_, ?_⟩
 ·rcases List.mem_append.1 hx with hx | hx
  ·exact h.mn x hx
  ·simp at hx; subst hx; exact hn
 ·have := h.wt; simp only [kN, zR]; omega
 ·have := h.dep; simp only [aac, vg]; omega
end Go.Proofs.YtclohbgnaopjfaaDoor
namespace Go.Proofs.YtclohbgnaopjfaaDoor
set_option linter.unusedSimpArgs false
set_option linter.unusedVariables false
open Go
theorem abT (s : Str) (g : Value → Int) (hg : ∀ n, g (.int .i32 n) = n) : ∀ (f pos : Nat) (acc : Array Value), (Conv.runesFrom ⟨s.toArray⟩ f pos acc).toList.map g = acc.toList.map g ++ (Conv.runesFrom ⟨s.toArray⟩ f pos #[]).toList.map g
 | 0, pos, acc => by simp [Conv.runesFrom]
 | f + 1, pos, acc => by
  unfold Conv.runesFrom
  split
  ·rw [abT s g hg f _ (acc.push _), abT s g hg f _ (#[].push _)]
   simp
  ·simp
def rn : Nat → Str → List Int
 | 0, _ => []
 | f + 1, s => if s = [] then [] else ((Lib.decodeL s).1 : Int) :: rn f (s.drop (Lib.decodeL s).2)
theorem alF (s : Str) (g : Value → Int) (hg : ∀ n, g (.int .i32 n) = n) : ∀ (f pos : Nat), (Conv.runesFrom ⟨s.toArray⟩ f pos #[]).toList.map g = rn f (s.drop pos)
 | 0, pos => by simp [Conv.runesFrom, rn]
 | f + 1, pos => by
  unfold Conv.runesFrom rn
  have hz : ByteArray.size ⟨s.toArray⟩ = s.length := by simp [ByteArray.size]
  by_cases h : pos < s.length
  ·have hne : s.drop pos ≠ [] := by simp; omega
   have hd : Lib.decodeL (s.drop pos) = Utf8.decode ⟨s.toArray⟩ pos := by
    have := Lib.decodeL_drop ⟨s.toArray⟩ pos
    simpa using this
   rw [if_pos (by rw [hz]; exact h), if_neg hne, abT s g hg, alF s g hg f, hd, List.drop_drop]
   simp [hg]
  ·have hne : s.drop pos = [] := by simp; omega
   rw [if_neg (by rw [hz]; exact h), if_pos hne]
   simp
theorem adG (s : Str) : runes s = rn s.length s := by
 unfold runes
 rw [alF s _ (fun _ => rfl)]
 simp
def ahh (c : Nat) : List UInt8 :=
 if c < 0x80 then [UInt8.ofNat c]
 else if c < 0x800 then [UInt8.ofNat (0xC0 + c / 64), UInt8.ofNat (0x80 + c % 64)]
 else if c < 0x10000 then [UInt8.ofNat (0xE0 + c / 4096), UInt8.ofNat (0x80 + c / 64 % 64), UInt8.ofNat (0x80 + c % 64)]
 else [UInt8.ofNat (0xF0 + c / 262144), UInt8.ofNat (0x80 + c / 4096 % 64), UInt8.ofNat (0x80 + c / 64 % 64), UInt8.ofNat (0x80 + c % 64)]
theorem aq6 (r : Int) : zo r = ahh (if Utf8.valid r then r.toNat else Utf8.runeError) := by
 unfold zo Utf8.encode ahh
 generalize (if Utf8.valid r then r.toNat else Utf8.runeError) = c
 dsimp only
 by_cases h1 : c < 0x80
 ·rw [if_pos h1, if_pos h1]
 ·rw [if_neg h1, if_neg h1]
  by_cases h2 : c < 0x800
  ·rw [if_pos h2, if_pos h2]
  ·rw [if_neg h2, if_neg h2]
   by_cases h3 : c < 0x10000
   ·rw [if_pos h3, if_pos h3]
   ·rw [if_neg h3, if_neg h3]
theorem asO (c : Nat) : 1 ≤ (ahh c).length ∧ (ahh c).length ≤ 4 := by
 unfold ahh
 split
 ·simp
 ·split
  ·simp
  ·split <;> simp
theorem aqI (c : Int) : 1 ≤ (zo c).length ∧ (zo c).length ≤ 4 := by rw [aq6]; exact asO _
theorem va (r : Nat) (h : r < 55296 ∨ 57343 < r) (h' : r ≤ 1114111) : Utf8.valid (r : Int) = true := by
 unfold Utf8.valid
 rw [Bool.or_eq_true]
 rcases h with h | h
 ·left; rw [Bool.and_eq_true]
  exact ⟨decide_eq_true (by omega), decide_eq_true (by omega)⟩
 ·right; rw [Bool.and_eq_true]
  exact ⟨decide_eq_true (by omega), decide_eq_true (by omega)⟩
theorem vc (r : Nat) (h : 55296 ≤ r) (h' : r ≤ 57343) : Utf8.valid (r : Int) = false := by
 unfold Utf8.valid
 rw [Bool.or_eq_false_iff, Bool.and_eq_false_iff, Bool.and_eq_false_iff]
 exact ⟨.inr (decide_eq_false (by omega)), .inl (decide_eq_false (by omega))⟩
theorem akj (r : Nat) (h : r < 55296 ∨ 57343 < r) (h' : r ≤ 1114111) : zo (r : Int) = ahh r := by
 rw [aq6, va r h h']
 rfl
theorem avB (r : Nat) (h : r < 128) : zo (r : Int) = [UInt8.ofNat r] := by
 rw [akj r (by omega) (by omega), ahh, if_pos h]
theorem avY (r : Nat) (h : 128 ≤ r) (h' : r < 2048) : zo (r : Int) = [UInt8.ofNat (192 + r / 64), UInt8.ofNat (128 + r % 64)] := by
 rw [akj r (by omega) (by omega), ahh, if_neg (by omega), if_pos h']
theorem avR (r : Nat) (h : 2048 ≤ r) (h' : r < 65536) (hv : r < 55296 ∨ 57343 < r) : zo (r : Int) = [UInt8.ofNat (224 + r / 4096), UInt8.ofNat (128 + r / 64 % 64), UInt8.ofNat (128 + r % 64)] := by
 rw [akj r hv (by omega), ahh, if_neg (by omega), if_neg (by omega), if_pos h']
theorem avL (r : Nat) (h : 65536 ≤ r) (h' : r ≤ 1114111) : zo (r : Int) = [UInt8.ofNat (240 + r / 262144), UInt8.ofNat (128 + r / 4096 % 64), UInt8.ofNat (128 + r / 64 % 64), UInt8.ofNat (128 + r % 64)] := by
 rw [akj r (by omega) h', ahh, if_neg (by omega), if_neg (by omega), if_neg (by omega)]
theorem awt (r : Nat) (h : 55296 ≤ r) (h' : r ≤ 57343) : zo (r : Int) = [239, 191, 189] := by
 rw [aq6, vc r h h']
 simp only [Bool.false_eq_true, if_false, Utf8.runeError, ahh]
 rfl
theorem asf (r : Nat) (h : r ≤ 1114111) : zo (r : Int) = Lib.encodeRune (r : Int) := by
 unfold Lib.encodeRune Lib.encodeRuneZ
 by_cases h1 : r < 128
 ·rw [if_pos (show (0 : Int) ≤ (r : Int) ∧ (r : Int) ≤ 127 by omega), avB r h1]
  simp only [List.map_cons, List.map_nil, Int.toNat_natCast]
 ·rw [if_neg (show ¬ ((0 : Int) ≤ (r : Int) ∧ (r : Int) ≤ 127) by omega)]
  by_cases h2 : r < 2048
  ·rw [if_pos (show (128 : Int) ≤ (r : Int) ∧ (r : Int) ≤ 2047 by omega), avY r (by omega) h2]
   have a1 : (192 + (r : Int) / 64).toNat = 192 + r / 64 := by omega
   have a2 : (128 + (r : Int) % 64).toNat = 128 + r % 64 := by omega
   simp only [List.map_cons, List.map_nil, a1, a2]
  ·rw [if_neg (show ¬ ((128 : Int) ≤ (r : Int) ∧ (r : Int) ≤ 2047) by omega)]
   by_cases hv : r < 55296 ∨ 57343 < r
   ·by_cases h3 : r < 65536
    ·rw [if_pos (show ((2048 : Int) ≤ (r : Int) ∧ (r : Int) < 55296) ∨ ((57343 : Int) < (r : Int) ∧ (r : Int) ≤ 65535) by omega), avR r (by omega) h3 hv]
     have a1 : (224 + (r : Int) / 4096).toNat = 224 + r / 4096 := by omega
     have a2 : (128 + (r : Int) / 64 % 64).toNat = 128 + r / 64 % 64 := by omega
     have a3 : (128 + (r : Int) % 64).toNat = 128 + r % 64 := by omega
     simp only [List.map_cons, List.map_nil, a1, a2, a3]
    ·rw [if_neg (show ¬ (((2048 : Int) ≤ (r : Int) ∧ (r : Int) < 55296) ∨ ((57343 : Int) < (r : Int) ∧ (r : Int) ≤ 65535)) by omega), if_pos (show (65536 : Int) ≤ (r : Int) ∧ (r : Int) ≤ 1114111 by omega), avL r (by omega) h]
     have a1 : (240 + (r : Int) / 262144).toNat = 240 + r / 262144 := by omega
     have a2 : (128 + (r : Int) / 4096 % 64).toNat = 128 + r / 4096 % 64 := by omega
     have a3 : (128 + (r : Int) / 64 % 64).toNat = 128 + r / 64 % 64 := by omega
     have a4 : (128 + (r : Int) % 64).toNat = 128 + r % 64 := by omega
     simp only [List.map_cons, List.map_nil, a1, a2, a3, a4]
   ·rw [if_neg (show ¬ (((2048 : Int) ≤ (r : Int) ∧ (r : Int) < 55296) ∨ ((57343 : Int) < (r : Int) ∧ (r : Int) ≤ 65535)) by omega), if_neg (show ¬ ((65536 : Int) ≤ (r : Int) ∧ (r : Int) ≤ 1114111) by omega), awt r (by omega) (by omega)]
    rfl
theorem ak0 : ∀ (f : Nat) (s : Str), s.length ≤ f → (Lib.validD s = true → zN (rn f s) = s) ∧ (Lib.validD s = false → s.length < (zN (rn f s)).length)
 | 0, s, h => by
  have : s = [] := List.eq_nil_of_length_eq_zero (by omega)
  subst this
  exact ⟨fun _ => rfl, fun h => by rw [Lib.validD_nil] at h; cases h⟩
 | f + 1, s, h => by
  unfold rn
  by_cases hne : s = []
  ·subst hne
   exact ⟨fun _ => by simp [zN], fun h => by rw [Lib.validD_nil] at h; cases h⟩
  ·have hw := Lib.decodeL_width s
   have hl := Lib.decodeL_le s hne
   obtain ⟨ih1, ih2⟩ := ak0 f (s.drop (Lib.decodeL s).2) (by simp; omega)
   have e : zN (((Lib.decodeL s).1 : Int) :: rn f (s.drop (Lib.decodeL s).2)) = zo ((Lib.decodeL s).1 : Int) ++ zN (rn f (s.drop (Lib.decodeL s).2)) := by simp [zN]
   rw [if_neg hne, e, Lib.validD_step s hne]
   by_cases hb : (Lib.decodeL s).1 = 65533 ∧ (Lib.decodeL s).2 = 1
   ·rw [if_pos hb]
    refine ⟨fun h => (by cases h), fun _ => ?_⟩
    have e3 : (zo ((Lib.decodeL s).1 : Int)).length = 3 := by rw [hb.1]; rfl
    have e4 : (s.drop (Lib.decodeL s).2).length ≤ (zN (rn f (s.drop (Lib.decodeL s).2))).length := by
     cases hv : Lib.validD (s.drop (Lib.decodeL s).2) with
     | true => rw [ih1 hv]; exact Nat.le_refl _
     | false => exact Nat.le_of_lt (ih2 hv)
    rw [List.length_append, e3]
    rw [List.length_drop, hb.2] at e4
    rw [hb.2]
    omega
   ·rw [if_neg hb]
    have e5 : zo ((Lib.decodeL s).1 : Int) = s.take (Lib.decodeL s).2 := by rw [asf _ (Lib.decodeL_rune s)]; exact Lib.encode_decode s hne hb
    refine ⟨fun hv => by rw [ih1 hv, e5, List.take_append_drop], fun hv => ?_⟩
    have := ih2 hv
    rw [List.length_append, e5, List.length_take]
    rw [List.length_drop] at this
    omega
theorem Jb {s : Str} (h : Lib.validD s = true) : zN (runes s) = s := by rw [adG]; exact (ak0 _ s (Nat.le_refl _)).1 h
theorem aa6 (b : ByteArray) : ∀ (n i : Nat) (acc : Array Value), (Conv.runesFrom b n i acc).toList.length = acc.toList.length + Lib.runeCountFrom b n i
 | 0, i, acc => by simp [Conv.runesFrom, Lib.runeCountFrom]
 | n + 1, i, acc => by
  unfold Conv.runesFrom Lib.runeCountFrom
  split
  ·rename_i h
   rw [aa6 b n _ _]
   simp; omega
  ·rfl
theorem yP (s : Str) : (runes s).length = ah4 s := by
 unfold runes ah4 Lib.runeCountL Lib.runeCount
 rw [List.length_map, aa6]
 simp [ByteArray.size]
end Go.Proofs.YtclohbgnaopjfaaDoor
namespace Go.Proofs.YtclohbgnaopjfaaDoor
set_option linter.unusedSimpArgs false
set_option linter.unusedVariables false
open Go
theorem arI : ∀ (l : List za) (last : Option za), (∀ x ∈ l, qK x = true) → vE l → (∀ x y, last = some x → l.head? = some y → wC x y = false) → xS last l = true
 | [], last, _, _, _ => abP last
 | y :: l, last, hf, hj, hl => by
  rw [Kh, hf y (by simp)]
  have h2 : xS (some y) l = true := by
   refine arI l (some y) (fun x hx => hf x (by simp [hx])) ?_ ?_
   ·cases l with
    | nil => trivial
    | cons z l => exact hj.2
   ·intro x z hx hz
    cases hx
    cases l with
    | nil => cases hz
    | cons z' l => cases hz; exact hj.1
  rw [h2]
  cases last with
  | none => rfl
  | some x => simp [hl x y rfl rfl]
theorem anC {n : za} (h : qK n = true) (ht : isT n = false) : ∀ k ∈ n.Kids, qK k = true := by
 have key : ∀ (l : List za) (last : Option za), xS last l = true → ∀ k ∈ l, qK k = true := by
  intro l
  induction l with
  | nil => simp
  | cons y l ih =>
   intro last h k hk
   rw [Kh, Bool.and_eq_true, Bool.and_eq_true] at h
   rcases List.mem_cons.1 hk with rfl | hk
   ·exact h.1.1
   ·exact ih _ h.2 k hk
 rw [jg, if_neg (by simp [ht])] at h
 simp only [Bool.and_eq_true] at h
 exact key _ _ h.2
end Go.Proofs.YtclohbgnaopjfaaDoor
namespace Go.Proofs.YtclohbgnaopjfaaDoor
set_option linter.unusedSimpArgs false
set_option linter.unusedVariables false
open Go
theorem afl (s t : Str) (hne : s ≠ []) (hv : ¬ ((Lib.decodeL s).1 = 65533 ∧ (Lib.decodeL s).2 = 1)) : Lib.decodeL (s.take (Lib.decodeL s).2 ++ t) = Lib.decodeL s := by
 have hl : 0 < s.length := List.length_pos_iff.2 hne
 have hS := Lib.decodeL_N s
 rcases Lib.decodeN_shape s.length (s.getD 0 0).toNat (s.getD 1 0).toNat (s.getD 2 0).toNat (s.getD 3 0).toNat with ⟨h1, e⟩ | ⟨h1, h2, h3, h4, e⟩ | ⟨h1, h2, h3, h4, h5, h6, e⟩ | ⟨h1, h2, h3, h4, h5, h6, h7, e⟩ | e
 ·rw [hS, e]
  simp only
  rw [Lib.takeA s hl, Lib.decodeL_N]
  simp only [List.cons_append, List.getD_cons_zero]
  unfold Lib.decodeN
  rw [if_pos h1]
 ·rw [hS, e]
  simp only
  rw [Lib.takeB s h2, Lib.decodeL_N]
  simp only [List.cons_append, List.nil_append, List.getD_cons_zero, List.getD_cons_succ]
  unfold Lib.decodeN
  rw [if_neg (by omega), if_pos ⟨h1, by simp, h3⟩, if_pos (by omega)]
 ·rw [hS, e]
  simp only
  rw [Lib.takeC s h2, Lib.decodeL_N]
  simp only [List.cons_append, List.nil_append, List.getD_cons_zero, List.getD_cons_succ]
  unfold Lib.decodeN
  rw [if_neg (by omega), if_neg (by omega), if_pos ⟨h1, ⟨by simp, h3⟩, by simp, h4⟩, if_pos ⟨by omega, by omega⟩]
 ·rw [hS, e]
  simp only
  rw [Lib.takeD s h2, Lib.decodeL_N]
  simp only [List.cons_append, List.nil_append, List.getD_cons_zero, List.getD_cons_succ]
  unfold Lib.decodeN
  rw [if_neg (by omega), if_neg (by omega), if_neg (by omega), if_pos ⟨h1, ⟨by simp, h3⟩, ⟨by simp, h4⟩, by simp, h5⟩, if_pos ⟨by omega, by omega⟩]
 ·rw [hS, e] at hv
  simp at hv
def VR (c : Int) : Prop := (∀ t : Str, runes (zo c ++ t) = c :: runes t) ∧ ∀ t : Str, Lib.validD (zo c ++ t) = Lib.validD t
theorem ame : ∀ (f g : Nat) (s : Str), s.length ≤ f → s.length ≤ g → rn f s = rn g s
 | 0, 0, s, _, _ => rfl
 | 0, g + 1, s, hf, _ => by
  have : s = [] := List.eq_nil_of_length_eq_zero (by omega)
  subst this
  simp [rn]
 | f + 1, 0, s, _, hg => by
  have : s = [] := List.eq_nil_of_length_eq_zero (by omega)
  subst this
  simp [rn]
 | f + 1, g + 1, s, hf, hg => by
  unfold rn
  by_cases h : s = []
  ·simp [h]
  ·have h1 := Lib.decodeL_width s
   have h2 := Lib.decodeL_le s h
   rw [if_neg h, if_neg h, ame f g _ (by simp; omega) (by simp; omega)]
theorem K4 : runes [] = [] := by rw [adG]; rfl
theorem abL (s : Str) (hne : s ≠ []) : runes s = ((Lib.decodeL s).1 : Int) :: runes (s.drop (Lib.decodeL s).2) := by
 rw [adG, adG]
 have h1 := Lib.decodeL_width s
 have h2 := Lib.decodeL_le s hne
 have hl : 0 < s.length := List.length_pos_iff.2 hne
 obtain ⟨n, hn⟩ : ∃ n, s.length = n + 1 := ⟨s.length - 1, by omega⟩
 rw [hn, rn, if_neg hne, ame n _ _ (by simp; omega) (Nat.le_refl _)]
theorem at7 (s : Str) (hne : s ≠ []) (hv : ¬ ((Lib.decodeL s).1 = 65533 ∧ (Lib.decodeL s).2 = 1)) : VR ((Lib.decodeL s).1 : Int) ∧ zo ((Lib.decodeL s).1 : Int) = s.take (Lib.decodeL s).2 := by
 have e5 : zo ((Lib.decodeL s).1 : Int) = s.take (Lib.decodeL s).2 := by rw [asf _ (Lib.decodeL_rune s)]; exact Lib.encode_decode s hne hv
 have h1 := Lib.decodeL_width s
 have h2 := Lib.decodeL_le s hne
 have hlen : (s.take (Lib.decodeL s).2).length = (Lib.decodeL s).2 := by rw [List.length_take]; omega
 have hdr : ∀ t : Str, (s.take (Lib.decodeL s).2 ++ t).drop (Lib.decodeL s).2 = t := by
  intro t
  rw [List.drop_append_of_le_length (by omega), List.drop_of_length_le (by omega)]
  rfl
 refine ⟨⟨fun t => ?_, fun t => ?_⟩, e5⟩
 ·have hne' : zo ((Lib.decodeL s).1 : Int) ++ t ≠ [] := by
   intro h
   have := congrArg List.length h
   rw [List.length_append, e5, hlen, List.length_nil] at this
   omega
  rw [abL _ hne', e5, afl s t hne hv, hdr]
 ·have hne' : zo ((Lib.decodeL s).1 : Int) ++ t ≠ [] := by
   intro h
   have := congrArg List.length h
   rw [List.length_append, e5, hlen, List.length_nil] at this
   omega
  rw [Lib.validD_step _ hne', e5, afl s t hne hv, if_neg hv, hdr]
theorem aur : ∀ (f : Nat) (s : Str), s.length ≤ f → Lib.validD s = true → ∀ c ∈ runes s, VR c
 | 0, s, h, _, c, hc => by
  have : s = [] := List.eq_nil_of_length_eq_zero (by omega)
  subst this
  rw [K4] at hc
  cases hc
 | f + 1, s, h, hv, c, hc => by
  by_cases hne : s = []
  ·subst hne
   rw [K4] at hc
   cases hc
  ·rw [Lib.validD_step s hne] at hv
   by_cases hb : (Lib.decodeL s).1 = 65533 ∧ (Lib.decodeL s).2 = 1
   ·rw [if_pos hb] at hv; cases hv
   ·rw [if_neg hb] at hv
    have h1 := Lib.decodeL_width s
    rw [abL s hne] at hc
    rcases List.mem_cons.1 hc with rfl | hc
    ·exact (at7 s hne hb).1
    ·exact aur f (s.drop (Lib.decodeL s).2) (by simp; omega) hv c hc
theorem amx {s : Str} (h : Lib.validD s = true) : ∀ c ∈ runes s, VR c := aur s.length s (Nat.le_refl _) h
theorem Jy (c : Int) (l : List Int) : zN (c :: l) = zo c ++ zN l := by simp [zN]
theorem ajU (a b : List Int) : zN (a ++ b) = zN a ++ zN b := by simp [zN]
theorem aeE : ∀ (l : List Int) (t : Str), (∀ c ∈ l, VR c) → runes (zN l ++ t) = l ++ runes t ∧ Lib.validD (zN l ++ t) = Lib.validD t
 | [], t, _ => by simp [zN]
 | c :: l, t, h => by
  obtain ⟨h1, h2⟩ := aeE l t fun x hx => h x (by simp [hx])
  obtain ⟨h3, h4⟩ := h c (by simp)
  rw [Jy, List.append_assoc, h3, h1, h4, h2]
  simp
theorem acS {l : List Int} (h : ∀ c ∈ l, VR c) : runes (zN l) = l ∧ Lib.validD (zN l) = true := by
 have := aeE l [] h
 simpa [K4, Lib.validD_nil] using this
theorem aee {s : Str} (t : Str) (h : Lib.validD s = true) : runes (s ++ t) = runes s ++ runes t ∧ Lib.validD (s ++ t) = Lib.validD t := by
 have := aeE (runes s) t (amx h)
 rwa [Jb h] at this
end Go.Proofs.YtclohbgnaopjfaaDoor
namespace Go.Proofs.YtclohbgnaopjfaaDoor
set_option linter.unusedSimpArgs false
set_option linter.unusedVariables false
open Go
inductive It where
 | sgn (c : Int) (m : List Str)
 | nod (n : za)
def itN (n : za) : List It := if isT n = true then (runes n.Text).map (fun c => It.sgn c n.Marks) else [.nod n]
def items : List za → List It
 | [] => []
 | n :: l => itN n ++ items l
theorem Wo (a b : List za) : items (a ++ b) = items a ++ items b := by
 induction a with
 | nil => rfl
 | cons n a ih => simp only [List.cons_append, items, ih, List.append_assoc]
def ajN : It → Nat
 | .sgn _ _ => 1
 | .nod n => kR n
def szI : List It → Nat
 | [] => 0
 | i :: l => ajN i + szI l
theorem V9 (a b : List It) : szI (a ++ b) = szI a + szI b := by
 induction a with
 | nil => simp [szI]
 | cons n a ih => simp only [List.cons_append, szI, ih]; omega
theorem atS (cs : List Int) (m : List Str) : szI (cs.map fun c => It.sgn c m) = cs.length := by
 induction cs with
 | nil => rfl
 | cons c cs ih => simp only [List.map_cons, szI, ajN, ih, List.length_cons]; omega
theorem akQ (n : za) : szI (itN n) = kR n := by
 unfold itN
 rw [yE]
 cases h : isT n with
 | true => simp only [if_true]; rw [atS, yP]
 | false => simp only [Bool.false_eq_true, if_false, szI, ajN]; rw [yE, h]; simp
theorem We (l : List za) : szI (items l) = zC l := by
 induction l with
 | nil => rfl
 | cons n l ih => simp only [items, zC, V9, akQ, ih]
theorem Y6 : ∀ i : It, (∀ n, i = .nod n → isT n = false) → 1 ≤ ajN i
 | .sgn _ _, _ => Nat.le_refl _
 | .nod n, h => by
  have := h n rfl
  simp only [ajN]
  rw [yE, this]
  simp
  omega
def anE (i : It) : Prop := ∀ n, i = .nod n → isT n = false
theorem auh (n : za) : ∀ i ∈ itN n, anE i := by
 intro i hi m hm
 unfold itN at hi
 cases h : isT n with
 | true =>
  rw [h] at hi
  simp only [if_true, List.mem_map] at hi
  obtain ⟨c, _, rfl⟩ := hi
  cases hm
 | false =>
  rw [h] at hi
  simp only [Bool.false_eq_true, if_false, List.mem_singleton] at hi
  rw [hi] at hm
  cases hm
  exact h
theorem ain (l : List za) : ∀ i ∈ items l, anE i := by
 induction l with
 | nil => intro i hi; cases hi
 | cons n l ih =>
  intro i hi
  rcases List.mem_append.1 hi with hi | hi
  ·exact auh n i hi
  ·exact ih i hi
theorem ais : ∀ (a a' b b' : List It), (∀ i ∈ a ++ b, anE i) → a ++ b = a' ++ b' → szI a = szI a' → a = a' ∧ b = b'
 | [], [], b, b', _, h, _ => ⟨rfl, h⟩
 | [], i :: a', b, b', hn, h, hs => by
  exfalso
  have := Y6 i (hn i (by rw [h]; simp))
  simp only [szI] at hs
  omega
 | i :: a, [], b, b', hn, h, hs => by
  exfalso
  have := Y6 i (hn i (by simp))
  simp only [szI] at hs
  omega
 | i :: a, j :: a', b, b', hn, h, hs => by
  simp only [List.cons_append, List.cons.injEq] at h
  obtain ⟨rfl, h⟩ := h
  simp only [szI] at hs
  obtain ⟨h1, h2⟩ := ais a a' b b' (fun x hx => hn x (by simp at hx ⊢; exact .inr hx)) h (by omega)
  exact ⟨by rw [h1], h2⟩
def Gd (n : za) : Prop := isT n = true → Lib.validD n.Text = true ∧ n.zh = [] ∧ n.Kids = []
theorem Gd.plain {n : za} (h : Gd n) : Plain n := fun ht => (h ht).2
theorem ac8 {n : za} (h : isT n = true) : n.Kind = jK := by simpa [isT] using h
abbrev tN (t : Str) (m : List Str) : za := ⟨jK, t, m, [], []⟩
theorem asg {n : za} (h : Gd n) (ht : isT n = true) : n = tN n.Text n.Marks := by
 have h1 := ac8 ht
 obtain ⟨_, h2, h3⟩ := h ht
 cases n
 simp_all
def atL : It → za
 | .sgn c m => tN (zo c) m
 | .nod n => n
def canon (l : List It) : List za := yY (l.map atL)
theorem ajB (m : List Str) : ∀ (cs : List Int) (o : List za), ((cs.map fun c => It.sgn c m).map atL).foldl joinStep o = joinStep o (tN (zN cs) m)
 | [], o => by
  have : joinStep o (tN (zN []) m) = o := by unfold joinStep; rfl
  rw [this]
  rfl
 | c :: cs, o => by
  rw [List.map_cons, List.map_cons, List.foldl_cons, ajB m cs, Jy]
  exact akp o (tN (zo c) m) (tN (zN cs) m) rfl rfl rfl rfl rfl
theorem arA {n : za} (h : Gd n) (o : List za) : ((itN n).map atL).foldl joinStep o = joinStep o n := by
 unfold itN
 cases ht : isT n with
 | true =>
  simp only [if_true]
  rw [ajB, Jb (h ht).1, ← asg h ht]
 | false => rfl
theorem af4 : ∀ (l o : List za), (∀ x ∈ l, Gd x) → ((items l).map atL).foldl joinStep o = l.foldl joinStep o
 | [], o, _ => rfl
 | n :: l, o, h => by
  rw [items, List.map_append, List.foldl_append, arA (h n (by simp)), af4 l _ fun x hx => h x (by simp [hx])]
  rfl
theorem amZ {l : List za} (h : ∀ x ∈ l, Gd x) : yY l = canon (items l) := (af4 l [] h).symm
theorem ahI (o : List za) (n : za) (ho : ∀ x ∈ o, Gd x) (hn : Gd n) : items (joinStep o n) = items o ++ itN n ∧ ∀ x ∈ joinStep o n, Gd x := by
 have e1 : ∀ x, items [x] = itN x := fun x => by simp [items]
 have plain : items (o ++ [n]) = items o ++ itN n ∧ ∀ x ∈ o ++ [n], Gd x := by
  refine ⟨by rw [Wo, e1], fun x hx => ?_⟩
  rcases List.mem_append.1 hx with hx | hx
  ·exact ho x hx
  ·simp at hx; rw [hx]; exact hn
 by_cases hc : (isT n && n.Text == []) = true
 ·have e : joinStep o n = o := by unfold joinStep; rw [if_pos hc]
  rw [e]
  simp only [Bool.and_eq_true, beq_iff_eq] at hc
  refine ⟨?_, ho⟩
  unfold itN
  rw [if_pos hc.1, hc.2, K4]
  simp
 ·rcases vC o with rfl | ⟨o, x, rfl⟩
  ·rw [vK, if_neg hc]
   simpa using plain
  ·rw [wK, if_neg hc]
   by_cases hd : (isT n && isT x && decide (x.Marks = n.Marks)) = true
   ·rw [if_pos hd]
    simp only [Bool.and_eq_true, decide_eq_true_eq] at hd
    obtain ⟨⟨h1, h2⟩, h3⟩ := hd
    have hx := ho x (by simp) h2
    have hn' := hn h1
    have ht : isT ({ n with Text := x.Text ++ n.Text } : za) = true := h1
    obtain ⟨r1, r2⟩ := aee n.Text hx.1
    refine ⟨?_, fun y hy => ?_⟩
    ·rw [Wo, Wo, e1, e1, List.append_assoc]
     congr 1
     unfold itN
     rw [if_pos ht, if_pos h1, if_pos h2]
     simp only [r1, List.map_append, h3]
    ·rcases List.mem_append.1 hy with hy | hy
     ·exact ho y (by simp [hy])
     ·simp only [List.mem_singleton] at hy
      rw [hy]
      exact fun _ => ⟨by simp only [r2]; exact hn'.1, hn'.2⟩
   ·rw [if_neg hd]
    simpa [List.append_assoc] using plain
theorem ahd : ∀ (l o : List za), (∀ x ∈ o, Gd x) → (∀ x ∈ l, Gd x) → items (l.foldl joinStep o) = items o ++ items l ∧ ∀ x ∈ l.foldl joinStep o, Gd x
 | [], o, ho, _ => ⟨by simp [items], ho⟩
 | n :: l, o, ho, hl => by
  obtain ⟨h1, h2⟩ := ahI o n ho (hl n (by simp))
  obtain ⟨h3, h4⟩ := ahd l _ h2 fun x hx => hl x (by simp [hx])
  refine ⟨?_, h4⟩
  rw [List.foldl_cons, h3, h1, List.append_assoc]
  rfl
theorem am8 {l : List za} (h : ∀ x ∈ l, Gd x) : items (yY l) = items l ∧ ∀ x ∈ yY l, Gd x := by
 have := ahd l [] (by simp) h
 exact ⟨this.1.trans (by simp [items]), this.2⟩
def Jnd (l : List za) : Prop := vE l ∧ ∀ x ∈ l, isT x = true → x.Text ≠ []
theorem alA {a : za} {l : List za} (h : vE (a :: l)) : vE l := by
 cases l with
 | nil => trivial
 | cons b l => exact h.2
theorem aoU : ∀ (o : List za) (x n : za) (l : List za), vE (o ++ x :: n :: l) → wC x n = false
 | [], x, n, l, h => h.1
 | y :: o, x, n, l, h => aoU o x n l (alA (a := y) (l := o ++ x :: n :: l) h)
theorem aim : ∀ (l o : List za), vE (o ++ l) → (∀ x ∈ l, isT x = true → x.Text ≠ []) → l.foldl joinStep o = o ++ l
 | [], o, _, _ => by simp
 | n :: l, o, h, hl => by
  have hn := hl n (by simp)
  have hc : ¬ (isT n && n.Text == []) = true := by
   simp only [Bool.and_eq_true, beq_iff_eq]
   rintro ⟨h1, h2⟩
   exact hn h1 h2
  have e : joinStep o n = o ++ [n] := by
   rcases vC o with rfl | ⟨o, x, rfl⟩
   ·rw [vK, if_neg hc]; rfl
   ·rw [wK, if_neg hc]
    have ha := aoU o x n l (by simpa using h)
    unfold wC at ha
    have : (isT n && isT x && decide (x.Marks = n.Marks)) = false := by rw [Bool.and_comm (isT n)]; exact ha
    rw [this]
    simp
  rw [List.foldl_cons, e, aim l _ (by simpa using h) fun x hx => hl x (by simp [hx])]
  simp
theorem Jnd.join {l : List za} (h : Jnd l) : yY l = l := by
 have := aim l [] h.1 h.2
 simpa [yY] using this
theorem Jnd.canon {l : List za} (h : Jnd l) (hg : ∀ x ∈ l, Gd x) : l = canon (items l) := by
 rw [← amZ hg, h.join]
theorem atH {a b : List za} (ha : Jnd a) (hb : Jnd b) (ga : ∀ x ∈ a, Gd x) (gb : ∀ x ∈ b, Gd x) (h : items a = items b) : a = b := by
 rw [ha.canon ga, hb.canon gb, h]
theorem ad2 : ∀ (a b : List za), vE (a ++ b) → vE a
 | [], _, _ => trivial
 | [x], _, _ => trivial
 | x :: y :: a, b, h => ⟨h.1, ad2 (y :: a) b h.2⟩
theorem aiH : ∀ (a b : List za), vE (a ++ b) → vE b
 | [], _, h => h
 | x :: a, b, h => aiH a b (alA (a := x) (l := a ++ b) h)
theorem agh : ∀ (a : List za) (x y : za), vE (a ++ [x]) → (∀ z, wC z y = wC z x) → vE (a ++ [y])
 | [], _, _, _, _ => trivial
 | [z], x, y, h, e => ⟨by rw [e]; exact h.1, trivial⟩
 | z :: w :: a, x, y, h, e => ⟨h.1, agh (w :: a) x y h.2 e⟩
theorem ag1 (x y : za) (l : List za) (h : vE (x :: l)) (e : ∀ z, wC y z = wC x z) : vE (y :: l) := by
 cases l with
 | nil => trivial
 | cons z l => exact ⟨by rw [e]; exact h.1, h.2⟩
end Go.Proofs.YtclohbgnaopjfaaDoor
namespace Go.Proofs.YtclohbgnaopjfaaDoor
set_option linter.unusedSimpArgs false
set_option linter.unusedVariables false
open Go
theorem ato {α : Type} (o : List α) (x y : α) : wr (o ++ [x]) (o.length : Int) y = some (o ++ [y]) := by
 unfold wr
 rw [if_pos (by simp; omega)]
 simp
theorem alb : ∀ (l : List za) (i : Int) (o : List za), zR o + zR l ≤ 1099511627776 → wP l i o = some (l.foldl joinStep o)
 | [], i, o, _ => by simp [wP]
 | n :: l, i, o, hw => by
  simp only [zR] at hw
  have hjw := Yp o n
  have ih := alb l (i + 1) (joinStep o n) (by omega)
  have hol := qy o
  have eapp : app 104 o [n] = some (o ++ [n]) := ko (by simp; omega)
  rw [wP, List.foldl_cons, K6]
  simp only [Option.bind_some]
  rcases vC o with rfl | ⟨o, x, rfl⟩
  ·rw [vK] at ih ⊢
   have hneg : decide (w64 ((([] : List za).length : Int) - 1) ≥ 0) = false := by rw [qd (by simp)]; simp
   by_cases ht : isT n = true
   ·by_cases he : n.Text = []
    ·simp only [ht, he, Bool.true_and, beq_self_eq_true, if_true] at ih ⊢
     exact ih
    ·have he' : (n.Text == []) = false := by simp [he]
     simp only [ht, he', Bool.true_and, Bool.false_eq_true, if_false] at ih ⊢
     simp only [if_true, hneg, Bool.false_eq_true, if_false, eapp, Option.bind_some]
     exact ih
   ·have ht2 : isT n = false := by simpa using ht
    simp only [ht2, Bool.false_and, Bool.false_eq_true, if_false] at ih ⊢
    simp only [hneg, Bool.false_eq_true, if_false, eapp, Option.bind_some]
    exact ih
  ·rw [wK] at ih ⊢
   have hw1 : w64 (((o ++ [x]).length : Int) - 1) = (o.length : Int) := by
    rw [qd (by simp at hol ⊢; omega)]
    simp
   have hx : rd (o ++ [x]) (o.length : Int) = some x := Vf o [] x
   have hpos : decide ((o.length : Int) ≥ 0) = true := by simp
   have hwx : nwt x ≤ zR (o ++ [x]) := jI (by simp)
   have hx1 := qI x
   have hn1 := qI n
   have hxm := adh x.Marks
   have hal : wC x n = (isT n && isT x && decide (x.Marks = n.Marks)) := by unfold wC; rw [Bool.and_comm (isT x)]
   rw [hw1, hx]
   simp only [hpos, if_true, Option.bind_some]
   rw [alO x n (by omega), ato]
   simp only [Option.bind_some, hal]
   by_cases ht : isT n = true
   ·by_cases he : n.Text = []
    ·simp only [ht, he, Bool.true_and, beq_self_eq_true, if_true] at ih ⊢
     exact ih
    ·have he' : (n.Text == []) = false := by simp [he]
     simp only [ht, he', Bool.true_and, Bool.false_eq_true, if_false, if_true] at ih ⊢
     cases hc : (isT x && decide (x.Marks = n.Marks)) with
     | true =>
      simp only [hc, if_true] at ih ⊢
      rw [wz (by omega)]
      exact ih
     | false =>
      simp only [hc, Bool.false_eq_true, if_false] at ih ⊢
      rw [eapp]
      simp only [Option.bind_some, List.append_assoc, List.cons_append, List.nil_append]
      exact ih
   ·have ht2 : isT n = false := by simpa using ht
    simp only [ht2, Bool.false_and, Bool.false_eq_true, if_false] at ih ⊢
    rw [eapp]
    simp only [Option.bind_some, List.append_assoc, List.cons_append, List.nil_append]
    exact ih
theorem amt (l : List za) (h : zR l ≤ 1099511627776) : Wq l = some (yY l) := by
 have hl := qy l
 unfold Wq
 rw [wz (by omega), alb l 0 [] (by simpa [zR] using h)]
 rfl
end Go.Proofs.YtclohbgnaopjfaaDoor
namespace Go.Proofs.YtclohbgnaopjfaaDoor
set_option linter.unusedSimpArgs false
set_option linter.unusedVariables false
open Go
def up (q : List Nat) : List Int := q.map fun (i : Nat) => (i : Int)
theorem auV : up [] = [] := rfl
theorem ajH (i : Nat) (q : List Nat) : up (i :: q) = (i : Int) :: up q := rfl
theorem anu (p q : List Nat) : up (p ++ q) = up p ++ up q := by simp [up]
theorem Jp (q : List Nat) : (up q).length = q.length := by simp [up]
theorem avh {p q : List Nat} (h : up p = up q) : p = q := by
 induction p generalizing q with
 | nil => cases q with
  | nil => rfl
  | cons b q => simp [up] at h
 | cons a p ih => cases q with
  | nil => simp [up] at h
  | cons b q =>
   simp only [ajH, List.cons.injEq] at h
   rw [ih h.2, Int.ofNat_inj.1 h.1]
abbrev aqJ : za := { Kind := ([] : Str), Text := ([] : Str), Marks := [], zh := [], Kids := [] }
theorem akx {α : Type} {l : List α} {b : Nat} (h : b ≤ l.length) : sl l 0 (b : Int) = some (l.take b) := by
 have := Xc (l := l) (a := 0) (b := b) (by omega) h
 simpa using this
inductive At : za → List Nat → za → Nat → Prop
 | nil (n : za) : At n [] n 0
 | cons (n : za) (i : Nat) (k : za) (q : List Nat) (m : za) (a : Nat) (hi : n.Kids[i]? = some k) (hn : isT n = false) (hk : isT k = false) (h : At k q m a) : At n (i :: q) m (zC (n.Kids.take i) + 1 + a)
theorem K5 {l : List za} {i : Nat} {k : za} (h : l[i]? = some k) : l = l.take i ++ k :: l.drop (i + 1) := by
 obtain ⟨hi, rfl⟩ := List.getElem?_eq_some_iff.1 h
 simp
theorem aeq {l : List za} {i : Nat} {k : za} (h : l[i]? = some k) : zC l = zC (l.take i) + kR k + zC (l.drop (i + 1)) := by
 conv => lhs; rw [K5 h]
 rw [Xk, zC]; omega
theorem adk {l : List za} {i : Nat} {k : za} (h : l[i]? = some k) : zR l = zR (l.take i) + nwt k + zR (l.drop (i + 1)) := by
 conv => lhs; rw [K5 h]
 rw [kN, zR]; omega
theorem abV (l : List za) (i : Nat) : zC (l.take i) ≤ zC l := by
 have := Xk (l.take i) (l.drop i)
 rw [List.take_append_drop] at this
 omega
theorem amQ (l : List za) (i : Nat) : zR (l.take i) ≤ zR l := by
 have := kN (l.take i) (l.drop i)
 rw [List.take_append_drop] at this
 omega
theorem At.aw6 {n : za} {q m a} (h : At n q m a) (hn : isT n = false) : isT m = false := by
 induction h with
 | nil => exact hn
 | cons n i k q m a hi hn' hk h ih => exact ih hk
theorem At.sizes {n : za} {q m a} (h : At n q m a) : a + zC m.Kids ≤ zC n.Kids := by
 induction h with
 | nil => omega
 | cons n i k q m a hi hn hk h ih =>
  have h1 := aeq hi
  have h2 := Wm hk
  omega
theorem At.len {n : za} {q m a} (h : At n q m a) : q.length ≤ a := by
 induction h with
 | nil => simp
 | cons n i k q m a hi hn hk h ih => simp only [List.length_cons]; omega
theorem At.wt {n : za} {q m a} (h : At n q m a) : nwt m ≤ nwt n := by
 induction h with
 | nil => omega
 | cons n i k q m a hi hn hk h ih =>
  have h1 := adk hi
  have h2 := kM n
  omega
theorem At.dep {n : za} {q m a} (h : At n q m a) : yV m ≤ yV n := by
 induction h with
 | nil => omega
 | cons n i k q m a hi hn hk h ih =>
  have h1 := yB (List.mem_of_getElem? hi)
  have h2 := xY n
  omega
theorem At.snoc {n : za} {q m a} (h : At n q m a) {i k} (hi : m.Kids[i]? = some k) (hm : isT m = false) (hk : isT k = false) : At n (q ++ [i]) k (a + zC (m.Kids.take i) + 1) := by
 induction h with
 | nil n =>
  have := At.cons n i k [] k 0 hi hm hk (.nil k)
  simpa using this
 | cons n j x q m a hj hn hx h ih =>
  have := At.cons n j x _ _ _ hj hn hx (ih hi hm)
  have e : zC (n.Kids.take j) + 1 + a + zC (m.Kids.take i) + 1 = zC (n.Kids.take j) + 1 + (a + zC (m.Kids.take i) + 1) := by omega
  rw [e]
  exact this
theorem At.avy {n : za} : ∀ {q : List Nat} {i k a}, At n (q ++ [i]) k a → ∃ m b, At n q m b ∧ m.Kids[i]? = some k ∧ isT m = false ∧ isT k = false ∧ a = b + zC (m.Kids.take i) + 1 := by
 intro q
 induction q generalizing n with
 | nil =>
  intro i k a h
  cases h with
  | cons _ _ x _ _ a hi hn hk h =>
   cases h
   exact ⟨n, 0, .nil n, hi, hn, hk, by omega⟩
 | cons j q ih =>
  intro i k a h
  cases h with
  | cons _ _ x _ _ a hi hn hk h =>
   obtain ⟨m, b, h1, h2, h3, h4, h5⟩ := ih h
   exact ⟨m, _, .cons n j x q m b hi hn hk h1, h2, h3, h4, by omega⟩
end Go.Proofs.YtclohbgnaopjfaaDoor
namespace Go.Proofs.YtclohbgnaopjfaaDoor
set_option linter.unusedSimpArgs false
set_option linter.unusedVariables false
open Go
theorem arj {n : za} {q m a} (h : At n q m a) : ∀ v, qF (up q) v n = some (.inr m) := by
 induction h with
 | nil n => intro v; rfl
 | cons n i k q m a hi hn hk h ih =>
  intro v
  have hl := (List.getElem?_eq_some_iff.1 hi).1
  have h1 : decide ((i : Int) < 0) = false := by simp
  have h2 : decide ((i : Int) ≥ (n.Kids.length : Int)) = false := by simp; omega
  rw [ajH, qF]
  simp only [Qt, h1, h2, hn, Bool.false_eq_true, if_false, xg hi, Option.bind_some, ih]
theorem Vp {n : za} {q m a} (h : At n q m a) (hm : isT m = false) (hq : q.length ≤ 9223372036854775807) : kY n (up q) = some (m, 0) := by
 unfold kY
 rw [Jp, wz hq, arj h]
 simp only [Option.bind_some, Qt, hm, Bool.false_eq_true, if_false]
theorem arZ {n : za} {q m a} (h : At n q m a) : ∀ v (t : Nat), nwt n ≤ 1099511627776 → t + a ≤ 4611686018427387904 → jD (up q) v (t : Int) n = some ((t + a : Nat) : Int) := by
 induction h with
 | nil n => intro v t _ _; rfl
 | cons n i k q m a hi hn hk h ih =>
  intro v t hw ht
  have hl := (List.getElem?_eq_some_iff.1 hi).1
  have h1 := adk hi
  have h2 := kM n
  have h3 := kK (n.Kids.take i)
  rw [ajH, jD, akx (by omega)]
  simp only [Option.bind_some]
  rw [WH _ (by omega), xg hi]
  simp only [Option.bind_some]
  have e : w64 ((t : Int) + w64 ((zC (n.Kids.take i) : Int) + 1)) = ((t + (zC (n.Kids.take i) + 1) : Nat) : Int) := by
   rw [qd (x := (zC (n.Kids.take i) : Int) + 1) (by omega), qd (by omega)]
   omega
  rw [e, ih _ _ (by omega) (by omega)]
  simp only [Option.some.injEq]
  omega
theorem start_eq {n : za} {q m a} (h : At n q m a) (hm : isT m = false) (hw : nwt n ≤ 1099511627776) : Kc n (up q) = some ((a : Int), 0) := by
 have h1 := h.len
 have h2 := h.sizes
 have h3 := kK n.Kids
 have h4 := kM n
 unfold Kc
 rw [Vp h hm (by omega)]
 have := arZ h 0 0 hw (by omega)
 simp only [Option.bind_some, bne_self_eq_false, Bool.false_eq_true, if_false]
 rw [Jp, wz (by omega)]
 have e : ((0 : Nat) : Int) = 0 := rfl
 rw [e] at this
 rw [this]
 simp
def abW (n : za) (s : wo) (pos : Nat) : Prop :=
 ∃ q m a idx off, s = ⟨up q, ((idx : Nat) : Int), ((off : Nat) : Int)⟩ ∧ At n q m a ∧ isT m = false ∧ idx ≤ m.Kids.length ∧ a + zC (m.Kids.take idx) + off = pos ∧ (∀ k, m.Kids[idx]? = some k → off < kR k ∧ (0 < off → isT k = true)) ∧ (idx = m.Kids.length → off = 0)
theorem af3 (path : List Int) (hp : path.length ≤ 1099511627776) : ∀ (suf : List za) (i pos : Nat), zR suf ≤ 1099511627776 → pos ≤ 1099511627776 → i + suf.length ≤ 9223372036854775807 →
    (zC suf ≤ pos ∧ qa path suf (i : Int) (pos : Int) = some (.inr (.inr ()))) ∨
    ∃ a k b r, suf = a ++ k :: b ∧ pos = zC a + r ∧ r < kR k ∧
      (((isT k = true ∨ r = 0) ∧ qa path suf (i : Int) (pos : Int) = some (.inl (⟨path, ((i + a.length : Nat) : Int), ((r : Nat) : Int)⟩, 0))) ∨
       (isT k = false ∧ 0 < r ∧ qa path suf (i : Int) (pos : Int) = some (.inr (.inl (((r - 1 : Nat) : Int), k, path ++ [((i + a.length : Nat) : Int)])))))
  | [], i, pos, _, _, _ => .inl ⟨by simp [zC], rfl⟩
  | y :: suf, i, pos, hw, hpos, hi => by
    simp only [zR] at hw
    have hy := alx y
    by_cases h : kR y ≤ pos
    · have step : qa path (y :: suf) (i : Int) (pos : Int) = qa path suf ((i + 1 : Nat) : Int) ((pos - kR y : Nat) : Int) := by
        rw [qa, size_eq y (by omega)]
        have : decide ((pos : Int) ≥ (kR y : Int)) = true := by simp; omega
        simp only [Option.bind_some, this, if_true]
        rw [qd (by omega)]
        congr 1
        omega
      simp only [List.length_cons] at hi
      rcases af3 path hp suf (i + 1) (pos - kR y) (by omega) (by omega) (by omega) with ⟨h1, h2⟩ | ⟨a, k, b, r, h1, h2, h3, h4⟩
      · left
        exact ⟨by simp only [zC]; omega, by rw [step, h2]⟩
      · right
        have e : i + 1 + a.length = i + (y :: a).length := by simp; omega
        rw [e] at h4
        exact ⟨y :: a, k, b, r, by rw [h1]; rfl, by simp only [zC]; omega, h3, by rw [step]; exact h4⟩
    · right
      have hd : decide ((pos : Int) ≥ (kR y : Int)) = false := by simp; omega
      refine ⟨[], y, suf, pos, rfl, by simp [zC], by omega, ?_⟩
      rw [qa, size_eq y (by omega)]
      simp only [Option.bind_some, hd, Bool.false_eq_true, if_false, List.length_nil, Nat.add_zero]
      by_cases ht : isT y = true
      · left
        exact ⟨.inl ht, by simp only [Qt, ht, if_true]⟩
      · have ht' : isT y = false := by simpa using ht
        simp only [Qt, ht', Bool.false_eq_true, if_false]
        by_cases h0 : pos = 0
        · left
          subst h0
          exact ⟨.inr rfl, by simp⟩
        · right
          have : ((pos : Int) == 0) = false := by simp; omega
          refine ⟨trivial, by omega, ?_⟩
          simp only [this, Bool.false_eq_true, if_false]
          rw [ko (by simp; omega), qd (by omega)]
          simp only [Option.bind_some, Option.some.injEq, Sum.inr.injEq, Sum.inl.injEq, Prod.mk.injEq, and_true]
          omega
theorem agV (n0 : za) (hw0 : nwt n0 ≤ 1099511627776) : ∀ (d : Nat) (n : za) (q : List Nat) (a pos : Nat), yV n ≤ d → At n0 q n a → isT n = false → pos ≤ zC n.Kids → ∃ s, abW n0 s (a + pos) ∧ ∀ k, d ≤ k → wY k (pos : Int) n (up q) = some (s, 0)
 | 0, n, q, a, pos, hd, _, _, _ => by have := xY n; omega
 | d + 1, n, q, a, pos, hd, hat, hn, hpos => by
  have h1 := hat.len
  have h2 := hat.sizes
  have h3 := kK n0.Kids
  have h4 := kM n0
  have h5 := hat.wt
  have h6 := kM n
  have h7 := qy n.Kids
  have h8 := kK n.Kids
  rcases af3 (up q) (by rw [Jp]; omega) n.Kids 0 pos (by omega) (by omega) (by omega) with ⟨e1, e2⟩ | ⟨x, k, y, r, e1, e2, e3, e4⟩
  ·refine ⟨⟨up q, (n.Kids.length : Int), 0⟩, ⟨q, n, a, n.Kids.length, 0, rfl, hat, hn, by omega, by simp; omega, fun k hk => by simp at hk, fun _ => rfl⟩, fun k hk => ?_⟩
   obtain ⟨k, rfl⟩ : ∃ j, k = j + 1 := ⟨k - 1, by omega⟩
   rw [wY, wz (by omega)]
   have e2' : qa (up q) n.Kids 0 (pos : Int) = _ := e2
   rw [e2']
   rfl
  ·have hx : n.Kids[x.length]? = some k := by rw [e1]; simp
   have htk : n.Kids.take x.length = x := by rw [e1]; simp
   have hle : x.length < n.Kids.length := by rw [e1]; simp
   rw [Nat.zero_add] at e4
   rcases e4 with ⟨e4, e5⟩ | ⟨e4, e5, e6⟩
   ·refine ⟨⟨up q, (x.length : Int), (r : Int)⟩, ⟨q, n, a, x.length, r, rfl, hat, hn, by omega, by rw [htk]; omega, fun k' hk' => ?_, fun h => by omega⟩, fun k' hk => ?_⟩
    ·rw [hx] at hk'
     cases hk'
     exact ⟨e3, fun h => e4.resolve_right (by omega)⟩
    ·obtain ⟨k', rfl⟩ : ∃ j, k' = j + 1 := ⟨k' - 1, by omega⟩
     rw [wY, wz (by omega)]
     have e2' : qa (up q) n.Kids 0 (pos : Int) = _ := e5
     rw [e2']
     rfl
   ·have hs := Wm e4
    have hdk := yB (List.mem_of_getElem? hx)
    have hdn := xY n
    obtain ⟨s, s1, s2⟩ := agV n0 hw0 d k (q ++ [x.length]) _ (r - 1) (by omega) (hat.snoc hx hn e4) e4 (by omega)
    refine ⟨s, ?_, fun k' hk => ?_⟩
    ·rw [htk] at s1
     have e : a + zC x + 1 + (r - 1) = a + pos := by omega
     rw [e] at s1
     exact s1
    ·obtain ⟨k', rfl⟩ : ∃ j, k' = j + 1 := ⟨k' - 1, by omega⟩
     rw [wY, wz (by omega)]
     have e2' : qa (up q) n.Kids 0 (pos : Int) = _ := e6
     rw [e2']
     simp only [Option.bind_some]
     have := s2 k' (by omega)
     rw [anu] at this
     exact this
theorem J7 {n : za} (hn : isT n = false) (hw : nwt n ≤ 1099511627776) (pos : Nat) (hp : pos ≤ zC n.Kids) : ∃ s, kT n (pos : Int) = some (s, 0) ∧ abW n s pos := by
 have h4 := kM n
 obtain ⟨s, h1, h2⟩ := agV n hw (yV n) n [] 0 pos (Nat.le_refl _) (.nil n) hn hp
 refine ⟨s, ?_, by simpa using h1⟩
 have hneg : decide ((pos : Int) < 0) = false := by simp
 have hgt : decide ((pos : Int) > (zC n.Kids : Int)) = false := by simp; omega
 unfold kT
 simp only [Qt, hn, Bool.false_eq_true, if_false, hneg]
 rw [WH _ (by omega)]
 simp only [Option.bind_some, hgt, Bool.false_eq_true, if_false]
 rw [auV] at h2
 rw [ZR (yV n) h2]
 rfl
theorem alR {n : za} (hn : isT n = false) (hw : nwt n ≤ 1099511627776) (pos : Int) (hp : pos < 0 ∨ zC n.Kids < pos) : kT n pos = some (⟨[], 0, 0⟩, 3) := by
 have h4 := kM n
 unfold kT
 simp only [Qt, hn, Bool.false_eq_true, if_false]
 by_cases h : pos < 0
 ·simp [h]
 ·have hgt : decide (pos > (zC n.Kids : Int)) = true := by simp; omega
  have hneg : decide (pos < 0) = false := by simpa using h
  simp only [hneg, Bool.false_eq_true, if_false]
  rw [WH _ (by omega)]
  simp only [Option.bind_some, hgt, if_true]
theorem abW.le {n : za} {s pos} (h : abW n s pos) : pos ≤ zC n.Kids := by
 obtain ⟨q, m, a, idx, off, _, h1, _, h2, h3, h4, h5⟩ := h
 have hs := h1.sizes
 rcases Nat.lt_or_ge idx m.Kids.length with hl | hl
 ·obtain ⟨k, hk⟩ : ∃ k, m.Kids[idx]? = some k := ⟨_, List.getElem?_eq_getElem hl⟩
  have := aeq hk
  have := (h4 k hk).1
  omega
 ·have := h5 (by omega)
  have := abV m.Kids idx
  omega
end Go.Proofs.YtclohbgnaopjfaaDoor
namespace Go.Proofs.YtclohbgnaopjfaaDoor
set_option linter.unusedSimpArgs false
set_option linter.unusedVariables false
open Go
def jh : List Nat → za → za → za
 | [], _, x => x
 | i :: q, n, x => { n with Kids := match n.Kids[i]? with | some k => n.Kids.set i (jh q k x) | none => n.Kids }
theorem kW {n : za} {i : Nat} {k : za} (hi : n.Kids[i]? = some k) (q : List Nat) (x : za) : jh (i :: q) n x = { n with Kids := n.Kids.set i (jh q k x) } := by
 rw [jh, hi]
theorem Vi : ∀ (q : List Nat) (n x : za), isT n = false → isT x = false → isT (jh q n x) = false
 | [], n, x, _, h => h
 | i :: q, n, x, h, _ => h
theorem avv {x : za} {n : za} {q m a} (h : At n q m a) : nwt (jh q n x) + nwt m = nwt n + nwt x := by
 induction h with
 | nil n => rw [jh]; omega
 | cons n i k q m a hi hn hk h ih =>
  have hl := (List.getElem?_eq_some_iff.1 hi).1
  have h1 := adk hi
  rw [kW hi, qI, qI n]
  simp only
  rw [List.set_eq_take_append_cons_drop, if_pos hl, kN, zR]
  omega
theorem At.rep {x : za} (hx : isT x = false) {n : za} {q m a} (h : At n q m a) : At (jh q n x) q x a := by
 induction h with
 | nil n => exact .nil _
 | cons n i k q m a hi hn hk h ih =>
  have hl := (List.getElem?_eq_some_iff.1 hi).1
  have := At.cons (jh (i :: q) n x) i (jh q k x) q x a (by rw [kW hi]; simp [hl]) hn (Vi q k x hk hx) ih
  have e : (jh (i :: q) n x).Kids.take i = n.Kids.take i := by
   rw [kW hi]
   simp only
   rw [List.take_set_of_le (Nat.le_refl _)]
  rw [e] at this
  exact this
theorem alr (n : za) : za.mk n.Kind n.Text n.Marks n.zh n.Kids = n := by cases n; rfl
theorem anL {α : Type} {l : List α} {i : Nat} (h : i < l.length) (x : α) : wr l (i : Int) x = some (l.set i x) := by
 unfold wr; rw [if_pos (by omega)]; simp
theorem avw {α : Type} (x : α) (l : List α) : sl (x :: l) 1 ((x :: l).length : Int) = some l := by
 have := Xc (l := x :: l) (a := 1) (b := (x :: l).length) (by simp) (by simp)
 simpa using this
theorem avm {x : za} {n : za} {q m a} (h : At n q m a) : isT n = false → nwt n ≤ 1099511627776 → ∀ kr, q.length < kr → jS kr n (up q) x = some (jh q n x, 0) := by
 induction h with
 | nil n =>
  intro hn hw kr hk
  obtain ⟨kr, rfl⟩ : ∃ j, kr = j + 1 := ⟨kr - 1, by omega⟩
  have := Vp (At.nil n) hn (by simp)
  rw [jS, this]
  rfl
 | cons n i k q m a hi hn hk h ih =>
  intro _ hw kr hkr
  simp only [List.length_cons] at hkr
  obtain ⟨kr, rfl⟩ : ∃ j, kr = j + 1 := ⟨kr - 1, by omega⟩
  have hat := At.cons n i k q m a hi hn hk h
  have g1 := hat.len
  have g2 := hat.sizes
  have g3 := kK n.Kids
  have g4 := kM n
  have g5 := adk hi
  have g6 := qy n.Kids
  have hl := (List.getElem?_eq_some_iff.1 hi).1
  have hnz : (((i :: q).length : Int) == 0) = false := by simp; omega
  have hin := Vp hat (hat.aw6 hn) (by omega)
  have e1 : rd (up (i :: q)) 0 = some (i : Int) := xg (l := up (i :: q)) (i := 0) rfl
  have e2 : sl (up (i :: q)) 1 ((up (i :: q)).length : Int) = some (up q) := avw _ _
  have e3 : app 104 [] n.Kids = some n.Kids := ko (by simp; omega)
  rw [jS, hin, e1, e2]
  simp only [Option.bind_some, bne_self_eq_false, Bool.false_eq_true, if_false, Jp, hnz, qh, e3, xg hi]
  rw [ih hk (by omega) kr (by omega)]
  simp only [Option.bind_some]
  rw [anL hl, kW hi]
  rfl
theorem aoG {x : za} {n : za} {q m a} (h : At n q m a) (hn : isT n = false) (hw : nwt n ≤ 1099511627776) : Wp n (up q) x = some (jh q n x, 0) := by
 unfold Wp
 exact ZR (q.length + 1) fun k hk => avm h hn hw k (by omega)
end Go.Proofs.YtclohbgnaopjfaaDoor
namespace Go.Proofs.YtclohbgnaopjfaaDoor
set_option linter.unusedSimpArgs false
set_option linter.unusedVariables false
open Go
structure xw (l : List za) : Prop where
 form : ∀ x ∈ l, qK x = true
 adj : vE l
theorem ZU {n : za} (h : qK n = true) (ht : isT n = true) : n.Text ≠ [] ∧ Lib.validD n.Text = true ∧ Z6 n.Marks = true ∧ n.zh = [] ∧ n.Kids = [] := by
 rw [jg, if_pos ht] at h
 simp only [Bool.and_eq_true, decide_eq_true_eq] at h
 obtain ⟨⟨⟨h1, h2⟩, h3⟩, h4⟩ := h
 exact ⟨h1, h2, h3, List.eq_nil_of_length_eq_zero (by omega), List.eq_nil_of_length_eq_zero (by omega)⟩
theorem akc {t : Str} {m : List Str} (h1 : t ≠ []) (h2 : Lib.validD t = true) (h3 : Z6 m = true) : qK (tN t m) = true := by
 have ht : isT (tN t m) = true := rfl
 rw [jg, if_pos ht]
 simp [h1, h2, h3]
theorem akv {n : za} (h : qK n = true) : Gd n := fun ht => by
 obtain ⟨_, h2, _, h4, h5⟩ := ZU h ht
 exact ⟨h2, h4, h5⟩
theorem ak8 {s : Str} (h : s ≠ []) : 1 ≤ ah4 s := by
 rw [← yP, abL s h]
 simp
theorem xw.gd {l : List za} (h : xw l) : ∀ x ∈ l, Gd x := fun x hx => akv (h.form x hx)
theorem xw.jnd {l : List za} (h : xw l) : Jnd l := ⟨h.adj, fun x hx ht => (ZU (h.form x hx) ht).1⟩
theorem agE {a b : List za} (ha : xw a) (hb : xw b) (h : items a = items b) : a = b := atH ha.jnd hb.jnd ha.gd hb.gd h
theorem xw.nil : xw [] := ⟨by simp, trivial⟩
theorem xw.left {a b : List za} (h : xw (a ++ b)) : xw a := ⟨fun x hx => h.form x (by simp [hx]), ad2 a b h.adj⟩
theorem xw.right {a b : List za} (h : xw (a ++ b)) : xw b := ⟨fun x hx => h.form x (by simp [hx]), aiH a b h.adj⟩
theorem aii (o : List za) (n : za) (h : xw o) (hn : qK n = true) : xw (joinStep o n) := by
 have hc : ¬ (isT n && n.Text == []) = true := by
  simp only [Bool.and_eq_true, beq_iff_eq]
  rintro ⟨h1, h2⟩
  exact (ZU hn h1).1 h2
 rcases vC o with rfl | ⟨o, x, rfl⟩
 ·rw [vK, if_neg hc]
  exact ⟨fun y hy => by simp at hy; rw [hy]; exact hn, trivial⟩
 ·rw [wK, if_neg hc]
  have hx := h.form x (by simp)
  split
  ·rename_i hd
   simp only [Bool.and_eq_true, decide_eq_true_eq] at hd
   obtain ⟨⟨h1, h2⟩, h3⟩ := hd
   obtain ⟨a1, a2, a3, a4, a5⟩ := ZU hx h2
   obtain ⟨b1, b2, b3, b4, b5⟩ := ZU hn h1
   have e : ({ n with Text := x.Text ++ n.Text } : za) = tN (x.Text ++ n.Text) n.Marks := by
    have := ac8 h1
    cases n
    simp_all
   have ef : qK ({ n with Text := x.Text ++ n.Text } : za) = true := by
    rw [e]
    refine akc (by simp [a1]) ?_ b3
    rw [(aee n.Text a2).2]
    exact b2
   refine ⟨fun y hy => ?_, ?_⟩
   ·rcases List.mem_append.1 hy with hy | hy
    ·exact h.form y (by simp [hy])
    ·simp only [List.mem_singleton] at hy; rw [hy]; exact ef
   ·refine agh o x _ h.adj fun z => ?_
    unfold wC
    have e1 : isT ({ n with Text := x.Text ++ n.Text } : za) = true := h1
    rw [e1, h2]
    simp only [h3]
  ·rename_i hd
   refine ⟨fun y hy => ?_, ?_⟩
   ·have hy' : y ∈ o ++ [x] ∨ y = n := by simpa [or_assoc] using hy
    rcases hy' with hy | rfl
    ·exact h.form y hy
    ·exact hn
   ·have ha : wC x n = false := by
     unfold wC
     rw [Bool.and_comm (isT x)]
     simpa using hd
    have := aoK o x n h.adj ha
    simpa using this
theorem aix : ∀ (l o : List za), xw o → (∀ x ∈ l, qK x = true) → xw (l.foldl joinStep o)
 | [], _, h, _ => h
 | n :: l, o, h, hl => aix l _ (aii o n h (hl n (by simp))) fun x hx => hl x (by simp [hx])
theorem aiS {l : List za} (h : ∀ x ∈ l, qK x = true) : xw (yY l) ∧ items (yY l) = items l :=
 ⟨aix l [] .nil h, (am8 fun x hx => akv (h x hx)).1⟩
theorem xw.join {l : List za} (h : xw l) : yY l = l := h.jnd.join
theorem asB : ∀ (l : List za) (last : Option za), xS last l = true → xw l ∧ ∀ x y, last = some x → l.head? = some y → wC x y = false
 | [], last, _ => ⟨.nil, by simp⟩
 | y :: l, last, h => by
  rw [Kh, Bool.and_eq_true, Bool.and_eq_true] at h
  obtain ⟨⟨h1, h2⟩, h3⟩ := h
  obtain ⟨h4, h5⟩ := asB l (some y) h3
  refine ⟨⟨fun x hx => ?_, ?_⟩, ?_⟩
  ·rcases List.mem_cons.1 hx with rfl | hx
   ·exact h1
   ·exact h4.form x hx
  ·cases l with
   | nil => trivial
   | cons z l => exact ⟨h5 y z rfl rfl, h4.adj⟩
  ·rintro x y' rfl hy
   cases hy
   simpa using h2
theorem am3 {l : List za} (h : xw l) : xS none l = true := arI l none h.form h.adj fun _ _ hx => by cases hx
theorem Zi {n : za} (h : qK n = true) (ht : isT n = false) : xw n.Kids := by
 rw [jg, if_neg (by simp [ht])] at h
 simp only [Bool.and_eq_true] at h
 exact (asB _ _ h.2).1
theorem ajr {n : za} (h : qK n = true) (ht : isT n = false) {l : List za} (hl : xw l) : qK ({ n with Kids := l } : za) = true := by
 have ht' : isT ({ n with Kids := l } : za) = false := ht
 rw [jg, if_neg (by simp [ht])] at h
 rw [jg, if_neg (by simp [ht'])]
 simp only [Bool.and_eq_true] at h ⊢
 exact ⟨h.1, am3 hl⟩
theorem als : ∀ (l : List za) (i : Int) (at' : Nat), zR l ≤ 1099511627776 → at' ≤ 1099511627776 → ∃ (k r : Nat), vS l i (at' : Int) = some ((r : Int), i + (k : Int)) ∧ k ≤ l.length ∧ zC (l.take k) + r = at' ∧ ∀ y, l[k]? = some y → r < kR y
 | [], i, at', _, _ => ⟨0, at', by simp [vS], by simp, by simp [zC], by simp⟩
 | y :: l, i, at', hw, ha => by
  simp only [zR] at hw
  rw [vS, size_eq y (by omega)]
  simp only [Option.bind_some]
  by_cases hc : kR y ≤ at'
  ·have g : decide ((at' : Int) ≥ (kR y : Int)) = true := by simp; omega
   have e : w64 ((at' : Int) - (kR y : Int)) = ((at' - kR y : Nat) : Int) := by rw [qd (by omega)]; omega
   simp only [g, if_true, e]
   obtain ⟨k, r, h1, h2, h3, h4⟩ := als l (i + 1) (at' - kR y) (by omega) (by omega)
   refine ⟨k + 1, r, ?_, by simpa using h2, ?_, ?_⟩
   ·rw [h1]; congr 2; omega
   ·simp only [List.take_succ_cons, zC]; omega
   ·intro z hz; exact h4 z (by simpa using hz)
  ·have g : decide ((at' : Int) ≥ (kR y : Int)) = false := by simp; omega
   simp only [g, Bool.false_eq_true, if_false]
   refine ⟨0, at', by simp, by simp, by simp [zC], ?_⟩
   intro z hz
   simp at hz
   rw [← hz]
   omega
theorem aoV : ∀ (P : List It) (i : It) (Q X Y : List It), P ++ i :: Q = X ++ Y → szI P < szI X → szI P + ajN i ≤ szI X
 | [], i, Q, [], Y, _, hs => by simp [szI] at hs
 | [], i, Q, j :: X, Y, h, _ => by
  simp only [List.nil_append, List.cons_append, List.cons.injEq] at h
  simp only [szI, h.1]; omega
 | p :: P, i, Q, [], Y, _, hs => by simp [szI] at hs
 | p :: P, i, Q, j :: X, Y, h, hs => by
  simp only [List.cons_append, List.cons.injEq] at h
  obtain ⟨rfl, h⟩ := h
  simp only [szI] at hs ⊢
  have := aoV P i Q X Y h (by omega)
  omega
theorem alG (l : List za) (h : zR l ≤ 1099511627776) : qh l = some l := by
 have := qy l
 unfold qh
 rw [ko (by simp; omega)]
 simp
theorem at6 (l : List za) (k : Nat) : zR (l.take k) + zR (l.drop k) = zR l := by
 have := kN (l.take k) (l.drop k)
 rw [List.take_append_drop] at this
 exact this.symm
theorem size_take (l : List za) (k : Nat) : zC (l.take k) + zC (l.drop k) = zC l := by
 have := Xk (l.take k) (l.drop k)
 rw [List.take_append_drop] at this
 exact this.symm
theorem arD {l : List za} (h : xw l) (hw : zR l ≤ 549755813888) (at' : Nat) (ha : at' ≤ zC l) :
  (∃ a b, xL l (at' : Int) = some (a, b, 0) ∧ xw a ∧ xw b ∧ items l = items a ++ items b ∧ szI (items a) = at' ∧ zR a ≤ zR l ∧ zR b ≤ zR l ∧ vg a ≤ vg l ∧ vg b ≤ vg l) ∨
  (xL l (at' : Int) = some ([], [], 10) ∧ ∀ X Y, items l = X ++ Y → szI X ≠ at') := by
 have hsz := kK l
 have hl := qy l
 obtain ⟨k, r, h1, h2, h3, h4⟩ := als l 0 at' (by omega) (by omega)
 have g1 : decide ((at' : Int) < 0) = false := by simp
 have g2 : decide ((at' : Int) > (zC l : Int)) = false := by simp; omega
 have s1 : sl l 0 (k : Int) = some (l.take k) := by
  have := Xc (l := l) (a := 0) (b := k) (by omega) h2
  simpa using this
 have s2 : sl l (k : Int) (l.length : Int) = some (l.drop k) := by
  have := Xc (l := l) (a := k) (b := l.length) h2 (Nat.le_refl _)
  simpa using this
 have wtd := at6 l k
 have std := size_take l k
 have rowt : xw (l.take k ++ l.drop k) := by rw [List.take_append_drop]; exact h
 have itd : items l = items (l.take k) ++ items (l.drop k) := by rw [← Wo, List.take_append_drop]
 have dtd : vg l = max (vg (l.take k)) (vg (l.drop k)) := by rw [← aac, List.take_append_drop]
 unfold xL
 rw [g1]
 simp only [Bool.false_eq_true, if_false]
 rw [WH l (by omega)]
 simp only [Option.bind_some, g2, Bool.false_eq_true, if_false]
 rw [wz (by omega), h1]
 simp only [Option.bind_some, Int.zero_add]
 rw [s1, s2]
 simp only [Option.bind_some]
 rw [alG _ (by omega), alG _ (by omega)]
 simp only [Option.bind_some]
 by_cases hr : r = 0
 ·subst hr
  refine .inl ⟨l.take k, l.drop k, by simp, rowt.left, rowt.right, itd, ?_, by omega, by omega, by omega, by omega⟩
  rw [We]; omega
 ·have g3 : ((r : Int) == 0) = false := by simp; omega
  simp only [g3, Bool.false_eq_true, if_false]
  rcases Nat.lt_or_ge k l.length with hk | hk
  ·have hy : l[k]? = some l[k] := List.getElem?_eq_getElem hk
   generalize l[k] = y at hy
   have hym : y ∈ l := List.mem_of_getElem? hy
   have hyf := h.form y hym
   have hry := h4 y hy
   have hdrop : l.drop k = y :: l.drop (k + 1) := by
    have := List.drop_eq_getElem_cons hk
    rw [this]
    rw [List.getElem?_eq_getElem hk] at hy
    cases hy
    rfl
   rw [xg hy]
   simp only [Option.bind_some]
   cases ht : isT y with
   | false =>
    have g4 : (!(y.Kind == ([116, 101, 120, 116] : Str))) = true := by
     have : (y.Kind == ([116, 101, 120, 116] : Str)) = isT y := rfl
     rw [this, ht]; rfl
    refine .inr ⟨by simp only [g4, if_true], fun X Y hXY hX => ?_⟩
    have e : items l = items (l.take k) ++ It.nod y :: items (l.drop (k + 1)) := by
     rw [itd, hdrop, items, itN, ht]
     rfl
    have := aoV (items (l.take k)) (It.nod y) (items (l.drop (k + 1))) X Y (by rw [← e, hXY]) (by rw [We]; omega)
    rw [We] at this
    simp only [ajN] at this
    omega
   | true =>
    have g4 : (!(y.Kind == ([116, 101, 120, 116] : Str))) = false := by
     have : (y.Kind == ([116, 101, 120, 116] : Str)) = isT y := rfl
     rw [this, ht]; rfl
    simp only [g4, Bool.false_eq_true, if_false]
    obtain ⟨t1, t2, t3, t4, t5⟩ := ZU hyf ht
    have ek := ac8 ht
    have hrl : r < (runes y.Text).length := by
     rw [yP]
     rw [yE, if_pos ht] at hry
     exact hry
    have q1 : sl (runes y.Text) 0 (r : Int) = some ((runes y.Text).take r) := by
     have := Xc (l := runes y.Text) (a := 0) (b := r) (by omega) (by omega)
     simpa using this
    have q2 : sl (runes y.Text) (r : Int) ((runes y.Text).length : Int) = some ((runes y.Text).drop r) := by
     have := Xc (l := runes y.Text) (a := r) (b := (runes y.Text).length) (by omega) (Nat.le_refl _)
     simpa using this
    have q3 : rd (l.drop k) 0 = some y := by
     rw [hdrop]; exact xg (i := 0) rfl
    have q4 : wr (l.drop k) 0 ({ y with Text := zN ((runes y.Text).drop r) } : za) = some (({ y with Text := zN ((runes y.Text).drop r) } : za) :: l.drop (k + 1)) := by
     rw [hdrop]
     exact anL (l := y :: l.drop (k + 1)) (i := 0) (by simp) _
    rw [q1, q2, q3]
    simp only [Option.bind_some]
    rw [q4]
    simp only [Option.bind_some]
    have hvr := amx t2
    obtain ⟨a1, a2⟩ := acS (l := (runes y.Text).take r) fun c hc => hvr c (List.mem_of_mem_take hc)
    obtain ⟨b1, b2⟩ := acS (l := (runes y.Text).drop r) fun c hc => hvr c (List.mem_of_mem_drop hc)
    have hcat : zN ((runes y.Text).take r) ++ zN ((runes y.Text).drop r) = y.Text := by
     rw [← ajU, List.take_append_drop, Jb t2]
    have hne1 : zN ((runes y.Text).take r) ≠ [] := by
     intro hh
     rw [hh, K4] at a1
     have := congrArg List.length a1
     simp at this
     omega
    have hne2 : zN ((runes y.Text).drop r) ≠ [] := by
     intro hh
     rw [hh, K4] at b1
     have := congrArg List.length b1
     simp at this
     omega
    have e1 : ({ y with Text := zN ((runes y.Text).take r) } : za) = tN (zN ((runes y.Text).take r)) y.Marks := by cases y; simp_all
    have e2 : ({ y with Text := zN ((runes y.Text).drop r) } : za) = tN (zN ((runes y.Text).drop r)) y.Marks := by cases y; simp_all
    have ey : y = tN y.Text y.Marks := asg (akv hyf) ht
    rw [e1, e2]
    rw [ko (by simp; omega)]
    simp only [Option.bind_some]
    have hlen := congrArg List.length hcat
    rw [List.length_append] at hlen
    have wy : nwt y = 2 + 4 + y.Text.length + xK y.Marks := by
     rw [qI, ek, t4, t5]; simp [wR, zR]
    have w1 : nwt (tN (zN ((runes y.Text).take r)) y.Marks) = 2 + 4 + (zN ((runes y.Text).take r)).length + xK y.Marks := by
     rw [qI]; simp [wR, zR]
    have w2 : nwt (tN (zN ((runes y.Text).drop r)) y.Marks) = 2 + 4 + (zN ((runes y.Text).drop r)).length + xK y.Marks := by
     rw [qI]; simp [wR, zR]
    have d1 : ∀ t m, yV (tN t m) = 1 := fun t m => by rw [xY]; simp [vg]
    have dy : yV y = 1 := by rw [ey]; exact d1 _ _
    have f1 := akc hne1 a2 t3
    have f2 := akc hne2 b2 t3
    have alk : ∀ t z, wC z (tN t y.Marks) = wC z y := fun t z => by
     unfold wC
     have : isT (tN t y.Marks) = true := rfl
     rw [this, ht]
    have alk' : ∀ t z, wC (tN t y.Marks) z = wC y z := fun t z => by
     unfold wC
     have : isT (tN t y.Marks) = true := rfl
     rw [this, ht]
    rw [hdrop] at wtd itd dtd rowt
    simp only [zR, vg, items] at wtd itd dtd
    refine .inl ⟨_, _, rfl, ⟨?_, ?_⟩, ⟨?_, ?_⟩, ?_, ?_, ?_, ?_, ?_, ?_⟩
    ·intro x hx
     rcases List.mem_append.1 hx with hx | hx
     ·exact rowt.left.form x hx
     ·simp only [List.mem_singleton] at hx; rw [hx]; exact f1
    ·have : vE (l.take k ++ [y]) := ad2 _ (l.drop (k + 1)) (by simpa using rowt.adj)
     exact agh _ _ _ this fun z => alk _ z
    ·intro x hx
     rcases List.mem_cons.1 hx with rfl | hx
     ·exact f2
     ·exact rowt.right.form x (by simp [hx])
    ·exact ag1 y _ _ rowt.right.adj fun z => alk' _ z
    ·rw [itd, Wo, items, items, items]
     have i1 : itN y = (runes y.Text).map fun c => It.sgn c y.Marks := by rw [itN, if_pos ht]
     have i2 : itN (tN (zN ((runes y.Text).take r)) y.Marks) = ((runes y.Text).take r).map fun c => It.sgn c y.Marks := by
      have : isT (tN (zN ((runes y.Text).take r)) y.Marks) = true := rfl
      rw [itN, if_pos this]
      simp only [a1]
     have i3 : itN (tN (zN ((runes y.Text).drop r)) y.Marks) = ((runes y.Text).drop r).map fun c => It.sgn c y.Marks := by
      have : isT (tN (zN ((runes y.Text).drop r)) y.Marks) = true := rfl
      rw [itN, if_pos this]
      simp only [b1]
     rw [i1, i2, i3]
     simp only [List.append_nil, List.append_assoc]
     rw [← List.append_assoc (List.map _ (List.take r _)), ← List.map_append, List.take_append_drop]
    ·rw [We, Xk]
     simp only [zC]
     have : isT (tN (zN ((runes y.Text).take r)) y.Marks) = true := rfl
     rw [yE, if_pos this, ← yP]
     simp only [a1, List.length_take]
     omega
    ·rw [kN]; simp only [zR]; omega
    ·simp only [zR]; omega
    ·rw [aac]; simp only [vg, d1]; omega
    ·simp only [vg, d1]; omega
  ·exfalso
   have : l.take k = l := List.take_of_length_le hk
   rw [this] at h3
   omega
theorem alV {l : List za} (h : xw l) (hw : zR l ≤ 549755813888) {X Y : List It} (e : items l = X ++ Y) :
  ∃ a b, xL l (szI X : Int) = some (a, b, 0) ∧ xw a ∧ xw b ∧ items a = X ∧ items b = Y ∧ zR a ≤ zR l ∧ zR b ≤ zR l ∧ vg a ≤ vg l ∧ vg b ≤ vg l := by
 have hs : szI X ≤ zC l := by
  rw [← We, e, V9]; omega
 rcases arD h hw (szI X) hs with ⟨a, b, h1, h2, h3, h4, h5, h6⟩ | ⟨_, h2⟩
 ·have hn : ∀ i ∈ X ++ Y, anE i := by rw [← e]; exact ain l
  obtain ⟨e1, e2⟩ := ais X (items a) Y (items b) hn (by rw [← e, h4]) h5.symm
  exact ⟨a, b, h1, h2, h3, e1.symm, e2.symm, h6⟩
 ·exact (h2 X Y e rfl).elim
end Go.Proofs.YtclohbgnaopjfaaDoor
namespace Go.Proofs.YtclohbgnaopjfaaDoor
set_option linter.unusedSimpArgs false
set_option linter.unusedVariables false
open Go
inductive Tk where
 | sgn (c : Int) (m : List Str)
 | opn (k : Str) (a : List ze)
 | cls
mutual
def tkN : za → List Tk
 | ⟨k, t, m, a, ks⟩ => if (k == jK) = true then (runes t).map (fun c => Tk.sgn c m) else Tk.opn k a :: (tkL ks ++ [Tk.cls])
def tkL : List za → List Tk
 | [] => []
 | n :: l => tkN n ++ tkL l
end
theorem vD (n : za) : tkN n = if isT n = true then (runes n.Text).map (fun c => Tk.sgn c n.Marks) else Tk.opn n.Kind n.zh :: (tkL n.Kids ++ [Tk.cls]) := by cases n; simp only [tkN, isT]; rfl
def afZ : It → List Tk
 | .sgn c m => [.sgn c m]
 | .nod n => tkN n
def tkI (l : List It) : List Tk := l.flatMap afZ
theorem YU (i : It) (l : List It) : tkI (i :: l) = afZ i ++ tkI l := rfl
theorem atl (a b : List It) : tkI (a ++ b) = tkI a ++ tkI b := by simp [tkI]
theorem afY (a b : List za) : tkL (a ++ b) = tkL a ++ tkL b := by
 induction a with
 | nil => simp [tkL]
 | cons n a ih => simp only [List.cons_append, tkL, ih, List.append_assoc]
theorem asC (m : List Str) (cs : List Int) : tkI (cs.map fun c => It.sgn c m) = cs.map fun c => Tk.sgn c m := by
 induction cs with
 | nil => rfl
 | cons c cs ih => rw [List.map_cons, YU, ih]; rfl
theorem atJ (n : za) : tkI (itN n) = tkN n := by
 rw [vD]
 unfold itN
 cases h : isT n with
 | true => simp only [if_true]; exact asC _ _
 | false =>
  simp only [Bool.false_eq_true, if_false]
  have : tkI [It.nod n] = tkN n := by simp [tkI, afZ]
  rw [this, vD, h]
  simp
theorem aak (l : List za) : tkI (items l) = tkL l := by
 induction l with
 | nil => rfl
 | cons n l ih => rw [items, atl, atJ, ih, tkL]
mutual
theorem aos : ∀ n : za, (tkN n).length = kR n
 | ⟨k, t, m, a, ks⟩ => by
  rw [vD, yE]
  cases h : isT (⟨k, t, m, a, ks⟩ : za) with
  | true => simp [yP]
  | false =>
   have := ZM ks
   simp; omega
theorem ZM : ∀ l : List za, (tkL l).length = zC l
 | [] => rfl
 | n :: l => by
  have h1 := aos n
  have h2 := ZM l
  simp only [tkL, zC, List.length_append]; omega
end
def FI (l : List It) : Prop := ∀ n, It.nod n ∈ l → isT n = false ∧ qK n = true
theorem acK {l : List za} (h : ∀ x ∈ l, qK x = true) : FI (items l) := by
 induction l with
 | nil => intro n hn; cases hn
 | cons y l ih =>
  intro n hn
  rcases List.mem_append.1 hn with hn | hn
  ·unfold itN at hn
   cases ht : isT y with
   | true => rw [ht] at hn; simp at hn
   | false =>
    rw [ht] at hn
    simp at hn
    subst hn
    exact ⟨ht, h n (by simp)⟩
  ·exact ih (fun x hx => h x (by simp [hx])) n hn
def asi : List Tk → Prop
 | [] => True
 | .cls :: _ => True
 | _ => False
theorem aaJ {a b : za} (ha : qK a = true) (hb : qK b = true) (ta : isT a = false) (tb : isT b = false) (hk : a.Kind = b.Kind) (hat : a.zh = b.zh) (hks : a.Kids = b.Kids) : a = b := by
 rw [jg, if_neg (by simp [ta])] at ha
 rw [jg, if_neg (by simp [tb])] at hb
 simp only [Bool.and_eq_true, decide_eq_true_eq] at ha hb
 cases a; cases b
 simp_all
theorem akI : ∀ (f : Nat) (X Y : List It) (R S : List Tk), szI X ≤ f → FI X → FI Y → asi R → asi S → tkI X ++ R = tkI Y ++ S → X = Y ∧ R = S
 | f, [], [], R, S, _, _, _, _, _, h => ⟨rfl, h⟩
 | f, [], j :: Y, R, S, _, _, fy, hR, _, h => by
  exfalso
  rw [YU] at h
  cases j with
  | sgn c m =>
   simp only [afZ, tkI, List.flatMap_nil, List.nil_append, List.cons_append] at h
   rw [h] at hR
   exact hR
  | nod n =>
   have := (fy n (by simp)).1
   simp only [afZ, tkI, List.flatMap_nil, List.nil_append] at h
   rw [vD, this] at h
   simp only [Bool.false_eq_true, if_false, List.cons_append] at h
   rw [h] at hR
   exact hR
 | f, i :: X, [], R, S, _, fx, _, _, hS, h => by
  exfalso
  rw [YU] at h
  cases i with
  | sgn c m =>
   simp only [afZ, tkI, List.flatMap_nil, List.nil_append, List.cons_append] at h
   rw [← h] at hS
   exact hS
  | nod n =>
   have := (fx n (by simp)).1
   simp only [afZ, tkI, List.flatMap_nil, List.nil_append] at h
   rw [vD, this] at h
   simp only [Bool.false_eq_true, if_false, List.cons_append] at h
   rw [← h] at hS
   exact hS
 | 0, i :: X, j :: Y, R, S, hf, fx, _, _, _, h => by
  exfalso
  have := Y6 i (by
   intro n hn
   subst hn
   exact (fx n (by simp)).1)
  simp only [szI] at hf
  omega
 | f + 1, i :: X, j :: Y, R, S, hf, fx, fy, hR, hS, h => by
  have hp := Y6 i (by
   intro n hn
   subst hn
   exact (fx n (by simp)).1)
  simp only [szI] at hf
  have fx' : FI X := fun n hn => fx n (by simp [hn])
  have fy' : FI Y := fun n hn => fy n (by simp [hn])
  rw [YU, YU] at h
  cases i with
  | sgn c m =>
   cases j with
   | sgn c' m' =>
    simp only [afZ, List.cons_append, List.nil_append, List.cons.injEq, Tk.sgn.injEq] at h
    obtain ⟨⟨rfl, rfl⟩, h⟩ := h
    obtain ⟨rfl, h2⟩ := akI f X Y R S (by omega) fx' fy' hR hS h
    exact ⟨rfl, h2⟩
   | nod n =>
    exfalso
    have := (fy n (by simp)).1
    simp only [afZ] at h
    rw [vD, this] at h
    simp at h
  | nod n =>
   obtain ⟨tn, fn⟩ := fx n (by simp)
   cases j with
   | sgn c m =>
    exfalso
    simp only [afZ] at h
    rw [vD, tn] at h
    simp at h
   | nod n' =>
    obtain ⟨tn', fn'⟩ := fy n' (by simp)
    simp only [afZ] at h
    rw [vD, vD, tn, tn'] at h
    simp only [Bool.false_eq_true, if_false, List.cons_append, List.append_assoc, List.nil_append, List.cons.injEq, Tk.opn.injEq] at h
    obtain ⟨⟨hk, hat⟩, h⟩ := h
    have r1 := Zi fn tn
    have r2 := Zi fn' tn'
    have hsz : szI (items n.Kids) ≤ f := by
     rw [We]
     simp only [ajN] at hf
     rw [yE, tn] at hf
     simp at hf
     omega
    rw [← aak, ← aak] at h
    obtain ⟨e1, e2⟩ := akI f (items n.Kids) (items n'.Kids) (Tk.cls :: (tkI X ++ R)) (Tk.cls :: (tkI Y ++ S)) hsz (acK r1.form) (acK r2.form) trivial trivial h
    have e3 := agE r1 r2 e1
    have e4 := aaJ fn fn' tn tn' hk hat e3
    subst e4
    simp only [List.cons.injEq, true_and] at e2
    obtain ⟨rfl, h2⟩ := akI f X Y R S (by omega) fx' fy' hR hS e2
    exact ⟨rfl, h2⟩
theorem auk {a b : List za} (ha : xw a) (hb : xw b) (h : tkL a = tkL b) : a = b := by
 rw [← aak, ← aak] at h
 exact agE ha hb (akI (szI (items a)) (items a) (items b) [] [] (Nat.le_refl _) (acK ha.form) (acK hb.form) trivial trivial (by simpa using h)).1
end Go.Proofs.YtclohbgnaopjfaaDoor
namespace Go.Proofs.YtclohbgnaopjfaaDoor
set_option linter.unusedSimpArgs false
set_option linter.unusedVariables false
open Go
theorem right_eq (n : za) (h : nwt n ≤ 1099511627776) : yG n = some (checkN n == 0) := by
 unfold yG
 rw [ady n h]
 rfl
end Go.Proofs.YtclohbgnaopjfaaDoor
namespace Go.Proofs.YtclohbgnaopjfaaDoor
set_option linter.unusedSimpArgs false
set_option linter.unusedVariables false
open Go
def agv (l : List za) (i r : Nat) : Prop := i ≤ l.length ∧ (∀ k, l[i]? = some k → r < kR k) ∧ (i = l.length → r = 0)
theorem Yo : ∀ (l : List za) (i r j s : Nat), agv l i r → agv l j s → zC (l.take i) + r = zC (l.take j) + s → i = j ∧ r = s
 | [], i, r, j, s, h1, h2, h => by
  obtain ⟨a1, _, a3⟩ := h1
  obtain ⟨b1, _, b3⟩ := h2
  simp only [List.length_nil, Nat.le_zero] at a1 b1
  subst a1; subst b1
  simp only [List.length_nil, forall_const] at a3 b3
  omega
 | k :: l, 0, r, 0, s, h1, h2, h => by
  simp only [List.take_zero, zC] at h
  omega
 | k :: l, 0, r, j + 1, s, h1, h2, h => by
  have := h1.2.1 k rfl
  simp only [List.take_zero, List.take_succ_cons, zC] at h
  omega
 | k :: l, i + 1, r, 0, s, h1, h2, h => by
  have := h2.2.1 k rfl
  simp only [List.take_zero, List.take_succ_cons, zC] at h
  omega
 | k :: l, i + 1, r, j + 1, s, h1, h2, h => by
  have g : ∀ i r, agv (k :: l) (i + 1) r → agv l i r := fun i r h => ⟨by simpa using h.1, fun y hy => h.2.1 y (by simpa using hy), fun e => h.2.2 (by simp [e])⟩
  simp only [List.take_succ_cons, zC] at h
  obtain ⟨e1, e2⟩ := Yo l i r j s (g _ _ h1) (g _ _ h2) (by omega)
  exact ⟨by omega, e2⟩
theorem At.fn {n : za} {q m a} (h : At n q m a) : ∀ {m' a'}, At n q m' a' → m = m' ∧ a = a' := by
 induction h with
 | nil n => intro m' a' h'; cases h'; exact ⟨rfl, rfl⟩
 | cons n i k q m a hi hn hk h ih =>
  intro m' a' h'
  cases h' with
  | cons _ _ k' _ _ a2 hi' _ _ h2 =>
   rw [hi] at hi'
   cases hi'
   obtain ⟨rfl, rfl⟩ := ih h2
   exact ⟨rfl, rfl⟩
def aeG (m : za) (idx off : Nat) : Prop := idx ≤ m.Kids.length ∧ (∀ k, m.Kids[idx]? = some k → off < kR k ∧ (0 < off → isT k = true)) ∧ (idx = m.Kids.length → off = 0)
theorem aeG.idx {m : za} {i r} (h : aeG m i r) : agv m.Kids i r := ⟨h.1, fun k hk => (h.2.1 k hk).1, h.2.2⟩
theorem aeG.le {m : za} {i r} (h : aeG m i r) : zC (m.Kids.take i) + r ≤ zC m.Kids := by
 rcases Nat.lt_or_ge i m.Kids.length with hi | hi
 ·have hk : m.Kids[i]? = some m.Kids[i] := List.getElem?_eq_getElem hi
  have h1 := (h.2.1 _ hk).1
  have h2 := aeq hk
  omega
 ·have := h.2.2 (by have := h.1; omega)
  have := abV m.Kids i
  omega
theorem aqg {n : za} {q m a} (h : At n q m a) : ∀ {q' m' a' i r i' r'}, At n q' m' a' → isT m = false → isT m' = false → aeG m i r → aeG m' i' r' → a + zC (m.Kids.take i) + r = a' + zC (m'.Kids.take i') + r' → q = q' ∧ i = i' ∧ r = r' := by
 induction h with
 | nil n =>
  intro q' m' a' i r i' r' h' hm hm' hs hs' e
  cases h' with
  | nil =>
   obtain ⟨e1, e2⟩ := Yo n.Kids i r i' r' hs.idx hs'.idx (by omega)
   exact ⟨rfl, e1, e2⟩
  | cons _ j k' q2 _ a2 hi' hn' hk' h2 =>
   exfalso
   have hle := hs'.le
   have hsz := h2.sizes
   have hk2 := Wm hk'
   have hlt : j < n.Kids.length := (List.getElem?_eq_some_iff.1 hi').1
   obtain ⟨e1, e2⟩ := Yo n.Kids i r j (1 + (a2 + zC (m'.Kids.take i') + r')) hs.idx ⟨by omega, fun k hk => by rw [hi'] at hk; cases hk; omega, fun e => by omega⟩ (by omega)
   subst e1
   have := (hs.2.1 k' hi').2 (by omega)
   rw [hk'] at this
   cases this
 | cons n j k q m a hi hn hk h ih =>
  intro q' m' a' i r i' r' h' hm hm' hs hs' e
  have hle := hs.le
  have hsz := h.sizes
  have hk2 := Wm hk
  have hlt : j < n.Kids.length := (List.getElem?_eq_some_iff.1 hi).1
  have I1 : agv n.Kids j (1 + (a + zC (m.Kids.take i) + r)) := ⟨by omega, fun k2 hk2' => by rw [hi] at hk2'; cases hk2'; omega, fun e => by omega⟩
  cases h' with
  | nil =>
   exfalso
   obtain ⟨e1, e2⟩ := Yo n.Kids _ _ _ _ I1 hs'.idx (by omega)
   subst e1
   have := (hs'.2.1 k hi).2 (by omega)
   rw [hk] at this
   cases this
  | cons _ j' k' q2 _ a2 hi' hn' hk' h2 =>
   have hle' := hs'.le
   have hsz' := h2.sizes
   have hk2' := Wm hk'
   have hlt' : j' < n.Kids.length := (List.getElem?_eq_some_iff.1 hi').1
   have I2 : agv n.Kids j' (1 + (a2 + zC (m'.Kids.take i') + r')) := ⟨by omega, fun k2 hk3 => by rw [hi'] at hk3; cases hk3; omega, fun e => by omega⟩
   obtain ⟨e1, e2⟩ := Yo n.Kids _ _ _ _ I1 I2 (by omega)
   subst e1
   rw [hi] at hi'
   cases hi'
   obtain ⟨e3, e4, e5⟩ := ih h2 hm hm' hs hs' (by omega)
   exact ⟨by rw [e3], e4, e5⟩
theorem auN {l : List It} (h : ∀ i ∈ l, anE i) (hs : szI l = 0) : l = [] := by
 cases l with
 | nil => rfl
 | cons i l =>
  have := Y6 i (h i (by simp))
  simp only [szI] at hs
  omega
theorem avb {A B C D : List It} (hn : ∀ i ∈ A ++ B, anE i) (h : A ++ B = C ++ D) (hs : szI A ≤ szI C) : ∃ M, C = A ++ M ∧ B = M ++ D := by
 rcases List.append_eq_append_iff.1 h with ⟨M, h1, h2⟩ | ⟨M, h1, h2⟩
 ·exact ⟨M, h1, h2⟩
 ·have : M = [] := by
   refine auN (fun i hi => hn i (by rw [h1]; simp [hi])) ?_
   rw [h1, V9] at hs
   omega
  subst this
  simp only [List.append_nil, List.nil_append] at h1 h2
  exact ⟨[], by simp [h1], by simpa using h2.symm⟩
theorem acB : ∀ (K : List za) (X R : List It), (∀ x ∈ K, qK x = true) → items K = X ++ R → ∃ idx off, zC (K.take idx) + off = szI X ∧ idx ≤ K.length ∧ (∀ k, K[idx]? = some k → off < kR k ∧ (0 < off → isT k = true)) ∧ (idx = K.length → off = 0)
 | [], X, R, _, h => by
  have : X = [] := by
   cases X with
   | nil => rfl
   | cons => cases h
  subst this
  exact ⟨0, 0, rfl, Nat.le_refl _, by simp, fun _ => rfl⟩
 | k :: K, X, R, hf, h => by
  have hn : ∀ i ∈ itN k ++ items K, anE i := ain (k :: K)
  rw [items] at h
  rcases Nat.lt_or_ge (szI X) (kR k) with hc | hc
  ·refine ⟨0, szI X, by simp [zC], by simp, ?_, by simp⟩
   intro k' hk'
   simp only [List.getElem?_cons_zero, Option.some.injEq] at hk'
   subst hk'
   refine ⟨hc, fun hp => ?_⟩
   cases ht : isT k with
   | true => rfl
   | false =>
    exfalso
    cases X with
    | nil => simp [szI] at hp
    | cons i X =>
     have : itN k = [It.nod k] := by unfold itN; rw [ht]; rfl
     rw [this] at h
     simp only [List.cons_append, List.nil_append, List.cons.injEq] at h
     rw [← h.1] at hc
     simp only [szI, ajN] at hc
     omega
  ·obtain ⟨M, h1, h2⟩ := avb hn h (by rw [akQ]; exact hc)
   obtain ⟨idx, off, e1, e2, e3, e4⟩ := acB K M R (fun x hx => hf x (by simp [hx])) h2
   refine ⟨idx + 1, off, ?_, by simpa using e2, fun k' hk' => e3 k' (by simpa using hk'), fun e => e4 (by simpa using e)⟩
   rw [h1, V9, akQ]
   simp only [List.take_succ_cons, zC]
   omega
structure Flat (n : za) (f t : Nat) (q : List Nat) (m : za) (a : Nat) (X Y Z : List It) : Prop where
 at_ : At n q m a
 nt : isT m = false
 it : items m.Kids = X ++ (Y ++ Z)
 sx : a + szI X = f
 sy : f + szI Y = t
theorem At.form {n : za} {q m a} (h : At n q m a) : qK n = true → qK m = true := by
 induction h with
 | nil n => exact id
 | cons n i k q m a hi hn hk h ih => exact fun hf => ih (anC hf hn k (List.mem_of_getElem? hi))
theorem ao0 {n : za} {q m a X R} (hf : qK n = true) (h : At n q m a) (hm : isT m = false) (e : items m.Kids = X ++ R) {s p} (hs : abW n s p) (hp : a + szI X = p) : s.Path = up q := by
 obtain ⟨q', m', a', idx', off', rfl, h', hm', b1, b2, b3, b4⟩ := hs
 obtain ⟨idx, off, c1, c2, c3, c4⟩ := acB m.Kids X R (Zi (h.form hf) hm).form e
 obtain ⟨rfl, _, _⟩ := aqg h h' hm hm' ⟨c2, c3, c4⟩ ⟨b1, b3, b4⟩ (by omega)
 rfl
theorem asu (b : List Int) : ∀ (suf pre : List Int) (i : Int), i = (pre.length : Int) → b.length = pre.length + suf.length → b.take pre.length = pre → wM b suf i = some (if pre ++ suf = b then .inr () else .inl false)
 | [], pre, i, hi, hl, ht => by
  have : pre = b := by
   rw [← ht, List.take_of_length_le]
   simp at hl; omega
  simp [wM, this]
 | y :: suf, pre, i, hi, hl, ht => by
  simp only [List.length_cons] at hl
  obtain ⟨x, hx⟩ : ∃ x, b[pre.length]? = some x := ⟨b[pre.length], List.getElem?_eq_getElem (by omega)⟩
  rw [wM, hi, xg hx]
  simp only [Option.bind_some]
  have htk : b.take (pre.length + 1) = pre ++ [x] := by
   rw [List.take_add_one, ht, hx]
   rfl
  by_cases hxy : y = x
  ·subst hxy
   simp only [bne_self_eq_false, Bool.false_eq_true, if_false]
   rw [asu b suf (pre ++ [y]) _ (by simp) (by simp; omega) (by simpa using htk)]
   simp
  ·have hn : ¬ pre ++ y :: suf = b := by
    intro h
    rw [← h] at hx
    simp at hx
    exact hxy hx
   have g : (y != x) = true := by simpa using hxy
   rw [if_pos g, if_neg hn]
theorem auG (a b : List Int) (h : a.length ≤ 9223372036854775807) : slices_Equal_int a b = some (decide (a = b)) := by
 unfold slices_Equal_int
 by_cases hl : a.length = b.length
 ·simp only [hl, bne_self_eq_false, Bool.false_eq_true, if_false]
  rw [wz (by omega), asu b a [] 0 rfl (by simp [hl]) (by simp)]
  by_cases e : a = b <;> simp [e]
 ·have h1 : ((a.length : Int) != (b.length : Int)) = true := by simp; omega
  have h2 : ¬ a = b := fun e => hl (by rw [e])
  rw [if_pos h1]
  simp [h2]
theorem abW.len {n : za} {s p} (h : abW n s p) : s.Path.length ≤ p := by
 obtain ⟨q, m, a, idx, off, rfl, h1, _, _, h2, _⟩ := h
 rw [Jp]
 have := h1.len
 omega
structure RN (n : za) : Prop where
 ok : checkN n = 0
 nt : isT n = false
 wt : nwt n ≤ 549755813888
theorem abK {n : za} (h : checkN n = 0) : qK n = true ∧ yx n ≤ 40 ∧ kR n ≤ 4000 := by
 unfold checkN at h
 cases hf : qK n with
 | false => rw [hf] at h; simp at h
 | true =>
  rw [hf] at h
  simp only [Bool.true_eq_false, if_false] at h
  refine ⟨rfl, ?_, ?_⟩
  ·by_cases hd : 40 < yx n
   ·rw [if_pos hd] at h; cases h
   ·omega
  ·by_cases hd : 40 < yx n
   ·rw [if_pos hd] at h; cases h
   ·rw [if_neg hd] at h
    by_cases hs : 4000 < kR n
    ·rw [if_pos hs] at h; cases h
    ·omega
theorem RN.form {n : za} (h : RN n) : qK n = true := (abK h.ok).1
theorem anJ {n : za} (hn : RN n) {f t q m a X Y Z} (h : Flat n f t q m a X Y Z) : WN n (f : Int) (t : Int) = some (⟨up q, m, (szI X : Int), ((szI X + szI Y : Nat) : Int)⟩, 0) := by
 obtain ⟨h1, h2, h3, h4, h5⟩ := h
 have hw := hn.wt
 have z1 := h1.sizes
 have z2 : szI X + (szI Y + szI Z) = zC m.Kids := by rw [← We, h3, V9, V9]
 have z3 := kK n.Kids
 have z4 := kM n
 have z5 := h1.len
 obtain ⟨s1, e1, o1⟩ := J7 hn.nt (by omega) f (by omega)
 obtain ⟨s2, e2, o2⟩ := J7 hn.nt (by omega) t (by omega)
 have p1 := ao0 hn.form h1 h2 (R := Y ++ Z) h3 o1 h4
 have p2 := ao0 hn.form h1 h2 (X := X ++ Y) (R := Z) (by rw [h3, List.append_assoc]) o2 (by rw [V9]; omega)
 have l1 := o1.len
 have g0 : (n.Kind == ([116, 101, 120, 116] : Str)) = false := hn.nt
 have g1 : decide ((t : Int) < (f : Int)) = false := by simp; omega
 unfold WN
 rw [g0]
 simp only [Bool.false_eq_true, if_false]
 rw [right_eq n (by omega), hn.ok]
 simp only [Option.bind_some, beq_self_eq_true, Bool.not_true, Bool.false_eq_true, if_false]
 rw [e1]
 simp only [Option.bind_some, bne_self_eq_false, Bool.false_eq_true, if_false]
 rw [e2]
 simp only [Option.bind_some, bne_self_eq_false, Bool.false_eq_true, if_false, g1]
 rw [auG _ _ (by omega), p1, p2]
 simp only [Option.bind_some, decide_true, Bool.not_true, Bool.false_eq_true, if_false]
 rw [start_eq h1 h2 (by omega), Vp h1 h2 (by omega)]
 simp only [Option.bind_some]
 unfold wW
 simp only [bne_self_eq_false, Bool.false_eq_true, if_false, Option.bind_some]
 rw [qd (by omega), qd (by omega)]
 congr 2
 have e3 : (f : Int) - (a : Int) = (szI X : Int) := by omega
 have e4 : (t : Int) - (a : Int) = ((szI X + szI Y : Nat) : Int) := by omega
 rw [e3, e4]
end Go.Proofs.YtclohbgnaopjfaaDoor
namespace Go.Proofs.YtclohbgnaopjfaaDoor
set_option linter.unusedSimpArgs false
set_option linter.unusedVariables false
open Go
theorem al5 : ∀ (a : List za) (k k' : za) (b : List za), vE (a ++ k :: b) → (∀ z, wC z k' = wC z k) → (∀ z, wC k' z = wC k z) → vE (a ++ k' :: b)
 | [], k, k', b, h, _, h2 => ag1 k k' b h h2
 | [x], k, k', b, h, h1, h2 => ⟨by rw [h1]; exact h.1, ag1 k k' b h.2 h2⟩
 | x :: y :: a, k, k', b, h, h1, h2 => ⟨h.1, al5 (y :: a) k k' b h.2 h1 h2⟩
theorem adp {x : za} (h : isT x = false) (z : za) : wC z x = false ∧ wC x z = false := by
 unfold wC
 rw [h]
 simp
theorem ag4 {x : za} (hx : isT x = false) (fx : qK x = true) {n : za} {q m a} (h : At n q m a) : qK n = true → qK (jh q n x) = true := by
 induction h with
 | nil n => exact fun _ => fx
 | cons n i k q m a hi hn hk h ih =>
  intro hf
  have hl := (List.getElem?_eq_some_iff.1 hi).1
  have hr := Zi hf hn
  have hkf := hr.form k (List.mem_of_getElem? hi)
  have e := K5 hi
  rw [kW hi]
  refine ajr hf hn ⟨fun y hy => ?_, ?_⟩
  ·rcases List.mem_or_eq_of_mem_set hy with hy | rfl
   ·exact hr.form y hy
   ·exact ih hkf
  ·rw [List.set_eq_take_append_cons_drop, if_pos hl]
   have ha := hr.adj
   rw [e] at ha
   have h1 := Vi q k x hk hx
   exact al5 _ k _ _ ha (fun z => by rw [(adp h1 z).1, (adp hk z).1]) (fun z => by rw [(adp h1 z).2, (adp hk z).2])
theorem amG {l : List za} {i : Nat} {k : za} (h : l[i]? = some k) : vg l = max (vg (l.take i)) (max (yV k) (vg (l.drop (i + 1)))) := by
 conv => lhs; rw [K5 h]
 rw [aac, vg]
theorem At.depth {n : za} {q m a} (h : At n q m a) : q.length + yV m ≤ yV n := by
 induction h with
 | nil n => simp
 | cons n i k q m a hi hn hk h ih =>
  have := amG hi
  rw [xY n]
  simp only [List.length_cons]
  omega
theorem asw {x : za} {n : za} {q m a} (h : At n q m a) (h1 : x.Kind = m.Kind) (h2 : x.zh = m.zh) (h3 : x.Text = m.Text) (h4 : x.Marks = m.Marks) : (jh q n x).Kind = n.Kind ∧ (jh q n x).zh = n.zh ∧ (jh q n x).Text = n.Text ∧ (jh q n x).Marks = n.Marks := by
 cases h with
 | nil n => exact ⟨h1, h2, h3, h4⟩
 | cons n i k q m a hi hn hk h => rw [kW hi]; exact ⟨rfl, rfl, rfl, rfl⟩
theorem WG {l : List za} {i : Nat} {k : za} (h : l[i]? = some k) : tkL l = tkL (l.take i) ++ (tkN k ++ tkL (l.drop (i + 1))) := by
 conv => lhs; rw [K5 h]
 rw [afY, tkL]
theorem av2 {n : za} {q m a} (h : At n q m a) : ∃ P S, P.length = a ∧ tkL n.Kids = P ++ (tkL m.Kids ++ S) ∧ ∀ x : za, isT x = false → x.Kind = m.Kind → x.zh = m.zh → tkL (jh q n x).Kids = P ++ (tkL x.Kids ++ S) := by
 induction h with
 | nil n => exact ⟨[], [], rfl, by simp, fun x _ _ _ => by simp [jh]⟩
 | cons n i k q m a hi hn hk h ih =>
  obtain ⟨P, S, h1, h2, h3⟩ := ih
  have hl := (List.getElem?_eq_some_iff.1 hi).1
  refine ⟨tkL (n.Kids.take i) ++ (Tk.opn k.Kind k.zh :: P), S ++ (Tk.cls :: tkL (n.Kids.drop (i + 1))), ?_, ?_, fun x hx hk1 hk2 => ?_⟩
  ·simp only [List.length_append, List.length_cons, ZM]; omega
  ·rw [WG hi, vD, if_neg (by simp [hk]), h2]
   simp only [List.append_assoc, List.cons_append, List.nil_append]
  ·have hkk : (jh q k x).Kind = k.Kind ∧ (jh q k x).zh = k.zh := by
    cases h with
    | nil k => exact ⟨hk1, hk2⟩
    | cons k i' k' q m a hi' hn' hk' h => rw [kW hi']; exact ⟨rfl, rfl⟩
   have hnt := Vi q k x hk hx
   rw [kW hi]
   simp only
   rw [List.set_eq_take_append_cons_drop, if_pos hl, afY, tkL, vD, if_neg (by simp [hnt]), h3 x hx hk1 hk2, hkk.1, hkk.2]
   simp only [List.append_assoc, List.cons_append, List.nil_append]
theorem aiR : ∀ (ls : List (List za)) (i : Int) (s : Nat), s + ls.flatten.length ≤ 1099511627776 → qj ls i (s : Int) = some ((s + ls.flatten.length : Nat) : Int)
 | [], i, s, _ => by simp [qj]
 | y :: ls, i, s, h => by
  simp only [List.flatten_cons, List.length_append] at h
  have e : w64 ((s : Int) + (y.length : Int)) = ((s + y.length : Nat) : Int) := by rw [qd (by omega)]; omega
  have g : decide (((s + y.length : Nat) : Int) < 0) = false := by simp; omega
  rw [qj, e, g]
  simp only [Bool.false_eq_true, if_false]
  rw [aiR ls _ _ (by omega)]
  simp only [List.flatten_cons, List.length_append, Nat.add_assoc]
theorem aiT : ∀ (ls : List (List za)) (i : Int) (o : List za), o.length + ls.flatten.length ≤ 1099511627776 → qo ls i o = some (o ++ ls.flatten)
 | [], i, o, _ => by simp [qo]
 | y :: ls, i, o, h => by
  simp only [List.flatten_cons, List.length_append] at h
  rw [qo, ko (by omega)]
  simp only [Option.bind_some]
  rw [aiT ls _ _ (by rw [List.length_append]; omega)]
  simp
theorem aqv (ls : List (List za)) (hl : ls.length ≤ 9223372036854775807) (h : ls.flatten.length ≤ 1099511627776) : kU ls = some ls.flatten := by
 unfold kU
 have h0 := aiR ls 0 0 (by omega)
 have h1 := aiT ls 0 [] (by rw [List.length_nil]; omega)
 have e : ((0 : Nat) : Int) = 0 := rfl
 rw [e] at h0
 rw [wz hl, h0]
 simp only [Option.bind_some]
 unfold ji
 rw [wz (by omega)]
 simp only [Option.bind_some]
 rw [wz hl, h1]
 simp
theorem auO {l : List za} (h : xw l) : checkN (⟨[120], [], [], [], l⟩ : za) ≠ 2 := by
 have hf : qK (⟨[120], [], [], [], l⟩ : za) = true := by
  have ht : isT (⟨[120], [], [], [], l⟩ : za) = false := rfl
  have h1 : isName [120] = true := by decide +kernel
  have h3 : Z6 [] = true := rfl
  rw [jg, if_neg (by simp [ht])]
  simp [h1, h3, am3 h]
 unfold checkN
 rw [hf]
 simp only [Bool.true_eq_false, if_false]
 split
 ·simp
 ·split <;> simp
end Go.Proofs.YtclohbgnaopjfaaDoor
namespace Go.Proofs.YtclohbgnaopjfaaDoor
set_option linter.unusedSimpArgs false
set_option linter.unusedVariables false
open Go
end Go.Proofs.YtclohbgnaopjfaaDoor
namespace Go.Proofs.YtclohbgnaopjfaaDoor
set_option linter.unusedSimpArgs false
set_option linter.unusedVariables false
open Go
def anS : Tk → Nat
 | .sgn _ m => 10 + xK m
 | .opn k a => 2 + k.length + wR a
 | .cls => 0
def tw : List Tk → Nat
 | [] => 0
 | t :: l => anS t + tw l
theorem Xa : ∀ a b : List Tk, tw (a ++ b) = tw a + tw b
 | [], b => by simp [tw]
 | x :: a, b => by simp only [List.cons_append, tw, Xa a b]; omega
theorem afV (m : List Str) : ∀ l : List Int, tw (l.map fun c => Tk.sgn c m) = l.length * (10 + xK m)
 | [] => by simp [tw]
 | c :: l => by simp only [List.map_cons, tw, anS, afV m l, List.length_cons, Nat.add_mul]; omega
theorem acM : ∀ l : List Int, (zN l).length ≤ 4 * l.length
 | [] => by simp [zN]
 | c :: l => by
  rw [Jy, List.length_append, List.length_cons]
  have := (aqI c).2
  have := acM l
  omega
theorem aj8 : ∀ l : List za, (∀ n ∈ l, nwt n ≤ tw (tkN n)) → zR l ≤ tw (tkL l)
 | [], _ => by simp [zR]
 | n :: l, h => by
  have h1 := h n (by simp)
  have h2 := aj8 l fun x hx => h x (by simp [hx])
  simp only [zR, tkL, Xa]; omega
theorem auS (n : za) : qK n = true → nwt n ≤ tw (tkN n) := by
 induction n using za.ind with
 | h n ih =>
  intro hf
  rw [qI, vD]
  cases ht : isT n with
  | true =>
   obtain ⟨h1, h2, h3, h4, h5⟩ := ZU hf ht
   have hk := ac8 ht
   have hr := acM (runes n.Text)
   rw [Jb h2] at hr
   have hl := ak8 h1
   rw [← yP] at hl
   simp only [if_true]
   rw [afV, h4, h5, hk, Nat.mul_add]
   have : xK n.Marks ≤ (runes n.Text).length * xK n.Marks := Nat.le_mul_of_pos_left _ (by omega)
   simp only [wR, zR, jK, List.length_cons, List.length_nil]
   omega
  | false =>
   have hr := Zi hf ht
   have h1 := aj8 n.Kids fun x hx => ih x hx (hr.form x hx)
   rw [jg, if_neg (by simp [ht])] at hf
   simp only [Bool.and_eq_true, decide_eq_true_eq] at hf
   simp only [Bool.false_eq_true, if_false, tw, anS, Xa]
   rw [hf.1.1.1.2, hf.1.1.2]
   simp only [xK, List.length_nil]
   omega
theorem avq {l : List za} (h : xw l) : zR l ≤ tw (tkL l) := aj8 l fun n hn => auS n (h.form n hn)
theorem ac9 (W : Nat) : ∀ l : List za, (∀ n ∈ l, tw (tkN n) ≤ nwt n * (W + 10)) → tw (tkL l) ≤ zR l * (W + 10)
 | [], _ => by simp [tkL, tw]
 | n :: l, h => by
  have h1 := h n (by simp)
  have h2 := ac9 W l fun x hx => h x (by simp [hx])
  simp only [zR, tkL, Xa, Nat.add_mul]; omega
theorem au6 (W : Nat) (n : za) : nwt n ≤ W → tw (tkN n) ≤ nwt n * (W + 10) := by
 induction n using za.ind with
 | h n ih =>
  intro hw
  have e := qI n
  rw [vD]
  cases ht : isT n with
  | true =>
   simp only [if_true]
   rw [afV, yP]
   have := ajI n.Text
   exact Nat.mul_le_mul (by omega) (by omega)
  | false =>
   have h1 := ac9 W n.Kids fun x hx => ih x hx (by have := jI hx; omega)
   simp only [Bool.false_eq_true, if_false, tw, anS, Xa]
   have h2 : (2 + n.Kind.length + wR n.zh) ≤ (2 + n.Kind.length + wR n.zh) * (W + 10) := Nat.le_mul_of_pos_right _ (by omega)
   have h3 : (2 + n.Kind.length + wR n.zh + zR n.Kids) * (W + 10) ≤ nwt n * (W + 10) := Nat.mul_le_mul_right _ (by omega)
   rw [Nat.add_mul] at h3
   omega
theorem apf {W : Nat} {l : List za} (h : zR l ≤ W) : tw (tkL l) ≤ W * (W + 10) := by
 have h1 := ac9 W l fun n hn => au6 W n (by have := jI hn; omega)
 have := Nat.mul_le_mul_right (W + 10) h
 omega
def dpT : Nat → List Tk → Nat
 | _, [] => 0
 | d, .opn _ _ :: l => max (d + 1) (dpT (d + 1) l)
 | d, .cls :: l => dpT (d - 1) l
 | d, .sgn _ _ :: l => dpT d l
theorem al9 (m : List Str) (d : Nat) (R : List Tk) : ∀ l : List Int, dpT d ((l.map fun c => Tk.sgn c m) ++ R) = dpT d R
 | [] => rfl
 | c :: l => by rw [List.map_cons, List.cons_append, dpT, al9 m d R l]
def dOf (d x : Nat) : Nat := if x = 0 then 0 else d + x
theorem akC (d : Nat) : ∀ (l : List za) (R : List Tk), (∀ n ∈ l, ∀ R, dpT d (tkN n ++ R) = max (dOf d (yx n)) (dpT d R)) → dpT d (tkL l ++ R) = max (dOf d (wE l)) (dpT d R)
 | [], R, _ => by simp [tkL, wE, dOf]
 | n :: l, R, h => by
  rw [tkL, List.append_assoc, h n (by simp), akC d l R fun x hx => h x (by simp [hx]), wE]
  unfold dOf
  split <;> split <;> split <;> omega
theorem asr (n : za) : ∀ (d : Nat) (R : List Tk), dpT d (tkN n ++ R) = max (dOf d (yx n)) (dpT d R) := by
 induction n using za.ind with
 | h n ih =>
  intro d R
  rw [vD, QJ]
  cases ht : isT n with
  | true =>
   simp only [if_true]
   rw [al9]
   simp [dOf]
  | false =>
   simp only [Bool.false_eq_true, if_false, List.cons_append, List.append_assoc, List.nil_append]
   rw [dpT, akC (d + 1) n.Kids _ fun x hx => ih x hx (d + 1), dpT, Nat.add_sub_cancel]
   unfold dOf
   rw [if_neg (show ¬ (wE n.Kids + 1 = 0) by omega)]
   split <;> omega
theorem au0 (l : List za) : dpT 0 (tkL l) = wE l := by
 have := akC 0 l [] fun x _ => asr x 0
 rw [List.append_nil, dpT] at this
 unfold dOf at this
 split at this
 ·rename_i h0; rw [h0]; omega
 ·omega
structure TD (n : za) (T : List Tk) : Prop where
 ok : checkN n = 0
 nt : isT n = false
 tk : tkL n.Kids = T
def wD (n : za) (T : List Tk) : Nat := n.Kind.length + wR n.zh + tw T
theorem apY {n : za} (h : qK n = true) (ht : isT n = false) : n.Text = [] ∧ n.Marks = [] := by
 rw [jg, if_neg (by simp [ht])] at h
 simp only [Bool.and_eq_true, decide_eq_true_eq] at h
 exact ⟨h.1.1.1.2, h.1.1.2⟩
theorem TD.form {n T} (h : TD n T) : qK n = true := (abK h.ok).1
theorem TD.row {n T} (h : TD n T) : xw n.Kids := Zi h.form h.nt
theorem avl {n : za} {T : List Tk} (hf : qK n = true) (ht : isT n = false) (hT : tkL n.Kids = T) : nwt n ≤ 2 + wD n T := by
 obtain ⟨h1, h2⟩ := apY hf ht
 have := avq (Zi hf ht)
 rw [hT] at this
 rw [qI, h1, h2]
 unfold wD
 simp only [xK, List.length_nil]
 omega
theorem TD.wt {n T} (h : TD n T) : nwt n ≤ 2 + wD n T := avl h.form h.nt h.tk
theorem TD.rn {n T} (h : TD n T) (hw : wD n T ≤ 100000000) : RN n := ⟨h.ok, h.nt, by have := h.wt; omega⟩
theorem TD.len {n T} (h : TD n T) : T.length = zC n.Kids := by rw [← h.tk, ZM]
theorem TD.size {n T} (h : TD n T) : kR n = 2 + T.length := by rw [Wm h.nt, h.len]
theorem TD.small {n T} (h : TD n T) : T.length ≤ 3998 := by
 have := (abK h.ok).2.2
 rw [h.size] at this
 omega
theorem TD.ext {a b T} (ha : TD a T) (hb : TD b T) (hk : a.Kind = b.Kind) (hat : a.zh = b.zh) : a = b :=
 aaJ ha.form hb.form ha.nt hb.nt hk hat (auk ha.row hb.row (by rw [ha.tk, hb.tk]))
theorem amW {n : za} (hf : qK n = true) (ht : isT n = false) {T : List Tk} (hT : tkL n.Kids = T) : checkN n = if 40 < dpT 0 T + 1 then 4 else if 4000 < 2 + T.length then 5 else 0 := by
 have h1 : yx n = dpT 0 T + 1 := by rw [QJ, if_neg (by simp [ht]), ← au0, hT]
 have h2 : kR n = 2 + T.length := by rw [Wm ht, ← ZM, hT]
 unfold checkN
 rw [hf, if_neg (show ¬ (true = false) by simp), h1, h2]
theorem TD.of {n : za} {T : List Tk} (hf : qK n = true) (ht : isT n = false) (hT : tkL n.Kids = T) (hd : dpT 0 T ≤ 39) (hl : T.length ≤ 3998) : TD n T :=
 ⟨by rw [amW hf ht hT, if_neg (by omega), if_neg (by omega)], ht, hT⟩
theorem TD.deep {n T} (h : TD n T) : dpT 0 T ≤ 39 := by
 have := h.ok
 rw [amW h.form h.nt h.tk] at this
 split at this
 ·cases this
 ·omega
theorem aqO {S : List Tk} (h : asi S) (R : List Tk) : asi (S ++ Tk.cls :: R) := by
 cases S with
 | nil => trivial
 | cons t S => cases t <;> first | trivial | exact h.elim
theorem at_end {n : za} {q m a} (h : At n q m a) : ∃ P S, P.length = a ∧ tkL n.Kids = P ++ (tkL m.Kids ++ S) ∧ asi S := by
 induction h with
 | nil n => exact ⟨[], [], rfl, by simp, trivial⟩
 | cons n i k q m a hi hn hk h ih =>
  obtain ⟨P, S, h1, h2, h3⟩ := ih
  refine ⟨tkL (n.Kids.take i) ++ (Tk.opn k.Kind k.zh :: P), S ++ (Tk.cls :: tkL (n.Kids.drop (i + 1))), ?_, ?_, aqO h3 _⟩
  ·simp only [List.length_append, List.length_cons, ZM]; omega
  ·rw [WG hi, vD, if_neg (by simp [hk]), h2]
   simp only [List.append_assoc, List.cons_append, List.nil_append]
theorem atT {n : za} (hn : RN n) (hw : nwt n ≤ 1000000000) {f t q m a X Y Z} (h : Flat n f t q m a X Y Z) {l : List za} (hl : ∀ x ∈ l, qK x = true) (hlw : zR l ≤ 1000000000) :
  ∃ K N, N = jh q n ({ m with Kids := K } : za) ∧ xw K ∧ items K = X ++ (items l ++ Z) ∧ qK N = true ∧ isT N = false ∧ KZ n (f : Int) (t : Int) l = some (if checkN N = 0 then (N, 0) else (aqJ, checkN N)) := by
 have hwh := anJ hn h
 obtain ⟨h1, h2, h3, h4, h5⟩ := h
 have hr := Zi (h1.form hn.form) h2
 have w1 := h1.wt
 have w2 := kM m
 obtain ⟨A, A', s1, a1, a2, a3, a4, a5, a6, a7, a8⟩ := alV hr (by omega) (X := X) (Y := Y ++ Z) h3
 obtain ⟨B', B, s2, b1, b2, b3, b4, b5, b6, b7, b8⟩ := alV hr (by omega) (X := X ++ Y) (Y := Z) (by rw [h3, List.append_assoc])
 have hall : ∀ x ∈ A ++ (l ++ B), qK x = true := by
  intro x hx
  rcases List.mem_append.1 hx with hx | hx
  ·exact a1.form x hx
  ·rcases List.mem_append.1 hx with hx | hx
   ·exact hl x hx
   ·exact b2.form x hx
 obtain ⟨kr, ki⟩ := aiS hall
 obtain ⟨lr, li⟩ := aiS hl
 have kw := ahO (A ++ (l ++ B))
 rw [kN, kN] at kw
 rw [Wo, Wo, a3, b4] at ki
 have hlw2 := qy (A ++ (l ++ B))
 rw [kN, kN] at hlw2
 generalize hK : yY (A ++ (l ++ B)) = K at *
 have hx : isT ({ m with Kids := K } : za) = false := h2
 have fx := ajr (h1.form hn.form) h2 kr
 have wx : nwt ({ m with Kids := K } : za) + zR m.Kids = nwt m + zR K := by
  rw [qI, qI m]; simp only; omega
 have hrw := avv (x := ({ m with Kids := K } : za)) h1
 have hfN := ag4 hx fx h1 hn.form
 have htN := Vi q n _ hn.nt hx
 refine ⟨K, _, rfl, kr, ki, hfN, htN, ?_⟩
 have g2 := auO lr
 have hjw := ahO l
 have hxw : nwt (⟨[120], [], [], [], yY l⟩ : za) ≤ 1099511627776 := by
  rw [qI]; simp only [xK, wR, List.length_cons, List.length_nil]; omega
 unfold KZ
 rw [hwh]
 simp only [Option.bind_some]
 have z2 : ((0 : Int) == 2) = false := rfl
 simp only [z2, Bool.false_eq_true, if_false]
 rw [amt l (by omega)]
 simp only [Option.bind_some]
 rw [ady _ hxw]
 have g2' : (checkN (⟨[120], [], [], [], yY l⟩ : za) == 2) = false := by simpa using g2
 simp only [Option.bind_some, g2', Bool.false_eq_true, if_false, bne_self_eq_false]
 rw [s1]
 simp only [Option.bind_some]
 rw [V9] at s2
 rw [s2]
 simp only [Option.bind_some]
 have hflat : ([A, l, B] : List (List za)).flatten = A ++ (l ++ B) := by simp
 rw [aqv _ (by simp) (by rw [hflat]; omega), hflat]
 simp only [Option.bind_some]
 rw [amt _ (by rw [kN, kN]; omega), hK]
 simp only [Option.bind_some]
 rw [aoG h1 hn.nt (by omega)]
 simp only [Option.bind_some]
 rw [ady _ (by omega)]
 simp only [Option.bind_some]
 by_cases hc : checkN (jh q n ({ m with Kids := K } : za)) = 0
 ·rw [hc]; simp
 ·simp [hc]
end Go.Proofs.YtclohbgnaopjfaaDoor
namespace Go.Proofs.YtclohbgnaopjfaaDoor
set_option linter.unusedSimpArgs false
set_option linter.unusedVariables false
open Go Classical
theorem JM : ∀ x : Str, Op.bytesLess x x = false
 | [] => rfl
 | a :: x => by
  have h : ¬ a < a := by rw [UInt8.lt_iff_toNat_lt]; omega
  simp [Op.bytesLess, JM x]
theorem agq : ∀ x y z : Str, Op.bytesLess x y = true → Op.bytesLess y z = true → Op.bytesLess x z = true
 | _, [], _, h, _ => by simp [Op.bytesLess] at h
 | _, _ :: _, [], _, h => by simp [Op.bytesLess] at h
 | [], _ :: _, _ :: _, _, _ => rfl
 | a :: x, b :: y, c :: z, h1, h2 => by
  simp only [Op.bytesLess, Bool.or_eq_true, Bool.and_eq_true, decide_eq_true_eq, beq_iff_eq, UInt8.lt_iff_toNat_lt] at h1 h2 ⊢
  rcases h1 with h1 | ⟨rfl, h1⟩
  ·rcases h2 with h2 | ⟨rfl, h2⟩
   ·exact .inl (by omega)
   ·exact .inl h1
  ·rcases h2 with h2 | ⟨rfl, h2⟩
   ·exact .inl h2
   ·exact .inr ⟨rfl, agq x y z h1 h2⟩
theorem aqT : ∀ x y : Str, Op.bytesLess x y = true ∨ x = y ∨ Op.bytesLess y x = true
 | [], [] => .inr (.inl rfl)
 | [], _ :: _ => .inl rfl
 | _ :: _, [] => .inr (.inr rfl)
 | a :: x, b :: y => by
  simp only [Op.bytesLess, Bool.or_eq_true, Bool.and_eq_true, decide_eq_true_eq, beq_iff_eq, UInt8.lt_iff_toNat_lt, List.cons.injEq]
  by_cases h : a = b
  ·subst h
   rcases aqT x y with h1 | h1 | h1
   ·exact .inl (.inr ⟨rfl, h1⟩)
   ·exact .inr (.inl ⟨rfl, h1⟩)
   ·exact .inr (.inr (.inr ⟨rfl, h1⟩))
  ·have : a.toNat ≠ b.toNat := fun e => h (UInt8.toNat_inj.1 e)
   rcases Nat.lt_or_gt_of_ne this with h1 | h1
   ·exact .inl (.inl h1)
   ·exact .inr (.inr (.inl h1))
theorem arP {x y : Str} (h : Op.bytesLess x y = true) : Op.bytesLess y x = false := by
 cases h2 : Op.bytesLess y x with
 | false => rfl
 | true => have := agq x y x h h2; rw [JM] at this; cases this
theorem ak7 {x : Str} (h : isName x = true) : x.length ≤ 20 := by
 unfold isName at h
 simp only [Bool.and_eq_true, decide_eq_true_eq] at h
 have := h.1.2
 omega
abbrev BL (a b : Str) : Prop := Op.bytesLess a b = true
theorem abM : ∀ (l : List Str) (last : Option Str), yO last l = true ↔ (∀ x ∈ l, isName x = true) ∧ l.Pairwise BL ∧ ∀ x, last = some x → ∀ y ∈ l, BL x y
 | [], last => by simp [yO]
 | y :: l, none => by
  rw [K9, Bool.and_eq_true, Bool.and_eq_true, abM l (some y)]
  simp only [List.mem_cons, forall_eq_or_imp, List.pairwise_cons, Option.some.injEq, forall_eq', and_true, reduceCtorEq, false_implies, implies_true]
  constructor
  ·rintro ⟨h1, h3, h4, h5⟩
   exact ⟨⟨h1, h3⟩, h5, h4⟩
  ·rintro ⟨⟨h1, h3⟩, h5, h4⟩
   exact ⟨h1, h3, h4, h5⟩
 | y :: l, some x => by
  rw [K9, Bool.and_eq_true, Bool.and_eq_true, abM l (some y)]
  have key : (!(Op.bytesLess y x || y == x)) = true ↔ BL x y := by
   simp only [Bool.not_eq_true', Bool.or_eq_false_iff, beq_eq_false_iff_ne]
   constructor
   ·rintro ⟨h1, h2⟩
    rcases aqT x y with h | h | h
    ·exact h
    ·exact absurd h.symm h2
    ·rw [h1] at h; cases h
   ·intro h
    exact ⟨arP h, fun e => by subst e; rw [BL, JM] at h; cases h⟩
  simp only [key, List.mem_cons, forall_eq_or_imp, List.pairwise_cons, Option.some.injEq, forall_eq']
  constructor
  ·rintro ⟨⟨h1, h2⟩, h3, h4, h5⟩
   exact ⟨⟨h1, h3⟩, ⟨h5, h4⟩, h2, fun z hz => agq _ _ _ h2 (h5 z hz)⟩
  ·rintro ⟨⟨h1, h3⟩, ⟨h5, h4⟩, h6, _⟩
   exact ⟨⟨h1, h6⟩, h3, h4, h5⟩
theorem ak9 (l : List Str) : Z6 l = true ↔ (∀ x ∈ l, isName x = true) ∧ l.Pairwise BL := by
 unfold Z6
 rw [abM]
 simp
end Go.Proofs.YtclohbgnaopjfaaDoor
namespace Go.Proofs.YtclohbgnaopjfaaDoor
set_option linter.unusedSimpArgs false
set_option linter.unusedVariables false
open Go Classical
section
variable (k : Int) (x : Str) (a b : Nat)
end
end Go.Proofs.YtclohbgnaopjfaaDoor
namespace Go.Proofs.YtclohbgnaopjfaaDoor
set_option linter.unusedSimpArgs false
set_option linter.unusedVariables false
open Go Classical
def RgOk (i : Nat) (o : List zD) : Prop := o.length ≤ i ∧ ∀ r ∈ o, 0 ≤ r.Pos ∧ 1 ≤ r.Old ∧ r.Pos + r.Old ≤ (i : Int)
theorem RgOk.mono {i j : Nat} {o : List zD} (h : RgOk i o) (hij : i ≤ j) : RgOk j o := ⟨by have := h.1; omega, fun r hr => by have := h.2 r hr; omega⟩
end Go.Proofs.YtclohbgnaopjfaaDoor
namespace Go.Proofs.YtclohbgnaopjfaaDoor
set_option linter.unusedSimpArgs false
set_option linter.unusedVariables false
open Go
abbrev xN (l : List za) : za := ⟨[120], [], [], [], l⟩
theorem awC (l : List za) : nwt (xN l) = zR l + 3 := by
 rw [qI]; simp [xK, wR]; omega
end Go.Proofs.YtclohbgnaopjfaaDoor
namespace Go.Proofs.YtclohbgnaopjfaaDoor
set_option linter.unusedSimpArgs false
set_option linter.unusedVariables false
open Go
def afb (f t : Int) : Bool := decide (0 ≤ f) && (decide (f ≤ t) && decide (t ≤ 1048576))
def srB (s : zx) : Bool :=
 if s.Kind = 114 then afb s.From s.To && (qK (xN s.kG) && (s.Name == [] && s.Value == []))
 else if s.Kind = 97 then decide (-1 ≤ s.From) && (decide (s.From ≤ 1048576) && (decide (s.To = 0) && (isName s.Name && (isValue s.Value && s.kG.isEmpty))))
 else if s.Kind = 109 ∨ s.Kind = 117 then afb s.From s.To && (isName s.Name && (s.kG.isEmpty && s.Value == []))
 else false
theorem aud (f t : Int) : ((if (decide (f ≥ (0 : Int))) = true then if (decide (f ≤ t)) = true then some (decide (t ≤ (1048576 : Int))) else some false else some false) : Option Bool) = some (afb f t) := by
 unfold afb
 by_cases a : f ≥ 0
 ·by_cases b : f ≤ t
  ·have : (0 : Int) ≤ f := a
   simp [b, this]
  ·have : (0 : Int) ≤ f := a
   simp [b, this]
 ·have : ¬ (0 : Int) ≤ f := a
  simp [this]
theorem ap2 (n : za) : (checkN n != (2 : Int)) = qK n := by
 unfold checkN
 cases qK n with
 | false => rfl
 | true =>
  simp only [Bool.true_eq_false, if_false]
  split
  ·rfl
  ·split <;> rfl
theorem aet {α : Type} (l : List α) : ((l.length : Int) == (0 : Int)) = l.isEmpty := by
 cases l with
 | nil => rfl
 | cons x l =>
  simp only [List.length_cons, List.isEmpty_cons, beq_eq_false_iff_ne, ne_eq]
  omega
theorem aqm (a b : Str) : ((a ++ b) == ([] : Str)) = (a == [] && b == []) := by
 cases a <;> cases b <;> rfl
theorem Js (s : zx) (hw : zR s.kG ≤ 268435400) (h1 : s.Name.length ≤ 1048576) (h2 : s.Value.length ≤ 1048576) : xh s = some (srB s) := by
 obtain ⟨k, f, t, l, n, v⟩ := s
 simp only at hw h1 h2
 have hxw := awC l
 unfold xh srB
 simp only
 rw [aud]
 simp only [Option.bind_some]
 by_cases hk : k = 114
 ·subst hk
  rw [if_pos (by decide), ady (xN l) (by omega), if_pos rfl]
  simp only [Option.bind_some]
  rw [ap2, wz (by omega), aqm]
  cases afb f t <;> cases qK (xN l) <;> rfl
 ·rw [if_neg (by simpa using hk), if_neg hk]
  by_cases hk2 : k = 97
  ·subst hk2
   rw [if_pos (by decide), if_pos rfl, adr n (by omega), alo v (by omega), aet]
   simp only [Option.bind_some]
   have e1 : decide (f ≥ -1) = decide (-1 ≤ f) := rfl
   have e2 : (t == 0) = decide (t = 0) := by by_cases h : t = 0 <;> simp [h]
   rw [e1, e2]
   cases decide (-1 ≤ f) <;> cases decide (f ≤ 1048576) <;> cases decide (t = 0) <;> cases isName n <;> cases isValue v <;> rfl
  ·rw [if_neg (by simpa using hk2), if_neg hk2]
   by_cases hk3 : k = 109
   ·subst hk3
    rw [if_pos (by decide), if_pos (show (109 : Int) = 109 ∨ (109 : Int) = 117 from .inl rfl), adr n (by omega), aet]
    simp only [Option.bind_some]
    cases afb f t <;> cases isName n <;> cases l.isEmpty <;> rfl
   ·rw [if_neg (by simpa using hk3)]
    by_cases hk4 : k = 117
    ·subst hk4
     rw [if_pos (by decide), if_pos (show (117 : Int) = 109 ∨ (117 : Int) = 117 from .inr rfl), adr n (by omega), aet]
     simp only [Option.bind_some]
     cases afb f t <;> cases isName n <;> cases l.isEmpty <;> rfl
    ·rw [if_neg (by simpa using hk4), if_neg (by omega)]
end Go.Proofs.YtclohbgnaopjfaaDoor
namespace Go.Proofs.YtclohbgnaopjfaaDoor
set_option linter.unusedSimpArgs false
set_option linter.unusedVariables false
open Go
theorem aiZ : ∀ (path : List Int) (v : Int) (n : za), isT n = false → (∃ q m a, path = up q ∧ At n q m a) ∨ qF path v n = some (.inl (aqJ, 9)) ∨ ∃ m, qF path v n = some (.inr m) ∧ isT m = true
 | [], v, n, hn => .inl ⟨[], n, 0, rfl, .nil n⟩
 | y :: suf, v, n, hn => by
  by_cases h1 : y < 0
  ·right; left
   rw [qF]; simp [h1]
  ·by_cases h2 : y ≥ (n.Kids.length : Int)
   ·right; left
    rw [qF]; simp [h2]
   ·obtain ⟨i, rfl⟩ := Int.eq_ofNat_of_zero_le (show 0 ≤ y by omega)
    have hl : i < n.Kids.length := by omega
    obtain ⟨k, hk⟩ : ∃ k, n.Kids[i]? = some k := ⟨_, List.getElem?_eq_getElem hl⟩
    have g1 : decide ((i : Int) < 0) = false := by simp
    have g2 : decide ((i : Int) ≥ (n.Kids.length : Int)) = false := by simp; omega
    have step : qF ((i : Int) :: suf) v n = qF suf (v + 1) k := by
     rw [qF]
     simp only [g1, g2, Qt, hn, Bool.false_eq_true, if_false, xg hk, Option.bind_some]
    rw [step]
    by_cases ht : isT k = true
    ·cases suf with
     | nil => exact .inr (.inr ⟨k, rfl, ht⟩)
     | cons z suf =>
      right; left
      rw [qF]
      simp only [Qt, ht, if_true]
      split
      ·rfl
      ·split <;> rfl
    ·rcases aiZ suf (v + 1) k (by simpa using ht) with ⟨q, m, a, rfl, h⟩ | h | h
     ·exact .inl ⟨i :: q, m, _, rfl, .cons n i k q m a hk hn (by simpa using ht) h⟩
     ·exact .inr (.inl h)
     ·exact .inr (.inr h)
theorem amv (n : za) (path : List Int) (hn : isT n = false) (hp : path.length ≤ 9223372036854775807) : (∃ q m a, path = up q ∧ At n q m a) ∨ kY n path = some (aqJ, 9) := by
 rcases aiZ path 0 n hn with h | h | ⟨m, h, hm⟩
 ·exact .inl h
 ·right
  unfold kY
  rw [wz hp, h]
  rfl
 ·right
  unfold kY
  rw [wz hp, h]
  simp only [Option.bind_some, Qt, hm, if_true]
end Go.Proofs.YtclohbgnaopjfaaDoor
namespace Go.Proofs.YtclohbgnaopjfaaDoor
set_option linter.unusedSimpArgs false
set_option linter.unusedVariables false
open Go Classical
theorem avp {n : za} {T : List Tk} (h : TD n T) (hw : wD n T ≤ 100000000) {p : Nat} {k : Str} {aa : List ze} (hp : T[p]? = some (.opn k aa)) :
  ∃ q i x, kT n (p : Int) = some (⟨up q, ((i : Nat) : Int), 0⟩, 0) ∧ At n (q ++ [i]) x (p + 1) ∧ isT x = false ∧ x.Kind = k ∧ x.zh = aa := by
 have hl := h.len
 have hwt := h.wt
 have hpl := (List.getElem?_eq_some_iff.1 hp).1
 obtain ⟨s, hs, hok⟩ := J7 h.nt (by omega) p (by omega)
 obtain ⟨q, m, a, idx, off, rfl, hat, hm, hidx, hpos, hk, hend⟩ := hok
 obtain ⟨P1, S1, e1, e2, e3⟩ := at_end hat
 rw [h.tk] at e2
 have fm := Zi (hat.form h.form) hm
 have hts := ZM (m.Kids.take idx)
 rcases Nat.lt_or_ge idx m.Kids.length with hi | hi
 ·obtain ⟨x, hx⟩ : ∃ x, m.Kids[idx]? = some x := ⟨_, List.getElem?_eq_getElem hi⟩
  obtain ⟨g1, g2⟩ := hk x hx
  have fx := fm.form x (List.mem_of_getElem? hx)
  have hsp := WG hx
  have hg : T[p]? = (tkN x)[off]? := by
   rw [e2, hsp, List.getElem?_append_right (by omega), List.append_assoc, List.getElem?_append_right (by omega), List.append_assoc, List.getElem?_append_left (by rw [aos]; omega)]
   congr 1
   omega
  rw [hp] at hg
  cases ht : isT x with
  | true =>
   exfalso
   rw [vD, if_pos ht, List.getElem?_map] at hg
   cases hr : (runes x.Text)[off]? with
   | none => rw [hr] at hg; cases hg
   | some c => rw [hr] at hg; cases hg
  | false =>
   have h0 : off = 0 := by
    by_cases h0 : 0 < off
    ·rw [g2 h0] at ht; cases ht
    ·omega
   subst h0
   rw [vD, if_neg (by simp [ht])] at hg
   simp only [List.getElem?_cons_zero, Option.some.injEq, Tk.opn.injEq] at hg
   refine ⟨q, idx, x, hs, ?_, ht, hg.1.symm, hg.2.symm⟩
   have := hat.snoc hx hm ht
   rwa [show a + zC (m.Kids.take idx) + 1 = p + 1 from by omega] at this
 ·exfalso
  have h0 := hend (by omega)
  have ha : m.Kids.take idx = m.Kids := List.take_of_length_le hi
  rw [ha] at hpos hts
  have hg : T[p]? = S1[0]? := by
   rw [e2, List.getElem?_append_right (by omega), List.getElem?_append_right (by omega)]
   congr 1
   omega
  rw [hp] at hg
  cases S1 with
  | nil => cases hg
  | cons t S1 =>
   simp only [List.getElem?_cons_zero, Option.some.injEq] at hg
   subst hg
   exact e3
theorem ai9 (l : List Int) (h : l.length ≤ 10000000) : slices_Clone_int l = some l := by
 unfold slices_Clone_int
 rw [ko (by simp; omega)]
 rfl
theorem ap3 (l : List ze) (h : l.length ≤ 1000000000) : wO l = some l := by
 unfold wO
 rw [ko (by simp; omega)]
 rfl
theorem XA {n : za} {T : List Tk} (h : TD n T) (hw : wD n T ≤ 100000000) {p : Nat} {k : Str} {aa : List ze} (hp : T[p]? = some (.opn k aa)) :
  ∃ q x, yJ n (p : Int) = some (up q, true) ∧ At n q x (p + 1) ∧ isT x = false ∧ x.Kind = k ∧ x.zh = aa := by
 obtain ⟨q, i, x, h1, h2, h3, h4, h5⟩ := avp h hw hp
 refine ⟨q ++ [i], x, ?_, h2, h3, h4, h5⟩
 have hq := h2.len
 rw [List.length_append, List.length_singleton] at hq
 have hsm := h.small
 have hpl := (List.getElem?_eq_some_iff.1 hp).1
 have hne : ((p : Int) == -1) = false := by simp
 have e : up q ++ [(i : Int)] = up (q ++ [i]) := by rw [anu]; rfl
 unfold yJ
 rw [hne, h1]
 simp only [Bool.false_eq_true, if_false, Option.bind_some, bne_self_eq_false, gt_iff_lt, Int.lt_irrefl, decide_false]
 rw [ai9 _ (by rw [Jp]; omega)]
 simp only [Option.bind_some]
 rw [ko (by rw [Jp]; simp; omega)]
 simp only [Option.bind_some]
 rw [e, Vp h2 h3 (by simp; omega)]
 rfl
theorem anf {n : za} {T : List Tk} (h : TD n T) (hw : wD n T ≤ 100000000) {p : Int} (hp : 0 ≤ p) (hno : ∀ k aa, T[p.toNat]? ≠ some (.opn k aa)) : ∃ q, yJ n p = some (q, false) := by
 obtain ⟨p, rfl⟩ := Int.eq_ofNat_of_zero_le hp
 rw [Int.toNat_natCast] at hno
 have hl := h.len
 have hwt := h.wt
 have hsm := h.small
 have hne : ((p : Int) == -1) = false := by simp
 unfold yJ
 rw [hne]
 simp only [Bool.false_eq_true, if_false]
 by_cases hpl : p ≤ zC n.Kids
 ·obtain ⟨s, hs, hok⟩ := J7 h.nt (by omega) p hpl
  rw [hs]
  simp only [Option.bind_some, bne_self_eq_false, Bool.false_eq_true, if_false]
  by_cases ho : s.Offset > 0
  ·rw [if_pos (by simpa using ho)]
   exact ⟨_, rfl⟩
  ·rw [if_neg (by simpa using ho)]
   obtain ⟨q, m, a, idx, off, rfl, hat, hm, hidx, hpos, hk, hend⟩ := hok
   simp only at ho ⊢
   have h0 : off = 0 := by omega
   have hq := hat.len
   rw [ai9 _ (by rw [Jp]; omega)]
   simp only [Option.bind_some]
   rw [ko (by rw [Jp]; simp; omega)]
   simp only [Option.bind_some]
   rcases amv n (up q ++ [(idx : Int)]) h.nt (by simp [Jp]; omega) with ⟨q', x, b, he, hx⟩ | he
   ·exfalso
    have e : up q ++ [(idx : Int)] = up (q ++ [idx]) := by rw [anu]; rfl
    rw [e] at he
    rw [← avh he] at hx
    obtain ⟨m', b', k1, k2, k3, k4, k5⟩ := hx.avy
    obtain ⟨rfl, rfl⟩ := k1.fn hat
    obtain ⟨P1, S1, e1, e2, e3⟩ := at_end hat
    rw [h.tk] at e2
    have hts := ZM (m'.Kids.take idx)
    have hg : T[p]? = (tkN x)[0]? := by
     have hn : tkN x ≠ [] := by rw [vD, if_neg (by simp [k4])]; simp
     have hpos' : 0 < (tkN x).length := List.length_pos_iff.2 hn
     rw [e2, WG k2, List.getElem?_append_right (by omega), List.append_assoc, List.getElem?_append_right (by omega), List.append_assoc, List.getElem?_append_left (by omega)]
     congr 1
     omega
    rw [vD, if_neg (by simp [k4])] at hg
    exact hno _ _ hg
   ·rw [he]
    exact ⟨_, rfl⟩
 ·rw [alR h.nt (by omega) p (by omega)]
  exact ⟨_, rfl⟩
theorem anO (s : zx) : ∀ (l : List ze) (j : Int), (∃ i a, l[i]? = some a ∧ a.Name = s.Name ∧ zV s l j = some (.inl (j + (i : Nat), s))) ∨ ((∀ a ∈ l, a.Name ≠ s.Name) ∧ zV s l j = some (.inr ()))
 | [], j => .inr ⟨by simp, rfl⟩
 | a :: l, j => by
  rw [zV]
  have e : KY a s = some (a.Name == s.Name) := rfl
  rw [e]
  simp only [Option.bind_some]
  by_cases h : a.Name = s.Name
  ·left
   refine ⟨0, a, rfl, h, ?_⟩
   rw [if_pos (by simp [h])]
   simp
  ·rw [if_neg (by simpa using h)]
   rcases anO s l (j + 1) with ⟨i, b, h1, h2, h3⟩ | ⟨h1, h2⟩
   ·left
    refine ⟨i + 1, b, h1, h2, ?_⟩
    rw [h3]
    simp only [Option.some.injEq, Sum.inl.injEq, Prod.mk.injEq, and_true]
    omega
   ·right
    refine ⟨fun b hb => ?_, h2⟩
    rcases List.mem_cons.1 hb with rfl | hb
    ·exact h
    ·exact h1 b hb
theorem aqe {aa : List ze} (h : Z6 (aa.map (·.Name)) = true) {i j : Nat} {a b : ze} (hi : aa[i]? = some a) (hj : aa[j]? = some b) (e : a.Name = b.Name) : i = j := by
 have hp := ((ak9 _).1 h).2
 have hi' : (aa.map (·.Name))[i]? = some a.Name := by rw [List.getElem?_map, hi]; rfl
 have hj' : (aa.map (·.Name))[j]? = some b.Name := by rw [List.getElem?_map, hj]; rfl
 obtain ⟨l1, e1⟩ := List.getElem?_eq_some_iff.1 hi'
 obtain ⟨l2, e2⟩ := List.getElem?_eq_some_iff.1 hj'
 rw [List.pairwise_iff_getElem] at hp
 rcases Nat.lt_trichotomy i j with h1 | h1 | h1
 ·have := hp i j l1 l2 h1
  rw [e1, e2, e, BL, JM] at this
  cases this
 ·exact h1
 ·have := hp j i l2 l1 h1
  rw [e1, e2, e, BL, JM] at this
  cases this
def xe (aa : List ze) (i : Nat) (v : Str) : List ze :=
 match aa[i]? with
 | some a => aa.set i { a with Value := v }
 | none => aa
theorem aaf {aa : List ze} {i : Nat} {a : ze} (h : aa[i]? = some a) (v : Str) : xe aa i v = aa.set i { a with Value := v } := by
 unfold xe
 rw [h]
theorem Yt (aa : List ze) (i j : Nat) (v : Str) : (xe aa i v)[j]? = if j = i then (aa[i]?).map (fun a => { a with Value := v }) else aa[j]? := by
 unfold xe
 cases h : aa[i]? with
 | none =>
  by_cases e : j = i
  ·subst e; simp [h]
  ·simp [e]
 | some a =>
  have hl := (List.getElem?_eq_some_iff.1 h).1
  simp only
  rw [List.getElem?_set]
  by_cases e : j = i
  ·subst e; simp [hl]
  ·rw [if_neg (fun h => e h.symm), if_neg e]
theorem abE (aa : List ze) (i : Nat) (v : Str) : (xe aa i v).map (·.Name) = aa.map (·.Name) := by
 refine List.ext_getElem? fun j => ?_
 rw [List.getElem?_map, List.getElem?_map, Yt]
 by_cases e : j = i
 ·subst e
  rw [if_pos rfl]
  cases aa[j]? <;> rfl
 ·rw [if_neg e]
theorem ajp {aa : List ze} (h : aa.all (fun x => isValue x.Value) = true) (i : Nat) {v : Str} (hv : isValue v = true) : (xe aa i v).all (fun x => isValue x.Value) = true := by
 rw [List.all_eq_true] at h ⊢
 intro x hx
 obtain ⟨j, hj⟩ := List.mem_iff_getElem?.1 hx
 rw [Yt] at hj
 by_cases e : j = i
 ·rw [if_pos e] at hj
  cases ha : aa[i]? with
  | none => rw [ha] at hj; cases hj
  | some a => rw [ha] at hj; cases hj; exact hv
 ·rw [if_neg e] at hj
  exact h x (List.mem_of_getElem? hj)
theorem afo : ∀ (aa : List ze) (i : Nat) (a : ze) (v : Str), aa[i]? = some a → wR (aa.set i { a with Value := v }) + a.Value.length = wR aa + v.length
 | [], i, a, v, h => by simp at h
 | b :: aa, 0, a, v, h => by
  simp only [List.getElem?_cons_zero, Option.some.injEq] at h
  subst h
  simp only [List.set_cons_zero, wR]; omega
 | b :: aa, i + 1, a, v, h => by
  have := afo aa i a v (by simpa using h)
  simp only [List.set_cons_succ, wR]; omega
theorem aec {v : Str} (h : isValue v = true) : v.length ≤ 40 := by
 unfold isValue at h
 simp only [Bool.and_eq_true, decide_eq_true_eq] at h
 exact h.1
theorem adT {n : za} (h : qK n = true) (ht : isT n = false) : n.zh.all (fun x => isValue x.Value) = true ∧ isName n.Kind = true ∧ n.Text = [] ∧ n.Marks = [] ∧ Z6 (n.zh.map (·.Name)) = true ∧ xS none n.Kids = true := by
 rw [jg, if_neg (by simp [ht])] at h
 simp only [Bool.and_eq_true, decide_eq_true_eq] at h
 exact ⟨h.1.1.1.1.1, h.1.1.1.1.2, h.1.1.1.2, h.1.1.2, h.1.2, h.2⟩
theorem aea {n : za} (ht : isT n = false) (h : n.zh.all (fun x => isValue x.Value) = true ∧ isName n.Kind = true ∧ n.Text = [] ∧ n.Marks = [] ∧ Z6 (n.zh.map (·.Name)) = true ∧ xS none n.Kids = true) : qK n = true := by
 rw [jg, if_neg (by simp [ht])]
 obtain ⟨h1, h2, h3, h4, h5, h6⟩ := h
 simp [h1, h2, h3, h4, h5, h6]
theorem amV {n : za} {q m a} (h : At n q m a) : q ≠ [] → ∃ P S, P.length + 1 = a ∧ tkL n.Kids = P ++ (Tk.opn m.Kind m.zh :: S) ∧ ∀ x : za, isT x = false → x.Kind = m.Kind → x.Kids = m.Kids → tkL (jh q n x).Kids = P ++ (Tk.opn x.Kind x.zh :: S) ∧ (jh q n x).Kind = n.Kind ∧ (jh q n x).zh = n.zh := by
 induction h with
 | nil n => intro h; exact absurd rfl h
 | cons n i k q m a hi hn hk h ih =>
  intro _
  have hl := (List.getElem?_eq_some_iff.1 hi).1
  by_cases hq : q = []
  ·subst hq
   cases h with
   | nil =>
    refine ⟨tkL (n.Kids.take i), tkL k.Kids ++ (Tk.cls :: tkL (n.Kids.drop (i + 1))), by rw [ZM], ?_, fun x hx h1 h2 => ⟨?_, ?_⟩⟩
    ·rw [WG hi, vD, if_neg (by simp [hk])]
     simp only [List.append_assoc, List.cons_append, List.nil_append]
    ·rw [kW hi]
     simp only [jh]
     rw [List.set_eq_take_append_cons_drop, if_pos hl, afY, tkL, vD, if_neg (by simp [hx]), h2]
     simp only [List.append_assoc, List.cons_append, List.nil_append]
    ·rw [kW hi]; exact ⟨rfl, rfl⟩
  ·obtain ⟨P, S, h1, h2, h3⟩ := ih hq
   refine ⟨tkL (n.Kids.take i) ++ (Tk.opn k.Kind k.zh :: P), S ++ (Tk.cls :: tkL (n.Kids.drop (i + 1))), ?_, ?_, fun x hx e1 e2 => ⟨?_, ?_⟩⟩
   ·simp only [List.length_append, List.length_cons, ZM]; omega
   ·rw [WG hi, vD, if_neg (by simp [hk]), h2]
    simp only [List.append_assoc, List.cons_append, List.nil_append]
   ·obtain ⟨g1, g2, g3⟩ := h3 x hx e1 e2
    have hnt := Vi q k x hk hx
    rw [kW hi]
    simp only
    rw [List.set_eq_take_append_cons_drop, if_pos hl, afY, tkL, vD, if_neg (by simp [hnt]), g1, g2, g3]
    simp only [List.append_assoc, List.cons_append, List.nil_append]
   ·rw [kW hi]; exact ⟨rfl, rfl⟩
theorem set_mid {α : Type} (P : List α) (x y : α) (S : List α) : (P ++ x :: S).set P.length y = P ++ y :: S := by
 rw [List.set_append_right _ _ (Nat.le_refl _)]
 simp
theorem adu (k : Str) (a b : List ze) : ∀ (P S : List Tk) (d : Nat), dpT d (P ++ Tk.opn k a :: S) = dpT d (P ++ Tk.opn k b :: S)
 | [], S, d => by simp [dpT]
 | .sgn c m :: P, S, d => by rw [List.cons_append, List.cons_append, dpT, dpT, adu k a b P S]
 | .opn c m :: P, S, d => by rw [List.cons_append, List.cons_append, dpT, dpT, adu k a b P S]
 | .cls :: P, S, d => by rw [List.cons_append, List.cons_append, dpT, dpT, adu k a b P S]
theorem auQ (k : Str) (a b : List ze) (P S : List Tk) : tw (P ++ Tk.opn k b :: S) + wR a = tw (P ++ Tk.opn k a :: S) + wR b := by
 rw [Xa, Xa, tw, tw, anS, anS]; omega
theorem as6 {n : za} {T : List Tk} (h : TD n T) (hw : wD n T ≤ 100000000) {p : Nat} {k : Str} {aa : List ze} (hp : T[p]? = some (.opn k aa)) {i : Nat} {a : ze} (hi : aa[i]? = some a) {v : Str} (hv : isValue v = true) (t : Int) (l : List za) (K : Int) :
  ∃ N, yF n ⟨K, (p : Int), t, l, a.Name, v⟩ = some (N, a.Value, 0) ∧ TD N (T.set p (.opn k (xe aa i v))) ∧ N.Kind = n.Kind ∧ N.zh = n.zh ∧ wD N (T.set p (.opn k (xe aa i v))) + a.Value.length = wD n T + v.length := by
 obtain ⟨q, x, h1, h2, h3, rfl, rfl⟩ := XA h hw hp
 have hwt := h.wt
 have hx := h2.form h.form
 have hvl := aec hv
 have hql : q.length ≤ p + 1 := h2.len
 have hsm := h.small
 have hpl := (List.getElem?_eq_some_iff.1 hp).1
 obtain ⟨f1, f2, f3, f4, f5, f6⟩ := adT hx h3
 have hal : x.zh.length ≤ 10000000000 := by have := h2.wt; have := qI x; have := xB x.zh; omega
 have hil := (List.getElem?_eq_some_iff.1 hi).1
 have hq0 : q ≠ [] := by
  rintro rfl
  cases h2
 have hxw : nwt x ≤ 2 + wD n T := by have := h2.wt; omega
 have haw : wR x.zh ≤ 2 + wD n T := by have := qI x; omega
 have hset := aaf hi v
 obtain ⟨P, S, e1, e2, e3⟩ := amV h2 hq0
 have hx' : isT ({ x with zh := xe x.zh i v } : za) = false := h3
 have fx' : qK ({ x with zh := xe x.zh i v } : za) = true := aea hx' ⟨ajp f1 i hv, f2, f3, f4, by rw [abE]; exact f5, f6⟩
 obtain ⟨g1, g2, g3⟩ := e3 _ hx' rfl rfl
 rw [h.tk] at e2
 have hPl : P.length = p := by omega
 have hTs : T.set p (.opn x.Kind (xe x.zh i v)) = P ++ Tk.opn x.Kind (xe x.zh i v) :: S := by rw [e2, ← hPl, set_mid]
 refine ⟨jh q n { x with zh := xe x.zh i v }, ?_, ?_, g2, g3, ?_⟩
 ·have hidx : qY x.zh ⟨K, (p : Int), t, l, a.Name, v⟩ = some ((i : Int), ⟨K, (p : Int), t, l, a.Name, v⟩) := by
   unfold qY
   rw [wz (by omega)]
   rcases anO ⟨K, (p : Int), t, l, a.Name, v⟩ x.zh 0 with ⟨j, b, k1, k2, k3⟩ | ⟨k1, _⟩
   ·rw [k3]
    have : j = i := aqe f5 k1 hi k2
    subst this
    simp
   ·exact absurd rfl (k1 a (List.mem_of_getElem? hi))
  unfold yF
  simp only
  rw [h1]
  simp only [Option.bind_some, Bool.not_true, Bool.false_eq_true, if_false]
  rw [Vp h2 h3 (by omega)]
  simp only [Option.bind_some]
  rw [hidx]
  simp only [Option.bind_some]
  rw [if_neg (by simp), xg hi, ap3 _ (by have := xB x.zh; omega)]
  simp only [Option.bind_some]
  rw [xg hi]
  simp only [Option.bind_some]
  rw [anL hil, ← hset]
  simp only [Option.bind_some]
  rw [aoG h2 h.nt (by omega)]
  rfl
 ·rw [hTs]
  refine TD.of (ag4 hx' fx' h2 h.form) (Vi q n _ h.nt hx') g1 ?_ ?_
  ·rw [adu x.Kind _ x.zh, ← e2]
   exact h.deep
  ·rw [e2] at hsm
   simpa using hsm
 ·have := auQ x.Kind x.zh (xe x.zh i v) P S
  have h5 := afo _ _ _ v hi
  rw [← hset] at h5
  rw [hTs]
  unfold wD
  rw [g2, g3]
  rw [← e2] at this
  omega
theorem ava {n : za} {T : List Tk} (h : TD n T) (hw : wD n T ≤ 100000000) (s : zx) (hs : 0 ≤ s.From) (hno : ∀ k aa, T[s.From.toNat]? = some (.opn k aa) → ∀ a ∈ aa, a.Name ≠ s.Name) : ∃ e, e ≠ 0 ∧ yF n s = some (aqJ, [], e) := by
 by_cases ho : ∃ k aa, T[s.From.toNat]? = some (.opn k aa)
 ·obtain ⟨k, aa, ho⟩ := ho
  have e : s.From = ((s.From.toNat : Nat) : Int) := by omega
  obtain ⟨q, x, h1, h2, h3, rfl, rfl⟩ := XA h hw ho
  have hno := hno _ _ ho
  have hwt := h.wt
  have hql : q.length ≤ s.From.toNat + 1 := h2.len
  have hsm := h.small
  have hpl := (List.getElem?_eq_some_iff.1 ho).1
  have hal : x.zh.length ≤ 10000000000 := by have := h2.wt; have := qI x; have := xB x.zh; omega
  refine ⟨9, by decide, ?_⟩
  unfold yF
  rw [e, h1]
  simp only [Option.bind_some, Bool.not_true, Bool.false_eq_true, if_false]
  rw [Vp h2 h3 (by omega)]
  simp only [Option.bind_some]
  unfold qY
  rw [wz (by omega)]
  rcases anO s x.zh 0 with ⟨j, b, k1, k2, k3⟩ | ⟨_, k1⟩
  ·exact absurd k2 (hno b (List.mem_of_getElem? k1))
  ·rw [k1]
   rfl
 ·obtain ⟨q, hq⟩ := anf h hw hs fun k aa hh => ho ⟨k, aa, hh⟩
  refine ⟨3, by decide, ?_⟩
  unfold yF
  rw [hq]
  rfl
theorem ate {n : za} (h : isT n = false) : (n.Kind == ([116, 101, 120, 116] : Str)) = false := h
theorem abJ {n : za} {T : List Tk} (h : TD n T) (hw : wD n T ≤ 100000000) (s : zx) (hs : xh s = some true) : kV n s = if (s.Kind == (114 : Int)) = true then (KZ n s.From s.To s.kG).bind fun (r_5, r_6) => some (r_5, r_6) else if (s.Kind == (97 : Int)) = true then (yF n s).bind fun (r_7, r_8, r_9) => some (r_7, r_9) else (J9 n s).bind fun (KP, adz, akm) => some (KP, akm) := by
 have hwt := h.wt
 unfold kV
 rw [hs]
 simp only [Option.bind_some, Bool.not_true, Bool.false_eq_true, if_false]
 rw [ate h.nt]
 simp only [Bool.false_eq_true, if_false]
 rw [right_eq n (by omega), h.ok]
 simp only [Option.bind_some, beq_self_eq_true, Bool.not_true, Bool.false_eq_true, if_false]
theorem amU (n : za) (s : zx) (hs : xh s = some false) : kV n s = some (aqJ, 1) := by
 unfold kV
 rw [hs]
 rfl
theorem apI {l : List za} (hl : xw l) (hw : zR l ≤ 268435400) {f t : Nat} (hft : f ≤ t) (ht : t ≤ 1048576) : xh ⟨114, (f : Int), (t : Int), l, [], []⟩ = some true := by
 rw [Js _ hw (by simp) (by simp)]
 have hf : qK (xN l) = true := by
  have hT : isT (xN l) = false := rfl
  exact aea hT ⟨rfl, show isName [120] = true by decide +kernel, rfl, rfl, rfl, am3 hl⟩
 unfold srB afb
 simp only [if_true]
 rw [hf]
 simp
 omega
theorem ahp {nm v : Str} (hn : isName nm = true) (hv : isValue v = true) {p : Int} (h1 : -1 ≤ p) (h2 : p ≤ 1048576) (hl : nm.length ≤ 1048576) : xh ⟨97, p, 0, [], nm, v⟩ = some true := by
 have := aec hv
 rw [Js _ (by simp [zR]) hl (by simp only; omega)]
 unfold srB
 simp only
 rw [if_neg (by decide)]
 simp [hn, hv]
 omega
theorem anQ {n : za} {T : List Tk} (h : TD n T) (hw : wD n T ≤ 100000000) {p : Nat} {k : Str} {aa : List ze} (hp : T[p]? = some (.opn k aa)) {i : Nat} {a : ze} (hi : aa[i]? = some a) {v : Str} (hv : isValue v = true) :
  ∃ N, kV n ⟨97, (p : Int), 0, [], a.Name, v⟩ = some (N, 0) ∧ yF n ⟨97, (p : Int), 0, [], a.Name, v⟩ = some (N, a.Value, 0) ∧ TD N (T.set p (.opn k (xe aa i v))) ∧ N.Kind = n.Kind ∧ N.zh = n.zh ∧ wD N (T.set p (.opn k (xe aa i v))) + a.Value.length = wD n T + v.length := by
 obtain ⟨N, h1, h2, h3, h4, h5⟩ := as6 h hw hp hi hv 0 [] 97
 refine ⟨N, ?_, h1, h2, h3, h4, h5⟩
 have hsm := h.small
 have hpl := (List.getElem?_eq_some_iff.1 hp).1
 obtain ⟨q, x, _, hx, ht, hk', rfl⟩ := XA h hw hp
 obtain ⟨f1, f2, f3, f4, f5, f6⟩ := adT (hx.form h.form) ht
 have hnm : isName a.Name = true := ((ak9 _).1 f5).1 a.Name (by
  have := List.mem_of_getElem? hi
  exact List.mem_map.2 ⟨a, this, rfl⟩)
 have hxw : nwt x ≤ 2 + wD n T := by have := hx.wt; have := h.wt; omega
 have hal : a.Name.length ≤ 20 := ak7 hnm
 rw [abJ h hw _ (ahp hnm hv (by omega) (by omega) (by omega))]
 simp only
 rw [if_neg (by decide), if_pos (by decide), h1]
 rfl
end Go.Proofs.YtclohbgnaopjfaaDoor
namespace Go.Proofs.YtclohbgnaopjfaaDoor
set_option linter.unusedSimpArgs false
set_option linter.unusedVariables false
open Go
end Go.Proofs.YtclohbgnaopjfaaDoor
namespace Go.Proofs.YtclohbgnaopjfaaDoor
set_option linter.unusedSimpArgs false
set_option linter.unusedVariables false
open Go
end Go.Proofs.YtclohbgnaopjfaaDoor
namespace Go.Proofs.YtclohbgnaopjfaaDoor
set_option linter.unusedSimpArgs false
set_option linter.unusedVariables false
open Go Classical
inductive Does : za → List zx → za → Prop
 | nil (n : za) : Does n [] n
 | cons (n a b : za) (s : zx) (l : List zx) (h1 : kV n s = some (a, 0)) (h2 : Does a l b) : Does n (s :: l) b
theorem Does.app {n a b : za} {l r : List zx} (h : Does n l a) (h2 : Does a r b) : Does n (l ++ r) b := by
 induction h with
 | nil n => exact h2
 | cons n a' b' s l h1 _ ih => exact .cons _ _ _ _ _ h1 (ih h2)
theorem auL (W : Nat) : ∀ l : List za, (∀ n ∈ l, tw (tkN n) ≤ nwt n * (W + 10)) → tw (tkL l) ≤ zR l * (W + 10) := ac9 W
theorem auR (W : Nat) (n : za) : (∀ c m, Tk.sgn c m ∈ tkN n → xK m ≤ W) → tw (tkN n) ≤ nwt n * (W + 10) := by
 induction n using za.ind with
 | h n ih =>
  intro hm
  have e := qI n
  rw [vD] at hm ⊢
  cases ht : isT n with
  | true =>
   simp only [ht, if_true] at hm ⊢
   rw [afV]
   have hr := ajI n.Text
   rw [← yP] at hr
   by_cases h0 : runes n.Text = []
   ·rw [h0]; simp
   ·obtain ⟨c, l, hcl⟩ := List.exists_cons_of_ne_nil h0
    have hmm := hm c n.Marks (by rw [hcl]; simp)
    exact Nat.mul_le_mul (by omega) (by omega)
  | false =>
   simp only [ht, Bool.false_eq_true, if_false] at hm ⊢
   have h1 := ac9 W n.Kids fun x hx => ih x hx fun c m hc => hm c m (by
    have : Tk.sgn c m ∈ tkL n.Kids := by
     obtain ⟨i, hi⟩ := List.mem_iff_getElem?.1 hx
     rw [WG hi]
     simp [hc]
    simp [this])
   simp only [tw, anS, Xa]
   have h2 : (2 + n.Kind.length + wR n.zh) ≤ (2 + n.Kind.length + wR n.zh) * (W + 10) := Nat.le_mul_of_pos_right _ (by omega)
   have h3 : (2 + n.Kind.length + wR n.zh + zR n.Kids) * (W + 10) ≤ nwt n * (W + 10) := Nat.mul_le_mul_right _ (by omega)
   rw [Nat.add_mul] at h3
   omega
end Go.Proofs.YtclohbgnaopjfaaDoor
namespace Go.Proofs.YtclohbgnaopjfaaDoor
set_option linter.unusedSimpArgs false
set_option linter.unusedVariables false
open Go Classical
theorem asb (l : List Tk) (hl : ∀ t ∈ l, ∃ c m, t = Tk.sgn c m) (S : List Tk) : ∀ d, dpT d (l ++ S) = dpT d S := by
 induction l with
 | nil => intro d; rfl
 | cons t l ih =>
  intro d
  obtain ⟨c, m, rfl⟩ := hl t (by simp)
  rw [List.cons_append, dpT, ih (fun t ht => hl t (by simp [ht]))]
theorem afU {A B : List Tk} (h : ∀ d, dpT d A = dpT d B) : ∀ (P : List Tk) (d : Nat), dpT d (P ++ A) = dpT d (P ++ B)
 | [], d => h d
 | .sgn c m :: P, d => by rw [List.cons_append, List.cons_append, dpT, dpT, afU h P]
 | .opn c m :: P, d => by rw [List.cons_append, List.cons_append, dpT, dpT, afU h P]
 | .cls :: P, d => by rw [List.cons_append, List.cons_append, dpT, dpT, afU h P]
end Go.Proofs.YtclohbgnaopjfaaDoor
namespace Go.Proofs.YtclohbgnaopjfaaDoor
set_option linter.unusedSimpArgs false
set_option linter.unusedVariables false
open Go Classical
def anU (T : List Tk) (p : Nat) (nm : Str) (k : Str) (aa : List ze) (i : Nat) (a : ze) : Prop := T[p]? = some (.opn k aa) ∧ aa[i]? = some a ∧ a.Name = nm
theorem am2 {n : za} {T : List Tk} (h : TD n T) (hw : wD n T ≤ 100000000) (p : Nat) (hp : p ≤ 1048576) {nm v : Str} (hn : isName nm = true) (hv : isValue v = true) :
  (∃ k aa i a, anU T p nm k aa i a) ∨ ∃ e, e ≠ 0 ∧ kV n ⟨97, (p : Int), 0, [], nm, v⟩ = some (aqJ, e) := by
 by_cases ho : ∃ k aa i a, anU T p nm k aa i a
 ·exact .inl ho
 ·right
  obtain ⟨e, he, hs⟩ := ava h hw ⟨97, (p : Int), 0, [], nm, v⟩ (by simp) fun k aa hk a ha hnm => by
   obtain ⟨i, hi⟩ := List.mem_iff_getElem?.1 ha
   exact ho ⟨k, aa, i, a, by simpa using hk, hi, hnm⟩
  refine ⟨e, he, ?_⟩
  rw [abJ h hw _ (ahp hn hv (by omega) (by omega) (by have := ak7 hn; omega))]
  simp only
  rw [if_neg (by decide), if_pos (by decide), hs]
  rfl
theorem atB {n : za} {T : List Tk} (h : TD n T) (hw : wD n T ≤ 100000000) {p : Nat} {nm : Str} {k : Str} {aa : List ze} {i : Nat} {a : ze} (ha : anU T p nm k aa i a) {v : Str} (hv : isValue v = true) :
  ∃ N, kV n ⟨97, (p : Int), 0, [], nm, v⟩ = some (N, 0) ∧ yF n ⟨97, (p : Int), 0, [], nm, v⟩ = some (N, a.Value, 0) ∧ TD N (T.set p (.opn k (xe aa i v))) ∧ N.Kind = n.Kind ∧ N.zh = n.zh ∧ wD N (T.set p (.opn k (xe aa i v))) ≤ wD n T + 40 := by
 obtain ⟨h1, h2, rfl⟩ := ha
 obtain ⟨N, g1, g2, g3, g4, g5, g6⟩ := anQ h hw h1 h2 hv
 have := aec hv
 exact ⟨N, g1, g2, g3, g4, g5, by omega⟩
theorem awW {T : List Tk} {p : Nat} {nm k : Str} {aa : List ze} {i : Nat} {a : ze} (h : anU T p nm k aa i a) (v : Str) : (T.set p (.opn k (xe aa i v)))[p]? = some (.opn k (xe aa i v)) := by
 have hl := (List.getElem?_eq_some_iff.1 h.1).1
 rw [List.getElem?_set_self hl]
theorem anU.set {T : List Tk} {p : Nat} {nm k : Str} {aa : List ze} {i : Nat} {a : ze} (h : anU T p nm k aa i a) (v : Str) : anU (T.set p (.opn k (xe aa i v))) p nm k (xe aa i v) i { a with Value := v } := by
 refine ⟨awW h v, ?_, h.2.2⟩
 rw [Yt, if_pos rfl, h.2.1]
 rfl
end Go.Proofs.YtclohbgnaopjfaaDoor
namespace Go.Proofs.YtclohbgnaopjfaaDoor
set_option linter.unusedSimpArgs false
set_option linter.unusedVariables false
open Go Classical
inductive aoy (T : List Tk) : zx → Prop
 | rep (f t : Nat) (l : List za) (hft : f ≤ t) (ht : t ≤ T.length) (hl : xw l) (hw : tw (tkL l) ≤ 1000000) : aoy T ⟨114, (f : Int), (t : Int), l, [], []⟩
 | attr (p : Int) (nm v : Str) (h1 : -1 ≤ p) (h2 : p ≤ T.length) (hn : isName nm = true) (hv : isValue v = true) : aoy T ⟨97, p, 0, [], nm, v⟩
 | mark (k : Int) (x : Str) (a b : Nat) (hk : k = 109 ∨ k = 117) (hx : isName x = true) (hab : a ≤ b) (hb : b ≤ T.length) : aoy T ⟨k, (a : Int), (b : Int), [], x, []⟩
end Go.Proofs.YtclohbgnaopjfaaDoor
namespace Go.Proofs.YtclohbgnaopjfaaDoor
set_option linter.unusedSimpArgs false
set_option linter.unusedVariables false
open Go
def afc (x : Option Bool) (p : Prop) : Prop := ∃ b, x = some b ∧ (b = true ↔ p)
theorem afc.yes {x : Option Bool} {p : Prop} (h : afc x p) (hp : p) : x = some true := by
 obtain ⟨b, rfl, hb⟩ := h
 rw [hb.2 hp]
theorem afc.no {x : Option Bool} {p : Prop} (h : afc x p) (hp : ¬ p) : x = some false := by
 obtain ⟨b, rfl, hb⟩ := h
 cases b with
 | false => rfl
 | true => exact (hp (hb.1 rfl)).elim
end Go.Proofs.YtclohbgnaopjfaaDoor
namespace Go.Proofs.YtclohbgnaopjfaaDoor
set_option linter.unusedSimpArgs false
set_option linter.unusedVariables false
open Go
theorem arw (b : List ze) : ∀ (suf pre : List ze) (i : Int), i = (pre.length : Int) → b.length = pre.length + suf.length → b.take pre.length = pre → qA b suf i = some (if pre ++ suf = b then .inr () else .inl false)
 | [], pre, i, hi, hl, ht => by
  have : pre = b := by
   rw [← ht, List.take_of_length_le]
   simp at hl; omega
  simp [qA, this]
 | y :: suf, pre, i, hi, hl, ht => by
  simp only [List.length_cons] at hl
  obtain ⟨x, hx⟩ : ∃ x, b[pre.length]? = some x := ⟨b[pre.length], List.getElem?_eq_getElem (by omega)⟩
  rw [qA, hi, xg hx]
  simp only [Option.bind_some]
  have htk : b.take (pre.length + 1) = pre ++ [x] := by
   rw [List.take_add_one, ht, hx]
   rfl
  by_cases hxy : y = x
  ·subst hxy
   simp only [beq_self_eq_true, Bool.and_self, bne_self_eq_false, Bool.false_eq_true, if_false]
   rw [arw b suf (pre ++ [y]) _ (by simp) (by simp; omega) (by simpa using htk)]
   simp
  ·have hn : ¬ pre ++ y :: suf = b := by
    intro h
    rw [← h] at hx
    simp at hx
    exact hxy hx
   have g : (((y.Name == x.Name) && (y.Value == x.Value)) != true) = true := by
    rw [bne_iff_ne, ne_eq, Bool.and_eq_true, beq_iff_eq, beq_iff_eq]
    rintro ⟨h1, h2⟩
    apply hxy
    cases y; cases x
    simp_all
   rw [if_pos g, if_neg hn]
theorem auZ (a b : List ze) (h : a.length ≤ 9223372036854775807) : afc (vw a b) (a = b) := by
 unfold vw
 by_cases hl : a.length = b.length
 ·simp only [hl, bne_self_eq_false, Bool.false_eq_true, if_false]
  rw [wz (by omega), arw b a [] 0 rfl (by simp [hl]) (by simp)]
  by_cases e : a = b
  ·exact ⟨true, by simp [e], by simp [e]⟩
  ·exact ⟨false, by simp [e], by simp [e]⟩
 ·have h1 : ((a.length : Int) != (b.length : Int)) = true := by simp; omega
  have h2 : ¬ a = b := fun e => hl (by rw [e])
  rw [if_pos h1]
  exact ⟨false, rfl, by simp [h2]⟩
theorem asK (f : za → za → Option Bool) (b : List za) : ∀ (suf pre : List za) (i : Int), i = (pre.length : Int) → b.length = pre.length + suf.length → b.take pre.length = pre → (∀ x ∈ suf, ∀ y, afc (f x y) (x = y)) → ∃ r, zP b f suf i = some r ∧ ((r = .inr () ∧ pre ++ suf = b) ∨ (r = .inl false ∧ pre ++ suf ≠ b))
 | [], pre, i, hi, hl, ht, _ => by
  have : pre = b := by
   rw [← ht, List.take_of_length_le]
   simp at hl; omega
  exact ⟨_, rfl, .inl ⟨rfl, by simp [this]⟩⟩
 | y :: suf, pre, i, hi, hl, ht, hf => by
  simp only [List.length_cons] at hl
  obtain ⟨x, hx⟩ : ∃ x, b[pre.length]? = some x := ⟨b[pre.length], List.getElem?_eq_getElem (by omega)⟩
  rw [zP, hi, xg hx]
  simp only [Option.bind_some]
  have htk : b.take (pre.length + 1) = pre ++ [x] := by
   rw [List.take_add_one, ht, hx]
   rfl
  by_cases hxy : y = x
  ·subst hxy
   rw [(hf y (by simp) y).yes rfl]
   simp only [Option.bind_some, Bool.not_true, Bool.false_eq_true, if_false]
   obtain ⟨r, h1, h2⟩ := asK f b suf (pre ++ [y]) ((pre.length : Int) + 1) (by simp) (by simp; omega) (by simpa using htk) fun z hz => hf z (by simp [hz])
   exact ⟨r, h1, by simpa using h2⟩
  ·have hn : ¬ pre ++ y :: suf = b := by
    intro h
    rw [← h] at hx
    simp at hx
    exact hxy hx
   rw [(hf y (by simp) x).no hxy]
   exact ⟨_, rfl, .inr ⟨rfl, hn⟩⟩
theorem aoP (n : za) : nwt n ≤ 1099511627776 → ∀ kr, 2 * yV n ≤ kr → ∀ m, afc (jY kr n m) (n = m) := by
 induction n using za.ind with
 | h n ih =>
  intro hw kr hk m
  have hd := xY n
  obtain ⟨kr, rfl⟩ : ∃ j, kr = j + 1 + 1 := ⟨kr - 2, by omega⟩
  have hwt := qI n
  have hl := qy n.Kids
  have hs := adh n.Marks
  have ha := xB n.zh
  have key : n = m ↔ n.Kind = m.Kind ∧ n.Text = m.Text ∧ n.Marks = m.Marks ∧ n.zh = m.zh ∧ n.Kids = m.Kids := by
   cases n; cases m; simp
  rw [jY]
  by_cases h1 : n.Kind = m.Kind
  ·by_cases h2 : n.Text = m.Text
   ·simp only [h1, h2, beq_self_eq_true, if_true]
    rw [arn _ _ (by omega)]
    simp only [Option.bind_some]
    by_cases h3 : n.Marks = m.Marks
    ·simp only [h3, decide_true, if_true]
     obtain ⟨b, e4, h4⟩ := auZ n.zh m.zh (by omega)
     rw [e4]
     simp only [Option.bind_some]
     cases b with
     | true =>
      have h4' := h4.1 rfl
      simp only [if_true]
      rw [qg]
      by_cases hkl : n.Kids.length = m.Kids.length
      ·simp only [hkl, bne_self_eq_false, Bool.false_eq_true, if_false]
       obtain ⟨r, e5, h5⟩ := asK (jY kr) m.Kids n.Kids [] 0 rfl (by simp [hkl]) (by simp) fun k hkk y => ih k hkk (by have := jI hkk; omega) kr (by have := yB hkk; omega) y
       rw [wz (by omega), e5]
       simp only [List.nil_append] at h5
       rcases h5 with ⟨rfl, h5⟩ | ⟨rfl, h5⟩
       ·exact ⟨true, rfl, by simp [key, h1, h2, h3, h4', h5]⟩
       ·exact ⟨false, rfl, by simp [key, h5]⟩
      ·have g : ((n.Kids.length : Int) != (m.Kids.length : Int)) = true := by simp; omega
       rw [if_pos g]
       exact ⟨false, rfl, by
        simp only [Bool.false_eq_true, false_iff]
        rintro rfl
        exact hkl rfl⟩
     | false =>
      have h4' : ¬ n.zh = m.zh := fun e => by have := h4.2 e; cases this
      exact ⟨false, by simp, by simp [key, h4']⟩
    ·exact ⟨false, by simp [h3], by simp [key, h3]⟩
   ·exact ⟨false, by simp [h1, h2], by simp [key, h2]⟩
  ·exact ⟨false, by simp [h1], by simp [key, h1]⟩
theorem alW (n m : za) (h : nwt n ≤ 1099511627776) : afc (Qe n m) (n = m) := by
 by_cases e : n = m
 ·refine ⟨true, ?_, by simp [e]⟩
  unfold Qe
  exact ZR (2 * yV n) fun k hk => (aoP n h k hk m).yes e
 ·refine ⟨false, ?_, by simp [e]⟩
  unfold Qe
  exact ZR (2 * yV n) fun k hk => (aoP n h k hk m).no e
end Go.Proofs.YtclohbgnaopjfaaDoor
namespace Go.Proofs.YtclohbgnaopjfaaDoor
set_option linter.unusedSimpArgs false
set_option linter.unusedVariables false
open Go Classical
noncomputable def cH : List za → List za → Nat
 | x :: l, y :: r => if x = y then cH l r + 1 else 0
 | _, _ => 0
theorem aut : ∀ l r : List za, cH l r ≤ l.length ∧ cH l r ≤ r.length
 | [], r => by simp [cH]
 | x :: l, [] => by simp [cH]
 | x :: l, y :: r => by
  have := aut l r
  rw [cH]
  split <;> simp <;> omega
noncomputable def cT (x y : List za) (h : Nat) : Nat := min (cH x.reverse y.reverse) (min x.length y.length - h)
theorem amR (x y : za) (h : nwt x ≤ 1099511627776) : Qe x y = some (decide (x = y)) := by
 obtain ⟨b, h1, h2⟩ := alW x y h
 rw [h1]
 by_cases e : x = y
 ·rw [h2.2 e]; simp [e]
 ·cases b with
  | false => simp [e]
  | true => exact (e (h2.1 rfl)).elim
theorem auv (x y : List za) (hw : zR x ≤ 1099511627776) (hy : y.length ≤ 1099511627776) : ∀ (sx sy px py : List za) (k : Nat), x = px ++ sx → y = py ++ sy → px.length = py.length → sx.length < k → xm x y k (px.length : Int) = some ((px.length + cH sx sy : Nat) : Int)
 | [], sy, px, py, k, hx, hy', hl, hk => by
  obtain ⟨k, rfl⟩ : ∃ j, k = j + 1 := ⟨k - 1, by omega⟩
  have hxl := congrArg List.length hx
  simp only [List.length_append, List.length_nil] at hxl
  have g : decide ((px.length : Int) < (if (y.length : Int) < (x.length : Int) then (y.length : Int) else (x.length : Int))) = false := by
   simp; split <;> omega
  rw [xm, g]
  simp [cH]
 | a :: sx, [], px, py, k, hx, hy', hl, hk => by
  obtain ⟨k, rfl⟩ : ∃ j, k = j + 1 := ⟨k - 1, by omega⟩
  have hyl := congrArg List.length hy'
  simp only [List.length_append, List.length_nil] at hyl
  have g : decide ((px.length : Int) < (if (y.length : Int) < (x.length : Int) then (y.length : Int) else (x.length : Int))) = false := by
   simp; split <;> omega
  rw [xm, g]
  simp [cH]
 | a :: sx, b :: sy, px, py, k, hx, hy', hl, hk => by
  obtain ⟨k, rfl⟩ : ∃ j, k = j + 1 := ⟨k - 1, by omega⟩
  have hxl := congrArg List.length hx
  have hyl := congrArg List.length hy'
  simp only [List.length_append, List.length_cons] at hxl hyl hk
  have hlen := qy x
  have g : decide ((px.length : Int) < (if (y.length : Int) < (x.length : Int) then (y.length : Int) else (x.length : Int))) = true := by
   simp; split <;> omega
  have r1 : rd x (px.length : Int) = some a := by rw [hx]; exact Vf _ _ _
  have r2 : rd y (px.length : Int) = some b := by rw [hy', hl]; exact Vf _ _ _
  have hwa : nwt a ≤ zR x := jI (by rw [hx]; simp)
  rw [xm, g]
  simp only [if_true, r1, r2, Option.bind_some]
  rw [amR a b (by omega)]
  simp only [Option.bind_some]
  by_cases e : a = b
  ·have ih := auv x y hw hy sx sy (px ++ [a]) (py ++ [b]) k (by simp [hx]) (by simp [hy']) (by simp [hl]) (by omega)
   have e1 : w64 ((px.length : Int) + 1) = ((px ++ [a]).length : Int) := by rw [qd (by omega)]; simp
   rw [if_pos (by simp [e]), e1, ih, cH, if_pos e]
   simp; omega
  ·rw [if_neg (by simp [e]), cH, if_neg e]
   simp
theorem awF (x y : List za) (h : Nat) (hw : zR x ≤ 1099511627776) (hyl : y.length ≤ 1099511627776) (hh : h ≤ x.length ∧ h ≤ y.length) : ∀ (u v tx ty : List za) (k : Nat), x = u.reverse ++ tx → y = v.reverse ++ ty → tx.length = ty.length → tx.length ≤ min x.length y.length - h → u.length < k →
  xW x y (h : Int) k (tx.length : Int) = some ((tx.length + min (cH u v) (min x.length y.length - h - tx.length) : Nat) : Int) := by
 have hlen := qy x
 have hlim : w64 ((if (y.length : Int) < (x.length : Int) then (y.length : Int) else (x.length : Int)) - (h : Int)) = ((min x.length y.length - h : Nat) : Int) := by
  have : (if (y.length : Int) < (x.length : Int) then (y.length : Int) else (x.length : Int)) = ((min x.length y.length : Nat) : Int) := by split <;> omega
  rw [this, qd (by omega)]
  omega
 intro u
 induction u with
 | nil =>
  intro v tx ty k hx hy hl ht hk
  obtain ⟨k, rfl⟩ : ∃ j, k = j + 1 := ⟨k - 1, by omega⟩
  have hxl := congrArg List.length hx
  simp at hxl
  have g : decide ((tx.length : Int) < ((min x.length y.length - h : Nat) : Int)) = decide (tx.length < min x.length y.length - h) := by simp
  rw [xW, hlim]
  by_cases c : tx.length < min x.length y.length - h
  ·omega
  ·have g : decide ((tx.length : Int) < ((min x.length y.length - h : Nat) : Int)) = false := by simp; omega
   rw [g]
   simp [cH]
 | cons a u ih =>
  intro v tx ty k hx hy hl ht hk
  obtain ⟨k, rfl⟩ : ∃ j, k = j + 1 := ⟨k - 1, by omega⟩
  have hxl := congrArg List.length hx
  have hyl' := congrArg List.length hy
  simp only [List.length_append, List.length_reverse, List.length_cons] at hxl hyl' hk
  rw [xW, hlim]
  by_cases c : tx.length < min x.length y.length - h
  ·have g : decide ((tx.length : Int) < ((min x.length y.length - h : Nat) : Int)) = true := by simp; omega
   cases v with
   | nil => simp at hyl'; omega
   | cons b v =>
    simp only [List.length_cons] at hyl'
    have hx' : x = u.reverse ++ a :: tx := by rw [hx]; simp
    have hy' : y = v.reverse ++ b :: ty := by rw [hy]; simp
    have i1 : w64 (w64 ((x.length : Int) - 1) - (tx.length : Int)) = (u.reverse.length : Int) := by
     rw [qd (x := (x.length : Int) - 1) (by omega), qd (by omega)]; simp; omega
    have i2 : w64 (w64 ((y.length : Int) - 1) - (tx.length : Int)) = (v.reverse.length : Int) := by
     rw [qd (x := (y.length : Int) - 1) (by omega), qd (by omega)]; simp; omega
    have r1 : rd x (u.reverse.length : Int) = some a := by rw [hx']; exact Vf _ _ _
    have r2 : rd y (v.reverse.length : Int) = some b := by rw [hy']; exact Vf _ _ _
    have hwa : nwt a ≤ zR x := jI (by rw [hx']; simp)
    rw [g]
    simp only [if_true, i1, i2, r1, r2, Option.bind_some]
    rw [amR a b (by omega)]
    simp only [Option.bind_some]
    by_cases e : a = b
    ·have := ih v (a :: tx) (b :: ty) k hx' hy' (by simp [hl]) (by simp; omega) (by omega)
     have e1 : w64 ((tx.length : Int) + 1) = ((a :: tx).length : Int) := by rw [qd (by omega)]; simp
     rw [if_pos (by simp [e]), e1, this, cH, if_pos e]
     simp only [List.length_cons, Option.some.injEq]
     omega
    ·rw [if_neg (by simp [e]), cH, if_neg e]
     simp
  ·have g : decide ((tx.length : Int) < ((min x.length y.length - h : Nat) : Int)) = false := by simp; omega
   rw [g]
   simp only [Bool.false_eq_true, if_false, Option.some.injEq]
   omega
end Go.Proofs.YtclohbgnaopjfaaDoor
namespace Go.Proofs.YtclohbgnaopjfaaDoor
set_option linter.unusedSimpArgs false
set_option linter.unusedVariables false
open Go Classical
def alD (a b : za) : Bool := decide (a.Kind = b.Kind) && !isT a && decide (a.zh.map (·.Name) = b.zh.map (·.Name))
theorem aq8 (b : List ze) : ∀ (suf pre : List ze) (tb pb : List ze) (i : Int), i = (pre.length : Int) → b = pb ++ tb → pb.length = pre.length → suf.length = tb.length → zJ b suf i = some (if suf.map (·.Name) = tb.map (·.Name) then .inr () else .inl false)
 | [], pre, tb, pb, i, hi, hb, hl, hs => by
  have : tb = [] := List.eq_nil_of_length_eq_zero (by simpa using hs.symm)
  subst this
  simp [zJ]
 | y :: suf, pre, [], pb, i, hi, hb, hl, hs => by simp at hs
 | y :: suf, pre, x :: tb, pb, i, hi, hb, hl, hs => by
  simp only [List.length_cons] at hs
  have hx : rd b (pre.length : Int) = some x := by rw [hb, ← hl]; exact Vf _ _ _
  rw [zJ, hi, hx]
  simp only [Option.bind_some, KO]
  by_cases e : y.Name = x.Name
  ·rw [if_neg (by simp [e]), aq8 b suf (pre ++ [y]) tb (pb ++ [x]) _ (by simp) (by simp [hb]) (by simp [hl]) (by omega)]
   simp [e]
  ·rw [if_pos (by simp [e])]
   simp [e]
theorem akS (a b : za) (h : a.zh.length ≤ 9223372036854775807) : Wh a b = some (alD a b) := by
 unfold Wh alD
 by_cases hk : a.Kind = b.Kind
 ·rw [if_pos (by simp [hk])]
  cases ht : isT a with
  | true =>
   have : (!(a.Kind == ([116, 101, 120, 116] : Str))) = false := by rw [Qt, ht]; rfl
   rw [this]
   simp
  | false =>
   have : (!(a.Kind == ([116, 101, 120, 116] : Str))) = true := by rw [Qt, ht]; rfl
   rw [this]
   simp only [if_true]
   unfold qV
   by_cases hl : a.zh.length = b.zh.length
   ·simp only [hl, bne_self_eq_false, Bool.false_eq_true, if_false]
    rw [wz (by omega), aq8 b.zh a.zh [] b.zh [] 0 rfl rfl rfl hl]
    by_cases e : a.zh.map (·.Name) = b.zh.map (·.Name)
    ·simp [e, hk]
    ·simp [e, hk]
   ·have h1 : ((a.zh.length : Int) != (b.zh.length : Int)) = true := by simp; omega
    have h2 : ¬ a.zh.map (·.Name) = b.zh.map (·.Name) := fun e => hl (by simpa using congrArg List.length e)
    rw [if_pos h1]
    simp [h2, hk]
 ·rw [if_neg (by simp [hk])]
  simp [hk]
theorem ao3 (l : List za) (f : za → Option za) (hf : ∀ x ∈ l, f x = some x) (hl : l.length ≤ 1099511627776) : ∀ (d i k : Nat), l.length - i ≤ d → d < k → i ≤ l.length → jZ l f k (i : Int) l = some l
 | 0, i, k, hd, hk, hi => by
  obtain ⟨k, rfl⟩ : ∃ j, k = j + 1 := ⟨k - 1, by omega⟩
  have g : decide ((i : Int) < (l.length : Int)) = false := by simp; omega
  rw [jZ, g]
  simp
 | d + 1, i, k, hd, hk, hi => by
  obtain ⟨k, rfl⟩ : ∃ j, k = j + 1 := ⟨k - 1, by omega⟩
  rw [jZ]
  by_cases hlt : i < l.length
  ·have g : decide ((i : Int) < (l.length : Int)) = true := by simp; omega
   have hx : l[i]? = some l[i] := List.getElem?_eq_getElem hlt
   have hw : wr l (i : Int) l[i] = some l := by
    have : wr l (i : Int) l[i] = some (l.set i l[i]) := by
     unfold wr
     rw [if_pos (by omega)]
     simp
    rw [this, List.set_getElem_self]
   have e1 : w64 ((i : Int) + 1) = ((i + 1 : Nat) : Int) := by rw [qd (by omega)]; omega
   rw [g]
   simp only [if_true]
   rw [xg hx]
   simp only [Option.bind_some]
   rw [hf _ (List.getElem_mem hlt)]
   simp only [Option.bind_some]
   rw [hw]
   simp only [Option.bind_some]
   rw [e1]
   exact ao3 l f hf hl d (i + 1) k (by omega) (by omega) (by omega)
  ·have g : decide ((i : Int) < (l.length : Int)) = false := by simp; omega
   rw [g]
   simp
theorem au1 (n : za) : nwt n ≤ 1099511627776 → ∀ kr, yV n ≤ kr → xc kr n = some n := by
 induction n using za.ind with
 | h n ih =>
  intro hw kr hk
  have hd := xY n
  obtain ⟨kr, rfl⟩ : ∃ j, kr = j + 1 := ⟨kr - 1, by omega⟩
  have hwt := qI n
  have hl := qy n.Kids
  have hm := adh n.Marks
  have ha := xB n.zh
  rw [xc]
  unfold slices_Clone_string wO qh
  rw [ko (by simp; omega), ko (by simp; omega), ko (by simp; omega)]
  simp only [Option.bind_some, List.nil_append]
  have h0 : ((0 : Nat) : Int) = 0 := rfl
  rw [ZR (n.Kids.length + 1) fun k hk' => by
   have := ao3 n.Kids (xc kr) (fun x hx => ih x hx (by have := jI hx; omega) kr (by have := yB hx; omega)) (by omega) n.Kids.length 0 k (by omega) (by omega) (by omega)
   rwa [h0] at this]
  simp only [Option.bind_some]
  cases n
  rfl
theorem copy_eq (n : za) (h : nwt n ≤ 1099511627776) : JO n = some n := by
 unfold JO
 exact ZR (yV n) fun kr hk => au1 n h kr hk
end Go.Proofs.YtclohbgnaopjfaaDoor
namespace Go.Proofs.YtclohbgnaopjfaaDoor
set_option linter.unusedSimpArgs false
set_option linter.unusedVariables false
open Go Classical
noncomputable def dh (a b : za) : Nat := cH a.Kids b.Kids
noncomputable def dt (a b : za) : Nat := cT a.Kids b.Kids (dh a b)
noncomputable def dm (a b : za) : Nat := a.Kids.length - dh a b - dt a b
noncomputable def dn (a b : za) : Nat := b.Kids.length - dh a b - dt a b
theorem auz (a b : za) : dh a b ≤ a.Kids.length ∧ dh a b ≤ b.Kids.length := aut _ _
theorem asq (a b : za) : dh a b + dt a b ≤ a.Kids.length ∧ dh a b + dt a b ≤ b.Kids.length := by
 have := auz a b
 unfold dt cT
 omega
def Xo (f : Int) : List ze → List ze → List zx
 | x :: l, y :: r => if (y.Value == x.Value) = true then Xo f l r else ⟨97, f, 0, [], x.Name, y.Value⟩ :: Xo f l r
 | _, _ => []
theorem adE (f : Int) : ∀ l r : List ze, (Xo f l r).length ≤ l.length
 | [], r => by simp [Xo]
 | x :: l, [] => by simp [Xo]
 | x :: l, y :: r => by
  have := adE f l r
  rw [Xo]
  split <;> simp <;> omega
theorem akh (B : List ze) (at' : Int) : ∀ (suf tb pb : List ze) (i : Int) (v : List zx), B = pb ++ tb → i = (pb.length : Int) → suf.length = tb.length → v.length + suf.length ≤ 1099511627776 → qi B at' suf i v = some (v ++ Xo (w64 (at' - 1)) suf tb)
 | [], tb, pb, i, v, hb, hi, hs, _ => by simp [qi, Xo]
 | y :: suf, [], pb, i, v, hb, hi, hs, _ => by simp at hs
 | y :: suf, x :: tb, pb, i, v, hb, hi, hs, hv => by
  simp only [List.length_cons] at hs hv
  have hl := congrArg List.length hb
  simp only [List.length_append, List.length_cons] at hl
  have g : decide (i < (B.length : Int)) = true := by simp; omega
  have r : rd B i = some x := by rw [hb, hi]; exact Vf _ _ _
  rw [qi, g]
  simp only [if_true, r, Option.bind_some]
  by_cases e : (x.Value == y.Value) = true
  ·rw [if_neg (by simp [e]), akh B at' suf tb (pb ++ [x]) _ v (by simp [hb]) (by simp [hi]) (by omega) (by omega), Xo, if_pos e]
  ·rw [if_pos (by simpa using e), ko (by simp; omega)]
   simp only [Option.bind_some]
   rw [akh B at' suf tb (pb ++ [x]) _ _ (by simp [hb]) (by simp [hi]) (by omega) (by simp; omega), Xo, if_neg e]
   simp
def Y4 (x : za × za × Nat) : List zx := Xo ((x.2.2 : Int) - 1) x.1.zh x.2.1.zh
inductive Dif : za → za → Nat → List Nat → List (za × za × Nat) → za → za → Nat → Prop
 | stop (a b : za) (s : Nat) (h : ¬ (dm a b = 1 ∧ dn a b = 1 ∧ ∀ x y, a.Kids[dh a b]? = some x → b.Kids[dh a b]? = some y → alD x y = true)) : Dif a b s [] [(a, b, s)] a b s
 | go (a b : za) (s : Nat) (x y : za) (q : List Nat) (c : List (za × za × Nat)) (m m' : za) (e : Nat) (h1 : dm a b = 1) (h2 : dn a b = 1) (hx : a.Kids[dh a b]? = some x) (hy : b.Kids[dh a b]? = some y) (ha : alD x y = true)
   (r : Dif x y (s + zC (a.Kids.take (dh a b)) + 1) q c m m' e) : Dif a b s (dh a b :: q) ((a, b, s) :: c) m m' e
theorem aqU : ∀ (d : Nat) (a b : za) (s : Nat), yV a ≤ d → ∃ q c m m' e, Dif a b s q c m m' e
 | 0, a, b, s, hd => by have := xY a; omega
 | d + 1, a, b, s, hd => by
  by_cases h : dm a b = 1 ∧ dn a b = 1 ∧ ∀ x y, a.Kids[dh a b]? = some x → b.Kids[dh a b]? = some y → alD x y = true
  ·obtain ⟨h1, h2, h3⟩ := h
   have l1 : dh a b < a.Kids.length := by unfold dm at h1; omega
   have l2 : dh a b < b.Kids.length := by unfold dn at h2; omega
   have hx : a.Kids[dh a b]? = some a.Kids[dh a b] := List.getElem?_eq_getElem l1
   have hy : b.Kids[dh a b]? = some b.Kids[dh a b] := List.getElem?_eq_getElem l2
   have hdx := yB (List.mem_of_getElem? hx)
   have := xY a
   obtain ⟨q, c, m, m', e, r⟩ := aqU d a.Kids[dh a b] b.Kids[dh a b] (s + zC (a.Kids.take (dh a b)) + 1) (by omega)
   exact ⟨_, _, _, _, _, .go a b s _ _ q c m m' e h1 h2 hx hy (h3 _ _ hx hy) r⟩
  ·exact ⟨_, _, _, _, _, .stop a b s h⟩
theorem akg {a b : za} (h : alD a b = true) : a.zh.length = b.zh.length := by
 unfold alD at h
 simp only [Bool.and_eq_true, decide_eq_true_eq] at h
 simpa using congrArg List.length h.2
theorem asD {a b : za} (h : alD a b = true) : isT a = false ∧ isT b = false := by
 unfold alD at h
 simp only [Bool.and_eq_true, decide_eq_true_eq, Bool.not_eq_true'] at h
 refine ⟨h.1.2, ?_⟩
 have := h.1.2
 unfold isT at this ⊢
 rw [← h.1.1]
 exact this
theorem akX (a b : za) (hw : nwt a ≤ 1073741824) (hwb : nwt b ≤ 1073741824) :
  (lim fun k => xm a.Kids b.Kids k (0 : Int)) = some ((dh a b : Nat) : Int) ∧ (lim fun k => xW a.Kids b.Kids ((dh a b : Nat) : Int) k (0 : Int)) = some ((dt a b : Nat) : Int) := by
 have w1 := kM a
 have w2 := kM b
 have l1 := qy a.Kids
 have l2 := qy b.Kids
 have hd := auz a b
 constructor
 ·refine ZR (a.Kids.length + 1) fun k hk => ?_
  have := auv a.Kids b.Kids (by omega) (by omega) a.Kids b.Kids [] [] k rfl rfl rfl (by omega)
  simpa [dh] using this
 ·refine ZR (a.Kids.length + 1) fun k hk => ?_
  have := awF a.Kids b.Kids (dh a b) (by omega) (by omega) hd a.Kids.reverse b.Kids.reverse [] [] k (by simp) (by simp) rfl (by simp) (by simp; omega)
  simpa [dt, cT] using this
theorem arC {a b s q c m m' e} (D : Dif a b s q c m m' e) : ∀ (k : Nat) (h0 m0 n0 : Int) (p : List Int) (v : List zx), q.length < k → nwt a ≤ 1073741824 → nwt b ≤ 1073741824 → s + nwt a ≤ 4294967296 → p.length + nwt a ≤ 4294967296 → v.length + nwt a ≤ 4294967296 → a.zh.length = b.zh.length →
  yH k a.Kind a.Text a.Marks a.zh a.Kids b.Kind b.Text b.Marks b.zh b.Kids (s : Int) h0 m0 n0 p v = some (m.Kids, m'.Kids, m.Kind, m.Text, m.Marks, m.zh, m'.Kind, m'.Text, m'.Marks, m'.zh, (e : Int), ((dh m m' : Nat) : Int), ((dm m m' : Nat) : Int), ((dn m m' : Nat) : Int), p ++ q.map (fun i : Nat => (i : Int)), v ++ c.flatMap Y4) := by
 induction D with
 | stop a b s h =>
  intro k h0 m0 n0 p v hk hwa hwb hs hp hv hal
  obtain ⟨k, rfl⟩ : ∃ j, k = j + 1 := ⟨k - 1, by omega⟩
  have wa := qI a
  have la := xB a.zh
  have l1 := qy a.Kids
  have l2 := qy b.Kids
  have w2 := kM b
  obtain ⟨e1, e2⟩ := akX a b hwa hwb
  have hd := asq a b
  have n1 : w64 (w64 ((a.Kids.length : Int) - ((dh a b : Nat) : Int)) - ((dt a b : Nat) : Int)) = ((dm a b : Nat) : Int) := by
   rw [qd (x := (a.Kids.length : Int) - ((dh a b : Nat) : Int)) (by omega), qd (by omega)]; unfold dm; omega
  have n2 : w64 (w64 ((b.Kids.length : Int) - ((dh a b : Nat) : Int)) - ((dt a b : Nat) : Int)) = ((dn a b : Nat) : Int) := by
   rw [qd (x := (b.Kids.length : Int) - ((dh a b : Nat) : Int)) (by omega), qd (by omega)]; unfold dn; omega
  rw [yH]
  unfold jE
  rw [wz (by omega), akh b.zh (s : Int) a.zh b.zh [] 0 v rfl rfl hal (by omega)]
  simp only [Option.bind_some]
  rw [wz trivial, e1]
  simp only [Option.bind_some]
  rw [e2]
  simp only [Option.bind_some, n1, n2]
  rw [qd (x := (s : Int) - 1) (by omega)]
  have fin : (some (a.Kids, b.Kids, a.Kind, a.Text, a.Marks, a.zh, b.Kind, b.Text, b.Marks, b.zh, (s : Int), ((dh a b : Nat) : Int), ((dm a b : Nat) : Int), ((dn a b : Nat) : Int), p, v ++ Xo ((s : Int) - 1) a.zh b.zh) : Option _) = some (a.Kids, b.Kids, a.Kind, a.Text, a.Marks, a.zh, b.Kind, b.Text, b.Marks, b.zh, (s : Int), ((dh a b : Nat) : Int), ((dm a b : Nat) : Int), ((dn a b : Nat) : Int), p ++ ([] : List Nat).map (fun i : Nat => (i : Int)), v ++ [(a, b, s)].flatMap Y4) := by
   simp [Y4]
  rw [← fin]
  by_cases h1 : dm a b = 1
  ·rw [if_neg (by simp [h1])]
   by_cases h2 : dn a b = 1
   ·rw [if_neg (by simp [h2])]
    have k1 : dh a b < a.Kids.length := by unfold dm at h1; omega
    have k2 : dh a b < b.Kids.length := by unfold dn at h2; omega
    have hx : a.Kids[dh a b]? = some a.Kids[dh a b] := List.getElem?_eq_getElem k1
    have hy : b.Kids[dh a b]? = some b.Kids[dh a b] := List.getElem?_eq_getElem k2
    have hwx := jI (List.mem_of_getElem? hx)
    have hlx := xB a.Kids[dh a b].zh
    have hwx2 := qI a.Kids[dh a b]
    rw [xg hx]
    simp only [Option.bind_some]
    rw [xg hy]
    simp only [Option.bind_some]
    rw [akS _ _ (by omega)]
    have hf : alD a.Kids[dh a b] b.Kids[dh a b] = false := by
     cases hc : alD a.Kids[dh a b] b.Kids[dh a b] with
     | false => rfl
     | true =>
      exfalso
      refine h ⟨h1, h2, fun x y hx' hy' => ?_⟩
      rw [hx] at hx'
      rw [hy] at hy'
      cases hx'
      cases hy'
      exact hc
    rw [hf]
    simp
   ·rw [if_pos (by simp; omega)]
  ·rw [if_pos (by simp; omega)]
 | go a b s x y q c m m' e h1 h2 hx hy ha r ih =>
  intro k h0 m0 n0 p v hk hwa hwb hs hp hv hal
  simp only [List.length_cons] at hk
  obtain ⟨k, rfl⟩ : ∃ j, k = j + 1 := ⟨k - 1, by omega⟩
  have wa := qI a
  have la := xB a.zh
  have l1 := qy a.Kids
  have l2 := qy b.Kids
  have w2 := kM b
  obtain ⟨e1, e2⟩ := akX a b hwa hwb
  have hd := asq a b
  have n1 : w64 (w64 ((a.Kids.length : Int) - ((dh a b : Nat) : Int)) - ((dt a b : Nat) : Int)) = ((dm a b : Nat) : Int) := by
   rw [qd (x := (a.Kids.length : Int) - ((dh a b : Nat) : Int)) (by omega), qd (by omega)]; unfold dm; omega
  have n2 : w64 (w64 ((b.Kids.length : Int) - ((dh a b : Nat) : Int)) - ((dt a b : Nat) : Int)) = ((dn a b : Nat) : Int) := by
   rw [qd (x := (b.Kids.length : Int) - ((dh a b : Nat) : Int)) (by omega), qd (by omega)]; unfold dn; omega
  have hkw := adk hx
  have hky := jI (List.mem_of_getElem? hy)
  have hlx := xB x.zh
  have hwx2 := qI x
  have hsz := kK (a.Kids.take (dh a b))
  have hap := adE ((s : Int) - 1) a.zh b.zh
  rw [yH]
  unfold jE
  rw [wz (by omega), akh b.zh (s : Int) a.zh b.zh [] 0 v rfl rfl hal (by omega)]
  simp only [Option.bind_some]
  rw [wz trivial, e1]
  simp only [Option.bind_some]
  rw [e2]
  simp only [Option.bind_some, n1, n2]
  rw [qd (x := (s : Int) - 1) (by omega)]
  rw [if_neg (by simp [h1]), if_neg (by simp [h2]), xg hx]
  simp only [Option.bind_some]
  rw [xg hy]
  simp only [Option.bind_some]
  rw [akS _ _ (by omega), ha]
  simp only [Option.bind_some, Bool.not_true, Bool.false_eq_true, if_false]
  rw [ko (by simp; omega)]
  simp only [Option.bind_some]
  have hsl : sl a.Kids 0 ((dh a b : Nat) : Int) = some (a.Kids.take (dh a b)) := akx (by omega)
  rw [hsl]
  simp only [Option.bind_some]
  rw [WH _ (by omega)]
  simp only [Option.bind_some]
  have es : w64 ((s : Int) + w64 ((zC (a.Kids.take (dh a b)) : Int) + 1)) = ((s + zC (a.Kids.take (dh a b)) + 1 : Nat) : Int) := by
   rw [qd (x := (zC (a.Kids.take (dh a b)) : Int) + 1) (by omega), qd (by omega)]; omega
  rw [es]
  rw [ih k _ _ _ (p ++ [((dh a b : Nat) : Int)]) (v ++ Xo ((s : Int) - 1) a.zh b.zh) (by omega) (by omega) (by omega) (by omega) (by simp; omega) (by rw [List.length_append]; omega) (akg ha)]
  simp [Y4]
theorem Dif.pre {a b s q c m m' e} (D : Dif a b s q c m m' e) : isT a = false → isT b = false → a.zh.length = b.zh.length → c.length = q.length + 1 ∧ (∃ t t', e = s + t ∧ At a q m t ∧ At b q m' t' ∧ isT m = false ∧ isT m' = false) ∧
  ∀ i, i ≤ q.length → ∃ x y t t', c[i]? = some (x, y, s + t) ∧ At a (q.take i) x t ∧ At b (q.take i) y t' ∧ isT x = false ∧ isT y = false ∧ x.zh.length = y.zh.length := by
 induction D with
 | stop a b s h =>
  intro ha hb hl
  refine ⟨rfl, ⟨0, 0, rfl, .nil _, .nil _, ha, hb⟩, fun i hi => ?_⟩
  simp only [List.length_nil, Nat.le_zero] at hi
  subst hi
  exact ⟨a, b, 0, 0, rfl, .nil _, .nil _, ha, hb, hl⟩
 | go a b s x y q c m m' e h1 h2 hx hy hal r ih =>
  intro ha hb hl
  obtain ⟨nx, ny⟩ := asD hal
  obtain ⟨i1, ⟨t, t', i2, i3, i4, i5, i6⟩, i7⟩ := ih nx ny (akg hal)
  refine ⟨by simp [i1], ⟨_, _, ?_, .cons a (dh a b) x q m t hx ha nx i3, .cons b (dh a b) y q m' t' hy hb ny i4, i5, i6⟩, fun i hi => ?_⟩
  ·omega
  ·cases i with
   | zero => exact ⟨a, b, 0, 0, rfl, .nil _, .nil _, ha, hb, hl⟩
   | succ i =>
    obtain ⟨u, v, w, w', j1, j2, j3, j4, j5, j6⟩ := i7 i (by simpa using hi)
    refine ⟨u, v, zC (a.Kids.take (dh a b)) + 1 + w, _, ?_, .cons a (dh a b) x (q.take i) u w hx ha nx j2, .cons b (dh a b) y (q.take i) v w' hy hb ny j3, j4, j5, j6⟩
    rw [List.getElem?_cons_succ, j1]
    congr 3
    omega
end Go.Proofs.YtclohbgnaopjfaaDoor
namespace Go.Proofs.YtclohbgnaopjfaaDoor
set_option linter.unusedSimpArgs false
set_option linter.unusedVariables false
open Go Classical
theorem Dif.awP {a b s q c m m' e} (D : Dif a b s q c m m' e) : (c.flatMap Y4).length ≤ nwt a ∧ q.length ≤ nwt a := by
 induction D with
 | stop a b s h =>
  have h1 := adE ((s : Int) - 1) a.zh b.zh
  have h2 := xB a.zh
  have h3 := qI a
  simp only [List.flatMap_cons, List.flatMap_nil, List.append_nil, Y4, List.length_nil]
  omega
 | go a b s x y q c m m' e h1 h2 hx hy ha r ih =>
  have k1 := adE ((s : Int) - 1) a.zh b.zh
  have k2 := xB a.zh
  have k3 := qI a
  have k4 := jI (List.mem_of_getElem? hx)
  simp only [List.flatMap_cons, List.length_append, List.length_cons]
  have : (Y4 (a, b, s)).length ≤ a.zh.length := k1
  omega
noncomputable def ams (m m' : za) (e : Nat) : List zx :=
 if dm m m' + dn m m' = 0 then [] else [⟨114, ((e + zC (m.Kids.take (dh m m')) : Nat) : Int), ((e + zC (m.Kids.take (dh m m')) + zC ((m.Kids.take (dh m m' + dm m m')).drop (dh m m')) : Nat) : Int), (m'.Kids.take (dh m m' + dn m m')).drop (dh m m'), [], []⟩]
theorem XE {a b q c m m' e} (D : Dif a b 0 q c m m' e) (ha : checkN a = 0) (hb : checkN b = 0) (hal : alD a b = true) (hwa : nwt a ≤ 1048576) (hwb : nwt b ≤ 1048576) :
  xQ a b = some (c.flatMap Y4 ++ ams m m' e, 0) := by
 obtain ⟨na, nb⟩ := asD hal
 have hlen := akg hal
 obtain ⟨w1, w2⟩ := D.awP
 obtain ⟨c1, ⟨t, t', z1, z2, z3, nm, nm'⟩, _⟩ := D.pre na nb hlen
 have z4 := z2.len
 have z5 := z2.sizes
 have z6 := kK a.Kids
 have z7 := kM a
 have z8 := z2.wt
 have z9 := z3.wt
 have x1 := kM m
 have x2 := kM m'
 have x3 := qy m.Kids
 have x4 := qy m'.Kids
 have x5 := asq m m'
 have x6 : dh m m' + dm m m' ≤ m.Kids.length := by unfold dm; omega
 have x7 : dh m m' + dn m m' ≤ m'.Kids.length := by unfold dn; omega
 have x8 := abV m.Kids (dh m m')
 have x9 := amQ m.Kids (dh m m')
 have wmid : ∀ (l : List za) (i j : Nat), zR ((l.take j).drop i) ≤ zR l := fun l i j => by
  have h1 := kN ((l.take j).take i) ((l.take j).drop i)
  rw [List.take_append_drop] at h1
  have h2 := amQ l j
  omega
 have hw1 := wmid m.Kids (dh m m') (dh m m' + dm m m')
 have hw2 := wmid m'.Kids (dh m m') (dh m m' + dn m m')
 have hs1 := kK ((m.Kids.take (dh m m' + dm m m')).drop (dh m m'))
 have hof : acX a b = some ⟨⟨m.Kind, m.Text, m.Marks, m.zh, m.Kids⟩, ⟨m'.Kind, m'.Text, m'.Marks, m'.zh, m'.Kids⟩, up q, (e : Int), ((dh m m' : Nat) : Int), ((dm m m' : Nat) : Int), ((dn m m' : Nat) : Int), c.flatMap Y4⟩ := by
  unfold acX
  have h0 : ((0 : Nat) : Int) = 0 := rfl
  rw [ZR (q.length + 1) fun k hk => by
   have := arC D k 0 0 0 [] [] (by omega) (by omega) (by omega) (by omega) (by simp; omega) (by simp; omega) hlen
   rw [h0] at this
   exact this]
  simp only [Option.bind_some, List.nil_append]
  rfl
 have hsum : w64 (((dm m m' : Nat) : Int) + ((dn m m' : Nat) : Int)) = ((dm m m' + dn m m' : Nat) : Int) := by rw [qd (by omega)]; omega
 have s1 : sl m.Kids 0 ((dh m m' : Nat) : Int) = some (m.Kids.take (dh m m')) := akx (by omega)
 have i1 : w64 (((dh m m' : Nat) : Int) + ((dm m m' : Nat) : Int)) = ((dh m m' + dm m m' : Nat) : Int) := by rw [qd (by omega)]; omega
 have i2 : w64 (((dh m m' : Nat) : Int) + ((dn m m' : Nat) : Int)) = ((dh m m' + dn m m' : Nat) : Int) := by rw [qd (by omega)]; omega
 have s2 : sl m.Kids ((dh m m' : Nat) : Int) ((dh m m' + dm m m' : Nat) : Int) = some ((m.Kids.take (dh m m' + dm m m')).drop (dh m m')) := Xc (by omega) x6
 have s3 : sl m'.Kids ((dh m m' : Nat) : Int) ((dh m m' + dn m m' : Nat) : Int) = some ((m'.Kids.take (dh m m' + dn m m')).drop (dh m m')) := Xc (by omega) x7
 have f1 : w64 ((e : Int) + (zC (m.Kids.take (dh m m')) : Int)) = ((e + zC (m.Kids.take (dh m m')) : Nat) : Int) := by rw [qd (by omega)]; omega
 have f2 : w64 (((e + zC (m.Kids.take (dh m m')) : Nat) : Int) + (zC ((m.Kids.take (dh m m' + dm m m')).drop (dh m m')) : Int)) = ((e + zC (m.Kids.take (dh m m')) + zC ((m.Kids.take (dh m m' + dm m m')).drop (dh m m')) : Nat) : Int) := by rw [qd (by omega)]; omega
 unfold xQ
 rw [right_eq a (by omega), right_eq b (by omega), ha, hb]
 simp only [Option.bind_some, beq_self_eq_true, Bool.not_true, Bool.false_eq_true, if_false]
 have hlx := xB a.zh
 have hwx2 := qI a
 rw [akS a b (by omega), hal]
 simp only [Option.bind_some, Bool.not_true, Bool.false_eq_true, if_false]
 rw [hof]
 simp only [Option.bind_some, hsum]
 by_cases h0 : dm m m' + dn m m' = 0
 ·rw [if_pos (by simp only [beq_iff_eq]; omega)]
  simp [ams, h0]
 ·rw [if_neg (by simp only [beq_iff_eq]; omega), s1]
  simp only [Option.bind_some]
  rw [WH _ (by omega)]
  simp only [Option.bind_some, i1, i2]
  rw [s2]
  simp only [Option.bind_some]
  rw [WH _ (by omega)]
  simp only [Option.bind_some]
  rw [s3]
  simp only [Option.bind_some]
  rw [copy_eq _ (by rw [qI]; simp only [xK, wR, List.length_nil]; omega)]
  simp only [Option.bind_some, f1, f2]
  rw [ko (by simp only [List.length_cons, List.length_nil]; omega), ams, if_neg h0]
  rfl
end Go.Proofs.YtclohbgnaopjfaaDoor
namespace Go.Proofs.YtclohbgnaopjfaaDoor
set_option linter.unusedSimpArgs false
set_option linter.unusedVariables false
open Go Classical
theorem akl : ∀ l r : List za, cH l r = cH r l
 | [], [] => rfl
 | [], y :: r => by simp [cH]
 | x :: l, [] => by simp [cH]
 | x :: l, y :: r => by
  have ih := akl l r
  rw [cH, cH, ih]
  by_cases e : x = y
  ·rw [if_pos e, if_pos e.symm]
  ·rw [if_neg e, if_neg (Ne.symm e)]
theorem aol : ∀ (l r : List za) (k : Nat), k ≤ cH l r → l.take k = r.take k
 | [], r, k, h => by
  have : k = 0 := by simpa [cH] using h
  subst this; simp
 | x :: l, [], k, h => by
  have : k = 0 := by simpa [cH] using h
  subst this; simp
 | x :: l, y :: r, k, h => by
  rw [cH] at h
  split at h
  ·rename_i e
   cases k with
   | zero => simp
   | succ k => rw [List.take_succ_cons, List.take_succ_cons, aol l r k (by omega), e]
  ·have : k = 0 := by omega
   subst this; simp
theorem aah (a b : za) : dh a b = dh b a := akl _ _
theorem att (a b : za) : dt a b = dt b a := by
 unfold dt cT
 rw [aah a b, akl, Nat.min_comm a.Kids.length]
theorem akL (a b : za) : dm a b = dn b a := by
 unfold dm dn
 rw [aah a b, att a b]
theorem aot (a b : za) : dn a b = dm b a := (akL b a).symm
theorem amP (a b : za) : alD a b = alD b a := by
 unfold alD
 by_cases h : a.Kind = b.Kind
 ·have : isT a = isT b := by unfold isT; rw [h]
  rw [this, decide_eq_decide.2 (show a.Kind = b.Kind ↔ b.Kind = a.Kind from ⟨Eq.symm, Eq.symm⟩), decide_eq_decide.2 (show (a.zh.map (·.Name) = b.zh.map (·.Name)) ↔ (b.zh.map (·.Name) = a.zh.map (·.Name)) from ⟨Eq.symm, Eq.symm⟩)]
 ·rw [decide_eq_false h, decide_eq_false (Ne.symm h)]
  simp
theorem aqE (a b : za) : a.Kids.take (dh a b) = b.Kids.take (dh a b) := aol _ _ _ (Nat.le_refl _)
theorem Dif.symm {a b s q c m m' e} (D : Dif a b s q c m m' e) : Dif b a s q (c.map fun x => (x.2.1, x.1, x.2.2)) m' m e := by
 induction D with
 | stop a b s h =>
  refine .stop b a s fun ⟨h1, h2, h3⟩ => h ⟨by rw [akL, h2], by rw [aot, h1], fun x y hx hy => ?_⟩
  rw [amP]
  rw [aah] at hx hy
  exact h3 y x hy hx
 | go a b s x y q c m m' e h1 h2 hx hy ha r ih =>
  rw [aqE] at ih
  rw [aah a b] at ih ⊢
  exact .go b a s y x q _ m' m e (by rw [akL, h2]) (by rw [aot, h1]) (by rw [← aah a b]; exact hy) (by rw [← aah a b]; exact hx) (by rw [amP]; exact ha) ih
end Go.Proofs.YtclohbgnaopjfaaDoor
namespace Go.Proofs.YtclohbgnaopjfaaDoor
set_option linter.unusedSimpArgs false
set_option linter.unusedVariables false
open Go Classical
inductive GoodS : za → List zx → za → Prop
 | nil (n : za) : GoodS n [] n
 | cons (n a b : za) (T : List Tk) (s : zx) (l : List zx) (h : TD n T) (hw : wD n T ≤ 500000) (ha : n.zh = []) (hs : aoy T s) (h1 : kV n s = some (a, 0)) (h2 : GoodS a l b) : GoodS n (s :: l) b
theorem GoodS.does {n b : za} {l : List zx} (h : GoodS n l b) : Does n l b := by
 induction h with
 | nil n => exact .nil n
 | cons n a b T s l _ _ _ _ h1 _ ih => exact .cons _ _ _ _ _ h1 ih
theorem GoodS.app {n a b : za} {l r : List zx} (h : GoodS n l a) (h2 : GoodS a r b) : GoodS n (l ++ r) b := by
 induction h with
 | nil n => exact h2
 | cons n a' b' T s l g1 g2 g3 g4 g5 _ ih => exact .cons _ _ _ _ _ _ g1 g2 g3 g4 g5 (ih h2)
theorem Dif.hd {a b s q c m m' e} (D : Dif a b s q c m m' e) : ∃ c', c = (a, b, s) :: c' := by
 cases D with
 | stop => exact ⟨[], rfl⟩
 | go => exact ⟨_, rfl⟩
theorem K3 (f : Int) : ∀ l : List ze, Xo f l l = []
 | [] => rfl
 | x :: l => by rw [Xo, if_pos (by simp), K3 f l]
end Go.Proofs.YtclohbgnaopjfaaDoor
namespace Go.Proofs.YtclohbgnaopjfaaDoor
set_option linter.unusedSimpArgs false
set_option linter.unusedVariables false
open Go Classical
abbrev exA : za := ⟨[100, 111, 99], [], [], [], [⟨[112], [], [], [], [⟨jK, [104, 105], [], [], []⟩]⟩, ⟨[113], [], [], [], []⟩]⟩
abbrev exB : za := ⟨[100, 111, 99], [], [], [], [⟨[112], [], [], [], [⟨jK, [104, 111], [], [], []⟩]⟩, ⟨[113], [], [], [], []⟩]⟩
abbrev exP (t : Str) : za := ⟨[112], [], [], [], [⟨jK, t, [], [], []⟩]⟩
theorem an5 : jF = some true := by
 have c1 : dh exA exB = 0 := by simp [dh, cH]
 have c2 : dt exA exB = 1 := by simp [dt, cT, c1, cH]
 have c3 : dh (exP [104, 105]) (exP [104, 111]) = 0 := by simp [dh, cH]
 have c4 : dt (exP [104, 105]) (exP [104, 111]) = 0 := by simp [dt, cT, cH]
 have m1 : dm exA exB = 1 := by simp [dm, c1, c2]
 have n1 : dn exA exB = 1 := by simp [dn, c1, c2]
 have m2 : dm (exP [104, 105]) (exP [104, 111]) = 1 := by simp [dm, c3, c4]
 have n2 : dn (exP [104, 105]) (exP [104, 111]) = 1 := by simp [dn, c3, c4]
 have D2 : Dif (exP [104, 105]) (exP [104, 111]) (0 + zC (exA.Kids.take (dh exA exB)) + 1) [] [(exP [104, 105], exP [104, 111], 0 + zC (exA.Kids.take (dh exA exB)) + 1)] (exP [104, 105]) (exP [104, 111]) (0 + zC (exA.Kids.take (dh exA exB)) + 1) := by
  refine .stop _ _ _ fun ⟨_, _, h⟩ => ?_
  have := h ⟨jK, [104, 105], [], [], []⟩ ⟨jK, [104, 111], [], [], []⟩ (by rw [c3]; rfl) (by rw [c3]; rfl)
  exact absurd this (by decide)
 have D1 := Dif.go exA exB 0 (exP [104, 105]) (exP [104, 111]) _ _ _ _ _ m1 n1 (by rw [c1]; rfl) (by rw [c1]; rfl) (by decide) D2
 have h := XE D1 (by decide +kernel) (by decide +kernel) (by decide) (by decide +kernel) (by decide +kernel)
 have hr : ams (exP [104, 105]) (exP [104, 111]) (0 + zC (exA.Kids.take (dh exA exB)) + 1) = [⟨114, 1, 3, [⟨jK, [104, 111], [], [], []⟩], [], []⟩] := by
  have z : zC (exA.Kids.take (dh exA exB)) = 0 := by rw [c1]; rfl
  have z2 : zC ([⟨jK, [104, 105], [], [], []⟩] : List za) = 2 := by decide +kernel
  unfold ams
  rw [m2, n2, c3, z]
  simp [z2, zC]
 rw [hr] at h
 simp only [Y4, Xo, List.flatMap_cons, List.flatMap_nil, List.nil_append] at h
 unfold jF
 rw [h]
 rfl
end Go.Proofs.YtclohbgnaopjfaaDoor
namespace Go.Proofs.YtclohbgnaopjfaaDoor
set_option linter.unusedSimpArgs false
set_option linter.unusedVariables false
open Go
def Xe (m : List Str) : Prop := m = [] ∨ m = [[98]] ∨ m = [[105]] ∨ m = [[98], [105]]
inductive BN : za → Prop
 | text (t : Str) (m : List Str) (h1 : t ≠ []) (h2 : Lib.validD t = true) (hm : Xe m) : BN ⟨jK, t, m, [], []⟩
 | node (k : Str) (a : List ze) (ks : List za) (hk : isName k = true) (h1 : a.all (fun x => isValue x.Value) = true) (h2 : Z6 (a.map (·.Name)) = true) (hs : ∀ x ∈ ks, BN x) (hj : vE ks) : BN ⟨k, [], [], a, ks⟩
theorem acF {k : Str} (h : isName k = true) : (k == jK) = false := by
 unfold isName at h
 simp only [Bool.and_eq_true, decide_eq_true_eq] at h
 simpa using h.2
theorem amS {m : List Str} (h : Xe m) : Z6 m = true := by
 rcases h with rfl | rfl | rfl | rfl <;> decide +kernel
theorem amL {m : List Str} (h : Xe m) : xK m ≤ 4 := by
 rcases h with rfl | rfl | rfl | rfl <;> simp [xK]
theorem ao1 : ∀ (l : List za) (last : Option za), (∀ x ∈ l, qK x = true) → vE l → (∀ x y, last = some x → l.head? = some y → wC x y = false) → xS last l = true
 | [], last, _, _, _ => abP last
 | y :: l, last, hf, hj, hl => by
  rw [Kh, hf y (by simp)]
  have h2 : xS (some y) l = true := by
   refine ao1 l (some y) (fun x hx => hf x (by simp [hx])) ?_ ?_
   ·cases l with
    | nil => trivial
    | cons z l => exact hj.2
   ·intro x z hx hz
    cases hx
    cases l with
    | nil => cases hz
    | cons z' l => cases hz; exact hj.1
  rw [h2]
  cases last with
  | none => rfl
  | some x => simp [hl x y rfl rfl]
theorem atY {n : za} (h : BN n) : qK n = true := by
 induction h with
 | text t m h1 h2 hm =>
  rw [jg]
  have h3 := amS hm
  simp [isT, h1, h2, h3]
 | node k a ks hk h1 h2 hs hj ih =>
  rw [jg]
  have hkk : isT (⟨k, [], [], a, ks⟩ : za) = false := acF hk
  have h3 := ao1 ks none ih hj (fun x y hx => by cases hx)
  simp only [hkk, Bool.false_eq_true, if_false, h1, hk, h2, h3]
  decide
theorem atM {n : za} (h : BN n) (ht : isT n = true) : n.Text ≠ [] ∧ Lib.validD n.Text = true ∧ Xe n.Marks ∧ n.zh = [] ∧ n.Kids = [] := by
 cases h with
 | text t m h1 h2 hm => exact ⟨h1, h2, hm, rfl, rfl⟩
 | node k a ks hk h1 h2 hs hj => rw [show isT (⟨k, [], [], a, ks⟩ : za) = false from acF hk] at ht; cases ht
theorem aoS {n : za} (h : BN n) : (∀ x ∈ n.Kids, BN x) ∧ vE n.Kids := by
 cases h with
 | text t m h1 h2 hm => exact ⟨by simp, trivial⟩
 | node k a ks hk h1 h2 hs hj => exact ⟨hs, hj⟩
theorem ahs : ∀ (o : List za) (x n : za), vE (o ++ [x]) → wC x n = false → vE (o ++ [x, n])
 | [], x, n, _, h => ⟨h, trivial⟩
 | [a], x, n, h1, h => ⟨h1.1, h, trivial⟩
 | a :: b :: o, x, n, h1, h => ⟨h1.1, ahs (b :: o) x n h1.2 h⟩
theorem aiO : ∀ (o : List za) (x n : za), vE (o ++ [x]) → (∀ a, wC a x = wC a n) → vE (o ++ [n])
 | [], x, n, _, _ => trivial
 | [a], x, n, h1, h => ⟨by rw [← h]; exact h1.1, trivial⟩
 | a :: b :: o, x, n, h1, h => ⟨h1.1, aiO (b :: o) x n h1.2 h⟩
theorem anN : ∀ (l : List za), (∀ x ∈ l, isT x = false) → vE l
 | [], _ => trivial
 | [a], _ => trivial
 | a :: b :: l, h => ⟨by unfold wC; rw [h a (by simp)]; rfl, anN (b :: l) fun x hx => h x (by simp [hx])⟩
theorem aqC (o : List za) (n : za) (h : ∀ x ∈ o, BN x) (hj : vE o) (hn : BN n) : (∀ x ∈ joinStep o n, BN x) ∧ vE (joinStep o n) := by
 rcases vC o with rfl | ⟨o, x, rfl⟩
 ·rw [vK]
  split
  ·exact ⟨by simp, trivial⟩
  ·exact ⟨by simpa using hn, trivial⟩
 ·rw [wK]
  split
  ·exact ⟨h, hj⟩
  ·split
   ·rename_i hc
    simp only [Bool.and_eq_true, decide_eq_true_eq] at hc
    obtain ⟨⟨h1, h2⟩, h3⟩ := hc
    have hx := h x (by simp)
    cases hn with
    | text t m ht hv hm =>
     cases hx with
     | text t' m' ht' hv' hm' =>
      simp only at h3
      subst h3
      refine ⟨fun y hy => ?_, aiO o _ _ hj fun a => rfl⟩
      rcases List.mem_append.1 hy with hy | hy
      ·exact h y (by simp [hy])
      ·simp at hy
       subst hy
       exact .text _ _ (by simp [ht']) (by rw [(aee t hv').2]; exact hv) hm
     | node k a ks hk ha hb hs hj' => rw [show isT (⟨k, [], [], a, ks⟩ : za) = false from acF hk] at h2; cases h2
    | node k a ks hk ha hb hs hj' => rw [show isT (⟨k, [], [], a, ks⟩ : za) = false from acF hk] at h1; cases h1
   ·rename_i hc
    refine ⟨fun y hy => ?_, ahs o x n hj ?_⟩
    ·rcases List.mem_append.1 hy with hy | hy
     ·exact h y (by simp [hy])
     ·simp at hy
      rcases hy with rfl | rfl
      ·exact h y (by simp)
      ·exact hn
    ·have hc' : (isT n && isT x && decide (x.Marks = n.Marks)) = false := by simpa using hc
     unfold wC
     rw [Bool.and_comm (isT x)]
     exact hc'
theorem auo : ∀ (l o : List za), (∀ x ∈ o, BN x) → vE o → (∀ x ∈ l, BN x) → (∀ x ∈ l.foldl joinStep o, BN x) ∧ vE (l.foldl joinStep o)
 | [], o, h, hj, _ => ⟨h, hj⟩
 | n :: l, o, h, hj, hl => by
  obtain ⟨h1, h2⟩ := aqC o n h hj (hl n (by simp))
  exact auo l _ h1 h2 fun x hx => hl x (by simp [hx])
theorem av3 (l : List za) (h : ∀ x ∈ l, BN x) : (∀ x ∈ yY l, BN x) ∧ vE (yY l) := auo l [] (by simp) trivial h
theorem JS (a b : List za) : wE (a ++ b) = max (wE a) (wE b) := by
 induction a with
 | nil => simp [wE]
 | cons n a ih => simp only [List.cons_append, wE, ih]; omega
theorem ahV (o : List za) (n : za) : wE (joinStep o n) ≤ max (wE o) (yx n) := by
 rcases vC o with rfl | ⟨o, x, rfl⟩
 ·rw [vK]
  split <;> simp [wE]
 ·rw [wK]
  split
  ·omega
  ·split
   ·rename_i hc
    simp only [Bool.and_eq_true] at hc
    have h1 : yx ({ n with Text := x.Text ++ n.Text } : za) = 0 := by rw [QJ, if_pos (show isT ({ n with Text := x.Text ++ n.Text } : za) = true from hc.1.1)]
    simp only [JS, wE, h1]
    omega
   ·simp only [JS, wE]
    omega
theorem aip : ∀ (l o : List za), wE (l.foldl joinStep o) ≤ max (wE o) (wE l)
 | [], o => by simp [wE]
 | n :: l, o => by
  have h1 := ahV o n
  have h2 := aip l (joinStep o n)
  simp only [List.foldl_cons, wE]
  omega
theorem anR (l : List za) : wE (yY l) ≤ wE l := by
 have := aip l []
 simpa [yY, wE] using this
structure Book (ks : List za) : Prop where
 bn : ∀ x ∈ ks, BN x
 nt : ∀ x ∈ ks, isT x = false
 wt : zR ks ≤ 2400
 dep : wE ks ≤ 31
abbrev apu : Str := [100, 111, 99]
theorem atj {ks : List za} (h : Book ks) : BN ⟨apu, [], [], [], ks⟩ := .node _ _ _ (by decide +kernel) rfl (by decide +kernel) h.bn (anN ks h.nt)
theorem amY {ks : List za} (h : Book ks) : checkN ⟨apu, [], [], [], ks⟩ = 0 := by
 have hf := atY (atj h)
 have hs := kK ks
 have hw := h.wt
 have hdp := h.dep
 have e1 : yx ⟨apu, [], [], [], ks⟩ = wE ks + 1 := by rw [QJ]; rfl
 have e2 : kR ⟨apu, [], [], [], ks⟩ = 2 + zC ks := by rw [yE]; rfl
 unfold checkN
 rw [hf, e1, e2, if_neg (by simp), if_neg (by omega), if_neg (by omega)]
end Go.Proofs.YtclohbgnaopjfaaDoor
namespace Go.Proofs.YtclohbgnaopjfaaDoor
set_option linter.unusedSimpArgs false
set_option linter.unusedVariables false
open Go Classical
theorem alQ (n : za) : BN n → ∀ c m, Tk.sgn c m ∈ tkN n → Xe m := by
 induction n using za.ind with
 | h n ih =>
  intro hb c m hc
  rw [vD] at hc
  cases ht : isT n with
  | true =>
   rw [if_pos ht, List.mem_map] at hc
   obtain ⟨x, _, hx⟩ := hc
   cases hx
   exact (atM hb ht).2.2.1
  | false =>
   simp only [ht, Bool.false_eq_true, if_false, List.mem_cons, reduceCtorEq, false_or, List.mem_append, List.not_mem_nil, or_false] at hc
   have key : ∀ l : List za, (∀ x ∈ l, x ∈ n.Kids) → Tk.sgn c m ∈ tkL l → Xe m := by
    intro l
    induction l with
    | nil => intro _ h; simp [tkL] at h
    | cons y l ihl =>
     intro hl h
     rw [tkL, List.mem_append] at h
     rcases h with h | h
     ·exact ih y (hl y (by simp)) ((aoS hb).1 y (hl y (by simp))) c m h
     ·exact ihl (fun x hx => hl x (by simp [hx])) h
   exact key n.Kids (fun _ h => h) hc
abbrev ass (ks : List za) : za := ⟨apu, [], [], [], ks⟩
theorem atF {ks : List za} (h : Book ks) : TD (ass ks) (tkL ks) ∧ wD (ass ks) (tkL ks) ≤ 40000 := by
 refine ⟨⟨amY h, rfl, rfl⟩, ?_⟩
 have h1 := auL 4 ks fun n hn => auR 4 n fun c m hc => amL (alQ n (h.bn n hn) c m hc)
 have := h.wt
 unfold wD
 simp only [wR, List.length_cons, List.length_nil]
 omega
end Go.Proofs.YtclohbgnaopjfaaDoor
