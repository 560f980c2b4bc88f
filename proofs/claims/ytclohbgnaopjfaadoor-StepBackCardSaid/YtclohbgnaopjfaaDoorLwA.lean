/- Texts of the proof of stepBackCard -/
import Derived.Test.YtclohbgnaopjfaaDoorAgF
import Derived.Lib.RuneCount
import Derived.Lib.SlTrimSet
import Derived.Lib.ValidU
import Derived.Lib.MapLaws
import Derived.Lib.ValidLaws
import Derived.Test.YtclohbgnaopjfaaDoorAgWith
namespace Go.Proofs.YtclohbgnaopjfaaDoor
set_option linter.unusedSimpArgs false
set_option linter.unusedVariables false
open Go
theorem qK {x : Int} (h : -9223372036854775808 ≤ x ∧ x ≤ 9223372036854775807) : w64 x = x := au0 h
theorem qL {α : Type} {p : Prop} [Decidable p] (h : p) (x : Option α) : chk p x = x := if_pos h
theorem Ql {α : Type} {l : List α} {i : Nat} {x : α} (h : l[i]? = some x) : rd l (i : Int) = some x := by
 unfold rd; rw [if_pos (by omega)]; simpa using h
theorem Xr {α : Type} (pre suf : List α) (x : α) : rd (pre ++ x :: suf) (pre.length : Int) = some x := Ql (by simp)
theorem aae {α : Type} {l : List α} {a b : Nat} (h1 : a ≤ b) (h2 : b ≤ l.length) : sl l (a : Int) (b : Int) = some ((l.take b).drop a) := by
 unfold sl; rw [if_pos (by omega)]; simp
theorem atm {α : Type} (pre suf : List α) : sl (pre ++ suf) 0 (pre.length : Int) = some pre := by
 have := aae (l := pre ++ suf) (a := 0) (b := pre.length) (by omega) (by simp)
 simpa using this
theorem kF {α : Type} {z : Nat} {l ys : List α} (h : (l.length + ys.length) * z ≤ 140737488355328) : app z l ys = some (l ++ ys) := if_pos h
theorem w9 {α : Type} (l : List α) : l = [] ∨ ∃ a x, l = a ++ [x] := by
 rcases List.eq_nil_or_concat l with h | ⟨a, x, h⟩
 ·exact .inl h
 ·exact .inr ⟨a, x, by simpa using h⟩
abbrev jH : Str := [116, 101, 120, 116]
def wQ : List Str → Nat
 | [] => 0
 | s :: l => 1 + s.length + wQ l
theorem ajF {s : Str} : ∀ {l : List Str}, s ∈ l → s.length ≤ wQ l
 | x :: l, h => by
  simp only [wQ]
  rcases List.mem_cons.1 h with rfl | h
  ·omega
  ·have := ajF h; omega
theorem agp (l : List Str) : l.length ≤ wQ l := by
 induction l with
 | nil => simp
 | cons s l ih => simp only [List.length_cons, wQ]; omega
end Go.Proofs.YtclohbgnaopjfaaDoor
namespace Go.Proofs.YtclohbgnaopjfaaDoor
set_option linter.unusedSimpArgs false
set_option linter.unusedVariables false
open Go
def isT (n : za) : Bool := n.Kind == jH
theorem WK (n : za) : (n.Kind == ([116, 101, 120, 116] : Str)) = isT n := rfl
theorem za.ind {p : za → Prop} (h : ∀ n : za, (∀ k ∈ n.Kids, p k) → p n) : ∀ n, p n
 | ⟨a, b, c, d, ks⟩ => h _ fun k hk => za.ind h k
 termination_by n => n
 decreasing_by
  have : SizeOf.sizeOf k < SizeOf.sizeOf ks := List.sizeOf_lt_of_mem hk
  simp only [za.mk.sizeOf_spec]
  omega
def ah6 (s : Str) : Nat := Lib.runeCountL s
theorem akm (s : Str) : ah6 s ≤ s.length := by
 have := Lib.runeCountFrom_le ⟨s.toArray⟩ (ByteArray.size ⟨s.toArray⟩) 0
 simpa [ah6, Lib.runeCountL, Lib.runeCount, ByteArray.size] using this
theorem akT (s : Str) : ∀ (f k : Nat) (n : Int) (pos : Nat), s.length - pos ≤ f → f < k → 0 ≤ n → n + f ≤ 9223372036854775807 → zM s k n pos = some (n + Lib.runeCountFrom ⟨s.toArray⟩ f pos) := by
 intro f
 induction f with
 | zero =>
  intro k n pos h1 h2 h3 h4
  obtain ⟨k, rfl⟩ : ∃ j, k = j + 1 := ⟨k - 1, by omega⟩
  have : ¬ pos < s.length := by omega
  simp [zM, this, Lib.runeCountFrom]
 | succ f ih =>
  intro k n pos h1 h2 h3 h4
  obtain ⟨k, rfl⟩ : ∃ j, k = j + 1 := ⟨k - 1, by omega⟩
  rw [zM]
  by_cases hp : pos < s.length
  ·have hw := Lib.decode_width_pos ⟨s.toArray⟩ pos (by simpa [ByteArray.size] using hp)
   simp only [hp, decide_true, if_true]
   rw [qK (by omega), ih k (n + 1) _ (by simp only [arv]; omega) (by omega) (by omega) (by omega)]
   have hs : pos < ByteArray.size ⟨s.toArray⟩ := by simpa [ByteArray.size] using hp
   simp only [Lib.runeCountFrom, hs, if_true, arv, Option.some.injEq]
   omega
  ·have hs : ¬ pos < ByteArray.size ⟨s.toArray⟩ := by simpa [ByteArray.size] using hp
   simp [hp, Lib.runeCountFrom, hs]
theorem runeCount_eq (s : Str) (h : s.length ≤ 9223372036854775807) : wo s = some (ah6 s : Int) := by
 have key : (lim fun k => zM s k 0 0) = some (ah6 s : Int) := by
  refine Ku (s.length + 1) fun k hk => ?_
  rw [akT s s.length k 0 0 (by omega) (by omega) (by omega) (by omega)]
  simp [ah6, Lib.runeCountL, Lib.runeCount, ByteArray.size]
 unfold wo
 rw [key]
 rfl
mutual
def wL : za → Nat
 | ⟨k, t, _, _, ks⟩ => if (k == jH) = true then ah6 t else 2 + zF ks
def zF : List za → Nat
 | [] => 0
 | n :: l => wL n + zF l
end
mutual
def ZI : za → Nat
 | ⟨_, _, _, _, ks⟩ => 1 + kR ks
def kR : List za → Nat
 | [] => 0
 | n :: l => max (ZI n) (kR l)
end
def wN : List zg → Nat
 | [] => 0
 | a :: l => 1 + a.Name.length + a.Value.length + wN l
mutual
def nwt : za → Nat
 | ⟨k, t, m, a, ks⟩ => 2 + k.length + t.length + wQ m + wN a + zL ks
def zL : List za → Nat
 | [] => 0
 | n :: l => nwt n + zL l
end
theorem jM (n : za) : wL n = if isT n = true then ah6 n.Text else 2 + zF n.Kids := by cases n; simp only [wL, isT]; rfl
theorem ZZ {n : za} (h : isT n = false) : wL n = 2 + zF n.Kids := by rw [jM, h]; simp
theorem yw (n : za) : ZI n = 1 + kR n.Kids := by cases n; simp only [ZI]
theorem qM (n : za) : nwt n = 2 + n.Kind.length + n.Text.length + wQ n.Marks + wN n.zo + zL n.Kids := by cases n; simp only [nwt]
theorem vk (a b : List za) : zL (a ++ b) = zL a + zL b := by
 induction a with
 | nil => simp [zL]
 | cons n a ih => simp only [List.cons_append, zL, ih]; omega
theorem Xy (a b : List za) : zF (a ++ b) = zF a + zF b := by
 induction a with
 | nil => simp [zF]
 | cons n a ih => simp only [List.cons_append, zF, ih]; omega
theorem kg (l : List za) : 2 * l.length ≤ zL l := by
 induction l with
 | nil => simp
 | cons n l ih => have := qM n; simp only [zL, List.length_cons]; omega
theorem QQ {n : za} : ∀ {l : List za}, n ∈ l → nwt n ≤ zL l
 | x :: l, h => by
  simp only [zL]
  rcases List.mem_cons.1 h with rfl | h
  ·omega
  ·have := QQ h; omega
theorem yL {n : za} : ∀ {l : List za}, n ∈ l → ZI n ≤ kR l
 | x :: l, h => by
  simp only [kR]
  rcases List.mem_cons.1 h with rfl | h
  ·omega
  ·have := yL h; omega
theorem je (n : za) : zL n.Kids ≤ nwt n := by have := qM n; omega
theorem ae4 : ∀ (l : List za), (∀ n ∈ l, wL n ≤ nwt n) → zF l ≤ zL l
 | [], _ => by simp [zF, zL]
 | n :: l, h => by
  have h1 := h n (by simp)
  have h2 := ae4 l fun x hx => h x (by simp [hx])
  simp only [zF, zL]; omega
theorem ahF (n : za) : wL n ≤ nwt n := by
 induction n using za.ind with
 | h n ih =>
  have h1 := ae4 n.Kids ih
  have h2 := akm n.Text
  rw [jM, qM]
  split <;> omega
theorem ve (l : List za) : zF l ≤ zL l := ae4 l fun n _ => ahF n
theorem WA (n : za) : vQ n = some (isT n) := by unfold vQ isT; rfl
theorem ahZ (sz : za → Option Int) : ∀ (l : List za) (i acc : Int), (∀ k ∈ l, sz k = some (wL k : Int)) → 0 ≤ acc → acc + zF l ≤ 9223372036854775807 → jC sz l i acc = some (acc + zF l)
 | [], i, acc, _, _, _ => by simp [jC, zF]
 | n :: l, i, acc, h, h0, hb => by
  simp only [zF] at hb
  rw [jC, h n (by simp)]
  simp only [Option.bind_some]
  rw [qK (by omega), ahZ sz l _ _ (fun k hk => h k (by simp [hk])) (by omega) (by omega)]
  simp only [zF, Option.some.injEq]
  omega
theorem asy (n : za) : nwt n ≤ 1099511627776 → ∀ kr, 2 * ZI n ≤ kr → jD kr n = some (wL n : Int) := by
 induction n using za.ind with
 | h n ih =>
  intro hw kr hk
  have hd := yw n
  obtain ⟨kr, rfl⟩ : ∃ j, kr = j + 1 + 1 := ⟨kr - 2, by omega⟩
  have hwt := qM n
  have hl := kg n.Kids
  have hs := ve n.Kids
  rw [jD, WA, jM]
  simp only [Option.bind_some]
  by_cases ht : isT n = true
  ·simp only [ht, if_true]
   rw [runeCount_eq _ (by omega)]
   rfl
  ·simp only [ht, Bool.false_eq_true, if_false]
   rw [xR, qL (by omega), ahZ (jD kr) n.Kids 0 0 (fun k hkk => ih k hkk (by have := QQ hkk; omega) kr (by have := yL hkk; omega)) (by omega) (by omega)]
   simp only [Option.bind_some]
   rw [qK (by omega)]
   simp only [Option.some.injEq]
   omega
theorem size_eq (n : za) (h : nwt n ≤ 1099511627776) : xE n = some (wL n : Int) := by
 unfold xE
 exact Ku (2 * ZI n) fun k hk => asy n h k hk
theorem QO (l : List za) (h : zL l ≤ 1099511627776) : jI l = some (zF l : Int) := by
 unfold jI
 refine Ku (2 * kR l + 1) fun kr hk => ?_
 obtain ⟨kr, rfl⟩ : ∃ j, kr = j + 1 := ⟨kr - 1, by omega⟩
 have hl := kg l
 have hs := ve l
 rw [xR, qL (by omega), ahZ (jD kr) l 0 0 (fun k hkk => asy k (by have := QQ hkk; omega) kr (by have := yL hkk; omega)) (by omega) (by omega)]
 simp
theorem adp (b : List Str) : ∀ (suf pre : List Str) (i : Int), i = (pre.length : Int) → b.length = pre.length + suf.length → b.take pre.length = pre → qy b suf i = some (if pre ++ suf = b then .inr () else .inl false)
 | [], pre, i, hi, hl, ht => by
  have : pre = b := by
   rw [← ht, List.take_of_length_le]
   simp at hl; omega
  simp [qy, this]
 | y :: suf, pre, i, hi, hl, ht => by
  simp only [List.length_cons] at hl
  obtain ⟨x, hx⟩ : ∃ x, b[pre.length]? = some x := ⟨b[pre.length], List.getElem?_eq_getElem (by omega)⟩
  rw [qy, hi, Ql hx]
  simp only [Option.bind_some]
  have htk : b.take (pre.length + 1) = pre ++ [x] := by
   rw [List.take_add_one, ht, hx]
   rfl
  by_cases hxy : y = x
  ·subst hxy
   simp only [beq_self_eq_true, Bool.not_true, Bool.false_eq_true, if_false]
   rw [adp b suf (pre ++ [y]) _ (by simp) (by simp; omega) (by simpa using htk)]
   simp
  ·have : ¬ pre ++ y :: suf = b := by
    intro h
    rw [← h] at hx
    simp at hx
    exact hxy hx
   simp [hxy, this]
theorem akD (a b : List Str) (h : a.length ≤ 9223372036854775807) : vE a b = some (decide (a = b)) := by
 unfold vE
 by_cases hl : a.length = b.length
 ·simp only [hl, bne_self_eq_false, Bool.false_eq_true, if_false]
  rw [qL (by omega), adp b a [] 0 rfl (by simp [hl]) (by simp)]
  by_cases e : a = b <;> simp [e]
 ·have h1 : ((a.length : Int) != (b.length : Int)) = true := by simp; omega
  have h2 : ¬ a = b := fun e => hl (by rw [e])
  rw [if_pos h1]
  simp [h2]
def joinStep (out : List za) (n : za) : List za :=
 if (isT n && n.Text == []) = true then out
 else match out.getLast? with
  | some x => if (isT n && isT x && decide (x.Marks = n.Marks)) = true then out.dropLast ++ [{ n with Text := x.Text ++ n.Text }] else out ++ [n]
  | none => out ++ [n]
def x9 (l : List za) : List za := l.foldl joinStep []
theorem vM (n : za) : joinStep [] n = if (isT n && n.Text == []) = true then [] else [n] := by
 unfold joinStep; rfl
theorem wO (o : List za) (x n : za) : joinStep (o ++ [x]) n = if (isT n && n.Text == []) = true then o ++ [x] else if (isT n && isT x && decide (x.Marks = n.Marks)) = true then o ++ [{ n with Text := x.Text ++ n.Text }] else o ++ [x, n] := by
 unfold joinStep
 simp
theorem YH (o : List za) (n : za) : zL (joinStep o n) ≤ zL o + nwt n := by
 rcases w9 o with rfl | ⟨o, x, rfl⟩
 ·rw [vM]
  split <;> simp [zL]
 ·rw [wO]
  split
  ·omega
  ·split
   ·simp only [vk, zL, qM, List.length_append]
    omega
   ·simp only [vk, zL]
    omega
theorem apf : ∀ (l o : List za), zL (l.foldl joinStep o) ≤ zL o + zL l
 | [], o => by simp [zL]
 | n :: l, o => by
  have h1 := YH o n
  have h2 := apf l (joinStep o n)
  simp only [List.foldl_cons, zL]
  omega
theorem Yl (l : List za) : zL (x9 l) ≤ zL l := by
 have := apf l []
 simpa [x9, zL] using this
end Go.Proofs.YtclohbgnaopjfaaDoor
namespace Go.Proofs.YtclohbgnaopjfaaDoor
set_option linter.unusedSimpArgs false
set_option linter.unusedVariables false
open Go
def wH (a b : za) : Bool := isT a && isT b && decide (a.Marks = b.Marks)
def vV : List za → Prop
 | a :: b :: l => wH a b = false ∧ vV (b :: l)
 | _ => True
end Go.Proofs.YtclohbgnaopjfaaDoor
namespace Go.Proofs.YtclohbgnaopjfaaDoor
set_option linter.unusedSimpArgs false
set_option linter.unusedVariables false
open Go
def am6 (b : Bool) : Bool ⊕ Unit := match b with
 | true => .inr ()
 | false => .inl false
def letter (b : UInt8) : Bool := decide (97 ≤ b.toNat) && decide (b.toNat ≤ 122)
abbrev abc : Str := [97, 98, 99, 100, 101, 102, 103, 104, 105, 106, 107, 108, 109, 110, 111, 112, 113, 114, 115, 116, 117, 118, 119, 120, 121, 122]
def isName (s : Str) : Bool := s.all letter && decide (s ≠ []) && decide (s.length ≤ 8) && decide (s ≠ jH)
theorem alC (b : UInt8) : abc.contains b = letter b := by
 have h : ∀ n, n < 256 → abc.contains (UInt8.ofNat n) = letter (UInt8.ofNat n) := by decide +kernel
 have := h b.toNat b.toNat_lt
 simpa using this
theorem aid (p : UInt8 → Bool) : ∀ l : Str, (∀ x ∈ l.dropWhile p, p x = true) → ∀ x ∈ l, p x = true
 | [], _ => by simp
 | a :: l, h => by
  by_cases ha : p a = true
  ·rw [List.dropWhile_cons_of_pos ha] at h
   intro x hx
   rcases List.mem_cons.1 hx with rfl | hx
   ·exact ha
   ·exact aid p l h x hx
  ·rw [List.dropWhile_cons_of_neg ha] at h
   exact (ha (h a (by simp))).elim
theorem amQ (p : UInt8 → Bool) : ∀ l : Str, (∀ x ∈ l, p x = true) → l.dropWhile p = []
 | [], _ => rfl
 | a :: l, h => by
  rw [List.dropWhile_cons_of_pos (h a (by simp))]
  exact amQ p l fun x hx => h x (by simp [hx])
theorem asR (s : Str) : (Lib.trimS s abc == []) = s.all letter := by
 have hp : (fun b => abc.contains b) = letter := funext alC
 unfold Lib.trimS Lib.trimLeftS Lib.trimRightS
 rw [hp]
 cases h : s.all letter with
 | true =>
  have h' := List.all_eq_true.1 h
  rw [amQ letter s.reverse fun x hx => h' x (by simpa using hx)]
  rfl
 | false =>
  rw [beq_eq_false_iff_ne]
  intro e
  have h1 : ∀ x ∈ (s.reverse.dropWhile letter).reverse, letter x = true := aid letter _ (by rw [e]; simp)
  have h2 := aid letter s.reverse fun x hx => h1 x (by simpa using hx)
  have h3 : s.all letter = true := List.all_eq_true.2 fun x hx => h2 x (by simpa using hx)
  rw [h] at h3
  cases h3
theorem adw (s : Str) (h : s.length ≤ 9223372036854775807) : yY s = some (isName s) := by
 unfold yY KX isName
 rw [qL ⟨h, by decide, by decide⟩]
 simp only [Option.bind_some, asR]
 cases h1 : s.all letter with
 | false => simp
 | true =>
  by_cases h2 : s = []
  ·simp [h2]
  ·by_cases h3 : s.length ≤ 8
   ·have g3 : decide ((s.length : Int) ≤ 8) = true := by simp; omega
    have g2 : (s == []) = false := by simpa using h2
    simp only [if_true, g2, Bool.not_false, g3, h2, h3, ne_eq, not_false_eq_true, decide_true, Bool.true_and]
    by_cases h4 : s = jH <;> simp [h4]
   ·have g3 : decide ((s.length : Int) ≤ 8) = false := by simp; omega
    have g2 : (s == []) = false := by simpa using h2
    simp only [if_true, g2, Bool.not_false, g3, Bool.false_eq_true, if_false]
    simp [h3]
end Go.Proofs.YtclohbgnaopjfaaDoor
namespace Go.Proofs.YtclohbgnaopjfaaDoor
set_option linter.unusedSimpArgs false
set_option linter.unusedVariables false
open Go
def isValue (s : Str) : Bool := decide (s.length ≤ 40) && Lib.validD s
theorem amg (s : Str) (h : s.length ≤ 9223372036854775807) : Wx s = some (isValue s) := by
 unfold Wx wP isValue
 rw [qL h]
 by_cases h3 : s.length ≤ 40
 ·have g3 : decide ((s.length : Int) ≤ 40) = true := by simp; omega
  simp [g3, h3]
 ·have g3 : decide ((s.length : Int) ≤ 40) = false := by simp; omega
  simp only [g3, Bool.false_eq_true, if_false]
  simp [h3]
def yR : Option Str → List Str → Bool
 | _, [] => true
 | last, y :: l => isName y && (match last with | none => true | some x => !(Op.bytesLess y x || y == x)) && yR (some y) l
theorem Vn (last : Option Str) (y : Str) (l : List Str) : yR last (y :: l) = (isName y && (match last with | none => true | some x => !(Op.bytesLess y x || y == x)) && yR (some y) l) := by cases last <;> rfl
def vT (l : List Str) : Bool := yR none l
theorem apt : ∀ (suf pre : List Str), (∀ s ∈ suf, s.length ≤ 9223372036854775807) → (pre ++ suf).length ≤ 4611686018427387904 → vI (pre ++ suf) suf (pre.length : Int) = some (am6 (yR pre.getLast? suf))
 | [], pre, _, _ => by simp [vI, yR, am6]
 | y :: suf, pre, h, hb => by
  have e : (pre.length : Int) + 1 = ((pre ++ [y]).length : Int) := by simp
  have ih := apt suf (pre ++ [y]) (fun s hs => h s (by simp [hs])) (by simpa using hb)
  rw [List.append_assoc, List.singleton_append, ← e, List.getLast?_append, List.getLast?_singleton] at ih
  simp only [Option.some_or] at ih
  rw [vI, adw y (h y (by simp))]
  simp only [Option.bind_some]
  rw [Vn]
  rcases Bool.eq_false_or_eq_true (isName y) with hn | hn
  rotate_left
  ·simp [hn, am6]
  ·rw [hn]
   simp only [Bool.not_true, Bool.false_eq_true, if_false, Bool.true_and]
   rcases w9 pre with rfl | ⟨p, x, rfl⟩
   ·have g : decide ((([] : List Str).length : Int) > 0) = false := by decide
    simp only [g, Bool.false_eq_true, if_false]
    rw [ih]
    simp
   ·have g : decide (((p ++ [x]).length : Int) > 0) = true := decide_eq_true (by simp only [List.length_append, List.length_cons, List.length_nil]; omega)
    have hr : rd (p ++ [x] ++ y :: suf) (w64 (((p ++ [x]).length : Int) - 1)) = some x := by
     simp only [List.length_append, List.length_cons, List.length_nil] at hb
     rw [qK (by simp; omega)]
     have e2 : ((p ++ [x]).length : Int) - 1 = (p.length : Int) := by simp
     rw [e2, List.append_assoc]
     exact Xr p (y :: suf) x
    simp only [g, if_true, hr, Option.bind_some, List.getLast?_append, List.getLast?_singleton, Option.some_or]
    rcases Bool.eq_false_or_eq_true (Op.bytesLess y x || y == x) with hc | hc
    ·simp only [hc, if_true, Bool.not_true, Bool.false_and, am6]
    ·simp only [hc, Bool.false_eq_true, if_false, Bool.not_false, Bool.true_and]
     exact ih
theorem aoU (l : List Str) (h : ∀ s ∈ l, s.length ≤ 9223372036854775807) (hb : l.length ≤ 4611686018427387904) : Vj l = some (vT l) := by
 have h0 := apt l [] h (by simpa using hb)
 have h0' : vI l l 0 = _ := h0
 unfold Vj
 rw [qL (by omega), h0']
 simp only [Option.bind_some, List.getLast?_nil, vT]
 cases yR none l <;> rfl
theorem asH (b : List Str) : ∀ (suf pre : List Str) (i : Int), i = (pre.length : Int) → b.length = pre.length + suf.length → b.take pre.length = pre → qf b suf i = some (if pre ++ suf = b then .inr () else .inl false)
 | [], pre, i, hi, hl, ht => by
  have : pre = b := by
   rw [← ht, List.take_of_length_le]
   simp at hl; omega
  simp [qf, this]
 | y :: suf, pre, i, hi, hl, ht => by
  simp only [List.length_cons] at hl
  obtain ⟨x, hx⟩ : ∃ x, b[pre.length]? = some x := ⟨b[pre.length], List.getElem?_eq_getElem (by omega)⟩
  rw [qf, hi, Ql hx]
  simp only [Option.bind_some]
  have htk : b.take (pre.length + 1) = pre ++ [x] := by
   rw [List.take_add_one, ht, hx]
   rfl
  by_cases hxy : y = x
  ·subst hxy
   simp only [beq_self_eq_true, Bool.not_true, Bool.false_eq_true, if_false]
   rw [asH b suf (pre ++ [y]) _ (by simp) (by simp; omega) (by simpa using htk)]
   simp
  ·have : ¬ pre ++ y :: suf = b := by
    intro h
    rw [← h] at hx
    simp at hx
    exact hxy hx
   simp [hxy, this]
theorem avX (a b : List Str) (h : a.length ≤ 9223372036854775807) : slices_Equal_string a b = some (decide (a = b)) := by
 unfold slices_Equal_string
 by_cases hl : a.length = b.length
 ·simp only [hl, bne_self_eq_false, Bool.false_eq_true, if_false]
  rw [qL (by omega), asH b a [] 0 rfl (by simp [hl]) (by simp)]
  by_cases e : a = b <;> simp [e]
 ·have h1 : ((a.length : Int) != (b.length : Int)) = true := by simp; omega
  have h2 : ¬ a = b := fun e => hl (by rw [e])
  rw [if_pos h1]
  simp [h2]
theorem am9 (a b : za) (h : a.Marks.length ≤ 9223372036854775807) : ZJ a b = some (wH a b) := by
 unfold ZJ wH
 rw [WA, WA]
 simp only [Option.bind_some]
 rw [avX _ _ h]
 cases isT a <;> cases isT b <;> simp
mutual
def zY : za → Bool
 | ⟨k, t, m, a, ks⟩ => if (k == jH) = true then (decide (t ≠ []) && Lib.validD t && vT m && decide (a.length + ks.length = 0)) else (a.all (fun x => isValue x.Value) && isName k && decide (t = []) && decide (m = []) && vT (a.map (·.Name)) && xW none ks)
def xW : Option za → List za → Bool
 | _, [] => true
 | last, n :: l => zY n && (match last with | none => true | some x => !wH x n) && xW (some n) l
end
theorem Kh (last : Option za) (n : za) (l : List za) : xW last (n :: l) = (zY n && (match last with | none => true | some x => !wH x n) && xW (some n) l) := by cases last <;> simp only [xW]
theorem abX (last : Option za) : xW last [] = true := by cases last <;> simp only [xW]
theorem jq (n : za) : zY n = if isT n = true then (decide (n.Text ≠ []) && Lib.validD n.Text && vT n.Marks && decide (n.zo.length + n.Kids.length = 0)) else (n.zo.all (fun x => isValue x.Value) && isName n.Kind && decide (n.Text = []) && decide (n.Marks = []) && vT (n.zo.map (·.Name)) && xW none n.Kids) := by
 cases n; simp only [zY, isT]; rfl
theorem ahv {a : zg} : ∀ {l : List zg}, a ∈ l → a.Name.length + a.Value.length ≤ wN l
 | x :: l, h => by
  simp only [wN]
  rcases List.mem_cons.1 h with rfl | h
  ·omega
  ·have := ahv h; omega
theorem adR (l : List zg) : l.length ≤ wN l := by
 induction l with
 | nil => simp
 | cons s l ih => simp only [List.length_cons, wN]; omega
theorem ajl : ∀ (l : List zg) (i : Int) (out : List Str), (out.length + l.length) * 16 ≤ 140737488355328 → wN l ≤ 1099511627776 → vX l i out = some (if l.all (fun x => isValue x.Value) = true then .inr (out ++ l.map (·.Name)) else .inl false)
 | [], i, out, _, _ => by simp [vX]
 | a :: l, i, out, hb, hw => by
  simp only [wN] at hw
  simp only [List.length_cons] at hb
  rw [vX, amg _ (by omega)]
  simp only [Option.bind_some]
  rcases Bool.eq_false_or_eq_true (isValue a.Value) with hv | hv
  rotate_left
  ·simp [hv]
  ·simp only [hv, Bool.not_true, Bool.false_eq_true, if_false, List.all_cons, Bool.true_and]
   rw [kF (by simp; omega)]
   simp only [Option.bind_some]
   rw [ajl l _ _ (by simp; omega) (by omega)]
   simp
theorem aj2 (n : za) (f : za → Option Bool) : ∀ (suf pre : List za), n.Kids = pre ++ suf → (∀ k ∈ suf, f k = some (zY k)) → zL n.Kids ≤ 1099511627776 → kP n f suf (pre.length : Int) = some (am6 (xW pre.getLast? suf))
 | [], pre, _, _, _ => by simp [kP, abX, am6]
 | y :: suf, pre, hk, hf, hw => by
  have e : (pre.length : Int) + 1 = ((pre ++ [y]).length : Int) := by simp
  have ih := aj2 n f suf (pre ++ [y]) (by rw [hk]; simp) (fun s hs => hf s (by simp [hs])) hw
  rw [← e, List.getLast?_append, List.getLast?_singleton] at ih
  simp only [Option.some_or] at ih
  rw [kP, hf y (by simp)]
  simp only [Option.bind_some]
  rw [Kh]
  rcases Bool.eq_false_or_eq_true (zY y) with hn | hn
  rotate_left
  ·simp [hn, am6]
  ·rw [hn]
   simp only [Bool.not_true, Bool.false_eq_true, if_false, Bool.true_and]
   rcases w9 pre with rfl | ⟨p, x, rfl⟩
   ·have g : decide ((([] : List za).length : Int) > 0) = false := by decide
    simp only [g, Bool.false_eq_true, if_false]
    rw [ih]
    simp
   ·have g : decide (((p ++ [x]).length : Int) > 0) = true := decide_eq_true (by simp only [List.length_append, List.length_cons, List.length_nil]; omega)
    have hl := kg n.Kids
    have hr : rd n.Kids (w64 (((p ++ [x]).length : Int) - 1)) = some x := by
     rw [hk] at hl ⊢
     simp only [List.length_append, List.length_cons, List.length_nil] at hl
     rw [qK (by simp; rw [hk] at hw; omega)]
     have e2 : ((p ++ [x]).length : Int) - 1 = (p.length : Int) := by simp
     rw [e2, List.append_assoc]
     exact Xr p (y :: suf) x
    have hx : nwt x ≤ zL n.Kids := QQ (by rw [hk]; simp)
    have hxw := qM x
    have hxm := agp x.Marks
    simp only [g, if_true, hr, Option.bind_some, List.getLast?_append, List.getLast?_singleton, Option.some_or]
    rw [am9 x y (by omega)]
    simp only [Option.bind_some]
    rcases Bool.eq_false_or_eq_true (wH x y) with hc | hc
    ·simp only [hc, if_true, Bool.not_true, Bool.false_and, am6]
    ·simp only [hc, Bool.false_eq_true, if_false, Bool.not_false, Bool.true_and]
     exact ih
theorem arw (n : za) : nwt n ≤ 1099511627776 → ∀ kr, ZI n ≤ kr → kY kr n = some (zY n) := by
 induction n using za.ind with
 | h n ih =>
  intro hw kr hk
  have hd := yw n
  obtain ⟨kr, rfl⟩ : ∃ j, kr = j + 1 := ⟨kr - 1, by omega⟩
  have hwt := qM n
  have hl := kg n.Kids
  have hm := agp n.Marks
  have ha := adR n.zo
  rw [kY, WA, jq]
  simp only [Option.bind_some]
  by_cases ht : isT n = true
  ·simp only [ht, if_true]
   by_cases h1 : n.Text = []
   ·simp [h1]
   ·have g1 : (n.Text == []) = false := by simpa using h1
    simp only [g1, Bool.not_false, if_true]
    unfold wP
    rw [qL (by omega)]
    simp only [Option.bind_some]
    cases hv : Lib.validD n.Text with
    | false => simp
    | true =>
     simp only [if_true]
     rw [aoU _ (fun s hs => by have := ajF hs; omega) (by omega)]
     simp only [Option.bind_some]
     rw [qK (by omega)]
     cases hr : vT n.Marks with
     | false => simp
     | true =>
      simp only [if_true, ne_eq, h1, not_false_eq_true, decide_true, Bool.true_and, Option.some.injEq]
      rw [Bool.eq_iff_iff]
      simp only [beq_iff_eq, decide_eq_true_eq]
      omega
  ·simp only [ht, Bool.false_eq_true, if_false]
   rw [qL (by omega), ajl _ _ _ (by simp; omega) (by omega)]
   simp only [Option.bind_some]
   cases hv : n.zo.all (fun x => isValue x.Value) with
   | false => simp
   | true =>
    simp only [if_true, List.nil_append, Bool.true_and]
    rw [adw _ (by omega)]
    simp only [Option.bind_some]
    cases h2 : isName n.Kind with
    | false => simp
    | true =>
     simp only [Bool.not_true, Bool.false_eq_true, if_false, Bool.true_and]
     by_cases h3 : n.Text = []
     ·by_cases h4 : n.Marks = []
      ·have g4 : decide ((n.Marks.length : Int) > 0) = false := by simp [h4]
       have g3 : (n.Text == []) = true := by simp [h3]
       simp only [g3, Bool.not_true, Bool.false_eq_true, if_false, g4]
       rw [aoU _ (fun s hs => by
        obtain ⟨a, ha', rfl⟩ := List.mem_map.1 hs
        have := ahv ha'; omega) (by simp; omega)]
       simp only [Option.bind_some]
       cases hr : vT (n.zo.map (·.Name)) with
       | false => simp
       | true =>
        simp only [Bool.not_true, Bool.false_eq_true, if_false]
        have h0 := aj2 n (kY kr) n.Kids [] rfl (fun k hkk => ih k hkk (by have := QQ hkk; omega) kr (by have := yL hkk; omega)) (by omega)
        have h0' : kP n (kY kr) n.Kids 0 = _ := h0
        rw [qL (by omega), h0']
        simp only [Option.bind_some, List.getLast?_nil, h3, h4, decide_true, Bool.true_and]
        cases xW none n.Kids <;> rfl
      ·have g4 : decide ((n.Marks.length : Int) > 0) = true := by
        have := List.length_pos_iff.2 h4
        simp; omega
       have g3 : (n.Text == []) = true := by simp [h3]
       simp only [g3, Bool.not_true, Bool.false_eq_true, if_false, g4, if_true]
       simp [h4]
     ·have g3 : (n.Text == []) = false := by simpa using h3
      simp only [g3, Bool.not_false, if_true]
      simp [h3]
theorem apX (n : za) (h : nwt n ≤ 1099511627776) : Kr n = some (zY n) := by
 unfold Kr
 exact Ku (ZI n) fun kr hk => arw n h kr hk
mutual
def yA : za → Nat
 | ⟨k, _, _, _, ks⟩ => if (k == jH) = true then 0 else wE ks + 1
def wE : List za → Nat
 | [] => 0
 | n :: l => max (yA n) (wE l)
end
theorem QM (n : za) : yA n = if isT n = true then 0 else wE n.Kids + 1 := by cases n; simp only [yA, isT]; rfl
theorem am5 : ∀ (l : List za), (∀ n ∈ l, yA n ≤ ZI n) → wE l ≤ kR l
 | [], _ => by simp [wE, kR]
 | n :: l, h => by
  have h1 := h n (by simp)
  have h2 := am5 l fun x hx => h x (by simp [hx])
  simp only [wE, kR]; omega
theorem aoV (n : za) : yA n ≤ ZI n := by
 induction n using za.ind with
 | h n ih =>
  have h1 := am5 n.Kids ih
  rw [QM, yw]
  split <;> omega
theorem aiX (l : List za) (h : ∀ n ∈ l, ZI n ≤ nwt n) : kR l ≤ zL l := by
 induction l with
 | nil => simp [kR, zL]
 | cons k l ih =>
  have h1 := h k (by simp)
  have h2 := ih fun x hx => h x (by simp [hx])
  simp only [kR, zL]; omega
theorem aoX (n : za) : ZI n ≤ nwt n := by
 induction n using za.ind with
 | h n ih =>
  have h1 := aiX n.Kids ih
  have h2 := yw n
  have h3 := qM n
  omega
theorem al5 (f : za → Option Int) : ∀ (l : List za) (i : Int) (d : Nat), (∀ k ∈ l, f k = some (yA k : Int)) → vL f l i (d : Int) = some ((max d (wE l) : Nat) : Int)
 | [], i, d, _ => by simp [vL, wE]
 | n :: l, i, d, h => by
  rw [vL, h n (by simp)]
  simp only [Option.bind_some]
  have e : (if (yA n : Int) > (d : Int) then (yA n : Int) else (d : Int)) = ((max d (yA n) : Nat) : Int) := by split <;> omega
  rw [e, al5 f l _ _ fun k hk => h k (by simp [hk])]
  simp only [wE, Option.some.injEq]
  omega
theorem aur (n : za) : nwt n ≤ 1099511627776 → ∀ kr, ZI n ≤ kr → vN kr n = some (yA n : Int) := by
 induction n using za.ind with
 | h n ih =>
  intro hw kr hk
  have hd := yw n
  obtain ⟨kr, rfl⟩ : ∃ j, kr = j + 1 := ⟨kr - 1, by omega⟩
  have hwt := qM n
  have hl := kg n.Kids
  have hdl := aoV n
  have hdw := aoX n
  rw [vN, WA]
  simp only [Option.bind_some]
  by_cases ht : isT n = true
  ·simp [ht, QM n]
  ·have e := QM n
   rw [if_neg ht] at e
   simp only [ht, Bool.false_eq_true, if_false]
   have h0 := al5 (vN kr) n.Kids 0 0 (fun k hkk => ih k hkk (by have := QQ hkk; omega) kr (by have := yL hkk; omega))
   have h0' : vL (vN kr) n.Kids 0 0 = _ := h0
   rw [qL (by omega), h0']
   simp only [Option.bind_some, Nat.zero_max]
   rw [qK (by omega), e]
   rfl
theorem atD (n : za) (h : nwt n ≤ 1099511627776) : VA n = some (yA n : Int) := by
 unfold VA
 exact Ku (ZI n) fun kr hk => aur n h kr hk
def checkN (n : za) : Int := if zY n = false then 2 else if 40 < yA n then 4 else if 4000 < wL n then 5 else 0
theorem Y0 (n : za) (h : nwt n ≤ 1099511627776) : yE n = some (checkN n) := by
 unfold yE checkN
 rw [apX n h]
 simp only [Option.bind_some]
 cases hf : zY n with
 | false => simp
 | true =>
  simp only [Bool.not_true, Bool.false_eq_true, if_false]
  rw [atD n h]
  simp only [Option.bind_some]
  by_cases hd : 40 < yA n
  ·have g : decide ((yA n : Int) > 40) = true := by simp; omega
   simp [g, hd]
  ·have g : decide ((yA n : Int) > 40) = false := by simp; omega
   simp only [g, Bool.false_eq_true, if_false]
   rw [size_eq n h]
   simp only [Option.bind_some, hd, if_false]
   by_cases hs : 4000 < wL n
   ·have g : decide ((wL n : Int) > 4000) = true := by simp; omega
    simp [g, hs]
   ·have g : decide ((wL n : Int) > 4000) = false := by simp; omega
    simp only [g, Bool.false_eq_true, if_false, hs]
    simp
end Go.Proofs.YtclohbgnaopjfaaDoor
namespace Go.Proofs.YtclohbgnaopjfaaDoor
set_option linter.unusedSimpArgs false
set_option linter.unusedVariables false
open Go
theorem aln (p : List za) (x n : za) (hx : isT x = true) (hn : isT n = true) (hm : x.Marks = n.Marks) (ha : x.zo = n.zo) (hk : x.Kids = n.Kids) : joinStep (joinStep p x) n = joinStep p { n with Text := x.Text ++ n.Text } := by
 have hkd : x.Kind = n.Kind := by
  have h1 : x.Kind = jH := by simpa [isT] using hx
  have h2 : n.Kind = jH := by simpa [isT] using hn
  rw [h1, h2]
 have hxn : ({ n with Text := x.Text ++ n.Text } : za).Marks = n.Marks := rfl
 have hnt : isT { n with Text := x.Text ++ n.Text } = true := hn
 by_cases hx0 : x.Text = []
 ·have e1 : joinStep p x = p := by unfold joinStep; simp [hx, hx0]
  have e2 : ({ n with Text := x.Text ++ n.Text } : za) = n := by cases n; simp [hx0]
  rw [e1, e2]
 ·by_cases hn0 : n.Text = []
  ·have e1 : ∀ o, joinStep o n = o := fun o => by unfold joinStep; simp [hn, hn0]
   have e2 : ({ n with Text := x.Text ++ n.Text } : za) = x := by cases x; cases n; simp_all
   rw [e1, e2]
  ·have hxn0 : (({ n with Text := x.Text ++ n.Text } : za).Text == []) = false := by simp [hx0]
   have hx0' : (x.Text == []) = false := by simpa using hx0
   have hn0' : (n.Text == []) = false := by simpa using hn0
   rcases w9 p with rfl | ⟨p, y, rfl⟩
   ·rw [vM, vM]
    simp only [hx0', Bool.and_false, Bool.false_eq_true, if_false, hxn0]
    have := wO [] x n
    rw [List.nil_append] at this
    rw [this]
    simp [hn, hx, hn0', hm]
   ·rw [wO, wO]
    simp only [hx0', Bool.and_false, Bool.false_eq_true, if_false, hxn0, hx, hnt, Bool.true_and]
    by_cases hc : (isT y && decide (y.Marks = n.Marks)) = true
    ·have hc' : (isT y && decide (y.Marks = x.Marks)) = true := by rw [hm]; exact hc
     rw [if_pos hc', if_pos hc, wO]
     have hxt : ∀ m, isT { x with Text := y.Text ++ x.Text, Marks := m } = true := fun _ => hx
     simp [hn, hn0', hxt, hm, List.append_assoc]
    ·have hc' : ¬ (isT y && decide (y.Marks = x.Marks)) = true := by rw [hm]; exact hc
     rw [if_neg hc', if_neg hc]
     have := wO (p ++ [y]) x n
     rw [List.append_assoc] at this
     rw [List.singleton_append] at this
     rw [this]
     simp [hn, hx, hn0', hm]
def Plain (n : za) : Prop := isT n = true → n.zo = [] ∧ n.Kids = []
end Go.Proofs.YtclohbgnaopjfaaDoor
namespace Go.Proofs.YtclohbgnaopjfaaDoor
set_option linter.unusedSimpArgs false
set_option linter.unusedVariables false
open Go
theorem ao0 : ∀ (l : List za) (i : Int) (o : List za), zL o + zL l ≤ 1099511627776 → zW l i o = some (l.foldl joinStep o)
 | [], i, o, _ => by simp [zW]
 | n :: l, i, o, hw => by
  simp only [zL] at hw
  have hjw := YH o n
  have ih := ao0 l (i + 1) (joinStep o n) (by omega)
  have hol := kg o
  rw [zW, List.foldl_cons]
  have eapp : app 104 o [n] = some (o ++ [n]) := kF (by simp; omega)
  rcases w9 o with rfl | ⟨o, x, rfl⟩
  ·rw [vM] at ih ⊢
   by_cases ht : isT n = true
   ·have ht' : (n.Kind == jH) = true := ht
    by_cases he : n.Text = []
    ·simp only [ht, he, Bool.true_and, beq_self_eq_true, if_true] at ih ⊢
     simp only [ht', if_true, Option.bind_some]
     exact ih
    ·have he' : (n.Text == []) = false := by simp [he]
     simp only [ht, he', Bool.true_and, Bool.false_eq_true, if_false] at ih ⊢
     simp only [ht', he', Bool.false_eq_true, if_true, if_false, Option.bind_some, List.length_nil]
     have hneg : decide (w64 ((0 : Nat) - 1 : Int) ≥ 0) = false := by rw [qK (by omega)]; simp
     simp only [hneg, Bool.false_eq_true, if_false, eapp, Option.bind_some]
     exact ih
   ·have ht' : (n.Kind == jH) = false := by simpa [isT] using ht
    have ht2 : isT n = false := by simpa using ht
    simp only [ht2, Bool.false_and, Bool.false_eq_true, if_false] at ih ⊢
    simp only [ht', Bool.false_eq_true, if_false, Option.bind_some, eapp]
    exact ih
  ·rw [wO] at ih ⊢
   have hx : rd (o ++ [x]) (w64 (((o ++ [x]).length : Int) - 1)) = some x := by
    rw [qK (by simp at hol ⊢; omega)]
    have : ((o ++ [x]).length : Int) - 1 = (o.length : Int) := by simp
    rw [this]
    exact Xr o [] x
   have hsl : sl (o ++ [x]) 0 (w64 (((o ++ [x]).length : Int) - 1)) = some o := by
    rw [qK (by simp at hol ⊢; omega)]
    have : ((o ++ [x]).length : Int) - 1 = (o.length : Int) := by simp
    rw [this]
    exact atm o [x]
   have hpos : decide (w64 (((o ++ [x]).length : Int) - 1) ≥ 0) = true := by
    rw [qK (by simp at hol ⊢; omega)]
    simp
   have hwx : nwt x ≤ zL (o ++ [x]) := QQ (by simp)
   have hx1 := qM x
   have hn1 := qM n
   by_cases ht : isT n = true
   ·have ht' : (n.Kind == jH) = true := ht
    by_cases he : n.Text = []
    ·simp only [ht, he, Bool.true_and, beq_self_eq_true, if_true] at ih ⊢
     simp only [ht', if_true, Option.bind_some]
     exact ih
    ·have he' : (n.Text == []) = false := by simp [he]
     simp only [ht, he', Bool.true_and, Bool.false_eq_true, if_false] at ih ⊢
     simp only [ht', he', Bool.false_eq_true, if_true, if_false, Option.bind_some, hpos, hx]
     by_cases hxt : isT x = true
     ·have hxt' : (x.Kind == jH) = true := hxt
      have hml : x.Marks.length ≤ 9223372036854775807 := by
       have : ∀ l : List Str, l.length ≤ wQ l := by
        intro l; induction l with
        | nil => simp
        | cons s l ih => simp [wQ]; omega
       have := this x.Marks
       omega
      simp only [hxt', if_true]
      rw [akD _ _ hml]
      simp only [Option.bind_some, hxt, Bool.true_and] at ih ⊢
      by_cases hm : x.Marks = n.Marks
      ·simp only [hm, decide_true, if_true] at ih ⊢
       rw [qL (by omega), hsl]
       simp only [Option.bind_some]
       have hol2 := kg (o ++ [x])
       simp only [List.length_append, List.length_cons, List.length_nil] at hol2
       rw [kF (by simp; omega)]
       simp only [Option.bind_some, List.nil_append]
       rw [kF (by simp; omega)]
       simp only [Option.bind_some]
       exact ih
      ·simp only [hm, decide_false, Bool.false_eq_true, if_false] at ih ⊢
       rw [eapp]
       simp only [Option.bind_some, List.append_assoc, List.cons_append, List.nil_append]
       exact ih
     ·have hxt' : (x.Kind == jH) = false := by simpa [isT] using hxt
      have hx2 : isT x = false := by simpa using hxt
      simp only [hx2, Bool.false_and, Bool.false_eq_true, if_false] at ih ⊢
      simp only [hxt', Bool.false_eq_true, if_false, eapp, Option.bind_some, List.append_assoc, List.cons_append, List.nil_append]
      exact ih
   ·have ht' : (n.Kind == jH) = false := by simpa [isT] using ht
    have ht2 : isT n = false := by simpa using ht
    simp only [ht2, Bool.false_and, Bool.false_eq_true, if_false] at ih ⊢
    simp only [ht', Bool.false_eq_true, if_false, Option.bind_some, eapp, List.append_assoc, List.cons_append, List.nil_append]
    exact ih
theorem join_eq (l : List za) (h : zL l ≤ 1099511627776) : xH l = some (x9 l) := by
 have hl := kg l
 unfold xH
 rw [qL (by omega), ao0 l 0 [] (by simpa [zL] using h)]
 rfl
end Go.Proofs.YtclohbgnaopjfaaDoor
namespace Go.Proofs.YtclohbgnaopjfaaDoor
set_option linter.unusedSimpArgs false
set_option linter.unusedVariables false
open Go
abbrev aro : List Str := [[97], [98, 99], [195, 169], [120, 32, 121], [230, 151, 165, 230, 156, 172]]
abbrev avd : List Str := [[112, 97, 114, 97], [105, 116, 101, 109], [108, 105, 115, 116], [110, 111, 116, 101]]
abbrev avx : Str := [97, 108, 105, 103, 110]
def axc (t : Str) : Prop := t ≠ [] ∧ ∃ l : List Str, (∀ x ∈ l, x ∈ aro) ∧ t = l.flatten
def avU (m : List Str) : Prop := m = [] ∨ m = [[98]] ∨ m = [[98], [105]]
def avZ (a : List zg) : Prop := a = [] ∨ ∃ v ∈ aro, a = [⟨avx, v⟩]
inductive MN : za → Prop
 | text (t : Str) (m : List Str) (ht : axc t) (hm : avU m) : MN ⟨jH, t, m, [], []⟩
 | node (k : Str) (a : List zg) (ks : List za) (hk : k ∈ avd) (ha : avZ a) (hs : ∀ x ∈ ks, MN x) (hj : vV ks) : MN ⟨k, [], [], a, ks⟩
theorem ao4 : ∀ (o : List za) (x n : za), vV (o ++ [x]) → wH x n = false → vV (o ++ [x, n])
 | [], x, n, _, h => ⟨h, trivial⟩
 | [a], x, n, h1, h => ⟨h1.1, h, trivial⟩
 | a :: b :: o, x, n, h1, h => ⟨h1.1, ao4 (b :: o) x n h1.2 h⟩
theorem aax (a b : List za) : kR (a ++ b) = max (kR a) (kR b) := by
 induction a with
 | nil => simp [kR]
 | cons n a ih => simp only [List.cons_append, kR, ih]; omega
structure avF (i : Nat) (o : List za) : Prop where
 mn : ∀ x ∈ o, MN x
 wt : zL o ≤ 24 * i
 dep : kR o ≤ i
theorem avF.snoc {i : Nat} {o : List za} (h : avF i o) {n : za} (hn : MN n) (hw : nwt n ≤ 24) (hd : ZI n ≤ 1) : avF (i + 1) (o ++ [n]) := by
 refine ⟨fun x hx => ?_, ?_, ?_⟩
 ·rcases List.mem_append.1 hx with hx | hx
  ·exact h.mn x hx
  ·simp at hx; subst hx; exact hn
 ·have := h.wt; simp only [vk, zL]; omega
 ·have := h.dep; simp only [aax, kR]; omega
end Go.Proofs.YtclohbgnaopjfaaDoor
namespace Go.Proofs.YtclohbgnaopjfaaDoor
set_option linter.unusedSimpArgs false
set_option linter.unusedVariables false
open Go
theorem ach (s : Str) (g : Value → Int) (hg : ∀ n, g (.int .i32 n) = n) : ∀ (f pos : Nat) (acc : Array Value), (Conv.runesFrom ⟨s.toArray⟩ f pos acc).toList.map g = acc.toList.map g ++ (Conv.runesFrom ⟨s.toArray⟩ f pos #[]).toList.map g
 | 0, pos, acc => by simp [Conv.runesFrom]
 | f + 1, pos, acc => by
  unfold Conv.runesFrom
  split
  ·rw [ach s g hg f _ (acc.push _), ach s g hg f _ (#[].push _)]
   simp
  ·simp
def rn : Nat → Str → List Int
 | 0, _ => []
 | f + 1, s => if s = [] then [] else ((Lib.decodeL s).1 : Int) :: rn f (s.drop (Lib.decodeL s).2)
theorem anr (s : Str) (g : Value → Int) (hg : ∀ n, g (.int .i32 n) = n) : ∀ (f pos : Nat), (Conv.runesFrom ⟨s.toArray⟩ f pos #[]).toList.map g = rn f (s.drop pos)
 | 0, pos => by simp [Conv.runesFrom, rn]
 | f + 1, pos => by
  unfold Conv.runesFrom rn
  have hz : ByteArray.size ⟨s.toArray⟩ = s.length := by simp [ByteArray.size]
  by_cases h : pos < s.length
  ·have hne : s.drop pos ≠ [] := by simp; omega
   have hd : Lib.decodeL (s.drop pos) = Utf8.decode ⟨s.toArray⟩ pos := by
    have := Lib.decodeL_drop ⟨s.toArray⟩ pos
    simpa using this
   rw [if_pos (by rw [hz]; exact h), if_neg hne, ach s g hg, anr s g hg f, hd, List.drop_drop]
   simp [hg]
  ·have hne : s.drop pos = [] := by simp; omega
   rw [if_neg (by rw [hz]; exact h), if_pos hne]
   simp
theorem ada (s : Str) : runes s = rn s.length s := by
 unfold runes
 rw [anr s _ (fun _ => rfl)]
 simp
def aij (c : Nat) : List UInt8 :=
 if c < 0x80 then [UInt8.ofNat c]
 else if c < 0x800 then [UInt8.ofNat (0xC0 + c / 64), UInt8.ofNat (0x80 + c % 64)]
 else if c < 0x10000 then [UInt8.ofNat (0xE0 + c / 4096), UInt8.ofNat (0x80 + c / 64 % 64), UInt8.ofNat (0x80 + c % 64)]
 else [UInt8.ofNat (0xF0 + c / 262144), UInt8.ofNat (0x80 + c / 4096 % 64), UInt8.ofNat (0x80 + c / 64 % 64), UInt8.ofNat (0x80 + c % 64)]
theorem arx (r : Int) : zq r = aij (if Utf8.valid r then r.toNat else Utf8.runeError) := by
 unfold zq Utf8.encode aij
 generalize (if Utf8.valid r then r.toNat else Utf8.runeError) = c
 dsimp only
 by_cases h1 : c < 0x80
 ·rw [if_pos h1, if_pos h1]
 ·rw [if_neg h1, if_neg h1]
  by_cases h2 : c < 0x800
  ·rw [if_pos h2, if_pos h2]
  ·rw [if_neg h2, if_neg h2]
   by_cases h3 : c < 0x10000
   ·rw [if_pos h3, if_pos h3]
   ·rw [if_neg h3, if_neg h3]
theorem arj (c : Nat) : 1 ≤ (aij c).length ∧ (aij c).length ≤ 4 := by
 unfold aij
 split
 ·simp
 ·split
  ·simp
  ·split <;> simp
theorem aq2 (c : Int) : 1 ≤ (zq c).length ∧ (zq c).length ≤ 4 := by rw [arx]; exact arj _
theorem va (r : Nat) (h : r < 55296 ∨ 57343 < r) (h' : r ≤ 1114111) : Utf8.valid (r : Int) = true := by
 unfold Utf8.valid
 rw [Bool.or_eq_true]
 rcases h with h | h
 ·left; rw [Bool.and_eq_true]
  exact ⟨decide_eq_true (by omega), decide_eq_true (by omega)⟩
 ·right; rw [Bool.and_eq_true]
  exact ⟨decide_eq_true (by omega), decide_eq_true (by omega)⟩
theorem vc (r : Nat) (h : 55296 ≤ r) (h' : r ≤ 57343) : Utf8.valid (r : Int) = false := by
 unfold Utf8.valid
 rw [Bool.or_eq_false_iff, Bool.and_eq_false_iff, Bool.and_eq_false_iff]
 exact ⟨.inr (decide_eq_false (by omega)), .inl (decide_eq_false (by omega))⟩
theorem akn (r : Nat) (h : r < 55296 ∨ 57343 < r) (h' : r ≤ 1114111) : zq (r : Int) = aij r := by
 rw [arx, va r h h']
 rfl
theorem aw3 (r : Nat) (h : r < 128) : zq (r : Int) = [UInt8.ofNat r] := by
 rw [akn r (by omega) (by omega), aij, if_pos h]
theorem awf (r : Nat) (h : 128 ≤ r) (h' : r < 2048) : zq (r : Int) = [UInt8.ofNat (192 + r / 64), UInt8.ofNat (128 + r % 64)] := by
 rw [akn r (by omega) (by omega), aij, if_neg (by omega), if_pos h']
theorem awH (r : Nat) (h : 2048 ≤ r) (h' : r < 65536) (hv : r < 55296 ∨ 57343 < r) : zq (r : Int) = [UInt8.ofNat (224 + r / 4096), UInt8.ofNat (128 + r / 64 % 64), UInt8.ofNat (128 + r % 64)] := by
 rw [akn r hv (by omega), aij, if_neg (by omega), if_neg (by omega), if_pos h']
theorem awZ (r : Nat) (h : 65536 ≤ r) (h' : r ≤ 1114111) : zq (r : Int) = [UInt8.ofNat (240 + r / 262144), UInt8.ofNat (128 + r / 4096 % 64), UInt8.ofNat (128 + r / 64 % 64), UInt8.ofNat (128 + r % 64)] := by
 rw [akn r (by omega) h', aij, if_neg (by omega), if_neg (by omega), if_neg (by omega)]
theorem av9 (r : Nat) (h : 55296 ≤ r) (h' : r ≤ 57343) : zq (r : Int) = [239, 191, 189] := by
 rw [arx, vc r h h']
 simp only [Bool.false_eq_true, if_false, Utf8.runeError, aij]
 rfl
theorem arG (r : Nat) (h : r ≤ 1114111) : zq (r : Int) = Lib.encodeRune (r : Int) := by
 unfold Lib.encodeRune Lib.encodeRuneZ
 by_cases h1 : r < 128
 ·rw [if_pos (show (0 : Int) ≤ (r : Int) ∧ (r : Int) ≤ 127 by omega), aw3 r h1]
  simp only [List.map_cons, List.map_nil, Int.toNat_natCast]
 ·rw [if_neg (show ¬ ((0 : Int) ≤ (r : Int) ∧ (r : Int) ≤ 127) by omega)]
  by_cases h2 : r < 2048
  ·rw [if_pos (show (128 : Int) ≤ (r : Int) ∧ (r : Int) ≤ 2047 by omega), awf r (by omega) h2]
   have a1 : (192 + (r : Int) / 64).toNat = 192 + r / 64 := by omega
   have a2 : (128 + (r : Int) % 64).toNat = 128 + r % 64 := by omega
   simp only [List.map_cons, List.map_nil, a1, a2]
  ·rw [if_neg (show ¬ ((128 : Int) ≤ (r : Int) ∧ (r : Int) ≤ 2047) by omega)]
   by_cases hv : r < 55296 ∨ 57343 < r
   ·by_cases h3 : r < 65536
    ·rw [if_pos (show ((2048 : Int) ≤ (r : Int) ∧ (r : Int) < 55296) ∨ ((57343 : Int) < (r : Int) ∧ (r : Int) ≤ 65535) by omega), awH r (by omega) h3 hv]
     have a1 : (224 + (r : Int) / 4096).toNat = 224 + r / 4096 := by omega
     have a2 : (128 + (r : Int) / 64 % 64).toNat = 128 + r / 64 % 64 := by omega
     have a3 : (128 + (r : Int) % 64).toNat = 128 + r % 64 := by omega
     simp only [List.map_cons, List.map_nil, a1, a2, a3]
    ·rw [if_neg (show ¬ (((2048 : Int) ≤ (r : Int) ∧ (r : Int) < 55296) ∨ ((57343 : Int) < (r : Int) ∧ (r : Int) ≤ 65535)) by omega), if_pos (show (65536 : Int) ≤ (r : Int) ∧ (r : Int) ≤ 1114111 by omega), awZ r (by omega) h]
     have a1 : (240 + (r : Int) / 262144).toNat = 240 + r / 262144 := by omega
     have a2 : (128 + (r : Int) / 4096 % 64).toNat = 128 + r / 4096 % 64 := by omega
     have a3 : (128 + (r : Int) / 64 % 64).toNat = 128 + r / 64 % 64 := by omega
     have a4 : (128 + (r : Int) % 64).toNat = 128 + r % 64 := by omega
     simp only [List.map_cons, List.map_nil, a1, a2, a3, a4]
   ·rw [if_neg (show ¬ (((2048 : Int) ≤ (r : Int) ∧ (r : Int) < 55296) ∨ ((57343 : Int) < (r : Int) ∧ (r : Int) ≤ 65535)) by omega), if_neg (show ¬ ((65536 : Int) ≤ (r : Int) ∧ (r : Int) ≤ 1114111) by omega), av9 r (by omega) (by omega)]
    rfl
theorem alQ : ∀ (f : Nat) (s : Str), s.length ≤ f → (Lib.validD s = true → zI (rn f s) = s) ∧ (Lib.validD s = false → s.length < (zI (rn f s)).length)
 | 0, s, h => by
  have : s = [] := List.eq_nil_of_length_eq_zero (by omega)
  subst this
  exact ⟨fun _ => rfl, fun h => by rw [Lib.validD_nil] at h; cases h⟩
 | f + 1, s, h => by
  unfold rn
  by_cases hne : s = []
  ·subst hne
   exact ⟨fun _ => by simp [zI], fun h => by rw [Lib.validD_nil] at h; cases h⟩
  ·have hw := Lib.decodeL_width s
   have hl := Lib.decodeL_le s hne
   obtain ⟨ih1, ih2⟩ := alQ f (s.drop (Lib.decodeL s).2) (by simp; omega)
   have e : zI (((Lib.decodeL s).1 : Int) :: rn f (s.drop (Lib.decodeL s).2)) = zq ((Lib.decodeL s).1 : Int) ++ zI (rn f (s.drop (Lib.decodeL s).2)) := by simp [zI]
   rw [if_neg hne, e, Lib.validD_step s hne]
   by_cases hb : (Lib.decodeL s).1 = 65533 ∧ (Lib.decodeL s).2 = 1
   ·rw [if_pos hb]
    refine ⟨fun h => (by cases h), fun _ => ?_⟩
    have e3 : (zq ((Lib.decodeL s).1 : Int)).length = 3 := by rw [hb.1]; rfl
    have e4 : (s.drop (Lib.decodeL s).2).length ≤ (zI (rn f (s.drop (Lib.decodeL s).2))).length := by
     cases hv : Lib.validD (s.drop (Lib.decodeL s).2) with
     | true => rw [ih1 hv]; exact Nat.le_refl _
     | false => exact Nat.le_of_lt (ih2 hv)
    rw [List.length_append, e3]
    rw [List.length_drop, hb.2] at e4
    rw [hb.2]
    omega
   ·rw [if_neg hb]
    have e5 : zq ((Lib.decodeL s).1 : Int) = s.take (Lib.decodeL s).2 := by rw [arG _ (Lib.decodeL_rune s)]; exact Lib.encode_decode s hne hb
    refine ⟨fun hv => by rw [ih1 hv, e5, List.take_append_drop], fun hv => ?_⟩
    have := ih2 hv
    rw [List.length_append, e5, List.length_take]
    rw [List.length_drop] at this
    omega
theorem ZQ {s : Str} (h : Lib.validD s = true) : zI (runes s) = s := by rw [ada]; exact (alQ _ s (Nat.le_refl _)).1 h
theorem abQ (b : ByteArray) : ∀ (n i : Nat) (acc : Array Value), (Conv.runesFrom b n i acc).toList.length = acc.toList.length + Lib.runeCountFrom b n i
 | 0, i, acc => by simp [Conv.runesFrom, Lib.runeCountFrom]
 | n + 1, i, acc => by
  unfold Conv.runesFrom Lib.runeCountFrom
  split
  ·rename_i h
   rw [abQ b n _ _]
   simp; omega
  ·rfl
theorem yS (s : Str) : (runes s).length = ah6 s := by
 unfold runes ah6 Lib.runeCountL Lib.runeCount
 rw [List.length_map, abQ]
 simp [ByteArray.size]
end Go.Proofs.YtclohbgnaopjfaaDoor
namespace Go.Proofs.YtclohbgnaopjfaaDoor
set_option linter.unusedSimpArgs false
set_option linter.unusedVariables false
open Go
theorem asV : ∀ (l : List za) (last : Option za), (∀ x ∈ l, zY x = true) → vV l → (∀ x y, last = some x → l.head? = some y → wH x y = false) → xW last l = true
 | [], last, _, _, _ => abX last
 | y :: l, last, hf, hj, hl => by
  rw [Kh, hf y (by simp)]
  have h2 : xW (some y) l = true := by
   refine asV l (some y) (fun x hx => hf x (by simp [hx])) ?_ ?_
   ·cases l with
    | nil => trivial
    | cons z l => exact hj.2
   ·intro x z hx hz
    cases hx
    cases l with
    | nil => cases hz
    | cons z' l => cases hz; exact hj.1
  rw [h2]
  cases last with
  | none => rfl
  | some x => simp [hl x y rfl rfl]
theorem aoh {n : za} (h : zY n = true) (ht : isT n = false) : ∀ k ∈ n.Kids, zY k = true := by
 have key : ∀ (l : List za) (last : Option za), xW last l = true → ∀ k ∈ l, zY k = true := by
  intro l
  induction l with
  | nil => simp
  | cons y l ih =>
   intro last h k hk
   rw [Kh, Bool.and_eq_true, Bool.and_eq_true] at h
   rcases List.mem_cons.1 hk with rfl | hk
   ·exact h.1.1
   ·exact ih _ h.2 k hk
 rw [jq, if_neg (by simp [ht])] at h
 simp only [Bool.and_eq_true] at h
 exact key _ _ h.2
end Go.Proofs.YtclohbgnaopjfaaDoor
namespace Go.Proofs.YtclohbgnaopjfaaDoor
set_option linter.unusedSimpArgs false
set_option linter.unusedVariables false
open Go
theorem afB (s t : Str) (hne : s ≠ []) (hv : ¬ ((Lib.decodeL s).1 = 65533 ∧ (Lib.decodeL s).2 = 1)) : Lib.decodeL (s.take (Lib.decodeL s).2 ++ t) = Lib.decodeL s := by
 have hl : 0 < s.length := List.length_pos_iff.2 hne
 have hS := Lib.decodeL_N s
 rcases Lib.decodeN_shape s.length (s.getD 0 0).toNat (s.getD 1 0).toNat (s.getD 2 0).toNat (s.getD 3 0).toNat with ⟨h1, e⟩ | ⟨h1, h2, h3, h4, e⟩ | ⟨h1, h2, h3, h4, h5, h6, e⟩ | ⟨h1, h2, h3, h4, h5, h6, h7, e⟩ | e
 ·rw [hS, e]
  simp only
  rw [Lib.takeA s hl, Lib.decodeL_N]
  simp only [List.cons_append, List.getD_cons_zero]
  unfold Lib.decodeN
  rw [if_pos h1]
 ·rw [hS, e]
  simp only
  rw [Lib.takeB s h2, Lib.decodeL_N]
  simp only [List.cons_append, List.nil_append, List.getD_cons_zero, List.getD_cons_succ]
  unfold Lib.decodeN
  rw [if_neg (by omega), if_pos ⟨h1, by simp, h3⟩, if_pos (by omega)]
 ·rw [hS, e]
  simp only
  rw [Lib.takeC s h2, Lib.decodeL_N]
  simp only [List.cons_append, List.nil_append, List.getD_cons_zero, List.getD_cons_succ]
  unfold Lib.decodeN
  rw [if_neg (by omega), if_neg (by omega), if_pos ⟨h1, ⟨by simp, h3⟩, by simp, h4⟩, if_pos ⟨by omega, by omega⟩]
 ·rw [hS, e]
  simp only
  rw [Lib.takeD s h2, Lib.decodeL_N]
  simp only [List.cons_append, List.nil_append, List.getD_cons_zero, List.getD_cons_succ]
  unfold Lib.decodeN
  rw [if_neg (by omega), if_neg (by omega), if_neg (by omega), if_pos ⟨h1, ⟨by simp, h3⟩, ⟨by simp, h4⟩, by simp, h5⟩, if_pos ⟨by omega, by omega⟩]
 ·rw [hS, e] at hv
  simp at hv
def VR (c : Int) : Prop := (∀ t : Str, runes (zq c ++ t) = c :: runes t) ∧ ∀ t : Str, Lib.validD (zq c ++ t) = Lib.validD t
theorem ame : ∀ (f g : Nat) (s : Str), s.length ≤ f → s.length ≤ g → rn f s = rn g s
 | 0, 0, s, _, _ => rfl
 | 0, g + 1, s, hf, _ => by
  have : s = [] := List.eq_nil_of_length_eq_zero (by omega)
  subst this
  simp [rn]
 | f + 1, 0, s, _, hg => by
  have : s = [] := List.eq_nil_of_length_eq_zero (by omega)
  subst this
  simp [rn]
 | f + 1, g + 1, s, hf, hg => by
  unfold rn
  by_cases h : s = []
  ·simp [h]
  ·have h1 := Lib.decodeL_width s
   have h2 := Lib.decodeL_le s h
   rw [if_neg h, if_neg h, ame f g _ (by simp; omega) (by simp; omega)]
theorem Wv : runes [] = [] := by rw [ada]; rfl
theorem acg (s : Str) (hne : s ≠ []) : runes s = ((Lib.decodeL s).1 : Int) :: runes (s.drop (Lib.decodeL s).2) := by
 rw [ada, ada]
 have h1 := Lib.decodeL_width s
 have h2 := Lib.decodeL_le s hne
 have hl : 0 < s.length := List.length_pos_iff.2 hne
 obtain ⟨n, hn⟩ : ∃ n, s.length = n + 1 := ⟨s.length - 1, by omega⟩
 rw [hn, rn, if_neg hne, ame n _ _ (by simp; omega) (Nat.le_refl _)]
theorem auE (s : Str) (hne : s ≠ []) (hv : ¬ ((Lib.decodeL s).1 = 65533 ∧ (Lib.decodeL s).2 = 1)) : VR ((Lib.decodeL s).1 : Int) ∧ zq ((Lib.decodeL s).1 : Int) = s.take (Lib.decodeL s).2 := by
 have e5 : zq ((Lib.decodeL s).1 : Int) = s.take (Lib.decodeL s).2 := by rw [arG _ (Lib.decodeL_rune s)]; exact Lib.encode_decode s hne hv
 have h1 := Lib.decodeL_width s
 have h2 := Lib.decodeL_le s hne
 have hlen : (s.take (Lib.decodeL s).2).length = (Lib.decodeL s).2 := by rw [List.length_take]; omega
 have hdr : ∀ t : Str, (s.take (Lib.decodeL s).2 ++ t).drop (Lib.decodeL s).2 = t := by
  intro t
  rw [List.drop_append_of_le_length (by omega), List.drop_of_length_le (by omega)]
  rfl
 refine ⟨⟨fun t => ?_, fun t => ?_⟩, e5⟩
 ·have hne' : zq ((Lib.decodeL s).1 : Int) ++ t ≠ [] := by
   intro h
   have := congrArg List.length h
   rw [List.length_append, e5, hlen, List.length_nil] at this
   omega
  rw [acg _ hne', e5, afB s t hne hv, hdr]
 ·have hne' : zq ((Lib.decodeL s).1 : Int) ++ t ≠ [] := by
   intro h
   have := congrArg List.length h
   rw [List.length_append, e5, hlen, List.length_nil] at this
   omega
  rw [Lib.validD_step _ hne', e5, afB s t hne hv, if_neg hv, hdr]
theorem au6 : ∀ (f : Nat) (s : Str), s.length ≤ f → Lib.validD s = true → ∀ c ∈ runes s, VR c
 | 0, s, h, _, c, hc => by
  have : s = [] := List.eq_nil_of_length_eq_zero (by omega)
  subst this
  rw [Wv] at hc
  cases hc
 | f + 1, s, h, hv, c, hc => by
  by_cases hne : s = []
  ·subst hne
   rw [Wv] at hc
   cases hc
  ·rw [Lib.validD_step s hne] at hv
   by_cases hb : (Lib.decodeL s).1 = 65533 ∧ (Lib.decodeL s).2 = 1
   ·rw [if_pos hb] at hv; cases hv
   ·rw [if_neg hb] at hv
    have h1 := Lib.decodeL_width s
    rw [acg s hne] at hc
    rcases List.mem_cons.1 hc with rfl | hc
    ·exact (auE s hne hb).1
    ·exact au6 f (s.drop (Lib.decodeL s).2) (by simp; omega) hv c hc
theorem ais {s : Str} (h : Lib.validD s = true) : ∀ c ∈ runes s, VR c := au6 s.length s (Nat.le_refl _) h
theorem WR (c : Int) (l : List Int) : zI (c :: l) = zq c ++ zI l := by simp [zI]
theorem Xu (a b : List Int) : zI (a ++ b) = zI a ++ zI b := by simp [zI]
theorem aem : ∀ (l : List Int) (t : Str), (∀ c ∈ l, VR c) → runes (zI l ++ t) = l ++ runes t ∧ Lib.validD (zI l ++ t) = Lib.validD t
 | [], t, _ => by simp [zI]
 | c :: l, t, h => by
  obtain ⟨h1, h2⟩ := aem l t fun x hx => h x (by simp [hx])
  obtain ⟨h3, h4⟩ := h c (by simp)
  rw [WR, List.append_assoc, h3, h1, h4, h2]
  simp
theorem Xv {l : List Int} (h : ∀ c ∈ l, VR c) : runes (zI l) = l ∧ Lib.validD (zI l) = true := by
 have := aem l [] h
 simpa [Wv, Lib.validD_nil] using this
theorem aej {s : Str} (t : Str) (h : Lib.validD s = true) : runes (s ++ t) = runes s ++ runes t ∧ Lib.validD (s ++ t) = Lib.validD t := by
 have := aem (runes s) t (ais h)
 rwa [ZQ h] at this
end Go.Proofs.YtclohbgnaopjfaaDoor
namespace Go.Proofs.YtclohbgnaopjfaaDoor
set_option linter.unusedSimpArgs false
set_option linter.unusedVariables false
open Go
inductive It where
 | sgn (c : Int) (m : List Str)
 | nod (n : za)
def itN (n : za) : List It := if isT n = true then (runes n.Text).map (fun c => It.sgn c n.Marks) else [.nod n]
def items : List za → List It
 | [] => []
 | n :: l => itN n ++ items l
theorem Qe (a b : List za) : items (a ++ b) = items a ++ items b := by
 induction a with
 | nil => rfl
 | cons n a ih => simp only [List.cons_append, items, ih, List.append_assoc]
def ai8 : It → Nat
 | .sgn _ _ => 1
 | .nod n => wL n
def szI : List It → Nat
 | [] => 0
 | i :: l => ai8 i + szI l
theorem QN (a b : List It) : szI (a ++ b) = szI a + szI b := by
 induction a with
 | nil => simp [szI]
 | cons n a ih => simp only [List.cons_append, szI, ih]; omega
theorem aps (cs : List Int) (m : List Str) : szI (cs.map fun c => It.sgn c m) = cs.length := by
 induction cs with
 | nil => rfl
 | cons c cs ih => simp only [List.map_cons, szI, ai8, ih, List.length_cons]; omega
theorem akv (n : za) : szI (itN n) = wL n := by
 unfold itN
 rw [jM]
 cases h : isT n with
 | true => simp only [if_true]; rw [aps, yS]
 | false => simp only [Bool.false_eq_true, if_false, szI, ai8]; rw [jM, h]; simp
theorem yh (l : List za) : szI (items l) = zF l := by
 induction l with
 | nil => rfl
 | cons n l ih => simp only [items, zF, QN, akv, ih]
theorem aap : ∀ i : It, (∀ n, i = .nod n → isT n = false) → 1 ≤ ai8 i
 | .sgn _ _, _ => Nat.le_refl _
 | .nod n, h => by
  have := h n rfl
  simp only [ai8]
  rw [jM, this]
  simp
  omega
def aoe (i : It) : Prop := ∀ n, i = .nod n → isT n = false
theorem atU (n : za) : ∀ i ∈ itN n, aoe i := by
 intro i hi m hm
 unfold itN at hi
 cases h : isT n with
 | true =>
  rw [h] at hi
  simp only [if_true, List.mem_map] at hi
  obtain ⟨c, _, rfl⟩ := hi
  cases hm
 | false =>
  rw [h] at hi
  simp only [Bool.false_eq_true, if_false, List.mem_singleton] at hi
  rw [hi] at hm
  cases hm
  exact h
theorem aaH (l : List za) : ∀ i ∈ items l, aoe i := by
 induction l with
 | nil => intro i hi; cases hi
 | cons n l ih =>
  intro i hi
  rcases List.mem_append.1 hi with hi | hi
  ·exact atU n i hi
  ·exact ih i hi
theorem ajx : ∀ (a a' b b' : List It), (∀ i ∈ a ++ b, aoe i) → a ++ b = a' ++ b' → szI a = szI a' → a = a' ∧ b = b'
 | [], [], b, b', _, h, _ => ⟨rfl, h⟩
 | [], i :: a', b, b', hn, h, hs => by
  exfalso
  have := aap i (hn i (by rw [h]; simp))
  simp only [szI] at hs
  omega
 | i :: a, [], b, b', hn, h, hs => by
  exfalso
  have := aap i (hn i (by simp))
  simp only [szI] at hs
  omega
 | i :: a, j :: a', b, b', hn, h, hs => by
  simp only [List.cons_append, List.cons.injEq] at h
  obtain ⟨rfl, h⟩ := h
  simp only [szI] at hs
  obtain ⟨h1, h2⟩ := ajx a a' b b' (fun x hx => hn x (by simp at hx ⊢; exact .inr hx)) h (by omega)
  exact ⟨by rw [h1], h2⟩
def Gd (n : za) : Prop := isT n = true → Lib.validD n.Text = true ∧ n.zo = [] ∧ n.Kids = []
theorem Gd.plain {n : za} (h : Gd n) : Plain n := fun ht => (h ht).2
theorem JQ {n : za} (h : isT n = true) : n.Kind = jH := by simpa [isT] using h
abbrev tN (t : Str) (m : List Str) : za := ⟨jH, t, m, [], []⟩
theorem atB {n : za} (h : Gd n) (ht : isT n = true) : n = tN n.Text n.Marks := by
 have h1 := JQ ht
 obtain ⟨_, h2, h3⟩ := h ht
 cases n
 simp_all
def atO : It → za
 | .sgn c m => tN (zq c) m
 | .nod n => n
def canon (l : List It) : List za := x9 (l.map atO)
theorem ajY (m : List Str) : ∀ (cs : List Int) (o : List za), ((cs.map fun c => It.sgn c m).map atO).foldl joinStep o = joinStep o (tN (zI cs) m)
 | [], o => by
  have : joinStep o (tN (zI []) m) = o := by unfold joinStep; rfl
  rw [this]
  rfl
 | c :: cs, o => by
  rw [List.map_cons, List.map_cons, List.foldl_cons, ajY m cs, WR]
  exact aln o (tN (zq c) m) (tN (zI cs) m) rfl rfl rfl rfl rfl
theorem ar3 {n : za} (h : Gd n) (o : List za) : ((itN n).map atO).foldl joinStep o = joinStep o n := by
 unfold itN
 cases ht : isT n with
 | true =>
  simp only [if_true]
  rw [ajY, ZQ (h ht).1, ← atB h ht]
 | false => rfl
theorem agW : ∀ (l o : List za), (∀ x ∈ l, Gd x) → ((items l).map atO).foldl joinStep o = l.foldl joinStep o
 | [], o, _ => rfl
 | n :: l, o, h => by
  rw [items, List.map_append, List.foldl_append, ar3 (h n (by simp)), agW l _ fun x hx => h x (by simp [hx])]
  rfl
theorem anX {l : List za} (h : ∀ x ∈ l, Gd x) : x9 l = canon (items l) := (agW l [] h).symm
theorem Yk (o : List za) (n : za) (ho : ∀ x ∈ o, Gd x) (hn : Gd n) : items (joinStep o n) = items o ++ itN n ∧ ∀ x ∈ joinStep o n, Gd x := by
 have e1 : ∀ x, items [x] = itN x := fun x => by simp [items]
 have plain : items (o ++ [n]) = items o ++ itN n ∧ ∀ x ∈ o ++ [n], Gd x := by
  refine ⟨by rw [Qe, e1], fun x hx => ?_⟩
  rcases List.mem_append.1 hx with hx | hx
  ·exact ho x hx
  ·simp at hx; rw [hx]; exact hn
 by_cases hc : (isT n && n.Text == []) = true
 ·have e : joinStep o n = o := by unfold joinStep; rw [if_pos hc]
  rw [e]
  simp only [Bool.and_eq_true, beq_iff_eq] at hc
  refine ⟨?_, ho⟩
  unfold itN
  rw [if_pos hc.1, hc.2, Wv]
  simp
 ·rcases w9 o with rfl | ⟨o, x, rfl⟩
  ·rw [vM, if_neg hc]
   simpa using plain
  ·rw [wO, if_neg hc]
   by_cases hd : (isT n && isT x && decide (x.Marks = n.Marks)) = true
   ·rw [if_pos hd]
    simp only [Bool.and_eq_true, decide_eq_true_eq] at hd
    obtain ⟨⟨h1, h2⟩, h3⟩ := hd
    have hx := ho x (by simp) h2
    have hn' := hn h1
    have ht : isT ({ n with Text := x.Text ++ n.Text } : za) = true := h1
    obtain ⟨r1, r2⟩ := aej n.Text hx.1
    refine ⟨?_, fun y hy => ?_⟩
    ·rw [Qe, Qe, e1, e1, List.append_assoc]
     congr 1
     unfold itN
     rw [if_pos ht, if_pos h1, if_pos h2]
     simp only [r1, List.map_append, h3]
    ·rcases List.mem_append.1 hy with hy | hy
     ·exact ho y (by simp [hy])
     ·simp only [List.mem_singleton] at hy
      rw [hy]
      exact fun _ => ⟨by simp only [r2]; exact hn'.1, hn'.2⟩
   ·rw [if_neg hd]
    simpa [List.append_assoc] using plain
theorem aiz : ∀ (l o : List za), (∀ x ∈ o, Gd x) → (∀ x ∈ l, Gd x) → items (l.foldl joinStep o) = items o ++ items l ∧ ∀ x ∈ l.foldl joinStep o, Gd x
 | [], o, ho, _ => ⟨by simp [items], ho⟩
 | n :: l, o, ho, hl => by
  obtain ⟨h1, h2⟩ := Yk o n ho (hl n (by simp))
  obtain ⟨h3, h4⟩ := aiz l _ h2 fun x hx => hl x (by simp [hx])
  refine ⟨?_, h4⟩
  rw [List.foldl_cons, h3, h1, List.append_assoc]
  rfl
theorem an8 {l : List za} (h : ∀ x ∈ l, Gd x) : items (x9 l) = items l ∧ ∀ x ∈ x9 l, Gd x := by
 have := aiz l [] (by simp) h
 exact ⟨this.1.trans (by simp [items]), this.2⟩
def Jnd (l : List za) : Prop := vV l ∧ ∀ x ∈ l, isT x = true → x.Text ≠ []
theorem alL {a : za} {l : List za} (h : vV (a :: l)) : vV l := by
 cases l with
 | nil => trivial
 | cons b l => exact h.2
theorem apq : ∀ (o : List za) (x n : za) (l : List za), vV (o ++ x :: n :: l) → wH x n = false
 | [], x, n, l, h => h.1
 | y :: o, x, n, l, h => apq o x n l (alL (a := y) (l := o ++ x :: n :: l) h)
theorem akd : ∀ (l o : List za), vV (o ++ l) → (∀ x ∈ l, isT x = true → x.Text ≠ []) → l.foldl joinStep o = o ++ l
 | [], o, _, _ => by simp
 | n :: l, o, h, hl => by
  have hn := hl n (by simp)
  have hc : ¬ (isT n && n.Text == []) = true := by
   simp only [Bool.and_eq_true, beq_iff_eq]
   rintro ⟨h1, h2⟩
   exact hn h1 h2
  have e : joinStep o n = o ++ [n] := by
   rcases w9 o with rfl | ⟨o, x, rfl⟩
   ·rw [vM, if_neg hc]; rfl
   ·rw [wO, if_neg hc]
    have ha := apq o x n l (by simpa using h)
    unfold wH at ha
    have : (isT n && isT x && decide (x.Marks = n.Marks)) = false := by rw [Bool.and_comm (isT n)]; exact ha
    rw [this]
    simp
  rw [List.foldl_cons, e, akd l _ (by simpa using h) fun x hx => hl x (by simp [hx])]
  simp
theorem Jnd.join {l : List za} (h : Jnd l) : x9 l = l := by
 have := akd l [] h.1 h.2
 simpa [x9] using this
theorem Jnd.canon {l : List za} (h : Jnd l) (hg : ∀ x ∈ l, Gd x) : l = canon (items l) := by
 rw [← anX hg, h.join]
theorem aud {a b : List za} (ha : Jnd a) (hb : Jnd b) (ga : ∀ x ∈ a, Gd x) (gb : ∀ x ∈ b, Gd x) (h : items a = items b) : a = b := by
 rw [ha.canon ga, hb.canon gb, h]
theorem ae2 : ∀ (a b : List za), vV (a ++ b) → vV a
 | [], _, _ => trivial
 | [x], _, _ => trivial
 | x :: y :: a, b, h => ⟨h.1, ae2 (y :: a) b h.2⟩
theorem ajU : ∀ (a b : List za), vV (a ++ b) → vV b
 | [], _, h => h
 | x :: a, b, h => ajU a b (alL (a := x) (l := a ++ b) h)
theorem ahd : ∀ (a : List za) (x y : za), vV (a ++ [x]) → (∀ z, wH z y = wH z x) → vV (a ++ [y])
 | [], _, _, _, _ => trivial
 | [z], x, y, h, e => ⟨by rw [e]; exact h.1, trivial⟩
 | z :: w :: a, x, y, h, e => ⟨h.1, ahd (w :: a) x y h.2 e⟩
theorem agO (x y : za) (l : List za) (h : vV (x :: l)) (e : ∀ z, wH y z = wH x z) : vV (y :: l) := by
 cases l with
 | nil => trivial
 | cons z l => exact ⟨by rw [e]; exact h.1, h.2⟩
end Go.Proofs.YtclohbgnaopjfaaDoor
namespace Go.Proofs.YtclohbgnaopjfaaDoor
set_option linter.unusedSimpArgs false
set_option linter.unusedVariables false
open Go
theorem aph {α : Type} (o : List α) (x y : α) : wr (o ++ [x]) (o.length : Int) y = some (o ++ [y]) := by
 unfold wr
 rw [if_pos (by simp; omega)]
 simp
theorem anl : ∀ (l : List za) (i : Int) (o : List za), zL o + zL l ≤ 1099511627776 → wU l i o = some (l.foldl joinStep o)
 | [], i, o, _ => by simp [wU]
 | n :: l, i, o, hw => by
  simp only [zL] at hw
  have hjw := YH o n
  have ih := anl l (i + 1) (joinStep o n) (by omega)
  have hol := kg o
  have eapp : app 104 o [n] = some (o ++ [n]) := kF (by simp; omega)
  rw [wU, List.foldl_cons, WA]
  simp only [Option.bind_some]
  rcases w9 o with rfl | ⟨o, x, rfl⟩
  ·rw [vM] at ih ⊢
   have hneg : decide (w64 ((([] : List za).length : Int) - 1) ≥ 0) = false := by rw [qK (by simp)]; simp
   by_cases ht : isT n = true
   ·by_cases he : n.Text = []
    ·simp only [ht, he, Bool.true_and, beq_self_eq_true, if_true] at ih ⊢
     exact ih
    ·have he' : (n.Text == []) = false := by simp [he]
     simp only [ht, he', Bool.true_and, Bool.false_eq_true, if_false] at ih ⊢
     simp only [if_true, hneg, Bool.false_eq_true, if_false, eapp, Option.bind_some]
     exact ih
   ·have ht2 : isT n = false := by simpa using ht
    simp only [ht2, Bool.false_and, Bool.false_eq_true, if_false] at ih ⊢
    simp only [hneg, Bool.false_eq_true, if_false, eapp, Option.bind_some]
    exact ih
  ·rw [wO] at ih ⊢
   have hw1 : w64 (((o ++ [x]).length : Int) - 1) = (o.length : Int) := by
    rw [qK (by simp at hol ⊢; omega)]
    simp
   have hx : rd (o ++ [x]) (o.length : Int) = some x := Xr o [] x
   have hpos : decide ((o.length : Int) ≥ 0) = true := by simp
   have hwx : nwt x ≤ zL (o ++ [x]) := QQ (by simp)
   have hx1 := qM x
   have hn1 := qM n
   have hxm := agp x.Marks
   have hal : wH x n = (isT n && isT x && decide (x.Marks = n.Marks)) := by unfold wH; rw [Bool.and_comm (isT x)]
   rw [hw1, hx]
   simp only [hpos, if_true, Option.bind_some]
   rw [am9 x n (by omega), aph]
   simp only [Option.bind_some, hal]
   by_cases ht : isT n = true
   ·by_cases he : n.Text = []
    ·simp only [ht, he, Bool.true_and, beq_self_eq_true, if_true] at ih ⊢
     exact ih
    ·have he' : (n.Text == []) = false := by simp [he]
     simp only [ht, he', Bool.true_and, Bool.false_eq_true, if_false, if_true] at ih ⊢
     cases hc : (isT x && decide (x.Marks = n.Marks)) with
     | true =>
      simp only [hc, if_true] at ih ⊢
      rw [qL (by omega)]
      exact ih
     | false =>
      simp only [hc, Bool.false_eq_true, if_false] at ih ⊢
      rw [eapp]
      simp only [Option.bind_some, List.append_assoc, List.cons_append, List.nil_append]
      exact ih
   ·have ht2 : isT n = false := by simpa using ht
    simp only [ht2, Bool.false_and, Bool.false_eq_true, if_false] at ih ⊢
    rw [eapp]
    simp only [Option.bind_some, List.append_assoc, List.cons_append, List.nil_append]
    exact ih
theorem adO (l : List za) (h : zL l ≤ 1099511627776) : Wp l = some (x9 l) := by
 have hl := kg l
 unfold Wp
 rw [qL (by omega), anl l 0 [] (by simpa [zL] using h)]
 rfl
end Go.Proofs.YtclohbgnaopjfaaDoor
namespace Go.Proofs.YtclohbgnaopjfaaDoor
set_option linter.unusedSimpArgs false
set_option linter.unusedVariables false
open Go
def up (q : List Nat) : List Int := q.map fun (i : Nat) => (i : Int)
theorem arD : up [] = [] := rfl
theorem ak7 (i : Nat) (q : List Nat) : up (i :: q) = (i : Int) :: up q := rfl
theorem an5 (p q : List Nat) : up (p ++ q) = up p ++ up q := by simp [up]
theorem Jv (q : List Nat) : (up q).length = q.length := by simp [up]
theorem arz {p q : List Nat} (h : up p = up q) : p = q := by
 induction p generalizing q with
 | nil => cases q with
  | nil => rfl
  | cons b q => simp [up] at h
 | cons a p ih => cases q with
  | nil => simp [up] at h
  | cons b q =>
   simp only [ak7, List.cons.injEq] at h
   rw [ih h.2, Int.ofNat_inj.1 h.1]
abbrev aeO : za := { Kind := ([] : Str), Text := ([] : Str), Marks := [], zo := [], Kids := [] }
theorem aus {α : Type} {l : List α} {b : Nat} (h : b ≤ l.length) : sl l 0 (b : Int) = some (l.take b) := by
 have := aae (l := l) (a := 0) (b := b) (by omega) h
 simpa using this
inductive At : za → List Nat → za → Nat → Prop
 | nil (n : za) : At n [] n 0
 | cons (n : za) (i : Nat) (k : za) (q : List Nat) (m : za) (a : Nat) (hi : n.Kids[i]? = some k) (hn : isT n = false) (hk : isT k = false) (h : At k q m a) : At n (i :: q) m (zF (n.Kids.take i) + 1 + a)
theorem Xi {l : List za} {i : Nat} {k : za} (h : l[i]? = some k) : l = l.take i ++ k :: l.drop (i + 1) := by
 obtain ⟨hi, rfl⟩ := List.getElem?_eq_some_iff.1 h
 simp
theorem ae0 {l : List za} {i : Nat} {k : za} (h : l[i]? = some k) : zF l = zF (l.take i) + wL k + zF (l.drop (i + 1)) := by
 conv => lhs; rw [Xi h]
 rw [Xy, zF]; omega
theorem ags {l : List za} {i : Nat} {k : za} (h : l[i]? = some k) : zL l = zL (l.take i) + nwt k + zL (l.drop (i + 1)) := by
 conv => lhs; rw [Xi h]
 rw [vk, zL]; omega
theorem ag8 (l : List za) (i : Nat) : zF (l.take i) ≤ zF l := by
 have := Xy (l.take i) (l.drop i)
 rw [List.take_append_drop] at this
 omega
theorem At.axy {n : za} {q m a} (h : At n q m a) (hn : isT n = false) : isT m = false := by
 induction h with
 | nil => exact hn
 | cons n i k q m a hi hn' hk h ih => exact ih hk
theorem At.sizes {n : za} {q m a} (h : At n q m a) : a + zF m.Kids ≤ zF n.Kids := by
 induction h with
 | nil => omega
 | cons n i k q m a hi hn hk h ih =>
  have h1 := ae0 hi
  have h2 := ZZ hk
  omega
theorem At.len {n : za} {q m a} (h : At n q m a) : q.length ≤ a := by
 induction h with
 | nil => simp
 | cons n i k q m a hi hn hk h ih => simp only [List.length_cons]; omega
theorem At.wt {n : za} {q m a} (h : At n q m a) : nwt m ≤ nwt n := by
 induction h with
 | nil => omega
 | cons n i k q m a hi hn hk h ih =>
  have h1 := ags hi
  have h2 := je n
  omega
theorem At.dep {n : za} {q m a} (h : At n q m a) : ZI m ≤ ZI n := by
 induction h with
 | nil => omega
 | cons n i k q m a hi hn hk h ih =>
  have h1 := yL (List.mem_of_getElem? hi)
  have h2 := yw n
  omega
theorem At.snoc {n : za} {q m a} (h : At n q m a) {i k} (hi : m.Kids[i]? = some k) (hm : isT m = false) (hk : isT k = false) : At n (q ++ [i]) k (a + zF (m.Kids.take i) + 1) := by
 induction h with
 | nil n =>
  have := At.cons n i k [] k 0 hi hm hk (.nil k)
  simpa using this
 | cons n j x q m a hj hn hx h ih =>
  have := At.cons n j x _ _ _ hj hn hx (ih hi hm)
  have e : zF (n.Kids.take j) + 1 + a + zF (m.Kids.take i) + 1 = zF (n.Kids.take j) + 1 + (a + zF (m.Kids.take i) + 1) := by omega
  rw [e]
  exact this
theorem At.avs {n : za} : ∀ {q : List Nat} {i k a}, At n (q ++ [i]) k a → ∃ m b, At n q m b ∧ m.Kids[i]? = some k ∧ isT m = false ∧ isT k = false ∧ a = b + zF (m.Kids.take i) + 1 := by
 intro q
 induction q generalizing n with
 | nil =>
  intro i k a h
  cases h with
  | cons _ _ x _ _ a hi hn hk h =>
   cases h
   exact ⟨n, 0, .nil n, hi, hn, hk, by omega⟩
 | cons j q ih =>
  intro i k a h
  cases h with
  | cons _ _ x _ _ a hi hn hk h =>
   obtain ⟨m, b, h1, h2, h3, h4, h5⟩ := ih h
   exact ⟨m, _, .cons n j x q m b hi hn hk h1, h2, h3, h4, by omega⟩
end Go.Proofs.YtclohbgnaopjfaaDoor
namespace Go.Proofs.YtclohbgnaopjfaaDoor
set_option linter.unusedSimpArgs false
set_option linter.unusedVariables false
open Go
theorem arL {n : za} {q m a} (h : At n q m a) : ∀ v, qB (up q) v n = some (.inr m) := by
 induction h with
 | nil n => intro v; rfl
 | cons n i k q m a hi hn hk h ih =>
  intro v
  have hl := (List.getElem?_eq_some_iff.1 hi).1
  have h1 : decide ((i : Int) < 0) = false := by simp
  have h2 : decide ((i : Int) ≥ (n.Kids.length : Int)) = false := by simp; omega
  rw [ak7, qB]
  simp only [WK, h1, h2, hn, Bool.false_eq_true, if_false, Ql hi, Option.bind_some, ih]
theorem Kn {n : za} {q m a} (h : At n q m a) (hm : isT m = false) (hq : q.length ≤ 9223372036854775807) : vv n (up q) = some (m, 0) := by
 unfold vv
 rw [Jv, qL hq, arL h]
 simp only [Option.bind_some, WK, hm, Bool.false_eq_true, if_false]
theorem asr {n : za} {q m a} (h : At n q m a) : ∀ v (t : Nat), nwt n ≤ 1099511627776 → t + a ≤ 4611686018427387904 → jJ (up q) v (t : Int) n = some ((t + a : Nat) : Int) := by
 induction h with
 | nil n => intro v t _ _; rfl
 | cons n i k q m a hi hn hk h ih =>
  intro v t hw ht
  have hl := (List.getElem?_eq_some_iff.1 hi).1
  have h1 := ags hi
  have h2 := je n
  have h3 := ve (n.Kids.take i)
  rw [ak7, jJ, aus (by omega)]
  simp only [Option.bind_some]
  rw [QO _ (by omega), Ql hi]
  simp only [Option.bind_some]
  have e : w64 ((t : Int) + w64 ((zF (n.Kids.take i) : Int) + 1)) = ((t + (zF (n.Kids.take i) + 1) : Nat) : Int) := by
   rw [qK (x := (zF (n.Kids.take i) : Int) + 1) (by omega), qK (by omega)]
   omega
  rw [e, ih _ _ (by omega) (by omega)]
  simp only [Option.some.injEq]
  omega
theorem start_eq {n : za} {q m a} (h : At n q m a) (hm : isT m = false) (hw : nwt n ≤ 1099511627776) : WW n (up q) = some ((a : Int), 0) := by
 have h1 := h.len
 have h2 := h.sizes
 have h3 := ve n.Kids
 have h4 := je n
 unfold WW
 rw [Kn h hm (by omega)]
 have := asr h 0 0 hw (by omega)
 simp only [Option.bind_some, bne_self_eq_false, Bool.false_eq_true, if_false]
 rw [Jv, qL (by omega)]
 have e : ((0 : Nat) : Int) = 0 := rfl
 rw [e] at this
 rw [this]
 simp
def Jt (n : za) (s : wB) (pos : Nat) : Prop :=
 ∃ q m a idx off, s = ⟨up q, ((idx : Nat) : Int), ((off : Nat) : Int)⟩ ∧ At n q m a ∧ isT m = false ∧ idx ≤ m.Kids.length ∧ a + zF (m.Kids.take idx) + off = pos ∧ (∀ k, m.Kids[idx]? = some k → off < wL k ∧ (0 < off → isT k = true)) ∧ (idx = m.Kids.length → off = 0)
theorem aiE (path : List Int) (hp : path.length ≤ 1099511627776) : ∀ (suf : List za) (i pos : Nat), zL suf ≤ 1099511627776 → pos ≤ 1099511627776 → i + suf.length ≤ 9223372036854775807 →
    (zF suf ≤ pos ∧ qb path suf (i : Int) (pos : Int) = some (.inr (.inr ()))) ∨
    ∃ a k b r, suf = a ++ k :: b ∧ pos = zF a + r ∧ r < wL k ∧
      (((isT k = true ∨ r = 0) ∧ qb path suf (i : Int) (pos : Int) = some (.inl (⟨path, ((i + a.length : Nat) : Int), ((r : Nat) : Int)⟩, 0))) ∨
       (isT k = false ∧ 0 < r ∧ qb path suf (i : Int) (pos : Int) = some (.inr (.inl (((r - 1 : Nat) : Int), k, path ++ [((i + a.length : Nat) : Int)])))))
  | [], i, pos, _, _, _ => .inl ⟨by simp [zF], rfl⟩
  | y :: suf, i, pos, hw, hpos, hi => by
    simp only [zL] at hw
    have hy := ahF y
    by_cases h : wL y ≤ pos
    · have step : qb path (y :: suf) (i : Int) (pos : Int) = qb path suf ((i + 1 : Nat) : Int) ((pos - wL y : Nat) : Int) := by
        rw [qb, size_eq y (by omega)]
        have : decide ((pos : Int) ≥ (wL y : Int)) = true := by simp; omega
        simp only [Option.bind_some, this, if_true]
        rw [qK (by omega)]
        congr 1
        omega
      simp only [List.length_cons] at hi
      rcases aiE path hp suf (i + 1) (pos - wL y) (by omega) (by omega) (by omega) with ⟨h1, h2⟩ | ⟨a, k, b, r, h1, h2, h3, h4⟩
      · left
        exact ⟨by simp only [zF]; omega, by rw [step, h2]⟩
      · right
        have e : i + 1 + a.length = i + (y :: a).length := by simp; omega
        rw [e] at h4
        exact ⟨y :: a, k, b, r, by rw [h1]; rfl, by simp only [zF]; omega, h3, by rw [step]; exact h4⟩
    · right
      have hd : decide ((pos : Int) ≥ (wL y : Int)) = false := by simp; omega
      refine ⟨[], y, suf, pos, rfl, by simp [zF], by omega, ?_⟩
      rw [qb, size_eq y (by omega)]
      simp only [Option.bind_some, hd, Bool.false_eq_true, if_false, List.length_nil, Nat.add_zero]
      by_cases ht : isT y = true
      · left
        exact ⟨.inl ht, by simp only [WK, ht, if_true]⟩
      · have ht' : isT y = false := by simpa using ht
        simp only [WK, ht', Bool.false_eq_true, if_false]
        by_cases h0 : pos = 0
        · left
          subst h0
          exact ⟨.inr rfl, by simp⟩
        · right
          have : ((pos : Int) == 0) = false := by simp; omega
          refine ⟨trivial, by omega, ?_⟩
          simp only [this, Bool.false_eq_true, if_false]
          rw [kF (by simp; omega), qK (by omega)]
          simp only [Option.bind_some, Option.some.injEq, Sum.inr.injEq, Sum.inl.injEq, Prod.mk.injEq, and_true]
          omega
theorem ail (n0 : za) (hw0 : nwt n0 ≤ 1099511627776) : ∀ (d : Nat) (n : za) (q : List Nat) (a pos : Nat), ZI n ≤ d → At n0 q n a → isT n = false → pos ≤ zF n.Kids → ∃ s, Jt n0 s (a + pos) ∧ ∀ k, d ≤ k → kC k (pos : Int) n (up q) = some (s, 0)
 | 0, n, q, a, pos, hd, _, _, _ => by have := yw n; omega
 | d + 1, n, q, a, pos, hd, hat, hn, hpos => by
  have h1 := hat.len
  have h2 := hat.sizes
  have h3 := ve n0.Kids
  have h4 := je n0
  have h5 := hat.wt
  have h6 := je n
  have h7 := kg n.Kids
  have h8 := ve n.Kids
  rcases aiE (up q) (by rw [Jv]; omega) n.Kids 0 pos (by omega) (by omega) (by omega) with ⟨e1, e2⟩ | ⟨x, k, y, r, e1, e2, e3, e4⟩
  ·refine ⟨⟨up q, (n.Kids.length : Int), 0⟩, ⟨q, n, a, n.Kids.length, 0, rfl, hat, hn, by omega, by simp; omega, fun k hk => by simp at hk, fun _ => rfl⟩, fun k hk => ?_⟩
   obtain ⟨k, rfl⟩ : ∃ j, k = j + 1 := ⟨k - 1, by omega⟩
   rw [kC, qL (by omega)]
   have e2' : qb (up q) n.Kids 0 (pos : Int) = _ := e2
   rw [e2']
   rfl
  ·have hx : n.Kids[x.length]? = some k := by rw [e1]; simp
   have htk : n.Kids.take x.length = x := by rw [e1]; simp
   have hle : x.length < n.Kids.length := by rw [e1]; simp
   rw [Nat.zero_add] at e4
   rcases e4 with ⟨e4, e5⟩ | ⟨e4, e5, e6⟩
   ·refine ⟨⟨up q, (x.length : Int), (r : Int)⟩, ⟨q, n, a, x.length, r, rfl, hat, hn, by omega, by rw [htk]; omega, fun k' hk' => ?_, fun h => by omega⟩, fun k' hk => ?_⟩
    ·rw [hx] at hk'
     cases hk'
     exact ⟨e3, fun h => e4.resolve_right (by omega)⟩
    ·obtain ⟨k', rfl⟩ : ∃ j, k' = j + 1 := ⟨k' - 1, by omega⟩
     rw [kC, qL (by omega)]
     have e2' : qb (up q) n.Kids 0 (pos : Int) = _ := e5
     rw [e2']
     rfl
   ·have hs := ZZ e4
    have hdk := yL (List.mem_of_getElem? hx)
    have hdn := yw n
    obtain ⟨s, s1, s2⟩ := ail n0 hw0 d k (q ++ [x.length]) _ (r - 1) (by omega) (hat.snoc hx hn e4) e4 (by omega)
    refine ⟨s, ?_, fun k' hk => ?_⟩
    ·rw [htk] at s1
     have e : a + zF x + 1 + (r - 1) = a + pos := by omega
     rw [e] at s1
     exact s1
    ·obtain ⟨k', rfl⟩ : ∃ j, k' = j + 1 := ⟨k' - 1, by omega⟩
     rw [kC, qL (by omega)]
     have e2' : qb (up q) n.Kids 0 (pos : Int) = _ := e6
     rw [e2']
     simp only [Option.bind_some]
     have := s2 k' (by omega)
     rw [an5] at this
     exact this
theorem ZK {n : za} (hn : isT n = false) (hw : nwt n ≤ 1099511627776) (pos : Nat) (hp : pos ≤ zF n.Kids) : ∃ s, ku n (pos : Int) = some (s, 0) ∧ Jt n s pos := by
 have h4 := je n
 obtain ⟨s, h1, h2⟩ := ail n hw (ZI n) n [] 0 pos (Nat.le_refl _) (.nil n) hn hp
 refine ⟨s, ?_, by simpa using h1⟩
 have hneg : decide ((pos : Int) < 0) = false := by simp
 have hgt : decide ((pos : Int) > (zF n.Kids : Int)) = false := by simp; omega
 unfold ku
 simp only [WK, hn, Bool.false_eq_true, if_false, hneg]
 rw [QO _ (by omega)]
 simp only [Option.bind_some, hgt, Bool.false_eq_true, if_false]
 rw [arD] at h2
 rw [Ku (ZI n) h2]
 rfl
theorem ano {n : za} (hn : isT n = false) (hw : nwt n ≤ 1099511627776) (pos : Int) (hp : pos < 0 ∨ zF n.Kids < pos) : ku n pos = some (⟨[], 0, 0⟩, 3) := by
 have h4 := je n
 unfold ku
 simp only [WK, hn, Bool.false_eq_true, if_false]
 by_cases h : pos < 0
 ·simp [h]
 ·have hgt : decide (pos > (zF n.Kids : Int)) = true := by simp; omega
  have hneg : decide (pos < 0) = false := by simpa using h
  simp only [hneg, Bool.false_eq_true, if_false]
  rw [QO _ (by omega)]
  simp only [Option.bind_some, hgt, if_true]
theorem Jt.le {n : za} {s pos} (h : Jt n s pos) : pos ≤ zF n.Kids := by
 obtain ⟨q, m, a, idx, off, _, h1, _, h2, h3, h4, h5⟩ := h
 have hs := h1.sizes
 rcases Nat.lt_or_ge idx m.Kids.length with hl | hl
 ·obtain ⟨k, hk⟩ : ∃ k, m.Kids[idx]? = some k := ⟨_, List.getElem?_eq_getElem hl⟩
  have := ae0 hk
  have := (h4 k hk).1
  omega
 ·have := h5 (by omega)
  have := ag8 m.Kids idx
  omega
end Go.Proofs.YtclohbgnaopjfaaDoor
namespace Go.Proofs.YtclohbgnaopjfaaDoor
set_option linter.unusedSimpArgs false
set_option linter.unusedVariables false
open Go
def Qi : List Nat → za → za → za
 | [], _, x => x
 | i :: q, n, x => { n with Kids := match n.Kids[i]? with | some k => n.Kids.set i (Qi q k x) | none => n.Kids }
theorem jX {n : za} {i : Nat} {k : za} (hi : n.Kids[i]? = some k) (q : List Nat) (x : za) : Qi (i :: q) n x = { n with Kids := n.Kids.set i (Qi q k x) } := by
 rw [Qi, hi]
theorem JO : ∀ (q : List Nat) (n x : za), isT n = false → isT x = false → isT (Qi q n x) = false
 | [], n, x, _, h => h
 | i :: q, n, x, h, _ => h
theorem avD {x : za} {n : za} {q m a} (h : At n q m a) : nwt (Qi q n x) + nwt m = nwt n + nwt x := by
 induction h with
 | nil n => rw [Qi]; omega
 | cons n i k q m a hi hn hk h ih =>
  have hl := (List.getElem?_eq_some_iff.1 hi).1
  have h1 := ags hi
  rw [jX hi, qM, qM n]
  simp only
  rw [List.set_eq_take_append_cons_drop, if_pos hl, vk, zL]
  omega
theorem At.rep {x : za} (hx : isT x = false) {n : za} {q m a} (h : At n q m a) : At (Qi q n x) q x a := by
 induction h with
 | nil n => exact .nil _
 | cons n i k q m a hi hn hk h ih =>
  have hl := (List.getElem?_eq_some_iff.1 hi).1
  have := At.cons (Qi (i :: q) n x) i (Qi q k x) q x a (by rw [jX hi]; simp [hl]) hn (JO q k x hk hx) ih
  have e : (Qi (i :: q) n x).Kids.take i = n.Kids.take i := by
   rw [jX hi]
   simp only
   rw [List.take_set_of_le (Nat.le_refl _)]
  rw [e] at this
  exact this
theorem anP {α : Type} {l : List α} {i : Nat} (h : i < l.length) (x : α) : wr l (i : Int) x = some (l.set i x) := by
 unfold wr; rw [if_pos (by omega)]; simp
theorem av3 {α : Type} (x : α) (l : List α) : sl (x :: l) 1 ((x :: l).length : Int) = some l := by
 have := aae (l := x :: l) (a := 1) (b := (x :: l).length) (by simp) (by simp)
 simpa using this
theorem avu {x : za} {n : za} {q m a} (h : At n q m a) : isT n = false → nwt n ≤ 1099511627776 → ∀ kr, q.length < kr → xc kr n (up q) x = some (Qi q n x, 0) := by
 induction h with
 | nil n =>
  intro hn hw kr hk
  obtain ⟨kr, rfl⟩ : ∃ j, kr = j + 1 := ⟨kr - 1, by omega⟩
  have := Kn (At.nil n) hn (by simp)
  rw [xc, this]
  rfl
 | cons n i k q m a hi hn hk h ih =>
  intro _ hw kr hkr
  simp only [List.length_cons] at hkr
  obtain ⟨kr, rfl⟩ : ∃ j, kr = j + 1 := ⟨kr - 1, by omega⟩
  have hat := At.cons n i k q m a hi hn hk h
  have g1 := hat.len
  have g2 := hat.sizes
  have g3 := ve n.Kids
  have g4 := je n
  have g5 := ags hi
  have g6 := kg n.Kids
  have hl := (List.getElem?_eq_some_iff.1 hi).1
  have hnz : (((i :: q).length : Int) == 0) = false := by simp; omega
  have hin := Kn hat (hat.axy hn) (by omega)
  have e1 : rd (up (i :: q)) 0 = some (i : Int) := Ql (l := up (i :: q)) (i := 0) rfl
  have e2 : sl (up (i :: q)) 1 ((up (i :: q)).length : Int) = some (up q) := av3 _ _
  have e3 : app 104 [] n.Kids = some n.Kids := kF (by simp; omega)
  rw [xc, hin, e1, e2]
  simp only [Option.bind_some, bne_self_eq_false, Bool.false_eq_true, if_false, Jv, hnz, qY, e3, Ql hi]
  rw [ih hk (by omega) kr (by omega)]
  simp only [Option.bind_some]
  rw [anP hl, jX hi]
  rfl
theorem api {x : za} {n : za} {q m a} (h : At n q m a) (hn : isT n = false) (hw : nwt n ≤ 1099511627776) : Ww n (up q) x = some (Qi q n x, 0) := by
 unfold Ww
 exact Ku (q.length + 1) fun k hk => avu h hn hw k (by omega)
end Go.Proofs.YtclohbgnaopjfaaDoor
namespace Go.Proofs.YtclohbgnaopjfaaDoor
set_option linter.unusedSimpArgs false
set_option linter.unusedVariables false
open Go
structure vO (l : List za) : Prop where
 form : ∀ x ∈ l, zY x = true
 adj : vV l
theorem xI {n : za} (h : zY n = true) (ht : isT n = true) : n.Text ≠ [] ∧ Lib.validD n.Text = true ∧ vT n.Marks = true ∧ n.zo = [] ∧ n.Kids = [] := by
 rw [jq, if_pos ht] at h
 simp only [Bool.and_eq_true, decide_eq_true_eq] at h
 obtain ⟨⟨⟨h1, h2⟩, h3⟩, h4⟩ := h
 exact ⟨h1, h2, h3, List.eq_nil_of_length_eq_zero (by omega), List.eq_nil_of_length_eq_zero (by omega)⟩
theorem agE {t : Str} {m : List Str} (h1 : t ≠ []) (h2 : Lib.validD t = true) (h3 : vT m = true) : zY (tN t m) = true := by
 have ht : isT (tN t m) = true := rfl
 rw [jq, if_pos ht]
 simp [h1, h2, h3]
theorem agt {n : za} (h : zY n = true) : Gd n := fun ht => by
 obtain ⟨_, h2, _, h4, h5⟩ := xI h ht
 exact ⟨h2, h4, h5⟩
theorem anz {s : Str} (h : s ≠ []) : 1 ≤ ah6 s := by
 rw [← yS, acg s h]
 simp
theorem size_pos {n : za} (h : zY n = true) : 1 ≤ wL n := by
 rw [jM]
 cases ht : isT n with
 | true => simpa using anz (xI h ht).1
 | false => simp; omega
theorem vO.gd {l : List za} (h : vO l) : ∀ x ∈ l, Gd x := fun x hx => agt (h.form x hx)
theorem vO.jnd {l : List za} (h : vO l) : Jnd l := ⟨h.adj, fun x hx ht => (xI (h.form x hx) ht).1⟩
theorem ahi {a b : List za} (ha : vO a) (hb : vO b) (h : items a = items b) : a = b := aud ha.jnd hb.jnd ha.gd hb.gd h
theorem vO.nil : vO [] := ⟨by simp, trivial⟩
theorem vO.left {a b : List za} (h : vO (a ++ b)) : vO a := ⟨fun x hx => h.form x (by simp [hx]), ae2 a b h.adj⟩
theorem vO.right {a b : List za} (h : vO (a ++ b)) : vO b := ⟨fun x hx => h.form x (by simp [hx]), ajU a b h.adj⟩
theorem aby (o : List za) (n : za) (h : vO o) (hn : zY n = true) : vO (joinStep o n) := by
 have hc : ¬ (isT n && n.Text == []) = true := by
  simp only [Bool.and_eq_true, beq_iff_eq]
  rintro ⟨h1, h2⟩
  exact (xI hn h1).1 h2
 rcases w9 o with rfl | ⟨o, x, rfl⟩
 ·rw [vM, if_neg hc]
  exact ⟨fun y hy => by simp at hy; rw [hy]; exact hn, trivial⟩
 ·rw [wO, if_neg hc]
  have hx := h.form x (by simp)
  split
  ·rename_i hd
   simp only [Bool.and_eq_true, decide_eq_true_eq] at hd
   obtain ⟨⟨h1, h2⟩, h3⟩ := hd
   obtain ⟨a1, a2, a3, a4, a5⟩ := xI hx h2
   obtain ⟨b1, b2, b3, b4, b5⟩ := xI hn h1
   have e : ({ n with Text := x.Text ++ n.Text } : za) = tN (x.Text ++ n.Text) n.Marks := by
    have := JQ h1
    cases n
    simp_all
   have ef : zY ({ n with Text := x.Text ++ n.Text } : za) = true := by
    rw [e]
    refine agE (by simp [a1]) ?_ b3
    rw [(aej n.Text a2).2]
    exact b2
   refine ⟨fun y hy => ?_, ?_⟩
   ·rcases List.mem_append.1 hy with hy | hy
    ·exact h.form y (by simp [hy])
    ·simp only [List.mem_singleton] at hy; rw [hy]; exact ef
   ·refine ahd o x _ h.adj fun z => ?_
    unfold wH
    have e1 : isT ({ n with Text := x.Text ++ n.Text } : za) = true := h1
    rw [e1, h2]
    simp only [h3]
  ·rename_i hd
   refine ⟨fun y hy => ?_, ?_⟩
   ·have hy' : y ∈ o ++ [x] ∨ y = n := by simpa [or_assoc] using hy
    rcases hy' with hy | rfl
    ·exact h.form y hy
    ·exact hn
   ·have ha : wH x n = false := by
     unfold wH
     rw [Bool.and_comm (isT x)]
     simpa using hd
    have := ao4 o x n h.adj ha
    simpa using this
theorem ajp : ∀ (l o : List za), vO o → (∀ x ∈ l, zY x = true) → vO (l.foldl joinStep o)
 | [], _, h, _ => h
 | n :: l, o, h, hl => ajp l _ (aby o n h (hl n (by simp))) fun x hx => hl x (by simp [hx])
theorem aet {l : List za} (h : ∀ x ∈ l, zY x = true) : vO (x9 l) ∧ items (x9 l) = items l :=
 ⟨ajp l [] .nil h, (an8 fun x hx => agt (h x hx)).1⟩
theorem vO.join {l : List za} (h : vO l) : x9 l = l := h.jnd.join
theorem asA : ∀ (l : List za) (last : Option za), xW last l = true → vO l ∧ ∀ x y, last = some x → l.head? = some y → wH x y = false
 | [], last, _ => ⟨.nil, by simp⟩
 | y :: l, last, h => by
  rw [Kh, Bool.and_eq_true, Bool.and_eq_true] at h
  obtain ⟨⟨h1, h2⟩, h3⟩ := h
  obtain ⟨h4, h5⟩ := asA l (some y) h3
  refine ⟨⟨fun x hx => ?_, ?_⟩, ?_⟩
  ·rcases List.mem_cons.1 hx with rfl | hx
   ·exact h1
   ·exact h4.form x hx
  ·cases l with
   | nil => trivial
   | cons z l => exact ⟨h5 y z rfl rfl, h4.adj⟩
  ·rintro x y' rfl hy
   cases hy
   simpa using h2
theorem aoz {l : List za} (h : vO l) : xW none l = true := asV l none h.form h.adj fun _ _ hx => by cases hx
theorem vg {n : za} (h : zY n = true) (ht : isT n = false) : vO n.Kids := by
 rw [jq, if_neg (by simp [ht])] at h
 simp only [Bool.and_eq_true] at h
 exact (asA _ _ h.2).1
theorem aaz {n : za} (h : zY n = true) (ht : isT n = false) {l : List za} (hl : vO l) : zY ({ n with Kids := l } : za) = true := by
 have ht' : isT ({ n with Kids := l } : za) = false := ht
 rw [jq, if_neg (by simp [ht])] at h
 rw [jq, if_neg (by simp [ht'])]
 simp only [Bool.and_eq_true] at h ⊢
 exact ⟨h.1, aoz hl⟩
theorem alS : ∀ (l : List za) (i : Int) (at' : Nat), zL l ≤ 1099511627776 → at' ≤ 1099511627776 → ∃ (k r : Nat), vP l i (at' : Int) = some ((r : Int), i + (k : Int)) ∧ k ≤ l.length ∧ zF (l.take k) + r = at' ∧ ∀ y, l[k]? = some y → r < wL y
 | [], i, at', _, _ => ⟨0, at', by simp [vP], by simp, by simp [zF], by simp⟩
 | y :: l, i, at', hw, ha => by
  simp only [zL] at hw
  rw [vP, size_eq y (by omega)]
  simp only [Option.bind_some]
  by_cases hc : wL y ≤ at'
  ·have g : decide ((at' : Int) ≥ (wL y : Int)) = true := by simp; omega
   have e : w64 ((at' : Int) - (wL y : Int)) = ((at' - wL y : Nat) : Int) := by rw [qK (by omega)]; omega
   simp only [g, if_true, e]
   obtain ⟨k, r, h1, h2, h3, h4⟩ := alS l (i + 1) (at' - wL y) (by omega) (by omega)
   refine ⟨k + 1, r, ?_, by simpa using h2, ?_, ?_⟩
   ·rw [h1]; congr 2; omega
   ·simp only [List.take_succ_cons, zF]; omega
   ·intro z hz; exact h4 z (by simpa using hz)
  ·have g : decide ((at' : Int) ≥ (wL y : Int)) = false := by simp; omega
   simp only [g, Bool.false_eq_true, if_false]
   refine ⟨0, at', by simp, by simp, by simp [zF], ?_⟩
   intro z hz
   simp at hz
   rw [← hz]
   omega
theorem apL : ∀ (P : List It) (i : It) (Q X Y : List It), P ++ i :: Q = X ++ Y → szI P < szI X → szI P + ai8 i ≤ szI X
 | [], i, Q, [], Y, _, hs => by simp [szI] at hs
 | [], i, Q, j :: X, Y, h, _ => by
  simp only [List.nil_append, List.cons_append, List.cons.injEq] at h
  simp only [szI, h.1]; omega
 | p :: P, i, Q, [], Y, _, hs => by simp [szI] at hs
 | p :: P, i, Q, j :: X, Y, h, hs => by
  simp only [List.cons_append, List.cons.injEq] at h
  obtain ⟨rfl, h⟩ := h
  simp only [szI] at hs ⊢
  have := apL P i Q X Y h (by omega)
  omega
theorem anb (l : List za) (h : zL l ≤ 1099511627776) : qY l = some l := by
 have := kg l
 unfold qY
 rw [kF (by simp; omega)]
 simp
theorem auz (l : List za) (k : Nat) : zL (l.take k) + zL (l.drop k) = zL l := by
 have := vk (l.take k) (l.drop k)
 rw [List.take_append_drop] at this
 exact this.symm
theorem size_take (l : List za) (k : Nat) : zF (l.take k) + zF (l.drop k) = zF l := by
 have := Xy (l.take k) (l.drop k)
 rw [List.take_append_drop] at this
 exact this.symm
theorem as7 {l : List za} (h : vO l) (hw : zL l ≤ 549755813888) (at' : Nat) (ha : at' ≤ zF l) :
  (∃ a b, jB l (at' : Int) = some (a, b, 0) ∧ vO a ∧ vO b ∧ items l = items a ++ items b ∧ szI (items a) = at' ∧ zL a ≤ zL l ∧ zL b ≤ zL l ∧ kR a ≤ kR l ∧ kR b ≤ kR l) ∨
  (jB l (at' : Int) = some ([], [], 10) ∧ ∀ X Y, items l = X ++ Y → szI X ≠ at') := by
 have hsz := ve l
 have hl := kg l
 obtain ⟨k, r, h1, h2, h3, h4⟩ := alS l 0 at' (by omega) (by omega)
 have g1 : decide ((at' : Int) < 0) = false := by simp
 have g2 : decide ((at' : Int) > (zF l : Int)) = false := by simp; omega
 have s1 : sl l 0 (k : Int) = some (l.take k) := by
  have := aae (l := l) (a := 0) (b := k) (by omega) h2
  simpa using this
 have s2 : sl l (k : Int) (l.length : Int) = some (l.drop k) := by
  have := aae (l := l) (a := k) (b := l.length) h2 (Nat.le_refl _)
  simpa using this
 have wtd := auz l k
 have std := size_take l k
 have rowt : vO (l.take k ++ l.drop k) := by rw [List.take_append_drop]; exact h
 have itd : items l = items (l.take k) ++ items (l.drop k) := by rw [← Qe, List.take_append_drop]
 have dtd : kR l = max (kR (l.take k)) (kR (l.drop k)) := by rw [← aax, List.take_append_drop]
 unfold jB
 rw [g1]
 simp only [Bool.false_eq_true, if_false]
 rw [QO l (by omega)]
 simp only [Option.bind_some, g2, Bool.false_eq_true, if_false]
 rw [qL (by omega), h1]
 simp only [Option.bind_some, Int.zero_add]
 rw [s1, s2]
 simp only [Option.bind_some]
 rw [anb _ (by omega), anb _ (by omega)]
 simp only [Option.bind_some]
 by_cases hr : r = 0
 ·subst hr
  refine .inl ⟨l.take k, l.drop k, by simp, rowt.left, rowt.right, itd, ?_, by omega, by omega, by omega, by omega⟩
  rw [yh]; omega
 ·have g3 : ((r : Int) == 0) = false := by simp; omega
  simp only [g3, Bool.false_eq_true, if_false]
  rcases Nat.lt_or_ge k l.length with hk | hk
  ·have hy : l[k]? = some l[k] := List.getElem?_eq_getElem hk
   generalize l[k] = y at hy
   have hym : y ∈ l := List.mem_of_getElem? hy
   have hyf := h.form y hym
   have hry := h4 y hy
   have hdrop : l.drop k = y :: l.drop (k + 1) := by
    have := List.drop_eq_getElem_cons hk
    rw [this]
    rw [List.getElem?_eq_getElem hk] at hy
    cases hy
    rfl
   rw [Ql hy]
   simp only [Option.bind_some]
   cases ht : isT y with
   | false =>
    have g4 : (!(y.Kind == ([116, 101, 120, 116] : Str))) = true := by
     have : (y.Kind == ([116, 101, 120, 116] : Str)) = isT y := rfl
     rw [this, ht]; rfl
    refine .inr ⟨by simp only [g4, if_true], fun X Y hXY hX => ?_⟩
    have e : items l = items (l.take k) ++ It.nod y :: items (l.drop (k + 1)) := by
     rw [itd, hdrop, items, itN, ht]
     rfl
    have := apL (items (l.take k)) (It.nod y) (items (l.drop (k + 1))) X Y (by rw [← e, hXY]) (by rw [yh]; omega)
    rw [yh] at this
    simp only [ai8] at this
    omega
   | true =>
    have g4 : (!(y.Kind == ([116, 101, 120, 116] : Str))) = false := by
     have : (y.Kind == ([116, 101, 120, 116] : Str)) = isT y := rfl
     rw [this, ht]; rfl
    simp only [g4, Bool.false_eq_true, if_false]
    obtain ⟨t1, t2, t3, t4, t5⟩ := xI hyf ht
    have ek := JQ ht
    have hrl : r < (runes y.Text).length := by
     rw [yS]
     rw [jM, if_pos ht] at hry
     exact hry
    have q1 : sl (runes y.Text) 0 (r : Int) = some ((runes y.Text).take r) := by
     have := aae (l := runes y.Text) (a := 0) (b := r) (by omega) (by omega)
     simpa using this
    have q2 : sl (runes y.Text) (r : Int) ((runes y.Text).length : Int) = some ((runes y.Text).drop r) := by
     have := aae (l := runes y.Text) (a := r) (b := (runes y.Text).length) (by omega) (Nat.le_refl _)
     simpa using this
    have q3 : rd (l.drop k) 0 = some y := by
     rw [hdrop]; exact Ql (i := 0) rfl
    have q4 : wr (l.drop k) 0 ({ y with Text := zI ((runes y.Text).drop r) } : za) = some (({ y with Text := zI ((runes y.Text).drop r) } : za) :: l.drop (k + 1)) := by
     rw [hdrop]
     exact anP (l := y :: l.drop (k + 1)) (i := 0) (by simp) _
    rw [q1, q2, q3]
    simp only [Option.bind_some]
    rw [q4]
    simp only [Option.bind_some]
    have hvr := ais t2
    obtain ⟨a1, a2⟩ := Xv (l := (runes y.Text).take r) fun c hc => hvr c (List.mem_of_mem_take hc)
    obtain ⟨b1, b2⟩ := Xv (l := (runes y.Text).drop r) fun c hc => hvr c (List.mem_of_mem_drop hc)
    have hcat : zI ((runes y.Text).take r) ++ zI ((runes y.Text).drop r) = y.Text := by
     rw [← Xu, List.take_append_drop, ZQ t2]
    have hne1 : zI ((runes y.Text).take r) ≠ [] := by
     intro hh
     rw [hh, Wv] at a1
     have := congrArg List.length a1
     simp at this
     omega
    have hne2 : zI ((runes y.Text).drop r) ≠ [] := by
     intro hh
     rw [hh, Wv] at b1
     have := congrArg List.length b1
     simp at this
     omega
    have e1 : ({ y with Text := zI ((runes y.Text).take r) } : za) = tN (zI ((runes y.Text).take r)) y.Marks := by cases y; simp_all
    have e2 : ({ y with Text := zI ((runes y.Text).drop r) } : za) = tN (zI ((runes y.Text).drop r)) y.Marks := by cases y; simp_all
    have ey : y = tN y.Text y.Marks := atB (agt hyf) ht
    rw [e1, e2]
    rw [kF (by simp; omega)]
    simp only [Option.bind_some]
    have hlen := congrArg List.length hcat
    rw [List.length_append] at hlen
    have wy : nwt y = 2 + 4 + y.Text.length + wQ y.Marks := by
     rw [qM, ek, t4, t5]; simp [wN, zL]
    have w1 : nwt (tN (zI ((runes y.Text).take r)) y.Marks) = 2 + 4 + (zI ((runes y.Text).take r)).length + wQ y.Marks := by
     rw [qM]; simp [wN, zL]
    have w2 : nwt (tN (zI ((runes y.Text).drop r)) y.Marks) = 2 + 4 + (zI ((runes y.Text).drop r)).length + wQ y.Marks := by
     rw [qM]; simp [wN, zL]
    have d1 : ∀ t m, ZI (tN t m) = 1 := fun t m => by rw [yw]; simp [kR]
    have dy : ZI y = 1 := by rw [ey]; exact d1 _ _
    have f1 := agE hne1 a2 t3
    have f2 := agE hne2 b2 t3
    have alk : ∀ t z, wH z (tN t y.Marks) = wH z y := fun t z => by
     unfold wH
     have : isT (tN t y.Marks) = true := rfl
     rw [this, ht]
    have alk' : ∀ t z, wH (tN t y.Marks) z = wH y z := fun t z => by
     unfold wH
     have : isT (tN t y.Marks) = true := rfl
     rw [this, ht]
    rw [hdrop] at wtd itd dtd rowt
    simp only [zL, kR, items] at wtd itd dtd
    refine .inl ⟨_, _, rfl, ⟨?_, ?_⟩, ⟨?_, ?_⟩, ?_, ?_, ?_, ?_, ?_, ?_⟩
    ·intro x hx
     rcases List.mem_append.1 hx with hx | hx
     ·exact rowt.left.form x hx
     ·simp only [List.mem_singleton] at hx; rw [hx]; exact f1
    ·have : vV (l.take k ++ [y]) := ae2 _ (l.drop (k + 1)) (by simpa using rowt.adj)
     exact ahd _ _ _ this fun z => alk _ z
    ·intro x hx
     rcases List.mem_cons.1 hx with rfl | hx
     ·exact f2
     ·exact rowt.right.form x (by simp [hx])
    ·exact agO y _ _ rowt.right.adj fun z => alk' _ z
    ·rw [itd, Qe, items, items, items]
     have i1 : itN y = (runes y.Text).map fun c => It.sgn c y.Marks := by rw [itN, if_pos ht]
     have i2 : itN (tN (zI ((runes y.Text).take r)) y.Marks) = ((runes y.Text).take r).map fun c => It.sgn c y.Marks := by
      have : isT (tN (zI ((runes y.Text).take r)) y.Marks) = true := rfl
      rw [itN, if_pos this]
      simp only [a1]
     have i3 : itN (tN (zI ((runes y.Text).drop r)) y.Marks) = ((runes y.Text).drop r).map fun c => It.sgn c y.Marks := by
      have : isT (tN (zI ((runes y.Text).drop r)) y.Marks) = true := rfl
      rw [itN, if_pos this]
      simp only [b1]
     rw [i1, i2, i3]
     simp only [List.append_nil, List.append_assoc]
     rw [← List.append_assoc (List.map _ (List.take r _)), ← List.map_append, List.take_append_drop]
    ·rw [yh, Xy]
     simp only [zF]
     have : isT (tN (zI ((runes y.Text).take r)) y.Marks) = true := rfl
     rw [jM, if_pos this, ← yS]
     simp only [a1, List.length_take]
     omega
    ·rw [vk]; simp only [zL]; omega
    ·simp only [zL]; omega
    ·rw [aax]; simp only [kR, d1]; omega
    ·simp only [kR, d1]; omega
  ·exfalso
   have : l.take k = l := List.take_of_length_le hk
   rw [this] at h3
   omega
theorem acs {l : List za} (h : vO l) (hw : zL l ≤ 549755813888) {X Y : List It} (e : items l = X ++ Y) :
  ∃ a b, jB l (szI X : Int) = some (a, b, 0) ∧ vO a ∧ vO b ∧ items a = X ∧ items b = Y ∧ zL a ≤ zL l ∧ zL b ≤ zL l ∧ kR a ≤ kR l ∧ kR b ≤ kR l := by
 have hs : szI X ≤ zF l := by
  rw [← yh, e, QN]; omega
 rcases as7 h hw (szI X) hs with ⟨a, b, h1, h2, h3, h4, h5, h6⟩ | ⟨_, h2⟩
 ·have hn : ∀ i ∈ X ++ Y, aoe i := by rw [← e]; exact aaH l
  obtain ⟨e1, e2⟩ := ajx X (items a) Y (items b) hn (by rw [← e, h4]) h5.symm
  exact ⟨a, b, h1, h2, h3, e1.symm, e2.symm, h6⟩
 ·exact (h2 X Y e rfl).elim
end Go.Proofs.YtclohbgnaopjfaaDoor
namespace Go.Proofs.YtclohbgnaopjfaaDoor
set_option linter.unusedSimpArgs false
set_option linter.unusedVariables false
open Go
inductive Tk where
 | sgn (c : Int) (m : List Str)
 | opn (k : Str) (a : List zg)
 | cls
mutual
def tkN : za → List Tk
 | ⟨k, t, m, a, ks⟩ => if (k == jH) = true then (runes t).map (fun c => Tk.sgn c m) else Tk.opn k a :: (tkL ks ++ [Tk.cls])
def tkL : List za → List Tk
 | [] => []
 | n :: l => tkN n ++ tkL l
end
theorem wW (n : za) : tkN n = if isT n = true then (runes n.Text).map (fun c => Tk.sgn c n.Marks) else Tk.opn n.Kind n.zo :: (tkL n.Kids ++ [Tk.cls]) := by cases n; simp only [tkN, isT]; rfl
def Yd : It → List Tk
 | .sgn c m => [.sgn c m]
 | .nod n => tkN n
def tkI (l : List It) : List Tk := l.flatMap Yd
theorem QH (i : It) (l : List It) : tkI (i :: l) = Yd i ++ tkI l := rfl
theorem K9 (a b : List It) : tkI (a ++ b) = tkI a ++ tkI b := by simp [tkI]
theorem acX (a b : List za) : tkL (a ++ b) = tkL a ++ tkL b := by
 induction a with
 | nil => simp [tkL]
 | cons n a ih => simp only [List.cons_append, tkL, ih, List.append_assoc]
theorem ar4 (m : List Str) (cs : List Int) : tkI (cs.map fun c => It.sgn c m) = cs.map fun c => Tk.sgn c m := by
 induction cs with
 | nil => rfl
 | cons c cs ih => rw [List.map_cons, QH, ih]; rfl
theorem apn (n : za) : tkI (itN n) = tkN n := by
 rw [wW]
 unfold itN
 cases h : isT n with
 | true => simp only [if_true]; exact ar4 _ _
 | false =>
  simp only [Bool.false_eq_true, if_false]
  have : tkI [It.nod n] = tkN n := by simp [tkI, Yd]
  rw [this, wW, h]
  simp
theorem vG (l : List za) : tkI (items l) = tkL l := by
 induction l with
 | nil => rfl
 | cons n l ih => rw [items, K9, apn, ih, tkL]
mutual
theorem agC : ∀ n : za, (tkN n).length = wL n
 | ⟨k, t, m, a, ks⟩ => by
  rw [wW, jM]
  cases h : isT (⟨k, t, m, a, ks⟩ : za) with
  | true => simp [yS]
  | false =>
   have := yP ks
   simp; omega
theorem yP : ∀ l : List za, (tkL l).length = zF l
 | [] => rfl
 | n :: l => by
  have h1 := agC n
  have h2 := yP l
  simp only [tkL, zF, List.length_append]; omega
end
theorem arU (i : It) : (Yd i).length = ai8 i := by
 cases i with
 | sgn c m => rfl
 | nod n => exact agC n
theorem aaq (l : List It) : (tkI l).length = szI l := by
 induction l with
 | nil => rfl
 | cons i l ih => rw [QH, List.length_append, ih, arU, szI]
def FI (l : List It) : Prop := ∀ n, It.nod n ∈ l → isT n = false ∧ zY n = true
theorem Qq {l : List za} (h : ∀ x ∈ l, zY x = true) : FI (items l) := by
 induction l with
 | nil => intro n hn; cases hn
 | cons y l ih =>
  intro n hn
  rcases List.mem_append.1 hn with hn | hn
  ·unfold itN at hn
   cases ht : isT y with
   | true => rw [ht] at hn; simp at hn
   | false =>
    rw [ht] at hn
    simp at hn
    subst hn
    exact ⟨ht, h n (by simp)⟩
  ·exact ih (fun x hx => h x (by simp [hx])) n hn
def aq1 : List Tk → Prop
 | [] => True
 | .cls :: _ => True
 | _ => False
theorem WN {a b : za} (ha : zY a = true) (hb : zY b = true) (ta : isT a = false) (tb : isT b = false) (hk : a.Kind = b.Kind) (hat : a.zo = b.zo) (hks : a.Kids = b.Kids) : a = b := by
 rw [jq, if_neg (by simp [ta])] at ha
 rw [jq, if_neg (by simp [tb])] at hb
 simp only [Bool.and_eq_true, decide_eq_true_eq] at ha hb
 cases a; cases b
 simp_all
theorem agY : ∀ (f : Nat) (X Y : List It) (R S : List Tk), szI X ≤ f → FI X → FI Y → aq1 R → aq1 S → tkI X ++ R = tkI Y ++ S → X = Y ∧ R = S
 | f, [], [], R, S, _, _, _, _, _, h => ⟨rfl, h⟩
 | f, [], j :: Y, R, S, _, _, fy, hR, _, h => by
  exfalso
  rw [QH] at h
  cases j with
  | sgn c m =>
   simp only [Yd, tkI, List.flatMap_nil, List.nil_append, List.cons_append] at h
   rw [h] at hR
   exact hR
  | nod n =>
   have := (fy n (by simp)).1
   simp only [Yd, tkI, List.flatMap_nil, List.nil_append] at h
   rw [wW, this] at h
   simp only [Bool.false_eq_true, if_false, List.cons_append] at h
   rw [h] at hR
   exact hR
 | f, i :: X, [], R, S, _, fx, _, _, hS, h => by
  exfalso
  rw [QH] at h
  cases i with
  | sgn c m =>
   simp only [Yd, tkI, List.flatMap_nil, List.nil_append, List.cons_append] at h
   rw [← h] at hS
   exact hS
  | nod n =>
   have := (fx n (by simp)).1
   simp only [Yd, tkI, List.flatMap_nil, List.nil_append] at h
   rw [wW, this] at h
   simp only [Bool.false_eq_true, if_false, List.cons_append] at h
   rw [← h] at hS
   exact hS
 | 0, i :: X, j :: Y, R, S, hf, fx, _, _, _, h => by
  exfalso
  have := aap i (by
   intro n hn
   subst hn
   exact (fx n (by simp)).1)
  simp only [szI] at hf
  omega
 | f + 1, i :: X, j :: Y, R, S, hf, fx, fy, hR, hS, h => by
  have hp := aap i (by
   intro n hn
   subst hn
   exact (fx n (by simp)).1)
  simp only [szI] at hf
  have fx' : FI X := fun n hn => fx n (by simp [hn])
  have fy' : FI Y := fun n hn => fy n (by simp [hn])
  rw [QH, QH] at h
  cases i with
  | sgn c m =>
   cases j with
   | sgn c' m' =>
    simp only [Yd, List.cons_append, List.nil_append, List.cons.injEq, Tk.sgn.injEq] at h
    obtain ⟨⟨rfl, rfl⟩, h⟩ := h
    obtain ⟨rfl, h2⟩ := agY f X Y R S (by omega) fx' fy' hR hS h
    exact ⟨rfl, h2⟩
   | nod n =>
    exfalso
    have := (fy n (by simp)).1
    simp only [Yd] at h
    rw [wW, this] at h
    simp at h
  | nod n =>
   obtain ⟨tn, fn⟩ := fx n (by simp)
   cases j with
   | sgn c m =>
    exfalso
    simp only [Yd] at h
    rw [wW, tn] at h
    simp at h
   | nod n' =>
    obtain ⟨tn', fn'⟩ := fy n' (by simp)
    simp only [Yd] at h
    rw [wW, wW, tn, tn'] at h
    simp only [Bool.false_eq_true, if_false, List.cons_append, List.append_assoc, List.nil_append, List.cons.injEq, Tk.opn.injEq] at h
    obtain ⟨⟨hk, hat⟩, h⟩ := h
    have r1 := vg fn tn
    have r2 := vg fn' tn'
    have hsz : szI (items n.Kids) ≤ f := by
     rw [yh]
     simp only [ai8] at hf
     rw [jM, tn] at hf
     simp at hf
     omega
    rw [← vG, ← vG] at h
    obtain ⟨e1, e2⟩ := agY f (items n.Kids) (items n'.Kids) (Tk.cls :: (tkI X ++ R)) (Tk.cls :: (tkI Y ++ S)) hsz (Qq r1.form) (Qq r2.form) trivial trivial h
    have e3 := ahi r1 r2 e1
    have e4 := WN fn fn' tn tn' hk hat e3
    subst e4
    simp only [List.cons.injEq, true_and] at e2
    obtain ⟨rfl, h2⟩ := agY f X Y R S (by omega) fx' fy' hR hS e2
    exact ⟨rfl, h2⟩
theorem ak6 {a b : List za} (ha : vO a) (hb : vO b) (h : tkL a = tkL b) : a = b := by
 rw [← vG, ← vG] at h
 exact ahi ha hb (agY (szI (items a)) (items a) (items b) [] [] (Nat.le_refl _) (Qq ha.form) (Qq hb.form) trivial trivial (by simpa using h)).1
end Go.Proofs.YtclohbgnaopjfaaDoor
namespace Go.Proofs.YtclohbgnaopjfaaDoor
set_option linter.unusedSimpArgs false
set_option linter.unusedVariables false
open Go
theorem right_eq (n : za) (h : nwt n ≤ 1099511627776) : yJ n = some (checkN n == 0) := by
 unfold yJ
 rw [Y0 n h]
 rfl
end Go.Proofs.YtclohbgnaopjfaaDoor
namespace Go.Proofs.YtclohbgnaopjfaaDoor
set_option linter.unusedSimpArgs false
set_option linter.unusedVariables false
open Go
def aif (l : List za) (i r : Nat) : Prop := i ≤ l.length ∧ (∀ k, l[i]? = some k → r < wL k) ∧ (i = l.length → r = 0)
theorem YK : ∀ (l : List za) (i r j s : Nat), aif l i r → aif l j s → zF (l.take i) + r = zF (l.take j) + s → i = j ∧ r = s
 | [], i, r, j, s, h1, h2, h => by
  obtain ⟨a1, _, a3⟩ := h1
  obtain ⟨b1, _, b3⟩ := h2
  simp only [List.length_nil, Nat.le_zero] at a1 b1
  subst a1; subst b1
  simp only [List.length_nil, forall_const] at a3 b3
  omega
 | k :: l, 0, r, 0, s, h1, h2, h => by
  simp only [List.take_zero, zF] at h
  omega
 | k :: l, 0, r, j + 1, s, h1, h2, h => by
  have := h1.2.1 k rfl
  simp only [List.take_zero, List.take_succ_cons, zF] at h
  omega
 | k :: l, i + 1, r, 0, s, h1, h2, h => by
  have := h2.2.1 k rfl
  simp only [List.take_zero, List.take_succ_cons, zF] at h
  omega
 | k :: l, i + 1, r, j + 1, s, h1, h2, h => by
  have g : ∀ i r, aif (k :: l) (i + 1) r → aif l i r := fun i r h => ⟨by simpa using h.1, fun y hy => h.2.1 y (by simpa using hy), fun e => h.2.2 (by simp [e])⟩
  simp only [List.take_succ_cons, zF] at h
  obtain ⟨e1, e2⟩ := YK l i r j s (g _ _ h1) (g _ _ h2) (by omega)
  exact ⟨by omega, e2⟩
theorem At.fn {n : za} {q m a} (h : At n q m a) : ∀ {m' a'}, At n q m' a' → m = m' ∧ a = a' := by
 induction h with
 | nil n => intro m' a' h'; cases h'; exact ⟨rfl, rfl⟩
 | cons n i k q m a hi hn hk h ih =>
  intro m' a' h'
  cases h' with
  | cons _ _ k' _ _ a2 hi' _ _ h2 =>
   rw [hi] at hi'
   cases hi'
   obtain ⟨rfl, rfl⟩ := ih h2
   exact ⟨rfl, rfl⟩
def ack (m : za) (idx off : Nat) : Prop := idx ≤ m.Kids.length ∧ (∀ k, m.Kids[idx]? = some k → off < wL k ∧ (0 < off → isT k = true)) ∧ (idx = m.Kids.length → off = 0)
theorem ack.idx {m : za} {i r} (h : ack m i r) : aif m.Kids i r := ⟨h.1, fun k hk => (h.2.1 k hk).1, h.2.2⟩
theorem ack.le {m : za} {i r} (h : ack m i r) : zF (m.Kids.take i) + r ≤ zF m.Kids := by
 rcases Nat.lt_or_ge i m.Kids.length with hi | hi
 ·have hk : m.Kids[i]? = some m.Kids[i] := List.getElem?_eq_getElem hi
  have h1 := (h.2.1 _ hk).1
  have h2 := ae0 hk
  omega
 ·have := h.2.2 (by have := h.1; omega)
  have := ag8 m.Kids i
  omega
theorem aqg {n : za} {q m a} (h : At n q m a) : ∀ {q' m' a' i r i' r'}, At n q' m' a' → isT m = false → isT m' = false → ack m i r → ack m' i' r' → a + zF (m.Kids.take i) + r = a' + zF (m'.Kids.take i') + r' → q = q' ∧ i = i' ∧ r = r' := by
 induction h with
 | nil n =>
  intro q' m' a' i r i' r' h' hm hm' hs hs' e
  cases h' with
  | nil =>
   obtain ⟨e1, e2⟩ := YK n.Kids i r i' r' hs.idx hs'.idx (by omega)
   exact ⟨rfl, e1, e2⟩
  | cons _ j k' q2 _ a2 hi' hn' hk' h2 =>
   exfalso
   have hle := hs'.le
   have hsz := h2.sizes
   have hk2 := ZZ hk'
   have hlt : j < n.Kids.length := (List.getElem?_eq_some_iff.1 hi').1
   obtain ⟨e1, e2⟩ := YK n.Kids i r j (1 + (a2 + zF (m'.Kids.take i') + r')) hs.idx ⟨by omega, fun k hk => by rw [hi'] at hk; cases hk; omega, fun e => by omega⟩ (by omega)
   subst e1
   have := (hs.2.1 k' hi').2 (by omega)
   rw [hk'] at this
   cases this
 | cons n j k q m a hi hn hk h ih =>
  intro q' m' a' i r i' r' h' hm hm' hs hs' e
  have hle := hs.le
  have hsz := h.sizes
  have hk2 := ZZ hk
  have hlt : j < n.Kids.length := (List.getElem?_eq_some_iff.1 hi).1
  have I1 : aif n.Kids j (1 + (a + zF (m.Kids.take i) + r)) := ⟨by omega, fun k2 hk2' => by rw [hi] at hk2'; cases hk2'; omega, fun e => by omega⟩
  cases h' with
  | nil =>
   exfalso
   obtain ⟨e1, e2⟩ := YK n.Kids _ _ _ _ I1 hs'.idx (by omega)
   subst e1
   have := (hs'.2.1 k hi).2 (by omega)
   rw [hk] at this
   cases this
  | cons _ j' k' q2 _ a2 hi' hn' hk' h2 =>
   have hle' := hs'.le
   have hsz' := h2.sizes
   have hk2' := ZZ hk'
   have hlt' : j' < n.Kids.length := (List.getElem?_eq_some_iff.1 hi').1
   have I2 : aif n.Kids j' (1 + (a2 + zF (m'.Kids.take i') + r')) := ⟨by omega, fun k2 hk3 => by rw [hi'] at hk3; cases hk3; omega, fun e => by omega⟩
   obtain ⟨e1, e2⟩ := YK n.Kids _ _ _ _ I1 I2 (by omega)
   subst e1
   rw [hi] at hi'
   cases hi'
   obtain ⟨e3, e4, e5⟩ := ih h2 hm hm' hs hs' (by omega)
   exact ⟨by rw [e3], e4, e5⟩
theorem asU {l : List It} (h : ∀ i ∈ l, aoe i) (hs : szI l = 0) : l = [] := by
 cases l with
 | nil => rfl
 | cons i l =>
  have := aap i (h i (by simp))
  simp only [szI] at hs
  omega
theorem asI {A B C D : List It} (hn : ∀ i ∈ A ++ B, aoe i) (h : A ++ B = C ++ D) (hs : szI A ≤ szI C) : ∃ M, C = A ++ M ∧ B = M ++ D := by
 rcases List.append_eq_append_iff.1 h with ⟨M, h1, h2⟩ | ⟨M, h1, h2⟩
 ·exact ⟨M, h1, h2⟩
 ·have : M = [] := by
   refine asU (fun i hi => hn i (by rw [h1]; simp [hi])) ?_
   rw [h1, QN] at hs
   omega
  subst this
  simp only [List.append_nil, List.nil_append] at h1 h2
  exact ⟨[], by simp [h1], by simpa using h2.symm⟩
theorem ac1 : ∀ (K : List za) (X R : List It), (∀ x ∈ K, zY x = true) → items K = X ++ R → ∃ idx off, zF (K.take idx) + off = szI X ∧ idx ≤ K.length ∧ (∀ k, K[idx]? = some k → off < wL k ∧ (0 < off → isT k = true)) ∧ (idx = K.length → off = 0)
 | [], X, R, _, h => by
  have : X = [] := by
   cases X with
   | nil => rfl
   | cons => cases h
  subst this
  exact ⟨0, 0, rfl, Nat.le_refl _, by simp, fun _ => rfl⟩
 | k :: K, X, R, hf, h => by
  have hn : ∀ i ∈ itN k ++ items K, aoe i := aaH (k :: K)
  rw [items] at h
  rcases Nat.lt_or_ge (szI X) (wL k) with hc | hc
  ·refine ⟨0, szI X, by simp [zF], by simp, ?_, by simp⟩
   intro k' hk'
   simp only [List.getElem?_cons_zero, Option.some.injEq] at hk'
   subst hk'
   refine ⟨hc, fun hp => ?_⟩
   cases ht : isT k with
   | true => rfl
   | false =>
    exfalso
    cases X with
    | nil => simp [szI] at hp
    | cons i X =>
     have : itN k = [It.nod k] := by unfold itN; rw [ht]; rfl
     rw [this] at h
     simp only [List.cons_append, List.nil_append, List.cons.injEq] at h
     rw [← h.1] at hc
     simp only [szI, ai8] at hc
     omega
  ·obtain ⟨M, h1, h2⟩ := asI hn h (by rw [akv]; exact hc)
   obtain ⟨idx, off, e1, e2, e3, e4⟩ := ac1 K M R (fun x hx => hf x (by simp [hx])) h2
   refine ⟨idx + 1, off, ?_, by simpa using e2, fun k' hk' => e3 k' (by simpa using hk'), fun e => e4 (by simpa using e)⟩
   rw [h1, QN, akv]
   simp only [List.take_succ_cons, zF]
   omega
theorem acW {m : za} {idx off : Nat} (h : ack m idx off) : ∃ X R, items m.Kids = X ++ R ∧ szI X = zF (m.Kids.take idx) + off := by
 have e : items m.Kids = items (m.Kids.take idx) ++ items (m.Kids.drop idx) := by rw [← Qe, List.take_append_drop]
 by_cases h0 : off = 0
 ·exact ⟨_, _, e, by rw [yh, h0]; rfl⟩
 ·have hlt : idx < m.Kids.length := by
   rcases Nat.lt_or_ge idx m.Kids.length with h1 | h1
   ·exact h1
   ·exact (h0 (h.2.2 (by have := h.1; omega))).elim
  have hk : m.Kids[idx]? = some m.Kids[idx] := List.getElem?_eq_getElem hlt
  obtain ⟨h1, h2⟩ := h.2.1 _ hk
  have ht := h2 (by omega)
  rw [List.drop_eq_getElem_cons hlt, items] at e
  generalize m.Kids[idx] = k at *
  have ei : itN k = (runes k.Text).map fun c => It.sgn c k.Marks := by unfold itN; rw [if_pos ht]
  have ec : itN k = ((runes k.Text).take off).map (fun c => It.sgn c k.Marks) ++ ((runes k.Text).drop off).map fun c => It.sgn c k.Marks := by
   rw [← List.map_append, List.take_append_drop, ei]
  rw [ec, List.append_assoc, ← List.append_assoc] at e
  refine ⟨_, _, e, ?_⟩
  rw [QN, yh, aps, List.length_take]
  rw [jM, if_pos ht, ← yS] at h1
  omega
structure Flat (n : za) (f t : Nat) (q : List Nat) (m : za) (a : Nat) (X Y Z : List It) : Prop where
 at_ : At n q m a
 nt : isT m = false
 it : items m.Kids = X ++ (Y ++ Z)
 sx : a + szI X = f
 sy : f + szI Y = t
theorem At.form {n : za} {q m a} (h : At n q m a) : zY n = true → zY m = true := by
 induction h with
 | nil n => exact id
 | cons n i k q m a hi hn hk h ih => exact fun hf => ih (aoh hf hn k (List.mem_of_getElem? hi))
theorem ao3 {n : za} {q m a X R} (hf : zY n = true) (h : At n q m a) (hm : isT m = false) (e : items m.Kids = X ++ R) {s p} (hs : Jt n s p) (hp : a + szI X = p) : s.Path = up q := by
 obtain ⟨q', m', a', idx', off', rfl, h', hm', b1, b2, b3, b4⟩ := hs
 obtain ⟨idx, off, c1, c2, c3, c4⟩ := ac1 m.Kids X R (vg (h.form hf) hm).form e
 obtain ⟨rfl, _, _⟩ := aqg h h' hm hm' ⟨c2, c3, c4⟩ ⟨b1, b3, b4⟩ (by omega)
 rfl
theorem arS (b : List Int) : ∀ (suf pre : List Int) (i : Int), i = (pre.length : Int) → b.length = pre.length + suf.length → b.take pre.length = pre → wR b suf i = some (if pre ++ suf = b then .inr () else .inl false)
 | [], pre, i, hi, hl, ht => by
  have : pre = b := by
   rw [← ht, List.take_of_length_le]
   simp at hl; omega
  simp [wR, this]
 | y :: suf, pre, i, hi, hl, ht => by
  simp only [List.length_cons] at hl
  obtain ⟨x, hx⟩ : ∃ x, b[pre.length]? = some x := ⟨b[pre.length], List.getElem?_eq_getElem (by omega)⟩
  rw [wR, hi, Ql hx]
  simp only [Option.bind_some]
  have htk : b.take (pre.length + 1) = pre ++ [x] := by
   rw [List.take_add_one, ht, hx]
   rfl
  by_cases hxy : y = x
  ·subst hxy
   simp only [bne_self_eq_false, Bool.false_eq_true, if_false]
   rw [arS b suf (pre ++ [y]) _ (by simp) (by simp; omega) (by simpa using htk)]
   simp
  ·have hn : ¬ pre ++ y :: suf = b := by
    intro h
    rw [← h] at hx
    simp at hx
    exact hxy hx
   have g : (y != x) = true := by simpa using hxy
   rw [if_pos g, if_neg hn]
theorem atC (a b : List Int) (h : a.length ≤ 9223372036854775807) : slices_Equal_int a b = some (decide (a = b)) := by
 unfold slices_Equal_int
 by_cases hl : a.length = b.length
 ·simp only [hl, bne_self_eq_false, Bool.false_eq_true, if_false]
  rw [qL (by omega), arS b a [] 0 rfl (by simp [hl]) (by simp)]
  by_cases e : a = b <;> simp [e]
 ·have h1 : ((a.length : Int) != (b.length : Int)) = true := by simp; omega
  have h2 : ¬ a = b := fun e => hl (by rw [e])
  rw [if_pos h1]
  simp [h2]
abbrev awy : qE := { path := [], in_ := aeO, from_ := (0 : Int), to_ := (0 : Int) }
theorem Jt.len {n : za} {s p} (h : Jt n s p) : s.Path.length ≤ p := by
 obtain ⟨q, m, a, idx, off, rfl, h1, _, _, h2, _⟩ := h
 rw [Jv]
 have := h1.len
 omega
structure RN (n : za) : Prop where
 ok : checkN n = 0
 nt : isT n = false
 wt : nwt n ≤ 549755813888
theorem ab0 {n : za} (h : checkN n = 0) : zY n = true ∧ yA n ≤ 40 ∧ wL n ≤ 4000 := by
 unfold checkN at h
 cases hf : zY n with
 | false => rw [hf] at h; simp at h
 | true =>
  rw [hf] at h
  simp only [Bool.true_eq_false, if_false] at h
  refine ⟨rfl, ?_, ?_⟩
  ·by_cases hd : 40 < yA n
   ·rw [if_pos hd] at h; cases h
   ·omega
  ·by_cases hd : 40 < yA n
   ·rw [if_pos hd] at h; cases h
   ·rw [if_neg hd] at h
    by_cases hs : 4000 < wL n
    ·rw [if_pos hs] at h; cases h
    ·omega
theorem RN.form {n : za} (h : RN n) : zY n = true := (ab0 h.ok).1
theorem ag1 {n : za} (hn : RN n) {f t q m a X Y Z} (h : Flat n f t q m a X Y Z) : xO n (f : Int) (t : Int) = some (⟨up q, m, (szI X : Int), ((szI X + szI Y : Nat) : Int)⟩, 0) := by
 obtain ⟨h1, h2, h3, h4, h5⟩ := h
 have hw := hn.wt
 have z1 := h1.sizes
 have z2 : szI X + (szI Y + szI Z) = zF m.Kids := by rw [← yh, h3, QN, QN]
 have z3 := ve n.Kids
 have z4 := je n
 have z5 := h1.len
 obtain ⟨s1, e1, o1⟩ := ZK hn.nt (by omega) f (by omega)
 obtain ⟨s2, e2, o2⟩ := ZK hn.nt (by omega) t (by omega)
 have p1 := ao3 hn.form h1 h2 (R := Y ++ Z) h3 o1 h4
 have p2 := ao3 hn.form h1 h2 (X := X ++ Y) (R := Z) (by rw [h3, List.append_assoc]) o2 (by rw [QN]; omega)
 have l1 := o1.len
 have g0 : (n.Kind == ([116, 101, 120, 116] : Str)) = false := hn.nt
 have g1 : decide ((t : Int) < (f : Int)) = false := by simp; omega
 unfold xO
 rw [g0]
 simp only [Bool.false_eq_true, if_false]
 rw [right_eq n (by omega), hn.ok]
 simp only [Option.bind_some, beq_self_eq_true, Bool.not_true, Bool.false_eq_true, if_false]
 rw [e1]
 simp only [Option.bind_some, bne_self_eq_false, Bool.false_eq_true, if_false]
 rw [e2]
 simp only [Option.bind_some, bne_self_eq_false, Bool.false_eq_true, if_false, g1]
 rw [atC _ _ (by omega), p1, p2]
 simp only [Option.bind_some, decide_true, Bool.not_true, Bool.false_eq_true, if_false]
 rw [start_eq h1 h2 (by omega), Kn h1 h2 (by omega)]
 simp only [Option.bind_some]
 unfold wM
 simp only [bne_self_eq_false, Bool.false_eq_true, if_false, Option.bind_some]
 rw [qK (by omega), qK (by omega)]
 congr 2
 have e3 : (f : Int) - (a : Int) = (szI X : Int) := by omega
 have e4 : (t : Int) - (a : Int) = ((szI X + szI Y : Nat) : Int) := by omega
 rw [e3, e4]
theorem anj {n : za} (hn : RN n) {f t : Nat} (hft : f ≤ t) {s1 s2} (o1 : Jt n s1 f) (e1 : ku n (f : Int) = some (s1, 0)) (e2 : ku n (t : Int) = some (s2, 0)) (hne : s1.Path ≠ s2.Path) : xO n (f : Int) (t : Int) = some (awy, 10) := by
 have hw := hn.wt
 have l1 := o1.len
 have l2 := o1.le
 have z3 := ve n.Kids
 have z4 := je n
 have g0 : (n.Kind == ([116, 101, 120, 116] : Str)) = false := hn.nt
 have g1 : decide ((t : Int) < (f : Int)) = false := by simp; omega
 unfold xO
 rw [g0]
 simp only [Bool.false_eq_true, if_false]
 rw [right_eq n (by omega), hn.ok]
 simp only [Option.bind_some, beq_self_eq_true, Bool.not_true, Bool.false_eq_true, if_false]
 rw [e1]
 simp only [Option.bind_some, bne_self_eq_false, Bool.false_eq_true, if_false]
 rw [e2]
 simp only [Option.bind_some, bne_self_eq_false, Bool.false_eq_true, if_false, g1]
 rw [atC _ _ (by omega)]
 simp only [Option.bind_some, hne, decide_false, Bool.not_false, if_true]
 unfold wM
 rfl
theorem aoW {n : za} (hn : RN n) {f t : Nat} (hft : f ≤ t) {s1 s2} (o1 : Jt n s1 f) (o2 : Jt n s2 t) (he : s1.Path = s2.Path) : ∃ q m a X Y Z, Flat n f t q m a X Y Z ∧ s1.Path = up q := by
 obtain ⟨q, m, a, idx, off, rfl, h1, hm, b1, b2, b3, b4⟩ := o1
 obtain ⟨q', m', a', idx', off', rfl, h1', hm', c1, c2, c3, c4⟩ := o2
 have : q = q' := arz he
 subst this
 obtain ⟨rfl, rfl⟩ := h1.fn h1'
 obtain ⟨X, R, x1, x2⟩ := acW (m := m) ⟨b1, b3, b4⟩
 obtain ⟨X', R', y1, y2⟩ := acW (m := m) ⟨c1, c3, c4⟩
 obtain ⟨M, m1, m2⟩ := asI (by rw [← x1]; exact aaH _) (x1.symm.trans y1) (by omega)
 refine ⟨q, m, a, X, M, R', ⟨h1, hm, ?_, by omega, ?_⟩, rfl⟩
 ·rw [x1, m2]
 ·rw [m1, QN] at y2
  omega
theorem asl {n : za} (hn : RN n) {f : Nat} (hf : f ≤ zF n.Kids) : ∃ q m a X Z, Flat n f f q m a X [] Z := by
 obtain ⟨s, _, o⟩ := ZK hn.nt (by have := hn.wt; omega) f hf
 obtain ⟨q, m, a, X, Y, Z, h, _⟩ := aoW hn (Nat.le_refl f) o o rfl
 have hz : szI Y = 0 := by have := h.sy; omega
 have : Y = [] := asU (fun i hi => aaH m.Kids i (by rw [h.it]; simp [hi])) hz
 subst this
 exact ⟨q, m, a, X, Z, h⟩
end Go.Proofs.YtclohbgnaopjfaaDoor
namespace Go.Proofs.YtclohbgnaopjfaaDoor
set_option linter.unusedSimpArgs false
set_option linter.unusedVariables false
open Go
theorem am2 : ∀ (a : List za) (k k' : za) (b : List za), vV (a ++ k :: b) → (∀ z, wH z k' = wH z k) → (∀ z, wH k' z = wH k z) → vV (a ++ k' :: b)
 | [], k, k', b, h, _, h2 => agO k k' b h h2
 | [x], k, k', b, h, h1, h2 => ⟨by rw [h1]; exact h.1, agO k k' b h.2 h2⟩
 | x :: y :: a, k, k', b, h, h1, h2 => ⟨h.1, am2 (y :: a) k k' b h.2 h1 h2⟩
theorem acZ {x : za} (h : isT x = false) (z : za) : wH z x = false ∧ wH x z = false := by
 unfold wH
 rw [h]
 simp
theorem amh {x : za} (hx : isT x = false) (fx : zY x = true) {n : za} {q m a} (h : At n q m a) : zY n = true → zY (Qi q n x) = true := by
 induction h with
 | nil n => exact fun _ => fx
 | cons n i k q m a hi hn hk h ih =>
  intro hf
  have hl := (List.getElem?_eq_some_iff.1 hi).1
  have hr := vg hf hn
  have hkf := hr.form k (List.mem_of_getElem? hi)
  have e := Xi hi
  rw [jX hi]
  refine aaz hf hn ⟨fun y hy => ?_, ?_⟩
  ·rcases List.mem_or_eq_of_mem_set hy with hy | rfl
   ·exact hr.form y hy
   ·exact ih hkf
  ·rw [List.set_eq_take_append_cons_drop, if_pos hl]
   have ha := hr.adj
   rw [e] at ha
   have h1 := JO q k x hk hx
   exact am2 _ k _ _ ha (fun z => by rw [(acZ h1 z).1, (acZ hk z).1]) (fun z => by rw [(acZ h1 z).2, (acZ hk z).2])
theorem al0 {l : List za} {i : Nat} {k : za} (h : l[i]? = some k) : kR l = max (kR (l.take i)) (max (ZI k) (kR (l.drop (i + 1)))) := by
 conv => lhs; rw [Xi h]
 rw [aax, kR]
theorem At.depth {n : za} {q m a} (h : At n q m a) : q.length + ZI m ≤ ZI n := by
 induction h with
 | nil n => simp
 | cons n i k q m a hi hn hk h ih =>
  have := al0 hi
  rw [yw n]
  simp only [List.length_cons]
  omega
theorem arF {x : za} {n : za} {q m a} (h : At n q m a) (h1 : x.Kind = m.Kind) (h2 : x.zo = m.zo) (h3 : x.Text = m.Text) (h4 : x.Marks = m.Marks) : (Qi q n x).Kind = n.Kind ∧ (Qi q n x).zo = n.zo ∧ (Qi q n x).Text = n.Text ∧ (Qi q n x).Marks = n.Marks := by
 cases h with
 | nil n => exact ⟨h1, h2, h3, h4⟩
 | cons n i k q m a hi hn hk h => rw [jX hi]; exact ⟨rfl, rfl, rfl, rfl⟩
theorem VE {l : List za} {i : Nat} {k : za} (h : l[i]? = some k) : tkL l = tkL (l.take i) ++ (tkN k ++ tkL (l.drop (i + 1))) := by
 conv => lhs; rw [Xi h]
 rw [acX, tkL]
theorem awX {n : za} {q m a} (h : At n q m a) : ∃ P S, P.length = a ∧ tkL n.Kids = P ++ (tkL m.Kids ++ S) ∧ ∀ x : za, isT x = false → x.Kind = m.Kind → x.zo = m.zo → tkL (Qi q n x).Kids = P ++ (tkL x.Kids ++ S) := by
 induction h with
 | nil n => exact ⟨[], [], rfl, by simp, fun x _ _ _ => by simp [Qi]⟩
 | cons n i k q m a hi hn hk h ih =>
  obtain ⟨P, S, h1, h2, h3⟩ := ih
  have hl := (List.getElem?_eq_some_iff.1 hi).1
  refine ⟨tkL (n.Kids.take i) ++ (Tk.opn k.Kind k.zo :: P), S ++ (Tk.cls :: tkL (n.Kids.drop (i + 1))), ?_, ?_, fun x hx hk1 hk2 => ?_⟩
  ·simp only [List.length_append, List.length_cons, yP]; omega
  ·rw [VE hi, wW, if_neg (by simp [hk]), h2]
   simp only [List.append_assoc, List.cons_append, List.nil_append]
  ·have hkk : (Qi q k x).Kind = k.Kind ∧ (Qi q k x).zo = k.zo := by
    cases h with
    | nil k => exact ⟨hk1, hk2⟩
    | cons k i' k' q m a hi' hn' hk' h => rw [jX hi']; exact ⟨rfl, rfl⟩
   have hnt := JO q k x hk hx
   rw [jX hi]
   simp only
   rw [List.set_eq_take_append_cons_drop, if_pos hl, acX, tkL, wW, if_neg (by simp [hnt]), h3 x hx hk1 hk2, hkk.1, hkk.2]
   simp only [List.append_assoc, List.cons_append, List.nil_append]
theorem akg : ∀ (ls : List (List za)) (i : Int) (s : Nat), s + ls.flatten.length ≤ 1099511627776 → qo ls i (s : Int) = some ((s + ls.flatten.length : Nat) : Int)
 | [], i, s, _ => by simp [qo]
 | y :: ls, i, s, h => by
  simp only [List.flatten_cons, List.length_append] at h
  have e : w64 ((s : Int) + (y.length : Int)) = ((s + y.length : Nat) : Int) := by rw [qK (by omega)]; omega
  have g : decide (((s + y.length : Nat) : Int) < 0) = false := by simp; omega
  rw [qo, e, g]
  simp only [Bool.false_eq_true, if_false]
  rw [akg ls _ _ (by omega)]
  simp only [List.flatten_cons, List.length_append, Nat.add_assoc]
theorem ajq : ∀ (ls : List (List za)) (i : Int) (o : List za), o.length + ls.flatten.length ≤ 1099511627776 → qj ls i o = some (o ++ ls.flatten)
 | [], i, o, _ => by simp [qj]
 | y :: ls, i, o, h => by
  simp only [List.flatten_cons, List.length_append] at h
  rw [qj, kF (by omega)]
  simp only [Option.bind_some]
  rw [ajq ls _ _ (by rw [List.length_append]; omega)]
  simp
theorem aq9 (ls : List (List za)) (hl : ls.length ≤ 9223372036854775807) (h : ls.flatten.length ≤ 1099511627776) : kZ ls = some ls.flatten := by
 unfold kZ
 have h0 := akg ls 0 0 (by omega)
 have h1 := ajq ls 0 [] (by rw [List.length_nil]; omega)
 have e : ((0 : Nat) : Int) = 0 := rfl
 rw [e] at h0
 rw [qL hl, h0]
 simp only [Option.bind_some]
 unfold jv
 rw [qL (by omega)]
 simp only [Option.bind_some]
 rw [qL hl, h1]
 simp
theorem arX {l : List za} (h : vO l) : checkN (⟨[120], [], [], [], l⟩ : za) ≠ 2 := by
 have hf : zY (⟨[120], [], [], [], l⟩ : za) = true := by
  have ht : isT (⟨[120], [], [], [], l⟩ : za) = false := rfl
  have h1 : isName [120] = true := by decide +kernel
  have h3 : vT [] = true := rfl
  rw [jq, if_neg (by simp [ht])]
  simp [h1, h3, aoz h]
 unfold checkN
 rw [hf]
 simp only [Bool.true_eq_false, if_false]
 split
 ·simp
 ·split <;> simp
theorem avV {n : za} {f t q m a X Y Z} (h : Flat n f t q m a X Y Z) {l : List za} {K : List za} (hK : items K = X ++ (items l ++ Z)) : ∃ P S, P.length = f ∧ (P ++ tkI Y).length = t ∧ tkL n.Kids = P ++ (tkI Y ++ S) ∧ tkL (Qi q n ({ m with Kids := K } : za)).Kids = P ++ (tkL l ++ S) := by
 obtain ⟨P, S, h1, h2, h3⟩ := awX h.at_
 have e := h3 ({ m with Kids := K } : za) h.nt rfl rfl
 have x1 := aaq X
 have x2 := aaq Y
 have x3 := h.sx
 have x4 := h.sy
 refine ⟨P ++ tkI X, tkI Z ++ S, by simp; omega, by simp; omega, ?_, ?_⟩
 ·rw [h2, ← vG, h.it, K9, K9]
  simp only [List.append_assoc]
 ·rw [e]
  simp only
  rw [← vG K, hK, K9, K9, vG]
  simp only [List.append_assoc]
end Go.Proofs.YtclohbgnaopjfaaDoor
namespace Go.Proofs.YtclohbgnaopjfaaDoor
set_option linter.unusedSimpArgs false
set_option linter.unusedVariables false
open Go
theorem avv {n : za} (hn : RN n) {f t q m a X Y Z} (h : Flat n f t q m a X Y Z) : ∃ c, Wl n (f : Int) (t : Int) = some (c, 0) ∧ vO c ∧ items c = Y ∧ zL c ≤ nwt n ∧ kR c ≤ kR m.Kids := by
 have hf := ag1 hn h
 obtain ⟨h1, h2, h3, h4, h5⟩ := h
 have hr := vg (h1.form hn.form) h2
 have w1 := h1.wt
 have w2 := je m
 have hw := hn.wt
 obtain ⟨A, B, s1, a1, a2, a3, a4, a5, a6, a7, a8⟩ := acs hr (by omega) (X := X ++ Y) (Y := Z) (by rw [h3, List.append_assoc])
 obtain ⟨A', c, s2, b1, b2, b3, b4, b5, b6, b7, b8⟩ := acs a1 (by omega) (X := X) (Y := Y) a3
 refine ⟨c, ?_, b2, b4, by omega, by omega⟩
 rw [QN] at s1
 unfold Wl
 rw [hf]
 simp only [Option.bind_some, bne_self_eq_false, Bool.false_eq_true, if_false]
 rw [s1]
 simp only [Option.bind_some]
 rw [s2]
 rfl
end Go.Proofs.YtclohbgnaopjfaaDoor
namespace Go.Proofs.YtclohbgnaopjfaaDoor
set_option linter.unusedSimpArgs false
set_option linter.unusedVariables false
open Go
def aiS : Tk → Nat
 | .sgn _ m => 10 + wQ m
 | .opn k a => 2 + k.length + wN a
 | .cls => 0
def tw : List Tk → Nat
 | [] => 0
 | t :: l => aiS t + tw l
theorem Xt : ∀ a b : List Tk, tw (a ++ b) = tw a + tw b
 | [], b => by simp [tw]
 | x :: a, b => by simp only [List.cons_append, tw, Xt a b]; omega
theorem akK (m : List Str) : ∀ l : List Int, tw (l.map fun c => Tk.sgn c m) = l.length * (10 + wQ m)
 | [] => by simp [tw]
 | c :: l => by simp only [List.map_cons, tw, aiS, akK m l, List.length_cons, Nat.add_mul]; omega
theorem adC : ∀ l : List Int, (zI l).length ≤ 4 * l.length
 | [] => by simp [zI]
 | c :: l => by
  rw [WR, List.length_append, List.length_cons]
  have := (aq2 c).2
  have := adC l
  omega
theorem akB : ∀ l : List za, (∀ n ∈ l, nwt n ≤ tw (tkN n)) → zL l ≤ tw (tkL l)
 | [], _ => by simp [zL]
 | n :: l, h => by
  have h1 := h n (by simp)
  have h2 := akB l fun x hx => h x (by simp [hx])
  simp only [zL, tkL, Xt]; omega
theorem avn (n : za) : zY n = true → nwt n ≤ tw (tkN n) := by
 induction n using za.ind with
 | h n ih =>
  intro hf
  rw [qM, wW]
  cases ht : isT n with
  | true =>
   obtain ⟨h1, h2, h3, h4, h5⟩ := xI hf ht
   have hk := JQ ht
   have hr := adC (runes n.Text)
   rw [ZQ h2] at hr
   have hl := anz h1
   rw [← yS] at hl
   simp only [if_true]
   rw [akK, h4, h5, hk, Nat.mul_add]
   have : wQ n.Marks ≤ (runes n.Text).length * wQ n.Marks := Nat.le_mul_of_pos_left _ (by omega)
   simp only [wN, zL, jH, List.length_cons, List.length_nil]
   omega
  | false =>
   have hr := vg hf ht
   have h1 := akB n.Kids fun x hx => ih x hx (hr.form x hx)
   rw [jq, if_neg (by simp [ht])] at hf
   simp only [Bool.and_eq_true, decide_eq_true_eq] at hf
   simp only [Bool.false_eq_true, if_false, tw, aiS, Xt]
   rw [hf.1.1.1.2, hf.1.1.2]
   simp only [wQ, List.length_nil]
   omega
theorem ak9 {l : List za} (h : vO l) : zL l ≤ tw (tkL l) := akB l fun n hn => avn n (h.form n hn)
theorem ako (W : Nat) : ∀ l : List za, (∀ n ∈ l, tw (tkN n) ≤ nwt n * (W + 10)) → tw (tkL l) ≤ zL l * (W + 10)
 | [], _ => by simp [tkL, tw]
 | n :: l, h => by
  have h1 := h n (by simp)
  have h2 := ako W l fun x hx => h x (by simp [hx])
  simp only [zL, tkL, Xt, Nat.add_mul]; omega
def dpT : Nat → List Tk → Nat
 | _, [] => 0
 | d, .opn _ _ :: l => max (d + 1) (dpT (d + 1) l)
 | d, .cls :: l => dpT (d - 1) l
 | d, .sgn _ _ :: l => dpT d l
theorem amc (m : List Str) (d : Nat) (R : List Tk) : ∀ l : List Int, dpT d ((l.map fun c => Tk.sgn c m) ++ R) = dpT d R
 | [] => rfl
 | c :: l => by rw [List.map_cons, List.cons_append, dpT, amc m d R l]
def dOf (d x : Nat) : Nat := if x = 0 then 0 else d + x
theorem akQ (d : Nat) : ∀ (l : List za) (R : List Tk), (∀ n ∈ l, ∀ R, dpT d (tkN n ++ R) = max (dOf d (yA n)) (dpT d R)) → dpT d (tkL l ++ R) = max (dOf d (wE l)) (dpT d R)
 | [], R, _ => by simp [tkL, wE, dOf]
 | n :: l, R, h => by
  rw [tkL, List.append_assoc, h n (by simp), akQ d l R fun x hx => h x (by simp [hx]), wE]
  unfold dOf
  split <;> split <;> split <;> omega
theorem art (n : za) : ∀ (d : Nat) (R : List Tk), dpT d (tkN n ++ R) = max (dOf d (yA n)) (dpT d R) := by
 induction n using za.ind with
 | h n ih =>
  intro d R
  rw [wW, QM]
  cases ht : isT n with
  | true =>
   simp only [if_true]
   rw [amc]
   simp [dOf]
  | false =>
   simp only [Bool.false_eq_true, if_false, List.cons_append, List.append_assoc, List.nil_append]
   rw [dpT, akQ (d + 1) n.Kids _ fun x hx => ih x hx (d + 1), dpT, Nat.add_sub_cancel]
   unfold dOf
   rw [if_neg (show ¬ (wE n.Kids + 1 = 0) by omega)]
   split <;> omega
theorem avo (l : List za) : dpT 0 (tkL l) = wE l := by
 have := akQ 0 l [] fun x _ => art x 0
 rw [List.append_nil, dpT] at this
 unfold dOf at this
 split at this
 ·rename_i h0; rw [h0]; omega
 ·omega
structure TD (n : za) (T : List Tk) : Prop where
 ok : checkN n = 0
 nt : isT n = false
 tk : tkL n.Kids = T
def wD (n : za) (T : List Tk) : Nat := n.Kind.length + wN n.zo + tw T
theorem aqO {n : za} (h : zY n = true) (ht : isT n = false) : n.Text = [] ∧ n.Marks = [] := by
 rw [jq, if_neg (by simp [ht])] at h
 simp only [Bool.and_eq_true, decide_eq_true_eq] at h
 exact ⟨h.1.1.1.2, h.1.1.2⟩
theorem TD.form {n T} (h : TD n T) : zY n = true := (ab0 h.ok).1
theorem TD.row {n T} (h : TD n T) : vO n.Kids := vg h.form h.nt
theorem avh {n : za} {T : List Tk} (hf : zY n = true) (ht : isT n = false) (hT : tkL n.Kids = T) : nwt n ≤ 2 + wD n T := by
 obtain ⟨h1, h2⟩ := aqO hf ht
 have := ak9 (vg hf ht)
 rw [hT] at this
 rw [qM, h1, h2]
 unfold wD
 simp only [wQ, List.length_nil]
 omega
theorem TD.wt {n T} (h : TD n T) : nwt n ≤ 2 + wD n T := avh h.form h.nt h.tk
theorem TD.rn {n T} (h : TD n T) (hw : wD n T ≤ 100000000) : RN n := ⟨h.ok, h.nt, by have := h.wt; omega⟩
theorem TD.len {n T} (h : TD n T) : T.length = zF n.Kids := by rw [← h.tk, yP]
theorem TD.size {n T} (h : TD n T) : wL n = 2 + T.length := by rw [ZZ h.nt, h.len]
theorem TD.small {n T} (h : TD n T) : T.length ≤ 3998 := by
 have := (ab0 h.ok).2.2
 rw [h.size] at this
 omega
theorem TD.ext {a b T} (ha : TD a T) (hb : TD b T) (hk : a.Kind = b.Kind) (hat : a.zo = b.zo) : a = b :=
 WN ha.form hb.form ha.nt hb.nt hk hat (ak6 ha.row hb.row (by rw [ha.tk, hb.tk]))
theorem as3 {a b : za} (ha : zY a = true) (hb : zY b = true) (ta : isT a = false) (tb : isT b = false) (hk : a.Kind = b.Kind) (hat : a.zo = b.zo) (h : tkL a.Kids = tkL b.Kids) : a = b :=
 WN ha hb ta tb hk hat (ak6 (vg ha ta) (vg hb tb) h)
theorem am8 {n : za} (hf : zY n = true) (ht : isT n = false) {T : List Tk} (hT : tkL n.Kids = T) : checkN n = if 40 < dpT 0 T + 1 then 4 else if 4000 < 2 + T.length then 5 else 0 := by
 have h1 : yA n = dpT 0 T + 1 := by rw [QM, if_neg (by simp [ht]), ← avo, hT]
 have h2 : wL n = 2 + T.length := by rw [ZZ ht, ← yP, hT]
 unfold checkN
 rw [hf, if_neg (show ¬ (true = false) by simp), h1, h2]
theorem TD.of {n : za} {T : List Tk} (hf : zY n = true) (ht : isT n = false) (hT : tkL n.Kids = T) (hd : dpT 0 T ≤ 39) (hl : T.length ≤ 3998) : TD n T :=
 ⟨by rw [am8 hf ht hT, if_neg (by omega), if_neg (by omega)], ht, hT⟩
theorem TD.deep {n T} (h : TD n T) : dpT 0 T ≤ 39 := by
 have := h.ok
 rw [am8 h.form h.nt h.tk] at this
 split at this
 ·cases this
 ·omega
theorem arM {S : List Tk} (h : aq1 S) (R : List Tk) : aq1 (S ++ Tk.cls :: R) := by
 cases S with
 | nil => trivial
 | cons t S => cases t <;> first | trivial | exact h.elim
theorem at_end {n : za} {q m a} (h : At n q m a) : ∃ P S, P.length = a ∧ tkL n.Kids = P ++ (tkL m.Kids ++ S) ∧ aq1 S := by
 induction h with
 | nil n => exact ⟨[], [], rfl, by simp, trivial⟩
 | cons n i k q m a hi hn hk h ih =>
  obtain ⟨P, S, h1, h2, h3⟩ := ih
  refine ⟨tkL (n.Kids.take i) ++ (Tk.opn k.Kind k.zo :: P), S ++ (Tk.cls :: tkL (n.Kids.drop (i + 1))), ?_, ?_, arM h3 _⟩
  ·simp only [List.length_append, List.length_cons, yP]; omega
  ·rw [VE hi, wW, if_neg (by simp [hk]), h2]
   simp only [List.append_assoc, List.cons_append, List.nil_append]
theorem aeX : ∀ (Y Z : List It) (R S : List Tk), FI Y → FI Z → aq1 S → tkI Y ++ R = tkI Z ++ S → ∃ Z', Z = Y ++ Z' ∧ R = tkI Z' ++ S
 | [], Z, R, S, _, _, _, h => ⟨Z, rfl, by simpa [tkI] using h⟩
 | i :: Y, [], R, S, fy, _, hS, h => by
  exfalso
  rw [QH] at h
  cases i with
  | sgn c m =>
   simp only [Yd, tkI, List.flatMap_nil, List.nil_append, List.cons_append] at h
   rw [← h] at hS
   exact hS
  | nod n =>
   have := (fy n (by simp)).1
   simp only [Yd, tkI, List.flatMap_nil, List.nil_append] at h
   rw [wW, this] at h
   simp only [Bool.false_eq_true, if_false, List.cons_append] at h
   rw [← h] at hS
   exact hS
 | i :: Y, j :: Z, R, S, fy, fz, hS, h => by
  have fy' : FI Y := fun n hn => fy n (by simp [hn])
  have fz' : FI Z := fun n hn => fz n (by simp [hn])
  rw [QH, QH] at h
  cases i with
  | sgn c m =>
   cases j with
   | sgn c' m' =>
    simp only [Yd, List.cons_append, List.nil_append, List.cons.injEq, Tk.sgn.injEq] at h
    obtain ⟨⟨rfl, rfl⟩, h⟩ := h
    obtain ⟨Z', rfl, h2⟩ := aeX Y Z R S fy' fz' hS h
    exact ⟨Z', rfl, h2⟩
   | nod n =>
    exfalso
    have := (fz n (by simp)).1
    simp only [Yd] at h
    rw [wW, this] at h
    simp at h
  | nod n =>
   obtain ⟨tn, fn⟩ := fy n (by simp)
   cases j with
   | sgn c m =>
    exfalso
    simp only [Yd] at h
    rw [wW, tn] at h
    simp at h
   | nod n' =>
    obtain ⟨tn', fn'⟩ := fz n' (by simp)
    simp only [Yd] at h
    rw [wW, wW, tn, tn'] at h
    simp only [Bool.false_eq_true, if_false, List.cons_append, List.append_assoc, List.nil_append, List.cons.injEq, Tk.opn.injEq] at h
    obtain ⟨⟨hk, hat⟩, h⟩ := h
    have r1 := vg fn tn
    have r2 := vg fn' tn'
    rw [← vG, ← vG] at h
    obtain ⟨e1, e2⟩ := agY _ (items n.Kids) (items n'.Kids) (Tk.cls :: (tkI Y ++ R)) (Tk.cls :: (tkI Z ++ S)) (Nat.le_refl _) (Qq r1.form) (Qq r2.form) trivial trivial h
    have e4 := WN fn fn' tn tn' hk hat (ahi r1 r2 e1)
    subst e4
    simp only [List.cons.injEq, true_and] at e2
    obtain ⟨Z', rfl, h2⟩ := aeX Y Z R S fy' fz' hS e2
    exact ⟨Z', rfl, h2⟩
theorem Yr {α : Type} {a b c d : List α} (h : a ++ b = c ++ d) (hl : a.length = c.length) : a = c ∧ b = d := List.append_inj h hl
theorem apy {n : za} {T P S : List Tk} {Y : List It} (h : TD n T) (hw : wD n T ≤ 100000000) (hT : T = P ++ (tkI Y ++ S)) (fy : FI Y) :
  ∃ q m a X Z, Flat n P.length (P.length + szI Y) q m a X Y Z ∧ ∃ P1 S1, P = P1 ++ tkI X ∧ S = tkI Z ++ S1 := by
 have hn := h.rn hw
 have hl := h.len
 have hp : P.length ≤ zF n.Kids := by rw [← hl, hT]; simp
 obtain ⟨q, m, a, X, Z0, hF⟩ := asl hn hp
 obtain ⟨P1, S1, e1, e2, e3⟩ := at_end hF.at_
 have hit := hF.it
 rw [List.nil_append] at hit
 rw [← vG m.Kids, hit, K9, h.tk, hT, ← List.append_assoc, ← List.append_assoc, ← List.append_assoc, List.append_assoc (P1 ++ tkI X), List.append_assoc P] at e2
 have hsx := hF.sx
 obtain ⟨g1, g2⟩ := Yr e2 (by rw [List.length_append, aaq]; omega)
 have fm := vg (hF.at_.form hn.form) hF.nt
 have fi := Qq fm.form
 rw [hit] at fi
 obtain ⟨Z', rfl, g3⟩ := aeX Y Z0 S S1 fy (fun x hx => fi x (by simp [hx])) e3 g2
 exact ⟨q, m, a, X, Z', ⟨hF.at_, hF.nt, hit, hF.sx, rfl⟩, P1, S1, g1, g3⟩
theorem auA {n : za} (hn : RN n) (hw : nwt n ≤ 1000000000) {f t q m a X Y Z} (h : Flat n f t q m a X Y Z) {l : List za} (hl : ∀ x ∈ l, zY x = true) (hlw : zL l ≤ 1000000000) :
  ∃ K N, N = Qi q n ({ m with Kids := K } : za) ∧ vO K ∧ items K = X ++ (items l ++ Z) ∧ zY N = true ∧ isT N = false ∧ yQ n (f : Int) (t : Int) l = some (if checkN N = 0 then (N, 0) else (aeO, checkN N)) := by
 have hwh := ag1 hn h
 obtain ⟨h1, h2, h3, h4, h5⟩ := h
 have hr := vg (h1.form hn.form) h2
 have w1 := h1.wt
 have w2 := je m
 obtain ⟨A, A', s1, a1, a2, a3, a4, a5, a6, a7, a8⟩ := acs hr (by omega) (X := X) (Y := Y ++ Z) h3
 obtain ⟨B', B, s2, b1, b2, b3, b4, b5, b6, b7, b8⟩ := acs hr (by omega) (X := X ++ Y) (Y := Z) (by rw [h3, List.append_assoc])
 have hall : ∀ x ∈ A ++ (l ++ B), zY x = true := by
  intro x hx
  rcases List.mem_append.1 hx with hx | hx
  ·exact a1.form x hx
  ·rcases List.mem_append.1 hx with hx | hx
   ·exact hl x hx
   ·exact b2.form x hx
 obtain ⟨kr, ki⟩ := aet hall
 obtain ⟨lr, li⟩ := aet hl
 have kw := Yl (A ++ (l ++ B))
 rw [vk, vk] at kw
 rw [Qe, Qe, a3, b4] at ki
 have hlw2 := kg (A ++ (l ++ B))
 rw [vk, vk] at hlw2
 generalize hK : x9 (A ++ (l ++ B)) = K at *
 have hx : isT ({ m with Kids := K } : za) = false := h2
 have fx := aaz (h1.form hn.form) h2 kr
 have wx : nwt ({ m with Kids := K } : za) + zL m.Kids = nwt m + zL K := by
  rw [qM, qM m]; simp only; omega
 have hrw := avD (x := ({ m with Kids := K } : za)) h1
 have hfN := amh hx fx h1 hn.form
 have htN := JO q n _ hn.nt hx
 refine ⟨K, _, rfl, kr, ki, hfN, htN, ?_⟩
 have g2 := arX lr
 have hjw := Yl l
 have hxw : nwt (⟨[120], [], [], [], x9 l⟩ : za) ≤ 1099511627776 := by
  rw [qM]; simp only [wQ, wN, List.length_cons, List.length_nil]; omega
 unfold yQ
 rw [hwh]
 simp only [Option.bind_some]
 have z2 : ((0 : Int) == 2) = false := rfl
 simp only [z2, Bool.false_eq_true, if_false]
 rw [adO l (by omega)]
 simp only [Option.bind_some]
 rw [Y0 _ hxw]
 have g2' : (checkN (⟨[120], [], [], [], x9 l⟩ : za) == 2) = false := by simpa using g2
 simp only [Option.bind_some, g2', Bool.false_eq_true, if_false, bne_self_eq_false]
 rw [s1]
 simp only [Option.bind_some]
 rw [QN] at s2
 rw [s2]
 simp only [Option.bind_some]
 have hflat : ([A, l, B] : List (List za)).flatten = A ++ (l ++ B) := by simp
 rw [aq9 _ (by simp) (by rw [hflat]; omega), hflat]
 simp only [Option.bind_some]
 rw [adO _ (by rw [vk, vk]; omega), hK]
 simp only [Option.bind_some]
 rw [api h1 hn.nt (by omega)]
 simp only [Option.bind_some]
 rw [Y0 _ (by omega)]
 simp only [Option.bind_some]
 by_cases hc : checkN (Qi q n ({ m with Kids := K } : za)) = 0
 ·rw [hc]; simp
 ·simp [hc]
theorem atP {n : za} {T P S : List Tk} {Y : List It} (h : TD n T) (hw : wD n T ≤ 100000000) (hT : T = P ++ (tkI Y ++ S)) (fy : FI Y) {l : List za} (hl : ∀ x ∈ l, zY x = true) (hlw : zL l ≤ 1000000000) :
  ∃ N, zY N = true ∧ isT N = false ∧ N.Kind = n.Kind ∧ N.zo = n.zo ∧ tkL N.Kids = P ++ (tkL l ++ S) ∧ yQ n (P.length : Int) ((P.length + szI Y : Nat) : Int) l = some (if checkN N = 0 then (N, 0) else (aeO, checkN N)) := by
 obtain ⟨q, m, a, X, Z, hF, _⟩ := apy h hw hT fy
 have hn := h.rn hw
 have hwt := h.wt
 obtain ⟨K, N, rfl, hK, hi, hf, ht, hp⟩ := auA hn (by omega) hF hl hlw
 obtain ⟨P', S', p1, p2, p3, p4⟩ := avV hF hi
 obtain ⟨k1, k2, _, _⟩ := arF (x := ({ m with Kids := K } : za)) hF.at_ rfl rfl rfl rfl
 refine ⟨_, hf, ht, k1, k2, ?_, hp⟩
 rw [h.tk, hT] at p3
 obtain ⟨g1, g2⟩ := Yr p3 p1.symm
 obtain ⟨_, g3⟩ := Yr g2 rfl
 rw [p4, ← g1, ← g3]
theorem auG {n : za} {T P S : List Tk} {Y : List It} (h : TD n T) (hw : wD n T ≤ 100000000) (hT : T = P ++ (tkI Y ++ S)) (fy : FI Y) :
  ∃ c, Wl n (P.length : Int) ((P.length + szI Y : Nat) : Int) = some (c, 0) ∧ vO c ∧ items c = Y ∧ zL c ≤ nwt n := by
 obtain ⟨q, m, a, X, Z, hF, _⟩ := apy h hw hT fy
 obtain ⟨c, h1, h2, h3, h4, _⟩ := avv (h.rn hw) hF
 exact ⟨c, h1, h2, h3, h4⟩
end Go.Proofs.YtclohbgnaopjfaaDoor
namespace Go.Proofs.YtclohbgnaopjfaaDoor
set_option linter.unusedSimpArgs false
set_option linter.unusedVariables false
open Go Classical
theorem yg : ∀ x : Str, Op.bytesLess x x = false
 | [] => rfl
 | a :: x => by
  have h : ¬ a < a := by rw [UInt8.lt_iff_toNat_lt]; omega
  simp [Op.bytesLess, yg x]
theorem aai : ∀ x y z : Str, Op.bytesLess x y = true → Op.bytesLess y z = true → Op.bytesLess x z = true
 | _, [], _, h, _ => by simp [Op.bytesLess] at h
 | _, _ :: _, [], _, h => by simp [Op.bytesLess] at h
 | [], _ :: _, _ :: _, _, _ => rfl
 | a :: x, b :: y, c :: z, h1, h2 => by
  simp only [Op.bytesLess, Bool.or_eq_true, Bool.and_eq_true, decide_eq_true_eq, beq_iff_eq, UInt8.lt_iff_toNat_lt] at h1 h2 ⊢
  rcases h1 with h1 | ⟨rfl, h1⟩
  ·rcases h2 with h2 | ⟨rfl, h2⟩
   ·exact .inl (by omega)
   ·exact .inl h1
  ·rcases h2 with h2 | ⟨rfl, h2⟩
   ·exact .inl h2
   ·exact .inr ⟨rfl, aai x y z h1 h2⟩
theorem aok : ∀ x y : Str, Op.bytesLess x y = true ∨ x = y ∨ Op.bytesLess y x = true
 | [], [] => .inr (.inl rfl)
 | [], _ :: _ => .inl rfl
 | _ :: _, [] => .inr (.inr rfl)
 | a :: x, b :: y => by
  simp only [Op.bytesLess, Bool.or_eq_true, Bool.and_eq_true, decide_eq_true_eq, beq_iff_eq, UInt8.lt_iff_toNat_lt, List.cons.injEq]
  by_cases h : a = b
  ·subst h
   rcases aok x y with h1 | h1 | h1
   ·exact .inl (.inr ⟨rfl, h1⟩)
   ·exact .inr (.inl ⟨rfl, h1⟩)
   ·exact .inr (.inr (.inr ⟨rfl, h1⟩))
  ·have : a.toNat ≠ b.toNat := fun e => h (UInt8.toNat_inj.1 e)
   rcases Nat.lt_or_gt_of_ne this with h1 | h1
   ·exact .inl (.inl h1)
   ·exact .inr (.inr (.inl h1))
theorem arO {x y : Str} (h : Op.bytesLess x y = true) : Op.bytesLess y x = false := by
 cases h2 : Op.bytesLess y x with
 | false => rfl
 | true => have := aai x y x h h2; rw [yg] at this; cases this
theorem Ym {x : Str} (h : isName x = true) : x.length ≤ 20 := by
 unfold isName at h
 simp only [Bool.and_eq_true, decide_eq_true_eq] at h
 have := h.1.2
 omega
abbrev BL (a b : Str) : Prop := Op.bytesLess a b = true
theorem acj : ∀ (l : List Str) (last : Option Str), yR last l = true ↔ (∀ x ∈ l, isName x = true) ∧ l.Pairwise BL ∧ ∀ x, last = some x → ∀ y ∈ l, BL x y
 | [], last => by simp [yR]
 | y :: l, none => by
  rw [Vn, Bool.and_eq_true, Bool.and_eq_true, acj l (some y)]
  simp only [List.mem_cons, forall_eq_or_imp, List.pairwise_cons, Option.some.injEq, forall_eq', and_true, reduceCtorEq, false_implies, implies_true]
  constructor
  ·rintro ⟨h1, h3, h4, h5⟩
   exact ⟨⟨h1, h3⟩, h5, h4⟩
  ·rintro ⟨⟨h1, h3⟩, h5, h4⟩
   exact ⟨h1, h3, h4, h5⟩
 | y :: l, some x => by
  rw [Vn, Bool.and_eq_true, Bool.and_eq_true, acj l (some y)]
  have key : (!(Op.bytesLess y x || y == x)) = true ↔ BL x y := by
   simp only [Bool.not_eq_true', Bool.or_eq_false_iff, beq_eq_false_iff_ne]
   constructor
   ·rintro ⟨h1, h2⟩
    rcases aok x y with h | h | h
    ·exact h
    ·exact absurd h.symm h2
    ·rw [h1] at h; cases h
   ·intro h
    exact ⟨arO h, fun e => by subst e; rw [BL, yg] at h; cases h⟩
  simp only [key, List.mem_cons, forall_eq_or_imp, List.pairwise_cons, Option.some.injEq, forall_eq']
  constructor
  ·rintro ⟨⟨h1, h2⟩, h3, h4, h5⟩
   exact ⟨⟨h1, h3⟩, ⟨h5, h4⟩, h2, fun z hz => aai _ _ _ h2 (h5 z hz)⟩
  ·rintro ⟨⟨h1, h3⟩, ⟨h5, h4⟩, h6, _⟩
   exact ⟨⟨h1, h6⟩, h3, h4, h5⟩
theorem WT (l : List Str) : vT l = true ↔ (∀ x ∈ l, isName x = true) ∧ l.Pairwise BL := by
 unfold vT
 rw [acj]
 simp
theorem ahY : ∀ (a b : List Str), a.Pairwise BL → b.Pairwise BL → (∀ y, y ∈ a ↔ y ∈ b) → a = b
 | [], [], _, _, _ => rfl
 | [], y :: b, _, _, h => by have := (h y).2 (by simp); cases this
 | x :: a, [], _, _, h => by have := (h x).1 (by simp); cases this
 | x :: a, y :: b, ha, hb, h => by
  rw [List.pairwise_cons] at ha hb
  have e : x = y := by
   rcases (List.mem_cons.1 ((h x).1 (by simp))) with h1 | h1
   ·exact h1
   ·rcases (List.mem_cons.1 ((h y).2 (by simp))) with h2 | h2
    ·exact h2.symm
    ·have := aai _ _ _ (hb.1 x h1) (ha.1 y h2)
     rw [yg] at this
     cases this
  subst e
  have nx : ∀ z, BL x z → z ≠ x := fun z hz e => by subst e; rw [BL, yg] at hz; cases hz
  rw [ahY a b ha.2 hb.2 fun z => ?_]
  constructor
  ·intro hz
   rcases List.mem_cons.1 ((h z).1 (by simp [hz])) with h1 | h1
   ·exact absurd h1 (nx z (ha.1 z hz))
   ·exact h1
  ·intro hz
   rcases List.mem_cons.1 ((h z).2 (by simp [hz])) with h1 | h1
   ·exact absurd h1 (nx z (hb.1 z hz))
   ·exact h1
theorem JN {a b : List Str} (ha : vT a = true) (hb : vT b = true) (h : ∀ y, y ∈ a ↔ y ∈ b) : a = b := ahY a b ((WT a).1 ha).2 ((WT b).1 hb).2 h
theorem Xm (x : Str) : ∀ m : List Str, m.Pairwise BL → ∃ A B, m = A ++ B ∧ (∀ y ∈ A, BL y x) ∧ ∀ y ∈ B, Op.bytesLess y x = false
 | [], _ => ⟨[], [], rfl, by simp, by simp⟩
 | z :: m, h => by
  rw [List.pairwise_cons] at h
  cases hz : Op.bytesLess z x with
  | true =>
   obtain ⟨A, B, e, h1, h2⟩ := Xm x m h.2
   exact ⟨z :: A, B, by rw [e]; rfl, by simp only [List.mem_cons, forall_eq_or_imp]; exact ⟨hz, h1⟩, h2⟩
  | false =>
   refine ⟨[], z :: m, rfl, by simp, ?_⟩
   simp only [List.mem_cons, forall_eq_or_imp]
   refine ⟨hz, fun y hy => ?_⟩
   cases hy' : Op.bytesLess y x with
   | false => rfl
   | true => have := aai _ _ _ (h.1 y hy) hy'; rw [hz] at this; cases this
theorem ae8 (less : Nat → Bool) (k n : Nat) (h1 : ∀ t, t < k → less t = true) (h2 : ∀ t, k ≤ t → t < n → less t = false) : ∀ (f lo hi : Nat), hi - lo ≤ f → lo ≤ k → k ≤ hi → hi ≤ n → Lib.bsGo less f lo hi = k
 | 0, lo, hi, hf, a, b, _ => by simp [Lib.bsGo]; omega
 | f + 1, lo, hi, hf, a, b, c => by
  unfold Lib.bsGo
  by_cases h : lo < hi
  ·rw [if_pos h]
   by_cases hm : (lo + hi) / 2 < k
   ·rw [h1 _ hm, if_pos rfl]; exact ae8 less k n h1 h2 f _ _ (by omega) (by omega) b c
   ·rw [h2 _ (by omega) (by omega), if_neg (by simp)]; exact ae8 less k n h1 h2 f _ _ (by omega) a (by omega) (by omega)
  ·rw [if_neg h]; omega
theorem arc {x : Str} {A B : List Str} (hA : ∀ y ∈ A, BL y x) (hB : ∀ y ∈ B, Op.bytesLess y x = false) : bsI (A ++ B) x = A.length := by
 unfold bsI
 refine ae8 _ A.length (A ++ B).length (fun t ht => ?_) (fun t ht ht' => ?_) _ _ _ (by omega) (by omega) (by simp) (by simp)
 ·rw [List.getD_eq_getElem?_getD, List.getElem?_append_left ht, List.getElem?_eq_getElem ht]
  exact hA _ (List.getElem_mem ht)
 ·rw [List.getD_eq_getElem?_getD, List.getElem?_eq_getElem ht', List.getElem_append_right ht]
  exact hB _ (List.getElem_mem _)
def mkS (k : Int) (x : Str) (m : List Str) : List Str := (QK k x m).1
theorem amC {x : Str} {A B : List Str} (hs : (A ++ B).Pairwise BL) (hA : ∀ y ∈ A, BL y x) (hB : ∀ y ∈ B, Op.bytesLess y x = false) (k : Int) :
  (x ∈ A ++ B ∧ ∃ B', B = x :: B' ∧ (∀ y ∈ B', y ≠ x) ∧ QK k x (A ++ B) = (if k = 109 then (A ++ B, false) else (A ++ B', true))) ∨
  (x ∉ A ++ B ∧ QK k x (A ++ B) = (if k = 109 then (A ++ x :: B, true) else (A ++ B, false))) := by
 have hnA : x ∉ A := fun h => by have := hA x h; rw [BL, yg] at this; cases this
 have hi := arc hA hB
 have hd : acC (A ++ B) A.length = A ++ B.drop 1 := by simp [acC]
 have hn : Vq (A ++ B) A.length x = A ++ x :: B := by simp [Vq]
 unfold QK
 rw [hi, hd, hn]
 cases B with
 | nil =>
  right
  rw [List.append_nil] at hs ⊢
  refine ⟨hnA, ?_⟩
  have : decide (A.length < A.length ∧ A.getD A.length [] = x) = false := by simp
  rw [this]
  by_cases h : k = 109 <;> simp [h]
 | cons y B =>
  have hg : (A ++ y :: B).getD A.length [] = y := by simp
  rw [hg]
  have hlt : A.length < (A ++ y :: B).length := by simp
  rw [List.pairwise_append, List.pairwise_cons] at hs
  by_cases e : y = x
  ·subst e
   left
   refine ⟨by simp, B, rfl, fun z hz e => ?_, ?_⟩
   ·subst e
    have := hs.2.1.1 z hz
    rw [BL, yg] at this
    cases this
   have : decide (A.length < (A ++ y :: B).length ∧ y = y) = true := by simp
   rw [this]
   by_cases h : k = 109 <;> simp [h]
  ·right
   refine ⟨fun hx => ?_, ?_⟩
   ·rcases List.mem_append.1 hx with h | h
    ·exact hnA h
    ·rcases List.mem_cons.1 h with h | h
     ·exact e h.symm
     ·have h1 := hs.2.1.1 x h
      have h9 := hB y (by simp)
      rw [show Op.bytesLess y x = true from h1] at h9
      cases h9
   ·have : decide (A.length < (A ++ y :: B).length ∧ y = x) = false := by simp [e]
    rw [this]
    by_cases h : k = 109 <;> simp [h]
theorem ajh {x : Str} {m : List Str} (hm : vT m = true) (hx : isName x = true) : vT (mkS 109 x m) = true ∧ (∀ y, y ∈ mkS 109 x m ↔ y = x ∨ y ∈ m) ∧ (QK 109 x m).2 = decide (x ∉ m) := by
 obtain ⟨h1, h2⟩ := (WT m).1 hm
 obtain ⟨A, B, rfl, hA, hB⟩ := Xm x m h2
 unfold mkS
 rcases amC h2 hA hB 109 with ⟨hin, B', rfl, _, e⟩ | ⟨hin, e⟩
 ·rw [e, if_pos rfl]
  refine ⟨hm, fun y => ?_, by simp⟩
  constructor
  ·exact .inr
  ·rintro (rfl | h)
   ·exact hin
   ·exact h
 ·rw [e, if_pos rfl]
  have hx' : ∀ y ∈ B, BL x y := fun y hy => by
   rcases aok x y with h | h | h
   ·exact h
   ·subst h; exact absurd (List.mem_append.2 (.inr hy)) hin
   ·have h9 := hB y hy; rw [show Op.bytesLess y x = true from h] at h9; cases h9
  rw [List.pairwise_append] at h2
  refine ⟨(WT _).2 ⟨?_, ?_⟩, fun y => ?_, by simp [hin]⟩
  ·intro y hy
   rcases List.mem_append.1 hy with h | h
   ·exact h1 y (by simp [h])
   ·rcases List.mem_cons.1 h with rfl | h
    ·exact hx
    ·exact h1 y (by simp [h])
  ·rw [List.pairwise_append, List.pairwise_cons]
   refine ⟨h2.1, ⟨hx', h2.2.1⟩, fun a ha b hb => ?_⟩
   rcases List.mem_cons.1 hb with rfl | hb
   ·exact hA a ha
   ·exact h2.2.2 a ha b hb
  ·simp only [List.mem_append, List.mem_cons]
   constructor
   ·rintro (h | h | h)
    ·exact .inr (.inl h)
    ·exact .inl h
    ·exact .inr (.inr h)
   ·rintro (h | h | h)
    ·exact .inr (.inl h)
    ·exact .inl h
    ·exact .inr (.inr h)
theorem aee {k : Int} (hk : k ≠ 109) {x : Str} {m : List Str} (hm : vT m = true) : vT (mkS k x m) = true ∧ (∀ y, y ∈ mkS k x m ↔ y ≠ x ∧ y ∈ m) ∧ (QK k x m).2 = decide (x ∈ m) := by
 obtain ⟨h1, h2⟩ := (WT m).1 hm
 obtain ⟨A, B, rfl, hA, hB⟩ := Xm x m h2
 unfold mkS
 rcases amC h2 hA hB k with ⟨hin, B', rfl, hB', e⟩ | ⟨hin, e⟩
 ·rw [e, if_neg hk]
  have hnA : x ∉ A := fun h => by have := hA x h; rw [BL, yg] at this; cases this
  rw [List.pairwise_append, List.pairwise_cons] at h2
  refine ⟨(WT _).2 ⟨fun y hy => ?_, ?_⟩, fun y => ?_, by simp⟩
  ·rcases List.mem_append.1 hy with h | h
   ·exact h1 y (by simp [h])
   ·exact h1 y (by simp [h])
  ·rw [List.pairwise_append]
   exact ⟨h2.1, h2.2.1.2, fun a ha b hb => h2.2.2 a ha b (by simp [hb])⟩
  ·simp only [List.mem_append, List.mem_cons]
   constructor
   ·rintro (h | h)
    ·exact ⟨fun e => hnA (e ▸ h), .inl h⟩
    ·exact ⟨hB' y h, .inr (.inr h)⟩
   ·rintro ⟨h, h3 | h3 | h3⟩
    ·exact .inl h3
    ·exact absurd h3 h
    ·exact .inr h3
 ·rw [e, if_neg hk]
  refine ⟨hm, fun y => ?_, by simp [hin]⟩
  constructor
  ·intro h
   exact ⟨fun e => hin (e ▸ h), h⟩
  ·exact fun h => h.2
theorem ao6 (k : Int) {x : Str} {m : List Str} (hm : vT m = true) (hx : isName x = true) : vT (mkS k x m) = true := by
 by_cases h : k = 109
 ·subst h; exact (ajh hm hx).1
 ·exact (aee h hm).1
theorem akL (k : Int) {x : Str} {m : List Str} (hm : vT m = true) (hx : isName x = true) : (QK k x m).2 = decide (mkS k x m ≠ m) := by
 by_cases h : k = 109
 ·subst h
  obtain ⟨h1, h2, h3⟩ := ajh hm hx
  rw [h3]
  congr 1
  apply propext
  constructor
  ·intro h4 e
   have := (h2 x).2 (.inl rfl)
   rw [e] at this
   exact h4 this
  ·intro h4 h5
   refine h4 (JN h1 hm fun y => ?_)
   rw [h2]
   constructor
   ·rintro (rfl | h)
    ·exact h5
    ·exact h
   ·exact .inr
 ·obtain ⟨h1, h2, h3⟩ := aee h hm (x := x)
  rw [h3]
  congr 1
  apply propext
  constructor
  ·intro h4 e
   rw [← e, h2] at h4
   exact h4.1 rfl
  ·intro h4
   by_cases h5 : x ∈ m
   ·exact h5
   ·refine absurd (JN h1 hm fun y => ?_) h4
    rw [h2]
    exact ⟨fun h => h.2, fun h => ⟨fun e => h5 (e ▸ h), h⟩⟩
end Go.Proofs.YtclohbgnaopjfaaDoor
namespace Go.Proofs.YtclohbgnaopjfaaDoor
set_option linter.unusedSimpArgs false
set_option linter.unusedVariables false
open Go Classical
section
variable (k : Int) (x : Str) (a b : Nat)
def mkT (i : Nat) : Tk → Tk
 | .sgn c m => .sgn c (if a ≤ i ∧ i < b then mkS k x m else m)
 | t => t
theorem Ji (i : Nat) (c : Int) (m : List Str) : mkT k x a b i (.sgn c m) = .sgn c (if a ≤ i ∧ i < b then mkS k x m else m) := rfl
theorem aaB (i : Nat) (c : Str) (m : List zg) : mkT k x a b i (.opn c m) = .opn c m := rfl
theorem ad5 (i : Nat) : mkT k x a b i .cls = .cls := rfl
def wG : Nat → List Tk → List Tk
 | _, [] => []
 | i, t :: l => mkT k x a b i t :: wG (i + 1) l
theorem aeG : ∀ (l r : List Tk) (i : Nat), wG k x a b i (l ++ r) = wG k x a b i l ++ wG k x a b (i + l.length) r
 | [], r, i => by simp [wG]
 | t :: l, r, i => by
  rw [List.cons_append, wG, wG, aeG l r (i + 1), List.cons_append, List.length_cons]
  congr 3
  omega
theorem aat : ∀ (l : List Tk) (i : Nat), (wG k x a b i l).length = l.length
 | [], i => rfl
 | t :: l, i => by rw [wG, List.length_cons, List.length_cons, aat l]
theorem XW : ∀ (l : List Tk) (i d : Nat), dpT d (wG k x a b i l) = dpT d l
 | [], i, d => rfl
 | .sgn c m :: l, i, d => by rw [wG, Ji, dpT, dpT, XW l]
 | .opn c m :: l, i, d => by rw [wG, aaB, dpT, dpT, XW l]
 | .cls :: l, i, d => by rw [wG, ad5, dpT, dpT, XW l]
theorem as4 (m : List Str) : wQ (mkS k x m) ≤ wQ m + 1 + x.length := by
 have ins : ∀ (m : List Str) (i : Nat), wQ (Vq m i x) = wQ m + (1 + x.length) := by
  intro m i
  have app : ∀ p q : List Str, wQ (p ++ q) = wQ p + wQ q := by
   intro p q
   induction p with
   | nil => simp [wQ]
   | cons y p ih => simp only [List.cons_append, wQ, ih]; omega
  have h := app (m.take i) (m.drop i)
  rw [List.take_append_drop] at h
  unfold Vq
  rw [app, wQ]
  omega
 have del : ∀ (m : List Str) (i : Nat), wQ (acC m i) ≤ wQ m := by
  intro m i
  have app : ∀ p q : List Str, wQ (p ++ q) = wQ p + wQ q := by
   intro p q
   induction p with
   | nil => simp [wQ]
   | cons y p ih => simp only [List.cons_append, wQ, ih]; omega
  have h := app (m.take i) (m.drop i)
  rw [List.take_append_drop] at h
  have h2 := app ((m.drop i).take 1) ((m.drop i).drop 1)
  rw [List.take_append_drop, List.drop_drop] at h2
  unfold acC
  rw [app]
  omega
 unfold mkS QK
 split
 ·show wQ m ≤ _; omega
 ·split
  ·have := del m (bsI m x); show wQ (acC m (bsI m x)) ≤ _; omega
  ·have := ins m (bsI m x); show wQ (Vq m (bsI m x) x) ≤ _; omega
theorem agz : ∀ (l : List Tk) (i : Nat), tw (wG k x a b i l) ≤ tw l + l.length * (1 + x.length)
 | [], i => by simp [wG, tw]
 | .sgn c m :: l, i => by
  have h1 := agz l (i + 1)
  have h2 := as4 k x m
  rw [wG, Ji, tw, tw, aiS, aiS, List.length_cons, Nat.add_mul]
  split <;> omega
 | .opn c m :: l, i => by
  have h1 := agz l (i + 1)
  rw [wG, aaB, tw, tw, List.length_cons, Nat.add_mul]
  omega
 | .cls :: l, i => by
  have h1 := agz l (i + 1)
  rw [wG, ad5, tw, tw, List.length_cons, Nat.add_mul]
  omega
def J2 (o : List zk) (i : Nat) : List zk :=
 match o.getLast? with
 | some r => if r.Pos + r.Old = i then o.dropLast ++ [{ r with Old := r.Old + 1 }] else o ++ [⟨i, 1, 0⟩]
 | none => [⟨i, 1, 0⟩]
def arp (i : Nat) (o : List zk) : Tk → List zk
 | .sgn _ m => if a ≤ i ∧ i < b ∧ mkS k x m ≠ m then J2 o i else o
 | _ => o
theorem ahl (i : Nat) (o : List zk) (c : Int) (m : List Str) : arp k x a b i o (.sgn c m) = if a ≤ i ∧ i < b ∧ mkS k x m ≠ m then J2 o i else o := rfl
def Qy : Nat → List Tk → List zk → List zk
 | _, [], o => o
 | i, t :: l, o => Qy (i + 1) l (arp k x a b i o t)
theorem aho : ∀ (l r : List Tk) (i : Nat) (o : List zk), Qy k x a b i (l ++ r) o = Qy k x a b (i + l.length) r (Qy k x a b i l o)
 | [], r, i, o => by simp [Qy]
 | t :: l, r, i, o => by
  rw [List.cons_append, Qy, Qy, aho l r (i + 1), List.length_cons]
  congr 1
  omega
end
theorem XL (o : List zk) (r : zk) (i : Nat) : J2 (o ++ [r]) i = if r.Pos + r.Old = i then o ++ [{ r with Old := r.Old + 1 }] else o ++ [r, ⟨i, 1, 0⟩] := by
 unfold J2
 rw [List.getLast?_append]
 simp
def Xg : List zk → Nat → Nat → List zk
 | o, _, 0 => o
 | o, i, n + 1 => Xg (J2 o i) (i + 1) n
theorem acm (o : List zk) (r : zk) : ∀ (n i : Nat), r.Pos + r.Old = i → Xg (o ++ [r]) i n = o ++ [{ r with Old := r.Old + n }]
 | 0, i, h => by
  rw [Xg]
  cases r
  simp
 | n + 1, i, h => by
  rw [Xg, XL, if_pos h, acm o _ n (i + 1) (by simp only; omega)]
  simp only [List.append_cancel_left_eq, List.cons.injEq, zk.mk.injEq, and_true, true_and]
  omega
theorem ase (o : List zk) (i n : Nat) (hn : 0 < n) : Xg o i n = match o.getLast? with
  | some r => if r.Pos + r.Old = i then o.dropLast ++ [{ r with Old := r.Old + n }] else o ++ [⟨i, n, 0⟩]
  | none => [⟨i, n, 0⟩] := by
 obtain ⟨n, rfl⟩ : ∃ m, n = m + 1 := ⟨n - 1, by omega⟩
 rw [Xg]
 have key : ∀ o : List zk, Xg (o ++ [⟨i, 1, 0⟩]) (i + 1) n = o ++ [⟨i, (n + 1 : Nat), 0⟩] := by
  intro o
  rw [acm o _ n (i + 1) (by simp)]
  simp only [List.append_cancel_left_eq, List.cons.injEq, zk.mk.injEq, and_true, true_and]
  omega
 rcases w9 o with rfl | ⟨o, r, rfl⟩
 ·have := key []
  simpa [J2] using this
 ·rw [XL, List.getLast?_append]
  simp only [List.getLast?_singleton, Option.some_or, List.dropLast_concat]
  by_cases h : r.Pos + r.Old = i
  ·rw [if_pos h, if_pos h, acm o _ n (i + 1) (by simp only; omega)]
   simp only [List.append_cancel_left_eq, List.cons.injEq, zk.mk.injEq, and_true, true_and]
   omega
  ·rw [if_neg h, if_neg h]
   have := key (o ++ [r])
   simpa using this
theorem agR (k : Int) (x : Str) (a b : Nat) (m : List Str) : ∀ (cs : List Int) (i : Nat) (o : List zk), Qy k x a b i (cs.map fun c => Tk.sgn c m) o = if mkS k x m ≠ m then Xg o (i + min (a - i) cs.length) (min (b - i) cs.length - min (a - i) cs.length) else o
 | [], i, o => by simp [Qy, Xg]
 | c :: cs, i, o => by
  rw [List.map_cons, Qy, agR k x a b m cs (i + 1)]
  rw [ahl]
  by_cases hm : mkS k x m ≠ m
  ·rw [if_pos hm, if_pos hm, List.length_cons]
   by_cases h1 : a ≤ i
   ·have e1 : a - i = 0 := by omega
    have e2 : a - (i + 1) = 0 := by omega
    rw [e1, e2, Nat.zero_min, Nat.zero_min]
    by_cases h2 : i < b
    ·rw [if_pos ⟨h1, h2, hm⟩]
     have e3 : min (b - i) (cs.length + 1) - 0 = min (b - (i + 1)) cs.length + 1 := by omega
     rw [e3, Xg]
     rfl
    ·rw [if_neg (fun h => h2 h.2.1)]
     have e3 : b - i = 0 := by omega
     have e4 : b - (i + 1) = 0 := by omega
     rw [e3, e4]
     simp [Xg]
   ·rw [if_neg (fun h => h1 h.1)]
    congr 1 <;> omega
  ·rw [if_neg hm, if_neg hm, if_neg (fun h => hm h.2.2)]
theorem akh (k : Int) (x : Str) (a b : Nat) (m : List Str) : ∀ (cs : List Int) (i : Nat), wG k x a b i (cs.map fun c => Tk.sgn c m) = ((cs.take (min (a - i) cs.length)).map fun c => Tk.sgn c m) ++ ((((cs.take (max (min (b - i) cs.length) (min (a - i) cs.length))).drop (min (a - i) cs.length)).map fun c => Tk.sgn c (mkS k x m)) ++ ((cs.drop (max (min (b - i) cs.length) (min (a - i) cs.length))).map fun c => Tk.sgn c m))
 | [], i => by simp [wG]
 | c :: cs, i => by
  rw [List.map_cons, wG, akh k x a b m cs (i + 1), Ji]
  simp only [List.length_cons]
  by_cases h1 : a ≤ i
  ·have e1 : a - i = 0 := by omega
   have e2 : a - (i + 1) = 0 := by omega
   rw [e1, e2, Nat.zero_min, Nat.zero_min]
   by_cases h2 : i < b
   ·rw [if_pos ⟨h1, h2⟩]
    have e3 : max (min (b - i) (cs.length + 1)) 0 = max (min (b - (i + 1)) cs.length) 0 + 1 := by omega
    rw [e3]
    simp
   ·rw [if_neg (fun h => h2 h.2)]
    have e3 : b - i = 0 := by omega
    have e4 : b - (i + 1) = 0 := by omega
    rw [e3, e4]
    simp
  ·rw [if_neg (fun h => h1 h.1)]
   have e1 : min (a - i) (cs.length + 1) = min (a - (i + 1)) cs.length + 1 := by omega
   have e2 : max (min (b - i) (cs.length + 1)) (min (a - (i + 1)) cs.length + 1) = max (min (b - (i + 1)) cs.length) (min (a - (i + 1)) cs.length) + 1 := by omega
   rw [e1, e2]
   simp
def InR (o : List zk) (i : Nat) : Prop := ∃ r ∈ o, r.Pos ≤ (i : Int) ∧ (i : Int) < r.Pos + r.Old
theorem asz (o : List zk) (i j : Nat) (h : ∀ r ∈ o, 0 ≤ r.Pos ∧ 1 ≤ r.Old) : (InR (J2 o i) j ↔ InR o j ∨ j = i) ∧ ∀ r ∈ J2 o i, 0 ≤ r.Pos ∧ 1 ≤ r.Old := by
 rcases w9 o with rfl | ⟨o, r, rfl⟩
 ·refine ⟨?_, by simp [J2]⟩
  simp only [J2, InR, List.getLast?_nil, List.mem_singleton, exists_eq_left, List.not_mem_nil, false_and, exists_false, false_or]
  omega
 ·have hr := h r (by simp)
  rw [XL]
  by_cases e : r.Pos + r.Old = i
  ·rw [if_pos e]
   refine ⟨?_, fun y hy => ?_⟩
   ·simp only [InR, List.mem_append, List.mem_singleton, or_and_right, exists_or, exists_eq_left]
    constructor
    ·rintro (h1 | ⟨h1, h2⟩)
     ·exact .inl (.inl h1)
     ·by_cases hj : j = i
      ·exact .inr hj
      ·exact .inl (.inr ⟨h1, by omega⟩)
    ·rintro ((h1 | ⟨h1, h2⟩) | h1)
     ·exact .inl h1
     ·exact .inr ⟨h1, by omega⟩
     ·exact .inr ⟨by omega, by omega⟩
   ·rcases List.mem_append.1 hy with hy | hy
    ·exact h y (by simp [hy])
    ·rw [List.mem_singleton] at hy
     subst hy
     simp only
     omega
  ·rw [if_neg e]
   refine ⟨?_, fun y hy => ?_⟩
   ·simp only [InR, List.mem_append, List.mem_cons, List.not_mem_nil, or_false, or_and_right, exists_or, exists_eq_left]
    constructor
    ·rintro (h1 | h1 | h1)
     ·exact .inl (.inl h1)
     ·exact .inl (.inr h1)
     ·exact .inr (by omega)
    ·rintro ((h1 | h1) | h1)
     ·exact .inl h1
     ·exact .inr (.inl h1)
     ·exact .inr (.inr (by omega))
   ·rcases List.mem_append.1 hy with hy | hy
    ·exact h y (by simp [hy])
    ·rcases List.mem_cons.1 hy with rfl | hy
     ·exact hr
     ·rw [List.mem_singleton] at hy
      subst hy
      simp
def auH (k : Int) (x : Str) (a b : Nat) (i : Nat) (t : Tk) : Prop := ∃ c m, t = .sgn c m ∧ a ≤ i ∧ i < b ∧ mkS k x m ≠ m
theorem ast (k : Int) (x : Str) (a b j : Nat) : ∀ (l : List Tk) (i : Nat) (o : List zk), (∀ r ∈ o, 0 ≤ r.Pos ∧ 1 ≤ r.Old) → (InR (Qy k x a b i l o) j ↔ InR o j ∨ ∃ p t, l[p]? = some t ∧ j = i + p ∧ auH k x a b j t) ∧ ∀ r ∈ Qy k x a b i l o, 0 ≤ r.Pos ∧ 1 ≤ r.Old
 | [], i, o, h => by simpa [Qy] using h
 | t :: l, i, o, h => by
  rw [Qy]
  have one : (InR (arp k x a b i o t) j ↔ InR o j ∨ (j = i ∧ auH k x a b j t)) ∧ ∀ r ∈ arp k x a b i o t, 0 ≤ r.Pos ∧ 1 ≤ r.Old := by
   cases t with
   | sgn c m =>
    rw [ahl]
    by_cases hc : a ≤ i ∧ i < b ∧ mkS k x m ≠ m
    ·rw [if_pos hc]
     obtain ⟨h1, h2⟩ := asz o i j h
     refine ⟨?_, h2⟩
     rw [h1]
     constructor
     ·rintro (h3 | rfl)
      ·exact .inl h3
      ·exact .inr ⟨rfl, c, m, rfl, hc⟩
     ·rintro (h3 | ⟨h3, _⟩)
      ·exact .inl h3
      ·exact .inr h3
    ·rw [if_neg hc]
     refine ⟨?_, h⟩
     constructor
     ·exact .inl
     ·rintro (h3 | ⟨rfl, c', m', e, h4⟩)
      ·exact h3
      ·cases e
       exact absurd h4 hc
   | opn k' a' =>
    refine ⟨⟨.inl, ?_⟩, h⟩
    rintro (h3 | ⟨rfl, c', m', e, h4⟩)
    ·exact h3
    ·cases e
   | cls =>
    refine ⟨⟨.inl, ?_⟩, h⟩
    rintro (h3 | ⟨rfl, c', m', e, h4⟩)
    ·exact h3
    ·cases e
  obtain ⟨h1, h2⟩ := ast k x a b j l (i + 1) _ one.2
  refine ⟨?_, h2⟩
  rw [h1, one.1]
  constructor
  ·rintro ((h3 | ⟨rfl, h3⟩) | ⟨p, t', h3, h4, h5⟩)
   ·exact .inl h3
   ·exact .inr ⟨0, t, by simp, by omega, h3⟩
   ·exact .inr ⟨p + 1, t', by simpa using h3, by omega, h5⟩
  ·rintro (h3 | ⟨p, t', h3, h4, h5⟩)
   ·exact .inl (.inl h3)
   ·cases p with
    | zero =>
     simp only [List.getElem?_cons_zero, Option.some.injEq] at h3
     subst h3
     exact .inl (.inr ⟨by omega, h5⟩)
    | succ p => exact .inr ⟨p, t', by simpa using h3, by omega, h5⟩
end Go.Proofs.YtclohbgnaopjfaaDoor
namespace Go.Proofs.YtclohbgnaopjfaaDoor
set_option linter.unusedSimpArgs false
set_option linter.unusedVariables false
open Go Classical
def RgOk (i : Nat) (o : List zk) : Prop := o.length ≤ i ∧ ∀ r ∈ o, 0 ≤ r.Pos ∧ 1 ≤ r.Old ∧ r.Pos + r.Old ≤ (i : Int)
theorem RgOk.mono {i j : Nat} {o : List zk} (h : RgOk i o) (hij : i ≤ j) : RgOk j o := ⟨by have := h.1; omega, fun r hr => by have := h.2 r hr; omega⟩
theorem arW {i : Nat} {o : List zk} (h : RgOk i o) : RgOk (i + 1) (J2 o i) := by
 rcases w9 o with rfl | ⟨o, r, rfl⟩
 ·refine ⟨by simp [J2], fun r hr => ?_⟩
  simp only [J2, List.getLast?_nil, List.mem_singleton] at hr
  subst hr
  simp
 ·obtain ⟨h1, h2⟩ := h
  have hr := h2 r (by simp)
  rw [List.length_append, List.length_singleton] at h1
  rw [XL]
  split
  ·refine ⟨by rw [List.length_append, List.length_singleton]; omega, fun y hy => ?_⟩
   rcases List.mem_append.1 hy with hy | hy
   ·have := h2 y (by simp [hy]); omega
   ·rw [List.mem_singleton] at hy
    subst hy
    simp only
    omega
  ·refine ⟨by simp; omega, fun y hy => ?_⟩
   rcases List.mem_append.1 hy with hy | hy
   ·have := h2 y (by simp [hy]); omega
   ·rcases List.mem_cons.1 hy with rfl | hy
    ·omega
    ·rw [List.mem_singleton] at hy
     subst hy
     simp
theorem an3 (k : Int) (x : Str) (a b : Nat) : ∀ (l : List Tk) (i : Nat) (o : List zk), RgOk i o → RgOk (i + l.length) (Qy k x a b i l o)
 | [], i, o, h => h
 | t :: l, i, o, h => by
  rw [Qy, List.length_cons]
  have h1 : RgOk (i + 1) (arp k x a b i o t) := by
   cases t with
   | sgn c m =>
    rw [ahl]
    split
    ·exact arW h
    ·exact h.mono (by omega)
   | opn k' a' => exact h.mono (by omega)
   | cls => exact h.mono (by omega)
  have := an3 k x a b l (i + 1) _ h1
  exact this.mono (by omega)
theorem auk (K F T : Int) (N : List za) (nm v : Str) (l : List zk) (j i n : Nat) (hn : 0 < n) (hi : i + n ≤ 1000000) (hl : RgOk j l) (hj : j ≤ i) :
  jm (i : Int) ((i + n : Nat) : Int) K F T N nm v l = some (K, F, T, N, nm, v, Xg l i n) := by
 obtain ⟨h1, h2⟩ := hl
 have hw : w64 (((i + n : Nat) : Int) - (i : Int)) = (n : Int) := by rw [qK (by omega)]; omega
 unfold jm
 rw [ase l i n hn, hw]
 rcases w9 l with rfl | ⟨o, r, rfl⟩
 ·have e : w64 ((([] : List zk).length : Int) - 1) = -1 := rfl
  rw [e, if_neg (by decide), kF (by simp)]
  rfl
 ·have e : w64 (((o ++ [r]).length : Int) - 1) = (o.length : Int) := by
   rw [List.length_append, List.length_singleton] at h1 ⊢
   rw [qK (by omega)]
   omega
  have hr := h2 r (by simp)
  rw [e, if_pos (by simp), Xr o [] r]
  simp only [Option.bind_some]
  rw [qK (x := r.Pos + r.Old) (by omega), List.getLast?_append]
  simp only [List.getLast?_singleton, Option.some_or, List.dropLast_concat]
  by_cases hc : r.Pos + r.Old = (i : Int)
  ·rw [if_pos (by simp [hc]), if_pos hc, qK (by omega), aph]
   rfl
  ·rw [if_neg (by simpa using hc), if_neg hc, kF (by simp at h1 ⊢; omega)]
   rfl
theorem akW (n : za) (m : List Str) (cs : List Int) (a b : Nat) (h1 : a ≤ b) (h2 : b ≤ cs.length) : wS (a : Int) (b : Int) m n cs = some ⟨n.Kind, zI ((cs.take b).drop a), m, [], []⟩ := by
 unfold wS
 rw [aae h1 h2]
 rfl
theorem atZ (a i L : Nat) (ha : a ≤ 2000000) (hi : i ≤ 2000000) : (if (L : Int) < (if (0 : Int) > (w64 ((a : Int) - (i : Int))) then (0 : Int) else w64 ((a : Int) - (i : Int))) then (L : Int) else (if (0 : Int) > (w64 ((a : Int) - (i : Int))) then (0 : Int) else w64 ((a : Int) - (i : Int)))) = ((min (a - i) L : Nat) : Int) := by
 rw [qK (by omega)]
 split <;> split <;> omega
theorem to_eq (b i L f : Nat) (hb : b ≤ 2000000) (hi : i ≤ 2000000) (hf : f ≤ L) : (if (L : Int) < (if (f : Int) > (w64 ((b : Int) - (i : Int))) then (f : Int) else w64 ((b : Int) - (i : Int))) then (L : Int) else (if (f : Int) > (w64 ((b : Int) - (i : Int))) then (f : Int) else w64 ((b : Int) - (i : Int)))) = ((max (min (b - i) L) f : Nat) : Int) := by
 rw [qK (by omega)]
 split <;> split <;> omega
theorem ajA {k : Int} {x : Str} {m : List Str} (hm : mkS k x m = m) (a b : Nat) : ∀ (cs : List Int) (i : Nat), wG k x a b i (cs.map fun c => Tk.sgn c m) = cs.map fun c => Tk.sgn c m
 | [], i => rfl
 | c :: cs, i => by rw [List.map_cons, wG, Ji, ajA hm a b cs, hm]; simp
def Parts (l : List za) : Prop := ∀ p ∈ l, isT p = true ∧ (zY p = true ∨ (p.Text = [] ∧ p.zo = [] ∧ p.Kids = []))
theorem akX (m : List Str) {cs : List Int} (h : ∀ c ∈ cs, VR c) (hm : vT m = true) : tkN ⟨jH, zI cs, m, [], []⟩ = (cs.map fun c => Tk.sgn c m) ∧ (zY ⟨jH, zI cs, m, [], []⟩ = true ∨ zI cs = []) ∧ nwt ⟨jH, zI cs, m, [], []⟩ = 6 + (zI cs).length + wQ m := by
 obtain ⟨h1, h2⟩ := Xv h
 refine ⟨?_, ?_, by rw [qM]; simp [wN, zL]⟩
 ·rw [wW]
  have : isT (⟨jH, zI cs, m, [], []⟩ : za) = true := by simp [isT]
  rw [this, if_pos rfl, h1]
 ·by_cases e : zI cs = []
  ·exact .inr e
  ·exact .inl (agE e h2 hm)
theorem auf {n : za} (hf : zY n = true) (ht : isT n = true) (k : Int) {x : Str} (hx : isName x = true) (a b i : Nat) (ha : a ≤ 2000000) (hb : b ≤ 2000000) (hi : i + wL n ≤ 1000000) (N : List za) (v : Str) (o : List zk) (ho : RgOk i o) (hw : nwt n ≤ 1000000000) :
  ∃ out, jo n (i : Int) k (a : Int) (b : Int) N x v o = some (out, k, (a : Int), (b : Int), N, x, v, Qy k x a b i (tkN n) o) ∧ Parts out ∧ tkL out = wG k x a b i (tkN n) ∧ zL out ≤ 3 * nwt n + 1 + x.length ∧ out.length ≤ 3 := by
 obtain ⟨t1, t2, t3, t4, t5⟩ := xI hf ht
 have hk := JQ ht
 have hcs := ais t2
 have hsz : wL n = (runes n.Text).length := by rw [jM, ht, yS]; rfl
 have hone : Parts [n] ∧ zL [n] ≤ 3 * nwt n + 1 + x.length := by
  refine ⟨fun p hp => ?_, by simp only [zL]; omega⟩
  rw [List.mem_singleton] at hp
  subst hp
  exact ⟨ht, .inl hf⟩
 have htl : tkL [n] = tkN n := by simp [tkL]
 have htk : tkN n = (runes n.Text).map fun c => Tk.sgn c n.Marks := by rw [wW, if_pos ht]
 have hmw := as4 k x n.Marks
 have hmr := ao6 k t3 hx
 have hml : n.Marks.length ≤ 1099511627776 := by have := agp n.Marks; rw [qM] at hw; omega
 have hwn : nwt n = 6 + n.Text.length + wQ n.Marks := by rw [qM, hk, t4, t5]; simp [wN, zL]
 have hval := ZQ t2
 unfold jo QP
 rw [qL hml]
 simp only [Option.bind_some]
 rw [akL k t3 hx, atZ a i _ ha (by omega), to_eq b i _ _ hb (by omega) (by omega)]
 have e1 : (QK k x n.Marks).1 = mkS k x n.Marks := rfl
 rw [e1, htk]
 generalize hcsd : runes n.Text = cs at *
 by_cases hm : mkS k x n.Marks = n.Marks
 ·refine ⟨[n], ?_, hone.1, by rw [ajA hm, htl, htk], hone.2, by simp⟩
  rw [if_pos (by simp [hm]), agR, if_neg (by simpa using hm)]
 ·rw [if_neg (by simp [hm]), agR, if_pos hm, akh]
  have hfL : min (a - i) cs.length ≤ cs.length := by omega
  have htL : max (min (b - i) cs.length) (min (a - i) cs.length) ≤ cs.length := by omega
  have hft : min (a - i) cs.length ≤ max (min (b - i) cs.length) (min (a - i) cs.length) := by omega
  have hd : min (b - i) cs.length - min (a - i) cs.length = max (min (b - i) cs.length) (min (a - i) cs.length) - min (a - i) cs.length := by omega
  rw [hd]
  generalize min (a - i) cs.length = f at *
  generalize max (min (b - i) cs.length) f = t at *
  by_cases hft' : (f : Int) = (t : Int)
  ·obtain rfl : f = t := by omega
   rw [if_pos (by simp)]
   refine ⟨[n], ?_, hone.1, ?_, hone.2, by simp⟩
   ·rw [Nat.sub_self, Xg]
   ·rw [htl, htk, List.drop_take_self, List.map_nil, List.nil_append, ← List.map_append, List.take_append_drop]
  ·rw [if_neg (by simpa using hft'), qK (by omega), qK (by omega)]
   have n1 : ((i : Int) + (f : Int)) = ((i + f : Nat) : Int) := by omega
   have n2 : ((i : Int) + (t : Int)) = ((i + f + (t - f) : Nat) : Int) := by omega
   rw [n1, n2, auk _ _ _ _ _ _ o i (i + f) (t - f) (by omega) (by omega) ho (by omega)]
   simp only [Option.bind_some]
   have z0 : (0 : Int) = ((0 : Nat) : Int) := rfl
   rw [z0, akW n _ cs 0 f (by omega) hfL, akW n _ cs f t hft htL, akW n _ cs t cs.length htL (Nat.le_refl _), hk]
   simp only [Option.bind_some, List.drop_zero, List.take_length]
   have v1 : ∀ c ∈ cs.take f, VR c := fun c hc => hcs c (List.mem_of_mem_take hc)
   have v2 : ∀ c ∈ (cs.take t).drop f, VR c := fun c hc => hcs c (List.mem_of_mem_take (List.mem_of_mem_drop hc))
   have v3 : ∀ c ∈ cs.drop t, VR c := fun c hc => hcs c (List.mem_of_mem_drop hc)
   obtain ⟨p1, q1, w1⟩ := akX n.Marks v1 t3
   obtain ⟨p2, q2, w2⟩ := akX (mkS k x n.Marks) v2 hmr
   obtain ⟨p3, q3, w3⟩ := akX n.Marks v3 t3
   refine ⟨_, rfl, ?_, ?_, ?_, by simp⟩
   ·intro p hp
    simp only [List.mem_cons, List.not_mem_nil, or_false] at hp
    rcases hp with rfl | rfl | rfl
    ·exact ⟨by simp [isT], q1.imp id fun h => ⟨h, rfl, rfl⟩⟩
    ·exact ⟨by simp [isT], q2.imp id fun h => ⟨h, rfl, rfl⟩⟩
    ·exact ⟨by simp [isT], q3.imp id fun h => ⟨h, rfl, rfl⟩⟩
   ·simp only [tkL, p1, p2, p3, List.append_nil]
   ·have hl : zI cs = zI (cs.take f) ++ (zI ((cs.take t).drop f) ++ zI (cs.drop t)) := by
     rw [← Xu, ← Xu]
     congr 1
     have h1 : cs.take f = (cs.take t).take f := by rw [List.take_take]; congr 1; omega
     rw [← List.append_assoc, h1, List.take_append_drop, List.take_append_drop]
    have hlen := congrArg List.length hl
    rw [hval] at hlen
    simp only [List.length_append] at hlen
    simp only [zL, w1, w2, w3]
    omega
theorem ab9 : ∀ (l o : List za), vO o → (∀ p ∈ l, zY p = true ∨ (isT p = true ∧ p.Text = [] ∧ p.zo = [] ∧ p.Kids = [])) → vO (l.foldl joinStep o) ∧ tkL (l.foldl joinStep o) = tkL o ++ tkL l
 | [], o, ho, _ => ⟨ho, by simp [tkL]⟩
 | p :: l, o, ho, h => by
  rw [List.foldl_cons]
  rcases h p (by simp) with hp | ⟨h1, h2, h3, h4⟩
  ·obtain ⟨g1, g2⟩ := ab9 l _ (aby o p ho hp) fun y hy => h y (by simp [hy])
   refine ⟨g1, ?_⟩
   have hi := (Yk o p ho.gd (agt hp)).1
   have : tkL (joinStep o p) = tkL o ++ tkN p := by rw [← vG, hi, K9, vG, apn]
   rw [g2, this, tkL, List.append_assoc]
  ·have e : joinStep o p = o := by unfold joinStep; rw [if_pos (by simp [h1, h2])]
   have e2 : tkN p = [] := by rw [wW, if_pos h1, h2, Wv]; rfl
   rw [e]
   obtain ⟨g1, g2⟩ := ab9 l o ho fun y hy => h y (by simp [hy])
   exact ⟨g1, by rw [g2, tkL, e2, List.nil_append]⟩
theorem aoT (k : Int) {x : Str} (hx : isName x = true) (a b : Nat) (ha : a ≤ 2000000) (hb : b ≤ 2000000) (N : List za) (v : Str) (r : List za → Int → Int → Int → Int → List za → Str → Str → List zk → Option (List za × Int × Int × Int × List za × Str × Str × List zk)) :
  ∀ (l : List za) (j : Int) (i : Nat) (out : List za) (o : List zk), (∀ y ∈ l, zY y = true) →
   (∀ y ∈ l, isT y = false → ∀ (i : Nat) (o : List zk), RgOk i o → i + zF y.Kids ≤ 1000000 → ∃ out, r y.Kids (i : Int) k (a : Int) (b : Int) N x v o = some (out, k, (a : Int), (b : Int), N, x, v, Qy k x a b i (tkL y.Kids) o) ∧ vO out ∧ tkL out = wG k x a b i (tkL y.Kids) ∧ zL out + 21 * zF y.Kids ≤ 24 * zL y.Kids) →
   RgOk i o → i + zF l ≤ 1000000 → zL l ≤ 10000000 → x.length ≤ 20 → (∀ p ∈ out, zY p = true ∨ (isT p = true ∧ p.Text = [] ∧ p.zo = [] ∧ p.Kids = [])) → (out.length + 3 * l.length) ≤ 1000000000 →
   ∃ out', qd r l j (i : Int) out k (a : Int) (b : Int) N x v o = some (out ++ out', k, (a : Int), (b : Int), N, x, v, Qy k x a b i (tkL l) o) ∧ (∀ p ∈ out', zY p = true ∨ (isT p = true ∧ p.Text = [] ∧ p.zo = [] ∧ p.Kids = [])) ∧ tkL out' = wG k x a b i (tkL l) ∧ zL out' + 21 * zF l ≤ 24 * zL l
 | [], j, i, out, o, _, _, _, _, _, _, _, _ => ⟨[], by simp [qd, Qy, tkL], by simp, by simp [tkL, wG], by simp [zL, zF]⟩
 | y :: l, j, i, out, o, hf, hr, ho, hs, hw, hxl, hp, hln => by
  have hy := hf y (by simp)
  have hsz := size_pos hy
  simp only [zF] at hs
  simp only [zL] at hw
  have hyw := ahF y
  rw [qd, size_eq y (by omega)]
  simp only [Option.bind_some]
  rw [WK, qK (x := (i : Int) + (wL y : Int)) (by omega)]
  have e1 : ((i : Int) + (wL y : Int)) = ((i + wL y : Nat) : Int) := by omega
  have hlen := agC y
  rw [e1]
  have go : ∀ (P : List za) (o' : List zk), (∀ p ∈ P, zY p = true ∨ (isT p = true ∧ p.Text = [] ∧ p.zo = [] ∧ p.Kids = [])) → o' = Qy k x a b i (tkN y) o → tkL P = wG k x a b i (tkN y) → zL P + 21 * wL y ≤ 24 * nwt y → P.length ≤ 3 → ∃ out', qd r l (j + 1) ((i + wL y : Nat) : Int) (out ++ P) k (a : Int) (b : Int) N x v o' = some (out ++ out', k, (a : Int), (b : Int), N, x, v, Qy k x a b i (tkL (y :: l)) o) ∧ (∀ p ∈ out', zY p = true ∨ (isT p = true ∧ p.Text = [] ∧ p.zo = [] ∧ p.Kids = [])) ∧ tkL out' = wG k x a b i (tkL (y :: l)) ∧ zL out' + 21 * zF (y :: l) ≤ 24 * zL (y :: l) := by
   intro P o' h1 h2 h3 h4 h5
   subst h2
   obtain ⟨Q, q1, q2, q3, q4⟩ := aoT k hx a b ha hb N v r l (j + 1) (i + wL y) (out ++ P) (Qy k x a b i (tkN y) o) (fun z hz => hf z (by simp [hz])) (fun z hz => hr z (by simp [hz])) (by have := an3 k x a b (tkN y) i o ho; rw [hlen] at this; exact this) (by omega) (by omega) hxl (fun p hp' => by
    rcases List.mem_append.1 hp' with h | h
    ·exact hp p h
    ·exact h1 p h) (by simp only [List.length_append, List.length_cons] at hln ⊢; omega)
   refine ⟨P ++ Q, ?_, fun p hp' => ?_, ?_, ?_⟩
   ·rw [q1, tkL, aho, hlen, List.append_assoc]
   ·rcases List.mem_append.1 hp' with h | h
    ·exact h1 p h
    ·exact q2 p h
   ·rw [acX, h3, q3, tkL, aeG, hlen]
   ·rw [vk]; simp only [zF, zL]; omega
  by_cases ht : isT y = true
  ·rw [if_pos ht]
   obtain ⟨P, g1, g2, g3, g4, g5⟩ := auf hy ht k hx a b i ha hb (by omega) N v o ho (by omega)
   rw [g1]
   simp only [Option.bind_some]
   rw [kF (by simp only [List.length_cons] at hln; omega)]
   simp only [Option.bind_some]
   have hyw6 : 6 + wL y ≤ nwt y := by
    have := qM y
    have hk := JQ ht
    have h2 := akm y.Text
    have h3 : wL y = ah6 y.Text := by rw [jM, if_pos ht]
    rw [hk] at this
    simp only [jH, List.length_cons, List.length_nil] at this
    omega
   have hb2 : zL P + 21 * wL y ≤ 24 * nwt y := by omega
   exact go P _ (fun p hp' => (g2 p hp').2.imp id fun h => ⟨(g2 p hp').1, h⟩) rfl g3 hb2 g5
  ·have ht' : isT y = false := by simpa using ht
   rw [if_neg ht]
   have hsy := ZZ ht'
   obtain ⟨Q, g1, g2, g3, g4⟩ := hr y (by simp) ht' (i + 1) o (ho.mono (by omega)) (by omega)
   have e2 : w64 ((i : Int) + 1) = ((i + 1 : Nat) : Int) := by rw [qK (by omega)]; omega
   rw [e2, g1]
   simp only [Option.bind_some]
   rw [kF (by simp only [List.length_cons, List.length_nil] at hln ⊢; omega)]
   simp only [Option.bind_some]
   have hfy := aaz hy ht' g2
   have hty : isT ({ y with Kids := Q } : za) = false := ht'
   have htk : tkN y = Tk.opn y.Kind y.zo :: (tkL y.Kids ++ [Tk.cls]) := by rw [wW, if_neg (by simp [ht'])]
   refine go [{ y with Kids := Q }] _ (fun p hp' => ?_) ?_ ?_ ?_ (by simp)
   ·rw [List.mem_singleton] at hp'
    subst hp'
    exact .inl hfy
   ·rw [htk, Qy, aho]
    rfl
   ·simp only [tkL, List.append_nil]
    rw [wW, if_neg (by simp [hty]), htk, wG, aeG, aaB, g3]
    rfl
   ·have w1 := qM y
    have w2 := qM ({ y with Kids := Q } : za)
    simp only at w2
    simp only [zL]
    omega
theorem aoE (k : Int) {x : Str} (hx : isName x = true) (hxl : x.length ≤ 20) (a b : Nat) (ha : a ≤ 2000000) (hb : b ≤ 2000000) (N : List za) (v : Str) : ∀ (kr : Nat) (l : List za), vO l → kR l < kr → ∀ (i : Nat) (o : List zk), RgOk i o → i + zF l ≤ 1000000 → zL l ≤ 10000000 → ∃ out, qF kr l (i : Int) k (a : Int) (b : Int) N x v o = some (out, k, (a : Int), (b : Int), N, x, v, Qy k x a b i (tkL l) o) ∧ vO out ∧ tkL out = wG k x a b i (tkL l) ∧ zL out + 21 * zF l ≤ 24 * zL l
 | 0, l, _, h, _, _, _, _, _ => by omega
 | kr + 1, l, hl, hd, i, o, ho, hs, hw => by
  have hlen := kg l
  obtain ⟨P, h1, h2, h3, h4⟩ := aoT k hx a b ha hb N v (qF kr) l 0 i [] o hl.form (fun y hy ht i o ho hs => by
   have hm := yL hy
   have hw2 := QQ hy
   have hk := je y
   rw [yw] at hm
   exact aoE k hx hxl a b ha hb N v kr y.Kids (vg (hl.form y hy) ht) (by omega) i o ho hs (by omega)) ho hs hw hxl (by simp) (by simp; omega)
  rw [qF, qL (by omega), h1]
  simp only [Option.bind_some, List.nil_append]
  rw [adO P (by omega)]
  obtain ⟨g1, g2⟩ := ab9 P [] .nil h2
  have hj := Yl P
  refine ⟨x9 P, rfl, g1, ?_, by omega⟩
  show tkL (P.foldl joinStep []) = _
  rw [g2, h3]
  rfl
theorem aqi {n : za} {T : List Tk} (h : TD n T) (k : Int) {x : Str} (hx : isName x = true) (hxl : x.length ≤ 20) (a b : Nat) (hab : a ≤ 2000000) (hb : b ≤ T.length) (hw : wD n T ≤ 5000000) :
  ∃ N, yI n ⟨k, (a : Int), (b : Int), [], x, []⟩ = some (N, Qy k x a b 0 T [], 0) ∧ TD N (wG k x a b 0 T) ∧ N.Kind = n.Kind ∧ N.zo = n.zo := by
 have hs := h.small
 have hl := h.len
 have hwt := h.wt
 have hwk := je n
 obtain ⟨out, h1, h2, h3, h4⟩ : ∃ out, jr n.Kids 0 k (a : Int) (b : Int) [] x [] [] = some (out, k, (a : Int), (b : Int), [], x, [], Qy k x a b 0 (tkL n.Kids) []) ∧ vO out ∧ tkL out = wG k x a b 0 (tkL n.Kids) ∧ zL out + 21 * zF n.Kids ≤ 24 * zL n.Kids := by
  obtain ⟨out, h1, h2⟩ := aoE k hx hxl a b hab (by omega) [] [] (kR n.Kids + 1) n.Kids h.row (by omega) 0 [] ⟨by simp, by simp⟩ (by omega) (by omega)
  refine ⟨out, ?_, h2⟩
  unfold jr
  refine Ku (kR n.Kids + 1) fun kr hk => ?_
  obtain ⟨out', g1, g2, g3, _⟩ := aoE k hx hxl a b hab (by omega) [] [] kr n.Kids h.row (by omega) 0 [] ⟨by simp, by simp⟩ (by omega) (by omega)
  have e : out' = out := ak6 g2 h2.1 (by rw [g3, h2.2.1])
  subst e
  exact g1
 rw [h.tk] at h1 h3
 refine ⟨{ n with Kids := out }, ?_, TD.of (aaz h.form h.nt h2) h.nt h3 (by rw [XW]; exact h.deep) (by rw [aat]; exact hs), rfl, rfl⟩
 unfold yI
 rw [QO n.Kids (by omega)]
 simp only [Option.bind_some]
 rw [if_neg (by simp; omega), h1]
 rfl
end Go.Proofs.YtclohbgnaopjfaaDoor
namespace Go.Proofs.YtclohbgnaopjfaaDoor
set_option linter.unusedSimpArgs false
set_option linter.unusedVariables false
open Go
abbrev xN (l : List za) : za := ⟨[120], [], [], [], l⟩
theorem awm (l : List za) : nwt (xN l) = zL l + 3 := by
 rw [qM]; simp [wQ, wN]; omega
end Go.Proofs.YtclohbgnaopjfaaDoor
namespace Go.Proofs.YtclohbgnaopjfaaDoor
set_option linter.unusedSimpArgs false
set_option linter.unusedVariables false
open Go
def ad4 (f t : Int) : Bool := decide (0 ≤ f) && (decide (f ≤ t) && decide (t ≤ 1048576))
def srB (s : zz) : Bool :=
 if s.Kind = 114 then ad4 s.From s.To && (zY (xN s.wC) && (s.Name == [] && s.Value == []))
 else if s.Kind = 97 then decide (-1 ≤ s.From) && (decide (s.From ≤ 1048576) && (decide (s.To = 0) && (isName s.Name && (isValue s.Value && s.wC.isEmpty))))
 else if s.Kind = 109 ∨ s.Kind = 117 then ad4 s.From s.To && (isName s.Name && (s.wC.isEmpty && s.Value == []))
 else false
theorem auT (f t : Int) : ((if (decide (f ≥ (0 : Int))) = true then if (decide (f ≤ t)) = true then some (decide (t ≤ (1048576 : Int))) else some false else some false) : Option Bool) = some (ad4 f t) := by
 unfold ad4
 by_cases a : f ≥ 0
 ·by_cases b : f ≤ t
  ·have : (0 : Int) ≤ f := a
   simp [b, this]
  ·have : (0 : Int) ≤ f := a
   simp [b, this]
 ·have : ¬ (0 : Int) ≤ f := a
  simp [this]
theorem aq5 (n : za) : (checkN n != (2 : Int)) = zY n := by
 unfold checkN
 cases zY n with
 | false => rfl
 | true =>
  simp only [Bool.true_eq_false, if_false]
  split
  ·rfl
  ·split <;> rfl
theorem aeL {α : Type} (l : List α) : ((l.length : Int) == (0 : Int)) = l.isEmpty := by
 cases l with
 | nil => rfl
 | cons x l =>
  simp only [List.length_cons, List.isEmpty_cons, beq_eq_false_iff_ne, ne_eq]
  omega
theorem aqw (a b : Str) : ((a ++ b) == ([] : Str)) = (a == [] && b == []) := by
 cases a <;> cases b <;> rfl
theorem JH (s : zz) (hw : zL s.wC ≤ 268435400) (h1 : s.Name.length ≤ 1048576) (h2 : s.Value.length ≤ 1048576) : xU s = some (srB s) := by
 obtain ⟨k, f, t, l, n, v⟩ := s
 simp only at hw h1 h2
 have hxw := awm l
 unfold xU srB
 simp only
 rw [auT]
 simp only [Option.bind_some]
 by_cases hk : k = 114
 ·subst hk
  rw [if_pos (by decide), Y0 (xN l) (by omega), if_pos rfl]
  simp only [Option.bind_some]
  rw [aq5, qL (by omega), aqw]
  cases ad4 f t <;> cases zY (xN l) <;> rfl
 ·rw [if_neg (by simpa using hk), if_neg hk]
  by_cases hk2 : k = 97
  ·subst hk2
   rw [if_pos (by decide), if_pos rfl, adw n (by omega), amg v (by omega), aeL]
   simp only [Option.bind_some]
   have e1 : decide (f ≥ -1) = decide (-1 ≤ f) := rfl
   have e2 : (t == 0) = decide (t = 0) := by by_cases h : t = 0 <;> simp [h]
   rw [e1, e2]
   cases decide (-1 ≤ f) <;> cases decide (f ≤ 1048576) <;> cases decide (t = 0) <;> cases isName n <;> cases isValue v <;> rfl
  ·rw [if_neg (by simpa using hk2), if_neg hk2]
   by_cases hk3 : k = 109
   ·subst hk3
    rw [if_pos (by decide), if_pos (show (109 : Int) = 109 ∨ (109 : Int) = 117 from .inl rfl), adw n (by omega), aeL]
    simp only [Option.bind_some]
    cases ad4 f t <;> cases isName n <;> cases l.isEmpty <;> rfl
   ·rw [if_neg (by simpa using hk3)]
    by_cases hk4 : k = 117
    ·subst hk4
     rw [if_pos (by decide), if_pos (show (117 : Int) = 109 ∨ (117 : Int) = 117 from .inr rfl), adw n (by omega), aeL]
     simp only [Option.bind_some]
     cases ad4 f t <;> cases isName n <;> cases l.isEmpty <;> rfl
    ·rw [if_neg (by simpa using hk4), if_neg (by omega)]
end Go.Proofs.YtclohbgnaopjfaaDoor
namespace Go.Proofs.YtclohbgnaopjfaaDoor
set_option linter.unusedSimpArgs false
set_option linter.unusedVariables false
open Go
theorem ajR : ∀ (path : List Int) (v : Int) (n : za), isT n = false → (∃ q m a, path = up q ∧ At n q m a) ∨ qB path v n = some (.inl (aeO, 9)) ∨ ∃ m, qB path v n = some (.inr m) ∧ isT m = true
 | [], v, n, hn => .inl ⟨[], n, 0, rfl, .nil n⟩
 | y :: suf, v, n, hn => by
  by_cases h1 : y < 0
  ·right; left
   rw [qB]; simp [h1]
  ·by_cases h2 : y ≥ (n.Kids.length : Int)
   ·right; left
    rw [qB]; simp [h2]
   ·obtain ⟨i, rfl⟩ := Int.eq_ofNat_of_zero_le (show 0 ≤ y by omega)
    have hl : i < n.Kids.length := by omega
    obtain ⟨k, hk⟩ : ∃ k, n.Kids[i]? = some k := ⟨_, List.getElem?_eq_getElem hl⟩
    have g1 : decide ((i : Int) < 0) = false := by simp
    have g2 : decide ((i : Int) ≥ (n.Kids.length : Int)) = false := by simp; omega
    have step : qB ((i : Int) :: suf) v n = qB suf (v + 1) k := by
     rw [qB]
     simp only [g1, g2, WK, hn, Bool.false_eq_true, if_false, Ql hk, Option.bind_some]
    rw [step]
    by_cases ht : isT k = true
    ·cases suf with
     | nil => exact .inr (.inr ⟨k, rfl, ht⟩)
     | cons z suf =>
      right; left
      rw [qB]
      simp only [WK, ht, if_true]
      split
      ·rfl
      ·split <;> rfl
    ·rcases ajR suf (v + 1) k (by simpa using ht) with ⟨q, m, a, rfl, h⟩ | h | h
     ·exact .inl ⟨i :: q, m, _, rfl, .cons n i k q m a hk hn (by simpa using ht) h⟩
     ·exact .inr (.inl h)
     ·exact .inr (.inr h)
theorem alN (n : za) (path : List Int) (hn : isT n = false) (hp : path.length ≤ 9223372036854775807) : (∃ q m a, path = up q ∧ At n q m a) ∨ vv n path = some (aeO, 9) := by
 rcases ajR path 0 n hn with h | h | ⟨m, h, hm⟩
 ·exact .inl h
 ·right
  unfold vv
  rw [qL hp, h]
  rfl
 ·right
  unfold vv
  rw [qL hp, h]
  simp only [Option.bind_some, WK, hm, if_true]
end Go.Proofs.YtclohbgnaopjfaaDoor
namespace Go.Proofs.YtclohbgnaopjfaaDoor
set_option linter.unusedSimpArgs false
set_option linter.unusedVariables false
open Go Classical
theorem avW {n : za} {T : List Tk} (h : TD n T) (hw : wD n T ≤ 100000000) {p : Nat} {k : Str} {aa : List zg} (hp : T[p]? = some (.opn k aa)) :
  ∃ q i x, ku n (p : Int) = some (⟨up q, ((i : Nat) : Int), 0⟩, 0) ∧ At n (q ++ [i]) x (p + 1) ∧ isT x = false ∧ x.Kind = k ∧ x.zo = aa := by
 have hl := h.len
 have hwt := h.wt
 have hpl := (List.getElem?_eq_some_iff.1 hp).1
 obtain ⟨s, hs, hok⟩ := ZK h.nt (by omega) p (by omega)
 obtain ⟨q, m, a, idx, off, rfl, hat, hm, hidx, hpos, hk, hend⟩ := hok
 obtain ⟨P1, S1, e1, e2, e3⟩ := at_end hat
 rw [h.tk] at e2
 have fm := vg (hat.form h.form) hm
 have hts := yP (m.Kids.take idx)
 rcases Nat.lt_or_ge idx m.Kids.length with hi | hi
 ·obtain ⟨x, hx⟩ : ∃ x, m.Kids[idx]? = some x := ⟨_, List.getElem?_eq_getElem hi⟩
  obtain ⟨g1, g2⟩ := hk x hx
  have fx := fm.form x (List.mem_of_getElem? hx)
  have hsp := VE hx
  have hg : T[p]? = (tkN x)[off]? := by
   rw [e2, hsp, List.getElem?_append_right (by omega), List.append_assoc, List.getElem?_append_right (by omega), List.append_assoc, List.getElem?_append_left (by rw [agC]; omega)]
   congr 1
   omega
  rw [hp] at hg
  cases ht : isT x with
  | true =>
   exfalso
   rw [wW, if_pos ht, List.getElem?_map] at hg
   cases hr : (runes x.Text)[off]? with
   | none => rw [hr] at hg; cases hg
   | some c => rw [hr] at hg; cases hg
  | false =>
   have h0 : off = 0 := by
    by_cases h0 : 0 < off
    ·rw [g2 h0] at ht; cases ht
    ·omega
   subst h0
   rw [wW, if_neg (by simp [ht])] at hg
   simp only [List.getElem?_cons_zero, Option.some.injEq, Tk.opn.injEq] at hg
   refine ⟨q, idx, x, hs, ?_, ht, hg.1.symm, hg.2.symm⟩
   have := hat.snoc hx hm ht
   rwa [show a + zF (m.Kids.take idx) + 1 = p + 1 from by omega] at this
 ·exfalso
  have h0 := hend (by omega)
  have ha : m.Kids.take idx = m.Kids := List.take_of_length_le hi
  rw [ha] at hpos hts
  have hg : T[p]? = S1[0]? := by
   rw [e2, List.getElem?_append_right (by omega), List.getElem?_append_right (by omega)]
   congr 1
   omega
  rw [hp] at hg
  cases S1 with
  | nil => cases hg
  | cons t S1 =>
   simp only [List.getElem?_cons_zero, Option.some.injEq] at hg
   subst hg
   exact e3
theorem ajs (l : List Int) (h : l.length ≤ 10000000) : slices_Clone_int l = some l := by
 unfold slices_Clone_int
 rw [kF (by simp; omega)]
 rfl
theorem arf (l : List zg) (h : l.length ≤ 1000000000) : vD l = some l := by
 unfold vD
 rw [kF (by simp; omega)]
 rfl
theorem XF {n : za} {T : List Tk} (h : TD n T) (hw : wD n T ≤ 100000000) {p : Nat} {k : Str} {aa : List zg} (hp : T[p]? = some (.opn k aa)) :
  ∃ q x, xL n (p : Int) = some (up q, true) ∧ At n q x (p + 1) ∧ isT x = false ∧ x.Kind = k ∧ x.zo = aa := by
 obtain ⟨q, i, x, h1, h2, h3, h4, h5⟩ := avW h hw hp
 refine ⟨q ++ [i], x, ?_, h2, h3, h4, h5⟩
 have hq := h2.len
 rw [List.length_append, List.length_singleton] at hq
 have hsm := h.small
 have hpl := (List.getElem?_eq_some_iff.1 hp).1
 have hne : ((p : Int) == -1) = false := by simp
 have e : up q ++ [(i : Int)] = up (q ++ [i]) := by rw [an5]; rfl
 unfold xL
 rw [hne, h1]
 simp only [Bool.false_eq_true, if_false, Option.bind_some, bne_self_eq_false, gt_iff_lt, Int.lt_irrefl, decide_false]
 rw [ajs _ (by rw [Jv]; omega)]
 simp only [Option.bind_some]
 rw [kF (by rw [Jv]; simp; omega)]
 simp only [Option.bind_some]
 rw [e, Kn h2 h3 (by simp; omega)]
 rfl
theorem aoc {n : za} {T : List Tk} (h : TD n T) (hw : wD n T ≤ 100000000) {p : Int} (hp : 0 ≤ p) (hno : ∀ k aa, T[p.toNat]? ≠ some (.opn k aa)) : ∃ q, xL n p = some (q, false) := by
 obtain ⟨p, rfl⟩ := Int.eq_ofNat_of_zero_le hp
 rw [Int.toNat_natCast] at hno
 have hl := h.len
 have hwt := h.wt
 have hsm := h.small
 have hne : ((p : Int) == -1) = false := by simp
 unfold xL
 rw [hne]
 simp only [Bool.false_eq_true, if_false]
 by_cases hpl : p ≤ zF n.Kids
 ·obtain ⟨s, hs, hok⟩ := ZK h.nt (by omega) p hpl
  rw [hs]
  simp only [Option.bind_some, bne_self_eq_false, Bool.false_eq_true, if_false]
  by_cases ho : s.Offset > 0
  ·rw [if_pos (by simpa using ho)]
   exact ⟨_, rfl⟩
  ·rw [if_neg (by simpa using ho)]
   obtain ⟨q, m, a, idx, off, rfl, hat, hm, hidx, hpos, hk, hend⟩ := hok
   simp only at ho ⊢
   have h0 : off = 0 := by omega
   have hq := hat.len
   rw [ajs _ (by rw [Jv]; omega)]
   simp only [Option.bind_some]
   rw [kF (by rw [Jv]; simp; omega)]
   simp only [Option.bind_some]
   rcases alN n (up q ++ [(idx : Int)]) h.nt (by simp [Jv]; omega) with ⟨q', x, b, he, hx⟩ | he
   ·exfalso
    have e : up q ++ [(idx : Int)] = up (q ++ [idx]) := by rw [an5]; rfl
    rw [e] at he
    rw [← arz he] at hx
    obtain ⟨m', b', k1, k2, k3, k4, k5⟩ := hx.avs
    obtain ⟨rfl, rfl⟩ := k1.fn hat
    obtain ⟨P1, S1, e1, e2, e3⟩ := at_end hat
    rw [h.tk] at e2
    have hts := yP (m'.Kids.take idx)
    have hg : T[p]? = (tkN x)[0]? := by
     have hn : tkN x ≠ [] := by rw [wW, if_neg (by simp [k4])]; simp
     have hpos' : 0 < (tkN x).length := List.length_pos_iff.2 hn
     rw [e2, VE k2, List.getElem?_append_right (by omega), List.append_assoc, List.getElem?_append_right (by omega), List.append_assoc, List.getElem?_append_left (by omega)]
     congr 1
     omega
    rw [wW, if_neg (by simp [k4])] at hg
    exact hno _ _ hg
   ·rw [he]
    exact ⟨_, rfl⟩
 ·rw [ano h.nt (by omega) p (by omega)]
  exact ⟨_, rfl⟩
theorem aoa (s : zz) : ∀ (l : List zg) (j : Int), (∃ i a, l[i]? = some a ∧ a.Name = s.Name ∧ zU s l j = some (.inl (j + (i : Nat), s))) ∨ ((∀ a ∈ l, a.Name ≠ s.Name) ∧ zU s l j = some (.inr ()))
 | [], j => .inr ⟨by simp, rfl⟩
 | a :: l, j => by
  rw [zU]
  have e : KY a s = some (a.Name == s.Name) := rfl
  rw [e]
  simp only [Option.bind_some]
  by_cases h : a.Name = s.Name
  ·left
   refine ⟨0, a, rfl, h, ?_⟩
   rw [if_pos (by simp [h])]
   simp
  ·rw [if_neg (by simpa using h)]
   rcases aoa s l (j + 1) with ⟨i, b, h1, h2, h3⟩ | ⟨h1, h2⟩
   ·left
    refine ⟨i + 1, b, h1, h2, ?_⟩
    rw [h3]
    simp only [Option.some.injEq, Sum.inl.injEq, Prod.mk.injEq, and_true]
    omega
   ·right
    refine ⟨fun b hb => ?_, h2⟩
    rcases List.mem_cons.1 hb with rfl | hb
    ·exact h
    ·exact h1 b hb
theorem aqX {aa : List zg} (h : vT (aa.map (·.Name)) = true) {i j : Nat} {a b : zg} (hi : aa[i]? = some a) (hj : aa[j]? = some b) (e : a.Name = b.Name) : i = j := by
 have hp := ((WT _).1 h).2
 have hi' : (aa.map (·.Name))[i]? = some a.Name := by rw [List.getElem?_map, hi]; rfl
 have hj' : (aa.map (·.Name))[j]? = some b.Name := by rw [List.getElem?_map, hj]; rfl
 obtain ⟨l1, e1⟩ := List.getElem?_eq_some_iff.1 hi'
 obtain ⟨l2, e2⟩ := List.getElem?_eq_some_iff.1 hj'
 rw [List.pairwise_iff_getElem] at hp
 rcases Nat.lt_trichotomy i j with h1 | h1 | h1
 ·have := hp i j l1 l2 h1
  rw [e1, e2, e, BL, yg] at this
  cases this
 ·exact h1
 ·have := hp j i l2 l1 h1
  rw [e1, e2, e, BL, yg] at this
  cases this
def Wq (aa : List zg) (i : Nat) (v : Str) : List zg :=
 match aa[i]? with
 | some a => aa.set i { a with Value := v }
 | none => aa
theorem ap0 {aa : List zg} {i : Nat} {a : zg} (h : aa[i]? = some a) (v : Str) : Wq aa i v = aa.set i { a with Value := v } := by
 unfold Wq
 rw [h]
theorem Xj (aa : List zg) (i j : Nat) (v : Str) : (Wq aa i v)[j]? = if j = i then (aa[i]?).map (fun a => { a with Value := v }) else aa[j]? := by
 unfold Wq
 cases h : aa[i]? with
 | none =>
  by_cases e : j = i
  ·subst e; simp [h]
  ·simp [e]
 | some a =>
  have hl := (List.getElem?_eq_some_iff.1 h).1
  simp only
  rw [List.getElem?_set]
  by_cases e : j = i
  ·subst e; simp [hl]
  ·rw [if_neg (fun h => e h.symm), if_neg e]
theorem an1 (aa : List zg) (i : Nat) (v : Str) : (Wq aa i v).map (·.Name) = aa.map (·.Name) := by
 refine List.ext_getElem? fun j => ?_
 rw [List.getElem?_map, List.getElem?_map, Xj]
 by_cases e : j = i
 ·subst e
  rw [if_pos rfl]
  cases aa[j]? <;> rfl
 ·rw [if_neg e]
theorem aqP {aa : List zg} (h : aa.all (fun x => isValue x.Value) = true) (i : Nat) {v : Str} (hv : isValue v = true) : (Wq aa i v).all (fun x => isValue x.Value) = true := by
 rw [List.all_eq_true] at h ⊢
 intro x hx
 obtain ⟨j, hj⟩ := List.mem_iff_getElem?.1 hx
 rw [Xj] at hj
 by_cases e : j = i
 ·rw [if_pos e] at hj
  cases ha : aa[i]? with
  | none => rw [ha] at hj; cases hj
  | some a => rw [ha] at hj; cases hj; exact hv
 ·rw [if_neg e] at hj
  exact h x (List.mem_of_getElem? hj)
theorem afU : ∀ (aa : List zg) (i : Nat) (a : zg) (v : Str), aa[i]? = some a → wN (aa.set i { a with Value := v }) + a.Value.length = wN aa + v.length
 | [], i, a, v, h => by simp at h
 | b :: aa, 0, a, v, h => by
  simp only [List.getElem?_cons_zero, Option.some.injEq] at h
  subst h
  simp only [List.set_cons_zero, wN]; omega
 | b :: aa, i + 1, a, v, h => by
  have := afU aa i a v (by simpa using h)
  simp only [List.set_cons_succ, wN]; omega
theorem aeY {v : Str} (h : isValue v = true) : v.length ≤ 40 := by
 unfold isValue at h
 simp only [Bool.and_eq_true, decide_eq_true_eq] at h
 exact h.1
theorem aeQ {n : za} (h : zY n = true) (ht : isT n = false) : n.zo.all (fun x => isValue x.Value) = true ∧ isName n.Kind = true ∧ n.Text = [] ∧ n.Marks = [] ∧ vT (n.zo.map (·.Name)) = true ∧ xW none n.Kids = true := by
 rw [jq, if_neg (by simp [ht])] at h
 simp only [Bool.and_eq_true, decide_eq_true_eq] at h
 exact ⟨h.1.1.1.1.1, h.1.1.1.1.2, h.1.1.1.2, h.1.1.2, h.1.2, h.2⟩
theorem ajd {n : za} (ht : isT n = false) (h : n.zo.all (fun x => isValue x.Value) = true ∧ isName n.Kind = true ∧ n.Text = [] ∧ n.Marks = [] ∧ vT (n.zo.map (·.Name)) = true ∧ xW none n.Kids = true) : zY n = true := by
 rw [jq, if_neg (by simp [ht])]
 obtain ⟨h1, h2, h3, h4, h5, h6⟩ := h
 simp [h1, h2, h3, h4, h5, h6]
theorem atl {n : za} {q m a} (h : At n q m a) : q ≠ [] → ∃ P S, P.length + 1 = a ∧ tkL n.Kids = P ++ (Tk.opn m.Kind m.zo :: S) ∧ ∀ x : za, isT x = false → x.Kind = m.Kind → x.Kids = m.Kids → tkL (Qi q n x).Kids = P ++ (Tk.opn x.Kind x.zo :: S) ∧ (Qi q n x).Kind = n.Kind ∧ (Qi q n x).zo = n.zo := by
 induction h with
 | nil n => intro h; exact absurd rfl h
 | cons n i k q m a hi hn hk h ih =>
  intro _
  have hl := (List.getElem?_eq_some_iff.1 hi).1
  by_cases hq : q = []
  ·subst hq
   cases h with
   | nil =>
    refine ⟨tkL (n.Kids.take i), tkL k.Kids ++ (Tk.cls :: tkL (n.Kids.drop (i + 1))), by rw [yP], ?_, fun x hx h1 h2 => ⟨?_, ?_⟩⟩
    ·rw [VE hi, wW, if_neg (by simp [hk])]
     simp only [List.append_assoc, List.cons_append, List.nil_append]
    ·rw [jX hi]
     simp only [Qi]
     rw [List.set_eq_take_append_cons_drop, if_pos hl, acX, tkL, wW, if_neg (by simp [hx]), h2]
     simp only [List.append_assoc, List.cons_append, List.nil_append]
    ·rw [jX hi]; exact ⟨rfl, rfl⟩
  ·obtain ⟨P, S, h1, h2, h3⟩ := ih hq
   refine ⟨tkL (n.Kids.take i) ++ (Tk.opn k.Kind k.zo :: P), S ++ (Tk.cls :: tkL (n.Kids.drop (i + 1))), ?_, ?_, fun x hx e1 e2 => ⟨?_, ?_⟩⟩
   ·simp only [List.length_append, List.length_cons, yP]; omega
   ·rw [VE hi, wW, if_neg (by simp [hk]), h2]
    simp only [List.append_assoc, List.cons_append, List.nil_append]
   ·obtain ⟨g1, g2, g3⟩ := h3 x hx e1 e2
    have hnt := JO q k x hk hx
    rw [jX hi]
    simp only
    rw [List.set_eq_take_append_cons_drop, if_pos hl, acX, tkL, wW, if_neg (by simp [hnt]), g1, g2, g3]
    simp only [List.append_assoc, List.cons_append, List.nil_append]
   ·rw [jX hi]; exact ⟨rfl, rfl⟩
theorem set_mid {α : Type} (P : List α) (x y : α) (S : List α) : (P ++ x :: S).set P.length y = P ++ y :: S := by
 rw [List.set_append_right _ _ (Nat.le_refl _)]
 simp
theorem agm (k : Str) (a b : List zg) : ∀ (P S : List Tk) (d : Nat), dpT d (P ++ Tk.opn k a :: S) = dpT d (P ++ Tk.opn k b :: S)
 | [], S, d => by simp [dpT]
 | .sgn c m :: P, S, d => by rw [List.cons_append, List.cons_append, dpT, dpT, agm k a b P S]
 | .opn c m :: P, S, d => by rw [List.cons_append, List.cons_append, dpT, dpT, agm k a b P S]
 | .cls :: P, S, d => by rw [List.cons_append, List.cons_append, dpT, dpT, agm k a b P S]
theorem avz (k : Str) (a b : List zg) (P S : List Tk) : tw (P ++ Tk.opn k b :: S) + wN a = tw (P ++ Tk.opn k a :: S) + wN b := by
 rw [Xt, Xt, tw, tw, aiS, aiS]; omega
theorem at7 {n : za} {T : List Tk} (h : TD n T) (hw : wD n T ≤ 100000000) {p : Nat} {k : Str} {aa : List zg} (hp : T[p]? = some (.opn k aa)) {i : Nat} {a : zg} (hi : aa[i]? = some a) {v : Str} (hv : isValue v = true) (t : Int) (l : List za) (K : Int) :
  ∃ N, jG n ⟨K, (p : Int), t, l, a.Name, v⟩ = some (N, a.Value, 0) ∧ TD N (T.set p (.opn k (Wq aa i v))) ∧ N.Kind = n.Kind ∧ N.zo = n.zo ∧ wD N (T.set p (.opn k (Wq aa i v))) + a.Value.length = wD n T + v.length := by
 obtain ⟨q, x, h1, h2, h3, rfl, rfl⟩ := XF h hw hp
 have hwt := h.wt
 have hx := h2.form h.form
 have hvl := aeY hv
 have hql : q.length ≤ p + 1 := h2.len
 have hsm := h.small
 have hpl := (List.getElem?_eq_some_iff.1 hp).1
 obtain ⟨f1, f2, f3, f4, f5, f6⟩ := aeQ hx h3
 have hal : x.zo.length ≤ 10000000000 := by have := h2.wt; have := qM x; have := adR x.zo; omega
 have hil := (List.getElem?_eq_some_iff.1 hi).1
 have hq0 : q ≠ [] := by
  rintro rfl
  cases h2
 have hxw : nwt x ≤ 2 + wD n T := by have := h2.wt; omega
 have haw : wN x.zo ≤ 2 + wD n T := by have := qM x; omega
 have hset := ap0 hi v
 obtain ⟨P, S, e1, e2, e3⟩ := atl h2 hq0
 have hx' : isT ({ x with zo := Wq x.zo i v } : za) = false := h3
 have fx' : zY ({ x with zo := Wq x.zo i v } : za) = true := ajd hx' ⟨aqP f1 i hv, f2, f3, f4, by rw [an1]; exact f5, f6⟩
 obtain ⟨g1, g2, g3⟩ := e3 _ hx' rfl rfl
 rw [h.tk] at e2
 have hPl : P.length = p := by omega
 have hTs : T.set p (.opn x.Kind (Wq x.zo i v)) = P ++ Tk.opn x.Kind (Wq x.zo i v) :: S := by rw [e2, ← hPl, set_mid]
 refine ⟨Qi q n { x with zo := Wq x.zo i v }, ?_, ?_, g2, g3, ?_⟩
 ·have hidx : qx x.zo ⟨K, (p : Int), t, l, a.Name, v⟩ = some ((i : Int), ⟨K, (p : Int), t, l, a.Name, v⟩) := by
   unfold qx
   rw [qL (by omega)]
   rcases aoa ⟨K, (p : Int), t, l, a.Name, v⟩ x.zo 0 with ⟨j, b, k1, k2, k3⟩ | ⟨k1, _⟩
   ·rw [k3]
    have : j = i := aqX f5 k1 hi k2
    subst this
    simp
   ·exact absurd rfl (k1 a (List.mem_of_getElem? hi))
  unfold jG
  simp only
  rw [h1]
  simp only [Option.bind_some, Bool.not_true, Bool.false_eq_true, if_false]
  rw [Kn h2 h3 (by omega)]
  simp only [Option.bind_some]
  rw [hidx]
  simp only [Option.bind_some]
  rw [if_neg (by simp), Ql hi, arf _ (by have := adR x.zo; omega)]
  simp only [Option.bind_some]
  rw [Ql hi]
  simp only [Option.bind_some]
  rw [anP hil, ← hset]
  simp only [Option.bind_some]
  rw [api h2 h.nt (by omega)]
  rfl
 ·rw [hTs]
  refine TD.of (amh hx' fx' h2 h.form) (JO q n _ h.nt hx') g1 ?_ ?_
  ·rw [agm x.Kind _ x.zo, ← e2]
   exact h.deep
  ·rw [e2] at hsm
   simpa using hsm
 ·have := avz x.Kind x.zo (Wq x.zo i v) P S
  have h5 := afU _ _ _ v hi
  rw [← hset] at h5
  rw [hTs]
  unfold wD
  rw [g2, g3]
  rw [← e2] at this
  omega
theorem avP {n : za} {T : List Tk} (h : TD n T) (hw : wD n T ≤ 100000000) (s : zz) (hs : 0 ≤ s.From) (hno : ∀ k aa, T[s.From.toNat]? = some (.opn k aa) → ∀ a ∈ aa, a.Name ≠ s.Name) : ∃ e, e ≠ 0 ∧ jG n s = some (aeO, [], e) := by
 by_cases ho : ∃ k aa, T[s.From.toNat]? = some (.opn k aa)
 ·obtain ⟨k, aa, ho⟩ := ho
  have e : s.From = ((s.From.toNat : Nat) : Int) := by omega
  obtain ⟨q, x, h1, h2, h3, rfl, rfl⟩ := XF h hw ho
  have hno := hno _ _ ho
  have hwt := h.wt
  have hql : q.length ≤ s.From.toNat + 1 := h2.len
  have hsm := h.small
  have hpl := (List.getElem?_eq_some_iff.1 ho).1
  have hal : x.zo.length ≤ 10000000000 := by have := h2.wt; have := qM x; have := adR x.zo; omega
  refine ⟨9, by decide, ?_⟩
  unfold jG
  rw [e, h1]
  simp only [Option.bind_some, Bool.not_true, Bool.false_eq_true, if_false]
  rw [Kn h2 h3 (by omega)]
  simp only [Option.bind_some]
  unfold qx
  rw [qL (by omega)]
  rcases aoa s x.zo 0 with ⟨j, b, k1, k2, k3⟩ | ⟨_, k1⟩
  ·exact absurd k2 (hno b (List.mem_of_getElem? k1))
  ·rw [k1]
   rfl
 ·obtain ⟨q, hq⟩ := aoc h hw hs fun k aa hh => ho ⟨k, aa, hh⟩
  refine ⟨3, by decide, ?_⟩
  unfold jG
  rw [hq]
  rfl
theorem arZ {n : za} {T : List Tk} (h : TD n T) (s : zz) (hs : s.From = -1) (ha : n.zo = []) : jG n s = some (aeO, [], 9) := by
 unfold jG xL
 rw [hs]
 simp only [beq_self_eq_true, if_true, Option.bind_some, Bool.not_true, Bool.false_eq_true, if_false]
 have := Kn (At.nil n) h.nt (by simp)
 rw [arD] at this
 rw [this]
 simp only [Option.bind_some]
 rw [ha]
 unfold qx
 rw [qL (by simp)]
 rfl
theorem auj {n : za} (h : isT n = false) : (n.Kind == ([116, 101, 120, 116] : Str)) = false := h
theorem Ws {n : za} {T : List Tk} (h : TD n T) (hw : wD n T ≤ 100000000) (s : zz) (hs : xU s = some true) : qa n s = if (s.Kind == (114 : Int)) = true then (yQ n s.From s.To s.wC).bind fun (r_5, r_6) => some (r_5, r_6) else if (s.Kind == (97 : Int)) = true then (jG n s).bind fun (r_7, r_8, r_9) => some (r_7, r_9) else (yI n s).bind fun (QU, Js, QX) => some (QU, QX) := by
 have hwt := h.wt
 unfold qa
 rw [hs]
 simp only [Option.bind_some, Bool.not_true, Bool.false_eq_true, if_false]
 rw [auj h.nt]
 simp only [Bool.false_eq_true, if_false]
 rw [right_eq n (by omega), h.ok]
 simp only [Option.bind_some, beq_self_eq_true, Bool.not_true, Bool.false_eq_true, if_false]
theorem ake {l : List za} (hl : vO l) (hw : zL l ≤ 268435400) {f t : Nat} (hft : f ≤ t) (ht : t ≤ 1048576) : xU ⟨114, (f : Int), (t : Int), l, [], []⟩ = some true := by
 rw [JH _ hw (by simp) (by simp)]
 have hf : zY (xN l) = true := by
  have hT : isT (xN l) = false := rfl
  exact ajd hT ⟨rfl, show isName [120] = true by decide +kernel, rfl, rfl, rfl, aoz hl⟩
 unfold srB ad4
 simp only [if_true]
 rw [hf]
 simp
 omega
theorem aci {nm v : Str} (hn : isName nm = true) (hv : isValue v = true) {p : Int} (h1 : -1 ≤ p) (h2 : p ≤ 1048576) (hl : nm.length ≤ 1048576) : xU ⟨97, p, 0, [], nm, v⟩ = some true := by
 have := aeY hv
 rw [JH _ (by simp [zL]) hl (by simp only; omega)]
 unfold srB
 simp only
 rw [if_neg (by decide)]
 simp [hn, hv]
 omega
theorem anC {k : Int} (hk : k = 109 ∨ k = 117) {x : Str} (hx : isName x = true) (hl : x.length ≤ 20) {f t : Nat} (hft : f ≤ t) (ht : t ≤ 1048576) : xU ⟨k, (f : Int), (t : Int), [], x, []⟩ = some true := by
 rw [JH _ (by simp [zL]) (by simp only; omega) (by simp)]
 unfold srB ad4
 simp only
 rw [if_neg (by omega), if_neg (by omega), if_pos hk, hx]
 simp
 omega
theorem abV {n : za} {T : List Tk} (h : TD n T) (hw : wD n T ≤ 5000000) {k : Int} (hk : k = 109 ∨ k = 117) {x : Str} (hx : isName x = true) (hxl : x.length ≤ 20) {a b : Nat} (hab : a ≤ b) (hb : b ≤ T.length) :
  ∃ N, qa n ⟨k, (a : Int), (b : Int), [], x, []⟩ = some (N, 0) ∧ yI n ⟨k, (a : Int), (b : Int), [], x, []⟩ = some (N, Qy k x a b 0 T [], 0) ∧ TD N (wG k x a b 0 T) ∧ N.Kind = n.Kind ∧ N.zo = n.zo := by
 have hsm := h.small
 obtain ⟨N, h1, h2, h3, h4⟩ := aqi h k hx hxl a b (by omega) hb hw
 refine ⟨N, ?_, h1, h2, h3, h4⟩
 rw [Ws h (by omega) _ (anC hk hx hxl hab (by omega))]
 simp only
 rw [if_neg (by simp; omega), if_neg (by simp; omega), h1]
 rfl
theorem aox {n : za} {T : List Tk} (h : TD n T) (hw : wD n T ≤ 100000000) {p : Nat} {k : Str} {aa : List zg} (hp : T[p]? = some (.opn k aa)) {i : Nat} {a : zg} (hi : aa[i]? = some a) {v : Str} (hv : isValue v = true) :
  ∃ N, qa n ⟨97, (p : Int), 0, [], a.Name, v⟩ = some (N, 0) ∧ jG n ⟨97, (p : Int), 0, [], a.Name, v⟩ = some (N, a.Value, 0) ∧ TD N (T.set p (.opn k (Wq aa i v))) ∧ N.Kind = n.Kind ∧ N.zo = n.zo ∧ wD N (T.set p (.opn k (Wq aa i v))) + a.Value.length = wD n T + v.length := by
 obtain ⟨N, h1, h2, h3, h4, h5⟩ := at7 h hw hp hi hv 0 [] 97
 refine ⟨N, ?_, h1, h2, h3, h4, h5⟩
 have hsm := h.small
 have hpl := (List.getElem?_eq_some_iff.1 hp).1
 obtain ⟨q, x, _, hx, ht, hk', rfl⟩ := XF h hw hp
 obtain ⟨f1, f2, f3, f4, f5, f6⟩ := aeQ (hx.form h.form) ht
 have hnm : isName a.Name = true := ((WT _).1 f5).1 a.Name (by
  have := List.mem_of_getElem? hi
  exact List.mem_map.2 ⟨a, this, rfl⟩)
 have hxw : nwt x ≤ 2 + wD n T := by have := hx.wt; have := h.wt; omega
 have hal : a.Name.length ≤ 20 := Ym hnm
 rw [Ws h hw _ (aci hnm hv (by omega) (by omega) (by omega))]
 simp only
 rw [if_neg (by decide), if_pos (by decide), h1]
 rfl
end Go.Proofs.YtclohbgnaopjfaaDoor
namespace Go.Proofs.YtclohbgnaopjfaaDoor
set_option linter.unusedSimpArgs false
set_option linter.unusedVariables false
open Go
mutual
def VF : za → Str
 | ⟨k, t, _, _, ks⟩ => if (k == jH) = true then t else QV ks
def QV : List za → Str
 | [] => []
 | n :: l => VF n ++ QV l
end
theorem J8 (n : za) : VF n = if isT n = true then n.Text else QV n.Kids := by cases n; simp only [VF, isT]; rfl
theorem ahC : ∀ (l : List za), (∀ n ∈ l, (VF n).length ≤ nwt n) → (QV l).length ≤ zL l
 | [], _ => by simp [QV, zL]
 | n :: l, h => by
  have h1 := h n (by simp)
  have h2 := ahC l fun x hx => h x (by simp [hx])
  simp only [QV, zL, List.length_append]; omega
theorem aje (n : za) : (VF n).length ≤ nwt n := by
 induction n using za.ind with
 | h n ih =>
  have h1 := ahC n.Kids ih
  have h2 := qM n
  rw [J8]
  split <;> omega
theorem amM (f : za → Str → Option Str) : ∀ (l : List za) (i : Int) (acc : Str), (∀ k ∈ l, ∀ a : Str, a.length + nwt k ≤ 1099511627776 → f k a = some (a ++ VF k)) → acc.length + zL l ≤ 1099511627776 →
  kI f l i acc = some (acc ++ QV l)
 | [], i, acc, _, _ => by simp [kI, QV]
 | n :: l, i, acc, h, hb => by
  simp only [zL] at hb
  have hle := aje n
  rw [kI, h n (by simp) acc (by omega)]
  simp only [Option.bind_some]
  rw [amM f l _ _ (fun k hk => h k (by simp [hk])) (by simp; omega)]
  simp [QV]
theorem atY (n : za) : ∀ kr, ZI n ≤ kr → ∀ acc : Str, acc.length + nwt n ≤ 1099511627776 → kD kr n acc = some (acc ++ VF n) := by
 induction n using za.ind with
 | h n ih =>
  intro kr hk acc hw
  have hd := yw n
  obtain ⟨kr, rfl⟩ : ∃ j, kr = j + 1 := ⟨kr - 1, by omega⟩
  have hwt := qM n
  have hl := kg n.Kids
  rw [kD, WA]
  simp only [Option.bind_some]
  by_cases ht : isT n = true
  ·simp only [ht, if_true]
   have h1 : wI n.Text acc = some ((n.Text.length : Int), acc ++ n.Text) := by
    unfold wI kV
    simp only [Option.bind_some]
    rw [kF (by omega)]
    rfl
   rw [h1, J8, if_pos ht]
   rfl
  ·simp only [ht, Bool.false_eq_true, if_false]
   rw [qL (by omega), amM (kD kr) n.Kids 0 acc (fun k hkk a ha => ih k hkk kr (by have := yL hkk; omega) a ha) (by omega), J8, if_neg ht]
   rfl
theorem arN (n : za) (h : nwt n ≤ 1099511627776) : ZL n = some (VF n) := by
 have h1 : yD n [] = some ([] ++ VF n) := by
  unfold yD
  exact Ku (ZI n) fun kr hk => atY n kr hk [] (by simpa using h)
 have h2 := aje n
 unfold ZL vJ
 rw [h1]
 simp only [Option.bind_some, List.nil_append]
 rw [qL (by omega)]
 rfl
end Go.Proofs.YtclohbgnaopjfaaDoor
