/- Texts of the proof of diffChainCard -/
import Derived.Test.YtclohbgnaopjfaaDoorAgF
import Derived.Lib.RuneCount
import Derived.Lib.SlTrimSet
import Derived.Lib.ValidU
import Derived.Lib.MapLaws
import Derived.Lib.ValidLaws
import Derived.Test.YtclohbgnaopjfaaDoorAgWith
namespace Go.Proofs.YtclohbgnaopjfaaDoor
set_option linter.unusedSimpArgs false
set_option linter.unusedVariables false
open Go
theorem zW {x : Int} (h : -9223372036854775808 ≤ x ∧ x ≤ 9223372036854775807) : w64 x = x := awX h
theorem qB {α : Type} {p : Prop} [Decidable p] (h : p) (x : Option α) : chk p x = x := if_pos h
theorem xM {α : Type} {l : List α} {i : Nat} {x : α} (h : l[i]? = some x) : rd l (i : Int) = some x := by
 unfold rd; rw [if_pos (by omega)]; simpa using h
theorem Qf {α : Type} (pre suf : List α) (x : α) : rd (pre ++ x :: suf) (pre.length : Int) = some x := xM (by simp)
theorem J6 {α : Type} {l : List α} {a b : Nat} (h1 : a ≤ b) (h2 : b ≤ l.length) : sl l (a : Int) (b : Int) = some ((l.take b).drop a) := by
 unfold sl; rw [if_pos (by omega)]; simp
theorem avj {α : Type} (pre suf : List α) : sl (pre ++ suf) 0 (pre.length : Int) = some pre := by
 have := J6 (l := pre ++ suf) (a := 0) (b := pre.length) (by omega) (by simp)
 simpa using this
theorem wJ {α : Type} {z : Nat} {l ys : List α} (h : (l.length + ys.length) * z ≤ 140737488355328) : app z l ys = some (l ++ ys) := if_pos h
theorem kH {α : Type} (l : List α) : l = [] ∨ ∃ a x, l = a ++ [x] := by
 rcases List.eq_nil_or_concat l with h | ⟨a, x, h⟩
 ·exact .inl h
 ·exact .inr ⟨a, x, by simpa using h⟩
abbrev jm : Str := [116, 101, 120, 116]
def wQ : List Str → Nat
 | [] => 0
 | s :: l => 1 + s.length + wQ l
theorem akl {s : Str} : ∀ {l : List Str}, s ∈ l → s.length ≤ wQ l
 | x :: l, h => by
  simp only [wQ]
  rcases List.mem_cons.1 h with rfl | h
  ·omega
  ·have := akl h; omega
theorem aa9 (l : List Str) : l.length ≤ wQ l := by
 induction l with
 | nil => simp
 | cons s l ih => simp only [List.length_cons, wQ]; omega
end Go.Proofs.YtclohbgnaopjfaaDoor
namespace Go.Proofs.YtclohbgnaopjfaaDoor
set_option linter.unusedSimpArgs false
set_option linter.unusedVariables false
open Go
def isT (n : za) : Bool := n.Kind == jm
theorem Qa (n : za) : (n.Kind == ([116, 101, 120, 116] : Str)) = isT n := rfl
theorem za.ind {p : za → Prop} (h : ∀ n : za, (∀ k ∈ n.Kids, p k) → p n) : ∀ n, p n
 | ⟨a, b, c, d, ks⟩ => h _ fun k hk => za.ind h k
 termination_by n => n
 decreasing_by
  have : SizeOf.sizeOf k < SizeOf.sizeOf ks := List.sizeOf_lt_of_mem hk
  simp only [za.mk.sizeOf_spec]
  omega
def aiH (s : Str) : Nat := Lib.runeCountL s
theorem ami (s : Str) : aiH s ≤ s.length := by
 have := Lib.runeCountFrom_le ⟨s.toArray⟩ (ByteArray.size ⟨s.toArray⟩) 0
 simpa [aiH, Lib.runeCountL, Lib.runeCount, ByteArray.size] using this
theorem alm (s : Str) : ∀ (f k : Nat) (n : Int) (pos : Nat), s.length - pos ≤ f → f < k → 0 ≤ n → n + f ≤ 9223372036854775807 → zO s k n pos = some (n + Lib.runeCountFrom ⟨s.toArray⟩ f pos) := by
 intro f
 induction f with
 | zero =>
  intro k n pos h1 h2 h3 h4
  obtain ⟨k, rfl⟩ : ∃ j, k = j + 1 := ⟨k - 1, by omega⟩
  have : ¬ pos < s.length := by omega
  simp [zO, this, Lib.runeCountFrom]
 | succ f ih =>
  intro k n pos h1 h2 h3 h4
  obtain ⟨k, rfl⟩ : ∃ j, k = j + 1 := ⟨k - 1, by omega⟩
  rw [zO]
  by_cases hp : pos < s.length
  ·have hw := Lib.decode_width_pos ⟨s.toArray⟩ pos (by simpa [ByteArray.size] using hp)
   simp only [hp, decide_true, if_true]
   rw [zW (by omega), ih k (n + 1) _ (by simp only [atC]; omega) (by omega) (by omega) (by omega)]
   have hs : pos < ByteArray.size ⟨s.toArray⟩ := by simpa [ByteArray.size] using hp
   simp only [Lib.runeCountFrom, hs, if_true, atC, Option.some.injEq]
   omega
  ·have hs : ¬ pos < ByteArray.size ⟨s.toArray⟩ := by simpa [ByteArray.size] using hp
   simp [hp, Lib.runeCountFrom, hs]
theorem runeCount_eq (s : Str) (h : s.length ≤ 9223372036854775807) : wF s = some (aiH s : Int) := by
 have key : (lim fun k => zO s k 0 0) = some (aiH s : Int) := by
  refine yV (s.length + 1) fun k hk => ?_
  rw [alm s s.length k 0 0 (by omega) (by omega) (by omega) (by omega)]
  simp [aiH, Lib.runeCountL, Lib.runeCount, ByteArray.size]
 unfold wF
 rw [key]
 rfl
mutual
def wO : za → Nat
 | ⟨k, t, _, _, ks⟩ => if (k == jm) = true then aiH t else 2 + zC ks
def zC : List za → Nat
 | [] => 0
 | n :: l => wO n + zC l
end
mutual
def yS : za → Nat
 | ⟨_, _, _, _, ks⟩ => 1 + kU ks
def kU : List za → Nat
 | [] => 0
 | n :: l => max (yS n) (kU l)
end
def wM : List ze → Nat
 | [] => 0
 | a :: l => 1 + a.Name.length + a.Value.length + wM l
mutual
def nwt : za → Nat
 | ⟨k, t, m, a, ks⟩ => 2 + k.length + t.length + wQ m + wM a + zN ks
def zN : List za → Nat
 | [] => 0
 | n :: l => nwt n + zN l
end
theorem jZ (n : za) : wO n = if isT n = true then aiH n.Text else 2 + zC n.Kids := by cases n; simp only [wO, isT]; rfl
theorem Qm {n : za} (h : isT n = false) : wO n = 2 + zC n.Kids := by rw [jZ, h]; simp
theorem xy (n : za) : yS n = 1 + kU n.Kids := by cases n; simp only [yS]
theorem qi (n : za) : nwt n = 2 + n.Kind.length + n.Text.length + wQ n.Marks + wM n.zh + zN n.Kids := by cases n; simp only [nwt]
theorem kX (a b : List za) : zN (a ++ b) = zN a + zN b := by
 induction a with
 | nil => simp [zN]
 | cons n a ih => simp only [List.cons_append, zN, ih]; omega
theorem XH (a b : List za) : zC (a ++ b) = zC a + zC b := by
 induction a with
 | nil => simp [zC]
 | cons n a ih => simp only [List.cons_append, zC, ih]; omega
theorem qw (l : List za) : 2 * l.length ≤ zN l := by
 induction l with
 | nil => simp
 | cons n l ih => have := qi n; simp only [zN, List.length_cons]; omega
theorem jI {n : za} : ∀ {l : List za}, n ∈ l → nwt n ≤ zN l
 | x :: l, h => by
  simp only [zN]
  rcases List.mem_cons.1 h with rfl | h
  ·omega
  ·have := jI h; omega
theorem xR {n : za} : ∀ {l : List za}, n ∈ l → yS n ≤ kU l
 | x :: l, h => by
  simp only [kU]
  rcases List.mem_cons.1 h with rfl | h
  ·omega
  ·have := xR h; omega
theorem wU (n : za) : zN n.Kids ≤ nwt n := by have := qi n; omega
theorem afr : ∀ (l : List za), (∀ n ∈ l, wO n ≤ nwt n) → zC l ≤ zN l
 | [], _ => by simp [zC, zN]
 | n :: l, h => by
  have h1 := h n (by simp)
  have h2 := afr l fun x hx => h x (by simp [hx])
  simp only [zC, zN]; omega
theorem ahv (n : za) : wO n ≤ nwt n := by
 induction n using za.ind with
 | h n ih =>
  have h1 := afr n.Kids ih
  have h2 := ami n.Text
  rw [jZ, qi]
  split <;> omega
theorem vz (l : List za) : zC l ≤ zN l := afr l fun n _ => ahv n
theorem VB (n : za) : jO n = some (isT n) := by unfold jO isT; rfl
theorem ai1 (sz : za → Option Int) : ∀ (l : List za) (i acc : Int), (∀ k ∈ l, sz k = some (wO k : Int)) → 0 ≤ acc → acc + zC l ≤ 9223372036854775807 → jL sz l i acc = some (acc + zC l)
 | [], i, acc, _, _, _ => by simp [jL, zC]
 | n :: l, i, acc, h, h0, hb => by
  simp only [zC] at hb
  rw [jL, h n (by simp)]
  simp only [Option.bind_some]
  rw [zW (by omega), ai1 sz l _ _ (fun k hk => h k (by simp [hk])) (by omega) (by omega)]
  simp only [zC, Option.some.injEq]
  omega
theorem aur (n : za) : nwt n ≤ 1099511627776 → ∀ kr, 2 * yS n ≤ kr → jJ kr n = some (wO n : Int) := by
 induction n using za.ind with
 | h n ih =>
  intro hw kr hk
  have hd := xy n
  obtain ⟨kr, rfl⟩ : ∃ j, kr = j + 1 + 1 := ⟨kr - 2, by omega⟩
  have hwt := qi n
  have hl := qw n.Kids
  have hs := vz n.Kids
  rw [jJ, VB, jZ]
  simp only [Option.bind_some]
  by_cases ht : isT n = true
  ·simp only [ht, if_true]
   rw [runeCount_eq _ (by omega)]
   rfl
  ·simp only [ht, Bool.false_eq_true, if_false]
   rw [yA, qB (by omega), ai1 (jJ kr) n.Kids 0 0 (fun k hkk => ih k hkk (by have := jI hkk; omega) kr (by have := xR hkk; omega)) (by omega) (by omega)]
   simp only [Option.bind_some]
   rw [zW (by omega)]
   simp only [Option.some.injEq]
   omega
theorem size_eq (n : za) (h : nwt n ≤ 1099511627776) : Zg n = some (wO n : Int) := by
 unfold Zg
 exact yV (2 * yS n) fun k hk => aur n h k hk
theorem QN (l : List za) (h : zN l ≤ 1099511627776) : jv l = some (zC l : Int) := by
 unfold jv
 refine yV (2 * kU l + 1) fun kr hk => ?_
 obtain ⟨kr, rfl⟩ : ∃ j, kr = j + 1 := ⟨kr - 1, by omega⟩
 have hl := qw l
 have hs := vz l
 rw [yA, qB (by omega), ai1 (jJ kr) l 0 0 (fun k hkk => aur k (by have := jI hkk; omega) kr (by have := xR hkk; omega)) (by omega) (by omega)]
 simp
theorem aeH (b : List Str) : ∀ (suf pre : List Str) (i : Int), i = (pre.length : Int) → b.length = pre.length + suf.length → b.take pre.length = pre → qL b suf i = some (if pre ++ suf = b then .inr () else .inl false)
 | [], pre, i, hi, hl, ht => by
  have : pre = b := by
   rw [← ht, List.take_of_length_le]
   simp at hl; omega
  simp [qL, this]
 | y :: suf, pre, i, hi, hl, ht => by
  simp only [List.length_cons] at hl
  obtain ⟨x, hx⟩ : ∃ x, b[pre.length]? = some x := ⟨b[pre.length], List.getElem?_eq_getElem (by omega)⟩
  rw [qL, hi, xM hx]
  simp only [Option.bind_some]
  have htk : b.take (pre.length + 1) = pre ++ [x] := by
   rw [List.take_add_one, ht, hx]
   rfl
  by_cases hxy : y = x
  ·subst hxy
   simp only [beq_self_eq_true, Bool.not_true, Bool.false_eq_true, if_false]
   rw [aeH b suf (pre ++ [y]) _ (by simp) (by simp; omega) (by simpa using htk)]
   simp
  ·have : ¬ pre ++ y :: suf = b := by
    intro h
    rw [← h] at hx
    simp at hx
    exact hxy hx
   simp [hxy, this]
theorem amI (a b : List Str) (h : a.length ≤ 9223372036854775807) : vM a b = some (decide (a = b)) := by
 unfold vM
 by_cases hl : a.length = b.length
 ·simp only [hl, bne_self_eq_false, Bool.false_eq_true, if_false]
  rw [qB (by omega), aeH b a [] 0 rfl (by simp [hl]) (by simp)]
  by_cases e : a = b <;> simp [e]
 ·have h1 : ((a.length : Int) != (b.length : Int)) = true := by simp; omega
  have h2 : ¬ a = b := fun e => hl (by rw [e])
  rw [if_pos h1]
  simp [h2]
def joinStep (out : List za) (n : za) : List za :=
 if (isT n && n.Text == []) = true then out
 else match out.getLast? with
  | some x => if (isT n && isT x && decide (x.Marks = n.Marks)) = true then out.dropLast ++ [{ n with Text := x.Text ++ n.Text }] else out ++ [n]
  | none => out ++ [n]
def yF (l : List za) : List za := l.foldl joinStep []
theorem vO (n : za) : joinStep [] n = if (isT n && n.Text == []) = true then [] else [n] := by
 unfold joinStep; rfl
theorem wS (o : List za) (x n : za) : joinStep (o ++ [x]) n = if (isT n && n.Text == []) = true then o ++ [x] else if (isT n && isT x && decide (x.Marks = n.Marks)) = true then o ++ [{ n with Text := x.Text ++ n.Text }] else o ++ [x, n] := by
 unfold joinStep
 simp
theorem YV (o : List za) (n : za) : zN (joinStep o n) ≤ zN o + nwt n := by
 rcases kH o with rfl | ⟨o, x, rfl⟩
 ·rw [vO]
  split <;> simp [zN]
 ·rw [wS]
  split
  ·omega
  ·split
   ·simp only [kX, zN, qi, List.length_append]
    omega
   ·simp only [kX, zN]
    omega
theorem aqx : ∀ (l o : List za), zN (l.foldl joinStep o) ≤ zN o + zN l
 | [], o => by simp [zN]
 | n :: l, o => by
  have h1 := YV o n
  have h2 := aqx l (joinStep o n)
  simp only [List.foldl_cons, zN]
  omega
theorem Y7 (l : List za) : zN (yF l) ≤ zN l := by
 have := aqx l []
 simpa [yF, zN] using this
end Go.Proofs.YtclohbgnaopjfaaDoor
namespace Go.Proofs.YtclohbgnaopjfaaDoor
set_option linter.unusedSimpArgs false
set_option linter.unusedVariables false
open Go
def wK (a b : za) : Bool := isT a && isT b && decide (a.Marks = b.Marks)
def ja : List za → Prop
 | a :: b :: l => wK a b = false ∧ ja (b :: l)
 | _ => True
end Go.Proofs.YtclohbgnaopjfaaDoor
namespace Go.Proofs.YtclohbgnaopjfaaDoor
set_option linter.unusedSimpArgs false
set_option linter.unusedVariables false
open Go
def amR (b : Bool) : Bool ⊕ Unit := match b with
 | true => .inr ()
 | false => .inl false
def letter (b : UInt8) : Bool := decide (97 ≤ b.toNat) && decide (b.toNat ≤ 122)
abbrev abc : Str := [97, 98, 99, 100, 101, 102, 103, 104, 105, 106, 107, 108, 109, 110, 111, 112, 113, 114, 115, 116, 117, 118, 119, 120, 121, 122]
def isName (s : Str) : Bool := s.all letter && decide (s ≠ []) && decide (s.length ≤ 8) && decide (s ≠ jm)
theorem amo (b : UInt8) : abc.contains b = letter b := by
 have h : ∀ n, n < 256 → abc.contains (UInt8.ofNat n) = letter (UInt8.ofNat n) := by decide +kernel
 have := h b.toNat b.toNat_lt
 simpa using this
theorem aib (p : UInt8 → Bool) : ∀ l : Str, (∀ x ∈ l.dropWhile p, p x = true) → ∀ x ∈ l, p x = true
 | [], _ => by simp
 | a :: l, h => by
  by_cases ha : p a = true
  ·rw [List.dropWhile_cons_of_pos ha] at h
   intro x hx
   rcases List.mem_cons.1 hx with rfl | hx
   ·exact ha
   ·exact aib p l h x hx
  ·rw [List.dropWhile_cons_of_neg ha] at h
   exact (ha (h a (by simp))).elim
theorem ang (p : UInt8 → Bool) : ∀ l : Str, (∀ x ∈ l, p x = true) → l.dropWhile p = []
 | [], _ => rfl
 | a :: l, h => by
  rw [List.dropWhile_cons_of_pos (h a (by simp))]
  exact ang p l fun x hx => h x (by simp [hx])
theorem atV (s : Str) : (Lib.trimS s abc == []) = s.all letter := by
 have hp : (fun b => abc.contains b) = letter := funext amo
 unfold Lib.trimS Lib.trimLeftS Lib.trimRightS
 rw [hp]
 cases h : s.all letter with
 | true =>
  have h' := List.all_eq_true.1 h
  rw [ang letter s.reverse fun x hx => h' x (by simpa using hx)]
  rfl
 | false =>
  rw [beq_eq_false_iff_ne]
  intro e
  have h1 : ∀ x ∈ (s.reverse.dropWhile letter).reverse, letter x = true := aib letter _ (by rw [e]; simp)
  have h2 := aib letter s.reverse fun x hx => h1 x (by simpa using hx)
  have h3 : s.all letter = true := List.all_eq_true.2 fun x hx => h2 x (by simpa using hx)
  rw [h] at h3
  cases h3
theorem ac9 (s : Str) (h : s.length ≤ 9223372036854775807) : Zh s = some (isName s) := by
 unfold Zh Vr isName
 rw [qB ⟨h, by decide, by decide⟩]
 simp only [Option.bind_some, atV]
 cases h1 : s.all letter with
 | false => simp
 | true =>
  by_cases h2 : s = []
  ·simp [h2]
  ·by_cases h3 : s.length ≤ 8
   ·have g3 : decide ((s.length : Int) ≤ 8) = true := by simp; omega
    have g2 : (s == []) = false := by simpa using h2
    simp only [if_true, g2, Bool.not_false, g3, h2, h3, ne_eq, not_false_eq_true, decide_true, Bool.true_and]
    by_cases h4 : s = jm <;> simp [h4]
   ·have g3 : decide ((s.length : Int) ≤ 8) = false := by simp; omega
    have g2 : (s == []) = false := by simpa using h2
    simp only [if_true, g2, Bool.not_false, g3, Bool.false_eq_true, if_false]
    simp [h3]
end Go.Proofs.YtclohbgnaopjfaaDoor
namespace Go.Proofs.YtclohbgnaopjfaaDoor
set_option linter.unusedSimpArgs false
set_option linter.unusedVariables false
open Go
def isValue (s : Str) : Bool := decide (s.length ≤ 40) && Lib.validD s
theorem anI (s : Str) (h : s.length ≤ 9223372036854775807) : Ki s = some (isValue s) := by
 unfold Ki wT isValue
 rw [qB h]
 by_cases h3 : s.length ≤ 40
 ·have g3 : decide ((s.length : Int) ≤ 40) = true := by simp; omega
  simp [g3, h3]
 ·have g3 : decide ((s.length : Int) ≤ 40) = false := by simp; omega
  simp only [g3, Bool.false_eq_true, if_false]
  simp [h3]
def Zj : Option Str → List Str → Bool
 | _, [] => true
 | last, y :: l => isName y && (match last with | none => true | some x => !(Op.bytesLess y x || y == x)) && Zj (some y) l
theorem VH (last : Option Str) (y : Str) (l : List Str) : Zj last (y :: l) = (isName y && (match last with | none => true | some x => !(Op.bytesLess y x || y == x)) && Zj (some y) l) := by cases last <;> rfl
def vW (l : List Str) : Bool := Zj none l
theorem arc : ∀ (suf pre : List Str), (∀ s ∈ suf, s.length ≤ 9223372036854775807) → (pre ++ suf).length ≤ 4611686018427387904 → vS (pre ++ suf) suf (pre.length : Int) = some (amR (Zj pre.getLast? suf))
 | [], pre, _, _ => by simp [vS, Zj, amR]
 | y :: suf, pre, h, hb => by
  have e : (pre.length : Int) + 1 = ((pre ++ [y]).length : Int) := by simp
  have ih := arc suf (pre ++ [y]) (fun s hs => h s (by simp [hs])) (by simpa using hb)
  rw [List.append_assoc, List.singleton_append, ← e, List.getLast?_append, List.getLast?_singleton] at ih
  simp only [Option.some_or] at ih
  rw [vS, ac9 y (h y (by simp))]
  simp only [Option.bind_some]
  rw [VH]
  rcases Bool.eq_false_or_eq_true (isName y) with hn | hn
  rotate_left
  ·simp [hn, amR]
  ·rw [hn]
   simp only [Bool.not_true, Bool.false_eq_true, if_false, Bool.true_and]
   rcases kH pre with rfl | ⟨p, x, rfl⟩
   ·have g : decide ((([] : List Str).length : Int) > 0) = false := by decide
    simp only [g, Bool.false_eq_true, if_false]
    rw [ih]
    simp
   ·have g : decide (((p ++ [x]).length : Int) > 0) = true := decide_eq_true (by simp only [List.length_append, List.length_cons, List.length_nil]; omega)
    have hr : rd (p ++ [x] ++ y :: suf) (w64 (((p ++ [x]).length : Int) - 1)) = some x := by
     simp only [List.length_append, List.length_cons, List.length_nil] at hb
     rw [zW (by simp; omega)]
     have e2 : ((p ++ [x]).length : Int) - 1 = (p.length : Int) := by simp
     rw [e2, List.append_assoc]
     exact Qf p (y :: suf) x
    simp only [g, if_true, hr, Option.bind_some, List.getLast?_append, List.getLast?_singleton, Option.some_or]
    rcases Bool.eq_false_or_eq_true (Op.bytesLess y x || y == x) with hc | hc
    ·simp only [hc, if_true, Bool.not_true, Bool.false_and, amR]
    ·simp only [hc, Bool.false_eq_true, if_false, Bool.not_false, Bool.true_and]
     exact ih
theorem aqv (l : List Str) (h : ∀ s ∈ l, s.length ≤ 9223372036854775807) (hb : l.length ≤ 4611686018427387904) : Vw l = some (vW l) := by
 have h0 := arc l [] h (by simpa using hb)
 have h0' : vS l l 0 = _ := h0
 unfold Vw
 rw [qB (by omega), h0']
 simp only [Option.bind_some, List.getLast?_nil, vW]
 cases Zj none l <;> rfl
theorem asS (b : List Str) : ∀ (suf pre : List Str) (i : Int), i = (pre.length : Int) → b.length = pre.length + suf.length → b.take pre.length = pre → qo b suf i = some (if pre ++ suf = b then .inr () else .inl false)
 | [], pre, i, hi, hl, ht => by
  have : pre = b := by
   rw [← ht, List.take_of_length_le]
   simp at hl; omega
  simp [qo, this]
 | y :: suf, pre, i, hi, hl, ht => by
  simp only [List.length_cons] at hl
  obtain ⟨x, hx⟩ : ∃ x, b[pre.length]? = some x := ⟨b[pre.length], List.getElem?_eq_getElem (by omega)⟩
  rw [qo, hi, xM hx]
  simp only [Option.bind_some]
  have htk : b.take (pre.length + 1) = pre ++ [x] := by
   rw [List.take_add_one, ht, hx]
   rfl
  by_cases hxy : y = x
  ·subst hxy
   simp only [beq_self_eq_true, Bool.not_true, Bool.false_eq_true, if_false]
   rw [asS b suf (pre ++ [y]) _ (by simp) (by simp; omega) (by simpa using htk)]
   simp
  ·have : ¬ pre ++ y :: suf = b := by
    intro h
    rw [← h] at hx
    simp at hx
    exact hxy hx
   simp [hxy, this]
theorem auW (a b : List Str) (h : a.length ≤ 9223372036854775807) : slices_Equal_string a b = some (decide (a = b)) := by
 unfold slices_Equal_string
 by_cases hl : a.length = b.length
 ·simp only [hl, bne_self_eq_false, Bool.false_eq_true, if_false]
  rw [qB (by omega), asS b a [] 0 rfl (by simp [hl]) (by simp)]
  by_cases e : a = b <;> simp [e]
 ·have h1 : ((a.length : Int) != (b.length : Int)) = true := by simp; omega
  have h2 : ¬ a = b := fun e => hl (by rw [e])
  rw [if_pos h1]
  simp [h2]
theorem amZ (a b : za) (h : a.Marks.length ≤ 9223372036854775807) : Qd a b = some (wK a b) := by
 unfold Qd wK
 rw [VB, VB]
 simp only [Option.bind_some]
 rw [auW _ _ h]
 cases isT a <;> cases isT b <;> simp
mutual
def qg : za → Bool
 | ⟨k, t, m, a, ks⟩ => if (k == jm) = true then (decide (t ≠ []) && Lib.validD t && vW m && decide (a.length + ks.length = 0)) else (a.all (fun x => isValue x.Value) && isName k && decide (t = []) && decide (m = []) && vW (a.map (·.Name)) && yu none ks)
def yu : Option za → List za → Bool
 | _, [] => true
 | last, n :: l => qg n && (match last with | none => true | some x => !wK x n) && yu (some n) l
end
theorem KM (last : Option za) (n : za) (l : List za) : yu last (n :: l) = (qg n && (match last with | none => true | some x => !wK x n) && yu (some n) l) := by cases last <;> simp only [yu]
theorem acv (last : Option za) : yu last [] = true := by cases last <;> simp only [yu]
theorem jA (n : za) : qg n = if isT n = true then (decide (n.Text ≠ []) && Lib.validD n.Text && vW n.Marks && decide (n.zh.length + n.Kids.length = 0)) else (n.zh.all (fun x => isValue x.Value) && isName n.Kind && decide (n.Text = []) && decide (n.Marks = []) && vW (n.zh.map (·.Name)) && yu none n.Kids) := by
 cases n; simp only [qg, isT]; rfl
theorem aiZ {a : ze} : ∀ {l : List ze}, a ∈ l → a.Name.length + a.Value.length ≤ wM l
 | x :: l, h => by
  simp only [wM]
  rcases List.mem_cons.1 h with rfl | h
  ·omega
  ·have := aiZ h; omega
theorem xx (l : List ze) : l.length ≤ wM l := by
 induction l with
 | nil => simp
 | cons s l ih => simp only [List.length_cons, wM]; omega
theorem akg : ∀ (l : List ze) (i : Int) (out : List Str), (out.length + l.length) * 16 ≤ 140737488355328 → wM l ≤ 1099511627776 → vU l i out = some (if l.all (fun x => isValue x.Value) = true then .inr (out ++ l.map (·.Name)) else .inl false)
 | [], i, out, _, _ => by simp [vU]
 | a :: l, i, out, hb, hw => by
  simp only [wM] at hw
  simp only [List.length_cons] at hb
  rw [vU, anI _ (by omega)]
  simp only [Option.bind_some]
  rcases Bool.eq_false_or_eq_true (isValue a.Value) with hv | hv
  rotate_left
  ·simp [hv]
  ·simp only [hv, Bool.not_true, Bool.false_eq_true, if_false, List.all_cons, Bool.true_and]
   rw [wJ (by simp; omega)]
   simp only [Option.bind_some]
   rw [akg l _ _ (by simp; omega) (by omega)]
   simp
theorem akq (n : za) (f : za → Option Bool) : ∀ (suf pre : List za), n.Kids = pre ++ suf → (∀ k ∈ suf, f k = some (qg k)) → zN n.Kids ≤ 1099511627776 → kY n f suf (pre.length : Int) = some (amR (yu pre.getLast? suf))
 | [], pre, _, _, _ => by simp [kY, acv, amR]
 | y :: suf, pre, hk, hf, hw => by
  have e : (pre.length : Int) + 1 = ((pre ++ [y]).length : Int) := by simp
  have ih := akq n f suf (pre ++ [y]) (by rw [hk]; simp) (fun s hs => hf s (by simp [hs])) hw
  rw [← e, List.getLast?_append, List.getLast?_singleton] at ih
  simp only [Option.some_or] at ih
  rw [kY, hf y (by simp)]
  simp only [Option.bind_some]
  rw [KM]
  rcases Bool.eq_false_or_eq_true (qg y) with hn | hn
  rotate_left
  ·simp [hn, amR]
  ·rw [hn]
   simp only [Bool.not_true, Bool.false_eq_true, if_false, Bool.true_and]
   rcases kH pre with rfl | ⟨p, x, rfl⟩
   ·have g : decide ((([] : List za).length : Int) > 0) = false := by decide
    simp only [g, Bool.false_eq_true, if_false]
    rw [ih]
    simp
   ·have g : decide (((p ++ [x]).length : Int) > 0) = true := decide_eq_true (by simp only [List.length_append, List.length_cons, List.length_nil]; omega)
    have hl := qw n.Kids
    have hr : rd n.Kids (w64 (((p ++ [x]).length : Int) - 1)) = some x := by
     rw [hk] at hl ⊢
     simp only [List.length_append, List.length_cons, List.length_nil] at hl
     rw [zW (by simp; rw [hk] at hw; omega)]
     have e2 : ((p ++ [x]).length : Int) - 1 = (p.length : Int) := by simp
     rw [e2, List.append_assoc]
     exact Qf p (y :: suf) x
    have hx : nwt x ≤ zN n.Kids := jI (by rw [hk]; simp)
    have hxw := qi x
    have hxm := aa9 x.Marks
    simp only [g, if_true, hr, Option.bind_some, List.getLast?_append, List.getLast?_singleton, Option.some_or]
    rw [amZ x y (by omega)]
    simp only [Option.bind_some]
    rcases Bool.eq_false_or_eq_true (wK x y) with hc | hc
    ·simp only [hc, if_true, Bool.not_true, Bool.false_and, amR]
    ·simp only [hc, Bool.false_eq_true, if_false, Bool.not_false, Bool.true_and]
     exact ih
theorem aud (n : za) : nwt n ≤ 1099511627776 → ∀ kr, yS n ≤ kr → vo kr n = some (qg n) := by
 induction n using za.ind with
 | h n ih =>
  intro hw kr hk
  have hd := xy n
  obtain ⟨kr, rfl⟩ : ∃ j, kr = j + 1 := ⟨kr - 1, by omega⟩
  have hwt := qi n
  have hl := qw n.Kids
  have hm := aa9 n.Marks
  have ha := xx n.zh
  rw [vo, VB, jA]
  simp only [Option.bind_some]
  by_cases ht : isT n = true
  ·simp only [ht, if_true]
   by_cases h1 : n.Text = []
   ·simp [h1]
   ·have g1 : (n.Text == []) = false := by simpa using h1
    simp only [g1, Bool.not_false, if_true]
    unfold wT
    rw [qB (by omega)]
    simp only [Option.bind_some]
    cases hv : Lib.validD n.Text with
    | false => simp
    | true =>
     simp only [if_true]
     rw [aqv _ (fun s hs => by have := akl hs; omega) (by omega)]
     simp only [Option.bind_some]
     rw [zW (by omega)]
     cases hr : vW n.Marks with
     | false => simp
     | true =>
      simp only [if_true, ne_eq, h1, not_false_eq_true, decide_true, Bool.true_and, Option.some.injEq]
      rw [Bool.eq_iff_iff]
      simp only [beq_iff_eq, decide_eq_true_eq]
      omega
  ·simp only [ht, Bool.false_eq_true, if_false]
   rw [qB (by omega), akg _ _ _ (by simp; omega) (by omega)]
   simp only [Option.bind_some]
   cases hv : n.zh.all (fun x => isValue x.Value) with
   | false => simp
   | true =>
    simp only [if_true, List.nil_append, Bool.true_and]
    rw [ac9 _ (by omega)]
    simp only [Option.bind_some]
    cases h2 : isName n.Kind with
    | false => simp
    | true =>
     simp only [Bool.not_true, Bool.false_eq_true, if_false, Bool.true_and]
     by_cases h3 : n.Text = []
     ·by_cases h4 : n.Marks = []
      ·have g4 : decide ((n.Marks.length : Int) > 0) = false := by simp [h4]
       have g3 : (n.Text == []) = true := by simp [h3]
       simp only [g3, Bool.not_true, Bool.false_eq_true, if_false, g4]
       rw [aqv _ (fun s hs => by
        obtain ⟨a, ha', rfl⟩ := List.mem_map.1 hs
        have := aiZ ha'; omega) (by simp; omega)]
       simp only [Option.bind_some]
       cases hr : vW (n.zh.map (·.Name)) with
       | false => simp
       | true =>
        simp only [Bool.not_true, Bool.false_eq_true, if_false]
        have h0 := akq n (vo kr) n.Kids [] rfl (fun k hkk => ih k hkk (by have := jI hkk; omega) kr (by have := xR hkk; omega)) (by omega)
        have h0' : kY n (vo kr) n.Kids 0 = _ := h0
        rw [qB (by omega), h0']
        simp only [Option.bind_some, List.getLast?_nil, h3, h4, decide_true, Bool.true_and]
        cases yu none n.Kids <;> rfl
      ·have g4 : decide ((n.Marks.length : Int) > 0) = true := by
        have := List.length_pos_iff.2 h4
        simp; omega
       have g3 : (n.Text == []) = true := by simp [h3]
       simp only [g3, Bool.not_true, Bool.false_eq_true, if_false, g4, if_true]
       simp [h4]
     ·have g3 : (n.Text == []) = false := by simpa using h3
      simp only [g3, Bool.not_false, if_true]
      simp [h3]
theorem arG (n : za) (h : nwt n ≤ 1099511627776) : Ko n = some (qg n) := by
 unfold Ko
 exact yV (yS n) fun kr hk => aud n h kr hk
mutual
def yU : za → Nat
 | ⟨k, _, _, _, ks⟩ => if (k == jm) = true then 0 else wI ks + 1
def wI : List za → Nat
 | [] => 0
 | n :: l => max (yU n) (wI l)
end
theorem QW (n : za) : yU n = if isT n = true then 0 else wI n.Kids + 1 := by cases n; simp only [yU, isT]; rfl
theorem anc : ∀ (l : List za), (∀ n ∈ l, yU n ≤ yS n) → wI l ≤ kU l
 | [], _ => by simp [wI, kU]
 | n :: l, h => by
  have h1 := h n (by simp)
  have h2 := anc l fun x hx => h x (by simp [hx])
  simp only [wI, kU]; omega
theorem aqS (n : za) : yU n ≤ yS n := by
 induction n using za.ind with
 | h n ih =>
  have h1 := anc n.Kids ih
  rw [QW, xy]
  split <;> omega
theorem ajx (l : List za) (h : ∀ n ∈ l, yS n ≤ nwt n) : kU l ≤ zN l := by
 induction l with
 | nil => simp [kU, zN]
 | cons k l ih =>
  have h1 := h k (by simp)
  have h2 := ih fun x hx => h x (by simp [hx])
  simp only [kU, zN]; omega
theorem aqz (n : za) : yS n ≤ nwt n := by
 induction n using za.ind with
 | h n ih =>
  have h1 := ajx n.Kids ih
  have h2 := xy n
  have h3 := qi n
  omega
theorem aoJ (f : za → Option Int) : ∀ (l : List za) (i : Int) (d : Nat), (∀ k ∈ l, f k = some (yU k : Int)) → vP f l i (d : Int) = some ((max d (wI l) : Nat) : Int)
 | [], i, d, _ => by simp [vP, wI]
 | n :: l, i, d, h => by
  rw [vP, h n (by simp)]
  simp only [Option.bind_some]
  have e : (if (yU n : Int) > (d : Int) then (yU n : Int) else (d : Int)) = ((max d (yU n) : Nat) : Int) := by split <;> omega
  rw [e, aoJ f l _ _ fun k hk => h k (by simp [hk])]
  simp only [wI, Option.some.injEq]
  omega
theorem awi (n : za) : nwt n ≤ 1099511627776 → ∀ kr, yS n ≤ kr → vR kr n = some (yU n : Int) := by
 induction n using za.ind with
 | h n ih =>
  intro hw kr hk
  have hd := xy n
  obtain ⟨kr, rfl⟩ : ∃ j, kr = j + 1 := ⟨kr - 1, by omega⟩
  have hwt := qi n
  have hl := qw n.Kids
  have hdl := aqS n
  have hdw := aqz n
  rw [vR, VB]
  simp only [Option.bind_some]
  by_cases ht : isT n = true
  ·simp [ht, QW n]
  ·have e := QW n
   rw [if_neg ht] at e
   simp only [ht, Bool.false_eq_true, if_false]
   have h0 := aoJ (vR kr) n.Kids 0 0 (fun k hkk => ih k hkk (by have := jI hkk; omega) kr (by have := xR hkk; omega))
   have h0' : vP (vR kr) n.Kids 0 0 = _ := h0
   rw [qB (by omega), h0']
   simp only [Option.bind_some, Nat.zero_max]
   rw [zW (by omega), e]
   rfl
theorem atf (n : za) (h : nwt n ≤ 1099511627776) : VT n = some (yU n : Int) := by
 unfold VT
 exact yV (yS n) fun kr hk => awi n h kr hk
def checkN (n : za) : Int := if qg n = false then 2 else if 40 < yU n then 4 else if 4000 < wO n then 5 else 0
theorem Y0 (n : za) (h : nwt n ≤ 1099511627776) : yX n = some (checkN n) := by
 unfold yX checkN
 rw [arG n h]
 simp only [Option.bind_some]
 cases hf : qg n with
 | false => simp
 | true =>
  simp only [Bool.not_true, Bool.false_eq_true, if_false]
  rw [atf n h]
  simp only [Option.bind_some]
  by_cases hd : 40 < yU n
  ·have g : decide ((yU n : Int) > 40) = true := by simp; omega
   simp [g, hd]
  ·have g : decide ((yU n : Int) > 40) = false := by simp; omega
   simp only [g, Bool.false_eq_true, if_false]
   rw [size_eq n h]
   simp only [Option.bind_some, hd, if_false]
   by_cases hs : 4000 < wO n
   ·have g : decide ((wO n : Int) > 4000) = true := by simp; omega
    simp [g, hs]
   ·have g : decide ((wO n : Int) > 4000) = false := by simp; omega
    simp only [g, Bool.false_eq_true, if_false, hs]
    simp
end Go.Proofs.YtclohbgnaopjfaaDoor
namespace Go.Proofs.YtclohbgnaopjfaaDoor
set_option linter.unusedSimpArgs false
set_option linter.unusedVariables false
open Go
theorem amK (p : List za) (x n : za) (hx : isT x = true) (hn : isT n = true) (hm : x.Marks = n.Marks) (ha : x.zh = n.zh) (hk : x.Kids = n.Kids) : joinStep (joinStep p x) n = joinStep p { n with Text := x.Text ++ n.Text } := by
 have hkd : x.Kind = n.Kind := by
  have h1 : x.Kind = jm := by simpa [isT] using hx
  have h2 : n.Kind = jm := by simpa [isT] using hn
  rw [h1, h2]
 have hxn : ({ n with Text := x.Text ++ n.Text } : za).Marks = n.Marks := rfl
 have hnt : isT { n with Text := x.Text ++ n.Text } = true := hn
 by_cases hx0 : x.Text = []
 ·have e1 : joinStep p x = p := by unfold joinStep; simp [hx, hx0]
  have e2 : ({ n with Text := x.Text ++ n.Text } : za) = n := by cases n; simp [hx0]
  rw [e1, e2]
 ·by_cases hn0 : n.Text = []
  ·have e1 : ∀ o, joinStep o n = o := fun o => by unfold joinStep; simp [hn, hn0]
   have e2 : ({ n with Text := x.Text ++ n.Text } : za) = x := by cases x; cases n; simp_all
   rw [e1, e2]
  ·have hxn0 : (({ n with Text := x.Text ++ n.Text } : za).Text == []) = false := by simp [hx0]
   have hx0' : (x.Text == []) = false := by simpa using hx0
   have hn0' : (n.Text == []) = false := by simpa using hn0
   rcases kH p with rfl | ⟨p, y, rfl⟩
   ·rw [vO, vO]
    simp only [hx0', Bool.and_false, Bool.false_eq_true, if_false, hxn0]
    have := wS [] x n
    rw [List.nil_append] at this
    rw [this]
    simp [hn, hx, hn0', hm]
   ·rw [wS, wS]
    simp only [hx0', Bool.and_false, Bool.false_eq_true, if_false, hxn0, hx, hnt, Bool.true_and]
    by_cases hc : (isT y && decide (y.Marks = n.Marks)) = true
    ·have hc' : (isT y && decide (y.Marks = x.Marks)) = true := by rw [hm]; exact hc
     rw [if_pos hc', if_pos hc, wS]
     have hxt : ∀ m, isT { x with Text := y.Text ++ x.Text, Marks := m } = true := fun _ => hx
     simp [hn, hn0', hxt, hm, List.append_assoc]
    ·have hc' : ¬ (isT y && decide (y.Marks = x.Marks)) = true := by rw [hm]; exact hc
     rw [if_neg hc', if_neg hc]
     have := wS (p ++ [y]) x n
     rw [List.append_assoc] at this
     rw [List.singleton_append] at this
     rw [this]
     simp [hn, hx, hn0', hm]
def Plain (n : za) : Prop := isT n = true → n.zh = [] ∧ n.Kids = []
end Go.Proofs.YtclohbgnaopjfaaDoor
namespace Go.Proofs.YtclohbgnaopjfaaDoor
set_option linter.unusedSimpArgs false
set_option linter.unusedVariables false
open Go
theorem aqF : ∀ (l : List za) (i : Int) (o : List za), zN o + zN l ≤ 1099511627776 → qb l i o = some (l.foldl joinStep o)
 | [], i, o, _ => by simp [qb]
 | n :: l, i, o, hw => by
  simp only [zN] at hw
  have hjw := YV o n
  have ih := aqF l (i + 1) (joinStep o n) (by omega)
  have hol := qw o
  rw [qb, List.foldl_cons]
  have eapp : app 104 o [n] = some (o ++ [n]) := wJ (by simp; omega)
  rcases kH o with rfl | ⟨o, x, rfl⟩
  ·rw [vO] at ih ⊢
   by_cases ht : isT n = true
   ·have ht' : (n.Kind == jm) = true := ht
    by_cases he : n.Text = []
    ·simp only [ht, he, Bool.true_and, beq_self_eq_true, if_true] at ih ⊢
     simp only [ht', if_true, Option.bind_some]
     exact ih
    ·have he' : (n.Text == []) = false := by simp [he]
     simp only [ht, he', Bool.true_and, Bool.false_eq_true, if_false] at ih ⊢
     simp only [ht', he', Bool.false_eq_true, if_true, if_false, Option.bind_some, List.length_nil]
     have hneg : decide (w64 ((0 : Nat) - 1 : Int) ≥ 0) = false := by rw [zW (by omega)]; simp
     simp only [hneg, Bool.false_eq_true, if_false, eapp, Option.bind_some]
     exact ih
   ·have ht' : (n.Kind == jm) = false := by simpa [isT] using ht
    have ht2 : isT n = false := by simpa using ht
    simp only [ht2, Bool.false_and, Bool.false_eq_true, if_false] at ih ⊢
    simp only [ht', Bool.false_eq_true, if_false, Option.bind_some, eapp]
    exact ih
  ·rw [wS] at ih ⊢
   have hx : rd (o ++ [x]) (w64 (((o ++ [x]).length : Int) - 1)) = some x := by
    rw [zW (by simp at hol ⊢; omega)]
    have : ((o ++ [x]).length : Int) - 1 = (o.length : Int) := by simp
    rw [this]
    exact Qf o [] x
   have hsl : sl (o ++ [x]) 0 (w64 (((o ++ [x]).length : Int) - 1)) = some o := by
    rw [zW (by simp at hol ⊢; omega)]
    have : ((o ++ [x]).length : Int) - 1 = (o.length : Int) := by simp
    rw [this]
    exact avj o [x]
   have hpos : decide (w64 (((o ++ [x]).length : Int) - 1) ≥ 0) = true := by
    rw [zW (by simp at hol ⊢; omega)]
    simp
   have hwx : nwt x ≤ zN (o ++ [x]) := jI (by simp)
   have hx1 := qi x
   have hn1 := qi n
   by_cases ht : isT n = true
   ·have ht' : (n.Kind == jm) = true := ht
    by_cases he : n.Text = []
    ·simp only [ht, he, Bool.true_and, beq_self_eq_true, if_true] at ih ⊢
     simp only [ht', if_true, Option.bind_some]
     exact ih
    ·have he' : (n.Text == []) = false := by simp [he]
     simp only [ht, he', Bool.true_and, Bool.false_eq_true, if_false] at ih ⊢
     simp only [ht', he', Bool.false_eq_true, if_true, if_false, Option.bind_some, hpos, hx]
     by_cases hxt : isT x = true
     ·have hxt' : (x.Kind == jm) = true := hxt
      have hml : x.Marks.length ≤ 9223372036854775807 := by
       have : ∀ l : List Str, l.length ≤ wQ l := by
        intro l; induction l with
        | nil => simp
        | cons s l ih => simp [wQ]; omega
       have := this x.Marks
       omega
      simp only [hxt', if_true]
      rw [amI _ _ hml]
      simp only [Option.bind_some, hxt, Bool.true_and] at ih ⊢
      by_cases hm : x.Marks = n.Marks
      ·simp only [hm, decide_true, if_true] at ih ⊢
       rw [qB (by omega), hsl]
       simp only [Option.bind_some]
       have hol2 := qw (o ++ [x])
       simp only [List.length_append, List.length_cons, List.length_nil] at hol2
       rw [wJ (by simp; omega)]
       simp only [Option.bind_some, List.nil_append]
       rw [wJ (by simp; omega)]
       simp only [Option.bind_some]
       exact ih
      ·simp only [hm, decide_false, Bool.false_eq_true, if_false] at ih ⊢
       rw [eapp]
       simp only [Option.bind_some, List.append_assoc, List.cons_append, List.nil_append]
       exact ih
     ·have hxt' : (x.Kind == jm) = false := by simpa [isT] using hxt
      have hx2 : isT x = false := by simpa using hxt
      simp only [hx2, Bool.false_and, Bool.false_eq_true, if_false] at ih ⊢
      simp only [hxt', Bool.false_eq_true, if_false, eapp, Option.bind_some, List.append_assoc, List.cons_append, List.nil_append]
      exact ih
   ·have ht' : (n.Kind == jm) = false := by simpa [isT] using ht
    have ht2 : isT n = false := by simpa using ht
    simp only [ht2, Bool.false_and, Bool.false_eq_true, if_false] at ih ⊢
    simp only [ht', Bool.false_eq_true, if_false, Option.bind_some, eapp, List.append_assoc, List.cons_append, List.nil_append]
    exact ih
theorem join_eq (l : List za) (h : zN l ≤ 1099511627776) : xZ l = some (yF l) := by
 have hl := qw l
 unfold xZ
 rw [qB (by omega), aqF l 0 [] (by simpa [zN] using h)]
 rfl
end Go.Proofs.YtclohbgnaopjfaaDoor
namespace Go.Proofs.YtclohbgnaopjfaaDoor
set_option linter.unusedSimpArgs false
set_option linter.unusedVariables false
open Go
abbrev aui : List Str := [[97], [98, 99], [195, 169], [120, 32, 121], [230, 151, 165, 230, 156, 172]]
abbrev axG : List Str := [[112, 97, 114, 97], [105, 116, 101, 109], [108, 105, 115, 116], [110, 111, 116, 101]]
abbrev axn : Str := [97, 108, 105, 103, 110]
def ayz (t : Str) : Prop := t ≠ [] ∧ ∃ l : List Str, (∀ x ∈ l, x ∈ aui) ∧ t = l.flatten
def axU (m : List Str) : Prop := m = [] ∨ m = [[98]] ∨ m = [[98], [105]]
def axz (a : List ze) : Prop := a = [] ∨ ∃ v ∈ aui, a = [⟨axn, v⟩]
inductive MN : za → Prop
 | text (t : Str) (m : List Str) (ht : ayz t) (hm : axU m) : MN ⟨jm, t, m, [], []⟩
 | node (k : Str) (a : List ze) (ks : List za) (hk : k ∈ axG) (ha : axz a) (hs : ∀ x ∈ ks, MN x) (hj : ja ks) : MN ⟨k, [], [], a, ks⟩
theorem aqH : ∀ (o : List za) (x n : za), ja (o ++ [x]) → wK x n = false → ja (o ++ [x, n])
 | [], x, n, _, h => ⟨h, trivial⟩
 | [a], x, n, h1, h => ⟨h1.1, h, trivial⟩
 | a :: b :: o, x, n, h1, h => ⟨h1.1, aqH (b :: o) x n h1.2 h⟩
theorem aaX (a b : List za) : kU (a ++ b) = max (kU a) (kU b) := by
 induction a with
 | nil => simp [kU]
 | cons n a ih => simp only [List.cons_append, kU, ih]; omega
structure aw8 (i : Nat) (o : List za) : Prop where
 mn : ∀ x ∈ o, MN x
 wt : zN o ≤ 24 * i
 dep : kU o ≤ i
theorem aw8.snoc {i : Nat} {o : List za} (h : aw8 i o) {n : za} (hn : MN n) (hw : nwt n ≤ 24) (hd : yS n ≤ 1) : aw8 (i + 1) (o ++ [n]) := by
 refine ⟨fun x hx => ?_, ?_, ?_⟩
 ·rcases List.mem_append.1 hx with hx | hx
  ·exact h.mn x hx
  ·simp at hx; subst hx; exact hn
 ·have := h.wt; simp only [kX, zN]; omega
 ·have := h.dep; simp only [aaX, kU]; omega
end Go.Proofs.YtclohbgnaopjfaaDoor
namespace Go.Proofs.YtclohbgnaopjfaaDoor
set_option linter.unusedSimpArgs false
set_option linter.unusedVariables false
open Go
theorem acH (s : Str) (g : Value → Int) (hg : ∀ n, g (.int .i32 n) = n) : ∀ (f pos : Nat) (acc : Array Value), (Conv.runesFrom ⟨s.toArray⟩ f pos acc).toList.map g = acc.toList.map g ++ (Conv.runesFrom ⟨s.toArray⟩ f pos #[]).toList.map g
 | 0, pos, acc => by simp [Conv.runesFrom]
 | f + 1, pos, acc => by
  unfold Conv.runesFrom
  split
  ·rw [acH s g hg f _ (acc.push _), acH s g hg f _ (#[].push _)]
   simp
  ·simp
def rn : Nat → Str → List Int
 | 0, _ => []
 | f + 1, s => if s = [] then [] else ((Lib.decodeL s).1 : Int) :: rn f (s.drop (Lib.decodeL s).2)
theorem anv (s : Str) (g : Value → Int) (hg : ∀ n, g (.int .i32 n) = n) : ∀ (f pos : Nat), (Conv.runesFrom ⟨s.toArray⟩ f pos #[]).toList.map g = rn f (s.drop pos)
 | 0, pos => by simp [Conv.runesFrom, rn]
 | f + 1, pos => by
  unfold Conv.runesFrom rn
  have hz : ByteArray.size ⟨s.toArray⟩ = s.length := by simp [ByteArray.size]
  by_cases h : pos < s.length
  ·have hne : s.drop pos ≠ [] := by simp; omega
   have hd : Lib.decodeL (s.drop pos) = Utf8.decode ⟨s.toArray⟩ pos := by
    have := Lib.decodeL_drop ⟨s.toArray⟩ pos
    simpa using this
   rw [if_pos (by rw [hz]; exact h), if_neg hne, acH s g hg, anv s g hg f, hd, List.drop_drop]
   simp [hg]
  ·have hne : s.drop pos = [] := by simp; omega
   rw [if_neg (by rw [hz]; exact h), if_pos hne]
   simp
theorem aeo (s : Str) : runes s = rn s.length s := by
 unfold runes
 rw [anv s _ (fun _ => rfl)]
 simp
def ah4 (c : Nat) : List UInt8 :=
 if c < 0x80 then [UInt8.ofNat c]
 else if c < 0x800 then [UInt8.ofNat (0xC0 + c / 64), UInt8.ofNat (0x80 + c % 64)]
 else if c < 0x10000 then [UInt8.ofNat (0xE0 + c / 4096), UInt8.ofNat (0x80 + c / 64 % 64), UInt8.ofNat (0x80 + c % 64)]
 else [UInt8.ofNat (0xF0 + c / 262144), UInt8.ofNat (0x80 + c / 4096 % 64), UInt8.ofNat (0x80 + c / 64 % 64), UInt8.ofNat (0x80 + c % 64)]
theorem atv (r : Int) : zq r = ah4 (if Utf8.valid r then r.toNat else Utf8.runeError) := by
 unfold zq Utf8.encode ah4
 generalize (if Utf8.valid r then r.toNat else Utf8.runeError) = c
 dsimp only
 by_cases h1 : c < 0x80
 ·rw [if_pos h1, if_pos h1]
 ·rw [if_neg h1, if_neg h1]
  by_cases h2 : c < 0x800
  ·rw [if_pos h2, if_pos h2]
  ·rw [if_neg h2, if_neg h2]
   by_cases h3 : c < 0x10000
   ·rw [if_pos h3, if_pos h3]
   ·rw [if_neg h3, if_neg h3]
theorem auF (c : Nat) : 1 ≤ (ah4 c).length ∧ (ah4 c).length ≤ 4 := by
 unfold ah4
 split
 ·simp
 ·split
  ·simp
  ·split <;> simp
theorem asE (c : Int) : 1 ≤ (zq c).length ∧ (zq c).length ≤ 4 := by rw [atv]; exact auF _
theorem va (r : Nat) (h : r < 55296 ∨ 57343 < r) (h' : r ≤ 1114111) : Utf8.valid (r : Int) = true := by
 unfold Utf8.valid
 rw [Bool.or_eq_true]
 rcases h with h | h
 ·left; rw [Bool.and_eq_true]
  exact ⟨decide_eq_true (by omega), decide_eq_true (by omega)⟩
 ·right; rw [Bool.and_eq_true]
  exact ⟨decide_eq_true (by omega), decide_eq_true (by omega)⟩
theorem vc (r : Nat) (h : 55296 ≤ r) (h' : r ≤ 57343) : Utf8.valid (r : Int) = false := by
 unfold Utf8.valid
 rw [Bool.or_eq_false_iff, Bool.and_eq_false_iff, Bool.and_eq_false_iff]
 exact ⟨.inr (decide_eq_false (by omega)), .inl (decide_eq_false (by omega))⟩
theorem alN (r : Nat) (h : r < 55296 ∨ 57343 < r) (h' : r ≤ 1114111) : zq (r : Int) = ah4 r := by
 rw [atv, va r h h']
 rfl
theorem ayY (r : Nat) (h : r < 128) : zq (r : Int) = [UInt8.ofNat r] := by
 rw [alN r (by omega) (by omega), ah4, if_pos h]
theorem aze (r : Nat) (h : 128 ≤ r) (h' : r < 2048) : zq (r : Int) = [UInt8.ofNat (192 + r / 64), UInt8.ofNat (128 + r % 64)] := by
 rw [alN r (by omega) (by omega), ah4, if_neg (by omega), if_pos h']
theorem ayq (r : Nat) (h : 2048 ≤ r) (h' : r < 65536) (hv : r < 55296 ∨ 57343 < r) : zq (r : Int) = [UInt8.ofNat (224 + r / 4096), UInt8.ofNat (128 + r / 64 % 64), UInt8.ofNat (128 + r % 64)] := by
 rw [alN r hv (by omega), ah4, if_neg (by omega), if_neg (by omega), if_pos h']
theorem ayN (r : Nat) (h : 65536 ≤ r) (h' : r ≤ 1114111) : zq (r : Int) = [UInt8.ofNat (240 + r / 262144), UInt8.ofNat (128 + r / 4096 % 64), UInt8.ofNat (128 + r / 64 % 64), UInt8.ofNat (128 + r % 64)] := by
 rw [alN r (by omega) h', ah4, if_neg (by omega), if_neg (by omega), if_neg (by omega)]
theorem aza (r : Nat) (h : 55296 ≤ r) (h' : r ≤ 57343) : zq (r : Int) = [239, 191, 189] := by
 rw [atv, vc r h h']
 simp only [Bool.false_eq_true, if_false, Utf8.runeError, ah4]
 rfl
theorem auC (r : Nat) (h : r ≤ 1114111) : zq (r : Int) = Lib.encodeRune (r : Int) := by
 unfold Lib.encodeRune Lib.encodeRuneZ
 by_cases h1 : r < 128
 ·rw [if_pos (show (0 : Int) ≤ (r : Int) ∧ (r : Int) ≤ 127 by omega), ayY r h1]
  simp only [List.map_cons, List.map_nil, Int.toNat_natCast]
 ·rw [if_neg (show ¬ ((0 : Int) ≤ (r : Int) ∧ (r : Int) ≤ 127) by omega)]
  by_cases h2 : r < 2048
  ·rw [if_pos (show (128 : Int) ≤ (r : Int) ∧ (r : Int) ≤ 2047 by omega), aze r (by omega) h2]
   have a1 : (192 + (r : Int) / 64).toNat = 192 + r / 64 := by omega
   have a2 : (128 + (r : Int) % 64).toNat = 128 + r % 64 := by omega
   simp only [List.map_cons, List.map_nil, a1, a2]
  ·rw [if_neg (show ¬ ((128 : Int) ≤ (r : Int) ∧ (r : Int) ≤ 2047) by omega)]
   by_cases hv : r < 55296 ∨ 57343 < r
   ·by_cases h3 : r < 65536
    ·rw [if_pos (show ((2048 : Int) ≤ (r : Int) ∧ (r : Int) < 55296) ∨ ((57343 : Int) < (r : Int) ∧ (r : Int) ≤ 65535) by omega), ayq r (by omega) h3 hv]
     have a1 : (224 + (r : Int) / 4096).toNat = 224 + r / 4096 := by omega
     have a2 : (128 + (r : Int) / 64 % 64).toNat = 128 + r / 64 % 64 := by omega
     have a3 : (128 + (r : Int) % 64).toNat = 128 + r % 64 := by omega
     simp only [List.map_cons, List.map_nil, a1, a2, a3]
    ·rw [if_neg (show ¬ (((2048 : Int) ≤ (r : Int) ∧ (r : Int) < 55296) ∨ ((57343 : Int) < (r : Int) ∧ (r : Int) ≤ 65535)) by omega), if_pos (show (65536 : Int) ≤ (r : Int) ∧ (r : Int) ≤ 1114111 by omega), ayN r (by omega) h]
     have a1 : (240 + (r : Int) / 262144).toNat = 240 + r / 262144 := by omega
     have a2 : (128 + (r : Int) / 4096 % 64).toNat = 128 + r / 4096 % 64 := by omega
     have a3 : (128 + (r : Int) / 64 % 64).toNat = 128 + r / 64 % 64 := by omega
     have a4 : (128 + (r : Int) % 64).toNat = 128 + r % 64 := by omega
     simp only [List.map_cons, List.map_nil, a1, a2, a3, a4]
   ·rw [if_neg (show ¬ (((2048 : Int) ≤ (r : Int) ∧ (r : Int) < 55296) ∨ ((57343 : Int) < (r : Int) ∧ (r : Int) ≤ 65535)) by omega), if_neg (show ¬ ((65536 : Int) ≤ (r : Int) ∧ (r : Int) ≤ 1114111) by omega), aza r (by omega) (by omega)]
    rfl
theorem am6 : ∀ (f : Nat) (s : Str), s.length ≤ f → (Lib.validD s = true → zJ (rn f s) = s) ∧ (Lib.validD s = false → s.length < (zJ (rn f s)).length)
 | 0, s, h => by
  have : s = [] := List.eq_nil_of_length_eq_zero (by omega)
  subst this
  exact ⟨fun _ => rfl, fun h => by rw [Lib.validD_nil] at h; cases h⟩
 | f + 1, s, h => by
  unfold rn
  by_cases hne : s = []
  ·subst hne
   exact ⟨fun _ => by simp [zJ], fun h => by rw [Lib.validD_nil] at h; cases h⟩
  ·have hw := Lib.decodeL_width s
   have hl := Lib.decodeL_le s hne
   obtain ⟨ih1, ih2⟩ := am6 f (s.drop (Lib.decodeL s).2) (by simp; omega)
   have e : zJ (((Lib.decodeL s).1 : Int) :: rn f (s.drop (Lib.decodeL s).2)) = zq ((Lib.decodeL s).1 : Int) ++ zJ (rn f (s.drop (Lib.decodeL s).2)) := by simp [zJ]
   rw [if_neg hne, e, Lib.validD_step s hne]
   by_cases hb : (Lib.decodeL s).1 = 65533 ∧ (Lib.decodeL s).2 = 1
   ·rw [if_pos hb]
    refine ⟨fun h => (by cases h), fun _ => ?_⟩
    have e3 : (zq ((Lib.decodeL s).1 : Int)).length = 3 := by rw [hb.1]; rfl
    have e4 : (s.drop (Lib.decodeL s).2).length ≤ (zJ (rn f (s.drop (Lib.decodeL s).2))).length := by
     cases hv : Lib.validD (s.drop (Lib.decodeL s).2) with
     | true => rw [ih1 hv]; exact Nat.le_refl _
     | false => exact Nat.le_of_lt (ih2 hv)
    rw [List.length_append, e3]
    rw [List.length_drop, hb.2] at e4
    rw [hb.2]
    omega
   ·rw [if_neg hb]
    have e5 : zq ((Lib.decodeL s).1 : Int) = s.take (Lib.decodeL s).2 := by rw [auC _ (Lib.decodeL_rune s)]; exact Lib.encode_decode s hne hb
    refine ⟨fun hv => by rw [ih1 hv, e5, List.take_append_drop], fun hv => ?_⟩
    have := ih2 hv
    rw [List.length_append, e5, List.length_take]
    rw [List.length_drop] at this
    omega
theorem KJ {s : Str} (h : Lib.validD s = true) : zJ (runes s) = s := by rw [aeo]; exact (am6 _ s (Nat.le_refl _)).1 h
theorem abH (b : ByteArray) : ∀ (n i : Nat) (acc : Array Value), (Conv.runesFrom b n i acc).toList.length = acc.toList.length + Lib.runeCountFrom b n i
 | 0, i, acc => by simp [Conv.runesFrom, Lib.runeCountFrom]
 | n + 1, i, acc => by
  unfold Conv.runesFrom Lib.runeCountFrom
  split
  ·rename_i h
   rw [abH b n _ _]
   simp; omega
  ·rfl
theorem Zk (s : Str) : (runes s).length = aiH s := by
 unfold runes aiH Lib.runeCountL Lib.runeCount
 rw [List.length_map, abH]
 simp [ByteArray.size]
end Go.Proofs.YtclohbgnaopjfaaDoor
namespace Go.Proofs.YtclohbgnaopjfaaDoor
set_option linter.unusedSimpArgs false
set_option linter.unusedVariables false
open Go
theorem at1 : ∀ (l : List za) (last : Option za), (∀ x ∈ l, qg x = true) → ja l → (∀ x y, last = some x → l.head? = some y → wK x y = false) → yu last l = true
 | [], last, _, _, _ => acv last
 | y :: l, last, hf, hj, hl => by
  rw [KM, hf y (by simp)]
  have h2 : yu (some y) l = true := by
   refine at1 l (some y) (fun x hx => hf x (by simp [hx])) ?_ ?_
   ·cases l with
    | nil => trivial
    | cons z l => exact hj.2
   ·intro x z hx hz
    cases hx
    cases l with
    | nil => cases hz
    | cons z' l => cases hz; exact hj.1
  rw [h2]
  cases last with
  | none => rfl
  | some x => simp [hl x y rfl rfl]
theorem apI {n : za} (h : qg n = true) (ht : isT n = false) : ∀ k ∈ n.Kids, qg k = true := by
 have key : ∀ (l : List za) (last : Option za), yu last l = true → ∀ k ∈ l, qg k = true := by
  intro l
  induction l with
  | nil => simp
  | cons y l ih =>
   intro last h k hk
   rw [KM, Bool.and_eq_true, Bool.and_eq_true] at h
   rcases List.mem_cons.1 hk with rfl | hk
   ·exact h.1.1
   ·exact ih _ h.2 k hk
 rw [jA, if_neg (by simp [ht])] at h
 simp only [Bool.and_eq_true] at h
 exact key _ _ h.2
end Go.Proofs.YtclohbgnaopjfaaDoor
namespace Go.Proofs.YtclohbgnaopjfaaDoor
set_option linter.unusedSimpArgs false
set_option linter.unusedVariables false
open Go
theorem af1 (s t : Str) (hne : s ≠ []) (hv : ¬ ((Lib.decodeL s).1 = 65533 ∧ (Lib.decodeL s).2 = 1)) : Lib.decodeL (s.take (Lib.decodeL s).2 ++ t) = Lib.decodeL s := by
 have hl : 0 < s.length := List.length_pos_iff.2 hne
 have hS := Lib.decodeL_N s
 rcases Lib.decodeN_shape s.length (s.getD 0 0).toNat (s.getD 1 0).toNat (s.getD 2 0).toNat (s.getD 3 0).toNat with ⟨h1, e⟩ | ⟨h1, h2, h3, h4, e⟩ | ⟨h1, h2, h3, h4, h5, h6, e⟩ | ⟨h1, h2, h3, h4, h5, h6, h7, e⟩ | e
 ·rw [hS, e]
  simp only
  rw [Lib.takeA s hl, Lib.decodeL_N]
  simp only [List.cons_append, List.getD_cons_zero]
  unfold Lib.decodeN
  rw [if_pos h1]
 ·rw [hS, e]
  simp only
  rw [Lib.takeB s h2, Lib.decodeL_N]
  simp only [List.cons_append, List.nil_append, List.getD_cons_zero, List.getD_cons_succ]
  unfold Lib.decodeN
  rw [if_neg (by omega), if_pos ⟨h1, by simp, h3⟩, if_pos (by omega)]
 ·rw [hS, e]
  simp only
  rw [Lib.takeC s h2, Lib.decodeL_N]
  simp only [List.cons_append, List.nil_append, List.getD_cons_zero, List.getD_cons_succ]
  unfold Lib.decodeN
  rw [if_neg (by omega), if_neg (by omega), if_pos ⟨h1, ⟨by simp, h3⟩, by simp, h4⟩, if_pos ⟨by omega, by omega⟩]
 ·rw [hS, e]
  simp only
  rw [Lib.takeD s h2, Lib.decodeL_N]
  simp only [List.cons_append, List.nil_append, List.getD_cons_zero, List.getD_cons_succ]
  unfold Lib.decodeN
  rw [if_neg (by omega), if_neg (by omega), if_neg (by omega), if_pos ⟨h1, ⟨by simp, h3⟩, ⟨by simp, h4⟩, by simp, h5⟩, if_pos ⟨by omega, by omega⟩]
 ·rw [hS, e] at hv
  simp at hv
def VR (c : Int) : Prop := (∀ t : Str, runes (zq c ++ t) = c :: runes t) ∧ ∀ t : Str, Lib.validD (zq c ++ t) = Lib.validD t
theorem anG : ∀ (f g : Nat) (s : Str), s.length ≤ f → s.length ≤ g → rn f s = rn g s
 | 0, 0, s, _, _ => rfl
 | 0, g + 1, s, hf, _ => by
  have : s = [] := List.eq_nil_of_length_eq_zero (by omega)
  subst this
  simp [rn]
 | f + 1, 0, s, _, hg => by
  have : s = [] := List.eq_nil_of_length_eq_zero (by omega)
  subst this
  simp [rn]
 | f + 1, g + 1, s, hf, hg => by
  unfold rn
  by_cases h : s = []
  ·simp [h]
  ·have h1 := Lib.decodeL_width s
   have h2 := Lib.decodeL_le s h
   rw [if_neg h, if_neg h, anG f g _ (by simp; omega) (by simp; omega)]
theorem WR : runes [] = [] := by rw [aeo]; rfl
theorem acx (s : Str) (hne : s ≠ []) : runes s = ((Lib.decodeL s).1 : Int) :: runes (s.drop (Lib.decodeL s).2) := by
 rw [aeo, aeo]
 have h1 := Lib.decodeL_width s
 have h2 := Lib.decodeL_le s hne
 have hl : 0 < s.length := List.length_pos_iff.2 hne
 obtain ⟨n, hn⟩ : ∃ n, s.length = n + 1 := ⟨s.length - 1, by omega⟩
 rw [hn, rn, if_neg hne, anG n _ _ (by simp; omega) (Nat.le_refl _)]
theorem awm (s : Str) (hne : s ≠ []) (hv : ¬ ((Lib.decodeL s).1 = 65533 ∧ (Lib.decodeL s).2 = 1)) : VR ((Lib.decodeL s).1 : Int) ∧ zq ((Lib.decodeL s).1 : Int) = s.take (Lib.decodeL s).2 := by
 have e5 : zq ((Lib.decodeL s).1 : Int) = s.take (Lib.decodeL s).2 := by rw [auC _ (Lib.decodeL_rune s)]; exact Lib.encode_decode s hne hv
 have h1 := Lib.decodeL_width s
 have h2 := Lib.decodeL_le s hne
 have hlen : (s.take (Lib.decodeL s).2).length = (Lib.decodeL s).2 := by rw [List.length_take]; omega
 have hdr : ∀ t : Str, (s.take (Lib.decodeL s).2 ++ t).drop (Lib.decodeL s).2 = t := by
  intro t
  rw [List.drop_append_of_le_length (by omega), List.drop_of_length_le (by omega)]
  rfl
 refine ⟨⟨fun t => ?_, fun t => ?_⟩, e5⟩
 ·have hne' : zq ((Lib.decodeL s).1 : Int) ++ t ≠ [] := by
   intro h
   have := congrArg List.length h
   rw [List.length_append, e5, hlen, List.length_nil] at this
   omega
  rw [acx _ hne', e5, af1 s t hne hv, hdr]
 ·have hne' : zq ((Lib.decodeL s).1 : Int) ++ t ≠ [] := by
   intro h
   have := congrArg List.length h
   rw [List.length_append, e5, hlen, List.length_nil] at this
   omega
  rw [Lib.validD_step _ hne', e5, af1 s t hne hv, if_neg hv, hdr]
theorem awT : ∀ (f : Nat) (s : Str), s.length ≤ f → Lib.validD s = true → ∀ c ∈ runes s, VR c
 | 0, s, h, _, c, hc => by
  have : s = [] := List.eq_nil_of_length_eq_zero (by omega)
  subst this
  rw [WR] at hc
  cases hc
 | f + 1, s, h, hv, c, hc => by
  by_cases hne : s = []
  ·subst hne
   rw [WR] at hc
   cases hc
  ·rw [Lib.validD_step s hne] at hv
   by_cases hb : (Lib.decodeL s).1 = 65533 ∧ (Lib.decodeL s).2 = 1
   ·rw [if_pos hb] at hv; cases hv
   ·rw [if_neg hb] at hv
    have h1 := Lib.decodeL_width s
    rw [acx s hne] at hc
    rcases List.mem_cons.1 hc with rfl | hc
    ·exact (awm s hne hb).1
    ·exact awT f (s.drop (Lib.decodeL s).2) (by simp; omega) hv c hc
theorem ahX {s : Str} (h : Lib.validD s = true) : ∀ c ∈ runes s, VR c := awT s.length s (Nat.le_refl _) h
theorem JX (c : Int) (l : List Int) : zJ (c :: l) = zq c ++ zJ l := by simp [zJ]
theorem Yh (a b : List Int) : zJ (a ++ b) = zJ a ++ zJ b := by simp [zJ]
theorem afl : ∀ (l : List Int) (t : Str), (∀ c ∈ l, VR c) → runes (zJ l ++ t) = l ++ runes t ∧ Lib.validD (zJ l ++ t) = Lib.validD t
 | [], t, _ => by simp [zJ]
 | c :: l, t, h => by
  obtain ⟨h1, h2⟩ := afl l t fun x hx => h x (by simp [hx])
  obtain ⟨h3, h4⟩ := h c (by simp)
  rw [JX, List.append_assoc, h3, h1, h4, h2]
  simp
theorem Ye {l : List Int} (h : ∀ c ∈ l, VR c) : runes (zJ l) = l ∧ Lib.validD (zJ l) = true := by
 have := afl l [] h
 simpa [WR, Lib.validD_nil] using this
theorem aeU {s : Str} (t : Str) (h : Lib.validD s = true) : runes (s ++ t) = runes s ++ runes t ∧ Lib.validD (s ++ t) = Lib.validD t := by
 have := afl (runes s) t (ahX h)
 rwa [KJ h] at this
end Go.Proofs.YtclohbgnaopjfaaDoor
namespace Go.Proofs.YtclohbgnaopjfaaDoor
set_option linter.unusedSimpArgs false
set_option linter.unusedVariables false
open Go
inductive It where
 | sgn (c : Int) (m : List Str)
 | nod (n : za)
def itN (n : za) : List It := if isT n = true then (runes n.Text).map (fun c => It.sgn c n.Marks) else [.nod n]
def items : List za → List It
 | [] => []
 | n :: l => itN n ++ items l
theorem Qv (a b : List za) : items (a ++ b) = items a ++ items b := by
 induction a with
 | nil => rfl
 | cons n a ih => simp only [List.cons_append, items, ih, List.append_assoc]
def ajk : It → Nat
 | .sgn _ _ => 1
 | .nod n => wO n
def szI : List It → Nat
 | [] => 0
 | i :: l => ajk i + szI l
theorem QL (a b : List It) : szI (a ++ b) = szI a + szI b := by
 induction a with
 | nil => simp [szI]
 | cons n a ih => simp only [List.cons_append, szI, ih]; omega
theorem aqo (cs : List Int) (m : List Str) : szI (cs.map fun c => It.sgn c m) = cs.length := by
 induction cs with
 | nil => rfl
 | cons c cs ih => simp only [List.map_cons, szI, ajk, ih, List.length_cons]; omega
theorem amw (n : za) : szI (itN n) = wO n := by
 unfold itN
 rw [jZ]
 cases h : isT n with
 | true => simp only [if_true]; rw [aqo, Zk]
 | false => simp only [Bool.false_eq_true, if_false, szI, ajk]; rw [jZ, h]; simp
theorem yc (l : List za) : szI (items l) = zC l := by
 induction l with
 | nil => rfl
 | cons n l ih => simp only [items, zC, QL, amw, ih]
theorem aaD : ∀ i : It, (∀ n, i = .nod n → isT n = false) → 1 ≤ ajk i
 | .sgn _ _, _ => Nat.le_refl _
 | .nod n, h => by
  have := h n rfl
  simp only [ajk]
  rw [jZ, this]
  simp
  omega
def apc (i : It) : Prop := ∀ n, i = .nod n → isT n = false
theorem avV (n : za) : ∀ i ∈ itN n, apc i := by
 intro i hi m hm
 unfold itN at hi
 cases h : isT n with
 | true =>
  rw [h] at hi
  simp only [if_true, List.mem_map] at hi
  obtain ⟨c, _, rfl⟩ := hi
  cases hm
 | false =>
  rw [h] at hi
  simp only [Bool.false_eq_true, if_false, List.mem_singleton] at hi
  rw [hi] at hm
  cases hm
  exact h
theorem aa0 (l : List za) : ∀ i ∈ items l, apc i := by
 induction l with
 | nil => intro i hi; cases hi
 | cons n l ih =>
  intro i hi
  rcases List.mem_append.1 hi with hi | hi
  ·exact avV n i hi
  ·exact ih i hi
theorem aj1 : ∀ (a a' b b' : List It), (∀ i ∈ a ++ b, apc i) → a ++ b = a' ++ b' → szI a = szI a' → a = a' ∧ b = b'
 | [], [], b, b', _, h, _ => ⟨rfl, h⟩
 | [], i :: a', b, b', hn, h, hs => by
  exfalso
  have := aaD i (hn i (by rw [h]; simp))
  simp only [szI] at hs
  omega
 | i :: a, [], b, b', hn, h, hs => by
  exfalso
  have := aaD i (hn i (by simp))
  simp only [szI] at hs
  omega
 | i :: a, j :: a', b, b', hn, h, hs => by
  simp only [List.cons_append, List.cons.injEq] at h
  obtain ⟨rfl, h⟩ := h
  simp only [szI] at hs
  obtain ⟨h1, h2⟩ := aj1 a a' b b' (fun x hx => hn x (by simp at hx ⊢; exact .inr hx)) h (by omega)
  exact ⟨by rw [h1], h2⟩
def Gd (n : za) : Prop := isT n = true → Lib.validD n.Text = true ∧ n.zh = [] ∧ n.Kids = []
theorem Gd.plain {n : za} (h : Gd n) : Plain n := fun ht => (h ht).2
theorem Xa {n : za} (h : isT n = true) : n.Kind = jm := by simpa [isT] using h
abbrev tN (t : Str) (m : List Str) : za := ⟨jm, t, m, [], []⟩
theorem avq {n : za} (h : Gd n) (ht : isT n = true) : n = tN n.Text n.Marks := by
 have h1 := Xa ht
 obtain ⟨_, h2, h3⟩ := h ht
 cases n
 simp_all
def av8 : It → za
 | .sgn c m => tN (zq c) m
 | .nod n => n
def canon (l : List It) : List za := yF (l.map av8)
theorem akD (m : List Str) : ∀ (cs : List Int) (o : List za), ((cs.map fun c => It.sgn c m).map av8).foldl joinStep o = joinStep o (tN (zJ cs) m)
 | [], o => by
  have : joinStep o (tN (zJ []) m) = o := by unfold joinStep; rfl
  rw [this]
  rfl
 | c :: cs, o => by
  rw [List.map_cons, List.map_cons, List.foldl_cons, akD m cs, JX]
  exact amK o (tN (zq c) m) (tN (zJ cs) m) rfl rfl rfl rfl rfl
theorem aua {n : za} (h : Gd n) (o : List za) : ((itN n).map av8).foldl joinStep o = joinStep o n := by
 unfold itN
 cases ht : isT n with
 | true =>
  simp only [if_true]
  rw [akD, KJ (h ht).1, ← avq h ht]
 | false => rfl
theorem aiw : ∀ (l o : List za), (∀ x ∈ l, Gd x) → ((items l).map av8).foldl joinStep o = l.foldl joinStep o
 | [], o, _ => rfl
 | n :: l, o, h => by
  rw [items, List.map_append, List.foldl_append, aua (h n (by simp)), aiw l _ fun x hx => h x (by simp [hx])]
  rfl
theorem ape {l : List za} (h : ∀ x ∈ l, Gd x) : yF l = canon (items l) := (aiw l [] h).symm
theorem YP (o : List za) (n : za) (ho : ∀ x ∈ o, Gd x) (hn : Gd n) : items (joinStep o n) = items o ++ itN n ∧ ∀ x ∈ joinStep o n, Gd x := by
 have e1 : ∀ x, items [x] = itN x := fun x => by simp [items]
 have plain : items (o ++ [n]) = items o ++ itN n ∧ ∀ x ∈ o ++ [n], Gd x := by
  refine ⟨by rw [Qv, e1], fun x hx => ?_⟩
  rcases List.mem_append.1 hx with hx | hx
  ·exact ho x hx
  ·simp at hx; rw [hx]; exact hn
 by_cases hc : (isT n && n.Text == []) = true
 ·have e : joinStep o n = o := by unfold joinStep; rw [if_pos hc]
  rw [e]
  simp only [Bool.and_eq_true, beq_iff_eq] at hc
  refine ⟨?_, ho⟩
  unfold itN
  rw [if_pos hc.1, hc.2, WR]
  simp
 ·rcases kH o with rfl | ⟨o, x, rfl⟩
  ·rw [vO, if_neg hc]
   simpa using plain
  ·rw [wS, if_neg hc]
   by_cases hd : (isT n && isT x && decide (x.Marks = n.Marks)) = true
   ·rw [if_pos hd]
    simp only [Bool.and_eq_true, decide_eq_true_eq] at hd
    obtain ⟨⟨h1, h2⟩, h3⟩ := hd
    have hx := ho x (by simp) h2
    have hn' := hn h1
    have ht : isT ({ n with Text := x.Text ++ n.Text } : za) = true := h1
    obtain ⟨r1, r2⟩ := aeU n.Text hx.1
    refine ⟨?_, fun y hy => ?_⟩
    ·rw [Qv, Qv, e1, e1, List.append_assoc]
     congr 1
     unfold itN
     rw [if_pos ht, if_pos h1, if_pos h2]
     simp only [r1, List.map_append, h3]
    ·rcases List.mem_append.1 hy with hy | hy
     ·exact ho y (by simp [hy])
     ·simp only [List.mem_singleton] at hy
      rw [hy]
      exact fun _ => ⟨by simp only [r2]; exact hn'.1, hn'.2⟩
   ·rw [if_neg hd]
    simpa [List.append_assoc] using plain
theorem aja : ∀ (l o : List za), (∀ x ∈ o, Gd x) → (∀ x ∈ l, Gd x) → items (l.foldl joinStep o) = items o ++ items l ∧ ∀ x ∈ l.foldl joinStep o, Gd x
 | [], o, ho, _ => ⟨by simp [items], ho⟩
 | n :: l, o, ho, hl => by
  obtain ⟨h1, h2⟩ := YP o n ho (hl n (by simp))
  obtain ⟨h3, h4⟩ := aja l _ h2 fun x hx => hl x (by simp [hx])
  refine ⟨?_, h4⟩
  rw [List.foldl_cons, h3, h1, List.append_assoc]
  rfl
theorem apb {l : List za} (h : ∀ x ∈ l, Gd x) : items (yF l) = items l ∧ ∀ x ∈ yF l, Gd x := by
 have := aja l [] (by simp) h
 exact ⟨this.1.trans (by simp [items]), this.2⟩
def Jnd (l : List za) : Prop := ja l ∧ ∀ x ∈ l, isT x = true → x.Text ≠ []
theorem aoG {a : za} {l : List za} (h : ja (a :: l)) : ja l := by
 cases l with
 | nil => trivial
 | cons b l => exact h.2
theorem aqO : ∀ (o : List za) (x n : za) (l : List za), ja (o ++ x :: n :: l) → wK x n = false
 | [], x, n, l, h => h.1
 | y :: o, x, n, l, h => aqO o x n l (aoG (a := y) (l := o ++ x :: n :: l) h)
theorem aj9 : ∀ (l o : List za), ja (o ++ l) → (∀ x ∈ l, isT x = true → x.Text ≠ []) → l.foldl joinStep o = o ++ l
 | [], o, _, _ => by simp
 | n :: l, o, h, hl => by
  have hn := hl n (by simp)
  have hc : ¬ (isT n && n.Text == []) = true := by
   simp only [Bool.and_eq_true, beq_iff_eq]
   rintro ⟨h1, h2⟩
   exact hn h1 h2
  have e : joinStep o n = o ++ [n] := by
   rcases kH o with rfl | ⟨o, x, rfl⟩
   ·rw [vO, if_neg hc]; rfl
   ·rw [wS, if_neg hc]
    have ha := aqO o x n l (by simpa using h)
    unfold wK at ha
    have : (isT n && isT x && decide (x.Marks = n.Marks)) = false := by rw [Bool.and_comm (isT n)]; exact ha
    rw [this]
    simp
  rw [List.foldl_cons, e, aj9 l _ (by simpa using h) fun x hx => hl x (by simp [hx])]
  simp
theorem Jnd.join {l : List za} (h : Jnd l) : yF l = l := by
 have := aj9 l [] h.1 h.2
 simpa [yF] using this
theorem Jnd.canon {l : List za} (h : Jnd l) (hg : ∀ x ∈ l, Gd x) : l = canon (items l) := by
 rw [← ape hg, h.join]
theorem awC {a b : List za} (ha : Jnd a) (hb : Jnd b) (ga : ∀ x ∈ a, Gd x) (gb : ∀ x ∈ b, Gd x) (h : items a = items b) : a = b := by
 rw [ha.canon ga, hb.canon gb, h]
theorem aeS : ∀ (a b : List za), ja (a ++ b) → ja a
 | [], _, _ => trivial
 | [x], _, _ => trivial
 | x :: y :: a, b, h => ⟨h.1, aeS (y :: a) b h.2⟩
theorem ajZ : ∀ (a b : List za), ja (a ++ b) → ja b
 | [], _, h => h
 | x :: a, b, h => ajZ a b (aoG (a := x) (l := a ++ b) h)
theorem ajg : ∀ (a : List za) (x y : za), ja (a ++ [x]) → (∀ z, wK z y = wK z x) → ja (a ++ [y])
 | [], _, _, _, _ => trivial
 | [z], x, y, h, e => ⟨by rw [e]; exact h.1, trivial⟩
 | z :: w :: a, x, y, h, e => ⟨h.1, ajg (w :: a) x y h.2 e⟩
theorem aiO (x y : za) (l : List za) (h : ja (x :: l)) (e : ∀ z, wK y z = wK x z) : ja (y :: l) := by
 cases l with
 | nil => trivial
 | cons z l => exact ⟨by rw [e]; exact h.1, h.2⟩
end Go.Proofs.YtclohbgnaopjfaaDoor
namespace Go.Proofs.YtclohbgnaopjfaaDoor
set_option linter.unusedSimpArgs false
set_option linter.unusedVariables false
open Go
theorem aqG {α : Type} (o : List α) (x y : α) : wr (o ++ [x]) (o.length : Int) y = some (o ++ [y]) := by
 unfold wr
 rw [if_pos (by simp; omega)]
 simp
theorem am2 : ∀ (l : List za) (i : Int) (o : List za), zN o + zN l ≤ 1099511627776 → ky l i o = some (l.foldl joinStep o)
 | [], i, o, _ => by simp [ky]
 | n :: l, i, o, hw => by
  simp only [zN] at hw
  have hjw := YV o n
  have ih := am2 l (i + 1) (joinStep o n) (by omega)
  have hol := qw o
  have eapp : app 104 o [n] = some (o ++ [n]) := wJ (by simp; omega)
  rw [ky, List.foldl_cons, VB]
  simp only [Option.bind_some]
  rcases kH o with rfl | ⟨o, x, rfl⟩
  ·rw [vO] at ih ⊢
   have hneg : decide (w64 ((([] : List za).length : Int) - 1) ≥ 0) = false := by rw [zW (by simp)]; simp
   by_cases ht : isT n = true
   ·by_cases he : n.Text = []
    ·simp only [ht, he, Bool.true_and, beq_self_eq_true, if_true] at ih ⊢
     exact ih
    ·have he' : (n.Text == []) = false := by simp [he]
     simp only [ht, he', Bool.true_and, Bool.false_eq_true, if_false] at ih ⊢
     simp only [if_true, hneg, Bool.false_eq_true, if_false, eapp, Option.bind_some]
     exact ih
   ·have ht2 : isT n = false := by simpa using ht
    simp only [ht2, Bool.false_and, Bool.false_eq_true, if_false] at ih ⊢
    simp only [hneg, Bool.false_eq_true, if_false, eapp, Option.bind_some]
    exact ih
  ·rw [wS] at ih ⊢
   have hw1 : w64 (((o ++ [x]).length : Int) - 1) = (o.length : Int) := by
    rw [zW (by simp at hol ⊢; omega)]
    simp
   have hx : rd (o ++ [x]) (o.length : Int) = some x := Qf o [] x
   have hpos : decide ((o.length : Int) ≥ 0) = true := by simp
   have hwx : nwt x ≤ zN (o ++ [x]) := jI (by simp)
   have hx1 := qi x
   have hn1 := qi n
   have hxm := aa9 x.Marks
   have hal : wK x n = (isT n && isT x && decide (x.Marks = n.Marks)) := by unfold wK; rw [Bool.and_comm (isT x)]
   rw [hw1, hx]
   simp only [hpos, if_true, Option.bind_some]
   rw [amZ x n (by omega), aqG]
   simp only [Option.bind_some, hal]
   by_cases ht : isT n = true
   ·by_cases he : n.Text = []
    ·simp only [ht, he, Bool.true_and, beq_self_eq_true, if_true] at ih ⊢
     exact ih
    ·have he' : (n.Text == []) = false := by simp [he]
     simp only [ht, he', Bool.true_and, Bool.false_eq_true, if_false, if_true] at ih ⊢
     cases hc : (isT x && decide (x.Marks = n.Marks)) with
     | true =>
      simp only [hc, if_true] at ih ⊢
      rw [qB (by omega)]
      exact ih
     | false =>
      simp only [hc, Bool.false_eq_true, if_false] at ih ⊢
      rw [eapp]
      simp only [Option.bind_some, List.append_assoc, List.cons_append, List.nil_append]
      exact ih
   ·have ht2 : isT n = false := by simpa using ht
    simp only [ht2, Bool.false_and, Bool.false_eq_true, if_false] at ih ⊢
    rw [eapp]
    simp only [Option.bind_some, List.append_assoc, List.cons_append, List.nil_append]
    exact ih
theorem ade (l : List za) (h : zN l ≤ 1099511627776) : WZ l = some (yF l) := by
 have hl := qw l
 unfold WZ
 rw [qB (by omega), am2 l 0 [] (by simpa [zN] using h)]
 rfl
end Go.Proofs.YtclohbgnaopjfaaDoor
namespace Go.Proofs.YtclohbgnaopjfaaDoor
set_option linter.unusedSimpArgs false
set_option linter.unusedVariables false
open Go
def up (q : List Nat) : List Int := q.map fun (i : Nat) => (i : Int)
theorem auV : up [] = [] := rfl
theorem alM (i : Nat) (q : List Nat) : up (i :: q) = (i : Int) :: up q := rfl
theorem apg (p q : List Nat) : up (p ++ q) = up p ++ up q := by simp [up]
theorem J4 (q : List Nat) : (up q).length = q.length := by simp [up]
theorem au5 {p q : List Nat} (h : up p = up q) : p = q := by
 induction p generalizing q with
 | nil => cases q with
  | nil => rfl
  | cons b q => simp [up] at h
 | cons a p ih => cases q with
  | nil => simp [up] at h
  | cons b q =>
   simp only [alM, List.cons.injEq] at h
   rw [ih h.2, Int.ofNat_inj.1 h.1]
abbrev afA : za := { Kind := ([] : Str), Text := ([] : Str), Marks := [], zh := [], Kids := [] }
theorem amM {α : Type} {l : List α} {b : Nat} (h : b ≤ l.length) : sl l 0 (b : Int) = some (l.take b) := by
 have := J6 (l := l) (a := 0) (b := b) (by omega) h
 simpa using this
inductive At : za → List Nat → za → Nat → Prop
 | nil (n : za) : At n [] n 0
 | cons (n : za) (i : Nat) (k : za) (q : List Nat) (m : za) (a : Nat) (hi : n.Kids[i]? = some k) (hn : isT n = false) (hk : isT k = false) (h : At k q m a) : At n (i :: q) m (zC (n.Kids.take i) + 1 + a)
theorem Xi {l : List za} {i : Nat} {k : za} (h : l[i]? = some k) : l = l.take i ++ k :: l.drop (i + 1) := by
 obtain ⟨hi, rfl⟩ := List.getElem?_eq_some_iff.1 h
 simp
theorem aeV {l : List za} {i : Nat} {k : za} (h : l[i]? = some k) : zC l = zC (l.take i) + wO k + zC (l.drop (i + 1)) := by
 conv => lhs; rw [Xi h]
 rw [XH, zC]; omega
theorem adQ {l : List za} {i : Nat} {k : za} (h : l[i]? = some k) : zN l = zN (l.take i) + nwt k + zN (l.drop (i + 1)) := by
 conv => lhs; rw [Xi h]
 rw [kX, zN]; omega
theorem acC (l : List za) (i : Nat) : zC (l.take i) ≤ zC l := by
 have := XH (l.take i) (l.drop i)
 rw [List.take_append_drop] at this
 omega
theorem aoq (l : List za) (i : Nat) : zN (l.take i) ≤ zN l := by
 have := kX (l.take i) (l.drop i)
 rw [List.take_append_drop] at this
 omega
theorem At.azy {n : za} {q m a} (h : At n q m a) (hn : isT n = false) : isT m = false := by
 induction h with
 | nil => exact hn
 | cons n i k q m a hi hn' hk h ih => exact ih hk
theorem At.sizes {n : za} {q m a} (h : At n q m a) : a + zC m.Kids ≤ zC n.Kids := by
 induction h with
 | nil => omega
 | cons n i k q m a hi hn hk h ih =>
  have h1 := aeV hi
  have h2 := Qm hk
  omega
theorem At.len {n : za} {q m a} (h : At n q m a) : q.length ≤ a := by
 induction h with
 | nil => simp
 | cons n i k q m a hi hn hk h ih => simp only [List.length_cons]; omega
theorem At.wt {n : za} {q m a} (h : At n q m a) : nwt m ≤ nwt n := by
 induction h with
 | nil => omega
 | cons n i k q m a hi hn hk h ih =>
  have h1 := adQ hi
  have h2 := wU n
  omega
theorem At.dep {n : za} {q m a} (h : At n q m a) : yS m ≤ yS n := by
 induction h with
 | nil => omega
 | cons n i k q m a hi hn hk h ih =>
  have h1 := xR (List.mem_of_getElem? hi)
  have h2 := xy n
  omega
theorem At.snoc {n : za} {q m a} (h : At n q m a) {i k} (hi : m.Kids[i]? = some k) (hm : isT m = false) (hk : isT k = false) : At n (q ++ [i]) k (a + zC (m.Kids.take i) + 1) := by
 induction h with
 | nil n =>
  have := At.cons n i k [] k 0 hi hm hk (.nil k)
  simpa using this
 | cons n j x q m a hj hn hx h ih =>
  have := At.cons n j x _ _ _ hj hn hx (ih hi hm)
  have e : zC (n.Kids.take j) + 1 + a + zC (m.Kids.take i) + 1 = zC (n.Kids.take j) + 1 + (a + zC (m.Kids.take i) + 1) := by omega
  rw [e]
  exact this
theorem At.axy {n : za} : ∀ {q : List Nat} {i k a}, At n (q ++ [i]) k a → ∃ m b, At n q m b ∧ m.Kids[i]? = some k ∧ isT m = false ∧ isT k = false ∧ a = b + zC (m.Kids.take i) + 1 := by
 intro q
 induction q generalizing n with
 | nil =>
  intro i k a h
  cases h with
  | cons _ _ x _ _ a hi hn hk h =>
   cases h
   exact ⟨n, 0, .nil n, hi, hn, hk, by omega⟩
 | cons j q ih =>
  intro i k a h
  cases h with
  | cons _ _ x _ _ a hi hn hk h =>
   obtain ⟨m, b, h1, h2, h3, h4, h5⟩ := ih h
   exact ⟨m, _, .cons n j x q m b hi hn hk h1, h2, h3, h4, by omega⟩
end Go.Proofs.YtclohbgnaopjfaaDoor
namespace Go.Proofs.YtclohbgnaopjfaaDoor
set_option linter.unusedSimpArgs false
set_option linter.unusedVariables false
open Go
theorem avp {n : za} {q m a} (h : At n q m a) : ∀ v, qR (up q) v n = some (.inr m) := by
 induction h with
 | nil n => intro v; rfl
 | cons n i k q m a hi hn hk h ih =>
  intro v
  have hl := (List.getElem?_eq_some_iff.1 hi).1
  have h1 : decide ((i : Int) < 0) = false := by simp
  have h2 : decide ((i : Int) ≥ (n.Kids.length : Int)) = false := by simp; omega
  rw [alM, qR]
  simp only [Qa, h1, h2, hn, Bool.false_eq_true, if_false, xM hi, Option.bind_some, ih]
theorem KH {n : za} {q m a} (h : At n q m a) (hm : isT m = false) (hq : q.length ≤ 9223372036854775807) : vE n (up q) = some (m, 0) := by
 unfold vE
 rw [J4, qB hq, avp h]
 simp only [Option.bind_some, Qa, hm, Bool.false_eq_true, if_false]
theorem auY {n : za} {q m a} (h : At n q m a) : ∀ v (t : Nat), nwt n ≤ 1099511627776 → t + a ≤ 4611686018427387904 → jT (up q) v (t : Int) n = some ((t + a : Nat) : Int) := by
 induction h with
 | nil n => intro v t _ _; rfl
 | cons n i k q m a hi hn hk h ih =>
  intro v t hw ht
  have hl := (List.getElem?_eq_some_iff.1 hi).1
  have h1 := adQ hi
  have h2 := wU n
  have h3 := vz (n.Kids.take i)
  rw [alM, jT, amM (by omega)]
  simp only [Option.bind_some]
  rw [QN _ (by omega), xM hi]
  simp only [Option.bind_some]
  have e : w64 ((t : Int) + w64 ((zC (n.Kids.take i) : Int) + 1)) = ((t + (zC (n.Kids.take i) + 1) : Nat) : Int) := by
   rw [zW (x := (zC (n.Kids.take i) : Int) + 1) (by omega), zW (by omega)]
   omega
  rw [e, ih _ _ (by omega) (by omega)]
  simp only [Option.some.injEq]
  omega
theorem start_eq {n : za} {q m a} (h : At n q m a) (hm : isT m = false) (hw : nwt n ≤ 1099511627776) : KP n (up q) = some ((a : Int), 0) := by
 have h1 := h.len
 have h2 := h.sizes
 have h3 := vz n.Kids
 have h4 := wU n
 unfold KP
 rw [KH h hm (by omega)]
 have := auY h 0 0 hw (by omega)
 simp only [Option.bind_some, bne_self_eq_false, Bool.false_eq_true, if_false]
 rw [J4, qB (by omega)]
 have e : ((0 : Nat) : Int) = 0 := rfl
 rw [e] at this
 rw [this]
 simp
def JW (n : za) (s : wG) (pos : Nat) : Prop :=
 ∃ q m a idx off, s = ⟨up q, ((idx : Nat) : Int), ((off : Nat) : Int)⟩ ∧ At n q m a ∧ isT m = false ∧ idx ≤ m.Kids.length ∧ a + zC (m.Kids.take idx) + off = pos ∧ (∀ k, m.Kids[idx]? = some k → off < wO k ∧ (0 < off → isT k = true)) ∧ (idx = m.Kids.length → off = 0)
theorem ai9 (path : List Int) (hp : path.length ≤ 1099511627776) : ∀ (suf : List za) (i pos : Nat), zN suf ≤ 1099511627776 → pos ≤ 1099511627776 → i + suf.length ≤ 9223372036854775807 →
    (zC suf ≤ pos ∧ qh path suf (i : Int) (pos : Int) = some (.inr (.inr ()))) ∨
    ∃ a k b r, suf = a ++ k :: b ∧ pos = zC a + r ∧ r < wO k ∧
      (((isT k = true ∨ r = 0) ∧ qh path suf (i : Int) (pos : Int) = some (.inl (⟨path, ((i + a.length : Nat) : Int), ((r : Nat) : Int)⟩, 0))) ∨
       (isT k = false ∧ 0 < r ∧ qh path suf (i : Int) (pos : Int) = some (.inr (.inl (((r - 1 : Nat) : Int), k, path ++ [((i + a.length : Nat) : Int)])))))
  | [], i, pos, _, _, _ => .inl ⟨by simp [zC], rfl⟩
  | y :: suf, i, pos, hw, hpos, hi => by
    simp only [zN] at hw
    have hy := ahv y
    by_cases h : wO y ≤ pos
    · have step : qh path (y :: suf) (i : Int) (pos : Int) = qh path suf ((i + 1 : Nat) : Int) ((pos - wO y : Nat) : Int) := by
        rw [qh, size_eq y (by omega)]
        have : decide ((pos : Int) ≥ (wO y : Int)) = true := by simp; omega
        simp only [Option.bind_some, this, if_true]
        rw [zW (by omega)]
        congr 1
        omega
      simp only [List.length_cons] at hi
      rcases ai9 path hp suf (i + 1) (pos - wO y) (by omega) (by omega) (by omega) with ⟨h1, h2⟩ | ⟨a, k, b, r, h1, h2, h3, h4⟩
      · left
        exact ⟨by simp only [zC]; omega, by rw [step, h2]⟩
      · right
        have e : i + 1 + a.length = i + (y :: a).length := by simp; omega
        rw [e] at h4
        exact ⟨y :: a, k, b, r, by rw [h1]; rfl, by simp only [zC]; omega, h3, by rw [step]; exact h4⟩
    · right
      have hd : decide ((pos : Int) ≥ (wO y : Int)) = false := by simp; omega
      refine ⟨[], y, suf, pos, rfl, by simp [zC], by omega, ?_⟩
      rw [qh, size_eq y (by omega)]
      simp only [Option.bind_some, hd, Bool.false_eq_true, if_false, List.length_nil, Nat.add_zero]
      by_cases ht : isT y = true
      · left
        exact ⟨.inl ht, by simp only [Qa, ht, if_true]⟩
      · have ht' : isT y = false := by simpa using ht
        simp only [Qa, ht', Bool.false_eq_true, if_false]
        by_cases h0 : pos = 0
        · left
          subst h0
          exact ⟨.inr rfl, by simp⟩
        · right
          have : ((pos : Int) == 0) = false := by simp; omega
          refine ⟨trivial, by omega, ?_⟩
          simp only [this, Bool.false_eq_true, if_false]
          rw [wJ (by simp; omega), zW (by omega)]
          simp only [Option.bind_some, Option.some.injEq, Sum.inr.injEq, Sum.inl.injEq, Prod.mk.injEq, and_true]
          omega
theorem aiR (n0 : za) (hw0 : nwt n0 ≤ 1099511627776) : ∀ (d : Nat) (n : za) (q : List Nat) (a pos : Nat), yS n ≤ d → At n0 q n a → isT n = false → pos ≤ zC n.Kids → ∃ s, JW n0 s (a + pos) ∧ ∀ k, d ≤ k → kL k (pos : Int) n (up q) = some (s, 0)
 | 0, n, q, a, pos, hd, _, _, _ => by have := xy n; omega
 | d + 1, n, q, a, pos, hd, hat, hn, hpos => by
  have h1 := hat.len
  have h2 := hat.sizes
  have h3 := vz n0.Kids
  have h4 := wU n0
  have h5 := hat.wt
  have h6 := wU n
  have h7 := qw n.Kids
  have h8 := vz n.Kids
  rcases ai9 (up q) (by rw [J4]; omega) n.Kids 0 pos (by omega) (by omega) (by omega) with ⟨e1, e2⟩ | ⟨x, k, y, r, e1, e2, e3, e4⟩
  ·refine ⟨⟨up q, (n.Kids.length : Int), 0⟩, ⟨q, n, a, n.Kids.length, 0, rfl, hat, hn, by omega, by simp; omega, fun k hk => by simp at hk, fun _ => rfl⟩, fun k hk => ?_⟩
   obtain ⟨k, rfl⟩ : ∃ j, k = j + 1 := ⟨k - 1, by omega⟩
   rw [kL, qB (by omega)]
   have e2' : qh (up q) n.Kids 0 (pos : Int) = _ := e2
   rw [e2']
   rfl
  ·have hx : n.Kids[x.length]? = some k := by rw [e1]; simp
   have htk : n.Kids.take x.length = x := by rw [e1]; simp
   have hle : x.length < n.Kids.length := by rw [e1]; simp
   rw [Nat.zero_add] at e4
   rcases e4 with ⟨e4, e5⟩ | ⟨e4, e5, e6⟩
   ·refine ⟨⟨up q, (x.length : Int), (r : Int)⟩, ⟨q, n, a, x.length, r, rfl, hat, hn, by omega, by rw [htk]; omega, fun k' hk' => ?_, fun h => by omega⟩, fun k' hk => ?_⟩
    ·rw [hx] at hk'
     cases hk'
     exact ⟨e3, fun h => e4.resolve_right (by omega)⟩
    ·obtain ⟨k', rfl⟩ : ∃ j, k' = j + 1 := ⟨k' - 1, by omega⟩
     rw [kL, qB (by omega)]
     have e2' : qh (up q) n.Kids 0 (pos : Int) = _ := e5
     rw [e2']
     rfl
   ·have hs := Qm e4
    have hdk := xR (List.mem_of_getElem? hx)
    have hdn := xy n
    obtain ⟨s, s1, s2⟩ := aiR n0 hw0 d k (q ++ [x.length]) _ (r - 1) (by omega) (hat.snoc hx hn e4) e4 (by omega)
    refine ⟨s, ?_, fun k' hk => ?_⟩
    ·rw [htk] at s1
     have e : a + zC x + 1 + (r - 1) = a + pos := by omega
     rw [e] at s1
     exact s1
    ·obtain ⟨k', rfl⟩ : ∃ j, k' = j + 1 := ⟨k' - 1, by omega⟩
     rw [kL, qB (by omega)]
     have e2' : qh (up q) n.Kids 0 (pos : Int) = _ := e6
     rw [e2']
     simp only [Option.bind_some]
     have := s2 k' (by omega)
     rw [apg] at this
     exact this
theorem Qe {n : za} (hn : isT n = false) (hw : nwt n ≤ 1099511627776) (pos : Nat) (hp : pos ≤ zC n.Kids) : ∃ s, kK n (pos : Int) = some (s, 0) ∧ JW n s pos := by
 have h4 := wU n
 obtain ⟨s, h1, h2⟩ := aiR n hw (yS n) n [] 0 pos (Nat.le_refl _) (.nil n) hn hp
 refine ⟨s, ?_, by simpa using h1⟩
 have hneg : decide ((pos : Int) < 0) = false := by simp
 have hgt : decide ((pos : Int) > (zC n.Kids : Int)) = false := by simp; omega
 unfold kK
 simp only [Qa, hn, Bool.false_eq_true, if_false, hneg]
 rw [QN _ (by omega)]
 simp only [Option.bind_some, hgt, Bool.false_eq_true, if_false]
 rw [auV] at h2
 rw [yV (yS n) h2]
 rfl
theorem anH {n : za} (hn : isT n = false) (hw : nwt n ≤ 1099511627776) (pos : Int) (hp : pos < 0 ∨ zC n.Kids < pos) : kK n pos = some (⟨[], 0, 0⟩, 3) := by
 have h4 := wU n
 unfold kK
 simp only [Qa, hn, Bool.false_eq_true, if_false]
 by_cases h : pos < 0
 ·simp [h]
 ·have hgt : decide (pos > (zC n.Kids : Int)) = true := by simp; omega
  have hneg : decide (pos < 0) = false := by simpa using h
  simp only [hneg, Bool.false_eq_true, if_false]
  rw [QN _ (by omega)]
  simp only [Option.bind_some, hgt, if_true]
theorem JW.le {n : za} {s pos} (h : JW n s pos) : pos ≤ zC n.Kids := by
 obtain ⟨q, m, a, idx, off, _, h1, _, h2, h3, h4, h5⟩ := h
 have hs := h1.sizes
 rcases Nat.lt_or_ge idx m.Kids.length with hl | hl
 ·obtain ⟨k, hk⟩ : ∃ k, m.Kids[idx]? = some k := ⟨_, List.getElem?_eq_getElem hl⟩
  have := aeV hk
  have := (h4 k hk).1
  omega
 ·have := h5 (by omega)
  have := acC m.Kids idx
  omega
end Go.Proofs.YtclohbgnaopjfaaDoor
namespace Go.Proofs.YtclohbgnaopjfaaDoor
set_option linter.unusedSimpArgs false
set_option linter.unusedVariables false
open Go
def QF : List Nat → za → za → za
 | [], _, x => x
 | i :: q, n, x => { n with Kids := match n.Kids[i]? with | some k => n.Kids.set i (QF q k x) | none => n.Kids }
theorem xm {n : za} {i : Nat} {k : za} (hi : n.Kids[i]? = some k) (q : List Nat) (x : za) : QF (i :: q) n x = { n with Kids := n.Kids.set i (QF q k x) } := by
 rw [QF, hi]
theorem Xu : ∀ (q : List Nat) (n x : za), isT n = false → isT x = false → isT (QF q n x) = false
 | [], n, x, _, h => h
 | i :: q, n, x, h, _ => h
theorem aw9 {x : za} {n : za} {q m a} (h : At n q m a) : nwt (QF q n x) + nwt m = nwt n + nwt x := by
 induction h with
 | nil n => rw [QF]; omega
 | cons n i k q m a hi hn hk h ih =>
  have hl := (List.getElem?_eq_some_iff.1 hi).1
  have h1 := adQ hi
  rw [xm hi, qi, qi n]
  simp only
  rw [List.set_eq_take_append_cons_drop, if_pos hl, kX, zN]
  omega
theorem At.rep {x : za} (hx : isT x = false) {n : za} {q m a} (h : At n q m a) : At (QF q n x) q x a := by
 induction h with
 | nil n => exact .nil _
 | cons n i k q m a hi hn hk h ih =>
  have hl := (List.getElem?_eq_some_iff.1 hi).1
  have := At.cons (QF (i :: q) n x) i (QF q k x) q x a (by rw [xm hi]; simp [hl]) hn (Xu q k x hk hx) ih
  have e : (QF (i :: q) n x).Kids.take i = n.Kids.take i := by
   rw [xm hi]
   simp only
   rw [List.take_set_of_le (Nat.le_refl _)]
  rw [e] at this
  exact this
theorem apz {α : Type} {l : List α} {i : Nat} (h : i < l.length) (x : α) : wr l (i : Int) x = some (l.set i x) := by
 unfold wr; rw [if_pos (by omega)]; simp
theorem axj {α : Type} (x : α) (l : List α) : sl (x :: l) 1 ((x :: l).length : Int) = some l := by
 have := J6 (l := x :: l) (a := 1) (b := (x :: l).length) (by simp) (by simp)
 simpa using this
theorem axR {x : za} {n : za} {q m a} (h : At n q m a) : isT n = false → nwt n ≤ 1099511627776 → ∀ kr, q.length < kr → xH kr n (up q) x = some (QF q n x, 0) := by
 induction h with
 | nil n =>
  intro hn hw kr hk
  obtain ⟨kr, rfl⟩ : ∃ j, kr = j + 1 := ⟨kr - 1, by omega⟩
  have := KH (At.nil n) hn (by simp)
  rw [xH, this]
  rfl
 | cons n i k q m a hi hn hk h ih =>
  intro _ hw kr hkr
  simp only [List.length_cons] at hkr
  obtain ⟨kr, rfl⟩ : ∃ j, kr = j + 1 := ⟨kr - 1, by omega⟩
  have hat := At.cons n i k q m a hi hn hk h
  have g1 := hat.len
  have g2 := hat.sizes
  have g3 := vz n.Kids
  have g4 := wU n
  have g5 := adQ hi
  have g6 := qw n.Kids
  have hl := (List.getElem?_eq_some_iff.1 hi).1
  have hnz : (((i :: q).length : Int) == 0) = false := by simp; omega
  have hin := KH hat (hat.azy hn) (by omega)
  have e1 : rd (up (i :: q)) 0 = some (i : Int) := xM (l := up (i :: q)) (i := 0) rfl
  have e2 : sl (up (i :: q)) 1 ((up (i :: q)).length : Int) = some (up q) := axj _ _
  have e3 : app 104 [] n.Kids = some n.Kids := wJ (by simp; omega)
  rw [xH, hin, e1, e2]
  simp only [Option.bind_some, bne_self_eq_false, Bool.false_eq_true, if_false, J4, hnz, qy, e3, xM hi]
  rw [ih hk (by omega) kr (by omega)]
  simp only [Option.bind_some]
  rw [apz hl, xm hi]
  rfl
theorem aqn {x : za} {n : za} {q m a} (h : At n q m a) (hn : isT n = false) (hw : nwt n ≤ 1099511627776) : Ke n (up q) x = some (QF q n x, 0) := by
 unfold Ke
 exact yV (q.length + 1) fun k hk => axR h hn hw k (by omega)
end Go.Proofs.YtclohbgnaopjfaaDoor
namespace Go.Proofs.YtclohbgnaopjfaaDoor
set_option linter.unusedSimpArgs false
set_option linter.unusedVariables false
open Go
structure vD (l : List za) : Prop where
 form : ∀ x ∈ l, qg x = true
 adj : ja l
theorem yI {n : za} (h : qg n = true) (ht : isT n = true) : n.Text ≠ [] ∧ Lib.validD n.Text = true ∧ vW n.Marks = true ∧ n.zh = [] ∧ n.Kids = [] := by
 rw [jA, if_pos ht] at h
 simp only [Bool.and_eq_true, decide_eq_true_eq] at h
 obtain ⟨⟨⟨h1, h2⟩, h3⟩, h4⟩ := h
 exact ⟨h1, h2, h3, List.eq_nil_of_length_eq_zero (by omega), List.eq_nil_of_length_eq_zero (by omega)⟩
theorem aha {t : Str} {m : List Str} (h1 : t ≠ []) (h2 : Lib.validD t = true) (h3 : vW m = true) : qg (tN t m) = true := by
 have ht : isT (tN t m) = true := rfl
 rw [jA, if_pos ht]
 simp [h1, h2, h3]
theorem ag1 {n : za} (h : qg n = true) : Gd n := fun ht => by
 obtain ⟨_, h2, _, h4, h5⟩ := yI h ht
 exact ⟨h2, h4, h5⟩
theorem anl {s : Str} (h : s ≠ []) : 1 ≤ aiH s := by
 rw [← Zk, acx s h]
 simp
theorem size_pos {n : za} (h : qg n = true) : 1 ≤ wO n := by
 rw [jZ]
 cases ht : isT n with
 | true => simpa using anl (yI h ht).1
 | false => simp; omega
theorem vD.gd {l : List za} (h : vD l) : ∀ x ∈ l, Gd x := fun x hx => ag1 (h.form x hx)
theorem vD.jnd {l : List za} (h : vD l) : Jnd l := ⟨h.adj, fun x hx ht => (yI (h.form x hx) ht).1⟩
theorem ahw {a b : List za} (ha : vD a) (hb : vD b) (h : items a = items b) : a = b := awC ha.jnd hb.jnd ha.gd hb.gd h
theorem vD.nil : vD [] := ⟨by simp, trivial⟩
theorem vD.left {a b : List za} (h : vD (a ++ b)) : vD a := ⟨fun x hx => h.form x (by simp [hx]), aeS a b h.adj⟩
theorem vD.right {a b : List za} (h : vD (a ++ b)) : vD b := ⟨fun x hx => h.form x (by simp [hx]), ajZ a b h.adj⟩
theorem ab9 (o : List za) (n : za) (h : vD o) (hn : qg n = true) : vD (joinStep o n) := by
 have hc : ¬ (isT n && n.Text == []) = true := by
  simp only [Bool.and_eq_true, beq_iff_eq]
  rintro ⟨h1, h2⟩
  exact (yI hn h1).1 h2
 rcases kH o with rfl | ⟨o, x, rfl⟩
 ·rw [vO, if_neg hc]
  exact ⟨fun y hy => by simp at hy; rw [hy]; exact hn, trivial⟩
 ·rw [wS, if_neg hc]
  have hx := h.form x (by simp)
  split
  ·rename_i hd
   simp only [Bool.and_eq_true, decide_eq_true_eq] at hd
   obtain ⟨⟨h1, h2⟩, h3⟩ := hd
   obtain ⟨a1, a2, a3, a4, a5⟩ := yI hx h2
   obtain ⟨b1, b2, b3, b4, b5⟩ := yI hn h1
   have e : ({ n with Text := x.Text ++ n.Text } : za) = tN (x.Text ++ n.Text) n.Marks := by
    have := Xa h1
    cases n
    simp_all
   have ef : qg ({ n with Text := x.Text ++ n.Text } : za) = true := by
    rw [e]
    refine aha (by simp [a1]) ?_ b3
    rw [(aeU n.Text a2).2]
    exact b2
   refine ⟨fun y hy => ?_, ?_⟩
   ·rcases List.mem_append.1 hy with hy | hy
    ·exact h.form y (by simp [hy])
    ·simp only [List.mem_singleton] at hy; rw [hy]; exact ef
   ·refine ajg o x _ h.adj fun z => ?_
    unfold wK
    have e1 : isT ({ n with Text := x.Text ++ n.Text } : za) = true := h1
    rw [e1, h2]
    simp only [h3]
  ·rename_i hd
   refine ⟨fun y hy => ?_, ?_⟩
   ·have hy' : y ∈ o ++ [x] ∨ y = n := by simpa [or_assoc] using hy
    rcases hy' with hy | rfl
    ·exact h.form y hy
    ·exact hn
   ·have ha : wK x n = false := by
     unfold wK
     rw [Bool.and_comm (isT x)]
     simpa using hd
    have := aqH o x n h.adj ha
    simpa using this
theorem aj5 : ∀ (l o : List za), vD o → (∀ x ∈ l, qg x = true) → vD (l.foldl joinStep o)
 | [], _, h, _ => h
 | n :: l, o, h, hl => aj5 l _ (ab9 o n h (hl n (by simp))) fun x hx => hl x (by simp [hx])
theorem afB {l : List za} (h : ∀ x ∈ l, qg x = true) : vD (yF l) ∧ items (yF l) = items l :=
 ⟨aj5 l [] .nil h, (apb fun x hx => ag1 (h x hx)).1⟩
theorem vD.join {l : List za} (h : vD l) : yF l = l := h.jnd.join
theorem ate : ∀ (l : List za) (last : Option za), yu last l = true → vD l ∧ ∀ x y, last = some x → l.head? = some y → wK x y = false
 | [], last, _ => ⟨.nil, by simp⟩
 | y :: l, last, h => by
  rw [KM, Bool.and_eq_true, Bool.and_eq_true] at h
  obtain ⟨⟨h1, h2⟩, h3⟩ := h
  obtain ⟨h4, h5⟩ := ate l (some y) h3
  refine ⟨⟨fun x hx => ?_, ?_⟩, ?_⟩
  ·rcases List.mem_cons.1 hx with rfl | hx
   ·exact h1
   ·exact h4.form x hx
  ·cases l with
   | nil => trivial
   | cons z l => exact ⟨h5 y z rfl rfl, h4.adj⟩
  ·rintro x y' rfl hy
   cases hy
   simpa using h2
theorem apj {l : List za} (h : vD l) : yu none l = true := at1 l none h.form h.adj fun _ _ hx => by cases hx
theorem kM {n : za} (h : qg n = true) (ht : isT n = false) : vD n.Kids := by
 rw [jA, if_neg (by simp [ht])] at h
 simp only [Bool.and_eq_true] at h
 exact (ate _ _ h.2).1
theorem aa8 {n : za} (h : qg n = true) (ht : isT n = false) {l : List za} (hl : vD l) : qg ({ n with Kids := l } : za) = true := by
 have ht' : isT ({ n with Kids := l } : za) = false := ht
 rw [jA, if_neg (by simp [ht])] at h
 rw [jA, if_neg (by simp [ht'])]
 simp only [Bool.and_eq_true] at h ⊢
 exact ⟨h.1, apj hl⟩
theorem anY : ∀ (l : List za) (i : Int) (at' : Nat), zN l ≤ 1099511627776 → at' ≤ 1099511627776 → ∃ (k r : Nat), jc l i (at' : Int) = some ((r : Int), i + (k : Int)) ∧ k ≤ l.length ∧ zC (l.take k) + r = at' ∧ ∀ y, l[k]? = some y → r < wO y
 | [], i, at', _, _ => ⟨0, at', by simp [jc], by simp, by simp [zC], by simp⟩
 | y :: l, i, at', hw, ha => by
  simp only [zN] at hw
  rw [jc, size_eq y (by omega)]
  simp only [Option.bind_some]
  by_cases hc : wO y ≤ at'
  ·have g : decide ((at' : Int) ≥ (wO y : Int)) = true := by simp; omega
   have e : w64 ((at' : Int) - (wO y : Int)) = ((at' - wO y : Nat) : Int) := by rw [zW (by omega)]; omega
   simp only [g, if_true, e]
   obtain ⟨k, r, h1, h2, h3, h4⟩ := anY l (i + 1) (at' - wO y) (by omega) (by omega)
   refine ⟨k + 1, r, ?_, by simpa using h2, ?_, ?_⟩
   ·rw [h1]; congr 2; omega
   ·simp only [List.take_succ_cons, zC]; omega
   ·intro z hz; exact h4 z (by simpa using hz)
  ·have g : decide ((at' : Int) ≥ (wO y : Int)) = false := by simp; omega
   simp only [g, Bool.false_eq_true, if_false]
   refine ⟨0, at', by simp, by simp, by simp [zC], ?_⟩
   intro z hz
   simp at hz
   rw [← hz]
   omega
theorem aqY : ∀ (P : List It) (i : It) (Q X Y : List It), P ++ i :: Q = X ++ Y → szI P < szI X → szI P + ajk i ≤ szI X
 | [], i, Q, [], Y, _, hs => by simp [szI] at hs
 | [], i, Q, j :: X, Y, h, _ => by
  simp only [List.nil_append, List.cons_append, List.cons.injEq] at h
  simp only [szI, h.1]; omega
 | p :: P, i, Q, [], Y, _, hs => by simp [szI] at hs
 | p :: P, i, Q, j :: X, Y, h, hs => by
  simp only [List.cons_append, List.cons.injEq] at h
  obtain ⟨rfl, h⟩ := h
  simp only [szI] at hs ⊢
  have := aqY P i Q X Y h (by omega)
  omega
theorem anZ (l : List za) (h : zN l ≤ 1099511627776) : qy l = some l := by
 have := qw l
 unfold qy
 rw [wJ (by simp; omega)]
 simp
theorem awx (l : List za) (k : Nat) : zN (l.take k) + zN (l.drop k) = zN l := by
 have := kX (l.take k) (l.drop k)
 rw [List.take_append_drop] at this
 exact this.symm
theorem size_take (l : List za) (k : Nat) : zC (l.take k) + zC (l.drop k) = zC l := by
 have := XH (l.take k) (l.drop k)
 rw [List.take_append_drop] at this
 exact this.symm
theorem as7 {l : List za} (h : vD l) (hw : zN l ≤ 549755813888) (at' : Nat) (ha : at' ≤ zC l) :
  (∃ a b, jM l (at' : Int) = some (a, b, 0) ∧ vD a ∧ vD b ∧ items l = items a ++ items b ∧ szI (items a) = at' ∧ zN a ≤ zN l ∧ zN b ≤ zN l ∧ kU a ≤ kU l ∧ kU b ≤ kU l) ∨
  (jM l (at' : Int) = some ([], [], 10) ∧ ∀ X Y, items l = X ++ Y → szI X ≠ at') := by
 have hsz := vz l
 have hl := qw l
 obtain ⟨k, r, h1, h2, h3, h4⟩ := anY l 0 at' (by omega) (by omega)
 have g1 : decide ((at' : Int) < 0) = false := by simp
 have g2 : decide ((at' : Int) > (zC l : Int)) = false := by simp; omega
 have s1 : sl l 0 (k : Int) = some (l.take k) := by
  have := J6 (l := l) (a := 0) (b := k) (by omega) h2
  simpa using this
 have s2 : sl l (k : Int) (l.length : Int) = some (l.drop k) := by
  have := J6 (l := l) (a := k) (b := l.length) h2 (Nat.le_refl _)
  simpa using this
 have wtd := awx l k
 have std := size_take l k
 have rowt : vD (l.take k ++ l.drop k) := by rw [List.take_append_drop]; exact h
 have itd : items l = items (l.take k) ++ items (l.drop k) := by rw [← Qv, List.take_append_drop]
 have dtd : kU l = max (kU (l.take k)) (kU (l.drop k)) := by rw [← aaX, List.take_append_drop]
 unfold jM
 rw [g1]
 simp only [Bool.false_eq_true, if_false]
 rw [QN l (by omega)]
 simp only [Option.bind_some, g2, Bool.false_eq_true, if_false]
 rw [qB (by omega), h1]
 simp only [Option.bind_some, Int.zero_add]
 rw [s1, s2]
 simp only [Option.bind_some]
 rw [anZ _ (by omega), anZ _ (by omega)]
 simp only [Option.bind_some]
 by_cases hr : r = 0
 ·subst hr
  refine .inl ⟨l.take k, l.drop k, by simp, rowt.left, rowt.right, itd, ?_, by omega, by omega, by omega, by omega⟩
  rw [yc]; omega
 ·have g3 : ((r : Int) == 0) = false := by simp; omega
  simp only [g3, Bool.false_eq_true, if_false]
  rcases Nat.lt_or_ge k l.length with hk | hk
  ·have hy : l[k]? = some l[k] := List.getElem?_eq_getElem hk
   generalize l[k] = y at hy
   have hym : y ∈ l := List.mem_of_getElem? hy
   have hyf := h.form y hym
   have hry := h4 y hy
   have hdrop : l.drop k = y :: l.drop (k + 1) := by
    have := List.drop_eq_getElem_cons hk
    rw [this]
    rw [List.getElem?_eq_getElem hk] at hy
    cases hy
    rfl
   rw [xM hy]
   simp only [Option.bind_some]
   cases ht : isT y with
   | false =>
    have g4 : (!(y.Kind == ([116, 101, 120, 116] : Str))) = true := by
     have : (y.Kind == ([116, 101, 120, 116] : Str)) = isT y := rfl
     rw [this, ht]; rfl
    refine .inr ⟨by simp only [g4, if_true], fun X Y hXY hX => ?_⟩
    have e : items l = items (l.take k) ++ It.nod y :: items (l.drop (k + 1)) := by
     rw [itd, hdrop, items, itN, ht]
     rfl
    have := aqY (items (l.take k)) (It.nod y) (items (l.drop (k + 1))) X Y (by rw [← e, hXY]) (by rw [yc]; omega)
    rw [yc] at this
    simp only [ajk] at this
    omega
   | true =>
    have g4 : (!(y.Kind == ([116, 101, 120, 116] : Str))) = false := by
     have : (y.Kind == ([116, 101, 120, 116] : Str)) = isT y := rfl
     rw [this, ht]; rfl
    simp only [g4, Bool.false_eq_true, if_false]
    obtain ⟨t1, t2, t3, t4, t5⟩ := yI hyf ht
    have ek := Xa ht
    have hrl : r < (runes y.Text).length := by
     rw [Zk]
     rw [jZ, if_pos ht] at hry
     exact hry
    have q1 : sl (runes y.Text) 0 (r : Int) = some ((runes y.Text).take r) := by
     have := J6 (l := runes y.Text) (a := 0) (b := r) (by omega) (by omega)
     simpa using this
    have q2 : sl (runes y.Text) (r : Int) ((runes y.Text).length : Int) = some ((runes y.Text).drop r) := by
     have := J6 (l := runes y.Text) (a := r) (b := (runes y.Text).length) (by omega) (Nat.le_refl _)
     simpa using this
    have q3 : rd (l.drop k) 0 = some y := by
     rw [hdrop]; exact xM (i := 0) rfl
    have q4 : wr (l.drop k) 0 ({ y with Text := zJ ((runes y.Text).drop r) } : za) = some (({ y with Text := zJ ((runes y.Text).drop r) } : za) :: l.drop (k + 1)) := by
     rw [hdrop]
     exact apz (l := y :: l.drop (k + 1)) (i := 0) (by simp) _
    rw [q1, q2, q3]
    simp only [Option.bind_some]
    rw [q4]
    simp only [Option.bind_some]
    have hvr := ahX t2
    obtain ⟨a1, a2⟩ := Ye (l := (runes y.Text).take r) fun c hc => hvr c (List.mem_of_mem_take hc)
    obtain ⟨b1, b2⟩ := Ye (l := (runes y.Text).drop r) fun c hc => hvr c (List.mem_of_mem_drop hc)
    have hcat : zJ ((runes y.Text).take r) ++ zJ ((runes y.Text).drop r) = y.Text := by
     rw [← Yh, List.take_append_drop, KJ t2]
    have hne1 : zJ ((runes y.Text).take r) ≠ [] := by
     intro hh
     rw [hh, WR] at a1
     have := congrArg List.length a1
     simp at this
     omega
    have hne2 : zJ ((runes y.Text).drop r) ≠ [] := by
     intro hh
     rw [hh, WR] at b1
     have := congrArg List.length b1
     simp at this
     omega
    have e1 : ({ y with Text := zJ ((runes y.Text).take r) } : za) = tN (zJ ((runes y.Text).take r)) y.Marks := by cases y; simp_all
    have e2 : ({ y with Text := zJ ((runes y.Text).drop r) } : za) = tN (zJ ((runes y.Text).drop r)) y.Marks := by cases y; simp_all
    have ey : y = tN y.Text y.Marks := avq (ag1 hyf) ht
    rw [e1, e2]
    rw [wJ (by simp; omega)]
    simp only [Option.bind_some]
    have hlen := congrArg List.length hcat
    rw [List.length_append] at hlen
    have wy : nwt y = 2 + 4 + y.Text.length + wQ y.Marks := by
     rw [qi, ek, t4, t5]; simp [wM, zN]
    have w1 : nwt (tN (zJ ((runes y.Text).take r)) y.Marks) = 2 + 4 + (zJ ((runes y.Text).take r)).length + wQ y.Marks := by
     rw [qi]; simp [wM, zN]
    have w2 : nwt (tN (zJ ((runes y.Text).drop r)) y.Marks) = 2 + 4 + (zJ ((runes y.Text).drop r)).length + wQ y.Marks := by
     rw [qi]; simp [wM, zN]
    have d1 : ∀ t m, yS (tN t m) = 1 := fun t m => by rw [xy]; simp [kU]
    have dy : yS y = 1 := by rw [ey]; exact d1 _ _
    have f1 := aha hne1 a2 t3
    have f2 := aha hne2 b2 t3
    have alk : ∀ t z, wK z (tN t y.Marks) = wK z y := fun t z => by
     unfold wK
     have : isT (tN t y.Marks) = true := rfl
     rw [this, ht]
    have alk' : ∀ t z, wK (tN t y.Marks) z = wK y z := fun t z => by
     unfold wK
     have : isT (tN t y.Marks) = true := rfl
     rw [this, ht]
    rw [hdrop] at wtd itd dtd rowt
    simp only [zN, kU, items] at wtd itd dtd
    refine .inl ⟨_, _, rfl, ⟨?_, ?_⟩, ⟨?_, ?_⟩, ?_, ?_, ?_, ?_, ?_, ?_⟩
    ·intro x hx
     rcases List.mem_append.1 hx with hx | hx
     ·exact rowt.left.form x hx
     ·simp only [List.mem_singleton] at hx; rw [hx]; exact f1
    ·have : ja (l.take k ++ [y]) := aeS _ (l.drop (k + 1)) (by simpa using rowt.adj)
     exact ajg _ _ _ this fun z => alk _ z
    ·intro x hx
     rcases List.mem_cons.1 hx with rfl | hx
     ·exact f2
     ·exact rowt.right.form x (by simp [hx])
    ·exact aiO y _ _ rowt.right.adj fun z => alk' _ z
    ·rw [itd, Qv, items, items, items]
     have i1 : itN y = (runes y.Text).map fun c => It.sgn c y.Marks := by rw [itN, if_pos ht]
     have i2 : itN (tN (zJ ((runes y.Text).take r)) y.Marks) = ((runes y.Text).take r).map fun c => It.sgn c y.Marks := by
      have : isT (tN (zJ ((runes y.Text).take r)) y.Marks) = true := rfl
      rw [itN, if_pos this]
      simp only [a1]
     have i3 : itN (tN (zJ ((runes y.Text).drop r)) y.Marks) = ((runes y.Text).drop r).map fun c => It.sgn c y.Marks := by
      have : isT (tN (zJ ((runes y.Text).drop r)) y.Marks) = true := rfl
      rw [itN, if_pos this]
      simp only [b1]
     rw [i1, i2, i3]
     simp only [List.append_nil, List.append_assoc]
     rw [← List.append_assoc (List.map _ (List.take r _)), ← List.map_append, List.take_append_drop]
    ·rw [yc, XH]
     simp only [zC]
     have : isT (tN (zJ ((runes y.Text).take r)) y.Marks) = true := rfl
     rw [jZ, if_pos this, ← Zk]
     simp only [a1, List.length_take]
     omega
    ·rw [kX]; simp only [zN]; omega
    ·simp only [zN]; omega
    ·rw [aaX]; simp only [kU, d1]; omega
    ·simp only [kU, d1]; omega
  ·exfalso
   have : l.take k = l := List.take_of_length_le hk
   rw [this] at h3
   omega
theorem adh {l : List za} (h : vD l) (hw : zN l ≤ 549755813888) {X Y : List It} (e : items l = X ++ Y) :
  ∃ a b, jM l (szI X : Int) = some (a, b, 0) ∧ vD a ∧ vD b ∧ items a = X ∧ items b = Y ∧ zN a ≤ zN l ∧ zN b ≤ zN l ∧ kU a ≤ kU l ∧ kU b ≤ kU l := by
 have hs : szI X ≤ zC l := by
  rw [← yc, e, QL]; omega
 rcases as7 h hw (szI X) hs with ⟨a, b, h1, h2, h3, h4, h5, h6⟩ | ⟨_, h2⟩
 ·have hn : ∀ i ∈ X ++ Y, apc i := by rw [← e]; exact aa0 l
  obtain ⟨e1, e2⟩ := aj1 X (items a) Y (items b) hn (by rw [← e, h4]) h5.symm
  exact ⟨a, b, h1, h2, h3, e1.symm, e2.symm, h6⟩
 ·exact (h2 X Y e rfl).elim
end Go.Proofs.YtclohbgnaopjfaaDoor
namespace Go.Proofs.YtclohbgnaopjfaaDoor
set_option linter.unusedSimpArgs false
set_option linter.unusedVariables false
open Go
inductive Tk where
 | sgn (c : Int) (m : List Str)
 | opn (k : Str) (a : List ze)
 | cls
mutual
def tkN : za → List Tk
 | ⟨k, t, m, a, ks⟩ => if (k == jm) = true then (runes t).map (fun c => Tk.sgn c m) else Tk.opn k a :: (tkL ks ++ [Tk.cls])
def tkL : List za → List Tk
 | [] => []
 | n :: l => tkN n ++ tkL l
end
theorem kg (n : za) : tkN n = if isT n = true then (runes n.Text).map (fun c => Tk.sgn c n.Marks) else Tk.opn n.Kind n.zh :: (tkL n.Kids ++ [Tk.cls]) := by cases n; simp only [tkN, isT]; rfl
def YJ : It → List Tk
 | .sgn c m => [.sgn c m]
 | .nod n => tkN n
def tkI (l : List It) : List Tk := l.flatMap YJ
theorem QJ (i : It) (l : List It) : tkI (i :: l) = YJ i ++ tkI l := rfl
theorem Vm (a b : List It) : tkI (a ++ b) = tkI a ++ tkI b := by simp [tkI]
theorem Ze (a b : List za) : tkL (a ++ b) = tkL a ++ tkL b := by
 induction a with
 | nil => simp [tkL]
 | cons n a ih => simp only [List.cons_append, tkL, ih, List.append_assoc]
theorem asQ (m : List Str) (cs : List Int) : tkI (cs.map fun c => It.sgn c m) = cs.map fun c => Tk.sgn c m := by
 induction cs with
 | nil => rfl
 | cons c cs ih => rw [List.map_cons, QJ, ih]; rfl
theorem aqm (n : za) : tkI (itN n) = tkN n := by
 rw [kg]
 unfold itN
 cases h : isT n with
 | true => simp only [if_true]; exact asQ _ _
 | false =>
  simp only [Bool.false_eq_true, if_false]
  have : tkI [It.nod n] = tkN n := by simp [tkI, YJ]
  rw [this, kg, h]
  simp
theorem vB (l : List za) : tkI (items l) = tkL l := by
 induction l with
 | nil => rfl
 | cons n l ih => rw [items, Vm, aqm, ih, tkL]
mutual
theorem ahb : ∀ n : za, (tkN n).length = wO n
 | ⟨k, t, m, a, ks⟩ => by
  rw [kg, jZ]
  cases h : isT (⟨k, t, m, a, ks⟩ : za) with
  | true => simp [Zk]
  | false =>
   have := yR ks
   simp; omega
theorem yR : ∀ l : List za, (tkL l).length = zC l
 | [] => rfl
 | n :: l => by
  have h1 := ahb n
  have h2 := yR l
  simp only [tkL, zC, List.length_append]; omega
end
theorem aup (i : It) : (YJ i).length = ajk i := by
 cases i with
 | sgn c m => rfl
 | nod n => exact ahb n
theorem Yn (l : List It) : (tkI l).length = szI l := by
 induction l with
 | nil => rfl
 | cons i l ih => rw [QJ, List.length_append, ih, aup, szI]
def FI (l : List It) : Prop := ∀ n, It.nod n ∈ l → isT n = false ∧ qg n = true
theorem ZL {l : List za} (h : ∀ x ∈ l, qg x = true) : FI (items l) := by
 induction l with
 | nil => intro n hn; cases hn
 | cons y l ih =>
  intro n hn
  rcases List.mem_append.1 hn with hn | hn
  ·unfold itN at hn
   cases ht : isT y with
   | true => rw [ht] at hn; simp at hn
   | false =>
    rw [ht] at hn
    simp at hn
    subst hn
    exact ⟨ht, h n (by simp)⟩
  ·exact ih (fun x hx => h x (by simp [hx])) n hn
def asv : List Tk → Prop
 | [] => True
 | .cls :: _ => True
 | _ => False
theorem Kk {a b : za} (ha : qg a = true) (hb : qg b = true) (ta : isT a = false) (tb : isT b = false) (hk : a.Kind = b.Kind) (hat : a.zh = b.zh) (hks : a.Kids = b.Kids) : a = b := by
 rw [jA, if_neg (by simp [ta])] at ha
 rw [jA, if_neg (by simp [tb])] at hb
 simp only [Bool.and_eq_true, decide_eq_true_eq] at ha hb
 cases a; cases b
 simp_all
theorem ahC : ∀ (f : Nat) (X Y : List It) (R S : List Tk), szI X ≤ f → FI X → FI Y → asv R → asv S → tkI X ++ R = tkI Y ++ S → X = Y ∧ R = S
 | f, [], [], R, S, _, _, _, _, _, h => ⟨rfl, h⟩
 | f, [], j :: Y, R, S, _, _, fy, hR, _, h => by
  exfalso
  rw [QJ] at h
  cases j with
  | sgn c m =>
   simp only [YJ, tkI, List.flatMap_nil, List.nil_append, List.cons_append] at h
   rw [h] at hR
   exact hR
  | nod n =>
   have := (fy n (by simp)).1
   simp only [YJ, tkI, List.flatMap_nil, List.nil_append] at h
   rw [kg, this] at h
   simp only [Bool.false_eq_true, if_false, List.cons_append] at h
   rw [h] at hR
   exact hR
 | f, i :: X, [], R, S, _, fx, _, _, hS, h => by
  exfalso
  rw [QJ] at h
  cases i with
  | sgn c m =>
   simp only [YJ, tkI, List.flatMap_nil, List.nil_append, List.cons_append] at h
   rw [← h] at hS
   exact hS
  | nod n =>
   have := (fx n (by simp)).1
   simp only [YJ, tkI, List.flatMap_nil, List.nil_append] at h
   rw [kg, this] at h
   simp only [Bool.false_eq_true, if_false, List.cons_append] at h
   rw [← h] at hS
   exact hS
 | 0, i :: X, j :: Y, R, S, hf, fx, _, _, _, h => by
  exfalso
  have := aaD i (by
   intro n hn
   subst hn
   exact (fx n (by simp)).1)
  simp only [szI] at hf
  omega
 | f + 1, i :: X, j :: Y, R, S, hf, fx, fy, hR, hS, h => by
  have hp := aaD i (by
   intro n hn
   subst hn
   exact (fx n (by simp)).1)
  simp only [szI] at hf
  have fx' : FI X := fun n hn => fx n (by simp [hn])
  have fy' : FI Y := fun n hn => fy n (by simp [hn])
  rw [QJ, QJ] at h
  cases i with
  | sgn c m =>
   cases j with
   | sgn c' m' =>
    simp only [YJ, List.cons_append, List.nil_append, List.cons.injEq, Tk.sgn.injEq] at h
    obtain ⟨⟨rfl, rfl⟩, h⟩ := h
    obtain ⟨rfl, h2⟩ := ahC f X Y R S (by omega) fx' fy' hR hS h
    exact ⟨rfl, h2⟩
   | nod n =>
    exfalso
    have := (fy n (by simp)).1
    simp only [YJ] at h
    rw [kg, this] at h
    simp at h
  | nod n =>
   obtain ⟨tn, fn⟩ := fx n (by simp)
   cases j with
   | sgn c m =>
    exfalso
    simp only [YJ] at h
    rw [kg, tn] at h
    simp at h
   | nod n' =>
    obtain ⟨tn', fn'⟩ := fy n' (by simp)
    simp only [YJ] at h
    rw [kg, kg, tn, tn'] at h
    simp only [Bool.false_eq_true, if_false, List.cons_append, List.append_assoc, List.nil_append, List.cons.injEq, Tk.opn.injEq] at h
    obtain ⟨⟨hk, hat⟩, h⟩ := h
    have r1 := kM fn tn
    have r2 := kM fn' tn'
    have hsz : szI (items n.Kids) ≤ f := by
     rw [yc]
     simp only [ajk] at hf
     rw [jZ, tn] at hf
     simp at hf
     omega
    rw [← vB, ← vB] at h
    obtain ⟨e1, e2⟩ := ahC f (items n.Kids) (items n'.Kids) (Tk.cls :: (tkI X ++ R)) (Tk.cls :: (tkI Y ++ S)) hsz (ZL r1.form) (ZL r2.form) trivial trivial h
    have e3 := ahw r1 r2 e1
    have e4 := Kk fn fn' tn tn' hk hat e3
    subst e4
    simp only [List.cons.injEq, true_and] at e2
    obtain ⟨rfl, h2⟩ := ahC f X Y R S (by omega) fx' fy' hR hS e2
    exact ⟨rfl, h2⟩
theorem alv {a b : List za} (ha : vD a) (hb : vD b) (h : tkL a = tkL b) : a = b := by
 rw [← vB, ← vB] at h
 exact ahw ha hb (ahC (szI (items a)) (items a) (items b) [] [] (Nat.le_refl _) (ZL ha.form) (ZL hb.form) trivial trivial (by simpa using h)).1
end Go.Proofs.YtclohbgnaopjfaaDoor
namespace Go.Proofs.YtclohbgnaopjfaaDoor
set_option linter.unusedSimpArgs false
set_option linter.unusedVariables false
open Go
theorem right_eq (n : za) (h : nwt n ≤ 1099511627776) : yZ n = some (checkN n == 0) := by
 unfold yZ
 rw [Y0 n h]
 rfl
end Go.Proofs.YtclohbgnaopjfaaDoor
namespace Go.Proofs.YtclohbgnaopjfaaDoor
set_option linter.unusedSimpArgs false
set_option linter.unusedVariables false
open Go
def aiz (l : List za) (i r : Nat) : Prop := i ≤ l.length ∧ (∀ k, l[i]? = some k → r < wO k) ∧ (i = l.length → r = 0)
theorem aab : ∀ (l : List za) (i r j s : Nat), aiz l i r → aiz l j s → zC (l.take i) + r = zC (l.take j) + s → i = j ∧ r = s
 | [], i, r, j, s, h1, h2, h => by
  obtain ⟨a1, _, a3⟩ := h1
  obtain ⟨b1, _, b3⟩ := h2
  simp only [List.length_nil, Nat.le_zero] at a1 b1
  subst a1; subst b1
  simp only [List.length_nil, forall_const] at a3 b3
  omega
 | k :: l, 0, r, 0, s, h1, h2, h => by
  simp only [List.take_zero, zC] at h
  omega
 | k :: l, 0, r, j + 1, s, h1, h2, h => by
  have := h1.2.1 k rfl
  simp only [List.take_zero, List.take_succ_cons, zC] at h
  omega
 | k :: l, i + 1, r, 0, s, h1, h2, h => by
  have := h2.2.1 k rfl
  simp only [List.take_zero, List.take_succ_cons, zC] at h
  omega
 | k :: l, i + 1, r, j + 1, s, h1, h2, h => by
  have g : ∀ i r, aiz (k :: l) (i + 1) r → aiz l i r := fun i r h => ⟨by simpa using h.1, fun y hy => h.2.1 y (by simpa using hy), fun e => h.2.2 (by simp [e])⟩
  simp only [List.take_succ_cons, zC] at h
  obtain ⟨e1, e2⟩ := aab l i r j s (g _ _ h1) (g _ _ h2) (by omega)
  exact ⟨by omega, e2⟩
theorem At.fn {n : za} {q m a} (h : At n q m a) : ∀ {m' a'}, At n q m' a' → m = m' ∧ a = a' := by
 induction h with
 | nil n => intro m' a' h'; cases h'; exact ⟨rfl, rfl⟩
 | cons n i k q m a hi hn hk h ih =>
  intro m' a' h'
  cases h' with
  | cons _ _ k' _ _ a2 hi' _ _ h2 =>
   rw [hi] at hi'
   cases hi'
   obtain ⟨rfl, rfl⟩ := ih h2
   exact ⟨rfl, rfl⟩
def acG (m : za) (idx off : Nat) : Prop := idx ≤ m.Kids.length ∧ (∀ k, m.Kids[idx]? = some k → off < wO k ∧ (0 < off → isT k = true)) ∧ (idx = m.Kids.length → off = 0)
theorem acG.idx {m : za} {i r} (h : acG m i r) : aiz m.Kids i r := ⟨h.1, fun k hk => (h.2.1 k hk).1, h.2.2⟩
theorem acG.le {m : za} {i r} (h : acG m i r) : zC (m.Kids.take i) + r ≤ zC m.Kids := by
 rcases Nat.lt_or_ge i m.Kids.length with hi | hi
 ·have hk : m.Kids[i]? = some m.Kids[i] := List.getElem?_eq_getElem hi
  have h1 := (h.2.1 _ hk).1
  have h2 := aeV hk
  omega
 ·have := h.2.2 (by have := h.1; omega)
  have := acC m.Kids i
  omega
theorem arE {n : za} {q m a} (h : At n q m a) : ∀ {q' m' a' i r i' r'}, At n q' m' a' → isT m = false → isT m' = false → acG m i r → acG m' i' r' → a + zC (m.Kids.take i) + r = a' + zC (m'.Kids.take i') + r' → q = q' ∧ i = i' ∧ r = r' := by
 induction h with
 | nil n =>
  intro q' m' a' i r i' r' h' hm hm' hs hs' e
  cases h' with
  | nil =>
   obtain ⟨e1, e2⟩ := aab n.Kids i r i' r' hs.idx hs'.idx (by omega)
   exact ⟨rfl, e1, e2⟩
  | cons _ j k' q2 _ a2 hi' hn' hk' h2 =>
   exfalso
   have hle := hs'.le
   have hsz := h2.sizes
   have hk2 := Qm hk'
   have hlt : j < n.Kids.length := (List.getElem?_eq_some_iff.1 hi').1
   obtain ⟨e1, e2⟩ := aab n.Kids i r j (1 + (a2 + zC (m'.Kids.take i') + r')) hs.idx ⟨by omega, fun k hk => by rw [hi'] at hk; cases hk; omega, fun e => by omega⟩ (by omega)
   subst e1
   have := (hs.2.1 k' hi').2 (by omega)
   rw [hk'] at this
   cases this
 | cons n j k q m a hi hn hk h ih =>
  intro q' m' a' i r i' r' h' hm hm' hs hs' e
  have hle := hs.le
  have hsz := h.sizes
  have hk2 := Qm hk
  have hlt : j < n.Kids.length := (List.getElem?_eq_some_iff.1 hi).1
  have I1 : aiz n.Kids j (1 + (a + zC (m.Kids.take i) + r)) := ⟨by omega, fun k2 hk2' => by rw [hi] at hk2'; cases hk2'; omega, fun e => by omega⟩
  cases h' with
  | nil =>
   exfalso
   obtain ⟨e1, e2⟩ := aab n.Kids _ _ _ _ I1 hs'.idx (by omega)
   subst e1
   have := (hs'.2.1 k hi).2 (by omega)
   rw [hk] at this
   cases this
  | cons _ j' k' q2 _ a2 hi' hn' hk' h2 =>
   have hle' := hs'.le
   have hsz' := h2.sizes
   have hk2' := Qm hk'
   have hlt' : j' < n.Kids.length := (List.getElem?_eq_some_iff.1 hi').1
   have I2 : aiz n.Kids j' (1 + (a2 + zC (m'.Kids.take i') + r')) := ⟨by omega, fun k2 hk3 => by rw [hi'] at hk3; cases hk3; omega, fun e => by omega⟩
   obtain ⟨e1, e2⟩ := aab n.Kids _ _ _ _ I1 I2 (by omega)
   subst e1
   rw [hi] at hi'
   cases hi'
   obtain ⟨e3, e4, e5⟩ := ih h2 hm hm' hs hs' (by omega)
   exact ⟨by rw [e3], e4, e5⟩
theorem avo {l : List It} (h : ∀ i ∈ l, apc i) (hs : szI l = 0) : l = [] := by
 cases l with
 | nil => rfl
 | cons i l =>
  have := aaD i (h i (by simp))
  simp only [szI] at hs
  omega
theorem auG {A B C D : List It} (hn : ∀ i ∈ A ++ B, apc i) (h : A ++ B = C ++ D) (hs : szI A ≤ szI C) : ∃ M, C = A ++ M ∧ B = M ++ D := by
 rcases List.append_eq_append_iff.1 h with ⟨M, h1, h2⟩ | ⟨M, h1, h2⟩
 ·exact ⟨M, h1, h2⟩
 ·have : M = [] := by
   refine avo (fun i hi => hn i (by rw [h1]; simp [hi])) ?_
   rw [h1, QL] at hs
   omega
  subst this
  simp only [List.append_nil, List.nil_append] at h1 h2
  exact ⟨[], by simp [h1], by simpa using h2.symm⟩
theorem aed : ∀ (K : List za) (X R : List It), (∀ x ∈ K, qg x = true) → items K = X ++ R → ∃ idx off, zC (K.take idx) + off = szI X ∧ idx ≤ K.length ∧ (∀ k, K[idx]? = some k → off < wO k ∧ (0 < off → isT k = true)) ∧ (idx = K.length → off = 0)
 | [], X, R, _, h => by
  have : X = [] := by
   cases X with
   | nil => rfl
   | cons => cases h
  subst this
  exact ⟨0, 0, rfl, Nat.le_refl _, by simp, fun _ => rfl⟩
 | k :: K, X, R, hf, h => by
  have hn : ∀ i ∈ itN k ++ items K, apc i := aa0 (k :: K)
  rw [items] at h
  rcases Nat.lt_or_ge (szI X) (wO k) with hc | hc
  ·refine ⟨0, szI X, by simp [zC], by simp, ?_, by simp⟩
   intro k' hk'
   simp only [List.getElem?_cons_zero, Option.some.injEq] at hk'
   subst hk'
   refine ⟨hc, fun hp => ?_⟩
   cases ht : isT k with
   | true => rfl
   | false =>
    exfalso
    cases X with
    | nil => simp [szI] at hp
    | cons i X =>
     have : itN k = [It.nod k] := by unfold itN; rw [ht]; rfl
     rw [this] at h
     simp only [List.cons_append, List.nil_append, List.cons.injEq] at h
     rw [← h.1] at hc
     simp only [szI, ajk] at hc
     omega
  ·obtain ⟨M, h1, h2⟩ := auG hn h (by rw [amw]; exact hc)
   obtain ⟨idx, off, e1, e2, e3, e4⟩ := aed K M R (fun x hx => hf x (by simp [hx])) h2
   refine ⟨idx + 1, off, ?_, by simpa using e2, fun k' hk' => e3 k' (by simpa using hk'), fun e => e4 (by simpa using e)⟩
   rw [h1, QL, amw]
   simp only [List.take_succ_cons, zC]
   omega
theorem adb {m : za} {idx off : Nat} (h : acG m idx off) : ∃ X R, items m.Kids = X ++ R ∧ szI X = zC (m.Kids.take idx) + off := by
 have e : items m.Kids = items (m.Kids.take idx) ++ items (m.Kids.drop idx) := by rw [← Qv, List.take_append_drop]
 by_cases h0 : off = 0
 ·exact ⟨_, _, e, by rw [yc, h0]; rfl⟩
 ·have hlt : idx < m.Kids.length := by
   rcases Nat.lt_or_ge idx m.Kids.length with h1 | h1
   ·exact h1
   ·exact (h0 (h.2.2 (by have := h.1; omega))).elim
  have hk : m.Kids[idx]? = some m.Kids[idx] := List.getElem?_eq_getElem hlt
  obtain ⟨h1, h2⟩ := h.2.1 _ hk
  have ht := h2 (by omega)
  rw [List.drop_eq_getElem_cons hlt, items] at e
  generalize m.Kids[idx] = k at *
  have ei : itN k = (runes k.Text).map fun c => It.sgn c k.Marks := by unfold itN; rw [if_pos ht]
  have ec : itN k = ((runes k.Text).take off).map (fun c => It.sgn c k.Marks) ++ ((runes k.Text).drop off).map fun c => It.sgn c k.Marks := by
   rw [← List.map_append, List.take_append_drop, ei]
  rw [ec, List.append_assoc, ← List.append_assoc] at e
  refine ⟨_, _, e, ?_⟩
  rw [QL, yc, aqo, List.length_take]
  rw [jZ, if_pos ht, ← Zk] at h1
  omega
structure Flat (n : za) (f t : Nat) (q : List Nat) (m : za) (a : Nat) (X Y Z : List It) : Prop where
 at_ : At n q m a
 nt : isT m = false
 it : items m.Kids = X ++ (Y ++ Z)
 sx : a + szI X = f
 sy : f + szI Y = t
theorem At.form {n : za} {q m a} (h : At n q m a) : qg n = true → qg m = true := by
 induction h with
 | nil n => exact id
 | cons n i k q m a hi hn hk h ih => exact fun hf => ih (apI hf hn k (List.mem_of_getElem? hi))
theorem aqb {n : za} {q m a X R} (hf : qg n = true) (h : At n q m a) (hm : isT m = false) (e : items m.Kids = X ++ R) {s p} (hs : JW n s p) (hp : a + szI X = p) : s.Path = up q := by
 obtain ⟨q', m', a', idx', off', rfl, h', hm', b1, b2, b3, b4⟩ := hs
 obtain ⟨idx, off, c1, c2, c3, c4⟩ := aed m.Kids X R (kM (h.form hf) hm).form e
 obtain ⟨rfl, _, _⟩ := arE h h' hm hm' ⟨c2, c3, c4⟩ ⟨b1, b3, b4⟩ (by omega)
 rfl
theorem atJ (b : List Int) : ∀ (suf pre : List Int) (i : Int), i = (pre.length : Int) → b.length = pre.length + suf.length → b.take pre.length = pre → wW b suf i = some (if pre ++ suf = b then .inr () else .inl false)
 | [], pre, i, hi, hl, ht => by
  have : pre = b := by
   rw [← ht, List.take_of_length_le]
   simp at hl; omega
  simp [wW, this]
 | y :: suf, pre, i, hi, hl, ht => by
  simp only [List.length_cons] at hl
  obtain ⟨x, hx⟩ : ∃ x, b[pre.length]? = some x := ⟨b[pre.length], List.getElem?_eq_getElem (by omega)⟩
  rw [wW, hi, xM hx]
  simp only [Option.bind_some]
  have htk : b.take (pre.length + 1) = pre ++ [x] := by
   rw [List.take_add_one, ht, hx]
   rfl
  by_cases hxy : y = x
  ·subst hxy
   simp only [bne_self_eq_false, Bool.false_eq_true, if_false]
   rw [atJ b suf (pre ++ [y]) _ (by simp) (by simp; omega) (by simpa using htk)]
   simp
  ·have hn : ¬ pre ++ y :: suf = b := by
    intro h
    rw [← h] at hx
    simp at hx
    exact hxy hx
   have g : (y != x) = true := by simpa using hxy
   rw [if_pos g, if_neg hn]
theorem ata (a b : List Int) (h : a.length ≤ 9223372036854775807) : slices_Equal_int a b = some (decide (a = b)) := by
 unfold slices_Equal_int
 by_cases hl : a.length = b.length
 ·simp only [hl, bne_self_eq_false, Bool.false_eq_true, if_false]
  rw [qB (by omega), atJ b a [] 0 rfl (by simp [hl]) (by simp)]
  by_cases e : a = b <;> simp [e]
 ·have h1 : ((a.length : Int) != (b.length : Int)) = true := by simp; omega
  have h2 : ¬ a = b := fun e => hl (by rw [e])
  rw [if_pos h1]
  simp [h2]
abbrev ay5 : qU := { path := [], in_ := afA, from_ := (0 : Int), to_ := (0 : Int) }
theorem JW.len {n : za} {s p} (h : JW n s p) : s.Path.length ≤ p := by
 obtain ⟨q, m, a, idx, off, rfl, h1, _, _, h2, _⟩ := h
 rw [J4]
 have := h1.len
 omega
structure RN (n : za) : Prop where
 ok : checkN n = 0
 nt : isT n = false
 wt : nwt n ≤ 549755813888
theorem acO {n : za} (h : checkN n = 0) : qg n = true ∧ yU n ≤ 40 ∧ wO n ≤ 4000 := by
 unfold checkN at h
 cases hf : qg n with
 | false => rw [hf] at h; simp at h
 | true =>
  rw [hf] at h
  simp only [Bool.true_eq_false, if_false] at h
  refine ⟨rfl, ?_, ?_⟩
  ·by_cases hd : 40 < yU n
   ·rw [if_pos hd] at h; cases h
   ·omega
  ·by_cases hd : 40 < yU n
   ·rw [if_pos hd] at h; cases h
   ·rw [if_neg hd] at h
    by_cases hs : 4000 < wO n
    ·rw [if_pos hs] at h; cases h
    ·omega
theorem RN.form {n : za} (h : RN n) : qg n = true := (acO h.ok).1
theorem ahm {n : za} (hn : RN n) {f t q m a X Y Z} (h : Flat n f t q m a X Y Z) : yl n (f : Int) (t : Int) = some (⟨up q, m, (szI X : Int), ((szI X + szI Y : Nat) : Int)⟩, 0) := by
 obtain ⟨h1, h2, h3, h4, h5⟩ := h
 have hw := hn.wt
 have z1 := h1.sizes
 have z2 : szI X + (szI Y + szI Z) = zC m.Kids := by rw [← yc, h3, QL, QL]
 have z3 := vz n.Kids
 have z4 := wU n
 have z5 := h1.len
 obtain ⟨s1, e1, o1⟩ := Qe hn.nt (by omega) f (by omega)
 obtain ⟨s2, e2, o2⟩ := Qe hn.nt (by omega) t (by omega)
 have p1 := aqb hn.form h1 h2 (R := Y ++ Z) h3 o1 h4
 have p2 := aqb hn.form h1 h2 (X := X ++ Y) (R := Z) (by rw [h3, List.append_assoc]) o2 (by rw [QL]; omega)
 have l1 := o1.len
 have g0 : (n.Kind == ([116, 101, 120, 116] : Str)) = false := hn.nt
 have g1 : decide ((t : Int) < (f : Int)) = false := by simp; omega
 unfold yl
 rw [g0]
 simp only [Bool.false_eq_true, if_false]
 rw [right_eq n (by omega), hn.ok]
 simp only [Option.bind_some, beq_self_eq_true, Bool.not_true, Bool.false_eq_true, if_false]
 rw [e1]
 simp only [Option.bind_some, bne_self_eq_false, Bool.false_eq_true, if_false]
 rw [e2]
 simp only [Option.bind_some, bne_self_eq_false, Bool.false_eq_true, if_false, g1]
 rw [ata _ _ (by omega), p1, p2]
 simp only [Option.bind_some, decide_true, Bool.not_true, Bool.false_eq_true, if_false]
 rw [start_eq h1 h2 (by omega), KH h1 h2 (by omega)]
 simp only [Option.bind_some]
 unfold wP
 simp only [bne_self_eq_false, Bool.false_eq_true, if_false, Option.bind_some]
 rw [zW (by omega), zW (by omega)]
 congr 2
 have e3 : (f : Int) - (a : Int) = (szI X : Int) := by omega
 have e4 : (t : Int) - (a : Int) = ((szI X + szI Y : Nat) : Int) := by omega
 rw [e3, e4]
theorem anR {n : za} (hn : RN n) {f t : Nat} (hft : f ≤ t) {s1 s2} (o1 : JW n s1 f) (e1 : kK n (f : Int) = some (s1, 0)) (e2 : kK n (t : Int) = some (s2, 0)) (hne : s1.Path ≠ s2.Path) : yl n (f : Int) (t : Int) = some (ay5, 10) := by
 have hw := hn.wt
 have l1 := o1.len
 have l2 := o1.le
 have z3 := vz n.Kids
 have z4 := wU n
 have g0 : (n.Kind == ([116, 101, 120, 116] : Str)) = false := hn.nt
 have g1 : decide ((t : Int) < (f : Int)) = false := by simp; omega
 unfold yl
 rw [g0]
 simp only [Bool.false_eq_true, if_false]
 rw [right_eq n (by omega), hn.ok]
 simp only [Option.bind_some, beq_self_eq_true, Bool.not_true, Bool.false_eq_true, if_false]
 rw [e1]
 simp only [Option.bind_some, bne_self_eq_false, Bool.false_eq_true, if_false]
 rw [e2]
 simp only [Option.bind_some, bne_self_eq_false, Bool.false_eq_true, if_false, g1]
 rw [ata _ _ (by omega)]
 simp only [Option.bind_some, hne, decide_false, Bool.not_false, if_true]
 unfold wP
 rfl
theorem aq9 {n : za} (hn : RN n) {f t : Nat} (hft : f ≤ t) {s1 s2} (o1 : JW n s1 f) (o2 : JW n s2 t) (he : s1.Path = s2.Path) : ∃ q m a X Y Z, Flat n f t q m a X Y Z ∧ s1.Path = up q := by
 obtain ⟨q, m, a, idx, off, rfl, h1, hm, b1, b2, b3, b4⟩ := o1
 obtain ⟨q', m', a', idx', off', rfl, h1', hm', c1, c2, c3, c4⟩ := o2
 have : q = q' := au5 he
 subst this
 obtain ⟨rfl, rfl⟩ := h1.fn h1'
 obtain ⟨X, R, x1, x2⟩ := adb (m := m) ⟨b1, b3, b4⟩
 obtain ⟨X', R', y1, y2⟩ := adb (m := m) ⟨c1, c3, c4⟩
 obtain ⟨M, m1, m2⟩ := auG (by rw [← x1]; exact aa0 _) (x1.symm.trans y1) (by omega)
 refine ⟨q, m, a, X, M, R', ⟨h1, hm, ?_, by omega, ?_⟩, rfl⟩
 ·rw [x1, m2]
 ·rw [m1, QL] at y2
  omega
theorem auM {n : za} (hn : RN n) {f : Nat} (hf : f ≤ zC n.Kids) : ∃ q m a X Z, Flat n f f q m a X [] Z := by
 obtain ⟨s, _, o⟩ := Qe hn.nt (by have := hn.wt; omega) f hf
 obtain ⟨q, m, a, X, Y, Z, h, _⟩ := aq9 hn (Nat.le_refl f) o o rfl
 have hz : szI Y = 0 := by have := h.sy; omega
 have : Y = [] := avo (fun i hi => aa0 m.Kids i (by rw [h.it]; simp [hi])) hz
 subst this
 exact ⟨q, m, a, X, Z, h⟩
end Go.Proofs.YtclohbgnaopjfaaDoor
namespace Go.Proofs.YtclohbgnaopjfaaDoor
set_option linter.unusedSimpArgs false
set_option linter.unusedVariables false
open Go
theorem an6 : ∀ (a : List za) (k k' : za) (b : List za), ja (a ++ k :: b) → (∀ z, wK z k' = wK z k) → (∀ z, wK k' z = wK k z) → ja (a ++ k' :: b)
 | [], k, k', b, h, _, h2 => aiO k k' b h h2
 | [x], k, k', b, h, h1, h2 => ⟨by rw [h1]; exact h.1, aiO k k' b h.2 h2⟩
 | x :: y :: a, k, k', b, h, h1, h2 => ⟨h.1, an6 (y :: a) k k' b h.2 h1 h2⟩
theorem aem {x : za} (h : isT x = false) (z : za) : wK z x = false ∧ wK x z = false := by
 unfold wK
 rw [h]
 simp
theorem aoa {x : za} (hx : isT x = false) (fx : qg x = true) {n : za} {q m a} (h : At n q m a) : qg n = true → qg (QF q n x) = true := by
 induction h with
 | nil n => exact fun _ => fx
 | cons n i k q m a hi hn hk h ih =>
  intro hf
  have hl := (List.getElem?_eq_some_iff.1 hi).1
  have hr := kM hf hn
  have hkf := hr.form k (List.mem_of_getElem? hi)
  have e := Xi hi
  rw [xm hi]
  refine aa8 hf hn ⟨fun y hy => ?_, ?_⟩
  ·rcases List.mem_or_eq_of_mem_set hy with hy | rfl
   ·exact hr.form y hy
   ·exact ih hkf
  ·rw [List.set_eq_take_append_cons_drop, if_pos hl]
   have ha := hr.adj
   rw [e] at ha
   have h1 := Xu q k x hk hx
   exact an6 _ k _ _ ha (fun z => by rw [(aem h1 z).1, (aem hk z).1]) (fun z => by rw [(aem h1 z).2, (aem hk z).2])
theorem aoD {l : List za} {i : Nat} {k : za} (h : l[i]? = some k) : kU l = max (kU (l.take i)) (max (yS k) (kU (l.drop (i + 1)))) := by
 conv => lhs; rw [Xi h]
 rw [aaX, kU]
theorem At.depth {n : za} {q m a} (h : At n q m a) : q.length + yS m ≤ yS n := by
 induction h with
 | nil n => simp
 | cons n i k q m a hi hn hk h ih =>
  have := aoD hi
  rw [xy n]
  simp only [List.length_cons]
  omega
theorem at0 {x : za} {n : za} {q m a} (h : At n q m a) (h1 : x.Kind = m.Kind) (h2 : x.zh = m.zh) (h3 : x.Text = m.Text) (h4 : x.Marks = m.Marks) : (QF q n x).Kind = n.Kind ∧ (QF q n x).zh = n.zh ∧ (QF q n x).Text = n.Text ∧ (QF q n x).Marks = n.Marks := by
 cases h with
 | nil n => exact ⟨h1, h2, h3, h4⟩
 | cons n i k q m a hi hn hk h => rw [xm hi]; exact ⟨rfl, rfl, rfl, rfl⟩
theorem VN {l : List za} {i : Nat} {k : za} (h : l[i]? = some k) : tkL l = tkL (l.take i) ++ (tkN k ++ tkL (l.drop (i + 1))) := by
 conv => lhs; rw [Xi h]
 rw [Ze, tkL]
theorem ay1 {n : za} {q m a} (h : At n q m a) : ∃ P S, P.length = a ∧ tkL n.Kids = P ++ (tkL m.Kids ++ S) ∧ ∀ x : za, isT x = false → x.Kind = m.Kind → x.zh = m.zh → tkL (QF q n x).Kids = P ++ (tkL x.Kids ++ S) := by
 induction h with
 | nil n => exact ⟨[], [], rfl, by simp, fun x _ _ _ => by simp [QF]⟩
 | cons n i k q m a hi hn hk h ih =>
  obtain ⟨P, S, h1, h2, h3⟩ := ih
  have hl := (List.getElem?_eq_some_iff.1 hi).1
  refine ⟨tkL (n.Kids.take i) ++ (Tk.opn k.Kind k.zh :: P), S ++ (Tk.cls :: tkL (n.Kids.drop (i + 1))), ?_, ?_, fun x hx hk1 hk2 => ?_⟩
  ·simp only [List.length_append, List.length_cons, yR]; omega
  ·rw [VN hi, kg, if_neg (by simp [hk]), h2]
   simp only [List.append_assoc, List.cons_append, List.nil_append]
  ·have hkk : (QF q k x).Kind = k.Kind ∧ (QF q k x).zh = k.zh := by
    cases h with
    | nil k => exact ⟨hk1, hk2⟩
    | cons k i' k' q m a hi' hn' hk' h => rw [xm hi']; exact ⟨rfl, rfl⟩
   have hnt := Xu q k x hk hx
   rw [xm hi]
   simp only
   rw [List.set_eq_take_append_cons_drop, if_pos hl, Ze, tkL, kg, if_neg (by simp [hnt]), h3 x hx hk1 hk2, hkk.1, hkk.2]
   simp only [List.append_assoc, List.cons_append, List.nil_append]
theorem ak2 : ∀ (ls : List (List za)) (i : Int) (s : Nat), s + ls.flatten.length ≤ 1099511627776 → qA ls i (s : Int) = some ((s + ls.flatten.length : Nat) : Int)
 | [], i, s, _ => by simp [qA]
 | y :: ls, i, s, h => by
  simp only [List.flatten_cons, List.length_append] at h
  have e : w64 ((s : Int) + (y.length : Int)) = ((s + y.length : Nat) : Int) := by rw [zW (by omega)]; omega
  have g : decide (((s + y.length : Nat) : Int) < 0) = false := by simp; omega
  rw [qA, e, g]
  simp only [Bool.false_eq_true, if_false]
  rw [ak2 ls _ _ (by omega)]
  simp only [List.flatten_cons, List.length_append, Nat.add_assoc]
theorem ajW : ∀ (ls : List (List za)) (i : Int) (o : List za), o.length + ls.flatten.length ≤ 1099511627776 → qz ls i o = some (o ++ ls.flatten)
 | [], i, o, _ => by simp [qz]
 | y :: ls, i, o, h => by
  simp only [List.flatten_cons, List.length_append] at h
  rw [qz, wJ (by omega)]
  simp only [Option.bind_some]
  rw [ajW ls _ _ (by rw [List.length_append]; omega)]
  simp
theorem ass (ls : List (List za)) (hl : ls.length ≤ 9223372036854775807) (h : ls.flatten.length ≤ 1099511627776) : vv ls = some ls.flatten := by
 unfold vv
 have h0 := ak2 ls 0 0 (by omega)
 have h1 := ajW ls 0 [] (by rw [List.length_nil]; omega)
 have e : ((0 : Nat) : Int) = 0 := rfl
 rw [e] at h0
 rw [qB hl, h0]
 simp only [Option.bind_some]
 unfold jE
 rw [qB (by omega)]
 simp only [Option.bind_some]
 rw [qB hl, h1]
 simp
theorem atE {l : List za} (h : vD l) : checkN (⟨[120], [], [], [], l⟩ : za) ≠ 2 := by
 have hf : qg (⟨[120], [], [], [], l⟩ : za) = true := by
  have ht : isT (⟨[120], [], [], [], l⟩ : za) = false := rfl
  have h1 : isName [120] = true := by decide +kernel
  have h3 : vW [] = true := rfl
  rw [jA, if_neg (by simp [ht])]
  simp [h1, h3, apj h]
 unfold checkN
 rw [hf]
 simp only [Bool.true_eq_false, if_false]
 split
 ·simp
 ·split <;> simp
theorem axl {n : za} {f t q m a X Y Z} (h : Flat n f t q m a X Y Z) {l : List za} {K : List za} (hK : items K = X ++ (items l ++ Z)) : ∃ P S, P.length = f ∧ (P ++ tkI Y).length = t ∧ tkL n.Kids = P ++ (tkI Y ++ S) ∧ tkL (QF q n ({ m with Kids := K } : za)).Kids = P ++ (tkL l ++ S) := by
 obtain ⟨P, S, h1, h2, h3⟩ := ay1 h.at_
 have e := h3 ({ m with Kids := K } : za) h.nt rfl rfl
 have x1 := Yn X
 have x2 := Yn Y
 have x3 := h.sx
 have x4 := h.sy
 refine ⟨P ++ tkI X, tkI Z ++ S, by simp; omega, by simp; omega, ?_, ?_⟩
 ·rw [h2, ← vB, h.it, Vm, Vm]
  simp only [List.append_assoc]
 ·rw [e]
  simp only
  rw [← vB K, hK, Vm, Vm, vB]
  simp only [List.append_assoc]
end Go.Proofs.YtclohbgnaopjfaaDoor
namespace Go.Proofs.YtclohbgnaopjfaaDoor
set_option linter.unusedSimpArgs false
set_option linter.unusedVariables false
open Go
theorem axt {n : za} (hn : RN n) {f t q m a X Y Z} (h : Flat n f t q m a X Y Z) : ∃ c, WW n (f : Int) (t : Int) = some (c, 0) ∧ vD c ∧ items c = Y ∧ zN c ≤ nwt n ∧ kU c ≤ kU m.Kids := by
 have hf := ahm hn h
 obtain ⟨h1, h2, h3, h4, h5⟩ := h
 have hr := kM (h1.form hn.form) h2
 have w1 := h1.wt
 have w2 := wU m
 have hw := hn.wt
 obtain ⟨A, B, s1, a1, a2, a3, a4, a5, a6, a7, a8⟩ := adh hr (by omega) (X := X ++ Y) (Y := Z) (by rw [h3, List.append_assoc])
 obtain ⟨A', c, s2, b1, b2, b3, b4, b5, b6, b7, b8⟩ := adh a1 (by omega) (X := X) (Y := Y) a3
 refine ⟨c, ?_, b2, b4, by omega, by omega⟩
 rw [QL] at s1
 unfold WW
 rw [hf]
 simp only [Option.bind_some, bne_self_eq_false, Bool.false_eq_true, if_false]
 rw [s1]
 simp only [Option.bind_some]
 rw [s2]
 rfl
end Go.Proofs.YtclohbgnaopjfaaDoor
namespace Go.Proofs.YtclohbgnaopjfaaDoor
set_option linter.unusedSimpArgs false
set_option linter.unusedVariables false
open Go
def ajm : Tk → Nat
 | .sgn _ m => 10 + wQ m
 | .opn k a => 2 + k.length + wM a
 | .cls => 0
def tw : List Tk → Nat
 | [] => 0
 | t :: l => ajm t + tw l
theorem JQ : ∀ a b : List Tk, tw (a ++ b) = tw a + tw b
 | [], b => by simp [tw]
 | x :: a, b => by simp only [List.cons_append, tw, JQ a b]; omega
theorem alG (m : List Str) : ∀ l : List Int, tw (l.map fun c => Tk.sgn c m) = l.length * (10 + wQ m)
 | [] => by simp [tw]
 | c :: l => by simp only [List.map_cons, tw, ajm, alG m l, List.length_cons, Nat.add_mul]; omega
theorem aep : ∀ l : List Int, (zJ l).length ≤ 4 * l.length
 | [] => by simp [zJ]
 | c :: l => by
  rw [JX, List.length_append, List.length_cons]
  have := (asE c).2
  have := aep l
  omega
theorem amE : ∀ l : List za, (∀ n ∈ l, nwt n ≤ tw (tkN n)) → zN l ≤ tw (tkL l)
 | [], _ => by simp [zN]
 | n :: l, h => by
  have h1 := h n (by simp)
  have h2 := amE l fun x hx => h x (by simp [hx])
  simp only [zN, tkL, JQ]; omega
theorem axL (n : za) : qg n = true → nwt n ≤ tw (tkN n) := by
 induction n using za.ind with
 | h n ih =>
  intro hf
  rw [qi, kg]
  cases ht : isT n with
  | true =>
   obtain ⟨h1, h2, h3, h4, h5⟩ := yI hf ht
   have hk := Xa ht
   have hr := aep (runes n.Text)
   rw [KJ h2] at hr
   have hl := anl h1
   rw [← Zk] at hl
   simp only [if_true]
   rw [alG, h4, h5, hk, Nat.mul_add]
   have : wQ n.Marks ≤ (runes n.Text).length * wQ n.Marks := Nat.le_mul_of_pos_left _ (by omega)
   simp only [wM, zN, jm, List.length_cons, List.length_nil]
   omega
  | false =>
   have hr := kM hf ht
   have h1 := amE n.Kids fun x hx => ih x hx (hr.form x hx)
   rw [jA, if_neg (by simp [ht])] at hf
   simp only [Bool.and_eq_true, decide_eq_true_eq] at hf
   simp only [Bool.false_eq_true, if_false, tw, ajm, JQ]
   rw [hf.1.1.1.2, hf.1.1.2]
   simp only [wQ, List.length_nil]
   omega
theorem al3 {l : List za} (h : vD l) : zN l ≤ tw (tkL l) := amE l fun n hn => axL n (h.form n hn)
theorem amd (W : Nat) : ∀ l : List za, (∀ n ∈ l, tw (tkN n) ≤ nwt n * (W + 10)) → tw (tkL l) ≤ zN l * (W + 10)
 | [], _ => by simp [tkL, tw]
 | n :: l, h => by
  have h1 := h n (by simp)
  have h2 := amd W l fun x hx => h x (by simp [hx])
  simp only [zN, tkL, JQ, Nat.add_mul]; omega
def dpT : Nat → List Tk → Nat
 | _, [] => 0
 | d, .opn _ _ :: l => max (d + 1) (dpT (d + 1) l)
 | d, .cls :: l => dpT (d - 1) l
 | d, .sgn _ _ :: l => dpT d l
theorem anr (m : List Str) (d : Nat) (R : List Tk) : ∀ l : List Int, dpT d ((l.map fun c => Tk.sgn c m) ++ R) = dpT d R
 | [] => rfl
 | c :: l => by rw [List.map_cons, List.cons_append, dpT, anr m d R l]
def dOf (d x : Nat) : Nat := if x = 0 then 0 else d + x
theorem alJ (d : Nat) : ∀ (l : List za) (R : List Tk), (∀ n ∈ l, ∀ R, dpT d (tkN n ++ R) = max (dOf d (yU n)) (dpT d R)) → dpT d (tkL l ++ R) = max (dOf d (wI l)) (dpT d R)
 | [], R, _ => by simp [tkL, wI, dOf]
 | n :: l, R, h => by
  rw [tkL, List.append_assoc, h n (by simp), alJ d l R fun x hx => h x (by simp [hx]), wI]
  unfold dOf
  split <;> split <;> split <;> omega
theorem au6 (n : za) : ∀ (d : Nat) (R : List Tk), dpT d (tkN n ++ R) = max (dOf d (yU n)) (dpT d R) := by
 induction n using za.ind with
 | h n ih =>
  intro d R
  rw [kg, QW]
  cases ht : isT n with
  | true =>
   simp only [if_true]
   rw [anr]
   simp [dOf]
  | false =>
   simp only [Bool.false_eq_true, if_false, List.cons_append, List.append_assoc, List.nil_append]
   rw [dpT, alJ (d + 1) n.Kids _ fun x hx => ih x hx (d + 1), dpT, Nat.add_sub_cancel]
   unfold dOf
   rw [if_neg (show ¬ (wI n.Kids + 1 = 0) by omega)]
   split <;> omega
theorem aw4 (l : List za) : dpT 0 (tkL l) = wI l := by
 have := alJ 0 l [] fun x _ => au6 x 0
 rw [List.append_nil, dpT] at this
 unfold dOf at this
 split at this
 ·rename_i h0; rw [h0]; omega
 ·omega
structure TD (n : za) (T : List Tk) : Prop where
 ok : checkN n = 0
 nt : isT n = false
 tk : tkL n.Kids = T
def wD (n : za) (T : List Tk) : Nat := n.Kind.length + wM n.zh + tw T
theorem asl {n : za} (h : qg n = true) (ht : isT n = false) : n.Text = [] ∧ n.Marks = [] := by
 rw [jA, if_neg (by simp [ht])] at h
 simp only [Bool.and_eq_true, decide_eq_true_eq] at h
 exact ⟨h.1.1.1.2, h.1.1.2⟩
theorem TD.form {n T} (h : TD n T) : qg n = true := (acO h.ok).1
theorem TD.row {n T} (h : TD n T) : vD n.Kids := kM h.form h.nt
theorem axP {n : za} {T : List Tk} (hf : qg n = true) (ht : isT n = false) (hT : tkL n.Kids = T) : nwt n ≤ 2 + wD n T := by
 obtain ⟨h1, h2⟩ := asl hf ht
 have := al3 (kM hf ht)
 rw [hT] at this
 rw [qi, h1, h2]
 unfold wD
 simp only [wQ, List.length_nil]
 omega
theorem TD.wt {n T} (h : TD n T) : nwt n ≤ 2 + wD n T := axP h.form h.nt h.tk
theorem TD.rn {n T} (h : TD n T) (hw : wD n T ≤ 100000000) : RN n := ⟨h.ok, h.nt, by have := h.wt; omega⟩
theorem TD.len {n T} (h : TD n T) : T.length = zC n.Kids := by rw [← h.tk, yR]
theorem TD.size {n T} (h : TD n T) : wO n = 2 + T.length := by rw [Qm h.nt, h.len]
theorem TD.small {n T} (h : TD n T) : T.length ≤ 3998 := by
 have := (acO h.ok).2.2
 rw [h.size] at this
 omega
theorem TD.ext {a b T} (ha : TD a T) (hb : TD b T) (hk : a.Kind = b.Kind) (hat : a.zh = b.zh) : a = b :=
 Kk ha.form hb.form ha.nt hb.nt hk hat (alv ha.row hb.row (by rw [ha.tk, hb.tk]))
theorem atm {a b : za} (ha : qg a = true) (hb : qg b = true) (ta : isT a = false) (tb : isT b = false) (hk : a.Kind = b.Kind) (hat : a.zh = b.zh) (h : tkL a.Kids = tkL b.Kids) : a = b :=
 Kk ha hb ta tb hk hat (alv (kM ha ta) (kM hb tb) h)
theorem aoh {n : za} (hf : qg n = true) (ht : isT n = false) {T : List Tk} (hT : tkL n.Kids = T) : checkN n = if 40 < dpT 0 T + 1 then 4 else if 4000 < 2 + T.length then 5 else 0 := by
 have h1 : yU n = dpT 0 T + 1 := by rw [QW, if_neg (by simp [ht]), ← aw4, hT]
 have h2 : wO n = 2 + T.length := by rw [Qm ht, ← yR, hT]
 unfold checkN
 rw [hf, if_neg (show ¬ (true = false) by simp), h1, h2]
theorem TD.of {n : za} {T : List Tk} (hf : qg n = true) (ht : isT n = false) (hT : tkL n.Kids = T) (hd : dpT 0 T ≤ 39) (hl : T.length ≤ 3998) : TD n T :=
 ⟨by rw [aoh hf ht hT, if_neg (by omega), if_neg (by omega)], ht, hT⟩
theorem TD.deep {n T} (h : TD n T) : dpT 0 T ≤ 39 := by
 have := h.ok
 rw [aoh h.form h.nt h.tk] at this
 split at this
 ·cases this
 ·omega
theorem auD {S : List Tk} (h : asv S) (R : List Tk) : asv (S ++ Tk.cls :: R) := by
 cases S with
 | nil => trivial
 | cons t S => cases t <;> first | trivial | exact h.elim
theorem at_end {n : za} {q m a} (h : At n q m a) : ∃ P S, P.length = a ∧ tkL n.Kids = P ++ (tkL m.Kids ++ S) ∧ asv S := by
 induction h with
 | nil n => exact ⟨[], [], rfl, by simp, trivial⟩
 | cons n i k q m a hi hn hk h ih =>
  obtain ⟨P, S, h1, h2, h3⟩ := ih
  refine ⟨tkL (n.Kids.take i) ++ (Tk.opn k.Kind k.zh :: P), S ++ (Tk.cls :: tkL (n.Kids.drop (i + 1))), ?_, ?_, auD h3 _⟩
  ·simp only [List.length_append, List.length_cons, yR]; omega
  ·rw [VN hi, kg, if_neg (by simp [hk]), h2]
   simp only [List.append_assoc, List.cons_append, List.nil_append]
theorem ae2 : ∀ (Y Z : List It) (R S : List Tk), FI Y → FI Z → asv S → tkI Y ++ R = tkI Z ++ S → ∃ Z', Z = Y ++ Z' ∧ R = tkI Z' ++ S
 | [], Z, R, S, _, _, _, h => ⟨Z, rfl, by simpa [tkI] using h⟩
 | i :: Y, [], R, S, fy, _, hS, h => by
  exfalso
  rw [QJ] at h
  cases i with
  | sgn c m =>
   simp only [YJ, tkI, List.flatMap_nil, List.nil_append, List.cons_append] at h
   rw [← h] at hS
   exact hS
  | nod n =>
   have := (fy n (by simp)).1
   simp only [YJ, tkI, List.flatMap_nil, List.nil_append] at h
   rw [kg, this] at h
   simp only [Bool.false_eq_true, if_false, List.cons_append] at h
   rw [← h] at hS
   exact hS
 | i :: Y, j :: Z, R, S, fy, fz, hS, h => by
  have fy' : FI Y := fun n hn => fy n (by simp [hn])
  have fz' : FI Z := fun n hn => fz n (by simp [hn])
  rw [QJ, QJ] at h
  cases i with
  | sgn c m =>
   cases j with
   | sgn c' m' =>
    simp only [YJ, List.cons_append, List.nil_append, List.cons.injEq, Tk.sgn.injEq] at h
    obtain ⟨⟨rfl, rfl⟩, h⟩ := h
    obtain ⟨Z', rfl, h2⟩ := ae2 Y Z R S fy' fz' hS h
    exact ⟨Z', rfl, h2⟩
   | nod n =>
    exfalso
    have := (fz n (by simp)).1
    simp only [YJ] at h
    rw [kg, this] at h
    simp at h
  | nod n =>
   obtain ⟨tn, fn⟩ := fy n (by simp)
   cases j with
   | sgn c m =>
    exfalso
    simp only [YJ] at h
    rw [kg, tn] at h
    simp at h
   | nod n' =>
    obtain ⟨tn', fn'⟩ := fz n' (by simp)
    simp only [YJ] at h
    rw [kg, kg, tn, tn'] at h
    simp only [Bool.false_eq_true, if_false, List.cons_append, List.append_assoc, List.nil_append, List.cons.injEq, Tk.opn.injEq] at h
    obtain ⟨⟨hk, hat⟩, h⟩ := h
    have r1 := kM fn tn
    have r2 := kM fn' tn'
    rw [← vB, ← vB] at h
    obtain ⟨e1, e2⟩ := ahC _ (items n.Kids) (items n'.Kids) (Tk.cls :: (tkI Y ++ R)) (Tk.cls :: (tkI Z ++ S)) (Nat.le_refl _) (ZL r1.form) (ZL r2.form) trivial trivial h
    have e4 := Kk fn fn' tn tn' hk hat (ahw r1 r2 e1)
    subst e4
    simp only [List.cons.injEq, true_and] at e2
    obtain ⟨Z', rfl, h2⟩ := ae2 Y Z R S fy' fz' hS e2
    exact ⟨Z', rfl, h2⟩
theorem aaA {α : Type} {a b c d : List α} (h : a ++ b = c ++ d) (hl : a.length = c.length) : a = c ∧ b = d := List.append_inj h hl
theorem aqi {n : za} {T P S : List Tk} {Y : List It} (h : TD n T) (hw : wD n T ≤ 100000000) (hT : T = P ++ (tkI Y ++ S)) (fy : FI Y) :
  ∃ q m a X Z, Flat n P.length (P.length + szI Y) q m a X Y Z ∧ ∃ P1 S1, P = P1 ++ tkI X ∧ S = tkI Z ++ S1 := by
 have hn := h.rn hw
 have hl := h.len
 have hp : P.length ≤ zC n.Kids := by rw [← hl, hT]; simp
 obtain ⟨q, m, a, X, Z0, hF⟩ := auM hn hp
 obtain ⟨P1, S1, e1, e2, e3⟩ := at_end hF.at_
 have hit := hF.it
 rw [List.nil_append] at hit
 rw [← vB m.Kids, hit, Vm, h.tk, hT, ← List.append_assoc, ← List.append_assoc, ← List.append_assoc, List.append_assoc (P1 ++ tkI X), List.append_assoc P] at e2
 have hsx := hF.sx
 obtain ⟨g1, g2⟩ := aaA e2 (by rw [List.length_append, Yn]; omega)
 have fm := kM (hF.at_.form hn.form) hF.nt
 have fi := ZL fm.form
 rw [hit] at fi
 obtain ⟨Z', rfl, g3⟩ := ae2 Y Z0 S S1 fy (fun x hx => fi x (by simp [hx])) e3 g2
 exact ⟨q, m, a, X, Z', ⟨hF.at_, hF.nt, hit, hF.sx, rfl⟩, P1, S1, g1, g3⟩
theorem avL {n : za} (hn : RN n) (hw : nwt n ≤ 1000000000) {f t q m a X Y Z} (h : Flat n f t q m a X Y Z) {l : List za} (hl : ∀ x ∈ l, qg x = true) (hlw : zN l ≤ 1000000000) :
  ∃ K N, N = QF q n ({ m with Kids := K } : za) ∧ vD K ∧ items K = X ++ (items l ++ Z) ∧ qg N = true ∧ isT N = false ∧ Zl n (f : Int) (t : Int) l = some (if checkN N = 0 then (N, 0) else (afA, checkN N)) := by
 have hwh := ahm hn h
 obtain ⟨h1, h2, h3, h4, h5⟩ := h
 have hr := kM (h1.form hn.form) h2
 have w1 := h1.wt
 have w2 := wU m
 obtain ⟨A, A', s1, a1, a2, a3, a4, a5, a6, a7, a8⟩ := adh hr (by omega) (X := X) (Y := Y ++ Z) h3
 obtain ⟨B', B, s2, b1, b2, b3, b4, b5, b6, b7, b8⟩ := adh hr (by omega) (X := X ++ Y) (Y := Z) (by rw [h3, List.append_assoc])
 have hall : ∀ x ∈ A ++ (l ++ B), qg x = true := by
  intro x hx
  rcases List.mem_append.1 hx with hx | hx
  ·exact a1.form x hx
  ·rcases List.mem_append.1 hx with hx | hx
   ·exact hl x hx
   ·exact b2.form x hx
 obtain ⟨kr, ki⟩ := afB hall
 obtain ⟨lr, li⟩ := afB hl
 have kw := Y7 (A ++ (l ++ B))
 rw [kX, kX] at kw
 rw [Qv, Qv, a3, b4] at ki
 have hlw2 := qw (A ++ (l ++ B))
 rw [kX, kX] at hlw2
 generalize hK : yF (A ++ (l ++ B)) = K at *
 have hx : isT ({ m with Kids := K } : za) = false := h2
 have fx := aa8 (h1.form hn.form) h2 kr
 have wx : nwt ({ m with Kids := K } : za) + zN m.Kids = nwt m + zN K := by
  rw [qi, qi m]; simp only; omega
 have hrw := aw9 (x := ({ m with Kids := K } : za)) h1
 have hfN := aoa hx fx h1 hn.form
 have htN := Xu q n _ hn.nt hx
 refine ⟨K, _, rfl, kr, ki, hfN, htN, ?_⟩
 have g2 := atE lr
 have hjw := Y7 l
 have hxw : nwt (⟨[120], [], [], [], yF l⟩ : za) ≤ 1099511627776 := by
  rw [qi]; simp only [wQ, wM, List.length_cons, List.length_nil]; omega
 unfold Zl
 rw [hwh]
 simp only [Option.bind_some]
 have z2 : ((0 : Int) == 2) = false := rfl
 simp only [z2, Bool.false_eq_true, if_false]
 rw [ade l (by omega)]
 simp only [Option.bind_some]
 rw [Y0 _ hxw]
 have g2' : (checkN (⟨[120], [], [], [], yF l⟩ : za) == 2) = false := by simpa using g2
 simp only [Option.bind_some, g2', Bool.false_eq_true, if_false, bne_self_eq_false]
 rw [s1]
 simp only [Option.bind_some]
 rw [QL] at s2
 rw [s2]
 simp only [Option.bind_some]
 have hflat : ([A, l, B] : List (List za)).flatten = A ++ (l ++ B) := by simp
 rw [ass _ (by simp) (by rw [hflat]; omega), hflat]
 simp only [Option.bind_some]
 rw [ade _ (by rw [kX, kX]; omega), hK]
 simp only [Option.bind_some]
 rw [aqn h1 hn.nt (by omega)]
 simp only [Option.bind_some]
 rw [Y0 _ (by omega)]
 simp only [Option.bind_some]
 by_cases hc : checkN (QF q n ({ m with Kids := K } : za)) = 0
 ·rw [hc]; simp
 ·simp [hc]
theorem avK {n : za} {T P S : List Tk} {Y : List It} (h : TD n T) (hw : wD n T ≤ 100000000) (hT : T = P ++ (tkI Y ++ S)) (fy : FI Y) {l : List za} (hl : ∀ x ∈ l, qg x = true) (hlw : zN l ≤ 1000000000) :
  ∃ N, qg N = true ∧ isT N = false ∧ N.Kind = n.Kind ∧ N.zh = n.zh ∧ tkL N.Kids = P ++ (tkL l ++ S) ∧ Zl n (P.length : Int) ((P.length + szI Y : Nat) : Int) l = some (if checkN N = 0 then (N, 0) else (afA, checkN N)) := by
 obtain ⟨q, m, a, X, Z, hF, _⟩ := aqi h hw hT fy
 have hn := h.rn hw
 have hwt := h.wt
 obtain ⟨K, N, rfl, hK, hi, hf, ht, hp⟩ := avL hn (by omega) hF hl hlw
 obtain ⟨P', S', p1, p2, p3, p4⟩ := axl hF hi
 obtain ⟨k1, k2, _, _⟩ := at0 (x := ({ m with Kids := K } : za)) hF.at_ rfl rfl rfl rfl
 refine ⟨_, hf, ht, k1, k2, ?_, hp⟩
 rw [h.tk, hT] at p3
 obtain ⟨g1, g2⟩ := aaA p3 p1.symm
 obtain ⟨_, g3⟩ := aaA g2 rfl
 rw [p4, ← g1, ← g3]
theorem avB {n : za} {T P S : List Tk} {Y : List It} (h : TD n T) (hw : wD n T ≤ 100000000) (hT : T = P ++ (tkI Y ++ S)) (fy : FI Y) :
  ∃ c, WW n (P.length : Int) ((P.length + szI Y : Nat) : Int) = some (c, 0) ∧ vD c ∧ items c = Y ∧ zN c ≤ nwt n := by
 obtain ⟨q, m, a, X, Z, hF, _⟩ := aqi h hw hT fy
 obtain ⟨c, h1, h2, h3, h4, _⟩ := axt (h.rn hw) hF
 exact ⟨c, h1, h2, h3, h4⟩
end Go.Proofs.YtclohbgnaopjfaaDoor
namespace Go.Proofs.YtclohbgnaopjfaaDoor
set_option linter.unusedSimpArgs false
set_option linter.unusedVariables false
open Go Classical
theorem yH : ∀ x : Str, Op.bytesLess x x = false
 | [] => rfl
 | a :: x => by
  have h : ¬ a < a := by rw [UInt8.lt_iff_toNat_lt]; omega
  simp [Op.bytesLess, yH x]
theorem aav : ∀ x y z : Str, Op.bytesLess x y = true → Op.bytesLess y z = true → Op.bytesLess x z = true
 | _, [], _, h, _ => by simp [Op.bytesLess] at h
 | _, _ :: _, [], _, h => by simp [Op.bytesLess] at h
 | [], _ :: _, _ :: _, _, _ => rfl
 | a :: x, b :: y, c :: z, h1, h2 => by
  simp only [Op.bytesLess, Bool.or_eq_true, Bool.and_eq_true, decide_eq_true_eq, beq_iff_eq, UInt8.lt_iff_toNat_lt] at h1 h2 ⊢
  rcases h1 with h1 | ⟨rfl, h1⟩
  ·rcases h2 with h2 | ⟨rfl, h2⟩
   ·exact .inl (by omega)
   ·exact .inl h1
  ·rcases h2 with h2 | ⟨rfl, h2⟩
   ·exact .inl h2
   ·exact .inr ⟨rfl, aav x y z h1 h2⟩
theorem aoX : ∀ x y : Str, Op.bytesLess x y = true ∨ x = y ∨ Op.bytesLess y x = true
 | [], [] => .inr (.inl rfl)
 | [], _ :: _ => .inl rfl
 | _ :: _, [] => .inr (.inr rfl)
 | a :: x, b :: y => by
  simp only [Op.bytesLess, Bool.or_eq_true, Bool.and_eq_true, decide_eq_true_eq, beq_iff_eq, UInt8.lt_iff_toNat_lt, List.cons.injEq]
  by_cases h : a = b
  ·subst h
   rcases aoX x y with h1 | h1 | h1
   ·exact .inl (.inr ⟨rfl, h1⟩)
   ·exact .inr (.inl ⟨rfl, h1⟩)
   ·exact .inr (.inr (.inr ⟨rfl, h1⟩))
  ·have : a.toNat ≠ b.toNat := fun e => h (UInt8.toNat_inj.1 e)
   rcases Nat.lt_or_gt_of_ne this with h1 | h1
   ·exact .inl (.inl h1)
   ·exact .inr (.inr (.inl h1))
theorem avc {x y : Str} (h : Op.bytesLess x y = true) : Op.bytesLess y x = false := by
 cases h2 : Op.bytesLess y x with
 | false => rfl
 | true => have := aav x y x h h2; rw [yH] at this; cases this
theorem YN {x : Str} (h : isName x = true) : x.length ≤ 20 := by
 unfold isName at h
 simp only [Bool.and_eq_true, decide_eq_true_eq] at h
 have := h.1.2
 omega
abbrev BL (a b : Str) : Prop := Op.bytesLess a b = true
theorem acU : ∀ (l : List Str) (last : Option Str), Zj last l = true ↔ (∀ x ∈ l, isName x = true) ∧ l.Pairwise BL ∧ ∀ x, last = some x → ∀ y ∈ l, BL x y
 | [], last => by simp [Zj]
 | y :: l, none => by
  rw [VH, Bool.and_eq_true, Bool.and_eq_true, acU l (some y)]
  simp only [List.mem_cons, forall_eq_or_imp, List.pairwise_cons, Option.some.injEq, forall_eq', and_true, reduceCtorEq, false_implies, implies_true]
  constructor
  ·rintro ⟨h1, h3, h4, h5⟩
   exact ⟨⟨h1, h3⟩, h5, h4⟩
  ·rintro ⟨⟨h1, h3⟩, h5, h4⟩
   exact ⟨h1, h3, h4, h5⟩
 | y :: l, some x => by
  rw [VH, Bool.and_eq_true, Bool.and_eq_true, acU l (some y)]
  have key : (!(Op.bytesLess y x || y == x)) = true ↔ BL x y := by
   simp only [Bool.not_eq_true', Bool.or_eq_false_iff, beq_eq_false_iff_ne]
   constructor
   ·rintro ⟨h1, h2⟩
    rcases aoX x y with h | h | h
    ·exact h
    ·exact absurd h.symm h2
    ·rw [h1] at h; cases h
   ·intro h
    exact ⟨avc h, fun e => by subst e; rw [BL, yH] at h; cases h⟩
  simp only [key, List.mem_cons, forall_eq_or_imp, List.pairwise_cons, Option.some.injEq, forall_eq']
  constructor
  ·rintro ⟨⟨h1, h2⟩, h3, h4, h5⟩
   exact ⟨⟨h1, h3⟩, ⟨h5, h4⟩, h2, fun z hz => aav _ _ _ h2 (h5 z hz)⟩
  ·rintro ⟨⟨h1, h3⟩, ⟨h5, h4⟩, h6, _⟩
   exact ⟨⟨h1, h6⟩, h3, h4, h5⟩
theorem QX (l : List Str) : vW l = true ↔ (∀ x ∈ l, isName x = true) ∧ l.Pairwise BL := by
 unfold vW
 rw [acU]
 simp
theorem aia : ∀ (a b : List Str), a.Pairwise BL → b.Pairwise BL → (∀ y, y ∈ a ↔ y ∈ b) → a = b
 | [], [], _, _, _ => rfl
 | [], y :: b, _, _, h => by have := (h y).2 (by simp); cases this
 | x :: a, [], _, _, h => by have := (h x).1 (by simp); cases this
 | x :: a, y :: b, ha, hb, h => by
  rw [List.pairwise_cons] at ha hb
  have e : x = y := by
   rcases (List.mem_cons.1 ((h x).1 (by simp))) with h1 | h1
   ·exact h1
   ·rcases (List.mem_cons.1 ((h y).2 (by simp))) with h2 | h2
    ·exact h2.symm
    ·have := aav _ _ _ (hb.1 x h1) (ha.1 y h2)
     rw [yH] at this
     cases this
  subst e
  have nx : ∀ z, BL x z → z ≠ x := fun z hz e => by subst e; rw [BL, yH] at hz; cases hz
  rw [aia a b ha.2 hb.2 fun z => ?_]
  constructor
  ·intro hz
   rcases List.mem_cons.1 ((h z).1 (by simp [hz])) with h1 | h1
   ·exact absurd h1 (nx z (ha.1 z hz))
   ·exact h1
  ·intro hz
   rcases List.mem_cons.1 ((h z).2 (by simp [hz])) with h1 | h1
   ·exact absurd h1 (nx z (hb.1 z hz))
   ·exact h1
theorem Xy {a b : List Str} (ha : vW a = true) (hb : vW b = true) (h : ∀ y, y ∈ a ↔ y ∈ b) : a = b := aia a b ((QX a).1 ha).2 ((QX b).1 hb).2 h
theorem X0 (x : Str) : ∀ m : List Str, m.Pairwise BL → ∃ A B, m = A ++ B ∧ (∀ y ∈ A, BL y x) ∧ ∀ y ∈ B, Op.bytesLess y x = false
 | [], _ => ⟨[], [], rfl, by simp, by simp⟩
 | z :: m, h => by
  rw [List.pairwise_cons] at h
  cases hz : Op.bytesLess z x with
  | true =>
   obtain ⟨A, B, e, h1, h2⟩ := X0 x m h.2
   exact ⟨z :: A, B, by rw [e]; rfl, by simp only [List.mem_cons, forall_eq_or_imp]; exact ⟨hz, h1⟩, h2⟩
  | false =>
   refine ⟨[], z :: m, rfl, by simp, ?_⟩
   simp only [List.mem_cons, forall_eq_or_imp]
   refine ⟨hz, fun y hy => ?_⟩
   cases hy' : Op.bytesLess y x with
   | false => rfl
   | true => have := aav _ _ _ (h.1 y hy) hy'; rw [hz] at this; cases this
theorem afb (less : Nat → Bool) (k n : Nat) (h1 : ∀ t, t < k → less t = true) (h2 : ∀ t, k ≤ t → t < n → less t = false) : ∀ (f lo hi : Nat), hi - lo ≤ f → lo ≤ k → k ≤ hi → hi ≤ n → Lib.bsGo less f lo hi = k
 | 0, lo, hi, hf, a, b, _ => by simp [Lib.bsGo]; omega
 | f + 1, lo, hi, hf, a, b, c => by
  unfold Lib.bsGo
  by_cases h : lo < hi
  ·rw [if_pos h]
   by_cases hm : (lo + hi) / 2 < k
   ·rw [h1 _ hm, if_pos rfl]; exact afb less k n h1 h2 f _ _ (by omega) (by omega) b c
   ·rw [h2 _ (by omega) (by omega), if_neg (by simp)]; exact afb less k n h1 h2 f _ _ (by omega) a (by omega) (by omega)
  ·rw [if_neg h]; omega
theorem arS {x : Str} {A B : List Str} (hA : ∀ y ∈ A, BL y x) (hB : ∀ y ∈ B, Op.bytesLess y x = false) : bsI (A ++ B) x = A.length := by
 unfold bsI
 refine afb _ A.length (A ++ B).length (fun t ht => ?_) (fun t ht ht' => ?_) _ _ _ (by omega) (by omega) (by simp) (by simp)
 ·rw [List.getD_eq_getElem?_getD, List.getElem?_append_left ht, List.getElem?_eq_getElem ht]
  exact hA _ (List.getElem_mem ht)
 ·rw [List.getD_eq_getElem?_getD, List.getElem?_eq_getElem ht', List.getElem_append_right ht]
  exact hB _ (List.getElem_mem _)
def mkS (k : Int) (x : Str) (m : List Str) : List Str := (QM k x m).1
theorem aom {x : Str} {A B : List Str} (hs : (A ++ B).Pairwise BL) (hA : ∀ y ∈ A, BL y x) (hB : ∀ y ∈ B, Op.bytesLess y x = false) (k : Int) :
  (x ∈ A ++ B ∧ ∃ B', B = x :: B' ∧ (∀ y ∈ B', y ≠ x) ∧ QM k x (A ++ B) = (if k = 109 then (A ++ B, false) else (A ++ B', true))) ∨
  (x ∉ A ++ B ∧ QM k x (A ++ B) = (if k = 109 then (A ++ x :: B, true) else (A ++ B, false))) := by
 have hnA : x ∉ A := fun h => by have := hA x h; rw [BL, yH] at this; cases this
 have hi := arS hA hB
 have hd : aeq (A ++ B) A.length = A ++ B.drop 1 := by simp [aeq]
 have hn : VL (A ++ B) A.length x = A ++ x :: B := by simp [VL]
 unfold QM
 rw [hi, hd, hn]
 cases B with
 | nil =>
  right
  rw [List.append_nil] at hs ⊢
  refine ⟨hnA, ?_⟩
  have : decide (A.length < A.length ∧ A.getD A.length [] = x) = false := by simp
  rw [this]
  by_cases h : k = 109 <;> simp [h]
 | cons y B =>
  have hg : (A ++ y :: B).getD A.length [] = y := by simp
  rw [hg]
  have hlt : A.length < (A ++ y :: B).length := by simp
  rw [List.pairwise_append, List.pairwise_cons] at hs
  by_cases e : y = x
  ·subst e
   left
   refine ⟨by simp, B, rfl, fun z hz e => ?_, ?_⟩
   ·subst e
    have := hs.2.1.1 z hz
    rw [BL, yH] at this
    cases this
   have : decide (A.length < (A ++ y :: B).length ∧ y = y) = true := by simp
   rw [this]
   by_cases h : k = 109 <;> simp [h]
  ·right
   refine ⟨fun hx => ?_, ?_⟩
   ·rcases List.mem_append.1 hx with h | h
    ·exact hnA h
    ·rcases List.mem_cons.1 h with h | h
     ·exact e h.symm
     ·have h1 := hs.2.1.1 x h
      have h9 := hB y (by simp)
      rw [show Op.bytesLess y x = true from h1] at h9
      cases h9
   ·have : decide (A.length < (A ++ y :: B).length ∧ y = x) = false := by simp [e]
    rw [this]
    by_cases h : k = 109 <;> simp [h]
theorem ak3 {x : Str} {m : List Str} (hm : vW m = true) (hx : isName x = true) : vW (mkS 109 x m) = true ∧ (∀ y, y ∈ mkS 109 x m ↔ y = x ∨ y ∈ m) ∧ (QM 109 x m).2 = decide (x ∉ m) := by
 obtain ⟨h1, h2⟩ := (QX m).1 hm
 obtain ⟨A, B, rfl, hA, hB⟩ := X0 x m h2
 unfold mkS
 rcases aom h2 hA hB 109 with ⟨hin, B', rfl, _, e⟩ | ⟨hin, e⟩
 ·rw [e, if_pos rfl]
  refine ⟨hm, fun y => ?_, by simp⟩
  constructor
  ·exact .inr
  ·rintro (rfl | h)
   ·exact hin
   ·exact h
 ·rw [e, if_pos rfl]
  have hx' : ∀ y ∈ B, BL x y := fun y hy => by
   rcases aoX x y with h | h | h
   ·exact h
   ·subst h; exact absurd (List.mem_append.2 (.inr hy)) hin
   ·have h9 := hB y hy; rw [show Op.bytesLess y x = true from h] at h9; cases h9
  rw [List.pairwise_append] at h2
  refine ⟨(QX _).2 ⟨?_, ?_⟩, fun y => ?_, by simp [hin]⟩
  ·intro y hy
   rcases List.mem_append.1 hy with h | h
   ·exact h1 y (by simp [h])
   ·rcases List.mem_cons.1 h with rfl | h
    ·exact hx
    ·exact h1 y (by simp [h])
  ·rw [List.pairwise_append, List.pairwise_cons]
   refine ⟨h2.1, ⟨hx', h2.2.1⟩, fun a ha b hb => ?_⟩
   rcases List.mem_cons.1 hb with rfl | hb
   ·exact hA a ha
   ·exact h2.2.2 a ha b hb
  ·simp only [List.mem_append, List.mem_cons]
   constructor
   ·rintro (h | h | h)
    ·exact .inr (.inl h)
    ·exact .inl h
    ·exact .inr (.inr h)
   ·rintro (h | h | h)
    ·exact .inr (.inl h)
    ·exact .inl h
    ·exact .inr (.inr h)
theorem aeY {k : Int} (hk : k ≠ 109) {x : Str} {m : List Str} (hm : vW m = true) : vW (mkS k x m) = true ∧ (∀ y, y ∈ mkS k x m ↔ y ≠ x ∧ y ∈ m) ∧ (QM k x m).2 = decide (x ∈ m) := by
 obtain ⟨h1, h2⟩ := (QX m).1 hm
 obtain ⟨A, B, rfl, hA, hB⟩ := X0 x m h2
 unfold mkS
 rcases aom h2 hA hB k with ⟨hin, B', rfl, hB', e⟩ | ⟨hin, e⟩
 ·rw [e, if_neg hk]
  have hnA : x ∉ A := fun h => by have := hA x h; rw [BL, yH] at this; cases this
  rw [List.pairwise_append, List.pairwise_cons] at h2
  refine ⟨(QX _).2 ⟨fun y hy => ?_, ?_⟩, fun y => ?_, by simp⟩
  ·rcases List.mem_append.1 hy with h | h
   ·exact h1 y (by simp [h])
   ·exact h1 y (by simp [h])
  ·rw [List.pairwise_append]
   exact ⟨h2.1, h2.2.1.2, fun a ha b hb => h2.2.2 a ha b (by simp [hb])⟩
  ·simp only [List.mem_append, List.mem_cons]
   constructor
   ·rintro (h | h)
    ·exact ⟨fun e => hnA (e ▸ h), .inl h⟩
    ·exact ⟨hB' y h, .inr (.inr h)⟩
   ·rintro ⟨h, h3 | h3 | h3⟩
    ·exact .inl h3
    ·exact absurd h3 h
    ·exact .inr h3
 ·rw [e, if_neg hk]
  refine ⟨hm, fun y => ?_, by simp [hin]⟩
  constructor
  ·intro h
   exact ⟨fun e => hin (e ▸ h), h⟩
  ·exact fun h => h.2
theorem ap9 (k : Int) {x : Str} {m : List Str} (hm : vW m = true) (hx : isName x = true) : vW (mkS k x m) = true := by
 by_cases h : k = 109
 ·subst h; exact (ak3 hm hx).1
 ·exact (aeY h hm).1
theorem amz (k : Int) {x : Str} {m : List Str} (hm : vW m = true) (hx : isName x = true) : (QM k x m).2 = decide (mkS k x m ≠ m) := by
 by_cases h : k = 109
 ·subst h
  obtain ⟨h1, h2, h3⟩ := ak3 hm hx
  rw [h3]
  congr 1
  apply propext
  constructor
  ·intro h4 e
   have := (h2 x).2 (.inl rfl)
   rw [e] at this
   exact h4 this
  ·intro h4 h5
   refine h4 (Xy h1 hm fun y => ?_)
   rw [h2]
   constructor
   ·rintro (rfl | h)
    ·exact h5
    ·exact h
   ·exact .inr
 ·obtain ⟨h1, h2, h3⟩ := aeY h hm (x := x)
  rw [h3]
  congr 1
  apply propext
  constructor
  ·intro h4 e
   rw [← e, h2] at h4
   exact h4.1 rfl
  ·intro h4
   by_cases h5 : x ∈ m
   ·exact h5
   ·refine absurd (Xy h1 hm fun y => ?_) h4
    rw [h2]
    exact ⟨fun h => h.2, fun h => ⟨fun e => h5 (e ▸ h), h⟩⟩
end Go.Proofs.YtclohbgnaopjfaaDoor
namespace Go.Proofs.YtclohbgnaopjfaaDoor
set_option linter.unusedSimpArgs false
set_option linter.unusedVariables false
open Go Classical
section
variable (k : Int) (x : Str) (a b : Nat)
def mkT (i : Nat) : Tk → Tk
 | .sgn c m => .sgn c (if a ≤ i ∧ i < b then mkS k x m else m)
 | t => t
theorem Yj (i : Nat) (c : Int) (m : List Str) : mkT k x a b i (.sgn c m) = .sgn c (if a ≤ i ∧ i < b then mkS k x m else m) := rfl
theorem adX (i : Nat) (c : Str) (m : List ze) : mkT k x a b i (.opn c m) = .opn c m := rfl
theorem ag8 (i : Nat) : mkT k x a b i .cls = .cls := rfl
def kz : Nat → List Tk → List Tk
 | _, [] => []
 | i, t :: l => mkT k x a b i t :: kz (i + 1) l
theorem aff : ∀ (l r : List Tk) (i : Nat), kz k x a b i (l ++ r) = kz k x a b i l ++ kz k x a b (i + l.length) r
 | [], r, i => by simp [kz]
 | t :: l, r, i => by
  rw [List.cons_append, kz, kz, aff l r (i + 1), List.cons_append, List.length_cons]
  congr 3
  omega
theorem afz : ∀ (l : List Tk) (i : Nat), (kz k x a b i l).length = l.length
 | [], i => rfl
 | t :: l, i => by rw [kz, List.length_cons, List.length_cons, afz l]
theorem Ym : ∀ (l : List Tk) (i d : Nat), dpT d (kz k x a b i l) = dpT d l
 | [], i, d => rfl
 | .sgn c m :: l, i, d => by rw [kz, Yj, dpT, dpT, Ym l]
 | .opn c m :: l, i, d => by rw [kz, adX, dpT, dpT, Ym l]
 | .cls :: l, i, d => by rw [kz, ag8, dpT, dpT, Ym l]
theorem asV (m : List Str) : wQ (mkS k x m) ≤ wQ m + 1 + x.length := by
 have ins : ∀ (m : List Str) (i : Nat), wQ (VL m i x) = wQ m + (1 + x.length) := by
  intro m i
  have app : ∀ p q : List Str, wQ (p ++ q) = wQ p + wQ q := by
   intro p q
   induction p with
   | nil => simp [wQ]
   | cons y p ih => simp only [List.cons_append, wQ, ih]; omega
  have h := app (m.take i) (m.drop i)
  rw [List.take_append_drop] at h
  unfold VL
  rw [app, wQ]
  omega
 have del : ∀ (m : List Str) (i : Nat), wQ (aeq m i) ≤ wQ m := by
  intro m i
  have app : ∀ p q : List Str, wQ (p ++ q) = wQ p + wQ q := by
   intro p q
   induction p with
   | nil => simp [wQ]
   | cons y p ih => simp only [List.cons_append, wQ, ih]; omega
  have h := app (m.take i) (m.drop i)
  rw [List.take_append_drop] at h
  have h2 := app ((m.drop i).take 1) ((m.drop i).drop 1)
  rw [List.take_append_drop, List.drop_drop] at h2
  unfold aeq
  rw [app]
  omega
 unfold mkS QM
 split
 ·show wQ m ≤ _; omega
 ·split
  ·have := del m (bsI m x); show wQ (aeq m (bsI m x)) ≤ _; omega
  ·have := ins m (bsI m x); show wQ (VL m (bsI m x) x) ≤ _; omega
theorem ag4 : ∀ (l : List Tk) (i : Nat), tw (kz k x a b i l) ≤ tw l + l.length * (1 + x.length)
 | [], i => by simp [kz, tw]
 | .sgn c m :: l, i => by
  have h1 := ag4 l (i + 1)
  have h2 := asV k x m
  rw [kz, Yj, tw, tw, ajm, ajm, List.length_cons, Nat.add_mul]
  split <;> omega
 | .opn c m :: l, i => by
  have h1 := ag4 l (i + 1)
  rw [kz, adX, tw, tw, List.length_cons, Nat.add_mul]
  omega
 | .cls :: l, i => by
  have h1 := ag4 l (i + 1)
  rw [kz, ag8, tw, tw, List.length_cons, Nat.add_mul]
  omega
def Xr (o : List zt) (i : Nat) : List zt :=
 match o.getLast? with
 | some r => if r.Pos + r.Old = i then o.dropLast ++ [{ r with Old := r.Old + 1 }] else o ++ [⟨i, 1, 0⟩]
 | none => [⟨i, 1, 0⟩]
def as9 (i : Nat) (o : List zt) : Tk → List zt
 | .sgn _ m => if a ≤ i ∧ i < b ∧ mkS k x m ≠ m then Xr o i else o
 | _ => o
theorem aik (i : Nat) (o : List zt) (c : Int) (m : List Str) : as9 k x a b i o (.sgn c m) = if a ≤ i ∧ i < b ∧ mkS k x m ≠ m then Xr o i else o := rfl
def QI : Nat → List Tk → List zt → List zt
 | _, [], o => o
 | i, t :: l, o => QI (i + 1) l (as9 k x a b i o t)
theorem aiL : ∀ (l r : List Tk) (i : Nat) (o : List zt), QI k x a b i (l ++ r) o = QI k x a b (i + l.length) r (QI k x a b i l o)
 | [], r, i, o => by simp [QI]
 | t :: l, r, i, o => by
  rw [List.cons_append, QI, QI, aiL l r (i + 1), List.length_cons]
  congr 1
  omega
end
theorem X8 (o : List zt) (r : zt) (i : Nat) : Xr (o ++ [r]) i = if r.Pos + r.Old = i then o ++ [{ r with Old := r.Old + 1 }] else o ++ [r, ⟨i, 1, 0⟩] := by
 unfold Xr
 rw [List.getLast?_append]
 simp
def Xq : List zt → Nat → Nat → List zt
 | o, _, 0 => o
 | o, i, n + 1 => Xq (Xr o i) (i + 1) n
theorem acD (o : List zt) (r : zt) : ∀ (n i : Nat), r.Pos + r.Old = i → Xq (o ++ [r]) i n = o ++ [{ r with Old := r.Old + n }]
 | 0, i, h => by
  rw [Xq]
  cases r
  simp
 | n + 1, i, h => by
  rw [Xq, X8, if_pos h, acD o _ n (i + 1) (by simp only; omega)]
  simp only [List.append_cancel_left_eq, List.cons.injEq, zt.mk.injEq, and_true, true_and]
  omega
theorem auJ (o : List zt) (i n : Nat) (hn : 0 < n) : Xq o i n = match o.getLast? with
  | some r => if r.Pos + r.Old = i then o.dropLast ++ [{ r with Old := r.Old + n }] else o ++ [⟨i, n, 0⟩]
  | none => [⟨i, n, 0⟩] := by
 obtain ⟨n, rfl⟩ : ∃ m, n = m + 1 := ⟨n - 1, by omega⟩
 rw [Xq]
 have key : ∀ o : List zt, Xq (o ++ [⟨i, 1, 0⟩]) (i + 1) n = o ++ [⟨i, (n + 1 : Nat), 0⟩] := by
  intro o
  rw [acD o _ n (i + 1) (by simp)]
  simp only [List.append_cancel_left_eq, List.cons.injEq, zt.mk.injEq, and_true, true_and]
  omega
 rcases kH o with rfl | ⟨o, r, rfl⟩
 ·have := key []
  simpa [Xr] using this
 ·rw [X8, List.getLast?_append]
  simp only [List.getLast?_singleton, Option.some_or, List.dropLast_concat]
  by_cases h : r.Pos + r.Old = i
  ·rw [if_pos h, if_pos h, acD o _ n (i + 1) (by simp only; omega)]
   simp only [List.append_cancel_left_eq, List.cons.injEq, zt.mk.injEq, and_true, true_and]
   omega
  ·rw [if_neg h, if_neg h]
   have := key (o ++ [r])
   simpa using this
theorem aiU (k : Int) (x : Str) (a b : Nat) (m : List Str) : ∀ (cs : List Int) (i : Nat) (o : List zt), QI k x a b i (cs.map fun c => Tk.sgn c m) o = if mkS k x m ≠ m then Xq o (i + min (a - i) cs.length) (min (b - i) cs.length - min (a - i) cs.length) else o
 | [], i, o => by simp [QI, Xq]
 | c :: cs, i, o => by
  rw [List.map_cons, QI, aiU k x a b m cs (i + 1)]
  rw [aik]
  by_cases hm : mkS k x m ≠ m
  ·rw [if_pos hm, if_pos hm, List.length_cons]
   by_cases h1 : a ≤ i
   ·have e1 : a - i = 0 := by omega
    have e2 : a - (i + 1) = 0 := by omega
    rw [e1, e2, Nat.zero_min, Nat.zero_min]
    by_cases h2 : i < b
    ·rw [if_pos ⟨h1, h2, hm⟩]
     have e3 : min (b - i) (cs.length + 1) - 0 = min (b - (i + 1)) cs.length + 1 := by omega
     rw [e3, Xq]
     rfl
    ·rw [if_neg (fun h => h2 h.2.1)]
     have e3 : b - i = 0 := by omega
     have e4 : b - (i + 1) = 0 := by omega
     rw [e3, e4]
     simp [Xq]
   ·rw [if_neg (fun h => h1 h.1)]
    congr 1 <;> omega
  ·rw [if_neg hm, if_neg hm, if_neg (fun h => hm h.2.2)]
theorem ak6 (k : Int) (x : Str) (a b : Nat) (m : List Str) : ∀ (cs : List Int) (i : Nat), kz k x a b i (cs.map fun c => Tk.sgn c m) = ((cs.take (min (a - i) cs.length)).map fun c => Tk.sgn c m) ++ ((((cs.take (max (min (b - i) cs.length) (min (a - i) cs.length))).drop (min (a - i) cs.length)).map fun c => Tk.sgn c (mkS k x m)) ++ ((cs.drop (max (min (b - i) cs.length) (min (a - i) cs.length))).map fun c => Tk.sgn c m))
 | [], i => by simp [kz]
 | c :: cs, i => by
  rw [List.map_cons, kz, ak6 k x a b m cs (i + 1), Yj]
  simp only [List.length_cons]
  by_cases h1 : a ≤ i
  ·have e1 : a - i = 0 := by omega
   have e2 : a - (i + 1) = 0 := by omega
   rw [e1, e2, Nat.zero_min, Nat.zero_min]
   by_cases h2 : i < b
   ·rw [if_pos ⟨h1, h2⟩]
    have e3 : max (min (b - i) (cs.length + 1)) 0 = max (min (b - (i + 1)) cs.length) 0 + 1 := by omega
    rw [e3]
    simp
   ·rw [if_neg (fun h => h2 h.2)]
    have e3 : b - i = 0 := by omega
    have e4 : b - (i + 1) = 0 := by omega
    rw [e3, e4]
    simp
  ·rw [if_neg (fun h => h1 h.1)]
   have e1 : min (a - i) (cs.length + 1) = min (a - (i + 1)) cs.length + 1 := by omega
   have e2 : max (min (b - i) (cs.length + 1)) (min (a - (i + 1)) cs.length + 1) = max (min (b - (i + 1)) cs.length) (min (a - (i + 1)) cs.length) + 1 := by omega
   rw [e1, e2]
   simp
def InR (o : List zt) (i : Nat) : Prop := ∃ r ∈ o, r.Pos ≤ (i : Int) ∧ (i : Int) < r.Pos + r.Old
theorem auS (o : List zt) (i j : Nat) (h : ∀ r ∈ o, 0 ≤ r.Pos ∧ 1 ≤ r.Old) : (InR (Xr o i) j ↔ InR o j ∨ j = i) ∧ ∀ r ∈ Xr o i, 0 ≤ r.Pos ∧ 1 ≤ r.Old := by
 rcases kH o with rfl | ⟨o, r, rfl⟩
 ·refine ⟨?_, by simp [Xr]⟩
  simp only [Xr, InR, List.getLast?_nil, List.mem_singleton, exists_eq_left, List.not_mem_nil, false_and, exists_false, false_or]
  omega
 ·have hr := h r (by simp)
  rw [X8]
  by_cases e : r.Pos + r.Old = i
  ·rw [if_pos e]
   refine ⟨?_, fun y hy => ?_⟩
   ·simp only [InR, List.mem_append, List.mem_singleton, or_and_right, exists_or, exists_eq_left]
    constructor
    ·rintro (h1 | ⟨h1, h2⟩)
     ·exact .inl (.inl h1)
     ·by_cases hj : j = i
      ·exact .inr hj
      ·exact .inl (.inr ⟨h1, by omega⟩)
    ·rintro ((h1 | ⟨h1, h2⟩) | h1)
     ·exact .inl h1
     ·exact .inr ⟨h1, by omega⟩
     ·exact .inr ⟨by omega, by omega⟩
   ·rcases List.mem_append.1 hy with hy | hy
    ·exact h y (by simp [hy])
    ·rw [List.mem_singleton] at hy
     subst hy
     simp only
     omega
  ·rw [if_neg e]
   refine ⟨?_, fun y hy => ?_⟩
   ·simp only [InR, List.mem_append, List.mem_cons, List.not_mem_nil, or_false, or_and_right, exists_or, exists_eq_left]
    constructor
    ·rintro (h1 | h1 | h1)
     ·exact .inl (.inl h1)
     ·exact .inl (.inr h1)
     ·exact .inr (by omega)
    ·rintro ((h1 | h1) | h1)
     ·exact .inl h1
     ·exact .inr (.inl h1)
     ·exact .inr (.inr (by omega))
   ·rcases List.mem_append.1 hy with hy | hy
    ·exact h y (by simp [hy])
    ·rcases List.mem_cons.1 hy with rfl | hy
     ·exact hr
     ·rw [List.mem_singleton] at hy
      subst hy
      simp
def avP (k : Int) (x : Str) (a b : Nat) (i : Nat) (t : Tk) : Prop := ∃ c m, t = .sgn c m ∧ a ≤ i ∧ i < b ∧ mkS k x m ≠ m
theorem as0 (k : Int) (x : Str) (a b j : Nat) : ∀ (l : List Tk) (i : Nat) (o : List zt), (∀ r ∈ o, 0 ≤ r.Pos ∧ 1 ≤ r.Old) → (InR (QI k x a b i l o) j ↔ InR o j ∨ ∃ p t, l[p]? = some t ∧ j = i + p ∧ avP k x a b j t) ∧ ∀ r ∈ QI k x a b i l o, 0 ≤ r.Pos ∧ 1 ≤ r.Old
 | [], i, o, h => by simpa [QI] using h
 | t :: l, i, o, h => by
  rw [QI]
  have one : (InR (as9 k x a b i o t) j ↔ InR o j ∨ (j = i ∧ avP k x a b j t)) ∧ ∀ r ∈ as9 k x a b i o t, 0 ≤ r.Pos ∧ 1 ≤ r.Old := by
   cases t with
   | sgn c m =>
    rw [aik]
    by_cases hc : a ≤ i ∧ i < b ∧ mkS k x m ≠ m
    ·rw [if_pos hc]
     obtain ⟨h1, h2⟩ := auS o i j h
     refine ⟨?_, h2⟩
     rw [h1]
     constructor
     ·rintro (h3 | rfl)
      ·exact .inl h3
      ·exact .inr ⟨rfl, c, m, rfl, hc⟩
     ·rintro (h3 | ⟨h3, _⟩)
      ·exact .inl h3
      ·exact .inr h3
    ·rw [if_neg hc]
     refine ⟨?_, h⟩
     constructor
     ·exact .inl
     ·rintro (h3 | ⟨rfl, c', m', e, h4⟩)
      ·exact h3
      ·cases e
       exact absurd h4 hc
   | opn k' a' =>
    refine ⟨⟨.inl, ?_⟩, h⟩
    rintro (h3 | ⟨rfl, c', m', e, h4⟩)
    ·exact h3
    ·cases e
   | cls =>
    refine ⟨⟨.inl, ?_⟩, h⟩
    rintro (h3 | ⟨rfl, c', m', e, h4⟩)
    ·exact h3
    ·cases e
  obtain ⟨h1, h2⟩ := as0 k x a b j l (i + 1) _ one.2
  refine ⟨?_, h2⟩
  rw [h1, one.1]
  constructor
  ·rintro ((h3 | ⟨rfl, h3⟩) | ⟨p, t', h3, h4, h5⟩)
   ·exact .inl h3
   ·exact .inr ⟨0, t, by simp, by omega, h3⟩
   ·exact .inr ⟨p + 1, t', by simpa using h3, by omega, h5⟩
  ·rintro (h3 | ⟨p, t', h3, h4, h5⟩)
   ·exact .inl (.inl h3)
   ·cases p with
    | zero =>
     simp only [List.getElem?_cons_zero, Option.some.injEq] at h3
     subst h3
     exact .inl (.inr ⟨by omega, h5⟩)
    | succ p => exact .inr ⟨p, t', by simpa using h3, by omega, h5⟩
end Go.Proofs.YtclohbgnaopjfaaDoor
namespace Go.Proofs.YtclohbgnaopjfaaDoor
set_option linter.unusedSimpArgs false
set_option linter.unusedVariables false
open Go Classical
def RgOk (i : Nat) (o : List zt) : Prop := o.length ≤ i ∧ ∀ r ∈ o, 0 ≤ r.Pos ∧ 1 ≤ r.Old ∧ r.Pos + r.Old ≤ (i : Int)
theorem RgOk.mono {i j : Nat} {o : List zt} (h : RgOk i o) (hij : i ≤ j) : RgOk j o := ⟨by have := h.1; omega, fun r hr => by have := h.2 r hr; omega⟩
theorem auz {i : Nat} {o : List zt} (h : RgOk i o) : RgOk (i + 1) (Xr o i) := by
 rcases kH o with rfl | ⟨o, r, rfl⟩
 ·refine ⟨by simp [Xr], fun r hr => ?_⟩
  simp only [Xr, List.getLast?_nil, List.mem_singleton] at hr
  subst hr
  simp
 ·obtain ⟨h1, h2⟩ := h
  have hr := h2 r (by simp)
  rw [List.length_append, List.length_singleton] at h1
  rw [X8]
  split
  ·refine ⟨by rw [List.length_append, List.length_singleton]; omega, fun y hy => ?_⟩
   rcases List.mem_append.1 hy with hy | hy
   ·have := h2 y (by simp [hy]); omega
   ·rw [List.mem_singleton] at hy
    subst hy
    simp only
    omega
  ·refine ⟨by simp; omega, fun y hy => ?_⟩
   rcases List.mem_append.1 hy with hy | hy
   ·have := h2 y (by simp [hy]); omega
   ·rcases List.mem_cons.1 hy with rfl | hy
    ·omega
    ·rw [List.mem_singleton] at hy
     subst hy
     simp
theorem apK (k : Int) (x : Str) (a b : Nat) : ∀ (l : List Tk) (i : Nat) (o : List zt), RgOk i o → RgOk (i + l.length) (QI k x a b i l o)
 | [], i, o, h => h
 | t :: l, i, o, h => by
  rw [QI, List.length_cons]
  have h1 : RgOk (i + 1) (as9 k x a b i o t) := by
   cases t with
   | sgn c m =>
    rw [aik]
    split
    ·exact auz h
    ·exact h.mono (by omega)
   | opn k' a' => exact h.mono (by omega)
   | cls => exact h.mono (by omega)
  have := apK k x a b l (i + 1) _ h1
  exact this.mono (by omega)
theorem avJ (K F T : Int) (N : List za) (nm v : Str) (l : List zt) (j i n : Nat) (hn : 0 < n) (hi : i + n ≤ 1000000) (hl : RgOk j l) (hj : j ≤ i) :
  jC (i : Int) ((i + n : Nat) : Int) K F T N nm v l = some (K, F, T, N, nm, v, Xq l i n) := by
 obtain ⟨h1, h2⟩ := hl
 have hw : w64 (((i + n : Nat) : Int) - (i : Int)) = (n : Int) := by rw [zW (by omega)]; omega
 unfold jC
 rw [auJ l i n hn, hw]
 rcases kH l with rfl | ⟨o, r, rfl⟩
 ·have e : w64 ((([] : List zt).length : Int) - 1) = -1 := rfl
  rw [e, if_neg (by decide), wJ (by simp)]
  rfl
 ·have e : w64 (((o ++ [r]).length : Int) - 1) = (o.length : Int) := by
   rw [List.length_append, List.length_singleton] at h1 ⊢
   rw [zW (by omega)]
   omega
  have hr := h2 r (by simp)
  rw [e, if_pos (by simp), Qf o [] r]
  simp only [Option.bind_some]
  rw [zW (x := r.Pos + r.Old) (by omega), List.getLast?_append]
  simp only [List.getLast?_singleton, Option.some_or, List.dropLast_concat]
  by_cases hc : r.Pos + r.Old = (i : Int)
  ·rw [if_pos (by simp [hc]), if_pos hc, zW (by omega), aqG]
   rfl
  ·rw [if_neg (by simpa using hc), if_neg hc, wJ (by simp at h1 ⊢; omega)]
   rfl
theorem al7 (n : za) (m : List Str) (cs : List Int) (a b : Nat) (h1 : a ≤ b) (h2 : b ≤ cs.length) : w9 (a : Int) (b : Int) m n cs = some ⟨n.Kind, zJ ((cs.take b).drop a), m, [], []⟩ := by
 unfold w9
 rw [J6 h1 h2]
 rfl
theorem av9 (a i L : Nat) (ha : a ≤ 2000000) (hi : i ≤ 2000000) : (if (L : Int) < (if (0 : Int) > (w64 ((a : Int) - (i : Int))) then (0 : Int) else w64 ((a : Int) - (i : Int))) then (L : Int) else (if (0 : Int) > (w64 ((a : Int) - (i : Int))) then (0 : Int) else w64 ((a : Int) - (i : Int)))) = ((min (a - i) L : Nat) : Int) := by
 rw [zW (by omega)]
 split <;> split <;> omega
theorem to_eq (b i L f : Nat) (hb : b ≤ 2000000) (hi : i ≤ 2000000) (hf : f ≤ L) : (if (L : Int) < (if (f : Int) > (w64 ((b : Int) - (i : Int))) then (f : Int) else w64 ((b : Int) - (i : Int))) then (L : Int) else (if (f : Int) > (w64 ((b : Int) - (i : Int))) then (f : Int) else w64 ((b : Int) - (i : Int)))) = ((max (min (b - i) L) f : Nat) : Int) := by
 rw [zW (by omega)]
 split <;> split <;> omega
theorem akS {k : Int} {x : Str} {m : List Str} (hm : mkS k x m = m) (a b : Nat) : ∀ (cs : List Int) (i : Nat), kz k x a b i (cs.map fun c => Tk.sgn c m) = cs.map fun c => Tk.sgn c m
 | [], i => rfl
 | c :: cs, i => by rw [List.map_cons, kz, Yj, akS hm a b cs, hm]; simp
def Parts (l : List za) : Prop := ∀ p ∈ l, isT p = true ∧ (qg p = true ∨ (p.Text = [] ∧ p.zh = [] ∧ p.Kids = []))
theorem al0 (m : List Str) {cs : List Int} (h : ∀ c ∈ cs, VR c) (hm : vW m = true) : tkN ⟨jm, zJ cs, m, [], []⟩ = (cs.map fun c => Tk.sgn c m) ∧ (qg ⟨jm, zJ cs, m, [], []⟩ = true ∨ zJ cs = []) ∧ nwt ⟨jm, zJ cs, m, [], []⟩ = 6 + (zJ cs).length + wQ m := by
 obtain ⟨h1, h2⟩ := Ye h
 refine ⟨?_, ?_, by rw [qi]; simp [wM, zN]⟩
 ·rw [kg]
  have : isT (⟨jm, zJ cs, m, [], []⟩ : za) = true := by simp [isT]
  rw [this, if_pos rfl, h1]
 ·by_cases e : zJ cs = []
  ·exact .inr e
  ·exact .inl (aha e h2 hm)
theorem av2 {n : za} (hf : qg n = true) (ht : isT n = true) (k : Int) {x : Str} (hx : isName x = true) (a b i : Nat) (ha : a ≤ 2000000) (hb : b ≤ 2000000) (hi : i + wO n ≤ 1000000) (N : List za) (v : Str) (o : List zt) (ho : RgOk i o) (hw : nwt n ≤ 1000000000) :
  ∃ out, jB n (i : Int) k (a : Int) (b : Int) N x v o = some (out, k, (a : Int), (b : Int), N, x, v, QI k x a b i (tkN n) o) ∧ Parts out ∧ tkL out = kz k x a b i (tkN n) ∧ zN out ≤ 3 * nwt n + 1 + x.length ∧ out.length ≤ 3 := by
 obtain ⟨t1, t2, t3, t4, t5⟩ := yI hf ht
 have hk := Xa ht
 have hcs := ahX t2
 have hsz : wO n = (runes n.Text).length := by rw [jZ, ht, Zk]; rfl
 have hone : Parts [n] ∧ zN [n] ≤ 3 * nwt n + 1 + x.length := by
  refine ⟨fun p hp => ?_, by simp only [zN]; omega⟩
  rw [List.mem_singleton] at hp
  subst hp
  exact ⟨ht, .inl hf⟩
 have htl : tkL [n] = tkN n := by simp [tkL]
 have htk : tkN n = (runes n.Text).map fun c => Tk.sgn c n.Marks := by rw [kg, if_pos ht]
 have hmw := asV k x n.Marks
 have hmr := ap9 k t3 hx
 have hml : n.Marks.length ≤ 1099511627776 := by have := aa9 n.Marks; rw [qi] at hw; omega
 have hwn : nwt n = 6 + n.Text.length + wQ n.Marks := by rw [qi, hk, t4, t5]; simp [wM, zN]
 have hval := KJ t2
 unfold jB QQ
 rw [qB hml]
 simp only [Option.bind_some]
 rw [amz k t3 hx, av9 a i _ ha (by omega), to_eq b i _ _ hb (by omega) (by omega)]
 have e1 : (QM k x n.Marks).1 = mkS k x n.Marks := rfl
 rw [e1, htk]
 generalize hcsd : runes n.Text = cs at *
 by_cases hm : mkS k x n.Marks = n.Marks
 ·refine ⟨[n], ?_, hone.1, by rw [akS hm, htl, htk], hone.2, by simp⟩
  rw [if_pos (by simp [hm]), aiU, if_neg (by simpa using hm)]
 ·rw [if_neg (by simp [hm]), aiU, if_pos hm, ak6]
  have hfL : min (a - i) cs.length ≤ cs.length := by omega
  have htL : max (min (b - i) cs.length) (min (a - i) cs.length) ≤ cs.length := by omega
  have hft : min (a - i) cs.length ≤ max (min (b - i) cs.length) (min (a - i) cs.length) := by omega
  have hd : min (b - i) cs.length - min (a - i) cs.length = max (min (b - i) cs.length) (min (a - i) cs.length) - min (a - i) cs.length := by omega
  rw [hd]
  generalize min (a - i) cs.length = f at *
  generalize max (min (b - i) cs.length) f = t at *
  by_cases hft' : (f : Int) = (t : Int)
  ·obtain rfl : f = t := by omega
   rw [if_pos (by simp)]
   refine ⟨[n], ?_, hone.1, ?_, hone.2, by simp⟩
   ·rw [Nat.sub_self, Xq]
   ·rw [htl, htk, List.drop_take_self, List.map_nil, List.nil_append, ← List.map_append, List.take_append_drop]
  ·rw [if_neg (by simpa using hft'), zW (by omega), zW (by omega)]
   have n1 : ((i : Int) + (f : Int)) = ((i + f : Nat) : Int) := by omega
   have n2 : ((i : Int) + (t : Int)) = ((i + f + (t - f) : Nat) : Int) := by omega
   rw [n1, n2, avJ _ _ _ _ _ _ o i (i + f) (t - f) (by omega) (by omega) ho (by omega)]
   simp only [Option.bind_some]
   have z0 : (0 : Int) = ((0 : Nat) : Int) := rfl
   rw [z0, al7 n _ cs 0 f (by omega) hfL, al7 n _ cs f t hft htL, al7 n _ cs t cs.length htL (Nat.le_refl _), hk]
   simp only [Option.bind_some, List.drop_zero, List.take_length]
   have v1 : ∀ c ∈ cs.take f, VR c := fun c hc => hcs c (List.mem_of_mem_take hc)
   have v2 : ∀ c ∈ (cs.take t).drop f, VR c := fun c hc => hcs c (List.mem_of_mem_take (List.mem_of_mem_drop hc))
   have v3 : ∀ c ∈ cs.drop t, VR c := fun c hc => hcs c (List.mem_of_mem_drop hc)
   obtain ⟨p1, q1, w1⟩ := al0 n.Marks v1 t3
   obtain ⟨p2, q2, w2⟩ := al0 (mkS k x n.Marks) v2 hmr
   obtain ⟨p3, q3, w3⟩ := al0 n.Marks v3 t3
   refine ⟨_, rfl, ?_, ?_, ?_, by simp⟩
   ·intro p hp
    simp only [List.mem_cons, List.not_mem_nil, or_false] at hp
    rcases hp with rfl | rfl | rfl
    ·exact ⟨by simp [isT], q1.imp id fun h => ⟨h, rfl, rfl⟩⟩
    ·exact ⟨by simp [isT], q2.imp id fun h => ⟨h, rfl, rfl⟩⟩
    ·exact ⟨by simp [isT], q3.imp id fun h => ⟨h, rfl, rfl⟩⟩
   ·simp only [tkL, p1, p2, p3, List.append_nil]
   ·have hl : zJ cs = zJ (cs.take f) ++ (zJ ((cs.take t).drop f) ++ zJ (cs.drop t)) := by
     rw [← Yh, ← Yh]
     congr 1
     have h1 : cs.take f = (cs.take t).take f := by rw [List.take_take]; congr 1; omega
     rw [← List.append_assoc, h1, List.take_append_drop, List.take_append_drop]
    have hlen := congrArg List.length hl
    rw [hval] at hlen
    simp only [List.length_append] at hlen
    simp only [zN, w1, w2, w3]
    omega
theorem acM : ∀ (l o : List za), vD o → (∀ p ∈ l, qg p = true ∨ (isT p = true ∧ p.Text = [] ∧ p.zh = [] ∧ p.Kids = [])) → vD (l.foldl joinStep o) ∧ tkL (l.foldl joinStep o) = tkL o ++ tkL l
 | [], o, ho, _ => ⟨ho, by simp [tkL]⟩
 | p :: l, o, ho, h => by
  rw [List.foldl_cons]
  rcases h p (by simp) with hp | ⟨h1, h2, h3, h4⟩
  ·obtain ⟨g1, g2⟩ := acM l _ (ab9 o p ho hp) fun y hy => h y (by simp [hy])
   refine ⟨g1, ?_⟩
   have hi := (YP o p ho.gd (ag1 hp)).1
   have : tkL (joinStep o p) = tkL o ++ tkN p := by rw [← vB, hi, Vm, vB, aqm]
   rw [g2, this, tkL, List.append_assoc]
  ·have e : joinStep o p = o := by unfold joinStep; rw [if_pos (by simp [h1, h2])]
   have e2 : tkN p = [] := by rw [kg, if_pos h1, h2, WR]; rfl
   rw [e]
   obtain ⟨g1, g2⟩ := acM l o ho fun y hy => h y (by simp [hy])
   exact ⟨g1, by rw [g2, tkL, e2, List.nil_append]⟩
theorem aq3 (k : Int) {x : Str} (hx : isName x = true) (a b : Nat) (ha : a ≤ 2000000) (hb : b ≤ 2000000) (N : List za) (v : Str) (r : List za → Int → Int → Int → Int → List za → Str → Str → List zt → Option (List za × Int × Int × Int × List za × Str × Str × List zt)) :
  ∀ (l : List za) (j : Int) (i : Nat) (out : List za) (o : List zt), (∀ y ∈ l, qg y = true) →
   (∀ y ∈ l, isT y = false → ∀ (i : Nat) (o : List zt), RgOk i o → i + zC y.Kids ≤ 1000000 → ∃ out, r y.Kids (i : Int) k (a : Int) (b : Int) N x v o = some (out, k, (a : Int), (b : Int), N, x, v, QI k x a b i (tkL y.Kids) o) ∧ vD out ∧ tkL out = kz k x a b i (tkL y.Kids) ∧ zN out + 21 * zC y.Kids ≤ 24 * zN y.Kids) →
   RgOk i o → i + zC l ≤ 1000000 → zN l ≤ 10000000 → x.length ≤ 20 → (∀ p ∈ out, qg p = true ∨ (isT p = true ∧ p.Text = [] ∧ p.zh = [] ∧ p.Kids = [])) → (out.length + 3 * l.length) ≤ 1000000000 →
   ∃ out', qj r l j (i : Int) out k (a : Int) (b : Int) N x v o = some (out ++ out', k, (a : Int), (b : Int), N, x, v, QI k x a b i (tkL l) o) ∧ (∀ p ∈ out', qg p = true ∨ (isT p = true ∧ p.Text = [] ∧ p.zh = [] ∧ p.Kids = [])) ∧ tkL out' = kz k x a b i (tkL l) ∧ zN out' + 21 * zC l ≤ 24 * zN l
 | [], j, i, out, o, _, _, _, _, _, _, _, _ => ⟨[], by simp [qj, QI, tkL], by simp, by simp [tkL, kz], by simp [zN, zC]⟩
 | y :: l, j, i, out, o, hf, hr, ho, hs, hw, hxl, hp, hln => by
  have hy := hf y (by simp)
  have hsz := size_pos hy
  simp only [zC] at hs
  simp only [zN] at hw
  have hyw := ahv y
  rw [qj, size_eq y (by omega)]
  simp only [Option.bind_some]
  rw [Qa, zW (x := (i : Int) + (wO y : Int)) (by omega)]
  have e1 : ((i : Int) + (wO y : Int)) = ((i + wO y : Nat) : Int) := by omega
  have hlen := ahb y
  rw [e1]
  have go : ∀ (P : List za) (o' : List zt), (∀ p ∈ P, qg p = true ∨ (isT p = true ∧ p.Text = [] ∧ p.zh = [] ∧ p.Kids = [])) → o' = QI k x a b i (tkN y) o → tkL P = kz k x a b i (tkN y) → zN P + 21 * wO y ≤ 24 * nwt y → P.length ≤ 3 → ∃ out', qj r l (j + 1) ((i + wO y : Nat) : Int) (out ++ P) k (a : Int) (b : Int) N x v o' = some (out ++ out', k, (a : Int), (b : Int), N, x, v, QI k x a b i (tkL (y :: l)) o) ∧ (∀ p ∈ out', qg p = true ∨ (isT p = true ∧ p.Text = [] ∧ p.zh = [] ∧ p.Kids = [])) ∧ tkL out' = kz k x a b i (tkL (y :: l)) ∧ zN out' + 21 * zC (y :: l) ≤ 24 * zN (y :: l) := by
   intro P o' h1 h2 h3 h4 h5
   subst h2
   obtain ⟨Q, q1, q2, q3, q4⟩ := aq3 k hx a b ha hb N v r l (j + 1) (i + wO y) (out ++ P) (QI k x a b i (tkN y) o) (fun z hz => hf z (by simp [hz])) (fun z hz => hr z (by simp [hz])) (by have := apK k x a b (tkN y) i o ho; rw [hlen] at this; exact this) (by omega) (by omega) hxl (fun p hp' => by
    rcases List.mem_append.1 hp' with h | h
    ·exact hp p h
    ·exact h1 p h) (by simp only [List.length_append, List.length_cons] at hln ⊢; omega)
   refine ⟨P ++ Q, ?_, fun p hp' => ?_, ?_, ?_⟩
   ·rw [q1, tkL, aiL, hlen, List.append_assoc]
   ·rcases List.mem_append.1 hp' with h | h
    ·exact h1 p h
    ·exact q2 p h
   ·rw [Ze, h3, q3, tkL, aff, hlen]
   ·rw [kX]; simp only [zC, zN]; omega
  by_cases ht : isT y = true
  ·rw [if_pos ht]
   obtain ⟨P, g1, g2, g3, g4, g5⟩ := av2 hy ht k hx a b i ha hb (by omega) N v o ho (by omega)
   rw [g1]
   simp only [Option.bind_some]
   rw [wJ (by simp only [List.length_cons] at hln; omega)]
   simp only [Option.bind_some]
   have hyw6 : 6 + wO y ≤ nwt y := by
    have := qi y
    have hk := Xa ht
    have h2 := ami y.Text
    have h3 : wO y = aiH y.Text := by rw [jZ, if_pos ht]
    rw [hk] at this
    simp only [jm, List.length_cons, List.length_nil] at this
    omega
   have hb2 : zN P + 21 * wO y ≤ 24 * nwt y := by omega
   exact go P _ (fun p hp' => (g2 p hp').2.imp id fun h => ⟨(g2 p hp').1, h⟩) rfl g3 hb2 g5
  ·have ht' : isT y = false := by simpa using ht
   rw [if_neg ht]
   have hsy := Qm ht'
   obtain ⟨Q, g1, g2, g3, g4⟩ := hr y (by simp) ht' (i + 1) o (ho.mono (by omega)) (by omega)
   have e2 : w64 ((i : Int) + 1) = ((i + 1 : Nat) : Int) := by rw [zW (by omega)]; omega
   rw [e2, g1]
   simp only [Option.bind_some]
   rw [wJ (by simp only [List.length_cons, List.length_nil] at hln ⊢; omega)]
   simp only [Option.bind_some]
   have hfy := aa8 hy ht' g2
   have hty : isT ({ y with Kids := Q } : za) = false := ht'
   have htk : tkN y = Tk.opn y.Kind y.zh :: (tkL y.Kids ++ [Tk.cls]) := by rw [kg, if_neg (by simp [ht'])]
   refine go [{ y with Kids := Q }] _ (fun p hp' => ?_) ?_ ?_ ?_ (by simp)
   ·rw [List.mem_singleton] at hp'
    subst hp'
    exact .inl hfy
   ·rw [htk, QI, aiL]
    rfl
   ·simp only [tkL, List.append_nil]
    rw [kg, if_neg (by simp [hty]), htk, kz, aff, adX, g3]
    rfl
   ·have w1 := qi y
    have w2 := qi ({ y with Kids := Q } : za)
    simp only at w2
    simp only [zN]
    omega
theorem apa (k : Int) {x : Str} (hx : isName x = true) (hxl : x.length ≤ 20) (a b : Nat) (ha : a ≤ 2000000) (hb : b ≤ 2000000) (N : List za) (v : Str) : ∀ (kr : Nat) (l : List za), vD l → kU l < kr → ∀ (i : Nat) (o : List zt), RgOk i o → i + zC l ≤ 1000000 → zN l ≤ 10000000 → ∃ out, qW kr l (i : Int) k (a : Int) (b : Int) N x v o = some (out, k, (a : Int), (b : Int), N, x, v, QI k x a b i (tkL l) o) ∧ vD out ∧ tkL out = kz k x a b i (tkL l) ∧ zN out + 21 * zC l ≤ 24 * zN l
 | 0, l, _, h, _, _, _, _, _ => by omega
 | kr + 1, l, hl, hd, i, o, ho, hs, hw => by
  have hlen := qw l
  obtain ⟨P, h1, h2, h3, h4⟩ := aq3 k hx a b ha hb N v (qW kr) l 0 i [] o hl.form (fun y hy ht i o ho hs => by
   have hm := xR hy
   have hw2 := jI hy
   have hk := wU y
   rw [xy] at hm
   exact apa k hx hxl a b ha hb N v kr y.Kids (kM (hl.form y hy) ht) (by omega) i o ho hs (by omega)) ho hs hw hxl (by simp) (by simp; omega)
  rw [qW, qB (by omega), h1]
  simp only [Option.bind_some, List.nil_append]
  rw [ade P (by omega)]
  obtain ⟨g1, g2⟩ := acM P [] .nil h2
  have hj := Y7 P
  refine ⟨yF P, rfl, g1, ?_, by omega⟩
  show tkL (P.foldl joinStep []) = _
  rw [g2, h3]
  rfl
theorem arn {n : za} {T : List Tk} (h : TD n T) (k : Int) {x : Str} (hx : isName x = true) (hxl : x.length ≤ 20) (a b : Nat) (hab : a ≤ 2000000) (hb : b ≤ T.length) (hw : wD n T ≤ 5000000) :
  ∃ N, Zb n ⟨k, (a : Int), (b : Int), [], x, []⟩ = some (N, QI k x a b 0 T [], 0) ∧ TD N (kz k x a b 0 T) ∧ N.Kind = n.Kind ∧ N.zh = n.zh := by
 have hs := h.small
 have hl := h.len
 have hwt := h.wt
 have hwk := wU n
 obtain ⟨out, h1, h2, h3, h4⟩ : ∃ out, jy n.Kids 0 k (a : Int) (b : Int) [] x [] [] = some (out, k, (a : Int), (b : Int), [], x, [], QI k x a b 0 (tkL n.Kids) []) ∧ vD out ∧ tkL out = kz k x a b 0 (tkL n.Kids) ∧ zN out + 21 * zC n.Kids ≤ 24 * zN n.Kids := by
  obtain ⟨out, h1, h2⟩ := apa k hx hxl a b hab (by omega) [] [] (kU n.Kids + 1) n.Kids h.row (by omega) 0 [] ⟨by simp, by simp⟩ (by omega) (by omega)
  refine ⟨out, ?_, h2⟩
  unfold jy
  refine yV (kU n.Kids + 1) fun kr hk => ?_
  obtain ⟨out', g1, g2, g3, _⟩ := apa k hx hxl a b hab (by omega) [] [] kr n.Kids h.row (by omega) 0 [] ⟨by simp, by simp⟩ (by omega) (by omega)
  have e : out' = out := alv g2 h2.1 (by rw [g3, h2.2.1])
  subst e
  exact g1
 rw [h.tk] at h1 h3
 refine ⟨{ n with Kids := out }, ?_, TD.of (aa8 h.form h.nt h2) h.nt h3 (by rw [Ym]; exact h.deep) (by rw [afz]; exact hs), rfl, rfl⟩
 unfold Zb
 rw [QN n.Kids (by omega)]
 simp only [Option.bind_some]
 rw [if_neg (by simp; omega), h1]
 rfl
end Go.Proofs.YtclohbgnaopjfaaDoor
namespace Go.Proofs.YtclohbgnaopjfaaDoor
set_option linter.unusedSimpArgs false
set_option linter.unusedVariables false
open Go
abbrev xN (l : List za) : za := ⟨[120], [], [], [], l⟩
theorem ays (l : List za) : nwt (xN l) = zN l + 3 := by
 rw [qi]; simp [wQ, wM]; omega
end Go.Proofs.YtclohbgnaopjfaaDoor
namespace Go.Proofs.YtclohbgnaopjfaaDoor
set_option linter.unusedSimpArgs false
set_option linter.unusedVariables false
open Go
def aen (f t : Int) : Bool := decide (0 ≤ f) && (decide (f ≤ t) && decide (t ≤ 1048576))
def srB (s : zo) : Bool :=
 if s.Kind = 114 then aen s.From s.To && (qg (xN s.kF) && (s.Name == [] && s.Value == []))
 else if s.Kind = 97 then decide (-1 ≤ s.From) && (decide (s.From ≤ 1048576) && (decide (s.To = 0) && (isName s.Name && (isValue s.Value && s.kF.isEmpty))))
 else if s.Kind = 109 ∨ s.Kind = 117 then aen s.From s.To && (isName s.Name && (s.kF.isEmpty && s.Value == []))
 else false
theorem aww (f t : Int) : ((if (decide (f ≥ (0 : Int))) = true then if (decide (f ≤ t)) = true then some (decide (t ≤ (1048576 : Int))) else some false else some false) : Option Bool) = some (aen f t) := by
 unfold aen
 by_cases a : f ≥ 0
 ·by_cases b : f ≤ t
  ·have : (0 : Int) ≤ f := a
   simp [b, this]
  ·have : (0 : Int) ≤ f := a
   simp [b, this]
 ·have : ¬ (0 : Int) ≤ f := a
  simp [this]
theorem asL (n : za) : (checkN n != (2 : Int)) = qg n := by
 unfold checkN
 cases qg n with
 | false => rfl
 | true =>
  simp only [Bool.true_eq_false, if_false]
  split
  ·rfl
  ·split <;> rfl
theorem ae7 {α : Type} (l : List α) : ((l.length : Int) == (0 : Int)) = l.isEmpty := by
 cases l with
 | nil => rfl
 | cons x l =>
  simp only [List.length_cons, List.isEmpty_cons, beq_eq_false_iff_ne, ne_eq]
  omega
theorem arX (a b : Str) : ((a ++ b) == ([] : Str)) = (a == [] && b == []) := by
 cases a <;> cases b <;> rfl
theorem JJ (s : zo) (hw : zN s.kF ≤ 268435400) (h1 : s.Name.length ≤ 1048576) (h2 : s.Value.length ≤ 1048576) : yx s = some (srB s) := by
 obtain ⟨k, f, t, l, n, v⟩ := s
 simp only at hw h1 h2
 have hxw := ays l
 unfold yx srB
 simp only
 rw [aww]
 simp only [Option.bind_some]
 by_cases hk : k = 114
 ·subst hk
  rw [if_pos (by decide), Y0 (xN l) (by omega), if_pos rfl]
  simp only [Option.bind_some]
  rw [asL, qB (by omega), arX]
  cases aen f t <;> cases qg (xN l) <;> rfl
 ·rw [if_neg (by simpa using hk), if_neg hk]
  by_cases hk2 : k = 97
  ·subst hk2
   rw [if_pos (by decide), if_pos rfl, ac9 n (by omega), anI v (by omega), ae7]
   simp only [Option.bind_some]
   have e1 : decide (f ≥ -1) = decide (-1 ≤ f) := rfl
   have e2 : (t == 0) = decide (t = 0) := by by_cases h : t = 0 <;> simp [h]
   rw [e1, e2]
   cases decide (-1 ≤ f) <;> cases decide (f ≤ 1048576) <;> cases decide (t = 0) <;> cases isName n <;> cases isValue v <;> rfl
  ·rw [if_neg (by simpa using hk2), if_neg hk2]
   by_cases hk3 : k = 109
   ·subst hk3
    rw [if_pos (by decide), if_pos (show (109 : Int) = 109 ∨ (109 : Int) = 117 from .inl rfl), ac9 n (by omega), ae7]
    simp only [Option.bind_some]
    cases aen f t <;> cases isName n <;> cases l.isEmpty <;> rfl
   ·rw [if_neg (by simpa using hk3)]
    by_cases hk4 : k = 117
    ·subst hk4
     rw [if_pos (by decide), if_pos (show (117 : Int) = 109 ∨ (117 : Int) = 117 from .inr rfl), ac9 n (by omega), ae7]
     simp only [Option.bind_some]
     cases aen f t <;> cases isName n <;> cases l.isEmpty <;> rfl
    ·rw [if_neg (by simpa using hk4), if_neg (by omega)]
end Go.Proofs.YtclohbgnaopjfaaDoor
namespace Go.Proofs.YtclohbgnaopjfaaDoor
set_option linter.unusedSimpArgs false
set_option linter.unusedVariables false
open Go
theorem akm : ∀ (path : List Int) (v : Int) (n : za), isT n = false → (∃ q m a, path = up q ∧ At n q m a) ∨ qR path v n = some (.inl (afA, 9)) ∨ ∃ m, qR path v n = some (.inr m) ∧ isT m = true
 | [], v, n, hn => .inl ⟨[], n, 0, rfl, .nil n⟩
 | y :: suf, v, n, hn => by
  by_cases h1 : y < 0
  ·right; left
   rw [qR]; simp [h1]
  ·by_cases h2 : y ≥ (n.Kids.length : Int)
   ·right; left
    rw [qR]; simp [h2]
   ·obtain ⟨i, rfl⟩ := Int.eq_ofNat_of_zero_le (show 0 ≤ y by omega)
    have hl : i < n.Kids.length := by omega
    obtain ⟨k, hk⟩ : ∃ k, n.Kids[i]? = some k := ⟨_, List.getElem?_eq_getElem hl⟩
    have g1 : decide ((i : Int) < 0) = false := by simp
    have g2 : decide ((i : Int) ≥ (n.Kids.length : Int)) = false := by simp; omega
    have step : qR ((i : Int) :: suf) v n = qR suf (v + 1) k := by
     rw [qR]
     simp only [g1, g2, Qa, hn, Bool.false_eq_true, if_false, xM hk, Option.bind_some]
    rw [step]
    by_cases ht : isT k = true
    ·cases suf with
     | nil => exact .inr (.inr ⟨k, rfl, ht⟩)
     | cons z suf =>
      right; left
      rw [qR]
      simp only [Qa, ht, if_true]
      split
      ·rfl
      ·split <;> rfl
    ·rcases akm suf (v + 1) k (by simpa using ht) with ⟨q, m, a, rfl, h⟩ | h | h
     ·exact .inl ⟨i :: q, m, _, rfl, .cons n i k q m a hk hn (by simpa using ht) h⟩
     ·exact .inr (.inl h)
     ·exact .inr (.inr h)
theorem ant (n : za) (path : List Int) (hn : isT n = false) (hp : path.length ≤ 9223372036854775807) : (∃ q m a, path = up q ∧ At n q m a) ∨ vE n path = some (afA, 9) := by
 rcases akm path 0 n hn with h | h | ⟨m, h, hm⟩
 ·exact .inl h
 ·right
  unfold vE
  rw [qB hp, h]
  rfl
 ·right
  unfold vE
  rw [qB hp, h]
  simp only [Option.bind_some, Qa, hm, if_true]
end Go.Proofs.YtclohbgnaopjfaaDoor
namespace Go.Proofs.YtclohbgnaopjfaaDoor
set_option linter.unusedSimpArgs false
set_option linter.unusedVariables false
open Go Classical
theorem axW {n : za} {T : List Tk} (h : TD n T) (hw : wD n T ≤ 100000000) {p : Nat} {k : Str} {aa : List ze} (hp : T[p]? = some (.opn k aa)) :
  ∃ q i x, kK n (p : Int) = some (⟨up q, ((i : Nat) : Int), 0⟩, 0) ∧ At n (q ++ [i]) x (p + 1) ∧ isT x = false ∧ x.Kind = k ∧ x.zh = aa := by
 have hl := h.len
 have hwt := h.wt
 have hpl := (List.getElem?_eq_some_iff.1 hp).1
 obtain ⟨s, hs, hok⟩ := Qe h.nt (by omega) p (by omega)
 obtain ⟨q, m, a, idx, off, rfl, hat, hm, hidx, hpos, hk, hend⟩ := hok
 obtain ⟨P1, S1, e1, e2, e3⟩ := at_end hat
 rw [h.tk] at e2
 have fm := kM (hat.form h.form) hm
 have hts := yR (m.Kids.take idx)
 rcases Nat.lt_or_ge idx m.Kids.length with hi | hi
 ·obtain ⟨x, hx⟩ : ∃ x, m.Kids[idx]? = some x := ⟨_, List.getElem?_eq_getElem hi⟩
  obtain ⟨g1, g2⟩ := hk x hx
  have fx := fm.form x (List.mem_of_getElem? hx)
  have hsp := VN hx
  have hg : T[p]? = (tkN x)[off]? := by
   rw [e2, hsp, List.getElem?_append_right (by omega), List.append_assoc, List.getElem?_append_right (by omega), List.append_assoc, List.getElem?_append_left (by rw [ahb]; omega)]
   congr 1
   omega
  rw [hp] at hg
  cases ht : isT x with
  | true =>
   exfalso
   rw [kg, if_pos ht, List.getElem?_map] at hg
   cases hr : (runes x.Text)[off]? with
   | none => rw [hr] at hg; cases hg
   | some c => rw [hr] at hg; cases hg
  | false =>
   have h0 : off = 0 := by
    by_cases h0 : 0 < off
    ·rw [g2 h0] at ht; cases ht
    ·omega
   subst h0
   rw [kg, if_neg (by simp [ht])] at hg
   simp only [List.getElem?_cons_zero, Option.some.injEq, Tk.opn.injEq] at hg
   refine ⟨q, idx, x, hs, ?_, ht, hg.1.symm, hg.2.symm⟩
   have := hat.snoc hx hm ht
   rwa [show a + zC (m.Kids.take idx) + 1 = p + 1 from by omega] at this
 ·exfalso
  have h0 := hend (by omega)
  have ha : m.Kids.take idx = m.Kids := List.take_of_length_le hi
  rw [ha] at hpos hts
  have hg : T[p]? = S1[0]? := by
   rw [e2, List.getElem?_append_right (by omega), List.getElem?_append_right (by omega)]
   congr 1
   omega
  rw [hp] at hg
  cases S1 with
  | nil => cases hg
  | cons t S1 =>
   simp only [List.getElem?_cons_zero, Option.some.injEq] at hg
   subst hg
   exact e3
theorem akN (l : List Int) (h : l.length ≤ 10000000) : slices_Clone_int l = some l := by
 unfold slices_Clone_int
 rw [wJ (by simp; omega)]
 rfl
theorem asn (l : List ze) (h : l.length ≤ 1000000000) : ko l = some l := by
 unfold ko
 rw [wJ (by simp; omega)]
 rfl
theorem XM {n : za} {T : List Tk} (h : TD n T) (hw : wD n T ≤ 100000000) {p : Nat} {k : Str} {aa : List ze} (hp : T[p]? = some (.opn k aa)) :
  ∃ q x, ym n (p : Int) = some (up q, true) ∧ At n q x (p + 1) ∧ isT x = false ∧ x.Kind = k ∧ x.zh = aa := by
 obtain ⟨q, i, x, h1, h2, h3, h4, h5⟩ := axW h hw hp
 refine ⟨q ++ [i], x, ?_, h2, h3, h4, h5⟩
 have hq := h2.len
 rw [List.length_append, List.length_singleton] at hq
 have hsm := h.small
 have hpl := (List.getElem?_eq_some_iff.1 hp).1
 have hne : ((p : Int) == -1) = false := by simp
 have e : up q ++ [(i : Int)] = up (q ++ [i]) := by rw [apg]; rfl
 unfold ym
 rw [hne, h1]
 simp only [Bool.false_eq_true, if_false, Option.bind_some, bne_self_eq_false, gt_iff_lt, Int.lt_irrefl, decide_false]
 rw [akN _ (by rw [J4]; omega)]
 simp only [Option.bind_some]
 rw [wJ (by rw [J4]; simp; omega)]
 simp only [Option.bind_some]
 rw [e, KH h2 h3 (by simp; omega)]
 rfl
theorem apC {n : za} {T : List Tk} (h : TD n T) (hw : wD n T ≤ 100000000) {p : Int} (hp : 0 ≤ p) (hno : ∀ k aa, T[p.toNat]? ≠ some (.opn k aa)) : ∃ q, ym n p = some (q, false) := by
 obtain ⟨p, rfl⟩ := Int.eq_ofNat_of_zero_le hp
 rw [Int.toNat_natCast] at hno
 have hl := h.len
 have hwt := h.wt
 have hsm := h.small
 have hne : ((p : Int) == -1) = false := by simp
 unfold ym
 rw [hne]
 simp only [Bool.false_eq_true, if_false]
 by_cases hpl : p ≤ zC n.Kids
 ·obtain ⟨s, hs, hok⟩ := Qe h.nt (by omega) p hpl
  rw [hs]
  simp only [Option.bind_some, bne_self_eq_false, Bool.false_eq_true, if_false]
  by_cases ho : s.Offset > 0
  ·rw [if_pos (by simpa using ho)]
   exact ⟨_, rfl⟩
  ·rw [if_neg (by simpa using ho)]
   obtain ⟨q, m, a, idx, off, rfl, hat, hm, hidx, hpos, hk, hend⟩ := hok
   simp only at ho ⊢
   have h0 : off = 0 := by omega
   have hq := hat.len
   rw [akN _ (by rw [J4]; omega)]
   simp only [Option.bind_some]
   rw [wJ (by rw [J4]; simp; omega)]
   simp only [Option.bind_some]
   rcases ant n (up q ++ [(idx : Int)]) h.nt (by simp [J4]; omega) with ⟨q', x, b, he, hx⟩ | he
   ·exfalso
    have e : up q ++ [(idx : Int)] = up (q ++ [idx]) := by rw [apg]; rfl
    rw [e] at he
    rw [← au5 he] at hx
    obtain ⟨m', b', k1, k2, k3, k4, k5⟩ := hx.axy
    obtain ⟨rfl, rfl⟩ := k1.fn hat
    obtain ⟨P1, S1, e1, e2, e3⟩ := at_end hat
    rw [h.tk] at e2
    have hts := yR (m'.Kids.take idx)
    have hg : T[p]? = (tkN x)[0]? := by
     have hn : tkN x ≠ [] := by rw [kg, if_neg (by simp [k4])]; simp
     have hpos' : 0 < (tkN x).length := List.length_pos_iff.2 hn
     rw [e2, VN k2, List.getElem?_append_right (by omega), List.append_assoc, List.getElem?_append_right (by omega), List.append_assoc, List.getElem?_append_left (by omega)]
     congr 1
     omega
    rw [kg, if_neg (by simp [k4])] at hg
    exact hno _ _ hg
   ·rw [he]
    exact ⟨_, rfl⟩
 ·rw [anH h.nt (by omega) p (by omega)]
  exact ⟨_, rfl⟩
theorem aps (s : zo) : ∀ (l : List ze) (j : Int), (∃ i a, l[i]? = some a ∧ a.Name = s.Name ∧ zX s l j = some (.inl (j + (i : Nat), s))) ∨ ((∀ a ∈ l, a.Name ≠ s.Name) ∧ zX s l j = some (.inr ()))
 | [], j => .inr ⟨by simp, rfl⟩
 | a :: l, j => by
  rw [zX]
  have e : Vp a s = some (a.Name == s.Name) := rfl
  rw [e]
  simp only [Option.bind_some]
  by_cases h : a.Name = s.Name
  ·left
   refine ⟨0, a, rfl, h, ?_⟩
   rw [if_pos (by simp [h])]
   simp
  ·rw [if_neg (by simpa using h)]
   rcases aps s l (j + 1) with ⟨i, b, h1, h2, h3⟩ | ⟨h1, h2⟩
   ·left
    refine ⟨i + 1, b, h1, h2, ?_⟩
    rw [h3]
    simp only [Option.some.injEq, Sum.inl.injEq, Prod.mk.injEq, and_true]
    omega
   ·right
    refine ⟨fun b hb => ?_, h2⟩
    rcases List.mem_cons.1 hb with rfl | hb
    ·exact h
    ·exact h1 b hb
theorem arB {aa : List ze} (h : vW (aa.map (·.Name)) = true) {i j : Nat} {a b : ze} (hi : aa[i]? = some a) (hj : aa[j]? = some b) (e : a.Name = b.Name) : i = j := by
 have hp := ((QX _).1 h).2
 have hi' : (aa.map (·.Name))[i]? = some a.Name := by rw [List.getElem?_map, hi]; rfl
 have hj' : (aa.map (·.Name))[j]? = some b.Name := by rw [List.getElem?_map, hj]; rfl
 obtain ⟨l1, e1⟩ := List.getElem?_eq_some_iff.1 hi'
 obtain ⟨l2, e2⟩ := List.getElem?_eq_some_iff.1 hj'
 rw [List.pairwise_iff_getElem] at hp
 rcases Nat.lt_trichotomy i j with h1 | h1 | h1
 ·have := hp i j l1 l2 h1
  rw [e1, e2, e, BL, yH] at this
  cases this
 ·exact h1
 ·have := hp j i l2 l1 h1
  rw [e1, e2, e, BL, yH] at this
  cases this
def Wt (aa : List ze) (i : Nat) (v : Str) : List ze :=
 match aa[i]? with
 | some a => aa.set i { a with Value := v }
 | none => aa
theorem akG {aa : List ze} {i : Nat} {a : ze} (h : aa[i]? = some a) (v : Str) : Wt aa i v = aa.set i { a with Value := v } := by
 unfold Wt
 rw [h]
theorem XE (aa : List ze) (i j : Nat) (v : Str) : (Wt aa i v)[j]? = if j = i then (aa[i]?).map (fun a => { a with Value := v }) else aa[j]? := by
 unfold Wt
 cases h : aa[i]? with
 | none =>
  by_cases e : j = i
  ·subst e; simp [h]
  ·simp [e]
 | some a =>
  have hl := (List.getElem?_eq_some_iff.1 h).1
  simp only
  rw [List.getElem?_set]
  by_cases e : j = i
  ·subst e; simp [hl]
  ·rw [if_neg (fun h => e h.symm), if_neg e]
theorem aoO (aa : List ze) (i : Nat) (v : Str) : (Wt aa i v).map (·.Name) = aa.map (·.Name) := by
 refine List.ext_getElem? fun j => ?_
 rw [List.getElem?_map, List.getElem?_map, XE]
 by_cases e : j = i
 ·subst e
  rw [if_pos rfl]
  cases aa[j]? <;> rfl
 ·rw [if_neg e]
theorem asB {aa : List ze} (h : aa.all (fun x => isValue x.Value) = true) (i : Nat) {v : Str} (hv : isValue v = true) : (Wt aa i v).all (fun x => isValue x.Value) = true := by
 rw [List.all_eq_true] at h ⊢
 intro x hx
 obtain ⟨j, hj⟩ := List.mem_iff_getElem?.1 hx
 rw [XE] at hj
 by_cases e : j = i
 ·rw [if_pos e] at hj
  cases ha : aa[i]? with
  | none => rw [ha] at hj; cases hj
  | some a => rw [ha] at hj; cases hj; exact hv
 ·rw [if_neg e] at hj
  exact h x (List.mem_of_getElem? hj)
theorem af6 : ∀ (aa : List ze) (i : Nat) (a : ze) (v : Str), aa[i]? = some a → wM (aa.set i { a with Value := v }) + a.Value.length = wM aa + v.length
 | [], i, a, v, h => by simp at h
 | b :: aa, 0, a, v, h => by
  simp only [List.getElem?_cons_zero, Option.some.injEq] at h
  subst h
  simp only [List.set_cons_zero, wM]; omega
 | b :: aa, i + 1, a, v, h => by
  have := af6 aa i a v (by simpa using h)
  simp only [List.set_cons_succ, wM]; omega
theorem afv {v : Str} (h : isValue v = true) : v.length ≤ 40 := by
 unfold isValue at h
 simp only [Bool.and_eq_true, decide_eq_true_eq] at h
 exact h.1
theorem aba {n : za} (h : qg n = true) (ht : isT n = false) : n.zh.all (fun x => isValue x.Value) = true ∧ isName n.Kind = true ∧ n.Text = [] ∧ n.Marks = [] ∧ vW (n.zh.map (·.Name)) = true ∧ yu none n.Kids = true := by
 rw [jA, if_neg (by simp [ht])] at h
 simp only [Bool.and_eq_true, decide_eq_true_eq] at h
 exact ⟨h.1.1.1.1.1, h.1.1.1.1.2, h.1.1.1.2, h.1.1.2, h.1.2, h.2⟩
theorem ajL {n : za} (ht : isT n = false) (h : n.zh.all (fun x => isValue x.Value) = true ∧ isName n.Kind = true ∧ n.Text = [] ∧ n.Marks = [] ∧ vW (n.zh.map (·.Name)) = true ∧ yu none n.Kids = true) : qg n = true := by
 rw [jA, if_neg (by simp [ht])]
 obtain ⟨h1, h2, h3, h4, h5, h6⟩ := h
 simp [h1, h2, h3, h4, h5, h6]
theorem auT {n : za} {q m a} (h : At n q m a) : q ≠ [] → ∃ P S, P.length + 1 = a ∧ tkL n.Kids = P ++ (Tk.opn m.Kind m.zh :: S) ∧ ∀ x : za, isT x = false → x.Kind = m.Kind → x.Kids = m.Kids → tkL (QF q n x).Kids = P ++ (Tk.opn x.Kind x.zh :: S) ∧ (QF q n x).Kind = n.Kind ∧ (QF q n x).zh = n.zh := by
 induction h with
 | nil n => intro h; exact absurd rfl h
 | cons n i k q m a hi hn hk h ih =>
  intro _
  have hl := (List.getElem?_eq_some_iff.1 hi).1
  by_cases hq : q = []
  ·subst hq
   cases h with
   | nil =>
    refine ⟨tkL (n.Kids.take i), tkL k.Kids ++ (Tk.cls :: tkL (n.Kids.drop (i + 1))), by rw [yR], ?_, fun x hx h1 h2 => ⟨?_, ?_⟩⟩
    ·rw [VN hi, kg, if_neg (by simp [hk])]
     simp only [List.append_assoc, List.cons_append, List.nil_append]
    ·rw [xm hi]
     simp only [QF]
     rw [List.set_eq_take_append_cons_drop, if_pos hl, Ze, tkL, kg, if_neg (by simp [hx]), h2]
     simp only [List.append_assoc, List.cons_append, List.nil_append]
    ·rw [xm hi]; exact ⟨rfl, rfl⟩
  ·obtain ⟨P, S, h1, h2, h3⟩ := ih hq
   refine ⟨tkL (n.Kids.take i) ++ (Tk.opn k.Kind k.zh :: P), S ++ (Tk.cls :: tkL (n.Kids.drop (i + 1))), ?_, ?_, fun x hx e1 e2 => ⟨?_, ?_⟩⟩
   ·simp only [List.length_append, List.length_cons, yR]; omega
   ·rw [VN hi, kg, if_neg (by simp [hk]), h2]
    simp only [List.append_assoc, List.cons_append, List.nil_append]
   ·obtain ⟨g1, g2, g3⟩ := h3 x hx e1 e2
    have hnt := Xu q k x hk hx
    rw [xm hi]
    simp only
    rw [List.set_eq_take_append_cons_drop, if_pos hl, Ze, tkL, kg, if_neg (by simp [hnt]), g1, g2, g3]
    simp only [List.append_assoc, List.cons_append, List.nil_append]
   ·rw [xm hi]; exact ⟨rfl, rfl⟩
theorem set_mid {α : Type} (P : List α) (x y : α) (S : List α) : (P ++ x :: S).set P.length y = P ++ y :: S := by
 rw [List.set_append_right _ _ (Nat.le_refl _)]
 simp
theorem ag6 (k : Str) (a b : List ze) : ∀ (P S : List Tk) (d : Nat), dpT d (P ++ Tk.opn k a :: S) = dpT d (P ++ Tk.opn k b :: S)
 | [], S, d => by simp [dpT]
 | .sgn c m :: P, S, d => by rw [List.cons_append, List.cons_append, dpT, dpT, ag6 k a b P S]
 | .opn c m :: P, S, d => by rw [List.cons_append, List.cons_append, dpT, dpT, ag6 k a b P S]
 | .cls :: P, S, d => by rw [List.cons_append, List.cons_append, dpT, dpT, ag6 k a b P S]
theorem axc (k : Str) (a b : List ze) (P S : List Tk) : tw (P ++ Tk.opn k b :: S) + wM a = tw (P ++ Tk.opn k a :: S) + wM b := by
 rw [JQ, JQ, tw, tw, ajm, ajm]; omega
theorem awf {n : za} {T : List Tk} (h : TD n T) (hw : wD n T ≤ 100000000) {p : Nat} {k : Str} {aa : List ze} (hp : T[p]? = some (.opn k aa)) {i : Nat} {a : ze} (hi : aa[i]? = some a) {v : Str} (hv : isValue v = true) (t : Int) (l : List za) (K : Int) :
  ∃ N, jS n ⟨K, (p : Int), t, l, a.Name, v⟩ = some (N, a.Value, 0) ∧ TD N (T.set p (.opn k (Wt aa i v))) ∧ N.Kind = n.Kind ∧ N.zh = n.zh ∧ wD N (T.set p (.opn k (Wt aa i v))) + a.Value.length = wD n T + v.length := by
 obtain ⟨q, x, h1, h2, h3, rfl, rfl⟩ := XM h hw hp
 have hwt := h.wt
 have hx := h2.form h.form
 have hvl := afv hv
 have hql : q.length ≤ p + 1 := h2.len
 have hsm := h.small
 have hpl := (List.getElem?_eq_some_iff.1 hp).1
 obtain ⟨f1, f2, f3, f4, f5, f6⟩ := aba hx h3
 have hal : x.zh.length ≤ 10000000000 := by have := h2.wt; have := qi x; have := xx x.zh; omega
 have hil := (List.getElem?_eq_some_iff.1 hi).1
 have hq0 : q ≠ [] := by
  rintro rfl
  cases h2
 have hxw : nwt x ≤ 2 + wD n T := by have := h2.wt; omega
 have haw : wM x.zh ≤ 2 + wD n T := by have := qi x; omega
 have hset := akG hi v
 obtain ⟨P, S, e1, e2, e3⟩ := auT h2 hq0
 have hx' : isT ({ x with zh := Wt x.zh i v } : za) = false := h3
 have fx' : qg ({ x with zh := Wt x.zh i v } : za) = true := ajL hx' ⟨asB f1 i hv, f2, f3, f4, by rw [aoO]; exact f5, f6⟩
 obtain ⟨g1, g2, g3⟩ := e3 _ hx' rfl rfl
 rw [h.tk] at e2
 have hPl : P.length = p := by omega
 have hTs : T.set p (.opn x.Kind (Wt x.zh i v)) = P ++ Tk.opn x.Kind (Wt x.zh i v) :: S := by rw [e2, ← hPl, set_mid]
 refine ⟨QF q n { x with zh := Wt x.zh i v }, ?_, ?_, g2, g3, ?_⟩
 ·have hidx : qJ x.zh ⟨K, (p : Int), t, l, a.Name, v⟩ = some ((i : Int), ⟨K, (p : Int), t, l, a.Name, v⟩) := by
   unfold qJ
   rw [qB (by omega)]
   rcases aps ⟨K, (p : Int), t, l, a.Name, v⟩ x.zh 0 with ⟨j, b, k1, k2, k3⟩ | ⟨k1, _⟩
   ·rw [k3]
    have : j = i := arB f5 k1 hi k2
    subst this
    simp
   ·exact absurd rfl (k1 a (List.mem_of_getElem? hi))
  unfold jS
  simp only
  rw [h1]
  simp only [Option.bind_some, Bool.not_true, Bool.false_eq_true, if_false]
  rw [KH h2 h3 (by omega)]
  simp only [Option.bind_some]
  rw [hidx]
  simp only [Option.bind_some]
  rw [if_neg (by simp), xM hi, asn _ (by have := xx x.zh; omega)]
  simp only [Option.bind_some]
  rw [xM hi]
  simp only [Option.bind_some]
  rw [apz hil, ← hset]
  simp only [Option.bind_some]
  rw [aqn h2 h.nt (by omega)]
  rfl
 ·rw [hTs]
  refine TD.of (aoa hx' fx' h2 h.form) (Xu q n _ h.nt hx') g1 ?_ ?_
  ·rw [ag6 x.Kind _ x.zh, ← e2]
   exact h.deep
  ·rw [e2] at hsm
   simpa using hsm
 ·have := axc x.Kind x.zh (Wt x.zh i v) P S
  have h5 := af6 _ _ _ v hi
  rw [← hset] at h5
  rw [hTs]
  unfold wD
  rw [g2, g3]
  rw [← e2] at this
  omega
theorem axm {n : za} {T : List Tk} (h : TD n T) (hw : wD n T ≤ 100000000) (s : zo) (hs : 0 ≤ s.From) (hno : ∀ k aa, T[s.From.toNat]? = some (.opn k aa) → ∀ a ∈ aa, a.Name ≠ s.Name) : ∃ e, e ≠ 0 ∧ jS n s = some (afA, [], e) := by
 by_cases ho : ∃ k aa, T[s.From.toNat]? = some (.opn k aa)
 ·obtain ⟨k, aa, ho⟩ := ho
  have e : s.From = ((s.From.toNat : Nat) : Int) := by omega
  obtain ⟨q, x, h1, h2, h3, rfl, rfl⟩ := XM h hw ho
  have hno := hno _ _ ho
  have hwt := h.wt
  have hql : q.length ≤ s.From.toNat + 1 := h2.len
  have hsm := h.small
  have hpl := (List.getElem?_eq_some_iff.1 ho).1
  have hal : x.zh.length ≤ 10000000000 := by have := h2.wt; have := qi x; have := xx x.zh; omega
  refine ⟨9, by decide, ?_⟩
  unfold jS
  rw [e, h1]
  simp only [Option.bind_some, Bool.not_true, Bool.false_eq_true, if_false]
  rw [KH h2 h3 (by omega)]
  simp only [Option.bind_some]
  unfold qJ
  rw [qB (by omega)]
  rcases aps s x.zh 0 with ⟨j, b, k1, k2, k3⟩ | ⟨_, k1⟩
  ·exact absurd k2 (hno b (List.mem_of_getElem? k1))
  ·rw [k1]
   rfl
 ·obtain ⟨q, hq⟩ := apC h hw hs fun k aa hh => ho ⟨k, aa, hh⟩
  refine ⟨3, by decide, ?_⟩
  unfold jS
  rw [hq]
  rfl
theorem auE {n : za} {T : List Tk} (h : TD n T) (s : zo) (hs : s.From = -1) (ha : n.zh = []) : jS n s = some (afA, [], 9) := by
 unfold jS ym
 rw [hs]
 simp only [beq_self_eq_true, if_true, Option.bind_some, Bool.not_true, Bool.false_eq_true, if_false]
 have := KH (At.nil n) h.nt (by simp)
 rw [auV] at this
 rw [this]
 simp only [Option.bind_some]
 rw [ha]
 unfold qJ
 rw [qB (by simp)]
 rfl
theorem avs {n : za} (h : isT n = false) : (n.Kind == ([116, 101, 120, 116] : Str)) = false := h
theorem WO {n : za} {T : List Tk} (h : TD n T) (hw : wD n T ≤ 100000000) (s : zo) (hs : yx s = some true) : qH n s = if (s.Kind == (114 : Int)) = true then (Zl n s.From s.To s.kF).bind fun (r_5, r_6) => some (r_5, r_6) else if (s.Kind == (97 : Int)) = true then (jS n s).bind fun (r_7, r_8, r_9) => some (r_7, r_9) else (Zb n s).bind fun (VZ, YH, VU) => some (VZ, VU) := by
 have hwt := h.wt
 unfold qH
 rw [hs]
 simp only [Option.bind_some, Bool.not_true, Bool.false_eq_true, if_false]
 rw [avs h.nt]
 simp only [Bool.false_eq_true, if_false]
 rw [right_eq n (by omega), h.ok]
 simp only [Option.bind_some, beq_self_eq_true, Bool.not_true, Bool.false_eq_true, if_false]
theorem ajU {l : List za} (hl : vD l) (hw : zN l ≤ 268435400) {f t : Nat} (hft : f ≤ t) (ht : t ≤ 1048576) : yx ⟨114, (f : Int), (t : Int), l, [], []⟩ = some true := by
 rw [JJ _ hw (by simp) (by simp)]
 have hf : qg (xN l) = true := by
  have hT : isT (xN l) = false := rfl
  exact ajL hT ⟨rfl, show isName [120] = true by decide +kernel, rfl, rfl, rfl, apj hl⟩
 unfold srB aen
 simp only [if_true]
 rw [hf]
 simp
 omega
theorem acJ {nm v : Str} (hn : isName nm = true) (hv : isValue v = true) {p : Int} (h1 : -1 ≤ p) (h2 : p ≤ 1048576) (hl : nm.length ≤ 1048576) : yx ⟨97, p, 0, [], nm, v⟩ = some true := by
 have := afv hv
 rw [JJ _ (by simp [zN]) hl (by simp only; omega)]
 unfold srB
 simp only
 rw [if_neg (by decide)]
 simp [hn, hv]
 omega
theorem aoQ {k : Int} (hk : k = 109 ∨ k = 117) {x : Str} (hx : isName x = true) (hl : x.length ≤ 20) {f t : Nat} (hft : f ≤ t) (ht : t ≤ 1048576) : yx ⟨k, (f : Int), (t : Int), [], x, []⟩ = some true := by
 rw [JJ _ (by simp [zN]) (by simp only; omega) (by simp)]
 unfold srB aen
 simp only
 rw [if_neg (by omega), if_neg (by omega), if_pos hk, hx]
 simp
 omega
theorem ahn {n : za} {T : List Tk} (h : TD n T) (hw : wD n T ≤ 5000000) {k : Int} (hk : k = 109 ∨ k = 117) {x : Str} (hx : isName x = true) (hxl : x.length ≤ 20) {a b : Nat} (hab : a ≤ b) (hb : b ≤ T.length) :
  ∃ N, qH n ⟨k, (a : Int), (b : Int), [], x, []⟩ = some (N, 0) ∧ Zb n ⟨k, (a : Int), (b : Int), [], x, []⟩ = some (N, QI k x a b 0 T [], 0) ∧ TD N (kz k x a b 0 T) ∧ N.Kind = n.Kind ∧ N.zh = n.zh := by
 have hsm := h.small
 obtain ⟨N, h1, h2, h3, h4⟩ := arn h k hx hxl a b (by omega) hb hw
 refine ⟨N, ?_, h1, h2, h3, h4⟩
 rw [WO h (by omega) _ (aoQ hk hx hxl hab (by omega))]
 simp only
 rw [if_neg (by simp; omega), if_neg (by simp; omega), h1]
 rfl
theorem apu {n : za} {T : List Tk} (h : TD n T) (hw : wD n T ≤ 100000000) {p : Nat} {k : Str} {aa : List ze} (hp : T[p]? = some (.opn k aa)) {i : Nat} {a : ze} (hi : aa[i]? = some a) {v : Str} (hv : isValue v = true) :
  ∃ N, qH n ⟨97, (p : Int), 0, [], a.Name, v⟩ = some (N, 0) ∧ jS n ⟨97, (p : Int), 0, [], a.Name, v⟩ = some (N, a.Value, 0) ∧ TD N (T.set p (.opn k (Wt aa i v))) ∧ N.Kind = n.Kind ∧ N.zh = n.zh ∧ wD N (T.set p (.opn k (Wt aa i v))) + a.Value.length = wD n T + v.length := by
 obtain ⟨N, h1, h2, h3, h4, h5⟩ := awf h hw hp hi hv 0 [] 97
 refine ⟨N, ?_, h1, h2, h3, h4, h5⟩
 have hsm := h.small
 have hpl := (List.getElem?_eq_some_iff.1 hp).1
 obtain ⟨q, x, _, hx, ht, hk', rfl⟩ := XM h hw hp
 obtain ⟨f1, f2, f3, f4, f5, f6⟩ := aba (hx.form h.form) ht
 have hnm : isName a.Name = true := ((QX _).1 f5).1 a.Name (by
  have := List.mem_of_getElem? hi
  exact List.mem_map.2 ⟨a, this, rfl⟩)
 have hxw : nwt x ≤ 2 + wD n T := by have := hx.wt; have := h.wt; omega
 have hal : a.Name.length ≤ 20 := YN hnm
 rw [WO h hw _ (acJ hnm hv (by omega) (by omega) (by omega))]
 simp only
 rw [if_neg (by decide), if_pos (by decide), h1]
 rfl
end Go.Proofs.YtclohbgnaopjfaaDoor
namespace Go.Proofs.YtclohbgnaopjfaaDoor
set_option linter.unusedSimpArgs false
set_option linter.unusedVariables false
open Go
end Go.Proofs.YtclohbgnaopjfaaDoor
namespace Go.Proofs.YtclohbgnaopjfaaDoor
set_option linter.unusedSimpArgs false
set_option linter.unusedVariables false
open Go
theorem akp : ∀ l : List Str, l.length ≤ wQ l
 | [] => by simp
 | s :: l => by have := akp l; simp only [wQ, List.length_cons]; omega
theorem ah0 : ∀ l : List ze, l.length ≤ wM l
 | [] => by simp
 | s :: l => by have := ah0 l; simp only [wM, List.length_cons]; omega
theorem anf : ∀ (suf pre : List Str) (i : Int), i = (pre.length : Int) → qo (pre ++ suf) suf i = some (.inr ())
 | [], pre, i, hi => rfl
 | y :: suf, pre, i, hi => by
  rw [qo, hi, Qf]
  have := anf suf (pre ++ [y]) (pre.length + 1) (by simp)
  simp only [List.append_assoc, List.cons_append, List.nil_append] at this
  simp [this]
theorem eqStr (l : List Str) (h : l.length ≤ 9223372036854775807) : slices_Equal_string l l = some true := by
 unfold slices_Equal_string
 have := anf l [] 0 rfl
 simp only [List.nil_append] at this
 rw [qB h, this]
 simp
theorem akd : ∀ (suf pre : List ze) (i : Int), i = (pre.length : Int) → qa (pre ++ suf) suf i = some (.inr ())
 | [], pre, i, hi => rfl
 | y :: suf, pre, i, hi => by
  rw [qa, hi, Qf]
  have := akd suf (pre ++ [y]) (pre.length + 1) (by simp)
  simp only [List.append_assoc, List.cons_append, List.nil_append] at this
  simp [this]
theorem axB (l : List ze) (h : l.length ≤ 9223372036854775807) : wZ l l = some true := by
 unfold wZ
 have := akd l [] 0 rfl
 simp only [List.nil_append] at this
 rw [qB h, this]
 simp
theorem aj6 (f : za → za → Option Bool) : ∀ (suf pre : List za) (i : Int), i = (pre.length : Int) → (∀ k ∈ suf, f k k = some true) → zL (pre ++ suf) f suf i = some (.inr ())
 | [], pre, i, hi, _ => rfl
 | y :: suf, pre, i, hi, h => by
  rw [zL, hi, Qf]
  have := aj6 f suf (pre ++ [y]) (pre.length + 1) (by simp) fun k hk => h k (by simp [hk])
  simp only [List.append_assoc, List.cons_append, List.nil_append] at this
  simp [this, h y (by simp)]
theorem axS (n : za) : nwt n ≤ 1099511627776 → ∀ kr, 2 * yS n ≤ kr → vF kr n n = some true := by
 induction n using za.ind with
 | h n ih =>
  intro hw kr hk
  have hd := xy n
  obtain ⟨kr, rfl⟩ : ∃ j, kr = j + 1 + 1 := ⟨kr - 2, by omega⟩
  have hwt := qi n
  have hl := qw n.Kids
  have hs := akp n.Marks
  have ha := ah0 n.zh
  have hf := aj6 (vF kr) n.Kids [] 0 rfl fun k hkk => ih k hkk (by have := jI hkk; omega) kr (by have := xR hkk; omega)
  simp only [List.nil_append] at hf
  rw [vF]
  simp only [beq_self_eq_true, if_true]
  rw [eqStr _ (by omega), axB _ (by omega)]
  simp only [Option.bind_some, if_true]
  rw [zY]
  simp only [bne_self_eq_false, Bool.false_eq_true, if_false]
  rw [qB (by omega), hf]
  rfl
theorem ahA (n : za) (h : nwt n ≤ 1099511627776) : jQ n n = some true := by
 unfold jQ
 exact yV (2 * yS n) fun k hk => axS n h k hk
end Go.Proofs.YtclohbgnaopjfaaDoor
